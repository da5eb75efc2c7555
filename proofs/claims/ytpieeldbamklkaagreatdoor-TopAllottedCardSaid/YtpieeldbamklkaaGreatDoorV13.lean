/- Texts put together: Kk Kl Bp Bf Bj Bn Km Kn Bo Ko. -/
import Derived.Test.YtpieeldbamklkaaGreatDoorV12
set_option maxHeartbeats 16000000
set_option maxRecDepth 100000
open Go.Proofs.Tryz
namespace Go.Proofs.YtpieeldbamklkaaGreatDoor
open Go.RowKit Go.Shelf Num
inductive Od where
 | mk (s:Nat)
 | out
 | con (s:Nat) (v:Value)
 | mv (s:Nat)
 | ins
 | xins (m:Nat)
 | oins (k:Nat)
 | sl (s:Nat) (ms:List Nat)
 | lim (s:Nat)
 | kp (s k:Nat)
def ZX (a:Act) (s:Nat):Value:=a.tmps.getD s undef
theorem Wt {a:Act} {d s:Nat} {v:Value} (hd:d<a.tmps.size):ZX (a.put (some d) v) s=if s=d then v else ZX a s:=by
 unfold ZX;simp only[Act.put,Array.getD_eq_getD_getElem?,Array.getElem?_setIfInBounds]
 by_cases h:d=s
 ·subst h;simp[hd]
 ·rw[if_neg h,if_neg (Ne.symm h)]
def slC (ms:List Nat):Array Value:=(ms.map (fun (m:Nat)=>Zi (m:Int))).toArray
def xS:List Nat:=[29,31,75,77]
def RD (bt:KC) (X:Nat->Prop) (B:Nat) (a:Act) (w:World):Od->Prop
 | .mk s=>∃b,ZX a s=.map (some b)/\B<=b/\Vn w b/\(X b↔s∈xS)
 | .con s v=>ZX a s=v
 | .mv s=>∃b,ZX a s=.map (some b)/\Vn w b/\(X b↔s∈xS)/\(s∈xS->ZU w b 7)
 | .sl s ms=>∃b,ZX a s=.slice (some ⟨b,0,none⟩) ms.length ms.length/\Blk w b (slC ms)
 | .lim s=>YA w (ZX a s)
 | .kp s k=>KP bt X k w (ZX a s)
 | _=>True
def Qe:Od->Option Nat
 | .mk s|.con s _|.mv s|.sl s _|.lim s|.kp s _=>some s
 | .out=>some 15
 | _=>none
theorem RD.mono {bt:KC} {X X':Nat->Prop} {B:Nat} {a:Act} {w:World} {d:Od} (h:RD bt X B a w d) (hX:∀b,X b->X' b) (hX2:∀b,X' b->b<w.heap.size->X b):RD bt X' B a w d:=by
 have hn:∀{b s:Nat},Vn w b->(X b↔s∈xS)->(X' b↔s∈xS):=fun h1 h2=>by
  obtain⟨es,c,h1,-⟩:=h1;have hlt:=(Ag.1 h1).1;exact⟨fun h=>h2.1 (hX2 _ h hlt),fun h=>hX _ (h2.2 h)⟩
 cases d with
 | mk s=>
  obtain⟨b,h1,h2,h3,h4⟩:=h;exact⟨b,h1,h2,h3,hn h3 h4⟩
 | mv s=>
  obtain⟨b,h1,h3,h4,h5⟩:=h;exact⟨b,h1,h3,hn h3 h4,h5⟩
 | kp s k=>exact⟨h.1,h.2.1,fun e=>(h.2.2 e).mono hX⟩
 | con s v=>exact h
 | sl s ms=>exact h
 | lim s=>exact h
 | out=>trivial
 | ins=>trivial
 | xins m=>trivial
 | oins k=>trivial
theorem RD.below {bt:KC} {X:Nat->Prop} {B:Nat} {a a':Act} {w w':World} {d:Od} (h:RD bt X B a w d) (hs:∀s,Qe d=some s->ZX a' s=ZX a s) (hb:Below w.heap.size w w'):RD bt X B a' w' d:=by
 cases d with
 | mk s=>
  obtain⟨b,h1,h2,h3,h4⟩:=h;exact⟨b,(hs s rfl).trans h1,h2,h3.below hb,h4⟩
 | con s v=>exact (hs s rfl).trans h
 | mv s=>
  obtain⟨b,h1,h3,h4,h5⟩:=h;exact⟨b,(hs s rfl).trans h1,h3.below hb,h4,fun e=>(h5 e).below hb⟩
 | sl s ms=>
  obtain⟨b,h1,h3⟩:=h;exact⟨b,(hs s rfl).trans h1,h3.below hb⟩
 | lim s=>
  show YA w' (ZX a' s);rw[hs s rfl];exact YA.gr h (GrM.of_below hb)
 | kp s k=>
  show KP bt X k w' (ZX a' s);rw[hs s rfl];exact⟨KPg.below h.1 hb,h.2⟩
 | out=>trivial
 | ins=>trivial
 | xins m=>trivial
 | oins k=>trivial
theorem RD.num {bt:KC} {X:Nat->Prop} {B:Nat} {a:Act} {w:World} {d:Od} {b:Nat} {es es':Array MapEntry} {c c':Nat} (h:RD bt X B a w d) (hb:w.heap[b]?=some (.map es c)) (hk:∀x∈es.toList,∃y∈es'.toList,y.key=x.key) (hn:Vn (ChangeMaps.setBlock w b (.map es' c')) b):RD bt X B a (ChangeMaps.setBlock w b (.map es' c')) d:=by
 have hG:∀b',Vn w b'->Vn (ChangeMaps.setBlock w b (.map es' c')) b':=fun b' h'=>by
  by_cases hbb:b'=b
  ·rw[hbb];exact hn
  ·exact h'.other hb hbb
 cases d with
 | mk s=>
  obtain⟨b',h1,h2,h3,h4⟩:=h;exact⟨b',h1,h2,hG _ h3,h4⟩
 | con s v=>exact h
 | mv s=>
  obtain⟨b',h1,h3,h4,h5⟩:=h;exact⟨b',h1,hG _ h3,h4,fun e=>(h5 e).upd hb hk⟩
 | sl s ms=>
  obtain⟨b',h1,h3⟩:=h;exact⟨b',h1,h3.gr (GrM.upd hb _)⟩
 | lim s=>exact YA.gr h (GrM.upd hb _)
 | kp s k=>exact⟨KPg.num h.1 hb hk hn,h.2⟩
 | out=>trivial
 | ins=>trivial
 | xins m=>trivial
 | oins k=>trivial
theorem RD.outs {bt:KC} {X:Nat->Prop} {B:Nat} {a:Act} {w:World} {d:Od} {b:Nat} {es':Array MapEntry} {c':Nat} (h:RD bt X B a w d) (ho:TB bt X w b) (hn:∀s,(d=.mk s∨d=.mv s)->ZX a s≠.map (some b)):RD bt X B a (ChangeMaps.setBlock w b (.map es' c')) d:=by
 have ho':=ho;obtain⟨es,c,hb,-,-⟩:=ho';cases d with
 | mk s=>
  obtain⟨b',h1,h2,h3,h4⟩:=h;exact⟨b',h1,h2,h3.other hb (fun e=>hn s (.inl rfl) (by rw[h1,e])),h4⟩
 | con s v=>exact h
 | mv s=>
  obtain⟨b',h1,h3,h4,h5⟩:=h;have hne:b'≠b:=fun e=>hn s (.inr rfl) (by rw[h1,e])
  exact⟨b',h1,h3.other hb hne,h4,fun e=>(h5 e).other hne⟩
 | sl s ms=>
  obtain⟨b',h1,h3⟩:=h;exact⟨b',h1,h3.gr (GrM.upd hb _)⟩
 | lim s=>exact YA.gr h (GrM.upd hb _)
 | kp s k=>exact⟨KPg.out h.1 ho,h.2⟩
 | out=>trivial
 | ins=>trivial
 | xins m=>trivial
 | oins k=>trivial
structure IX (X:Nat->Prop) (ds:Nat->Od) (bt:KC) (a0:Act) (W0:World) (listed:Array Bool) (a:Act) (w:World):Prop where
 below:Below W0.heap.size W0 w
 size:a.tmps.size=a0.tmps.size
 dfr:a.defers=a0.defers
 base:∀s,s<7->ZX a s=ZX a0 s
 x:∀b,X b->Ud bt.v w b
 r:∀j,listed.getD j false=true->RD bt X W0.heap.size a w (ds j)
 o1:listed.getD 0 false=true->∃b,ZX a 15=.map (some b)/\W0.heap.size<=b/\TB bt X w b/\(∀j k,listed.getD j false=true->ds j=.oins k->ZU w b k)/\(∀j s,listed.getD j false=true->(ds j=.mk s∨ds j=.mv s)->ZX a s≠.map (some b))/\¬X b
 o0:listed.getD 0 false=false->∀j k,listed.getD j false=true->ds j≠.oins k
 k7:∀j m,listed.getD j false=true->ds j=.xins m->(∃jm,listed.getD jm false=true/\ds jm=.mk m)/\∀b,ZX a m=.map (some b)->ZU w b 7
def II (ds:Nat->Od) (bt:KC) (a0:Act) (W0:World) (listed:Array Bool) (a:Act) (w:World):Prop:=∃X,IX X ds bt a0 W0 listed a w
theorem ZO {listed:Array Bool} {i j:Nat} (h:(listed.setIfInBounds i true).getD j false=true):j=i∨listed.getD j false=true:=by
 by_cases hij:i=j
 ·exact .inl hij.symm
 ·exact .inr (by rwa [getD_set_ne false hij] at h)
section
variable {X:Nat->Prop} {ds:Nat->Od} {bt:KC} {a0:Act} {W0:World} {listed:Array Bool} {a:Act} {w w':World} {i:Nat}
def UL (ds:Nat->Od):Prop:=∀i j s,Qe (ds i)=some s->Qe (ds j)=some s->i=j
theorem IX.val {X':Nat->Prop} (h:IX X ds bt a0 W0 listed a w) (hu:UL ds) (hi:listed.getD i true=false) {d:Nat} {v:Value} (hd:Qe (ds i)=some d) (hd7:7<=d) (hd2:d<a0.tmps.size) (h0:i≠0) (h15:d≠15) (ho:(∀k,ds i≠.oins k)/\∀m,ds i≠.xins m) (hb:Below w.heap.size w w') (hX:∀b,X b->X' b) (hX2:∀b,X' b->b<w.heap.size->X b) (hx:∀b,X' b->Ud bt.v w' b) (hr:RD bt X' W0.heap.size (a.put (some d) v) w' (ds i))
  (hm:∀s,(ds i=.mk s∨ds i=.mv s)->∀b,ZX a 15=.map (some b)->b<w.heap.size->TB bt X w b->W0.heap.size<=b->listed.getD 0 false=true->v≠.map (some b)):IX X' ds bt a0 W0 (listed.setIfInBounds i true) (a.put (some d) v) w':=by
 have hsl:∀s,s≠d->ZX (a.put (some d) v) s=ZX a s:=fun s hs=>by rw[Wt (by rw[h.size];exact hd2),if_neg hs]
 have hne:∀j,listed.getD j false=true->j≠i:=fun j hj e=>by
  subst e;rw[Array.getD_eq_getD_getElem?] at hi hj;cases hx:listed[j]? with
  | none=>rw[hx] at hj;cases hj
  | some x=>rw[hx] at hi hj;simp at hi hj;rw[hi] at hj;cases hj
 have hslot:∀j,listed.getD j false=true->∀s,Qe (ds j)=some s->ZX (a.put (some d) v) s=ZX a s:=fun j hj s hs=>hsl s (fun e=>hne j hj (hu j i d (by rw[hs,e]) hd))
 refine⟨bto h.below hb,by show (a.tmps.setIfInBounds d v).size=_;rw[Array.size_setIfInBounds];exact h.size,h.dfr,fun s hs=>(hsl s (by omega)).trans (h.base s hs),hx,fun j hj=>?_,fun h1=>?_,fun h1 j k hj e=>?_,fun j m hj e=>?_⟩
 ·rcases ZO hj with rfl|hj
  ·exact hr
  ·exact ((h.r j hj).mono hX hX2).below (hslot j hj) hb
 ·rw[getD_set_ne false h0] at h1;obtain⟨b,h2,h3,h4,h5,h6,h7⟩:=h.o1 h1;have hlt:b<w.heap.size:=by obtain⟨es,c,g,-,-⟩:=h4;exact (Ag.1 g).1
  refine⟨b,(hsl 15 (Ne.symm h15)).trans h2,h3,(h4.mono hX).below hb,fun j k hj e=>?_,fun j s hj e=>?_,fun e=>h7 (hX2 b e hlt)⟩
  ·rcases ZO hj with rfl|hj
   ·exact absurd e (ho.1 k)
   ·exact (h5 j k hj e).below hb
  ·rcases ZO hj with rfl|hj
   ·have hsd:s=d:=by
     rcases e with e|e<;>(rw[e] at hd;exact Option.some.inj hd)
    subst hsd;rw[Wt (by rw[h.size];exact hd2),if_pos rfl]
    exact hm s e b h2 hlt h4 h3 h1
   ·rw[hslot j hj s (by rcases e with e|e<;>(rw[e];rfl))]
    exact h6 j s hj e
 ·rw[getD_set_ne false h0] at h1;rcases ZO hj with rfl|hj
  ·exact ho.1 k e
  ·exact h.o0 h1 j k hj e
 ·rcases ZO hj with rfl|hj
  ·exact absurd e (ho.2 m)
  ·obtain⟨⟨jm,h1,h2⟩,h3⟩:=h.k7 j m hj e;exact⟨⟨jm,getD_set_true h1,h2⟩,fun b hb'=>(h3 b ((hslot jm h1 m (by rw[h2];rfl)).symm.trans hb')).below hb⟩
end
section
variable {P:Program} {o:Oper} {a:Act} {w w':World} {K:Act->World->Prop} {Q:Exit->Act->World->Prop}
theorem ZK {v:Value} (hr:(execOp a.eval o).run P w=.ok (.value v) w') (hK:K (a.put o.dst v) w'):o.wp P a w K Q:=by
 unfold Oper.wp;rw[hr];exact hK
theorem UA (hr:(execOp a.eval o).run P w=.ok .skip w') (hK:K (a.put o.dst undef) w'):o.wp P a w K Q:=by
 unfold Oper.wp;rw[hr];exact hK
theorem YI {f:FuncId} {args:Array Value} (hr:(execOp a.eval o).run P w=.ok (.enter f args) w) (hc:Calls P f args w fun e w'=>∃v,e=.returned v/\K (a.put o.dst v) w'):o.wp P a w K Q:=by
 unfold Oper.wp;rw[hr];exact hc.mono fun e w' ⟨v,he,hk⟩=>by subst he;exact hk
end
theorem Hs {w:World} {b n:Nat} {l:List (Nat×Value)} (h:w.heap[b]?=some (.map (Xc l) n)) (hn:n=l.length) (hd:(l.map (·.1)).Nodup) (hk:∀x∈l,x.1<13/\YA w x.2):Vn w b:=by
 subst hn;refine⟨_,_,h,Se hd,fun e he=>?_⟩
 obtain⟨x,hx,h1,-⟩:=XA he;refine⟨⟨x.1,(hk x hx).1,h1⟩,?_⟩
 have:∀(l:List (Nat×Value)) (n:Nat),e∈YY n l->∃x∈l,e.val=x.2:=by
  intro l
  induction l with
  | nil=>intro n h;cases h
  | cons y l ih=>
   intro n h;rcases List.mem_cons.1 h with rfl|h
   ·exact⟨y,List.mem_cons_self,rfl⟩
   ·obtain⟨x,h1,h2⟩:=ih _ h;exact⟨x,List.mem_cons_of_mem _ h1,h2⟩
 obtain⟨y,hy,h2⟩:=this l 0 he;rw[h2];exact (hk y hy).2
theorem Mb {w:World} {b n i:Nat} {l:List (Nat×Value)} (h:w.heap[b]?=some (.map (Xc l) n)) (hi:i∈l.map (·.1)):ZU w b i:=by
 obtain⟨x,hx,rfl⟩:=List.mem_map.1 hi;obtain⟨e,he,hk⟩:=VT (n:=0) hx;exact⟨_,_,h,e,he,hk⟩
structure KB (bt:KC) (bo bp:Nat) (vl:Value) (a0:Act) (W0:World):Prop where
 size:a0.tmps.size=105
 s1:ZX a0 1=.pointer (some ⟨bp,0,none⟩)
 s2:ZX a0 2=vl
 s3:ZX a0 3=.pointer (some ⟨bo,0,none⟩)
 s4:ZX a0 4=.func (.func 231) #[] #[.pointer (some ⟨bo,0,none⟩),.pointer (some ⟨bp,0,none⟩)]
 s5:ZX a0 5=.func (.func 232) #[] #[]
 s6:ZX a0 6=.map (some bt.b)
 hbo:Blk W0 bo #[.func (.func 230) #[] #[]]
 hbp:Blk W0 bp #[bt.v]
 hbt:W0.heap[bt.b]?=some (.map (Xc [(4,bt.v),(5,vl),(6,vl)]) 3)
 lp:Uz W0 bo bt.v true false
 ll:Uz W0 bo vl false false
theorem WN {word word2:List UInt8} {cls cls2:Int} {H H2:List Bool} {M M2:Option Nat} {code code2:Bool} (h1:H.length=13) (h2:H2.length=13) (e:(Value.agg (ZE word cls H M code))=.agg (ZE word2 cls2 H2 M2 code2)):word=word2/\cls=cls2/\H=H2/\M=M2:=by
 injection e with e
 unfold ZE at e;have e:=congrArg Array.toList e;simp only[List.cons.injEq,Value.string.injEq,Value.int.injEq,ByteArray.mk.injEq,true_and] at e;obtain⟨e1,e2,e3⟩:=e;have e3:=List.append_inj e3 (by rw[List.length_map,List.length_map,h1,h2])
 refine⟨by simpa using e1,e2,?_,?_⟩
 ·exact (List.map_inj_right (fun a b h=>by injection h)).1 e3.1
 ·have e4:=e3.2;simp only[List.cons.injEq,Value.map.injEq] at e4;exact e4.1
theorem toD {a:Act} {x:Nat} {v:Value} (h:a.eval (.tmp x)=v):a.tmps[x]?.getD undef=v:=by
 rw[<-Array.getD_eq_getD_getElem?];exact h
def ZV (o:Oper) (j:Nat):Prop:=∃e∈o.after,e.on=j/\Region.binds .any e=true
def Step (ds:Nat->Od) (bt:KC) (a0:Act) (W0:World) (o:Oper) (i:Nat):Prop:=
 ∀listed a w,II ds bt a0 W0 listed a w->listed.getD i true=false->(∀j,ZV o j->listed.getD j false=true)->o.wp prog a w (II ds bt a0 W0 (listed.setIfInBounds i true)) (WI fun _ _=>False)
section
variable {ds:Nat->Od} {bt:KC} {bo bp:Nat} {vl:Value} {a0:Act} {W0:World} {o:Oper} {i s:Nat}
theorem IX.con {X:Nat->Prop} {listed:Array Bool} {a:Act} {w w':World} {v:Value} (h:IX X ds bt a0 W0 listed a w) (hu:UL ds) (hz:a0.tmps.size=105) (hi:listed.getD i true=false) (hd:Qe (ds i)=some s) (hs:7<=s/\s<105/\s≠15/\i≠0) (hn:∀s,ds i≠.mk s/\ds i≠.mv s) (ho:(∀k,ds i≠.oins k)/\∀m,ds i≠.xins m) (hb:Below w.heap.size w w') (hr:RD bt X W0.heap.size (a.put (some s) v) w' (ds i)):II ds bt a0 W0 (listed.setIfInBounds i true) (a.put (some s) v) w':=
 ⟨X,h.val hu hi hd hs.1 (by omega) hs.2.2.2 hs.2.2.1 ho hb (fun _ h=>h) (fun _ h _=>h) (fun b e=>(h.x b e).below hb) hr (fun s e=>by rcases e with e|e;exact absurd e (hn s).1;exact absurd e (hn s).2)⟩
theorem XB {a:Act} {v:Value} (h:s<a.tmps.size):ZX (a.put (some s) v) s=v:=by rw[Wt h,if_pos rfl]
theorem XW (hz:a0.tmps.size=105) (hu:UL ds) {v:Value} {x:Nat} (hop:o.op=.move (.tmp x)) (hd:o.dst=some s) (hds:ds i=.con s v) (hx:x<7) (hv:ZX a0 x=v) (hs:7<=s/\s<105/\s≠15/\i≠0):Step ds bt a0 W0 o i:=fun listed a w h hi _=>by
 obtain⟨X,h⟩:=h;refine ZK (v:=v) (w':=w) ?_ ?_
 ·have e:a.eval (.tmp x)=v:=(h.base x hx).trans hv;simp[execOp,hop,e]
 ·rw[hd];refine h.con hu hz hi (by rw[hds];rfl) hs (fun s=>by rw[hds];exact⟨fun e=>(by cases e),fun e=>(by cases e)⟩) ⟨fun k=>by rw[hds];exact (fun e=>by cases e),fun k=>by rw[hds];exact (fun e=>by cases e)⟩ (Below.refl _ _) ?_
  rw[hds];exact XB (by rw[h.size,hz];exact hs.2.1)
theorem Za8 (hz:a0.tmps.size=105) (hu:UL ds) {v:Value} {x b:Nat} {ty:TypeId} (hrun:∀(a:Act) w,a.eval (.tmp x)=.pointer (some ⟨b,0,none⟩)->w.cell? ⟨b,0,none⟩=some v->(execOp a.eval o).run prog w=.ok (.value v) w) (hd:o.dst=some s) (hds:ds i=.con s v) (hx:x<7) (hv:ZX a0 x=.pointer (some ⟨b,0,none⟩)) (hB:Blk W0 b #[v]) (hs:7<=s/\s<105/\s≠15/\i≠0) (_hop:o.op=.load ty (.tmp x)):Step ds bt a0 W0 o i:=fun listed a w h hi _=>by
 obtain⟨X,h⟩:=h;refine ZK (v:=v) (w':=w) (hrun _ w ((h.base x hx).trans hv) ((hB.below h.below).c 0)) ?_;rw[hd];refine h.con hu hz hi (by rw[hds];rfl) hs (fun s=>by rw[hds];exact⟨fun e=>(by cases e),fun e=>(by cases e)⟩) ⟨fun k=>by rw[hds];exact (fun e=>by cases e),fun k=>by rw[hds];exact (fun e=>by cases e)⟩ (Below.refl _ _) ?_
 rw[hds];exact XB (by rw[h.size,hz];exact hs.2.1)
theorem Ue (hz:a0.tmps.size=105) (hu:UL ds) {ms:List Nat} (hrun:∀(a:Act) (w:World),(execOp a.eval o).run prog w=.ok (.value (.slice (some ⟨w.heap.size,0,none⟩) ms.length ms.length)) (w.alloc (.cells (slC ms) 3))) (hd:o.dst=some s) (hds:ds i=.sl s ms) (hs:7<=s/\s<105/\s≠15/\i≠0):Step ds bt a0 W0 o i:=fun listed a w h hi _=>by
 obtain⟨X,h⟩:=h;refine ZK (hrun _ w) ?_;rw[hd];refine h.con hu hz hi (by rw[hds];rfl) hs (fun s=>by rw[hds];exact⟨fun e=>(by cases e),fun e=>(by cases e)⟩) ⟨fun k=>by rw[hds];exact (fun e=>by cases e),fun k=>by rw[hds];exact (fun e=>by cases e)⟩ (Zh _ _) ?_
 rw[hds];exact⟨w.heap.size,XB (by rw[h.size,hz];exact hs.2.1),_,ZJ w _⟩
theorem Zb0 (hz:a0.tmps.size=105) (hu:UL ds) {p q:Bool} (hrun:∀(a:Act) (w:World),(execOp a.eval o).run prog w=.ok (.enter 229 #[.bool p,.bool q]) w) (hd:o.dst=some s) (hds:ds i=.lim s) (hs:7<=s/\s<105/\s≠15/\i≠0):Step ds bt a0 W0 o i:=fun listed a w h hi _=>by
 obtain⟨X,h⟩:=h;refine YI (hrun _ w) ?_;refine (Vu p q w).mono ?_;rintro e w' ⟨u,rfl,hb,b1,b2,hu1,h1,h2⟩;refine⟨u,rfl,?_⟩;rw[hd];refine h.con hu hz hi (by rw[hds];rfl) hs (fun s=>by rw[hds];exact⟨fun e=>(by cases e),fun e=>(by cases e)⟩) ⟨fun k=>by rw[hds];exact (fun e=>by cases e),fun k=>by rw[hds];exact (fun e=>by cases e)⟩ hb ?_
 rw[hds];show YA w' _;rw[XB (by rw[h.size,hz];exact hs.2.1)]
 exact⟨p,q,b1,b2,hu1,h1,h2⟩
theorem Qf (hz:a0.tmps.size=105) (hu:UL ds) (hop:o.op=.makeMap 268 none) (hd:o.dst=some s) (hds:ds i=.mk s) (hs:7<=s/\s<105/\s≠15/\i≠0):Step ds bt a0 W0 o i:=fun listed a w h hi _=>by
 obtain⟨X,h⟩:=h;have hb:=Zh w (.map #[] 0);refine ZK (v:=.map (some w.heap.size)) (w':=w.alloc (.map #[] 0)) ?_ ?_
 ·simp[execOp,hop,run_makeMap (P:=prog) 268 w,Result.andThen]
 ·rw[hd];refine⟨fun b=>X b∨(s∈xS/\b=w.heap.size),h.val hu hi (by rw[hds];rfl) hs.1 (by omega) hs.2.2.2 hs.2.2.1 ⟨fun k=>by rw[hds];exact (fun e=>by cases e),fun k=>by rw[hds];exact (fun e=>by cases e)⟩ hb (fun _ e=>.inl e) (fun b e hlt=>e.elim id (fun e=>by omega)) (fun b e=>?_) ?_ (fun s' e b _ hlt _ _ _ e2=>by injection e2 with e2;injection e2 with e2;omega)⟩
  ·rcases e with e|⟨-,rfl⟩
   ·exact (h.x b e).below hb
   ·exact⟨#[],0,ZJ w _,fun e he=>by simp at he⟩
  ·rw[hds];exact⟨w.heap.size,XB (by rw[h.size,hz];exact hs.2.1),h.below.size,⟨#[],0,ZJ w _,MapKept.stamped_empty 0,fun e he=>by simp at he⟩,fun e=>e.elim (fun e=>absurd (h.x _ e).lt (Nat.lt_irrefl _)) (fun e=>e.1),fun e=>.inr ⟨e,rfl⟩⟩
theorem Qg (hz:a0.tmps.size=105) (hu:UL ds) {m j:Nat} (hop:o.op=.move (.tmp m)) (hd:o.dst=some s) (hds:ds i=.mv s) (hj:ds j=.mk m) (hw:ZV o j) (hms:m∈xS↔s∈xS) (hx:s∈xS->∃jx,ds jx=.xins m/\ZV o jx) (hs:7<=s/\s<105/\s≠15/\i≠0):Step ds bt a0 W0 o i:=fun listed a w h hi hl=>by
 obtain⟨X,h⟩:=h;have hlj:=hl j hw;have hr:=h.r j hlj;rw[hj] at hr;obtain⟨b,h1,h2,h3,h4⟩:=hr;refine ZK (v:=.map (some b)) (w':=w) ?_ ?_
 ·have e:a.eval (.tmp m)=.map (some b):=h1;simp[execOp,hop,e]
 ·rw[hd];refine⟨X,h.val hu hi (by rw[hds];rfl) hs.1 (by omega) hs.2.2.2 hs.2.2.1 ⟨fun k=>by rw[hds];exact (fun e=>by cases e),fun k=>by rw[hds];exact (fun e=>by cases e)⟩ (Below.refl _ _) (fun _ h=>h) (fun _ h _=>h) h.x ?_ (fun s' e b' h15 hlt _ _ hl0 e2=>?_)⟩
  ·rw[hds]
   exact⟨b,XB (by rw[h.size,hz];exact hs.2.1),h3,h4.trans hms,fun e=>by
    obtain⟨jx,q1,q2⟩:=hx e
    exact (h.k7 jx m (hl jx q2) q1).2 b h1⟩
  ·obtain⟨b2,g1,-,-,-,g5,-⟩:=h.o1 hl0;rw[h15] at g1;injection g1 with g1
   injection g1 with g1
   have:=g5 j m hlj (.inl hj)
   rw[h1,e2,g1] at this;exact this rfl
theorem Zb1 (hz:a0.tmps.size=105) (hu:UL ds) (hop:o.op=.makeMap 272 none) (hd:o.dst=some 15) (hds:ds 0=.out):Step ds bt a0 W0 o 0:=fun listed a w h hi _=>by
 obtain⟨X,h⟩:=h;have hb:=Zh w (.map #[] 0);refine ZK (v:=.map (some w.heap.size)) (w':=w.alloc (.map #[] 0)) ?_ ?_
 ·simp[execOp,hop,run_makeMap (P:=prog) 272 w,Result.andThen]
 rw[hd];have hsl:∀s,s≠15->ZX (a.put (some 15) (.map (some w.heap.size))) s=ZX a s:=fun s hs=>by rw[Wt (by rw[h.size,hz];decide),if_neg hs]
 have hl0:listed.getD 0 false=false:=by
  rw[Array.getD_eq_getD_getElem?] at hi ⊢;cases hx:listed[0]? with
  | none=>rfl
  | some x=>rw[hx] at hi;exact hi
 have hne:∀j,listed.getD j false=true->j≠0:=fun j hj e=>by subst e;rw[hl0] at hj;cases hj
 have hslot:∀j,listed.getD j false=true->∀s,Qe (ds j)=some s->ZX (a.put (some 15) (.map (some w.heap.size))) s=ZX a s:=fun j hj s hs=>hsl s (fun e=>hne j hj (hu j 0 15 (by rw[hs,e]) (by rw[hds];rfl)))
 refine⟨X,bto h.below hb,by show (a.tmps.setIfInBounds _ _).size=_;rw[Array.size_setIfInBounds];exact h.size,h.dfr,fun s hs=>(hsl s (by omega)).trans (h.base s hs),fun b e=>(h.x b e).below hb,fun j hj=>?_,fun _=>?_,fun h1=>?_,fun j m hj e=>?_⟩
 ·rcases ZO hj with rfl|hj
  ·rw[hds];trivial
  ·exact (h.r j hj).below (hslot j hj) hb
 ·refine⟨w.heap.size,by rw[Wt (by rw[h.size,hz];decide),if_pos rfl],h.below.size,⟨#[],0,ZJ w _,MapKept.stamped_empty 0,fun e he=>by simp at he⟩,fun j k hj e=>?_,fun j s hj e=>?_,fun e=>absurd (h.x _ e).lt (Nat.lt_irrefl _)⟩
  ·rcases ZO hj with rfl|hj
   ·rw[hds] at e;cases e
   ·exact absurd e (h.o0 hl0 j k hj)
  ·rcases ZO hj with rfl|hj
   ·rw[hds] at e;rcases e with e|e<;>cases e
   ·rw[hslot j hj s (by rcases e with e|e<;>(rw[e];rfl))]
    have hr:=h.r j hj;intro e2;rcases e with e|e
    ·rw[e] at hr;obtain⟨b,g1,-,⟨es,c,g2,-⟩,-⟩:=hr;rw[g1] at e2;injection e2 with e2
     injection e2 with e2
     have:=(Ag.1 g2).1
     omega
    ·rw[e] at hr;obtain⟨b,g1,⟨es,c,g2,-⟩,-⟩:=hr;rw[g1] at e2;injection e2 with e2
     injection e2 with e2
     have:=(Ag.1 g2).1
     omega
 ·by_cases hsz:0<listed.size
  ·rw[Array.getD_eq_getD_getElem?,Array.getElem?_setIfInBounds,if_pos rfl,if_pos hsz] at h1;cases h1
  ·have:listed.getD 0 true=true:=by rw[Array.getD_eq_getD_getElem?,Array.getElem?_eq_none (by omega)];rfl
   rw[this] at hi;cases hi
 ·rcases ZO hj with rfl|hj
  ·rw[hds] at e;cases e
  ·obtain⟨⟨jm,h1,h2⟩,h3⟩:=h.k7 j m hj e;exact⟨⟨jm,getD_set_true h1,h2⟩,fun b hb'=>(h3 b ((hslot jm h1 m (by rw[h2];rfl)).symm.trans hb')).below hb⟩
theorem XC {m jm jv k v:Nat} (hop:o.op=.insert 268 (.tmp m) (.const (Zi (k:Int))) (.tmp v)) (hd:o.dst=none) (hds:(ds i=.ins/\m∉xS)∨(ds i=.xins m/\k=7/\ds jv=.con v bt.v)) (hk:k<13) (hjm:ds jm=.mk m) (hjv:ds jv=.lim v∨∃u,ds jv=.con v u/\YA W0 u) (hw1:ZV o jm) (hw2:ZV o jv) (h0:i≠0):Step ds bt a0 W0 o i:=fun listed a w h hi hl=>by
 obtain⟨X,h⟩:=h;have hrun:∀(a:Act) (w w':World) b u,a.eval (.tmp m)=.map (some b)->a.eval (.tmp v)=u->(Instr.mapUpdate 268 (.map (some b)) (Zi (k:Int)) u).run prog w=.ok () w'->(execOp a.eval o).run prog w=.ok .skip w':=fun a w w' b u h1 h2 h3=>by
  have e:a.eval (.const (Zi (k:Int)))=Zi (k:Int):=rfl;simp[execOp,hop,h1,h2,e,h3,Result.andThen]
 have hr:=h.r jm (hl jm hw1);rw[hjm] at hr;obtain⟨b,h1,h2,h3,hXb⟩:=hr;have hlv:YA w (ZX a v):=by
  have hr:=h.r jv (hl jv hw2);rcases hjv with e|⟨u,e,hu⟩
  ·rw[e] at hr;exact hr
  ·rw[e] at hr;have hr:ZX a v=u:=hr;rw[hr];exact hu.gr ⟨h.below.size,fun b ob hb _=>(h.below.block _ (Ag.1 hb).1).trans hb⟩
 have hno:(∀s,ds i≠.mk s)/\(∀s,ds i≠.mv s)/\∀k,ds i≠.oins k:=by
  rcases hds with ⟨e,-⟩|⟨e,-⟩<;>(rw[e];exact⟨fun _ e=>(by cases e),fun _ e=>(by cases e),fun _ e=>(by cases e)⟩)
 obtain⟨es,es',c,c',g1,g2,g3,g4,g6,g5⟩:=h3.ins (P:=prog) (mty:=268) hk hlv underlying268 underlying3;refine UA (hrun _ w _ b _ h1 rfl g2) ?_;rw[hd];show II ds bt a0 W0 _ a _;refine⟨X,VK h.below h2,h.size,h.dfr,h.base,fun b' e=>?_,fun j hj=>?_,fun h5=>?_,fun h5 j k hj e=>?_,fun j m' hj e=>?_⟩
 ·by_cases hbb:b'=b
  ·subst hbb;rcases hds with ⟨-,hm⟩|⟨-,hk7,hv⟩
   ·exact absurd (hXb.1 e) hm
   ·have hr:=h.r jv (hl jv hw2);rw[hv] at hr;have hr:ZX a v=bt.v:=hr;rw[hr] at g5;exact g5 (h.x _ e) hk7
  ·exact (h.x b' e).other hbb
 ·rcases ZO hj with rfl|hj
  ·rcases hds with ⟨e,-⟩|⟨e,-⟩<;>(rw[e];trivial)
  ·exact (h.r j hj).num g1 g4 g3
 ·rw[getD_set_ne false h0] at h5;obtain⟨b2,k1,k2,k3,k4,k5,k6⟩:=h.o1 h5;have hne:b2≠b:=fun e=>by subst e;exact k5 jm m (hl jm hw1) (.inl hjm) h1
  refine⟨b2,k1,k2,?_,fun j k hj e=>?_,fun j s hj e=>?_,k6⟩
  ·obtain⟨es2,c2,q1,q2,q3⟩:=k3;refine⟨es2,c2,(Yh hne).trans q1,q2,fun e he=>?_⟩
   obtain⟨k,p1,p2,p3⟩:=q3 e he;exact⟨k,p1,p2.num g1 g4 g3,p3⟩
  ·rcases ZO hj with rfl|hj
   ·exact absurd e (hno.2.2 k)
   ·exact (k4 j k hj e).upd g1 g4
  ·rcases ZO hj with rfl|hj
   ·rcases e with e|e
    ·exact absurd e (hno.1 s)
    ·exact absurd e (hno.2.1 s)
   ·exact k5 j s hj e
 ·rw[getD_set_ne false h0] at h5;rcases ZO hj with rfl|hj
  ·exact absurd e (hno.2.2 k)
  ·exact h.o0 h5 j k hj e
 ·rcases ZO hj with rfl|hj
  ·rcases hds with ⟨e2,-⟩|⟨e2,hk7,-⟩
   ·rw[e2] at e;cases e
   ·rw[e2] at e;injection e with e
    subst e;refine⟨⟨jm,getD_set_true (hl jm hw1),hjm⟩,fun b' hb'=>?_⟩
    rw[h1] at hb';injection hb' with hb'
    injection hb' with hb'
    subst hb';rw[<-hk7];exact g6
  ·obtain⟨q1,q2⟩:=h.k7 j m' hj e;exact⟨q1.imp fun jm h=>⟨getD_set_true h.1,h.2⟩,fun b' hb'=>(q2 b' hb').upd g1 g4⟩
theorem Yw {jv k v:Nat} (hop:o.op=.insert 272 (.tmp 15) (.const (Zi (k:Int))) (.tmp v)) (hd:o.dst=none) (hds:ds i=.oins k) (hjv:ds jv=.kp v k) (hw1:ZV o 0) (hw2:ZV o jv) (h0:i≠0):Step ds bt a0 W0 o i:=fun listed a w h hi hl=>by
 obtain⟨X,h⟩:=h;have hrun:∀(a:Act) (w w':World) b u,a.eval (.tmp 15)=.map (some b)->a.eval (.tmp v)=u->(Instr.mapUpdate 272 (.map (some b)) (Zi (k:Int)) u).run prog w=.ok () w'->(execOp a.eval o).run prog w=.ok .skip w':=fun a w w' b u h1 h2 h3=>by
  have e:a.eval (.const (Zi (k:Int)))=Zi (k:Int):=rfl;simp[execOp,hop,h1,h2,e,h3,Result.andThen]
 have hl0:=hl 0 hw1;obtain⟨b,k1,k2,k3,k4,k5,k6⟩:=h.o1 hl0;have hv:=h.r jv (hl jv hw2);rw[hjv] at hv;have hv:KP bt X k w (ZX a v):=hv;obtain⟨es,es',c,c',g1,g2,g3,g4,g5⟩:=k3.ins (P:=prog) (mty:=272) hv underlying272 underlying3;refine UA (hrun _ w _ b _ k1 rfl g2) ?_;rw[hd];show II ds bt a0 W0 _ a _;refine⟨X,VK h.below k2,h.size,h.dfr,h.base,fun b' e=>(h.x b' e).other (fun e2=>by subst e2;exact k6 e),fun j hj=>?_,fun h5=>?_,fun h5 j k' hj e=>?_,fun j m hj e=>?_⟩
 ·rcases ZO hj with rfl|hj
  ·rw[hds];trivial
  ·exact (h.r j hj).outs k3 (fun s e=>k5 j s hj e)
 ·refine⟨b,k1,k2,g3,fun j k' hj e=>?_,fun j s hj e=>?_,k6⟩
  ·rcases ZO hj with rfl|hj
   ·rw[hds] at e;injection e with e
    rw[<-e];exact g5
   ·exact (k4 j k' hj e).upd g1 g4
  ·rcases ZO hj with rfl|hj
   ·rw[hds] at e;rcases e with e|e<;>cases e
   ·exact k5 j s hj e
 ·rw[getD_set_ne false h0,hl0] at h5;cases h5
 ·rcases ZO hj with rfl|hj
  ·rw[hds] at e;cases e
  ·obtain⟨q1,q2⟩:=h.k7 j m hj e;exact⟨q1.imp fun jm h=>⟨getD_set_true h.1,h.2⟩,fun b' hb'=>(q2 b' hb').upd g1 g4⟩
theorem IX.kp {X:Nat->Prop} {listed:Array Bool} {a:Act} {w w':World} {v:Value} {k:Nat} (h:IX X ds bt a0 W0 listed a w) (hu:UL ds) (hz:a0.tmps.size=105) (hi:listed.getD i true=false) (hds:ds i=.kp s k) (hs:7<=s/\s<105/\s≠15/\i≠0) (hb:Below w.heap.size w w') (hr:KP bt X k w' v):II ds bt a0 W0 (listed.setIfInBounds i true) (a.put (some s) v) w':=by
 refine h.con hu hz hi (by rw[hds];rfl) hs (fun s=>by rw[hds];exact⟨fun e=>(by cases e),fun e=>(by cases e)⟩) ⟨fun k=>by rw[hds];exact (fun e=>by cases e),fun k=>by rw[hds];exact (fun e=>by cases e)⟩ hb ?_
 rw[hds];show KP bt X k w' _;rw[XB (by rw[h.size,hz];exact hs.2.1)]
 exact hr
theorem Nb {AT:Array TypeId} (kb:KB bt bo bp vl a0 W0) (hu:UL ds) {f j k:Nat} {word:List UInt8} (hop:o.op=.call { callee:=.value (.tmp f),args:=#[.const (Zg word)],argTypes:=AT }) (hd:o.dst=some s) (hds:ds i=.kp s k) (hj:ds j=.con f (.func (.func 231) #[] #[.pointer (some ⟨bo,0,none⟩),.pointer (some ⟨bp,0,none⟩)])) (hw:ZV o j) (hk:k≠4/\k≠5/\k≠13) (hs:7<=s/\s<105/\s≠15/\i≠0):Step ds bt a0 W0 o i:=fun listed a w h hi hl=>by
 obtain⟨X,h⟩:=h;have hrun:∀(a:Act) (w:World),a.eval (.tmp f)=.func (.func 231) #[] #[.pointer (some ⟨bo,0,none⟩),.pointer (some ⟨bp,0,none⟩)]->(execOp a.eval o).run prog w=.ok (.enter 231 #[Zg word,.pointer (some ⟨bo,0,none⟩),.pointer (some ⟨bp,0,none⟩)]) w:=fun a w h1=>by
  have g1:=toD h1;clear h1;unfold execOp;rw[hop];go_simp
  first|done|rfl
 have hr:=h.r j (hl j hw);rw[hj] at hr;refine YI (hrun _ w hr) ?_;refine (Zdz word (Nat.lt_of_lt_of_le kb.hbo.ltB h.below.size) (kb.hbo.below h.below) (kb.hbp.below h.below) (kb.lp.keep (Zz.of_below h.below))).mono ?_;rintro e w' ⟨v,rfl,-,hb,H,bm,rfl,hH,hm⟩;refine⟨_,rfl,?_⟩;rw[hd];have hl2:YA w' bt.v:=kb.lp.any.gr (GrM.of_below (bto h.below hb));refine h.kp hu kb.size hi hds hs hb ⟨⟨word,2,H,some bm,false,rfl,hH.1,fun i hi=>?_⟩,fun e=>absurd e hk.1,fun e=>absurd e (by omega)⟩
 rcases hH.2 i hi with rfl|rfl
 ·exact .inr ⟨bm,rfl,Hs hm rfl (by simp) (fun x hx=>by rw[List.mem_singleton.1 hx];exact⟨by simp,hl2⟩),Mb hm (by simp)⟩
 ·exact .inl (by decide)
theorem Qh {AT:Array TypeId} (kb:KB bt bo bp vl a0 W0) (hu:UL ds) {f m s2 jf jm js k:Nat} {word:List UInt8} {cls:Int} {ms:List Nat} (hop:o.op=.call { callee:=.value (.tmp f),args:=#[.const (Zg word),.const (Zi cls),.tmp m,.tmp s2],argTypes:=AT }) (hd:o.dst=some s) (hds:ds i=.kp s k) (hjf:ds jf=.con f (.func (.func 230) #[] #[])) (hjm:ds jm=.mv m) (hjs:ds js=.sl s2 ms) (hw1:ZV o jf) (hw2:ZV o jm) (hw3:ZV o js) (hm:∀m∈ms,m<13/\m∈Nv) (hml:ms.length<=100) (hk:k≠4) (hkx:(k=5∨k=13)->m∈xS/\ms=[0]) (hs:7<=s/\s<105/\s≠15/\i≠0):Step ds bt a0 W0 o i:=fun listed a w h hi hl=>by
 obtain⟨X,h⟩:=h;have hrun:∀(a:Act) (w:World) b bs,a.eval (.tmp f)=.func (.func 230) #[] #[]->a.eval (.tmp m)=.map (some b)->a.eval (.tmp s2)=.slice (some ⟨bs,0,none⟩) ms.length ms.length->(execOp a.eval o).run prog w=.ok (.enter 230 #[Zg word,Zi cls,.map (some b),.slice (some ⟨bs,0,none⟩) ms.length ms.length]) w:=fun a w b bs h1 h2 h3=>by
  have g1:=toD h1;have g2:=toD h2;have g3:=toD h3;clear h1 h2 h3;unfold execOp;rw[hop];go_simp
  first|done|rfl
 have hr1:=h.r jf (hl jf hw1);have hr2:=h.r jm (hl jm hw2);have hr3:=h.r js (hl js hw3);rw[hjf] at hr1;rw[hjm] at hr2;rw[hjs] at hr3;obtain⟨b,g1,hN,hX,hX7⟩:=hr2;obtain⟨bs,g3,g4⟩:=hr3;have hN':=hN;obtain⟨es,c,q1,q2,q3⟩:=hN';refine YI (hrun _ w b bs hr1 g1 g3) ?_;refine (ZbY word cls q1 q2 (fun e he=>by obtain⟨⟨k,h1,h2⟩,-⟩:=q3 e he;exact⟨k,h2,h1⟩) (PW g4) rfl hml (fun m hm'=>(hm m hm').1)).mono ?_
 rintro e w' ⟨H,rfl,⟨hH1,hH2⟩,hH3,hb⟩;refine⟨_,rfl,?_⟩;rw[hd];refine h.kp hu kb.size hi hds hs hb ⟨⟨word,cls,H,some b,false,rfl,hH1,fun i hi=>?_⟩,fun e=>absurd e hk,fun e=>?_⟩
 ·rcases hH2 i hi with ⟨e,he,hke⟩|hms
  ·exact .inr ⟨b,rfl,hN.below hb,es,c,Zv q1 hb,e,he,hke⟩
  ·exact .inl (hm i hms).2
 ·obtain⟨hmx,rfl⟩:=hkx e;have hXb:=hX.2 hmx;obtain⟨es2,c2,k1,k2⟩:=h.x b hXb;rw[q1] at k1;cases k1;obtain⟨es3,c3,p1,y,p2,p3⟩:=hX7 hmx;rw[q1] at p1;cases p1;refine⟨word,cls,H,b,false,rfl,hXb,⟨hH1,fun i hi=>?_⟩,hH3 7 (.inl ⟨y,p2,p3⟩),hH3 0 (.inr (by simp))⟩
  rcases hH2 i hi with ⟨e,he,hke⟩|hms
  ·left
   have:=(k2 e he).1
   rw[hke] at this;injection this with _ this
   omega
  ·right;simpa using hms
theorem Cz {AT:Array TypeId} (kb:KB bt bo bp vl a0 W0) (hu:UL ds) {f m s2 jf jm js k:Nat} {word:List UInt8} {cls:Int} {ms:List Nat} (hop:o.op=.call { callee:=.value (.tmp f),args:=#[.const (Zg word),.const (Zi cls),.tmp m,.tmp s2],argTypes:=AT }) (hd:o.dst=some s) (hds:ds i=.kp s k) (hjf:ds jf=.con f (.func (.func 230) #[] #[])) (hjm:ds jm=.con m (.map (some bt.b))) (hjs:ds js=.sl s2 ms) (hw1:ZV o jf) (hw2:ZV o jm) (hw3:ZV o js) (hm:∀m∈ms,m<13/\m∈Nv) (hml:ms.length<=100) (hk:k=4->ms=[0,10]) (hk2:k≠5/\k≠13) (hs:7<=s/\s<105/\s≠15/\i≠0):Step ds bt a0 W0 o i:=fun listed a w h hi hl=>by
 obtain⟨X,h⟩:=h;have hrun:∀(a:Act) (w:World) b bs,a.eval (.tmp f)=.func (.func 230) #[] #[]->a.eval (.tmp m)=.map (some b)->a.eval (.tmp s2)=.slice (some ⟨bs,0,none⟩) ms.length ms.length->(execOp a.eval o).run prog w=.ok (.enter 230 #[Zg word,Zi cls,.map (some b),.slice (some ⟨bs,0,none⟩) ms.length ms.length]) w:=fun a w b bs h1 h2 h3=>by
  have g1:=toD h1;have g2:=toD h2;have g3:=toD h3;clear h1 h2 h3;unfold execOp;rw[hop];go_simp
  first|done|rfl
 have hr1:=h.r jf (hl jf hw1);have hr2:=h.r jm (hl jm hw2);have hr3:=h.r js (hl js hw3);rw[hjf] at hr1;rw[hjm] at hr2;rw[hjs] at hr3;obtain⟨bs,g3,g4⟩:=hr3;have q1:=Zv kb.hbt h.below;have hlp:YA w bt.v:=kb.lp.any.gr (GrM.of_below h.below);have hll:YA w vl:=kb.ll.any.gr (GrM.of_below h.below)
 have hN:Vn w bt.b:=Hs q1 rfl (by simp) (fun x hx=>by
  simp only[List.mem_cons,List.not_mem_nil,or_false] at hx;rcases hx with rfl|rfl|rfl
  ·exact⟨by simp,hlp⟩
  ·exact⟨by simp,hll⟩
  ·exact⟨by simp,hll⟩)
 refine YI (hrun _ w bt.b bs hr1 hr2 g3) ?_
 refine (ZbY word cls q1 (Se (l:=[(4,bt.v),(5,vl),(6,vl)]) (by simp)) (fun e he=>by
  obtain⟨es,c,k1,-,k3⟩:=hN;rw[q1] at k1;cases k1;obtain⟨⟨k,h1,h2⟩,-⟩:=k3 e he
  exact⟨k,h2,h1⟩) (PW g4) rfl hml (fun m hm'=>(hm m hm').1)).mono ?_
 rintro e w' ⟨H,rfl,⟨hH1,hH2⟩,hH3,hb⟩;simp only[Hq] at hH2 hH3;refine⟨_,rfl,?_⟩;rw[hd];refine h.kp hu kb.size hi hds hs hb ⟨⟨word,cls,H,some bt.b,false,rfl,hH1,fun i hi=>?_⟩,fun e=>?_,fun e=>absurd e (by omega)⟩
 ·rcases hH2 i hi with hke|hms
  ·exact .inr ⟨bt.b,rfl,hN.below hb,Mb (Zv q1 hb) hke⟩
  ·exact .inl (hm i hms).2
 ·have hms:=hk e;subst hms;exact⟨word,cls,H,false,rfl,⟨hH1,hH2⟩,hH3⟩
theorem CH {AT:Array TypeId} (kb:KB bt bo bp vl a0 W0) (hu:UL ds) {f s2 jf js k:Nat} {word:List UInt8} {cls:Int} {ms:List Nat} (hop:o.op=.call { callee:=.value (.tmp f),args:=#[.const (Zg word),.const (Zi cls),.const (.map none),.tmp s2],argTypes:=AT }) (hd:o.dst=some s) (hds:ds i=.kp s k) (hjf:ds jf=.con f (.func (.func 230) #[] #[])) (hjs:ds js=.sl s2 ms) (hw1:ZV o jf) (hw3:ZV o js) (hm:∀m∈ms,m<13/\m∈Nv) (hml:ms.length<=100) (hk:k≠4/\k≠5/\k≠13) (hs:7<=s/\s<105/\s≠15/\i≠0):Step ds bt a0 W0 o i:=fun listed a w h hi hl=>by
 obtain⟨X,h⟩:=h;have hrun:∀(a:Act) (w:World) bs,a.eval (.tmp f)=.func (.func 230) #[] #[]->a.eval (.tmp s2)=.slice (some ⟨bs,0,none⟩) ms.length ms.length->(execOp a.eval o).run prog w=.ok (.enter 230 #[Zg word,Zi cls,.map none,.slice (some ⟨bs,0,none⟩) ms.length ms.length]) w:=fun a w bs h1 h3=>by
  have g1:=toD h1;have g3:=toD h3;clear h1 h3;unfold execOp;rw[hop];go_simp
  first|done|rfl
 have hr1:=h.r jf (hl jf hw1);have hr3:=h.r js (hl js hw3);rw[hjf] at hr1;rw[hjs] at hr3;obtain⟨bs,g3,g4⟩:=hr3;refine YI (hrun _ w bs hr1 g3) ?_;refine (Zdy word cls (PW g4) rfl hml (fun m hm'=>(hm m hm').1)).mono ?_
 rintro e w' ⟨H,rfl,⟨hH1,hH2⟩,-,hb⟩;refine⟨_,rfl,?_⟩;rw[hd];exact h.kp hu kb.size hi hds hs hb ⟨⟨word,cls,H,none,false,rfl,hH1,fun i hi=>.inl (hm i (hH2 i hi)).2⟩,fun e=>absurd e hk.1,fun e=>absurd e (by omega)⟩
theorem Ht {AT:Array TypeId} (kb:KB bt bo bp vl a0 W0) (hu:UL ds) {f x jf jx k k':Nat} (hop:o.op=.call { callee:=.value (.tmp f),args:=#[.tmp x],argTypes:=AT }) (hd:o.dst=some s) (hds:ds i=.kp s k) (hjf:ds jf=.con f (.func (.func 232) #[] #[])) (hjx:ds jx=.kp x k') (hw1:ZV o jf) (hw2:ZV o jx) (hk:k≠4/\k≠5/\k≠13) (hs:7<=s/\s<105/\s≠15/\i≠0):Step ds bt a0 W0 o i:=fun listed a w h hi hl=>by
 obtain⟨X,h⟩:=h;have hrun:∀(a:Act) (w:World) u,a.eval (.tmp f)=.func (.func 232) #[] #[]->a.eval (.tmp x)=u->(execOp a.eval o).run prog w=.ok (.enter 232 #[u]) w:=fun a w u h1 h2=>by
  have g1:=toD h1;have g2:=toD h2;clear h1 h2;unfold execOp;rw[hop];go_simp
  first|done|rfl
 have hr1:=h.r jf (hl jf hw1);have hr2:=h.r jx (hl jx hw2);rw[hjf] at hr1;rw[hjx] at hr2;obtain⟨hr2,-⟩:=hr2;have hr3:=hr2;obtain⟨word,cls,H,M,code,e,h1,-⟩:=hr3;refine YI (hrun _ w (ZX a x) hr1 rfl) ?_;rw[e];refine (ZbZ h1).mono ?_;rintro e' w' ⟨rfl,hb⟩;refine⟨_,rfl,?_⟩;rw[hd];have hr4:=hr2.below hb;rw[e] at hr4;refine h.kp hu kb.size hi hds hs hb ⟨?_,fun e=>absurd e hk.1,fun e=>absurd e (by omega)⟩
 obtain⟨word2,cls2,H2,M2,code2,e2,k1,k2⟩:=hr4;obtain⟨rfl,rfl,rfl,rfl⟩:=WN h1 k1 e2;exact⟨_,_,_,_,true,rfl,k1,k2⟩
end
abbrev SV:=(Nat->Value)->Act
abbrev BV:=Nat->Option (World->Value->Prop)
section
variable {P:Program} {ops:Array Oper} {md:Region.Mode} {C:World->Prop}
variable {Q:SV->BV->Prop} {o:Oper} {rest:List Oper} {i:Nat} {a:SV} {B:BV}
end
section
variable {P:Program} {ops:Array Oper} {Q:Exit->Act->World->Prop} {S:Act->World->Prop}
theorem Nc {o:Oper} {a:Act} {w:World} {K K':Act->World->Prop} (hk:∀a w,K a w->K' a w) (h:o.wp P a w K (WI S)):o.wp P a w K' Q:=by
 unfold Oper.wp at *;generalize (execOp a.eval o).run P w=r at *;cases r with
 | ok x w'=>
  cases x<;>simp only[Oper.upon] at h ⊢ <;>
   first
    | exact hk _ _ h
    | exact Calls.mono h (fun e w'' he=>by
      cases e<;>first
       | exact hk _ _ he
       | exact absurd he.1 (by simp)
       | (obtain⟨_,_,hx⟩:=he;exact absurd hx.1 (by simp)))
    | exact Rows.mono h (fun _ _ he=>hk _ _ he)
    | exact absurd h (by simp)
 | halt x w'=>
  cases x<;>simp only[Oper.upon] at h ⊢<;>first
   | exact absurd h.1 (by simp)
   | exact h
theorem UB:∀(l1 l2:List Oper) (a:Act) (w:World),wpList P ops (WI S) l1 a w->(∀a' w',S a' w'->wpList P ops Q l2 a' w')->wpList P ops Q (l1++l2) a w
 | [],_,_,_,h,hn=>hn _ _ h.2
 | o::l1,l2,a,w,h,hn=>by
  show (if Region.wanted o (yielded ops a.tmps) then o.wp P a w (wpList P ops Q (l1++l2)) Q∨(o.asks P a w/\LetsOut Q) else wpList P ops Q (l1++l2) (a.put o.dst undef) w)
  replace h:(if Region.wanted o (yielded ops a.tmps) then o.wp P a w (wpList P ops (WI S) l1) (WI S)∨(o.asks P a w/\LetsOut (WI S)) else wpList P ops (WI S) l1 (a.put o.dst undef) w):=h
  split at h
  ·rename_i hw;rw[if_pos hw];rcases h with h|⟨-,a1,w1,h1⟩
   ·exact .inl (Nc (fun a w h=>UB l1 l2 a w h hn) h)
   ·exact absurd h1.1 (by simp)
  ·rename_i hw;rw[if_neg hw];exact UB l1 l2 _ _ h hn
theorem Ii {o:Oper} {rest:List Oper} {a:Act} {w:World} (d:Tmp) (n:Nat) (S:Act->World->Prop) (_ho:o.dst=some d) (h1:wpList P ops (WI S) ((o::rest).take n) a w) (h2:∀a' w',S a' w'->wpList P ops Q ((o::rest).drop n) a' w'):wpList P ops Q (o::rest) a w:=by
 have h:=UB ((o::rest).take n) ((o::rest).drop n) a w h1 h2
 rwa [List.take_append_drop] at h
end
section
variable {P:Program} {Q:Exit->Act->World->Prop}
theorem Pz {o:Oper} {a:Act} {w:World} {K:Act->World->Prop} (h:o.wp P a w K (WI fun _ _=>False)):o.wp P a w K Q:=Nc (fun _ _ h=>h) h
theorem Nf {id:Nat} {a:Act} {w:World} {I:Array Bool->Act->World->Prop} {l:List Oper} {s1 s2:Oper} (hm:P.follows .mixedOrders=true) (hU1:Y0 .any l s1=true) (hU2:Y0 .any (l++[s1]) s2=true) (hg:(l++[s1]++[s2]).all (fun o=>o.guard.isNone)=true)
  (hbk:∀(i:Nat) (o:Oper),l.toArray[i]?=some o->∀e∈o.after,Region.binds .any e=true->e.on<i)
  (h0:I (Array.replicate l.length false) a { w with drawn:=w.drawn+1 })
  (hend:∀listed a w,(∀i,i<l.length->listed.getD i false=true)->I listed a w->wpList P (l++[s1]++[s2]).toArray Q [s1,s2] a w)
  (hstep:∀listed a w i o,I listed a w->l.toArray[i]?=some o->listed.getD i true=false->(∀e∈o.after,Region.binds .any e=true->listed.getD e.on false=true)->o.wp P a w (I (listed.setIfInBounds i true)) (WI fun _ _=>False)):(Code.region id (l++[s1]++[s2]).toArray true).wp P Q a w:=by
 have hgs:∀o∈l++[s1]++[s2],o.guard=none:=fun o ho=>by
  have:=(List.all_eq_true.1 hg) o ho
  simpa using this
 refine wp_region_any hm ?_;have g1:s1.guard=none:=hgs s1 (by simp)
 have g2:s2.guard=none:=hgs s2 (by simp)
 have h2:wpAny P .any l.toArray (Exit.then (wpList P (l++[s1]).toArray (Exit.then (wpList P (l++[s1]++[s2]).toArray Q [s2]) Q) [s1]) (Exit.then (wpList P (l++[s1]++[s2]).toArray Q [s2]) Q)) l.toArray.size (Array.replicate l.toArray.size false) a { w with drawn:=w.drawn+1 }:=by
  refine QR (I:=I) hbk (fun listed a' w' hall hI=>?_) (fun listed a' w' i o hI ho hi hl=>?_) _ _ _ _ (by simp) (by rw[Array.toList_replicate,Na];exact Nl _) (by simpa using h0)
  ·have h3:wpList P (l++[s1]++[s2]).toArray Q [s1,s2] a' w':=hend listed a' w' (by simpa using hall) hI
   show wpList P (l++[s1]).toArray _ [s1] a' w';rw[wpList] at h3 ⊢;simp only[YD g1,if_true] at h3 ⊢;rcases h3 with h3|h3
   ·exact .inl (Oper.wp_mono2 (fun a w h=>h) (fun _ _ _ h=>h) (fun ⟨a,w,h⟩=>⟨a,w,h⟩) h3)
   ·exact .inr ⟨h3.1,(fun ⟨a,w,h⟩=>⟨a,w,h⟩) h3.2⟩
  ·have hmem:o∈l:=by
    have:=Array.mem_of_getElem? ho
    simpa using this
   have hgo:=hgs o (by simp[hmem])
   unfold wpOp;simp only[ho,YD hgo,if_true];exact .inl (Pz (hstep listed a' w' i o hI ho hi hl))
 have h3:=Uo (P:=P) (md:=.any) hU1 g1 (fun o ho=>hgs o (by simp[ho])) _ _ _ a _ (VZ l s1) h2
 have h4:=Uo (P:=P) (md:=.any) hU2 g2 (fun o ho=>hgs o (List.mem_append_left _ ho)) _ _ _ a _ (VZ (l++[s1]) s2) h3
 simpa using h4
theorem PL {id:Nat} {a:Act} {w:World} {I:Array Bool->Act->World->Prop} {L:List Oper} (hne:L≠[]) (hne2:L.dropLast≠[]) (hm:P.follows .mixedOrders=true) (hU1:Y0 .any L.dropLast.dropLast (L.dropLast.getLast hne2)=true) (hU2:Y0 .any L.dropLast (L.getLast hne)=true) (hg:L.all (fun o=>o.guard.isNone)=true)
  (hbk:∀(i:Nat) (o:Oper),L.dropLast.dropLast.toArray[i]?=some o->∀e∈o.after,Region.binds .any e=true->e.on<i)
  (h0:I (Array.replicate L.dropLast.dropLast.length false) a { w with drawn:=w.drawn+1 })
  (hend:∀listed a w,(∀i,i<L.dropLast.dropLast.length->listed.getD i false=true)->I listed a w->wpList P L.toArray Q [L.dropLast.getLast hne2,L.getLast hne] a w)
  (hstep:∀listed a w i o,I listed a w->L.dropLast.dropLast.toArray[i]?=some o->listed.getD i true=false->(∀e∈o.after,Region.binds .any e=true->listed.getD e.on false=true)->o.wp P a w (I (listed.setIfInBounds i true)) (WI fun _ _=>False)):(Code.region id L.toArray true).wp P Q a w:=by
 have e1:L.dropLast.dropLast++[L.dropLast.getLast hne2]=L.dropLast:=List.dropLast_concat_getLast hne2;have e2:L.dropLast++[L.getLast hne]=L:=List.dropLast_concat_getLast hne
 have:=Nf (P:=P) (id:=id) (Q:=Q) (a:=a) (w:=w) (I:=I) (l:=L.dropLast.dropLast) (s1:=L.dropLast.getLast hne2) (s2:=L.getLast hne) hm hU1 (by rw[e1];exact hU2) (by rw[e1,e2];exact hg) hbk h0 (by rw[e1,e2];exact hend) hstep
 rwa [e1,e2] at this
def VP (S:Oper->Nat->Prop):List Oper->Nat->Prop
 | [],_=>True
 | o::l,i=>S o i/\VP S l (i+1)
theorem Sf {S:Oper->Nat->Prop}:∀{l:List Oper} {n:Nat},VP S l n->∀(i:Nat) (o:Oper),l[i]?=some o->S o (n+i)
 | [],_,_,i,o,h=>by simp at h
 | x::l,n,h,0,o,ho=>by
  have:x=o:=by simpa using ho
  subst this;exact h.1
 | x::l,n,h,i+1,o,ho=>by
  have:=Sf h.2 i o (by simpa using ho)
  rwa [show n+(i+1)=n+1+i by omega]
end
theorem Zl {o:Oper} {j:Nat} (h:(o.after.toList.any fun e=>e.on==j&&Region.binds .any e)=true):ZV o j:=by
 rw[List.any_eq_true] at h;obtain⟨e,he,h⟩:=h;rw[Bool.and_eq_true,beq_iff_eq] at h;exact⟨e,Array.mem_toList_iff.1 he,h.1,h.2⟩
def kDs (bt bo bp:Nat) (vp vl:Value):List Od:=[.out,.con 16 (.func (.func 231) #[] #[.pointer (some ⟨bo,0,none⟩),.pointer (some ⟨bp,0,none⟩)]),.kp 17 1,.oins 1,.con 18 (.func (.func 231) #[] #[.pointer (some ⟨bo,0,none⟩),.pointer (some ⟨bp,0,none⟩)]),.kp 19 2,.oins 2,.con 20 (.func (.func 230) #[] #[]),.con 21 (.map (some bt)),.sl 22 [0],.kp 23 3,.oins 3,.con 24 (.func (.func 230) #[] #[]),.con 25 (.map (some bt)),.sl 26 [0,10],.kp 27 4,.oins 4,.con 28 (.func (.func 230) #[] #[]),.mk 29,.con 30 vp,.xins 29,.mv 31,.sl 32 [0],.kp 33 5,.oins 5,.con 34 (.func (.func 231) #[] #[.pointer (some ⟨bo,0,none⟩),.pointer (some ⟨bp,0,none⟩)]),.kp 35 6,.oins 6,.con 36 (.func (.func 232) #[] #[]),.con 37 (.func (.func 230) #[] #[]),.mk 38,.con 39 vp,.ins,.con 40 vp,.ins,.mv 41,.sl 42 [1,2],.kp 43 0,.kp 44 7,.oins 7,.con 45 (.func (.func 230) #[] #[]),.mk 46,.con 47 vl,.ins,.con 48 vp,.ins,.mv 49,.sl 50 [0],.kp 51 8,.oins 8,.con 52 (.func (.func 230) #[] #[]),.mk 53,.con 54 vl,.ins,.con 55 vp,.ins,.lim 56,.ins,.mv 57,.sl 58 [0,1],.kp 59 9,.oins 9,.con 60 (.func (.func 230) #[] #[]),.sl 61 [0,11],.kp 62 10,.oins 10,.con 63 (.func (.func 230) #[] #[]),.sl 64 [0,3,12],.kp 65 11,.oins 11,.con 66 (.func (.func 230) #[] #[]),.mk 67,.con 68 vp,.ins,.con 69 vl,.ins,.con 70 vp,.ins,.mv 71,.sl 72 [0,1],.kp 73 12,.oins 12,.con 74 (.func (.func 230) #[] #[]),.mk 75,.con 76 vp,.xins 75,.mv 77,.sl 78 [0],.kp 79 13,.oins 13,.con 80 (.func (.func 230) #[] #[]),.mk 81,.con 82 vl,.ins,.mv 83,.sl 84 [0],.kp 85 14,.oins 14,.con 86 (.func (.func 230) #[] #[]),.mk 87,.con 88 vl,.ins,.mv 89,.sl 90 [0],.kp 91 15,.oins 15,.con 92 (.func (.func 232) #[] #[]),.con 93 (.func (.func 230) #[] #[]),.mk 94,.con 95 vp,.ins,.mv 96,.sl 97 [1,2],.kp 98 0,.kp 99 16,.oins 16,.con 100 (.func (.func 231) #[] #[.pointer (some ⟨bo,0,none⟩),.pointer (some ⟨bp,0,none⟩)]),.kp 101 17,.oins 17,.con 102 (.func (.func 231) #[] #[.pointer (some ⟨bo,0,none⟩),.pointer (some ⟨bp,0,none⟩)]),.kp 103 18,.oins 18]
def kDl:List (Option Nat):=[some 15,some 16,some 17,none,some 18,some 19,none,some 20,some 21,some 22,some 23,none,some 24,some 25,some 26,some 27,none,some 28,some 29,some 30,none,some 31,some 32,some 33,none,some 34,some 35,none,some 36,some 37,some 38,some 39,none,some 40,none,some 41,some 42,some 43,some 44,none,some 45,some 46,some 47,none,some 48,none,some 49,some 50,some 51,none,some 52,some 53,some 54,none,some 55,none,some 56,none,some 57,some 58,some 59,none,some 60,some 61,some 62,none,some 63,some 64,some 65,none,some 66,some 67,some 68,none,some 69,none,some 70,none,some 71,some 72,some 73,none,some 74,some 75,some 76,none,some 77,some 78,some 79,none,some 80,some 81,some 82,none,some 83,some 84,some 85,none,some 86,some 87,some 88,none,some 89,some 90,some 91,none,some 92,some 93,some 94,some 95,none,some 96,some 97,some 98,some 99,none,some 100,some 101,none,some 102,some 103,none]
theorem Zaz (bt bo bp:Nat) (vp vl:Value):(kDs bt bo bp vp vl).map Qe=kDl:=rfl
theorem CJ:((List.range 122).all fun i=>(List.range 122).all fun j=>i==j||(kDl.getD i none).isNone||kDl.getD i none != kDl.getD j none)=true:=by decide +kernel
def kd (bt bo bp:Nat) (vp vl:Value) (i:Nat):Od:=(kDs bt bo bp vp vl).getD i .ins
theorem ZaA (bt bo bp:Nat) (vp vl:Value) (i:Nat):Qe (kd bt bo bp vp vl i)=kDl.getD i none:=by
 rw[<-Zaz bt bo bp vp vl];unfold kd;rw[List.getD_eq_getElem?_getD,List.getD_eq_getElem?_getD,List.getElem?_map];cases (kDs bt bo bp vp vl)[i]? with
 | none=>rfl
 | some x=>rfl
theorem ZaB (bt bo bp:Nat) (vp vl:Value):UL (kd bt bo bp vp vl):=fun i j s hi hj=>by
 rw[ZaA] at hi hj;have hl:kDl.length=122:=by decide +kernel
 have hlt:∀i s,kDl.getD i none=some s->i<122:=fun i s h=>by
  rw[List.getD_eq_getElem?_getD] at h
  by_cases hx:i<122
  ·exact hx
  ·rw[List.getElem?_eq_none (by omega)] at h
   cases h
 have h:=CJ;rw[List.all_eq_true] at h;have h:=h i (List.mem_range.2 (hlt i s hi));rw[List.all_eq_true] at h;have h:=h j (List.mem_range.2 (hlt j s hj));rw[hi,hj] at h;simpa using h
theorem Uz.re {w w':World} {r r':Nat} {u:Value} {p q:Bool} (h:Uz w r u p q) (hb:Below w.heap.size w w') (hr:w.heap.size<=r'):Uz w' r' u p q:=by
 obtain⟨b1,b2,e,h1,h2,-,-⟩:=h.is;have l1:=h1.ltB;have l2:=h2.ltB;exact⟨b1,b2,e,h1.below hb,h2.below hb,by omega,by omega⟩
theorem Wu {ds:Nat->Od} {bt:KC} {a0:Act} {W0:World} {o:Oper} {i s:Nat} (hz:a0.tmps.size=105) (hu:UL ds) {v:Value} {b:Nat} (hop:o.op=.load 313 (.tmp 3)) (hd:o.dst=some s) (hds:ds i=.con s v) (hv:ZX a0 3=.pointer (some ⟨b,0,none⟩)) (hB:Blk W0 b #[v]) (hs:7<=s/\s<105/\s≠15/\i≠0):Step ds bt a0 W0 o i:=
 Za8 hz hu (fun a w h1 h2=>by have g1:=toD h1;clear h1;unfold execOp;rw[hop];go_simp;first|done|rfl) hd hds (by decide) hv hB hs hop
theorem UC {ds:Nat->Od} {bt:KC} {a0:Act} {W0:World} {o:Oper} {i s:Nat} (hz:a0.tmps.size=105) (hu:UL ds) {v:Value} {b:Nat} (hop:o.op=.load 311 (.tmp 1)) (hd:o.dst=some s) (hds:ds i=.con s v) (hv:ZX a0 1=.pointer (some ⟨b,0,none⟩)) (hB:Blk W0 b #[v]) (hs:7<=s/\s<105/\s≠15/\i≠0):Step ds bt a0 W0 o i:=
 Za8 hz hu (fun a w h1 h2=>by have g1:=toD h1;clear h1;unfold execOp;rw[hop];go_simp;first|done|rfl) hd hds (by decide) hv hB hs hop
theorem ZaC {ds:Nat->Od} {bt:KC} {bo bp:Nat} {vl:Value} {a0:Act} {W0:World} {l:List Oper} (kb:KB bt bo bp vl a0 W0) (h:KB bt bo bp vl a0 W0->VP (Step ds bt a0 W0) l 0):VP (Step ds bt a0 W0) l 0:=h kb
theorem MS {id:Nat} {Q:Exit->Act->World->Prop} {a:Act} {w:World} {L:List Oper} (ds:Nat->Od) (bt:KC) (hne:L≠[]) (hne2:L.dropLast≠[]) (hm:prog.follows .mixedOrders=true) (hU1:Y0 .any L.dropLast.dropLast (L.dropLast.getLast hne2)=true) (hU2:Y0 .any L.dropLast (L.getLast hne)=true) (hg:L.all (fun o=>o.guard.isNone)=true)
  (hstep:VP (Step ds bt a { w with drawn:=w.drawn+1 }) L.dropLast.dropLast 0)
  (hend:∀listed a' w',(∀i,i<L.dropLast.dropLast.length->listed.getD i false=true)->II ds bt a { w with drawn:=w.drawn+1 } listed a' w'->wpList prog L.toArray Q [L.dropLast.getLast hne2,L.getLast hne] a' w'):(Code.region id L.toArray true).wp prog Q a w:=by
 have hrep:∀(n j:Nat),(Array.replicate n false).getD j false=false:=fun n j=>by
  rw[Array.getD_eq_getD_getElem?,Array.getElem?_replicate]
  split<;>rfl
 refine PL (I:=II ds bt a { w with drawn:=w.drawn+1 }) hne hne2 hm hU1 hU2 hg (fun i o ho e he hb=>?_) ⟨fun _=>False,Below.refl _ _,rfl,rfl,fun _ _=>rfl,fun _ h=>h.elim,fun j hj=>?_,fun h=>?_,fun _ j k hj=>?_,fun j m hj=>?_⟩ hend (fun listed a' w' i o hI ho hi hl=>?_)
 ·have hil:i<L.dropLast.dropLast.length:=by
   have:=(Ag.1 ho).1
   simpa using this
  have ho':L.dropLast.dropLast[i]?=some o:=by simpa using ho
  exact Xx hU1 (by rw[List.getElem?_append_left hil];exact ho') e he hb
 ·rw[hrep] at hj;cases hj
 ·rw[hrep] at h;cases h
 ·rw[hrep] at hj;cases hj
 ·rw[hrep] at hj;cases hj
 ·have ho':L.dropLast.dropLast[i]?=some o:=by simpa using ho
  have h:=Sf hstep i o ho';rw[Nat.zero_add] at h;exact h listed a' w' hI hi (fun j hj=>by obtain⟨e,he,rfl,hb⟩:=hj;exact hl e he hb)
theorem Zb2 (w:World):Calls prog 183 #[] w fun e w'=>∃r bt vp vl es c X,e=.returned (.map (some r))/\w'.heap[r]?=some (.map es c)/\TB ⟨bt,vp⟩ X w' r/\(ZU w' r 4/\ZU w' r 5/\ZU w' r 13)/\(∀b,X b->Ud vp w' b)/\w'.heap[bt]?=some (.map (Xc [(4,vp),(5,vl),(6,vl)]) 3)/\Uz w' r vp true false/\Uz w' r vl false false/\Below w.heap.size w w':=by
 have hmk:=fun (w:World)=>show (Instr.makeMap 268 none).run prog w=.ok (.map (some w.heap.size)) (w.alloc (.map (Xc []) 0)) from run_makeMap (P:=prog) 268 w
 go_enter func183,ntmps183;go_wp2_with fail;refine (Vu true false w).mono ?_;rintro e w1 ⟨_,rfl,hb1,b1,b2,rfl,hp1,hp2⟩;go_wp2_with fail;refine (Vu false false w1).mono ?_;rintro e w2 ⟨vl,rfl,hb2,b3,b4,hvl,hl1,hl2⟩;have HVL:=Lh hvl;clear hvl;have hp1:=hp1.below hb2;have hp2:=hp2.below hb2;have hb:=bto hb1 hb2;obtain⟨g1,g2,g3,g4⟩:=V9 w2 (.cells #[(.func (.func 286) #[] #[.pointer (some ⟨b1,0,none⟩),.pointer (some ⟨b2,0,none⟩)])] 311) (.cells #[(.func (.func 230) #[] #[])] 313);have q1:((w2.alloc (.cells #[(.func (.func 286) #[] #[.pointer (some ⟨b1,0,none⟩),.pointer (some ⟨b2,0,none⟩)])] 311)).alloc (.cells #[(.func (.func 230) #[] #[])] 313)).cell? ⟨w2.heap.size,0,none⟩=some (.func (.func 286) #[] #[.pointer (some ⟨b1,0,none⟩),.pointer (some ⟨b2,0,none⟩)]):=Zk g1 0;have j1:=ZJ ((w2.alloc (.cells #[(.func (.func 286) #[] #[.pointer (some ⟨b1,0,none⟩),.pointer (some ⟨b2,0,none⟩)])] 311)).alloc (.cells #[(.func (.func 230) #[] #[])] 313)) (.map (Xc [(4,(.func (.func 286) #[] #[.pointer (some ⟨b1,0,none⟩),.pointer (some ⟨b2,0,none⟩)])),(5,vl),(6,vl)]) 3);have j3:=Zh ((w2.alloc (.cells #[(.func (.func 286) #[] #[.pointer (some ⟨b1,0,none⟩),.pointer (some ⟨b2,0,none⟩)])] 311)).alloc (.cells #[(.func (.func 230) #[] #[])] 313)) (.map (Xc [(4,(.func (.func 286) #[] #[.pointer (some ⟨b1,0,none⟩),.pointer (some ⟨b2,0,none⟩)])),(5,vl),(6,vl)]) 3);rw[g4] at j1;obtain⟨W0,hW0⟩:∃W0,W0=((w2.alloc (.cells #[(.func (.func 286) #[] #[.pointer (some ⟨b1,0,none⟩),.pointer (some ⟨b2,0,none⟩)])] 311)).alloc (.cells #[(.func (.func 230) #[] #[])] 313)).alloc (.map (Xc [(4,(.func (.func 286) #[] #[.pointer (some ⟨b1,0,none⟩),.pointer (some ⟨b2,0,none⟩)])),(5,vl),(6,vl)]) 3):=⟨_,rfl⟩
 rw[<-hW0] at j1 j3;have hb03:=bto g3 j3;have m1:=hp1.ltB;have m2:=hp2.ltB;have m3:=hl1.ltB;have m4:=hl2.ltB;have k1:=Zv g1 j3;have k2:=Zv g2 j3;have HB:=Lh (bto hb hb03);have HW0:=Lh hW0;have HLP:Hid (Uz W0 (w2.heap.size+1) (.func (.func 286) #[] #[.pointer (some ⟨b1,0,none⟩),.pointer (some ⟨b2,0,none⟩)]) true false):=⟨b1,b2,rfl,hp1.below hb03,hp2.below hb03,by omega,by omega⟩
 have HLL:Hid (Uz W0 (w2.heap.size+1) vl false false):=⟨b3,b4,HVL.out,hl1.below hb03,hl2.below hb03,by omega,by omega⟩
 have K1:=Lh k1;have K2:=Lh k2;have J1:=Lh j1;clear hp1 hp2 hl1 hl2 hb g1 g2 g3 g4 j1 j3 hb03 m1 m2 m3 m4 hb1 hb2 k1 k2 hW0 HVL;go_wp2_with (first|(refine XV [] 4 (.func (.func 286) #[] #[.pointer (some ⟨b1,0,none⟩),.pointer (some ⟨b2,0,none⟩)]) rfl (.tmp 10) (.const (Zi 4)) (.tmp 11) rfl underlying268 underlying3 (by first|rfl|(rw[World.size_alloc];rfl)|(rw[World.size_alloc,World.size_alloc];rfl)) rfl rfl (by simp) ?_)|(refine XV [(4,(.func (.func 286) #[] #[.pointer (some ⟨b1,0,none⟩),.pointer (some ⟨b2,0,none⟩)]))] 5 vl rfl (.tmp 10) (.const (Zi 5)) (.tmp 12) rfl underlying268 underlying3 (by first|rfl|(rw[World.size_alloc];rfl)|(rw[World.size_alloc,World.size_alloc];rfl)) rfl rfl (by simp) ?_)|(refine XV [(4,(.func (.func 286) #[] #[.pointer (some ⟨b1,0,none⟩),.pointer (some ⟨b2,0,none⟩)])),(5,vl)] 6 vl rfl (.tmp 10) (.const (Zi 6)) (.tmp 13) rfl underlying268 underlying3 (by first|rfl|(rw[World.size_alloc];rfl)|(rw[World.size_alloc,World.size_alloc];rfl)) rfl rfl (by simp) ?_))
 rw[<-HW0.out];simp only[List.append_eq,List.cons_append,List.nil_append];have hu:=ZaB (w2.heap.size+2) (w2.heap.size+1) w2.heap.size (.func (.func 286) #[] #[.pointer (some ⟨b1,0,none⟩),.pointer (some ⟨b2,0,none⟩)]) vl;refine MS (kd (w2.heap.size+2) (w2.heap.size+1) w2.heap.size (.func (.func 286) #[] #[.pointer (some ⟨b1,0,none⟩),.pointer (some ⟨b2,0,none⟩)]) vl) ⟨w2.heap.size+2,(.func (.func 286) #[] #[.pointer (some ⟨b1,0,none⟩),.pointer (some ⟨b2,0,none⟩)])⟩ (by simp) (by simp) (by kernel_rfl) (by kernel_rfl) (by kernel_rfl) (by kernel_rfl) ?step ?ende
 case step=>
  have hd0:Below W0.heap.size W0 { W0 with drawn:=W0.drawn+1 }:=⟨rfl,rfl,rfl,Nl _,fun _ _=>rfl⟩
  refine ZaC (bo:=w2.heap.size+1) (bp:=w2.heap.size) (vl:=vl) ⟨rfl,rfl,rfl,rfl,rfl,rfl,rfl,⟨_,Zv K2.out hd0⟩,⟨_,Zv K1.out hd0⟩,Zv J1.out hd0,HLP.out.keep (Zz.of_below hd0),HLL.out.keep (Zz.of_below hd0)⟩ (fun kb=>?_)
  simp only[List.dropLast_cons_cons,List.dropLast_singleton];clear HLP HLL K1 K2 J1 HB HW0 q1 hmk;refine⟨Zb1 kb.size hu rfl rfl rfl,?_⟩;refine⟨XW kb.size hu (x:=4) rfl rfl rfl (by decide) kb.s4 (by decide),?_⟩
  refine⟨Nb kb hu (j:=1) (word:=[100,101,112,111,115,105,116]) rfl rfl rfl rfl (Zl rfl) (by decide) (by decide),?_⟩
  refine⟨Yw (k:=1) (jv:=2) rfl rfl rfl rfl (Zl rfl) (Zl rfl) (by decide),?_⟩
  refine⟨XW kb.size hu (x:=4) rfl rfl rfl (by decide) kb.s4 (by decide),?_⟩
  refine⟨Nb kb hu (j:=4) (word:=[119,105,116,104,100,114,97,119]) rfl rfl rfl rfl (Zl rfl) (by decide) (by decide),?_⟩
  refine⟨Yw (k:=2) (jv:=5) rfl rfl rfl rfl (Zl rfl) (Zl rfl) (by decide),?_⟩
  refine⟨Wu kb.size hu rfl rfl rfl kb.s3 kb.hbo (by decide),?_⟩
  refine⟨XW kb.size hu (x:=6) rfl rfl rfl (by decide) kb.s6 (by decide),?_⟩
  refine⟨Ue kb.size hu (ms:=[0]) (fun e w=>by go_simp;first|done|rfl) rfl rfl (by decide),?_⟩
  refine⟨Cz kb hu (jf:=7) (jm:=8) (js:=9) (word:=[98,117,121]) (cls:=3) (ms:=[0]) rfl rfl rfl rfl rfl rfl (Zl rfl) (Zl rfl) (Zl rfl) (by decide) (by decide) (by decide) (by decide) (by decide),?_⟩
  refine⟨Yw (k:=3) (jv:=10) rfl rfl rfl rfl (Zl rfl) (Zl rfl) (by decide),?_⟩
  refine⟨Wu kb.size hu rfl rfl rfl kb.s3 kb.hbo (by decide),?_⟩
  refine⟨XW kb.size hu (x:=6) rfl rfl rfl (by decide) kb.s6 (by decide),?_⟩
  refine⟨Ue kb.size hu (ms:=[0,10]) (fun e w=>by go_simp;first|done|rfl) rfl rfl (by decide),?_⟩
  refine⟨Cz kb hu (jf:=12) (jm:=13) (js:=14) (word:=[115,101,108,108]) (cls:=3) (ms:=[0,10]) rfl rfl rfl rfl rfl rfl (Zl rfl) (Zl rfl) (Zl rfl) (by decide) (by decide) (by decide) (by decide) (by decide),?_⟩
  refine⟨Yw (k:=4) (jv:=15) rfl rfl rfl rfl (Zl rfl) (Zl rfl) (by decide),?_⟩
  refine⟨Wu kb.size hu rfl rfl rfl kb.s3 kb.hbo (by decide),?_⟩
  refine⟨Qf kb.size hu rfl rfl rfl (by decide),?_⟩
  refine⟨UC kb.size hu rfl rfl rfl kb.s1 kb.hbp (by decide),?_⟩
  refine⟨XC (k:=7) (jm:=18) (jv:=19) rfl rfl (.inr ⟨rfl,rfl,rfl⟩) (by decide) rfl (.inr ⟨_,rfl,kb.lp.any⟩) (Zl rfl) (Zl rfl) (by decide),?_⟩
  refine⟨Qg kb.size hu (j:=18) rfl rfl rfl rfl (Zl rfl) (by decide) (fun _=>⟨20,rfl,(Zl rfl)⟩) (by decide),?_⟩
  refine⟨Ue kb.size hu (ms:=[0]) (fun e w=>by go_simp;first|done|rfl) rfl rfl (by decide),?_⟩
  refine⟨Qh kb hu (jf:=17) (jm:=21) (js:=22) (word:=[105,110,99,111,109,101]) (cls:=1) (ms:=[0]) rfl rfl rfl rfl rfl rfl (Zl rfl) (Zl rfl) (Zl rfl) (by decide) (by decide) (by decide) (by decide) (by decide),?_⟩
  refine⟨Yw (k:=5) (jv:=23) rfl rfl rfl rfl (Zl rfl) (Zl rfl) (by decide),?_⟩
  refine⟨XW kb.size hu (x:=4) rfl rfl rfl (by decide) kb.s4 (by decide),?_⟩
  refine⟨Nb kb hu (j:=25) (word:=[101,120,112,101,110,115,101]) rfl rfl rfl rfl (Zl rfl) (by decide) (by decide),?_⟩
  refine⟨Yw (k:=6) (jv:=26) rfl rfl rfl rfl (Zl rfl) (Zl rfl) (by decide),?_⟩
  refine⟨XW kb.size hu (x:=5) rfl rfl rfl (by decide) kb.s5 (by decide),?_⟩
  refine⟨Wu kb.size hu rfl rfl rfl kb.s3 kb.hbo (by decide),?_⟩
  refine⟨Qf kb.size hu rfl rfl rfl (by decide),?_⟩
  refine⟨UC kb.size hu rfl rfl rfl kb.s1 kb.hbp (by decide),?_⟩
  refine⟨XC (k:=4) (jm:=30) (jv:=31) rfl rfl (.inl ⟨rfl,by decide⟩) (by decide) rfl (.inr ⟨_,rfl,kb.lp.any⟩) (Zl rfl) (Zl rfl) (by decide),?_⟩
  refine⟨UC kb.size hu rfl rfl rfl kb.s1 kb.hbp (by decide),?_⟩
  refine⟨XC (k:=5) (jm:=30) (jv:=33) rfl rfl (.inl ⟨rfl,by decide⟩) (by decide) rfl (.inr ⟨_,rfl,kb.lp.any⟩) (Zl rfl) (Zl rfl) (by decide),?_⟩
  refine⟨Qg kb.size hu (j:=30) rfl rfl rfl rfl (Zl rfl) (by decide) (fun h=>absurd h (by decide)) (by decide),?_⟩
  refine⟨Ue kb.size hu (ms:=[1,2]) (fun e w=>by go_simp;first|done|rfl) rfl rfl (by decide),?_⟩
  refine⟨Qh kb hu (jf:=29) (jm:=35) (js:=36) (word:=[99,111,110,118,101,114,116]) (cls:=2) (ms:=[1,2]) rfl rfl rfl rfl rfl rfl (Zl rfl) (Zl rfl) (Zl rfl) (by decide) (by decide) (by decide) (by decide) (by decide),?_⟩
  refine⟨Ht kb hu (jf:=28) (jx:=37) rfl rfl rfl rfl rfl (Zl rfl) (Zl rfl) (by decide) (by decide),?_⟩
  refine⟨Yw (k:=7) (jv:=38) rfl rfl rfl rfl (Zl rfl) (Zl rfl) (by decide),?_⟩
  refine⟨Wu kb.size hu rfl rfl rfl kb.s3 kb.hbo (by decide),?_⟩
  refine⟨Qf kb.size hu rfl rfl rfl (by decide),?_⟩
  refine⟨XW kb.size hu (x:=2) rfl rfl rfl (by decide) kb.s2 (by decide),?_⟩
  refine⟨XC (k:=7) (jm:=41) (jv:=42) rfl rfl (.inl ⟨rfl,by decide⟩) (by decide) rfl (.inr ⟨_,rfl,kb.ll.any⟩) (Zl rfl) (Zl rfl) (by decide),?_⟩
  refine⟨UC kb.size hu rfl rfl rfl kb.s1 kb.hbp (by decide),?_⟩
  refine⟨XC (k:=8) (jm:=41) (jv:=44) rfl rfl (.inl ⟨rfl,by decide⟩) (by decide) rfl (.inr ⟨_,rfl,kb.lp.any⟩) (Zl rfl) (Zl rfl) (by decide),?_⟩
  refine⟨Qg kb.size hu (j:=41) rfl rfl rfl rfl (Zl rfl) (by decide) (fun h=>absurd h (by decide)) (by decide),?_⟩
  refine⟨Ue kb.size hu (ms:=[0]) (fun e w=>by go_simp;first|done|rfl) rfl rfl (by decide),?_⟩
  refine⟨Qh kb hu (jf:=40) (jm:=46) (js:=47) (word:=[115,112,108,105,116]) (cls:=1) (ms:=[0]) rfl rfl rfl rfl rfl rfl (Zl rfl) (Zl rfl) (Zl rfl) (by decide) (by decide) (by decide) (by decide) (by decide),?_⟩
  refine⟨Yw (k:=8) (jv:=48) rfl rfl rfl rfl (Zl rfl) (Zl rfl) (by decide),?_⟩
  refine⟨Wu kb.size hu rfl rfl rfl kb.s3 kb.hbo (by decide),?_⟩
  refine⟨Qf kb.size hu rfl rfl rfl (by decide),?_⟩
  refine⟨XW kb.size hu (x:=2) rfl rfl rfl (by decide) kb.s2 (by decide),?_⟩
  refine⟨XC (k:=7) (jm:=51) (jv:=52) rfl rfl (.inl ⟨rfl,by decide⟩) (by decide) rfl (.inr ⟨_,rfl,kb.ll.any⟩) (Zl rfl) (Zl rfl) (by decide),?_⟩
  refine⟨UC kb.size hu rfl rfl rfl kb.s1 kb.hbp (by decide),?_⟩
  refine⟨XC (k:=8) (jm:=51) (jv:=54) rfl rfl (.inl ⟨rfl,by decide⟩) (by decide) rfl (.inr ⟨_,rfl,kb.lp.any⟩) (Zl rfl) (Zl rfl) (by decide),?_⟩
  refine⟨Zb0 kb.size hu (p:=false) (q:=true) (fun e w=>by go_simp;first|done|rfl) rfl rfl (by decide),?_⟩
  refine⟨XC (k:=9) (jm:=51) (jv:=56) rfl rfl (.inl ⟨rfl,by decide⟩) (by decide) rfl (.inl rfl) (Zl rfl) (Zl rfl) (by decide),?_⟩
  refine⟨Qg kb.size hu (j:=51) rfl rfl rfl rfl (Zl rfl) (by decide) (fun h=>absurd h (by decide)) (by decide),?_⟩
  refine⟨Ue kb.size hu (ms:=[0,1]) (fun e w=>by go_simp;first|done|rfl) rfl rfl (by decide),?_⟩
  refine⟨Qh kb hu (jf:=50) (jm:=58) (js:=59) (word:=[115,112,105,110,111,102,102]) (cls:=1) (ms:=[0,1]) rfl rfl rfl rfl rfl rfl (Zl rfl) (Zl rfl) (Zl rfl) (by decide) (by decide) (by decide) (by decide) (by decide),?_⟩
  refine⟨Yw (k:=9) (jv:=60) rfl rfl rfl rfl (Zl rfl) (Zl rfl) (by decide),?_⟩
  refine⟨Wu kb.size hu rfl rfl rfl kb.s3 kb.hbo (by decide),?_⟩
  refine⟨Ue kb.size hu (ms:=[0,11]) (fun e w=>by go_simp;first|done|rfl) rfl rfl (by decide),?_⟩
  refine⟨CH kb hu (jf:=62) (js:=63) (word:=[101,120,99,104,97,110,103,101]) (cls:=1) (ms:=[0,11]) rfl rfl rfl rfl rfl (Zl rfl) (Zl rfl) (by decide) (by decide) (by decide) (by decide),?_⟩
  refine⟨Yw (k:=10) (jv:=64) rfl rfl rfl rfl (Zl rfl) (Zl rfl) (by decide),?_⟩
  refine⟨Wu kb.size hu rfl rfl rfl kb.s3 kb.hbo (by decide),?_⟩
  refine⟨Ue kb.size hu (ms:=[0,3,12]) (fun e w=>by go_simp;first|done|rfl) rfl rfl (by decide),?_⟩
  refine⟨CH kb hu (jf:=66) (js:=67) (word:=[101,108,101,99,116]) (cls:=4) (ms:=[0,3,12]) rfl rfl rfl rfl rfl (Zl rfl) (Zl rfl) (by decide) (by decide) (by decide) (by decide),?_⟩
  refine⟨Yw (k:=11) (jv:=68) rfl rfl rfl rfl (Zl rfl) (Zl rfl) (by decide),?_⟩
  refine⟨Wu kb.size hu rfl rfl rfl kb.s3 kb.hbo (by decide),?_⟩
  refine⟨Qf kb.size hu rfl rfl rfl (by decide),?_⟩
  refine⟨UC kb.size hu rfl rfl rfl kb.s1 kb.hbp (by decide),?_⟩
  refine⟨XC (k:=4) (jm:=71) (jv:=72) rfl rfl (.inl ⟨rfl,by decide⟩) (by decide) rfl (.inr ⟨_,rfl,kb.lp.any⟩) (Zl rfl) (Zl rfl) (by decide),?_⟩
  refine⟨XW kb.size hu (x:=2) rfl rfl rfl (by decide) kb.s2 (by decide),?_⟩
  refine⟨XC (k:=7) (jm:=71) (jv:=74) rfl rfl (.inl ⟨rfl,by decide⟩) (by decide) rfl (.inr ⟨_,rfl,kb.ll.any⟩) (Zl rfl) (Zl rfl) (by decide),?_⟩
  refine⟨UC kb.size hu rfl rfl rfl kb.s1 kb.hbp (by decide),?_⟩
  refine⟨XC (k:=8) (jm:=71) (jv:=76) rfl rfl (.inl ⟨rfl,by decide⟩) (by decide) rfl (.inr ⟨_,rfl,kb.lp.any⟩) (Zl rfl) (Zl rfl) (by decide),?_⟩
  refine⟨Qg kb.size hu (j:=71) rfl rfl rfl rfl (Zl rfl) (by decide) (fun h=>absurd h (by decide)) (by decide),?_⟩
  refine⟨Ue kb.size hu (ms:=[0,1]) (fun e w=>by go_simp;first|done|rfl) rfl rfl (by decide),?_⟩
  refine⟨Qh kb hu (jf:=70) (jm:=78) (js:=79) (word:=[101,120,101,114,99,105,115,101]) (cls:=3) (ms:=[0,1]) rfl rfl rfl rfl rfl rfl (Zl rfl) (Zl rfl) (Zl rfl) (by decide) (by decide) (by decide) (by decide) (by decide),?_⟩
  refine⟨Yw (k:=12) (jv:=80) rfl rfl rfl rfl (Zl rfl) (Zl rfl) (by decide),?_⟩
  refine⟨Wu kb.size hu rfl rfl rfl kb.s3 kb.hbo (by decide),?_⟩
  refine⟨Qf kb.size hu rfl rfl rfl (by decide),?_⟩
  refine⟨UC kb.size hu rfl rfl rfl kb.s1 kb.hbp (by decide),?_⟩
  refine⟨XC (k:=7) (jm:=83) (jv:=84) rfl rfl (.inr ⟨rfl,rfl,rfl⟩) (by decide) rfl (.inr ⟨_,rfl,kb.lp.any⟩) (Zl rfl) (Zl rfl) (by decide),?_⟩
  refine⟨Qg kb.size hu (j:=83) rfl rfl rfl rfl (Zl rfl) (by decide) (fun _=>⟨85,rfl,(Zl rfl)⟩) (by decide),?_⟩
  refine⟨Ue kb.size hu (ms:=[0]) (fun e w=>by go_simp;first|done|rfl) rfl rfl (by decide),?_⟩
  refine⟨Qh kb hu (jf:=82) (jm:=86) (js:=87) (word:=[99,97,112,105,116,97,108]) (cls:=1) (ms:=[0]) rfl rfl rfl rfl rfl rfl (Zl rfl) (Zl rfl) (Zl rfl) (by decide) (by decide) (by decide) (by decide) (by decide),?_⟩
  refine⟨Yw (k:=13) (jv:=88) rfl rfl rfl rfl (Zl rfl) (Zl rfl) (by decide),?_⟩
  refine⟨Wu kb.size hu rfl rfl rfl kb.s3 kb.hbo (by decide),?_⟩
  refine⟨Qf kb.size hu rfl rfl rfl (by decide),?_⟩
  refine⟨XW kb.size hu (x:=2) rfl rfl rfl (by decide) kb.s2 (by decide),?_⟩
  refine⟨XC (k:=7) (jm:=91) (jv:=92) rfl rfl (.inl ⟨rfl,by decide⟩) (by decide) rfl (.inr ⟨_,rfl,kb.ll.any⟩) (Zl rfl) (Zl rfl) (by decide),?_⟩
  refine⟨Qg kb.size hu (j:=91) rfl rfl rfl rfl (Zl rfl) (by decide) (fun h=>absurd h (by decide)) (by decide),?_⟩
  refine⟨Ue kb.size hu (ms:=[0]) (fun e w=>by go_simp;first|done|rfl) rfl rfl (by decide),?_⟩
  refine⟨Qh kb hu (jf:=90) (jm:=94) (js:=95) (word:=[99,97,108,108]) (cls:=1) (ms:=[0]) rfl rfl rfl rfl rfl rfl (Zl rfl) (Zl rfl) (Zl rfl) (by decide) (by decide) (by decide) (by decide) (by decide),?_⟩
  refine⟨Yw (k:=14) (jv:=96) rfl rfl rfl rfl (Zl rfl) (Zl rfl) (by decide),?_⟩
  refine⟨Wu kb.size hu rfl rfl rfl kb.s3 kb.hbo (by decide),?_⟩
  refine⟨Qf kb.size hu rfl rfl rfl (by decide),?_⟩
  refine⟨XW kb.size hu (x:=2) rfl rfl rfl (by decide) kb.s2 (by decide),?_⟩
  refine⟨XC (k:=7) (jm:=99) (jv:=100) rfl rfl (.inl ⟨rfl,by decide⟩) (by decide) rfl (.inr ⟨_,rfl,kb.ll.any⟩) (Zl rfl) (Zl rfl) (by decide),?_⟩
  refine⟨Qg kb.size hu (j:=99) rfl rfl rfl rfl (Zl rfl) (by decide) (fun h=>absurd h (by decide)) (by decide),?_⟩
  refine⟨Ue kb.size hu (ms:=[0]) (fun e w=>by go_simp;first|done|rfl) rfl rfl (by decide),?_⟩
  refine⟨Qh kb hu (jf:=98) (jm:=102) (js:=103) (word:=[112,114,105,99,101]) (cls:=4) (ms:=[0]) rfl rfl rfl rfl rfl rfl (Zl rfl) (Zl rfl) (Zl rfl) (by decide) (by decide) (by decide) (by decide) (by decide),?_⟩
  refine⟨Yw (k:=15) (jv:=104) rfl rfl rfl rfl (Zl rfl) (Zl rfl) (by decide),?_⟩
  refine⟨XW kb.size hu (x:=5) rfl rfl rfl (by decide) kb.s5 (by decide),?_⟩
  refine⟨Wu kb.size hu rfl rfl rfl kb.s3 kb.hbo (by decide),?_⟩
  refine⟨Qf kb.size hu rfl rfl rfl (by decide),?_⟩
  refine⟨UC kb.size hu rfl rfl rfl kb.s1 kb.hbp (by decide),?_⟩
  refine⟨XC (k:=8) (jm:=108) (jv:=109) rfl rfl (.inl ⟨rfl,by decide⟩) (by decide) rfl (.inr ⟨_,rfl,kb.lp.any⟩) (Zl rfl) (Zl rfl) (by decide),?_⟩
  refine⟨Qg kb.size hu (j:=108) rfl rfl rfl rfl (Zl rfl) (by decide) (fun h=>absurd h (by decide)) (by decide),?_⟩
  refine⟨Ue kb.size hu (ms:=[1,2]) (fun e w=>by go_simp;first|done|rfl) rfl rfl (by decide),?_⟩
  refine⟨Qh kb hu (jf:=107) (jm:=111) (js:=112) (word:=[114,97,116,101]) (cls:=4) (ms:=[1,2]) rfl rfl rfl rfl rfl rfl (Zl rfl) (Zl rfl) (Zl rfl) (by decide) (by decide) (by decide) (by decide) (by decide),?_⟩
  refine⟨Ht kb hu (jf:=106) (jx:=113) rfl rfl rfl rfl rfl (Zl rfl) (Zl rfl) (by decide) (by decide),?_⟩
  refine⟨Yw (k:=16) (jv:=114) rfl rfl rfl rfl (Zl rfl) (Zl rfl) (by decide),?_⟩
  refine⟨XW kb.size hu (x:=4) rfl rfl rfl (by decide) kb.s4 (by decide),?_⟩
  refine⟨Nb kb hu (j:=116) (word:=[105,115,115,117,101]) rfl rfl rfl rfl (Zl rfl) (by decide) (by decide),?_⟩
  refine⟨Yw (k:=17) (jv:=117) rfl rfl rfl rfl (Zl rfl) (Zl rfl) (by decide),?_⟩
  refine⟨XW kb.size hu (x:=4) rfl rfl rfl (by decide) kb.s4 (by decide),?_⟩
  refine⟨Nb kb hu (j:=119) (word:=[99,97,110,99,101,108]) rfl rfl rfl rfl (Zl rfl) (by decide) (by decide),?_⟩
  refine⟨Yw (k:=18) (jv:=120) rfl rfl rfl rfl (Zl rfl) (Zl rfl) (by decide),?_⟩
  exact trivial
 case ende=>
  intro listed a' w' hall hI;obtain⟨X,hI⟩:=hI;simp only[List.dropLast_cons_cons,List.dropLast_singleton,List.getLast_cons_cons,List.getLast_singleton];have hl0:=hall 0 (by simp)
  obtain⟨b,k1,k2,k3,k4,k5,k6⟩:=hI.o1 hl0;have h4:ZU w' b 4/\ZU w' b 5/\ZU w' b 13:=⟨k4 16 4 (hall 16 (by simp)) rfl,k4 24 5 (hall 24 (by simp)) rfl,k4 89 13 (hall 89 (by simp)) rfl⟩
  have hXX:=hI.x;have hz:a'.tmps.size=105:=hI.size;have hdf:a'.defers=[]:=hI.dfr;have e1:a'.eval (.tmp 15)=.map (some b):=k1;refine wpList_plain rfl (fun K hK=>ZK (v:=.map (some b)) (w':=w') (by simp[execOp,e1]) (hK _ _ ?_))
  have e2:(a'.put (some 104) (.map (some b))).eval (.tmp 104)=.map (some b):=by
   have:=Wt (a:=a') (d:=104) (s:=104) (v:=.map (some b)) (by rw[hz];decide)
   rw[if_pos rfl] at this;exact this
  refine wpList_plain rfl (fun K hK=>ZK (v:=.map (some b)) (w':=w') (by simp[execOp,e2]) (hK _ _ ?_))
  apply wpList_nil;have e3:(((a'.put (some 104) (.map (some b))).put (some 0) (.map (some b))).tmps).getD 0 undef=.map (some b):=by
   have:=Wt (a:=a'.put (some 104) (.map (some b))) (d:=0) (s:=0) (v:=.map (some b)) (by show 0<(a'.tmps.setIfInBounds _ _).size;rw[Array.size_setIfInBounds,hz];decide)
   rw[if_pos rfl] at this;exact this
  change Exit.then _ _ Exit.normal ((a'.put (some 104) (.map (some b))).put (some 0) (.map (some b))) w';have hdf9:((a'.put (some 104) (.map (some b))).put (some 0) (.map (some b))).defers=[]:=hdf;obtain⟨es,c,o1,o2,o3⟩:=k3;have HEND:Hid (w'.heap[b]?=some (.map es c)/\TB ⟨w2.heap.size+2,(.func (.func 286) #[] #[.pointer (some ⟨b1,0,none⟩),.pointer (some ⟨b2,0,none⟩)])⟩ X w' b/\(ZU w' b 4/\ZU w' b 5/\ZU w' b 13)/\(∀b,X b->Ud (.func (.func 286) #[] #[.pointer (some ⟨b1,0,none⟩),.pointer (some ⟨b2,0,none⟩)]) w' b)/\w'.heap[w2.heap.size+2]?=some (.map (Xc [(4,(.func (.func 286) #[] #[.pointer (some ⟨b1,0,none⟩),.pointer (some ⟨b2,0,none⟩)])),(5,vl),(6,vl)]) 3)/\Uz w' b (.func (.func 286) #[] #[.pointer (some ⟨b1,0,none⟩),.pointer (some ⟨b2,0,none⟩)]) true false/\Uz w' b vl false false/\Below w.heap.size w w'):=by
   have hb0:Below W0.heap.size W0 w':=⟨hI.below.os,hI.below.tape,hI.below.output,hI.below.size,hI.below.block⟩;exact⟨o1,⟨es,c,o1,o2,o3⟩,h4,hXX,Zv J1.out hb0,HLP.out.re hb0 k2,HLL.out.re hb0 k2,bto HB.out hb0⟩
  generalize ((a'.put (some 104) (.map (some b))).put (some 0) (.map (some b)))=a9 at *;clear hI k1 k2 k4 k5 k6 hXX h4 e1 e2 hz hdf o1 o2 o3 hall hl0 hu q1 hmk;go_wp2;refine bodyPost_ret (v:=.map (some b)) ?_ hdf9 ?_
  ·have e4:a9.tmps[0]?.getD undef=.map (some b):=by rw[<-Array.getD_eq_getD_getElem?];exact e3
   simp[results,results183,go_sem,e4]
  exact⟨b,_,_,_,es,c,X,rfl,HEND.out⟩
theorem Hu {word:List UInt8} {cls:Int} {H:List Bool} {M:Option Nat} {code:Bool} (h:H.length=13):(ZE word cls H M code)[15]?=some (.map M)/\(ZE word cls H M code)[16]?=some (.bool code):=by
 unfold ZE;rw[List.getElem?_toArray,List.getElem?_toArray,List.getElem?_cons_succ,List.getElem?_cons_succ,List.getElem?_cons_succ,List.getElem?_cons_succ,List.getElem?_append_right (by rw[List.length_map,h];decide),List.getElem?_append_right (by rw[List.length_map,h];decide),List.length_map,h]
 exact⟨rfl,rfl⟩
structure FI (w:World) (M:Option Nat) (k:Nat) (p q:Bool):Prop where
 is:∃bm es c j u b1 b2,M=some bm/\w.heap[bm]?=some (.map es c)/\Instr.findNow (.int .i64) (Zi (k:Int)) es.toList 0=some (some (j,u))/\u=.func (.func 286) #[] #[.pointer (some ⟨b1,0,none⟩),.pointer (some ⟨b2,0,none⟩)]/\Blk w b1 #[.bool p]/\Blk w b2 #[.bool q]
theorem ZaD {w:World} {b k:Nat} (hN:Vn w b) (hk:ZU w b k):∃p q,FI w (some b) k p q:=by
 obtain⟨es,c,h1,h2,h3⟩:=hN;obtain⟨es2,c2,g1,e,he,hke⟩:=hk;rw[h1] at g1;cases g1;rcases MapKept.findNow_spec (d:=.int .i64) (k:=Zi (k:Int)) rfl es.toList 0 (fun x hx=>by obtain⟨⟨k,-,hk⟩,-⟩:=h3 x hx;rw[hk];rfl) with ⟨-,h5⟩|⟨j,e',h4,h5,h6⟩
 ·exact absurd hke (h5 e he)
 ·obtain⟨-,p,q,b1,b2,hu,hb1,hb2⟩:=h3 e' (Lm h5);exact⟨p,q,⟨b,es,c,_,_,b1,b2,rfl,h1,h4,hu,hb1,hb2⟩⟩
theorem Qi {f:Fct} {w:World} {word:List UInt8} {cls:Int} {H:List Bool} {M:Option Nat} {code:Bool} {k:Nat} {p q:Bool} {l l':List UInt8} (hG:GE w) (hs:MQ f) (hl:H.length=13) (hk:L9 f k=some (l,l')) (hX:FI w M k p q) :
  Calls prog 184 #[.agg (Zq f),.agg (ZE word cls H M code),Zi (k:Int)] w fun e w'=>e=.returned (Zi (bwE p q l l' (fv l l')))/\Below w.heap.size w w':=by
 obtain⟨g1,g2,g3,g4⟩:=V9 w (.cells (Zq f) 48) (.cells (ZE word cls H M code) 270);obtain⟨bm,es,c,j,u,b1,b2,rfl,h1,h2,h3,h4,h5⟩:=hX.is;obtain⟨hl1,hl2⟩:=Zau hs hk;have CV:=Lh (Cq (f:=f) hk);obtain⟨E,hE⟩:∃E,E=bwE p q l l' (fv l l'):=⟨_,rfl⟩
 rw[<-hE];obtain⟨W0,hW0⟩:∃W0,W0=(w.alloc (.cells (Zq f) 48)).alloc (.cells (ZE word cls H (some bm) code) 270):=⟨_,rfl⟩
 rw[<-hW0] at g1 g2 g3;have X0:Hid (Blk W0 w.heap.size (Zq f)):=⟨_,g1⟩;have X1:Hid (W0.cell? ⟨w.heap.size+1,15,none⟩=some (.map (some bm))):=(Zk g2 15).trans (Hu hl).1;have HM:=Lh (Zv h1 g3);have HF:=Lh h2;have H4:=Lh (h4.below g3);have H5:=Lh (h5.below g3);have HB:=Lh g3;have HU:=Lh h3;have CB:Hid (∀w',GE w'->Blk w' b1 #[.bool p]->Blk w' b2 #[.bool q]->Calls prog 286 #[.agg #[Zg l,Zg l'],.pointer (some ⟨b1,0,none⟩),.pointer (some ⟨b2,0,none⟩)] w' fun e w''=>e=.returned (Zi E)/\Below w'.heap.size w' w''):=fun w' hG' k1 k2=>by
  rw[hE];exact Hl p q (PR (k:=1000) hl1 hl2 (by decide)) hG' k1 k2
 have HW0:=Lh hW0;have HK:Hid (4<=k/\k<=9):=by
  show _/\_;unfold L9 at hk
  split at hk<;>first|(cases hk;omega)|cases hk
 clear g1 g2 g3 g4 h1 h2 h3 h4 h5 hl1 hl2 hE hW0 hX hs hk hl;have k0:((k:Int)==0)=false:=by rw[Bn];have:=HK.out;omega
 have k1:((k:Int)==1)=false:=by rw[Bn];have:=HK.out;omega
 have k2:((k:Int)==2)=false:=by rw[Bn];have:=HK.out;omega
 have k3:((k:Int)==3)=false:=by rw[Bn];have:=HK.out;omega
 have k10:((k:Int)==10)=false:=by rw[Bn];have:=HK.out;omega
 have k11:((k:Int)==11)=false:=by rw[Bn];have:=HK.out;omega
 have k12:((k:Int)==12)=false:=by rw[Bn];have:=HK.out;omega
 have e0:¬(k:Int)=0:=by have:=HK.out;omega
 have e1:¬(k:Int)=1:=by have:=HK.out;omega
 have e2:¬(k:Int)=2:=by have:=HK.out;omega
 have e3:¬(k:Int)=3:=by have:=HK.out;omega
 have e10:¬(k:Int)=10:=by have:=HK.out;omega
 have e11:¬(k:Int)=11:=by have:=HK.out;omega
 have e12:¬(k:Int)=12:=by have:=HK.out;omega
 go_enter func184,ntmps184;go_wp2_with fail;rw[<-HW0.out];refine Zx (by kernel_rfl) (by kernel_rfl) ?_
 refine PeV ?_;refine PeW (fun ρ wz hw=>by have q0:wz.cell? ⟨w.heap.size+1,15,none⟩=some (.map (some bm)):=(World.cell?_of_block (hw.block _ (World.block_lt_of_cell? _ _ X1.out))).trans X1.out;go_simp;try rfl) ?_
 refine PeV ?_;refine PkV u (fun _=>rfl) (fun ρ wz hw=>by have q0:=Up (P:=prog) (mty:=268) (key:=Zi (k:Int)) underlying268 underlying3 rfl (Zv HM.out hw) HF.out false;go_simp;try rfl) ?_
 refine PkV (.agg (Zq f)) (fun _=>rfl) (fun ρ wz hw=>WE 48 _ rfl w.heap.size rfl (Zq f) (X0.out.below hw) underlying48 rfl ZN) ?_
 refine PeV ?_;refine PeC (fun wz hw=>CV.out.of hG (bto HB.out hw)) ?_
 refine PkC 286 #[.agg #[Zg l,Zg l'],.pointer (some ⟨b1,0,none⟩),.pointer (some ⟨b2,0,none⟩)] _ (fun _=>rfl) (fun ρ wz hw=>by rw[HU.out];go_simp;try rfl) (fun wz hw=>CB.out wz (hG.below (bto HB.out hw)) (H4.out.below hw) (H5.out.below hw)) ?_
 refine PeV ?_;refine ZY (fun ρ w9 hF=>?_)
 have hb9:=bto HB.out hF.below;clear hF;go_wp2;go_ret;exact⟨rfl,hb9⟩
def CQ (f:Fct) (ps:List Pk):Nat->Prop
 | 0=>nmE f.ins=0
 | 10=>ps=[]/\0<=val f.q
 | _=>False
structure Qj (w:World) (f:Fct) (ps:List Pk) (os:List Opn):Prop where
 sm:MQ f
 pk:XI w f.pA ps
 pn:ps.length=f.pN
 pc:f.pN<=f.pC
 ps:∀p∈ps,p.lot.length<=1000/\p.q.length<=100
 op:Qa w f.oA os
 on:os.length=f.oN
 os:∀p∈os,Zax p
theorem Qj.below {w w':World} {f:Fct} {ps:List Pk} {os:List Opn} (h:Qj w f ps os) (hb:Below w.heap.size w w'):Qj w' f ps os:=⟨h.sm,h.pk.below hb,h.pn,h.pc,h.ps,h.op.below hb,h.on,h.os⟩
theorem Zb3 {f:Fct} {ps:List Pk} {os:List Opn} {w:World} {word:List UInt8} {cls:Int} {H:List Bool} {M:Option Nat} {code:Bool} {k:Nat} (hG:GE w) (hA:Qj w f ps os) (hl:H.length=13) (hk:k∈Nv) :
  Calls prog 184 #[.agg (Zq f),.agg (ZE word cls H M code),Zi (k:Int)] w fun e w'=>(∃E:Int,e=.returned (Zi E)/\(CQ f ps k->E=0))/\Below w.heap.size w w':=by
 obtain⟨g1,g2,g3,g4⟩:=V9 w (.cells (Zq f) 48) (.cells (ZE word cls H M code) 270);have X0:Hid (Blk ((w.alloc (.cells (Zq f) 48)).alloc (.cells (ZE word cls H M code) 270)) w.heap.size (Zq f)):=⟨_,g1⟩;have X1:Hid (((w.alloc (.cells (Zq f) 48)).alloc (.cells (ZE word cls H M code) 270)).cell? ⟨w.heap.size+1,16,none⟩=some (.bool code)):=(Zk g2 16).trans (Hu hl).2;have HB:=Lh g3;have HA:=Lh (hA.below g3);have hsi:=hA.sm.ins;have hst:=hA.sm.tgt;have hso:=hA.sm.oth;have hsc:=hA.sm.cur;clear g1 g2 g3 g4 hA;simp only[Nv,List.mem_cons,List.not_mem_nil,or_false] at hk;rcases hk with rfl|rfl|rfl|rfl|rfl|rfl|rfl
 ·have q0:((w.alloc (.cells (Zq f) 48)).alloc (.cells (ZE word cls H M code) 270)).cell? ⟨w.heap.size,5,none⟩=some (Zg f.ins):=X0.out.c 5;have C1:=Lh (MP (l:=f.ins) (by omega))
  go_enter func184,ntmps184;go_wp2_with fail
  refine (C1.out.of hG HB.out).mono ?_
  rintro e w1 ⟨rfl,hb1⟩;go_wp2;go_ret;exact⟨⟨_,rfl,fun h=>h⟩,bto HB.out hb1⟩
 ·have q0:((w.alloc (.cells (Zq f) 48)).alloc (.cells (ZE word cls H M code) 270)).cell? ⟨w.heap.size,5,none⟩=some (Zg f.ins):=X0.out.c 5;have q1:((w.alloc (.cells (Zq f) 48)).alloc (.cells (ZE word cls H M code) 270)).cell? ⟨w.heap.size,6,none⟩=some (Zg f.oth):=X0.out.c 6;have q2:((w.alloc (.cells (Zq f) 48)).alloc (.cells (ZE word cls H M code) 270)).cell? ⟨w.heap.size,7,none⟩=some (Zg f.cur):=X0.out.c 7;have q3:=X1.out;cases code with
  | true=>
   have C1:=Lh (fun w=>Hm (l:=f.oth) (by omega) w)
   go_enter func184,ntmps184;go_wp2_with fail;refine (C1.out _).mono ?_;rintro e w1 ⟨⟨b,rfl⟩,hb1⟩;have hbw:=bto HB.out hb1;have q4:w1.cell? ⟨w.heap.size,6,none⟩=some (Zg f.oth):=(X0.out.below hb1).c 6;cases b with
   | false=>
    go_wp2;go_ret;exact⟨⟨_,rfl,fun h=>h.elim⟩,hbw⟩
   | true=>
    by_cases ho:f.oth=f.cur
    ·have e5:(f.oth==f.cur)=true:=by rw[beq_iff_eq];exact ho
     clear ho;go_wp2;go_ret;exact⟨⟨_,rfl,fun h=>h.elim⟩,hbw⟩
    ·have e5:(f.oth==f.cur)=false:=by rw[Bn];exact ho
     clear ho;go_wp2;go_ret;exact⟨⟨_,rfl,fun h=>h.elim⟩,hbw⟩
  | false=>
   have C1:=Lh (MP (l:=f.oth) (by omega))
   generalize nmE f.oth=z at *;go_enter func184,ntmps184;go_wp2_with fail
   refine (C1.out.of hG HB.out).mono ?_
   rintro e w1 ⟨rfl,hb1⟩;have hbw:=bto HB.out hb1;have q4:w1.cell? ⟨w.heap.size,6,none⟩=some (Zg f.oth):=(X0.out.below hb1).c 6
   by_cases hz:z=0
   rotate_left
   ·have e6:(z==0)=false:=by rw[Bn];exact hz
    have e7:decide (z=0)=false:=Df hz;go_wp2;go_ret;exact⟨⟨_,rfl,fun h=>h.elim⟩,hbw⟩
   subst hz
   by_cases ho:f.oth=f.ins
   ·have e5:(f.oth==f.ins)=true:=by rw[beq_iff_eq];exact ho
    clear ho;go_wp2;go_ret;exact⟨⟨_,rfl,fun h=>h.elim⟩,hbw⟩
   ·have e5:(f.oth==f.ins)=false:=by rw[Bn];exact ho
    clear ho;go_wp2;go_ret;exact⟨⟨_,rfl,fun h=>h.elim⟩,hbw⟩
 ·have q0:((w.alloc (.cells (Zq f) 48)).alloc (.cells (ZE word cls H M code) 270)).cell? ⟨w.heap.size,7,none⟩=some (Zg f.cur):=X0.out.c 7;have C1:=Lh (Hm (l:=f.cur) (by omega) ((w.alloc (.cells (Zq f) 48)).alloc (.cells (ZE word cls H M code) 270)))
  go_enter func184,ntmps184;go_wp2_with fail;refine C1.out.mono ?_;rintro e w1 ⟨⟨b,rfl⟩,hb1⟩;have hbw:=bto HB.out hb1;cases b with
  | false=>
   go_wp2;go_ret;exact⟨⟨_,rfl,fun h=>h.elim⟩,hbw⟩
  | true=>
   go_wp2;go_ret;exact⟨⟨_,rfl,fun h=>h.elim⟩,hbw⟩
 ·have q0:((w.alloc (.cells (Zq f) 48)).alloc (.cells (ZE word cls H M code) 270)).cell? ⟨w.heap.size,8,none⟩=some (Zg f.tgt):=X0.out.c 8;have C1:=Lh (MP (l:=f.tgt) (by omega))
  go_enter func184,ntmps184;go_wp2_with fail
  refine (C1.out.of hG HB.out).mono ?_
  rintro e w1 ⟨rfl,hb1⟩;go_wp2;go_ret;exact⟨⟨_,rfl,fun h=>h.elim⟩,bto HB.out hb1⟩
 ·have C1:=Lh (ZbW (hG.below HB.out) HA.out.sm HA.out.pk HA.out.pn HA.out.pc HA.out.ps);go_enter func184,ntmps184;go_wp2_with (refine Zy rfl 48 (.tmp 3) rfl w.heap.size rfl (Zq f) X0.out underlying48 rfl ZN ?_);refine C1.out.mono ?_;rintro e w1 ⟨⟨E,rfl,hE⟩,hb1⟩;have HE:=Lh hE;clear hE;go_wp2;go_ret;exact⟨⟨_,rfl,fun h=>HE.out h.1 h.2⟩,bto HB.out hb1⟩
 ·have C1:=Lh (Cx (hG.below HB.out) HA.out.op HA.out.on HA.out.os);go_enter func184,ntmps184;go_wp2_with (refine Zy rfl 48 (.tmp 3) rfl w.heap.size rfl (Zq f) X0.out underlying48 rfl ZN ?_);refine C1.out.mono ?_;rintro e w1 ⟨⟨E,rfl⟩,hb1⟩;go_wp2;go_ret;exact⟨⟨_,rfl,fun h=>h.elim⟩,bto HB.out hb1⟩
 ·have q0:((w.alloc (.cells (Zq f) 48)).alloc (.cells (ZE word cls H M code) 270)).cell? ⟨w.heap.size,20,none⟩=some (Zi f.choice):=X0.out.c 20
  by_cases hc:f.choice<0
  ·have e5:decide (f.choice<0)=true:=Dt hc;go_enter func184,ntmps184;go_wp2;go_ret;exact⟨⟨_,rfl,fun h=>h.elim⟩,HB.out⟩
  ·have e5:decide (f.choice<0)=false:=Df hc;go_enter func184,ntmps184;go_wp2;go_ret;exact⟨⟨_,rfl,fun h=>h.elim⟩,HB.out⟩
def Qk (w:World) (u:Value) (p q:Bool):Prop:=∃b1 b2,u=.func (.func 286) #[] #[.pointer (some ⟨b1,0,none⟩),.pointer (some ⟨b2,0,none⟩)]/\Blk w b1 #[.bool p]/\Blk w b2 #[.bool q]
theorem Qk.below {w w':World} {u:Value} {p q:Bool} (h:Qk w u p q) (hb:Below w.heap.size w w'):Qk w' u p q:=by
 obtain⟨b1,b2,e,h1,h2⟩:=h;exact⟨b1,b2,e,h1.below hb,h2.below hb⟩
def KXF (w:World) (v:Value):Prop:=∃bt vp vl,KX bt v/\w.heap[bt]?=some (.map (Xc [(4,vp),(5,vl),(6,vl)]) 3)/\Qk w vp true false/\Qk w vl false false
theorem KXF.below {w w':World} {v:Value} (h:KXF w v) (hb:Below w.heap.size w w'):KXF w' v:=by
 obtain⟨bt,vp,vl,h1,h2,h3,h4⟩:=h;exact⟨bt,vp,vl,h1,Zv h2 hb,h3.below hb,h4.below hb⟩
theorem Ij {w:World} {bt:Nat} {vp vl:Value} (h:w.heap[bt]?=some (.map (Xc [(4,vp),(5,vl),(6,vl)]) 3)) (h1:Qk w vp true false) (h2:Qk w vl false false):FI w (some bt) 4 true false/\FI w (some bt) 5 false false/\FI w (some bt) 6 false false:=by
 obtain⟨b1,b2,e1,k1,k2⟩:=h1;obtain⟨b3,b4,e2,k3,k4⟩:=h2;obtain⟨j4,f4⟩:=Qd (kd:=.i64) [(4,vp),(5,vl),(6,vl)] 0 4 vp 0 (by simp) (by simp)
 obtain⟨j5,f5⟩:=Qd (kd:=.i64) [(4,vp),(5,vl),(6,vl)] 0 5 vl 0 (by simp) (by simp)
 obtain⟨j6,f6⟩:=Qd (kd:=.i64) [(4,vp),(5,vl),(6,vl)] 0 6 vl 0 (by simp) (by simp)
 exact⟨⟨bt,_,_,j4,vp,b1,b2,rfl,h,f4,e1,k1,k2⟩,⟨bt,_,_,j5,vl,b3,b4,rfl,h,f5,e2,k3,k4⟩,⟨bt,_,_,j6,vl,b3,b4,rfl,h,f6,e2,k3,k4⟩⟩
def KYF (w:World) (v:Value):Prop:=∃vp word cls H b code,v=.agg (ZE word cls H (some b) code)/\Ud vp w b/\Qk w vp true false/\TP H (fun i=>i=7∨i=0)/\H[7]?=some true/\H[0]?=some true
theorem KYF.below {w w':World} {v:Value} (h:KYF w v) (hb:Below w.heap.size w w'):KYF w' v:=by
 obtain⟨vp,word,cls,H,b,code,e,h1,h2,h3⟩:=h;exact⟨vp,word,cls,H,b,code,e,h1.below hb,h2.below hb,h3⟩
theorem CX {w:World} {b:Nat} {vp:Value} (hN:Vn w b) (hX:Ud vp w b) (hK:ZU w b 7) (hl:Qk w vp true false):FI w (some b) 7 true false:=by
 obtain⟨es,c,h1,h2⟩:=hX;obtain⟨es2,c2,k1,-,k2⟩:=hN;rw[h1] at k1;cases k1;obtain⟨es3,c3,g1,x,g2,g3⟩:=hK;rw[h1] at g1;cases g1;rcases MapKept.findNow_spec (d:=.int .i64) (k:=Zi ((7:Nat):Int)) rfl es.toList 0 (fun x hx=>by obtain⟨⟨k,-,hk⟩,-⟩:=k2 x hx;rw[hk];rfl) with ⟨-,h8⟩|⟨j,e,h7,h8,-⟩
 ·exact absurd g3 (h8 x g2)
 ·obtain⟨b1,b2,e1,q1,q2⟩:=hl;have hv:=(h2 e (Lm h8)).2;exact⟨b,es,c,0+j,e.val,b1,b2,rfl,h1,h7,by rw[hv];exact e1,q1,q2⟩
def CY (kd:Int):Prop:=kd=4∨kd=5∨kd=13
def FJ (w:World) (u:Value):Prop:=∃r bt vp vl es c X,u=.map (some r)/\w.heap[r]?=some (.map es c)/\TB ⟨bt,vp⟩ X w r/\(ZU w r 4/\ZU w r 5/\ZU w r 13)/\(∀b,X b->Ud vp w b)/\w.heap[bt]?=some (.map (Xc [(4,vp),(5,vl),(6,vl)]) 3)/\Qk w vp true false/\Qk w vl false false
theorem FJ.below {w w':World} {u:Value} (h:FJ w u) (hb:Below w.heap.size w w'):FJ w' u:=by
 obtain⟨r,bt,vp,vl,es,c,X,e,h1,h2,h3,hX,h4,h5,h6⟩:=h;exact⟨r,bt,vp,vl,es,c,X,e,Zv h1 hb,h2.below hb,⟨h3.1.below hb,h3.2.1.below hb,h3.2.2.below hb⟩,fun b hx=>(hX b hx).below hb,Zv h4 hb,h5.below hb,h6.below hb⟩
def KQ (kd:Int) (w:World) (v:Value):Prop:=KPg w v/\(kd=4->KXF w v)/\(kd=5∨kd=13->KYF w v)
theorem KQ.below {kd:Int} {w w':World} {v:Value} (h:KQ kd w v) (hb:Below w.heap.size w w'):KQ kd w' v:=⟨h.1.below hb,fun e=>(h.2.1 e).below hb,fun e=>(h.2.2 e).below hb⟩
theorem ZcU {w:World} {u:Value} (kd:Int) (h:FJ w u):∃v b,(Instr.lookup 272 u (Zi kd) true).run prog w=.ok (.tuple #[v,.bool b]) w/\KQ kd w v/\(CY kd->b=true):=by
 obtain⟨r,bt,vp,vl,es,c,X,rfl,h1,ho,hk,hX,h4,h5,h6⟩:=h;obtain⟨es2,c2,g1,g2,g3⟩:=ho;rw[h1] at g1;cases g1;rcases MapKept.findNow_spec (d:=.int .i64) (k:=Zi kd) rfl es.toList 0 (fun x hx=>by obtain⟨k,hk,-⟩:=g3 x hx;rw[hk];rfl) with ⟨h7,h8⟩|⟨j,e,h7,h8,h9⟩
 ·have hr:=TI (P:=prog) (mty:=272) (key:=Zi kd) underlying272 underlying3 rfl h1 (zeroValue270 w) h7 true;have hno:∀k:Nat,ZU w r k->kd≠(k:Int):=fun k hk e=>by
   obtain⟨es3,c3,k1,e3,k2,k3⟩:=hk;rw[h1] at k1;cases k1;exact absurd k3 (by rw[e] at h8;exact h8 e3 k2)
  have n4:=hno 4 hk.1;have n5:=hno 5 hk.2.1;have n13:=hno 13 hk.2.2;refine⟨_,_,by rw[if_pos rfl] at hr;exact hr,⟨⟨[],0,List.replicate 13 false,none,false,rfl,rfl,fun i hi=>?_⟩,fun e=>absurd e n4,fun e=>(e.elim n5 n13).elim⟩,fun e=>(e.elim n4 (fun e=>e.elim n5 n13)).elim⟩
  rw[List.getElem?_replicate] at hi
  split at hi<;>cases hi
 ·have hr:=Up (P:=prog) (mty:=272) (key:=Zi kd) underlying272 underlying3 rfl h1 h7 true;obtain⟨k,k1,k2,k3,k4⟩:=g3 e (Lm h8);have hkk:kd=(k:Int):=by
   rw[h9] at k1;injection k1
  refine⟨_,_,by rw[if_pos rfl] at hr;exact hr,⟨k2,fun e4=>⟨bt,vp,vl,k3 (by omega),h4,h5,h6⟩,fun e5=>?_⟩,fun _=>rfl⟩
  obtain⟨word,cls,H,b,code,q1,q2,q3⟩:=k4 (by omega)
  exact⟨vp,word,cls,H,b,code,q1,hX b q2,h5,q3⟩
structure GoodS (f:Fct) (ps:List Pk):Prop where
 key:YE f.key=true
 stamp:0<=f.stamp
 day : -25567<=f.day/\f.day<=84005
 kind:f.kind=4
 g0:CQ f ps 0
 g10:CQ f ps 10
 q:bwE true false f.q [] (fv f.q [])=0
 amt:bwE false false f.amt [] (fv f.amt [])=0
 fee:bwE false false f.fee [] (fv f.fee [])=0
 em:∀k∈[1,2,3,7,8,9,11,12],emB f k=true
def CZ (f:Fct) (k:Nat):Prop:=if k=0 then nmE f.ins=0 else if k=7 then bwE true false f.pn f.pd (fv f.pn f.pd)=0 else emB f k=true
structure Za9 (f:Fct):Prop where
 key:YE f.key=true
 stamp:0<=f.stamp
 day : -25567<=f.day/\f.day<=84005
 fld:∀k,k<13->CZ f k
end Go.Proofs.YtpieeldbamklkaaGreatDoor
