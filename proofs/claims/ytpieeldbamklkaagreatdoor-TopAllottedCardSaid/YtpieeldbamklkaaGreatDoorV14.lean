/- Texts put together: Kq Kr Ks Ku Pd Pe Pf Za Pg Ph Pi Pj Pk Pl Aa Pm Po Pr Bm Pu Pv Px Gp Gr Zs Zr. -/
import Derived.Test.YtpieeldbamklkaaGreatDoorV13
import Derived.Deep.CutBlock
set_option maxHeartbeats 16000000
set_option maxRecDepth 100000
open Go.Proofs.Tryz
namespace Go.Proofs.YtpieeldbamklkaaGreatDoor
open Go.RowKit Go.Shelf Num
theorem ZaE (w:World):Calls prog 183 #[] w fun e w'=>∃u,e=.returned u/\Below w.heap.size w w'/\FJ w' u:=by
 refine (Zb2 w).mono ?_;rintro e w' ⟨r,bt,vp,vl,es,c,X,rfl,h1,h2,h3,hX,h4,h5,h6,h7⟩;obtain⟨b1,b2,e1,k1,k2,-,-⟩:=h5.is;obtain⟨b3,b4,e2,k3,k4,-,-⟩:=h6.is;exact⟨_,rfl,h7,r,bt,vp,vl,es,c,X,rfl,h1,h2,h3,hX,h4,⟨b1,b2,e1,k1,k2⟩,⟨b3,b4,e2,k3,k4⟩⟩
theorem C7 {word:List UInt8} {cls:Int} {H:List Bool} {M:Option Nat} {code:Bool} {k:Nat} {h:Bool} (hk:H[k]?=some h):(ZE word cls H M code)[2+k]?=some (.bool h):=by
 have hlt:=(Lg.1 hk).1;unfold ZE;rw[List.getElem?_toArray,show 2+k=k+1+1 by omega,List.getElem?_cons_succ,List.getElem?_cons_succ,List.getElem?_append_left (by rw[List.length_map];exact hlt),List.getElem?_map,hk]
 rfl
theorem FK (f:Fct) {k:Nat} (hk:k<13) (hn:k∉Nv):∃l l',L9 f k=some (l,l'):=by
 match k,hk with
 | 0,_|1,_|2,_|3,_|10,_|11,_|12,_=>exact absurd (by decide) hn
 | 4,_|5,_|6,_|7,_|8,_|9,_=>exact⟨_,_,rfl⟩
theorem ZaF {f:Fct} {w:World} {word:List UInt8} {cls:Int} {H:List Bool} {M:Option Nat} {code:Bool} (hG:GE w) (hs:MQ f) :
  Calls prog 184 #[.agg (Zq f),.agg (ZE word cls H M code),Zi 0] w fun e w'=>e=.returned (Zi (nmE f.ins))/\Below w.heap.size w w':=by
 obtain⟨g1,g2,g3,g4⟩:=V9 w (.cells (Zq f) 48) (.cells (ZE word cls H M code) 270);have X0:Hid (Blk ((w.alloc (.cells (Zq f) 48)).alloc (.cells (ZE word cls H M code) 270)) w.heap.size (Zq f)):=⟨_,g1⟩;have HB:=Lh g3;have hsi:=hs.ins;have q0:((w.alloc (.cells (Zq f) 48)).alloc (.cells (ZE word cls H M code) 270)).cell? ⟨w.heap.size,5,none⟩=some (Zg f.ins):=X0.out.c 5;have C1:=Lh (MP (l:=f.ins) (by omega))
 clear g1 g2 g3 g4 hs;go_enter func184,ntmps184;go_wp2_with fail
 refine (C1.out.of hG HB.out).mono ?_
 rintro e w1 ⟨rfl,hb1⟩;go_wp2;go_ret;exact⟨rfl,bto HB.out hb1⟩
theorem ZdA {f:Fct} {ps:List Pk} {os:List Opn} {w:World} {word:List UInt8} {cls:Int} {H:List Bool} {M:Option Nat} {code:Bool} {k:Nat} (hG:GE w) (hA:Qj w f ps os) (hl:H.length=13) (hk:k<13) (hH:H[k]?=some true) (hQ:KQ f.kind w (.agg (ZE word cls H M code))) :
  Calls prog 184 #[.agg (Zq f),.agg (ZE word cls H M code),Zi (k:Int)] w fun e w'=>(∃E:Int,e=.returned (Zi E)/\(GoodS f ps->E=0)/\(f.kind=5∨f.kind=13->(E=0↔CZ f k)))/\Below w.heap.size w w':=by
 by_cases hy:f.kind=5∨f.kind=13
 ·have hng:¬GoodS f ps:=fun h=>by have:=h.kind;omega
  obtain⟨vp,word2,cls2,H2,b,code2,e2,hX,hlp,⟨k1,k2⟩,k3,-⟩:=hQ.2.2 hy;obtain⟨-,-,rfl,rfl⟩:=WN hl k1 e2;rcases k2 k hH with rfl|rfl
  ·obtain⟨word3,cls3,H3,M3,code3,e3,g1,g2⟩:=hQ.1;obtain⟨-,-,rfl,rfl⟩:=WN hl g1 e3;rcases g2 7 hH with h|⟨b',e4,hN,hK⟩
   ·exact absurd h (by decide)
   injection e4 with e4
   subst e4;refine (Qi hG hA.sm hl (k:=7) rfl (CX hN hX hK hlp)).mono ?_;rintro e w' ⟨rfl,hb⟩;exact⟨⟨_,rfl,fun h=>absurd h hng,fun _=>Iff.rfl⟩,hb⟩
  ·refine (ZaF hG hA.sm).mono ?_;rintro e w' ⟨rfl,hb⟩;exact⟨⟨_,rfl,fun h=>absurd h hng,fun _=>Iff.rfl⟩,hb⟩
 by_cases hn:k∈Nv
 ·refine (Zb3 hG hA hl hn).mono ?_;rintro e w' ⟨⟨E,rfl,hE⟩,hb⟩;refine⟨⟨E,rfl,fun hg=>hE ?_,fun h=>absurd h hy⟩,hb⟩
  obtain⟨bt,vp,vl,⟨word2,cls2,H2,code2,e2,⟨k1,k2⟩,-⟩,-⟩:=hQ.2.1 hg.kind;obtain⟨-,-,rfl,-⟩:=WN hl k1 e2;rcases k2 k hH with h|h
  ·simp only[Nv,List.mem_cons,List.not_mem_nil,or_false] at hn h;omega
  ·simp only[List.mem_cons,List.not_mem_nil,or_false] at h;rcases h with rfl|rfl
   ·exact hg.g0
   ·exact hg.g10
 ·obtain⟨l,l',hf⟩:=FK f hk hn
  by_cases hk4:f.kind=4
  ·obtain⟨bt,vp,vl,⟨word2,cls2,H2,code2,e2,⟨k1,k2⟩,-⟩,h3,h4,h5⟩:=hQ.2.1 hk4;obtain⟨-,-,rfl,rfl⟩:=WN hl k1 e2;obtain⟨x4,x5,x6⟩:=Ij h3 h4 h5;rcases k2 k hH with h|h
   ·simp only[List.mem_cons,List.not_mem_nil,or_false] at h;rcases h with rfl|rfl|rfl
    ·cases hf;refine (Qi hG hA.sm hl (k:=4) rfl x4).mono ?_;rintro e w' ⟨rfl,hb⟩;exact⟨⟨_,rfl,fun hg=>hg.q,fun h=>absurd h hy⟩,hb⟩
    ·cases hf;refine (Qi hG hA.sm hl (k:=5) rfl x5).mono ?_;rintro e w' ⟨rfl,hb⟩;exact⟨⟨_,rfl,fun hg=>hg.amt,fun h=>absurd h hy⟩,hb⟩
    ·cases hf;refine (Qi hG hA.sm hl (k:=6) rfl x6).mono ?_;rintro e w' ⟨rfl,hb⟩;exact⟨⟨_,rfl,fun hg=>hg.fee,fun h=>absurd h hy⟩,hb⟩
   ·exfalso
    simp only[Nv,List.mem_cons,List.not_mem_nil,or_false] at hn h;omega
  ·obtain⟨word2,cls2,H2,M2,code2,e2,k1,k2⟩:=hQ.1;obtain⟨-,-,rfl,rfl⟩:=WN hl k1 e2;rcases k2 k hH with h|⟨b,rfl,hN,hK⟩
   ·exact absurd h hn
   ·obtain⟨p,q,hX⟩:=ZaD hN hK;refine (Qi hG hA.sm hl hf hX).mono ?_;rintro e w' ⟨rfl,hb⟩;exact⟨⟨_,rfl,fun hg=>absurd hg.kind hk4,fun h=>absurd h hy⟩,hb⟩
theorem Hv {f:Fct} {w:World} {word:List UInt8} {cls:Int} {H:List Bool} {M:Option Nat} {code:Bool} {k:Nat} (hl:H.length=13) (hH:H[k]?=some false) (hQ:KQ f.kind w (.agg (ZE word cls H M code))) (hg:f.kind=5∨f.kind=13):CZ f k↔emB f k=true:=by
 obtain⟨vp,word2,cls2,H2,b,code2,e2,-,-,⟨k1,-⟩,k7,k0⟩:=hQ.2.2 hg;obtain⟨-,-,rfl,-⟩:=WN hl k1 e2;have h0:k≠0:=fun e=>by rw[e,k0] at hH;cases hH
 have h7:k≠7:=fun e=>by rw[e,k7] at hH;cases hH
 unfold CZ;rw[if_neg h0,if_neg h7]
theorem Zb4 {f:Fct} {ps:List Pk} {w:World} {word:List UInt8} {cls:Int} {H:List Bool} {M:Option Nat} {code:Bool} {k:Nat} (hl:H.length=13) (hk:k<13) (hH:H[k]?=some false) (hQ:KQ f.kind w (.agg (ZE word cls H M code))) (hg:GoodS f ps):emB f k=true:=by
 obtain⟨bt,vp,vl,⟨word2,cls2,H2,code2,e2,⟨k1,-⟩,k3⟩,-⟩:=hQ.2.1 hg.kind;obtain⟨-,-,rfl,-⟩:=WN hl k1 e2;refine hg.em k ?_;have hno:¬(k∈[4,5,6]∨k∈[0,10]):=fun h=>by
  have:=k3 k h
  rw[hH] at this;cases this
 simp only[List.mem_cons,List.not_mem_nil,or_false] at hno ⊢;omega
structure Ql (b:Nat) (w w':World):Prop where
 old:∃cs t,w.heap[b]?=some (.cells cs t (0,0))/\cs.size=17
 size:w.heap.size<=w'.heap.size
 block:∀c,c≠b->c<w.heap.size->w'.heap[c]?=w.heap[c]?
section
variable {b:Nat} {w w':World}
theorem Blk.row {c:Nat} {cs:Array Value} (h:Blk w c cs) (hs:cs.size=1) (hr:Ql b w w'):Blk w' c cs:=by
 obtain⟨t,h⟩:=h;obtain⟨cs2,t2,h2,h3⟩:=hr.old;have hne:c≠b:=fun e=>by
  subst e;rw[h] at h2;cases h2;omega
 exact⟨t,(hr.block c hne (Ag.1 h).1).trans h⟩
theorem Ql.map (hr:Ql b w w') {c:Nat} {es:Array MapEntry} {k:Nat} (h:w.heap[c]?=some (.map es k)):w'.heap[c]?=some (.map es k):=by
 obtain⟨cs2,t2,h2,h3⟩:=hr.old;have hne:c≠b:=fun e=>by
  subst e;rw[h] at h2;cases h2
 exact (hr.block c hne (Ag.1 h).1).trans h
theorem Qk.row {u:Value} {p q:Bool} (h:Qk w u p q) (hr:Ql b w w'):Qk w' u p q:=by
 obtain⟨b1,b2,e,h1,h2⟩:=h;exact⟨b1,b2,e,h1.row rfl hr,h2.row rfl hr⟩
theorem YA.row {u:Value} (h:YA w u) (hr:Ql b w w'):YA w' u:=by
 obtain⟨p,q,b1,b2,e,h1,h2⟩:=h;exact⟨p,q,b1,b2,e,h1.row rfl hr,h2.row rfl hr⟩
theorem Vn.row {c:Nat} (h:Vn w c) (hr:Ql b w w'):Vn w' c:=by
 obtain⟨es,k,h1,h2,h3⟩:=h;exact⟨es,k,hr.map h1,h2,fun e he=>⟨(h3 e he).1,(h3 e he).2.row hr⟩⟩
theorem ZU.row {c i:Nat} (h:ZU w c i) (hr:Ql b w w'):ZU w' c i:=by
 obtain⟨es,k,h1,h2⟩:=h;exact⟨es,k,hr.map h1,h2⟩
theorem KPg.row {v:Value} (h:KPg w v) (hr:Ql b w w'):KPg w' v:=by
 obtain⟨word,cls,H,M,code,e,h1,h2⟩:=h;refine⟨word,cls,H,M,code,e,h1,fun i hi=>(h2 i hi).imp id ?_⟩
 rintro⟨c,e2,h3,h4⟩;exact⟨c,e2,h3.row hr,h4.row hr⟩
theorem KXF.row {v:Value} (h:KXF w v) (hr:Ql b w w'):KXF w' v:=by
 obtain⟨bt,vp,vl,h1,h2,h3,h4⟩:=h;exact⟨bt,vp,vl,h1,hr.map h2,h3.row hr,h4.row hr⟩
theorem Ud.row {vp:Value} {c:Nat} (h:Ud vp w c) (hr:Ql b w w'):Ud vp w' c:=by
 obtain⟨es,k,h1,h2⟩:=h;exact⟨es,k,hr.map h1,h2⟩
theorem KYF.row {v:Value} (h:KYF w v) (hr:Ql b w w'):KYF w' v:=by
 obtain⟨vp,word,cls,H,c,code,e,h1,h2,h3⟩:=h;exact⟨vp,word,cls,H,c,code,e,h1.row hr,h2.row hr,h3⟩
theorem KQ.row {kd:Int} {v:Value} (h:KQ kd w v) (hr:Ql b w w'):KQ kd w' v:=⟨h.1.row hr,fun e=>(h.2.1 e).row hr,fun e=>(h.2.2 e).row hr⟩
end
theorem U7 {P:Program} {Q:Exit->Act->World->Prop} {id:Nat} {a:Act} {w:World} {I:Array Bool->Act->World->Prop} {L:List Oper} (hm:P.follows .mixedOrders=true) (hg:L.all (fun o=>o.guard.isNone)=true)
  (hbk:((List.range L.length).all fun i=>(L.getD i default).after.toList.all fun e=>!Region.binds .any e||decide (e.on<i))=true)
  (h0:I (Array.replicate L.length false) a { w with drawn:=w.drawn+1 })
  (hend:∀listed a w,(∀i,i<L.length->listed.getD i false=true)->I listed a w->Q .normal a w)
  (hstep:VP (fun o i=>∀listed a w,I listed a w->listed.getD i true=false->(∀j,ZV o j->listed.getD j false=true)->o.wp P a w (I (listed.setIfInBounds i true)) (WI fun _ _=>False)) L 0):(Code.region id L.toArray true).wp P Q a w:=by
 refine Nu (I:=I) hm (fun i o ho e he hb=>?_) (by simpa using h0) (fun listed a w h=>hend listed a w (by simpa using h)) (fun listed a w i o hI ho hi hl=>?_)
 ·have ho':L[i]?=some o:=by simpa using ho
  have hlt:=(Lg.1 ho').1;rw[List.all_eq_true] at hbk;have h1:=hbk i (List.mem_range.2 hlt);rw[List.all_eq_true] at h1;have h2:L.getD i default=o:=by rw[List.getD_eq_getElem?_getD,ho'];rfl
  rw[h2] at h1;have h3:=h1 e (Array.mem_toList_iff.2 he);rw[hb] at h3;simpa using h3
 ·have ho':L[i]?=some o:=by simpa using ho
  have hgo:o.guard=none:=by
   have:=(List.all_eq_true.1 hg) o (Lm ho')
   simpa using this
  have h:=Sf hstep i o ho';rw[Nat.zero_add] at h;have h2:=h listed a w hI hi (fun j hj=>by obtain⟨e,he,rfl,hb⟩:=hj;exact hl e he hb)
  unfold wpOp;simp only[ho,YD hgo,if_true];exact .inl (Pz h2)
def TQ (kd:Int) (w:World) (u:Value):Prop:=∃v b,u=.tuple #[v,.bool b]/\KQ kd w v/\(CY kd->b=true)
theorem TQ.below {kd:Int} {w w':World} {u:Value} (h:TQ kd w u) (hb:Below w.heap.size w w'):TQ kd w' u:=by
 obtain⟨v,b,e,h1,h2⟩:=h;exact⟨v,b,e,h1.below hb,h2⟩
theorem TQ.row {kd:Int} {b:Nat} {w w':World} {u:Value} (h:TQ kd w u) (hb:Ql b w w'):TQ kd w' u:=by
 obtain⟨v,b,e,h1,h2⟩:=h;exact⟨v,b,e,h1.row hb,h2⟩
theorem KQ.agg {kd:Int} {w:World} {v:Value} (h:KQ kd w v):∃cs,v=.agg cs/\cs.size=17/\cs.all (·.oneCell')=true:=by
 obtain⟨word,cls,H,M,code,e,h1,-⟩:=h.1;exact⟨_,e,XG h1,U6⟩
def FRc (f:Fct) (w:World) (u3 u4 u32 u33 u34 u35 u36 u37 u38:Value):Act:=⟨#[.agg (Zq f),.pointer (some ⟨w.heap.size,0,none⟩),Zi 0,u3,u4,undef,undef,.pointer (some ⟨w.heap.size,0,none⟩),Zg f.key,.bool true,.bool false,.pointer (some ⟨w.heap.size,1,none⟩),Zi f.stamp,.bool false,.pointer (some ⟨w.heap.size,2,none⟩),.bool false,undef,undef,undef,undef,undef,undef,undef,undef,.pointer (some ⟨w.heap.size,3,none⟩),Zi f.day,.bool false,.bool false,.pointer (some ⟨w.heap.size,3,none⟩),Zi f.day,.bool false,.bool false,u32,u33,u34,u35,u36,u37,u38,undef,undef,undef,undef,undef,undef,undef,undef,undef,undef,undef,undef,undef,undef,undef,undef,undef,undef,undef,undef,undef],[]⟩
structure CF (f:Fct) (w w1:World) (L:Array Bool) (w':World) (u3 u4 u32 u33 u34 u35 u36 u37 u38:Value):Prop where
 b:Below w1.heap.size w1 w'
 f0:L.getD 0 false=true->L.getD 8 false=false->FJ w' u33
 f1:L.getD 1 false=true->u34=.pointer (some ⟨w.heap.size,4,none⟩)
 f2:L.getD 2 false=true->u35=Zi f.kind
 f3:L.getD 3 false=true->L.getD 8 false=false->TQ f.kind w' u36
 f4:L.getD 4 false=true->TQ f.kind w' u32
 f5:L.getD 5 false=true->KQ f.kind w' u37
 f6:L.getD 6 false=true->∃b,u38=.bool b/\(CY f.kind->b=true)
 f7:L.getD 7 false=true->∃b cs,u3=.pointer (some ⟨b,0,none⟩)/\w1.heap.size<=b/\w'.heap[b]?=some (.cells cs 270 (0,0))/\cs.size=17/\(L.getD 8 false=true->u37=.agg cs)
 f8:L.getD 8 false=true->L.getD 0 false=true/\L.getD 3 false=true/\L.getD 4 false=true/\L.getD 5 false=true/\L.getD 7 false=true
 f9:L.getD 9 false=true->u4=u38
 f10:L.getD 9 false=true->L.getD 6 false=true
def CI (f:Fct) (w w1:World) (L:Array Bool) (a:Act) (w':World):Prop:=∃u3 u4 u32 u33 u34 u35 u36 u37 u38:Value,a=FRc f w u3 u4 u32 u33 u34 u35 u36 u37 u38/\CF f w w1 L w' u3 u4 u32 u33 u34 u35 u36 u37 u38
def U8 (f:Fct) (w w1:World) (o:Oper) (i:Nat):Prop:=∀listed a w',CI f w w1 listed a w'->listed.getD i true=false->(∀j,ZV o j->listed.getD j false=true)->o.wp prog a w' (CI f w w1 (listed.setIfInBounds i true)) (WI fun _ _=>False)
theorem C8 (f:Fct) (w w1:World) (n:Nat):CI f w w1 (Array.replicate n false) (FRc f w undef undef undef undef undef undef undef undef undef) { w1 with drawn:=w1.drawn+1 }:=by
 have h:∀j,(Array.replicate n false).getD j false=false:=fun j=>by
  rw[Array.getD_eq_getD_getElem?,Array.getElem?_replicate]
  split<;>rfl
 refine⟨undef,undef,undef,undef,undef,undef,undef,undef,undef,rfl,⟨⟨rfl,rfl,rfl,Nl _,fun _ _=>rfl⟩,fun e=>?_,fun e=>?_,fun e=>?_,fun e=>?_,fun e=>?_,fun e=>?_,fun e=>?_,fun e=>?_,fun e=>?_,fun e=>?_,fun e=>?_⟩⟩<;>exact absurd e (by rw[h];decide)
theorem sg {L:Array Bool} {i j:Nat} (h:(L.setIfInBounds i true).getD j false=true) (hj:i≠j:=by decide):L.getD j false=true:=by rwa [getD_set_ne false hj] at h
theorem sf {L:Array Bool} {i j:Nat} (h:(L.setIfInBounds i true).getD j false=false) (hj:i≠j:=by decide):L.getD j false=false:=by rwa [getD_set_ne false hj] at h
theorem Yu {L:Array Bool} {i:Nat} (h:L.getD i true=false):L.getD i false=false:=by
 rw[Array.getD_eq_getD_getElem?] at h ⊢;cases hx:L[i]? with
 | none=>rfl
 | some x=>rw[hx] at h;exact h
section
variable {f:Fct} {w w1:World} {o:Oper}
theorem cs0 (hrun:∀(a:Act) (w':World),(execOp a.eval o).run prog w'=.ok (.enter 183 #[]) w') (hd:o.dst=some 33):U8 f w w1 o 0:=by
 intro L a w' hI hi hl;obtain⟨u3,u4,u32,u33,u34,u35,u36,u37,u38,rfl,hc⟩:=hI;refine YI (hrun _ w') ?_;refine (ZaE w').mono ?_;rintro ex w2 ⟨u,rfl,hB,hM⟩;refine⟨u,rfl,?_⟩;rw[hd];exact⟨u3,u4,u32,u,u34,u35,u36,u37,u38,rfl,⟨bto hc.b hB,fun _ _=>hM,fun h=>hc.f1 (sg h),fun h=>hc.f2 (sg h),fun h h8=>(hc.f3 (sg h) (sf h8)).below hB,fun h=>(hc.f4 (sg h)).below hB,fun h=>(hc.f5 (sg h)).below hB,fun h=>hc.f6 (sg h),fun h=>by obtain⟨b,cs,q1,q2,q3,q4,q5⟩:=hc.f7 (sg h);exact⟨b,cs,q1,q2,Zv q3 hB,q4,fun h8=>q5 (sg h8)⟩,fun h=>by obtain⟨k0,k3,k4,k5,k7⟩:=hc.f8 (sg h);exact⟨getD_set_true k0,getD_set_true k3,getD_set_true k4,getD_set_true k5,getD_set_true k7⟩,fun h=>hc.f9 (sg h),fun h=>getD_set_true (hc.f10 (sg h))⟩⟩
theorem cs1 (hrun:∀(a:Act) (w':World),a.eval (.tmp 1)=.pointer (some ⟨w.heap.size,0,none⟩)->(execOp a.eval o).run prog w'=.ok (.value (.pointer (some ⟨w.heap.size,4,none⟩))) w') (hd:o.dst=some 34):U8 f w w1 o 1:=by
 intro L a w' hI hi hl;obtain⟨u3,u4,u32,u33,u34,u35,u36,u37,u38,rfl,hc⟩:=hI;refine ZK (hrun _ w' rfl) ?_;rw[hd];exact⟨u3,u4,u32,u33,.pointer (some ⟨w.heap.size,4,none⟩),u35,u36,u37,u38,rfl,⟨hc.b,fun h h8=>hc.f0 (sg h) (sf h8),fun _=>rfl,fun h=>hc.f2 (sg h),fun h h8=>hc.f3 (sg h) (sf h8),fun h=>hc.f4 (sg h),fun h=>hc.f5 (sg h),fun h=>hc.f6 (sg h),fun h=>by obtain⟨b,cs,q1,q2,q3,q4,q5⟩:=hc.f7 (sg h);exact⟨b,cs,q1,q2,q3,q4,fun h8=>q5 (sg h8)⟩,fun h=>by obtain⟨k0,k3,k4,k5,k7⟩:=hc.f8 (sg h);exact⟨getD_set_true k0,getD_set_true k3,getD_set_true k4,getD_set_true k5,getD_set_true k7⟩,fun h=>hc.f9 (sg h),fun h=>getD_set_true (hc.f10 (sg h))⟩⟩
theorem cs2 (hX:Blk w1 w.heap.size (Zq f)) (hw1:ZV o 1) (hrun:∀(a:Act) (w':World),a.eval (.tmp 34)=.pointer (some ⟨w.heap.size,4,none⟩)->w'.cell? ⟨w.heap.size,4,none⟩=some (Zi f.kind)->(execOp a.eval o).run prog w'=.ok (.value (Zi f.kind)) w') (hd:o.dst=some 35):U8 f w w1 o 2:=by
 intro L a w' hI hi hl;obtain⟨u3,u4,u32,u33,u34,u35,u36,u37,u38,rfl,hc⟩:=hI;refine ZK (hrun _ w' (hc.f1 (hl 1 hw1)) ((hX.below hc.b).c 4)) ?_;rw[hd];exact⟨u3,u4,u32,u33,u34,Zi f.kind,u36,u37,u38,rfl,⟨hc.b,fun h h8=>hc.f0 (sg h) (sf h8),fun h=>hc.f1 (sg h),fun _=>rfl,fun h h8=>hc.f3 (sg h) (sf h8),fun h=>hc.f4 (sg h),fun h=>hc.f5 (sg h),fun h=>hc.f6 (sg h),fun h=>by obtain⟨b,cs,q1,q2,q3,q4,q5⟩:=hc.f7 (sg h);exact⟨b,cs,q1,q2,q3,q4,fun h8=>q5 (sg h8)⟩,fun h=>by obtain⟨k0,k3,k4,k5,k7⟩:=hc.f8 (sg h);exact⟨getD_set_true k0,getD_set_true k3,getD_set_true k4,getD_set_true k5,getD_set_true k7⟩,fun h=>hc.f9 (sg h),fun h=>getD_set_true (hc.f10 (sg h))⟩⟩
theorem cs3 (hw0:ZV o 0) (hw2:ZV o 2) (hrun:∀(a:Act) (w':World) (u v:Value),a.eval (.tmp 33)=u->a.eval (.tmp 35)=Zi f.kind->(Instr.lookup 272 u (Zi f.kind) true).run prog w'=.ok v w'->(execOp a.eval o).run prog w'=.ok (.value v) w') (hd:o.dst=some 36):U8 f w w1 o 3:=by
 intro L a w' hI hi hl;obtain⟨u3,u4,u32,u33,u34,u35,u36,u37,u38,rfl,hc⟩:=hI;have h8:L.getD 8 false=false:=by
  cases hx:L.getD 8 false with
  | false=>rfl
  | true=>have:=(hc.f8 hx).2.1;rw[Yu hi] at this;cases this
 obtain⟨v,b,q1,q2,q3⟩:=ZcU f.kind (hc.f0 (hl 0 hw0) h8);refine ZK (hrun _ w' _ _ rfl (hc.f2 (hl 2 hw2)) q1) ?_;rw[hd];exact⟨u3,u4,u32,u33,u34,u35,.tuple #[v,.bool b],u37,u38,rfl,⟨hc.b,fun h h8=>hc.f0 (sg h) (sf h8),fun h=>hc.f1 (sg h),fun h=>hc.f2 (sg h),fun _ _=>⟨v,b,rfl,q2,q3⟩,fun h=>hc.f4 (sg h),fun h=>hc.f5 (sg h),fun h=>hc.f6 (sg h),fun h=>by obtain⟨b,cs,q1,q2,q3,q4,q5⟩:=hc.f7 (sg h);exact⟨b,cs,q1,q2,q3,q4,fun h8=>q5 (sg h8)⟩,fun h=>by obtain⟨k0,k3,k4,k5,k7⟩:=hc.f8 (sg h);exact⟨getD_set_true k0,getD_set_true k3,getD_set_true k4,getD_set_true k5,getD_set_true k7⟩,fun h=>hc.f9 (sg h),fun h=>getD_set_true (hc.f10 (sg h))⟩⟩
theorem cs4 (hw3:ZV o 3) (hrun:∀(a:Act) (w':World) (v:Value),a.eval (.tmp 36)=v->(execOp a.eval o).run prog w'=.ok (.value v) w') (hd:o.dst=some 32):U8 f w w1 o 4:=by
 intro L a w' hI hi hl;obtain⟨u3,u4,u32,u33,u34,u35,u36,u37,u38,rfl,hc⟩:=hI;have h8:L.getD 8 false=false:=by
  cases hx:L.getD 8 false with
  | false=>rfl
  | true=>have:=(hc.f8 hx).2.2.1;rw[Yu hi] at this;cases this
 refine ZK (hrun _ w' _ rfl) ?_;rw[hd];exact⟨u3,u4,u36,u33,u34,u35,u36,u37,u38,rfl,⟨hc.b,fun h h8=>hc.f0 (sg h) (sf h8),fun h=>hc.f1 (sg h),fun h=>hc.f2 (sg h),fun h h8=>hc.f3 (sg h) (sf h8),fun _=>hc.f3 (hl 3 hw3) h8,fun h=>hc.f5 (sg h),fun h=>hc.f6 (sg h),fun h=>by obtain⟨b,cs,q1,q2,q3,q4,q5⟩:=hc.f7 (sg h);exact⟨b,cs,q1,q2,q3,q4,fun h8=>q5 (sg h8)⟩,fun h=>by obtain⟨k0,k3,k4,k5,k7⟩:=hc.f8 (sg h);exact⟨getD_set_true k0,getD_set_true k3,getD_set_true k4,getD_set_true k5,getD_set_true k7⟩,fun h=>hc.f9 (sg h),fun h=>getD_set_true (hc.f10 (sg h))⟩⟩
theorem cs5 (hw4:ZV o 4) (hrun:∀(a:Act) (w':World) (v b:Value),a.eval (.tmp 32)=.tuple #[v,b]->(execOp a.eval o).run prog w'=.ok (.value v) w') (hd:o.dst=some 37):U8 f w w1 o 5:=by
 intro L a w' hI hi hl;obtain⟨u3,u4,u32,u33,u34,u35,u36,u37,u38,rfl,hc⟩:=hI;have h8:L.getD 8 false=false:=by
  cases hx:L.getD 8 false with
  | false=>rfl
  | true=>have:=(hc.f8 hx).2.2.2.1;rw[Yu hi] at this;cases this
 obtain⟨v,b,q1,q2,q3⟩:=hc.f4 (hl 4 hw4);refine ZK (hrun _ w' v _ q1) ?_;rw[hd];exact⟨u3,u4,u32,u33,u34,u35,u36,v,u38,rfl,⟨hc.b,fun h h8=>hc.f0 (sg h) (sf h8),fun h=>hc.f1 (sg h),fun h=>hc.f2 (sg h),fun h h8=>hc.f3 (sg h) (sf h8),fun h=>hc.f4 (sg h),fun _=>q2,fun h=>hc.f6 (sg h),fun h=>by obtain⟨b,cs,r1,r2,r3,r4,r5⟩:=hc.f7 (sg h);exact⟨b,cs,r1,r2,r3,r4,fun h9=>by have h9:=sg h9;rw[h8] at h9;cases h9⟩,fun h=>by obtain⟨k0,k3,k4,k5,k7⟩:=hc.f8 (sg h);exact⟨getD_set_true k0,getD_set_true k3,getD_set_true k4,getD_set_true k5,getD_set_true k7⟩,fun h=>hc.f9 (sg h),fun h=>getD_set_true (hc.f10 (sg h))⟩⟩
theorem cs6 (hw4:ZV o 4) (hrun:∀(a:Act) (w':World) (v b:Value),a.eval (.tmp 32)=.tuple #[v,b]->(execOp a.eval o).run prog w'=.ok (.value b) w') (hd:o.dst=some 38):U8 f w w1 o 6:=by
 intro L a w' hI hi hl;obtain⟨u3,u4,u32,u33,u34,u35,u36,u37,u38,rfl,hc⟩:=hI;obtain⟨v,b,q1,q2,q3⟩:=hc.f4 (hl 4 hw4);refine ZK (hrun _ w' v _ q1) ?_;rw[hd];exact⟨u3,u4,u32,u33,u34,u35,u36,u37,.bool b,rfl,⟨hc.b,fun h h8=>hc.f0 (sg h) (sf h8),fun h=>hc.f1 (sg h),fun h=>hc.f2 (sg h),fun h h8=>hc.f3 (sg h) (sf h8),fun h=>hc.f4 (sg h),fun h=>hc.f5 (sg h),fun _=>⟨b,rfl,q3⟩,fun h=>by obtain⟨b,cs,q1,q2,q3,q4,q5⟩:=hc.f7 (sg h);exact⟨b,cs,q1,q2,q3,q4,fun h8=>q5 (sg h8)⟩,fun h=>by obtain⟨k0,k3,k4,k5,k7⟩:=hc.f8 (sg h);exact⟨getD_set_true k0,getD_set_true k3,getD_set_true k4,getD_set_true k5,getD_set_true k7⟩,fun h=>(by have h9:=hc.f10 (sg h);rw[Yu hi] at h9;cases h9),fun h=>getD_set_true (hc.f10 (sg h))⟩⟩
theorem cs7 (hrun:∀(a:Act) (w':World),(execOp a.eval o).run prog w'=.ok (.value (.pointer (some ⟨w'.heap.size,0,none⟩))) (w'.alloc (.cells #[Zj,Zi 0,.bool false,.bool false,.bool false,.bool false,.bool false,.bool false,.bool false,.bool false,.bool false,.bool false,.bool false,.bool false,.bool false,.map none,.bool false] 270))) (hd:o.dst=some 3):U8 f w w1 o 7:=by
 intro L a w' hI hi hl;obtain⟨u3,u4,u32,u33,u34,u35,u36,u37,u38,rfl,hc⟩:=hI;have hB:=Zh w' (.cells #[Zj,Zi 0,.bool false,.bool false,.bool false,.bool false,.bool false,.bool false,.bool false,.bool false,.bool false,.bool false,.bool false,.bool false,.bool false,.map none,.bool false] 270);have h8:L.getD 8 false=false:=by
  cases hx:L.getD 8 false with
  | false=>rfl
  | true=>have:=(hc.f8 hx).2.2.2.2;rw[Yu hi] at this;cases this
 refine ZK (hrun _ w') ?_;rw[hd];exact⟨.pointer (some ⟨w'.heap.size,0,none⟩),u4,u32,u33,u34,u35,u36,u37,u38,rfl,⟨bto hc.b hB,fun h h8=>(hc.f0 (sg h) (sf h8)).below hB,fun h=>hc.f1 (sg h),fun h=>hc.f2 (sg h),fun h h8=>(hc.f3 (sg h) (sf h8)).below hB,fun h=>(hc.f4 (sg h)).below hB,fun h=>(hc.f5 (sg h)).below hB,fun h=>hc.f6 (sg h),fun _=>⟨w'.heap.size,_,rfl,hc.b.size,ZJ w' _,rfl,fun h9=>by have h9:=sg h9;rw[h8] at h9;cases h9⟩,fun h=>by obtain⟨k0,k3,k4,k5,k7⟩:=hc.f8 (sg h);exact⟨getD_set_true k0,getD_set_true k3,getD_set_true k4,getD_set_true k5,getD_set_true k7⟩,fun h=>hc.f9 (sg h),fun h=>getD_set_true (hc.f10 (sg h))⟩⟩
theorem cs8 (hw0:ZV o 0) (hw3:ZV o 3) (hw4:ZV o 4) (hw5:ZV o 5) (hw7:ZV o 7) (hop:o.op=.store 270 (.tmp 3) (.tmp 37)) (hd:o.dst=none) (hI:(prog.info? 270).map (·.size)=some 17):U8 f w w1 o 8:=by
 intro L a w' hI hi hl;obtain⟨u3,u4,u32,u33,u34,u35,u36,u37,u38,rfl,hc⟩:=hI;obtain⟨b,cs,q1,q2,q3,q4,-⟩:=hc.f7 (hl 7 hw7);have hq:=hc.f5 (hl 5 hw5);obtain⟨cs2,r1,r2,r3⟩:=hq.agg;have hrun:=run_storeVar_row (P:=prog) w' b 270 270 cs cs2 q3 (by rw[r2];exact hI) (by rw[q4,r2]) r3
 have hR:Ql b w' (w'.setRow b cs2):=⟨⟨cs,_,q3,q4⟩,by simp[World.setRow],fun c hc _=>setRow_other w' b c cs2 hc⟩
 have hB:Below w1.heap.size w1 (w'.setRow b cs2):=⟨hc.b.os,hc.b.tape,hc.b.output,Nt hc.b.size hR.size,fun c hlt=>(setRow_other w' b c cs2 (by omega)).trans (hc.b.block c hlt)⟩
 have hself:(L.setIfInBounds 8 true).getD 8 false=true:=by
  have h8:=Yu hi
  by_cases hlt:8<L.size
  ·rw[Array.getD_eq_getD_getElem?,Array.getElem?_setIfInBounds,if_pos rfl,if_pos hlt];rfl
  ·rw[Array.getD_eq_getD_getElem?,Array.getElem?_eq_none (by omega)] at hi
   cases hi
 refine UA (w':=w'.setRow b cs2) ?_ ?_
 ·have hx:(FRc f w u3 u4 u32 u33 u34 u35 u36 u37 u38).eval (.tmp 3)=.pointer (some ⟨b,0,none⟩):=q1;have hy:(FRc f w u3 u4 u32 u33 u34 u35 u36 u37 u38).eval (.tmp 37)=.agg cs2:=r1;unfold execOp;simp only[hop,hx,hy,Instr.storeAt,Instr.sureAddr,Sem.run_bind,Sem.run_pure,Result.andThen_ok,hrun]
 rw[hd];exact⟨u3,u4,u32,u33,u34,u35,u36,u37,u38,rfl,⟨hB,fun _ h8=>(by rw[hself] at h8;cases h8),fun h=>hc.f1 (sg h),fun h=>hc.f2 (sg h),fun _ h8=>(by rw[hself] at h8;cases h8),fun h=>(hc.f4 (sg h)).row hR,fun h=>(hc.f5 (sg h)).row hR,fun h=>hc.f6 (sg h),fun _=>⟨b,cs2,q1,q2,setRow_heap w' b cs cs2 270 (0,0) q3,r2,fun _=>r1⟩,fun _=>⟨getD_set_true (hl 0 hw0),getD_set_true (hl 3 hw3),getD_set_true (hl 4 hw4),getD_set_true (hl 5 hw5),getD_set_true (hl 7 hw7)⟩,fun h=>hc.f9 (sg h),fun h=>getD_set_true (hc.f10 (sg h))⟩⟩
theorem cs9 (hw6:ZV o 6) (hrun:∀(a:Act) (w':World) (v:Value),a.eval (.tmp 38)=v->(execOp a.eval o).run prog w'=.ok (.value v) w') (hd:o.dst=some 4):U8 f w w1 o 9:=by
 intro L a w' hI hi hl;obtain⟨u3,u4,u32,u33,u34,u35,u36,u37,u38,rfl,hc⟩:=hI;refine ZK (hrun _ w' _ rfl) ?_;rw[hd];exact⟨u3,u38,u32,u33,u34,u35,u36,u37,u38,rfl,⟨hc.b,fun h h8=>hc.f0 (sg h) (sf h8),fun h=>hc.f1 (sg h),fun h=>hc.f2 (sg h),fun h h8=>hc.f3 (sg h) (sf h8),fun h=>hc.f4 (sg h),fun h=>hc.f5 (sg h),fun h=>hc.f6 (sg h),fun h=>by obtain⟨b,cs,q1,q2,q3,q4,q5⟩:=hc.f7 (sg h);exact⟨b,cs,q1,q2,q3,q4,fun h8=>q5 (sg h8)⟩,fun h=>by obtain⟨k0,k3,k4,k5,k7⟩:=hc.f8 (sg h);exact⟨getD_set_true k0,getD_set_true k3,getD_set_true k4,getD_set_true k5,getD_set_true k7⟩,fun _=>rfl,fun _=>getD_set_true (hl 6 hw6)⟩⟩
end
theorem MU {id:Nat} {Q:Exit->Act->World->Prop} {f:Fct} {w w1:World} {a:Act} {L:List Oper} (hm:prog.follows .mixedOrders=true) (hg:L.all (fun o=>o.guard.isNone)=true)
  (hbk:((List.range L.length).all fun i=>(L.getD i default).after.toList.all fun e=>!Region.binds .any e||decide (e.on<i))=true) (hl:L.length=10) (ha:a=FRc f w undef undef undef undef undef undef undef undef undef)
  (hstep:VP (U8 f w w1) L 0)
  (hend:∀(u3 u4 u32 u33 u34 u35 u36 u37 u38:Value) (w':World),CF f w w1 (Array.replicate 10 true) w' u3 u4 u32 u33 u34 u35 u36 u37 u38->Q .normal (FRc f w u3 u4 u32 u33 u34 u35 u36 u37 u38) w'):(Code.region id L.toArray true).wp prog Q a w1:=by
 refine U7 (I:=CI f w w1) hm hg hbk (by rw[ha];exact C8 f w w1 _) (fun listed a' w' hall hI=>?_) hstep
 obtain⟨u3,u4,u32,u33,u34,u35,u36,u37,u38,rfl,hc⟩:=hI;have h:∀j,j<10->listed.getD j false=true:=fun j hj=>hall j (by omega)
 refine hend u3 u4 u32 u33 u34 u35 u36 u37 u38 w' ⟨hc.b,fun _ h8=>(by cases h8),fun _=>hc.f1 (h 1 (by decide)),fun _=>hc.f2 (h 2 (by decide)),fun _ h8=>(by cases h8),fun _=>hc.f4 (h 4 (by decide)),fun _=>hc.f5 (h 5 (by decide)),fun _=>hc.f6 (h 6 (by decide)),fun _=>?_,fun _=>⟨rfl,rfl,rfl,rfl,rfl⟩,fun _=>hc.f9 (h 9 (by decide)),fun _=>rfl⟩
 obtain⟨b,cs,q1,q2,q3,q4,q5⟩:=hc.f7 (h 7 (by decide))
 exact⟨b,cs,q1,q2,q3,q4,fun _=>q5 (h 8 (by decide))⟩
theorem C9 {f:Fct} {ps:List Pk} {os:List Opn} {w:World} (hG:GE w) (hA:Qj w f ps os) (hcn:f.canc=false) :
  Calls prog 121 #[.agg (Zq f)] w fun e w'=>(∃E:Int,e=.returned (Zi E)/\(GoodS f ps->E=0)/\(f.kind=5∨f.kind=13->(E=0↔Za9 f)))/\Below w.heap.size w w':=by
 have hb0:=Zh w (.cells (Zq f) 48);have x0:Blk (w.alloc (.cells (Zq f) 48)) w.heap.size (Zq f):=Blk.new w _ 48;have q0:(w.alloc (.cells (Zq f) 48)).cell? ⟨w.heap.size,0,none⟩=some (Zg f.key):=x0.c 0;have hkl:=hA.sm.key;have C1:=Lh ((TH (l:=f.key) (by omega)).e)
 have HA:=Lh hA;have X0:=Lh x0;have HCN:=Lh hcn;clear hkl hA x0 hcn;go_enter func121,ntmps121;go_wp2_with fail
 refine (C1.out.of hG hb0).mono ?_
 rintro e w1 ⟨rfl,hb1⟩;have X1:=Lh (X0.out.below hb1);have HB1:=Lh (bto hb0 hb1);clear hb0 hb1 q0 X0 C1;cases hnk:YE f.key with
 | false=>
  have HN:=Lh hnk;clear hnk;go_wp2;go_ret;exact⟨⟨_,rfl,fun hg=>(by have:=hg.key;rw[HN.out] at this;cases this),fun _=>⟨fun h=>absurd h (by decide),fun hg=>(by have:=hg.key;rw[HN.out] at this;cases this)⟩⟩,HB1.out⟩
 | true=>
 have HNM:=Lh hnk;clear hnk;have q1:w1.cell? ⟨w.heap.size,1,none⟩=some (Zi f.stamp):=X1.out.c 1;have q2:w1.cell? ⟨w.heap.size,2,none⟩=some (.bool false):=(X1.out.c 2).trans (by show some (Value.bool f.canc)=_;rw[HCN.out])
 have q3:w1.cell? ⟨w.heap.size,3,none⟩=some (Zi f.day):=X1.out.c 3
 by_cases hs:f.stamp<0
 ·have e1:decide (f.stamp<0)=true:=Dt hs;have HS:=Lh hs;clear hs;go_wp2;go_ret;exact⟨⟨_,rfl,fun hg=>(by have:=hg.stamp;have:=HS.out;omega),fun _=>⟨fun h=>absurd h (by decide),fun hg=>(by have:=hg.stamp;have:=HS.out;omega)⟩⟩,HB1.out⟩
 have e1:decide (f.stamp<0)=false:=Df hs;have HST:=Lh hs;clear hs
 by_cases hd:f.day < -25567
 ·have e2:decide (f.day < -25567)=true:=Dt hd;have HS:=Lh hd;clear hd;go_wp2;go_ret;exact⟨⟨_,rfl,fun hg=>(by have:=hg.day.1;have:=HS.out;omega),fun _=>⟨fun h=>absurd h (by decide),fun hg=>(by have:=hg.day.1;have:=HS.out;omega)⟩⟩,HB1.out⟩
 have e2:decide (f.day < -25567)=false:=Df hd;have HD1:=Lh hd;clear hd
 by_cases hd:84005<f.day
 ·have e3:decide (84005<f.day)=true:=Dt hd;have HS:=Lh hd;clear hd;go_wp2;go_ret;exact⟨⟨_,rfl,fun hg=>(by have:=hg.day.2;have:=HS.out;omega),fun _=>⟨fun h=>absurd h (by decide),fun hg=>(by have:=hg.day.2;have:=HS.out;omega)⟩⟩,HB1.out⟩
 have e3:decide (84005<f.day)=false:=Df hd;have HD2:=Lh hd;clear hd;go_wp2_with fail;refine MU (f:=f) (w:=w) (by kernel_rfl) (by kernel_rfl) (by kernel_rfl) rfl rfl ?_ ?_
 ·clear e1 e2 e3 q1 q2 q3;refine⟨cs0 (fun a w'=>by go_simp;first|done|rfl) rfl,?_⟩
  refine⟨cs1 (fun a w' h1=>by have g1:=toD h1;clear h1;go_simp;first|done|rfl) rfl,?_⟩
  refine⟨cs2 X1.out (Zl rfl) (fun a w' h1 h2=>by have g1:=toD h1;clear h1;go_simp;first|done|rfl) rfl,?_⟩
  refine⟨cs3 (Zl rfl) (Zl rfl) (fun a w' u v h1 h2 h3=>by have g1:=toD h1;have g2:=toD h2;have g3:(Instr.lookup 272 u (Zi f.kind) true).run prog w'=.ok v w':=h3;clear h1 h2 h3;simp[execOp,Act.eval,g1,g2,g3,Result.andThen]) rfl,?_⟩
  refine⟨cs4 (Zl rfl) (fun a w' v h1=>by have g1:=toD h1;clear h1;go_simp;first|done|rfl) rfl,?_⟩
  refine⟨cs5 (Zl rfl) (fun a w' v b h1=>by have g1:=toD h1;clear h1;go_simp;first|done|rfl) rfl,?_⟩
  refine⟨cs6 (Zl rfl) (fun a w' v b h1=>by have g1:=toD h1;clear h1;go_simp;first|done|rfl) rfl,?_⟩
  refine⟨cs7 (fun a w'=>by go_simp;first|done|rfl) rfl,?_⟩
  refine⟨cs8 (Zl rfl) (Zl rfl) (Zl rfl) (Zl rfl) (Zl rfl) rfl rfl (by kernel_rfl),?_⟩
  exact⟨cs9 (Zl rfl) (fun a w' v h1=>by have g1:=toD h1;clear h1;go_simp;first|done|rfl) rfl,trivial⟩
 intro u3 u4 u32 u33 u34 u35 u36 u37 u38 w2 hc;clear q1 q2 q3 e1 e2 e3;obtain⟨b,cs,rfl,hbb,hbx,hsz,h37⟩:=hc.f7 rfl;obtain⟨bo,rfl,hbo⟩:=hc.f6 rfl;have h4:=hc.f9 rfl;subst h4;have hq:=hc.f5 rfl;have hu:=h37 rfl;subst hu;obtain⟨word,cls,H,M,code,e,hl13,-⟩:=hq.1;injection e with e
 subst e;have hb2:=bto HB1.out hc.b;have X2:=Lh (X1.out.below hc.b);have HB2:=Lh hb2;have HBX:=Lh hbx;have HQ:=Lh hq;have HL:=Lh hl13;have HBO:=Lh hbo;have HBB:=Lh hbb;clear hc h37 hbb hbx hsz hbo hq hl13 hb2 X1 HB1;unfold FRc;cases bo with
 | false=>
  go_wp2;go_ret;exact⟨⟨_,rfl,fun hg=>(by have:=HBO.out (.inl hg.kind);cases this),fun h=>(by have:=HBO.out (.inr h);cases this)⟩,HB2.out⟩
 | true=>
 go_wp2_with fail
 go_loopw [5,6,41] (fun _ _ iv wr=>∃k:Nat,k<=13/\iv=Zi (k:Int)/\Hid (Below w2.heap.size w2 wr)/\Hid (f.kind=5∨f.kind=13->∀j,j<k->CZ f j)) (fun _ _ iv _=>13-(intOf iv).toNat)
 case atStart=>exact⟨0,by decide,rfl,Below.refl _ _,fun _ j hj=>absurd hj (Nat.not_lt_zero j)⟩
 case round=>
  obtain⟨k,hk,rfl,HB,HFL⟩:=hrel
  by_cases hlk:k<13
  rotate_left
  ·have e3:decide (k<13)=false:=Df hlk;have e4:decide ((k:Int)<13)=false:=Df (by omega)
   go_wp2;go_ret;exact⟨⟨_,rfl,fun _=>rfl,fun h=>⟨fun _=>⟨HNM.out,by have:=HST.out;omega,by have:=HD1.out;have:=HD2.out;omega,fun j hj=>HFL.out h j (by omega)⟩,fun _=>rfl⟩⟩,bto HB2.out HB.out⟩
  have e3:decide (k<13)=true:=Dt hlk;have e4:decide ((k:Int)<13)=true:=Dt (by omega)
  obtain⟨h,hH⟩:∃h,H[k]?=some h:=⟨_,List.getElem?_eq_getElem (by rw[HL.out];exact hlk)⟩
  have hbx:=Zv HBX.out HB.out;have q5:wr.cell? ⟨b,2+k,none⟩=some (.bool h):=(Zk hbx (2+k)).trans (C7 hH);have XR:=Lh (X2.out.below HB.out);have HBR:=Lh (bto HB2.out HB.out);have HXR:=Lh hbx;have HHH:=Lh hH;clear hbx hH;have HXB:Hid (Blk wr b (ZE word cls H M code)):=⟨_,HXR.out⟩;have HKI:Hid ((prog.info? 270).map (·.size)=some (ZE word cls H M code).size):=by
   show _=_;rw[XG HL.out]
   kernel_rfl
  cases h with
  | true=>
   have C5:=Lh (ZdA (hG.below HBR.out) (HA.out.below HBR.out) HL.out hlk HHH.out (HQ.out.below HB.out));clear HHH;go_wp2_with (first|(refine Zy rfl 48 (.tmp 1) rfl w.heap.size rfl (Zq f) XR.out underlying48 rfl ZN ?_)|(refine Zy rfl 270 (.tmp 3) rfl b rfl (ZE word cls H M code) HXB.out underlying270 rfl HKI.out ?_))
   refine C5.out.mono ?_
   rintro e w5 ⟨⟨E,rfl,hE⟩,hb5⟩;have HE:=Lh hE;have HB5:=Lh hb5;clear hE hb5 C5 q5
   by_cases h0:E=0
   ·subst h0;go_wp2;go_roundw
    case rel=>exact⟨k+1,by omega,by go_num,bto HB.out HB5.out,fun h j hj=>(Nat.lt_succ_iff_lt_or_eq.1 hj).elim (HFL.out h j) (fun e=>e ▸ (HE.out.2 h).1 (by first|rfl|trivial))⟩
    case measure=>simp[intOf];omega
   ·have HH0:=Lh h0;have e5:decide (E=0)=false:=Df h0;have e6:(E==0)=false:=by rw[Bn];exact h0
    go_wp2;go_ret;exact⟨⟨_,rfl,HE.out.1,fun h=>⟨fun e=>absurd e HH0.out,fun hg=>(HE.out.2 h).2 (hg.fld k hlk)⟩⟩,bto HBR.out HB5.out⟩
  | false=>
   have C6:=Lh (ZbV f hlk wr (hG.below HBR.out));go_wp2_with (refine Zy rfl 48 (.tmp 1) rfl w.heap.size rfl (Zq f) XR.out underlying48 rfl ZN ?_)
   refine C6.out.mono ?_
   rintro e w5 ⟨rfl,hb5⟩;obtain⟨eb,heb⟩:∃eb,eb=emB f k:=⟨_,rfl⟩
   rw[<-heb];have HEB:=Lh heb;have HB5:=Lh hb5;clear heb hb5 C6 q5;cases eb with
   | true=>
    go_wp2;go_roundw
    case rel=>exact⟨k+1,by omega,by go_num,bto HB.out HB5.out,fun h j hj=>(Nat.lt_succ_iff_lt_or_eq.1 hj).elim (HFL.out h j) (fun e=>e ▸ (Hv HL.out HHH.out HQ.out h).2 HEB.out.symm)⟩
    case measure=>simp[intOf];omega
   | false=>
    go_wp2;go_ret;exact⟨⟨_,rfl,fun hg=>(by have:=Zb4 HL.out hlk HHH.out HQ.out hg;rw[<-HEB.out] at this;cases this),fun h=>⟨fun h=>absurd h (by decide),fun hg=>(by have:=(Hv HL.out HHH.out HQ.out h).1 (hg.fld k hlk);rw[<-HEB.out] at this;cases this)⟩⟩,bto HBR.out HB5.out⟩
structure SI (N:Nat) (X Y:Value) (p:Nat) (b:Bool) (a:Act):Prop where
 sz:a.tmps.size=N
 e2:a.eval (.tmp 2)=X
 e3:a.eval (.tmp 3)=Y
 ep:a.eval (.tmp p)=.bool b
 df:a.defers=[]
theorem Ik {a:Act} {d t:Nat} {v:Value} (h:d<a.tmps.size):(a.put (some d) v).eval (.tmp t)=if t=d then v else a.eval (.tmp t):=by
 show (a.tmps.setIfInBounds d v).getD t undef=if t=d then v else a.tmps.getD t undef
 rw[Array.getD_eq_getD_getElem?,Array.getD_eq_getD_getElem?,Array.getElem?_setIfInBounds]
 by_cases e:d=t
 ·subst e;simp[h]
 ·rw[if_neg e,if_neg (Ne.symm e)]
theorem Uf (a:Act) (d:Nat) (v:Value):(a.put (some d) v).tmps.size=a.tmps.size:=Array.size_setIfInBounds
section
variable {P:Program} {ops:Array Oper} {Q:Exit->Act->World->Prop} {rest:List Oper}
theorem Wv {o:Oper} {a:Act} {w:World} {d:Nat} {v:Value} (hw:Region.wanted o (yielded ops a.tmps)=true) (hd:o.dst=some d) (h:(execOp a.eval o).run P w=.ok (.value v) w) (hn:wpList P ops Q rest (a.put (some d) v) w):wpList P ops Q (o::rest) a w:=by
 show (if _ then _ else _)
 rw[if_pos hw];refine .inl ?_;unfold Oper.wp;rw[h,Oper.upon_value,hd];exact hn
theorem Kx {o:Oper} {a:Act} {w:World} {d:Nat} (hw:Region.wanted o (yielded ops a.tmps)=false) (hd:o.dst=some d) (hn:wpList P ops Q rest (a.put (some d) undef) w):wpList P ops Q (o::rest) a w:=by
 show (if _ then _ else _)
 rw[if_neg (by rw[hw];exact Bool.false_ne_true),hd]
 exact hn
theorem yl {a:Act} {j m:Nat} {o:Oper} {b:Bool} (hj:ops[j]?=some o) (hd:o.dst=some m) (he:a.eval (.tmp m)=.bool b):yielded ops a.tmps j=some b:=by
 unfold yielded;rw[hj];show (match (o.dst).bind (a.tmps[·]?) with|some (.bool b)=>some b|_=>none)=_
 rw[hd];show (match a.tmps[m]? with|some (.bool b)=>some b|_=>none)=_
 replace he:(a.tmps[m]?).getD undef=.bool b:=by rw[<-Array.getD_eq_getD_getElem?];exact he
 cases h:a.tmps[m]? with
 | none=>rw[h] at he;cases he
 | some v=>rw[h] at he;replace he:v=.bool b:=he;subst he;rfl
theorem wnt {o:Oper} {a:Act} {j m:Nat} {o1:Oper} {b:Bool} (hg:o.guard=some (j,true)) (hj:ops[j]?=some o1) (hd:o1.dst=some m) (he:a.eval (.tmp m)=.bool b):Region.wanted o (yielded ops a.tmps)=b:=by
 unfold Region.wanted;rw[hg];show (yielded ops a.tmps j==some true)=b;rw[yl hj hd he];cases b<;>rfl
theorem wn0 {o:Oper} {a:Act} (hg:o.guard=none):Region.wanted o (yielded ops a.tmps)=true:=by unfold Region.wanted;rw[hg]
theorem WO {a:Act} {w:World} {N:Nat} {X Y:Value} (p j:Nat) {b:Bool} {o1 o2 o3 o4 o5 o6 o7:Oper} {u1 u2 v1 v2:Value} (S:SI N X Y p b a) (hp:3<p) (hN:p+7<N)
  (hd:o1.dst=some (p+1)/\o2.dst=some (p+2)/\o3.dst=some (p+3)/\o4.dst=some (p+4)/\o5.dst=some (p+5)/\o6.dst=some (p+6)/\o7.dst=some (p+7))
  (hg:o1.guard=none/\o2.guard=some (j,true)/\o3.guard=some (j,true)/\o4.guard=some (j,true)/\o5.guard=some (j,true)/\o6.guard=some (j,true)/\o7.guard=none) (hj:ops[j]?=some o1)
  (h1:∀(a:Act),a.eval (.tmp p)=.bool b->(execOp a.eval o1).run P w=.ok (.value (.bool b)) w)
  (h2:∀(a:Act),a.eval (.tmp 2)=X->(execOp a.eval o2).run P w=.ok (.value u1) w)
  (h3:∀(a:Act),a.eval (.tmp (p+2))=u1->(execOp a.eval o3).run P w=.ok (.value v1) w)
  (h4:∀(a:Act),a.eval (.tmp 3)=Y->(execOp a.eval o4).run P w=.ok (.value u2) w)
  (h5:∀(a:Act),a.eval (.tmp (p+4))=u2->(execOp a.eval o5).run P w=.ok (.value v2) w)
  (h6:∀(a:Act) (K:Act->World->Prop),a.eval (.tmp (p+3))=v1->a.eval (.tmp (p+5))=v2->(∀b' w',Below w.heap.size w w'->K (a.put (some (p+6)) (.bool b')) w')->o6.wp P a w K Q)
  (h7:∀(a:Act) (w':World) (d:Value),a.eval (.tmp (p+1))=.bool b->a.eval (.tmp (p+6))=d->(execOp a.eval o7).run P w'=.ok (.value (bif b then d else .bool false)) w')
  (hn:∀a' b' w',Below w.heap.size w w'->SI N X Y (p+7) b' a'->wpList P ops Q rest a' w'):wpList P ops Q (o1::o2::o3::o4::o5::o6::o7::rest) a w:=by
 obtain⟨d1,d2,d3,d4,d5,d6,d7⟩:=hd;obtain⟨g1,g2,g3,g4,g5,g6,g7⟩:=hg;have E:∀(a:Act),a.tmps.size=N->∀(i t:Nat) (v:Value),i<=7->(a.put (some (p+i)) v).eval (.tmp t)=if t=p+i then v else a.eval (.tmp t):=fun a h i t v hi=>Ik (by omega)
 have T:∀(a:Act),a.tmps.size=N->∀(i:Nat) (v:Value),(a.put (some (p+i)) v).tmps.size=N:=fun a h i v=>(Uf _ _ _).trans h
 obtain⟨sz,e2,e3,ep,df⟩:=S;refine Wv (wn0 g1) d1 (h1 _ ep) ?_;cases b with
 | true=>
  refine Wv (wnt g2 hj d1 (by rw[E _ sz _ _ _ (by decide),if_pos rfl])) d2 (h2 _ (by rw[E _ sz _ _ _ (by decide),if_neg (by omega)];exact e2)) ?_
  have z1:=T _ sz 1 (.bool true);have k2:((a.put (some (p+1)) (.bool true)).eval (.tmp 2)=X/\(a.put (some (p+1)) (.bool true)).eval (.tmp 3)=Y/\(a.put (some (p+1)) (.bool true)).eval (.tmp (p+1))=.bool true):=⟨by rw[E _ sz _ _ _ (by decide),if_neg (by omega)];exact e2,by rw[E _ sz _ _ _ (by decide),if_neg (by omega)];exact e3,by rw[E _ sz _ _ _ (by decide),if_pos rfl]⟩
  have q1:(a.put (some (p+1)) (.bool true)).defers=[]:=df;generalize a.put (some (p+1)) (.bool true)=a1 at z1 k2 q1 ⊢;clear e2 e3 ep df;have step:∀(a1:Act) (i:Nat) (v:Value),a1.tmps.size=N->2<=i->i<=6->(a1.eval (.tmp 2)=X/\a1.eval (.tmp 3)=Y/\a1.eval (.tmp (p+1))=.bool true)->a1.defers=[]->(((a1.put (some (p+i)) v).eval (.tmp 2)=X/\(a1.put (some (p+i)) v).eval (.tmp 3)=Y/\(a1.put (some (p+i)) v).eval (.tmp (p+1))=.bool true)/\(a1.put (some (p+i)) v).defers=[]/\(a1.put (some (p+i)) v).tmps.size=N/\(a1.put (some (p+i)) v).eval (.tmp (p+i))=v/\∀k,k<i->(a1.put (some (p+i)) v).eval (.tmp (p+k))=a1.eval (.tmp (p+k))):=by
   intro a1 i v z hi hi2 ⟨x,y,t⟩ q;refine⟨⟨?_,?_,?_⟩,q,T _ z _ _,?_,fun k hk=>?_⟩
   ·rw[E _ z _ _ _ (by omega),if_neg (by omega)];exact x
   ·rw[E _ z _ _ _ (by omega),if_neg (by omega)];exact y
   ·rw[E _ z _ _ _ (by omega),if_neg (by omega)];exact t
   ·rw[E _ z _ _ _ (by omega),if_pos rfl]
   ·rw[E _ z _ _ _ (by omega),if_neg (by omega)]
  obtain⟨k3,q2,z2,t2,-⟩:=step a1 2 u1 z1 (by decide) (by decide) k2 q1
  generalize a1.put (some (p+2)) u1=a2 at k3 q2 z2 t2 ⊢;refine Wv (wnt g3 hj d1 k3.2.2) d3 (h3 _ t2) ?_;obtain⟨k4,q3,z3,t3,-⟩:=step a2 3 v1 z2 (by decide) (by decide) k3 q2
  generalize a2.put (some (p+3)) v1=a3 at k4 q3 z3 t3 ⊢;refine Wv (wnt g4 hj d1 k4.2.2) d4 (h4 _ k4.2.1) ?_;obtain⟨k5,q4,z4,t4,r4⟩:=step a3 4 u2 z3 (by decide) (by decide) k4 q3
  replace t3:=(r4 3 (by decide)).trans t3
  clear r4;generalize a3.put (some (p+4)) u2=a4 at k5 q4 z4 t4 t3 ⊢;refine Wv (wnt g5 hj d1 k5.2.2) d5 (h5 _ t4) ?_;obtain⟨k6,q5,z5,t5,r5⟩:=step a4 5 v2 z4 (by decide) (by decide) k5 q4
  replace t3:=(r5 3 (by decide)).trans t3
  clear r5;generalize a4.put (some (p+5)) v2=a5 at k6 q5 z5 t5 t3 ⊢;show (if _ then _ else _)
  rw[if_pos (wnt g6 hj d1 k6.2.2)];refine .inl (h6 _ _ t3 t5 (fun b' w' hb=>?_))
  obtain⟨k7,q6,z6,t6,-⟩:=step a5 6 (.bool b') z5 (by decide) (by decide) k6 q5
  generalize a5.put (some (p+6)) (.bool b')=a6 at k7 q6 z6 t6 ⊢;refine Wv (wn0 g7) d7 (h7 _ _ _ k7.2.2 t6) (hn _ b' _ hb ⟨T _ z6 _ _,?_,?_,?_,q6⟩)
  ·rw[E _ z6 _ _ _ (by omega),if_neg (by omega)];exact k7.1
  ·rw[E _ z6 _ _ _ (by omega),if_neg (by omega)];exact k7.2.1
  ·rw[E _ z6 _ _ _ (by omega),if_pos rfl];rfl
 | false=>
  have hf:∀(a1:Act) (i:Nat) (v:Value),a1.tmps.size=N->2<=i->i<=6->(a1.eval (.tmp 2)=X/\a1.eval (.tmp 3)=Y/\a1.eval (.tmp (p+1))=.bool false/\a1.defers=[])->(((a1.put (some (p+i)) v).eval (.tmp 2)=X/\(a1.put (some (p+i)) v).eval (.tmp 3)=Y/\(a1.put (some (p+i)) v).eval (.tmp (p+1))=.bool false/\(a1.put (some (p+i)) v).defers=[])/\(a1.put (some (p+i)) v).tmps.size=N):=by
   intro a1 i v z hi hi2 ⟨x,y,t,q⟩;refine⟨⟨?_,?_,?_,q⟩,T _ z _ _⟩
   ·rw[E _ z _ _ _ (by omega),if_neg (by omega)];exact x
   ·rw[E _ z _ _ _ (by omega),if_neg (by omega)];exact y
   ·rw[E _ z _ _ _ (by omega),if_neg (by omega)];exact t
  have k1:((a.put (some (p+1)) (.bool false)).eval (.tmp 2)=X/\(a.put (some (p+1)) (.bool false)).eval (.tmp 3)=Y/\(a.put (some (p+1)) (.bool false)).eval (.tmp (p+1))=.bool false/\(a.put (some (p+1)) (.bool false)).defers=[]):=⟨by rw[E _ sz _ _ _ (by decide),if_neg (by omega)];exact e2,by rw[E _ sz _ _ _ (by decide),if_neg (by omega)];exact e3,by rw[E _ sz _ _ _ (by decide),if_pos rfl],df⟩
  have z1:=T _ sz 1 (.bool false);generalize a.put (some (p+1)) (.bool false)=a1 at z1 k1 ⊢;refine Kx (wnt g2 hj d1 k1.2.2.1) d2 ?_;obtain⟨k2,z2⟩:=hf a1 2 undef z1 (by decide) (by decide) k1
  generalize a1.put (some (p+2)) undef=a2 at z2 k2 ⊢;refine Kx (wnt g3 hj d1 k2.2.2.1) d3 ?_;obtain⟨k3,z3⟩:=hf a2 3 undef z2 (by decide) (by decide) k2
  generalize a2.put (some (p+3)) undef=a3 at z3 k3 ⊢;refine Kx (wnt g4 hj d1 k3.2.2.1) d4 ?_;obtain⟨k4,z4⟩:=hf a3 4 undef z3 (by decide) (by decide) k3
  generalize a3.put (some (p+4)) undef=a4 at z4 k4 ⊢;refine Kx (wnt g5 hj d1 k4.2.2.1) d5 ?_;obtain⟨k5,z5⟩:=hf a4 5 undef z4 (by decide) (by decide) k4
  generalize a4.put (some (p+5)) undef=a5 at z5 k5 ⊢;refine Kx (wnt g6 hj d1 k5.2.2.1) d6 ?_;obtain⟨k6,z6⟩:=hf a5 6 undef z5 (by decide) (by decide) k5
  generalize a5.put (some (p+6)) undef=a6 at z6 k6 ⊢;refine Wv (wn0 g7) d7 (h7 _ _ _ k6.2.2.1 rfl) (hn _ false _ (Below.refl _ _) ⟨T _ z6 _ _,?_,?_,?_,k6.2.2.2⟩)
  ·rw[E _ z6 _ _ _ (by omega),if_neg (by omega)];exact k6.1
  ·rw[E _ z6 _ _ _ (by omega),if_neg (by omega)];exact k6.2.1
  ·rw[E _ z6 _ _ _ (by omega),if_pos rfl];rfl
end
theorem ZcV (A:Option Addr) (n c:Nat) (w:World):Calls prog 227 #[.slice A n c,.slice none 0 0] w fun e w'=>e=.returned (.bool (n==0))/\Below w.heap.size w w':=by
 by_cases h:n=0
 ·subst h;go_enter func227,ntmps227;go_wp2_with fail
  go_loopw [5,13] (fun _ iv wr=>iv=Zi 0/\wr=w) (fun _ _ _=>0)
  case atStart=>exact⟨rfl,rfl⟩
  case round=>
   obtain⟨rfl,rfl⟩:=hrel;go_wp2;go_ret;exact⟨rfl,Below.refl _ _⟩
 ·have e1:(n==0)=false:=by rw[Bn];exact h
  have e2:((n:Int)==0)=false:=by rw[Bn];omega
  have e3:((n:Int) != 0)=true:=by simp[bne,e2]
  go_enter func227,ntmps227;go_wp2;go_ret;exact⟨by rw[e1];rfl,Below.refl _ _⟩
theorem ZcW (A:Option Addr) (n c:Nat) (w:World):Calls prog 228 #[.slice A n c,.slice none 0 0] w fun e w'=>e=.returned (.bool (n==0))/\Below w.heap.size w w':=by
 by_cases h:n=0
 ·subst h;go_enter func228,ntmps228;go_wp2_with fail
  go_loopw [5,13] (fun _ iv wr=>iv=Zi 0/\wr=w) (fun _ _ _=>0)
  case atStart=>exact⟨rfl,rfl⟩
  case round=>
   obtain⟨rfl,rfl⟩:=hrel;go_wp2;go_ret;exact⟨rfl,Below.refl _ _⟩
 ·have e1:(n==0)=false:=by rw[Bn];exact h
  have e2:((n:Int)==0)=false:=by rw[Bn];omega
  have e3:((n:Int) != 0)=true:=by simp[bne,e2]
  go_enter func228,ntmps228;go_wp2;go_ret;exact⟨by rw[e1];rfl,Below.refl _ _⟩
theorem ZcX {P:Program} {ops:Array Oper} {Q:Exit->Act->World->Prop} {rest:List Oper} {a:Act} {w:World} {N:Nat} {X Y:Value} {o2 o3 o4 o5 o6:Oper} {u1 u2 v1 v2:Value} (sz:a.tmps.size=N) (e2:a.eval (.tmp 2)=X) (e3:a.eval (.tmp 3)=Y) (df:a.defers=[]) (hN:9<N)
  (hd:o2.dst=some 5/\o3.dst=some 6/\o4.dst=some 7/\o5.dst=some 8/\o6.dst=some 9)
  (hg:o2.guard=none/\o3.guard=none/\o4.guard=none/\o5.guard=none/\o6.guard=none)
  (h2:∀(a:Act),a.eval (.tmp 2)=X->(execOp a.eval o2).run P w=.ok (.value u1) w)
  (h3:∀(a:Act),a.eval (.tmp 5)=u1->(execOp a.eval o3).run P w=.ok (.value v1) w)
  (h4:∀(a:Act),a.eval (.tmp 3)=Y->(execOp a.eval o4).run P w=.ok (.value u2) w)
  (h5:∀(a:Act),a.eval (.tmp 7)=u2->(execOp a.eval o5).run P w=.ok (.value v2) w)
  (h6:∀(a:Act),a.eval (.tmp 6)=v1->a.eval (.tmp 8)=v2->∃b',(execOp a.eval o6).run P w=.ok (.value (.bool b')) w)
  (hn:∀a' b',SI N X Y 9 b' a'->wpList P ops Q rest a' w):wpList P ops Q (o2::o3::o4::o5::o6::rest) a w:=by
 obtain⟨d2,d3,d4,d5,d6⟩:=hd;obtain⟨g2,g3,g4,g5,g6⟩:=hg;have E:∀(a:Act),a.tmps.size=N->∀(i t:Nat) (v:Value),i<=9->(a.put (some i) v).eval (.tmp t)=if t=i then v else a.eval (.tmp t):=fun a h i t v hi=>Ik (by omega)
 have z1:(a.put (some 5) u1).tmps.size=N:=(Uf _ _ _).trans sz;have z2:((a.put (some 5) u1).put (some 6) v1).tmps.size=N:=(Uf _ _ _).trans z1;have z3:(((a.put (some 5) u1).put (some 6) v1).put (some 7) u2).tmps.size=N:=(Uf _ _ _).trans z2;have z4:((((a.put (some 5) u1).put (some 6) v1).put (some 7) u2).put (some 8) v2).tmps.size=N:=(Uf _ _ _).trans z3;refine Wv (wn0 g2) d2 (h2 _ e2) ?_;refine Wv (wn0 g3) d3 (h3 _ (by rw[E _ sz _ _ _ (by decide)];rfl)) ?_
 refine Wv (wn0 g4) d4 (h4 _ (by rw[E _ z1 _ _ _ (by decide),E _ sz _ _ _ (by decide)];exact e3)) ?_
 refine Wv (wn0 g5) d5 (h5 _ (by rw[E _ z2 _ _ _ (by decide)];rfl)) ?_
 obtain⟨b',e⟩:=h6 ((((a.put (some 5) u1).put (some 6) v1).put (some 7) u2).put (some 8) v2) (by rw[E _ z3 _ _ _ (by decide),E _ z2 _ _ _ (by decide),E _ z1 _ _ _ (by decide)];rfl) (by rw[E _ z3 _ _ _ (by decide)];rfl)
 refine Wv (wn0 g6) d6 e (hn _ b' ⟨(Uf _ _ _).trans z4,?_,?_,?_,df⟩)
 ·rw[E _ z4 _ _ _ (by decide),E _ z3 _ _ _ (by decide),E _ z2 _ _ _ (by decide),E _ z1 _ _ _ (by decide),E _ sz _ _ _ (by decide)];exact e2
 ·rw[E _ z4 _ _ _ (by decide),E _ z3 _ _ _ (by decide),E _ z2 _ _ _ (by decide),E _ z1 _ _ _ (by decide),E _ sz _ _ _ (by decide)];exact e3
 ·rw[E _ z4 _ _ _ (by decide)];rfl
def Nw (f:Fct):Array Value:=#[Zg f.key,Zi f.stamp,.bool true,Zi 0,Zi 0,Zj,Zj,Zj,Zj,Zj,Zj,Zj,Zj,Zj,Zj,Zj,Zj,Zj,.slice none 0 0,.slice none 0 0,Zi 0]
theorem YZ {P:Program} {Q:Exit->Act->World->Prop} {o:Oper} {a:Act} {w:World} {d:Nat} {K:Act->World->Prop} (h:∃b',(execOp a.eval o).run P w=.ok (.value (.bool b')) w) (hd:o.dst=some d) (hk:∀b' w',Below w.heap.size w w'->K (a.put (some d) (.bool b')) w'):o.wp P a w K Q:=by
 obtain⟨b',e⟩:=h;unfold Oper.wp;rw[e,Oper.upon_value,hd];exact hk _ _ (Below.refl _ _)
theorem Zb5 {f:Fct} (hcn:f.canc=true) (w:World):Calls prog 182 #[.agg (Zq f),.agg (Nw f)] w fun e w'=>(∃b,e=.returned (.bool b))/\Below w.heap.size w w':=by
 obtain⟨h1,h2,hb,-⟩:=V9 w (.cells (Zq f) 48) (.cells (Nw f) 48);have X:Hid (Blk ((w.alloc (.cells (Zq f) 48)).alloc (.cells (Nw f) 48)) w.heap.size (Zq f)):=⟨_,h1⟩;have Y:Hid (Blk ((w.alloc (.cells (Zq f) 48)).alloc (.cells (Nw f) 48)) (w.heap.size+1) (Nw f)):=⟨_,h2⟩;have HCN:=Lh hcn;have HB:=Lh hb;clear h1 h2 hcn hb;have q0:((w.alloc (.cells (Zq f) 48)).alloc (.cells (Nw f) 48)).cell? ⟨w.heap.size,0,none⟩=some (Zg f.key):=X.out.c 0;have r0:((w.alloc (.cells (Zq f) 48)).alloc (.cells (Nw f) 48)).cell? ⟨w.heap.size+1,0,none⟩=some (Zg f.key):=Y.out.c 0;go_enter func182,ntmps182;go_wp2_with (refine Ii 3 2 (fun a' w'=>Hid (w'=((w.alloc (.cells (Zq f) 48)).alloc (.cells (Nw f) 48))/\a'.tmps.size=129/\a'.eval (.tmp 2)=.pointer (some ⟨w.heap.size,0,none⟩)/\a'.eval (.tmp 3)=.pointer (some ⟨w.heap.size+1,0,none⟩)/\a'.defers=[])) rfl ?first ?rest)
 case first=>
  (try simp only[List.take_succ_cons,List.take_zero])
  go_wp2;exact⟨rfl,Lh ⟨rfl,rfl,rfl,rfl,rfl⟩⟩
 (try simp only[List.drop_succ_cons,List.drop_zero])
 intro a0 w0 h;obtain⟨rfl,z0,e2,e3,df⟩:=h.out;clear h;rename_i Q' K hK;refine hK a0 _ ?_;clear hK;refine wp_seq (wp_region_lit ?_);refine ZcX z0 e2 e3 df (by decide) (u1:=.pointer (some ⟨w.heap.size,0,none⟩)) (u2:=.pointer (some ⟨w.heap.size+1,0,none⟩)) (v1:=Zg f.key) (v2:=Zg f.key) ?_ ?_ ?_ ?_ ?_ ?_ ?_ ?_
 ·exact⟨rfl,rfl,rfl,rfl,rfl⟩
 ·exact⟨rfl,rfl,rfl,rfl,rfl⟩
 ·intro a h;have g:=toD h;clear h;go_simp;first|done|rfl
 ·intro a h;have g:=toD h;clear h;go_simp;first|done|rfl
 ·intro a h;have g:=toD h;clear h;go_simp;first|done|rfl
 ·intro a h;have g:=toD h;clear h;go_simp;first|done|rfl
 ·intro a x y;have g1:=toD x;have g2:=toD y;clear x y;go_simp;first|done|exact⟨_,rfl⟩
 clear z0 e2 e3 df q0 r0;intro a0 b0 S0;refine WO 9 5 (u1:=.pointer (some ⟨w.heap.size,1,none⟩)) (u2:=.pointer (some ⟨w.heap.size+1,1,none⟩)) (v1:=Zi f.stamp) (v2:=Zi f.stamp) S0 (by decide) (by decide) ?_ ?_ ?_ ?_ ?_ ?_ ?_ ?_ ?_ ?_ ?_
 ·exact⟨rfl,rfl,rfl,rfl,rfl,rfl,rfl⟩
 ·exact⟨rfl,rfl,rfl,rfl,rfl,rfl,rfl⟩
 ·rfl
 ·intro a h;have g:=toD h;clear h;go_simp;first|done|rfl
 ·intro a h;have g:=toD h;clear h;go_simp;first|done|rfl
 ·intro a h;have g:=toD h;clear h;have q1:((w.alloc (.cells (Zq f) 48)).alloc (.cells (Nw f) 48)).cell? ⟨w.heap.size,1,none⟩=some (Zi f.stamp) :=X.out.c 1;go_simp;first|done|rfl
 ·intro a h;have g:=toD h;clear h;go_simp;first|done|rfl
 ·intro a h;have g:=toD h;clear h;have r1:((w.alloc (.cells (Zq f) 48)).alloc (.cells (Nw f) 48)).cell? ⟨w.heap.size+1,1,none⟩=some (Zi f.stamp) :=Y.out.c 1;go_simp;first|done|rfl
 ·exact fun a K x y hk=>by have g1:=toD x;have g2:=toD y;clear x y;exact YZ (by go_simp;first|done|exact⟨_,rfl⟩) rfl hk
 ·intro a w' d x y;have g1:=toD x;have g2:=toD y;clear x y;go_simp;first|done|rfl
 clear S0;intro a1 b1 w1 hb1 S1;replace X:=Lh (X.out.below hb1);replace Y:=Lh (Y.out.below hb1);replace HB:=Lh (bto HB.out hb1);clear hb1;refine WO 16 12 (u1:=.pointer (some ⟨w.heap.size,2,none⟩)) (u2:=.pointer (some ⟨w.heap.size+1,2,none⟩)) (v1:=.bool true) (v2:=.bool true) S1 (by decide) (by decide) ?_ ?_ ?_ ?_ ?_ ?_ ?_ ?_ ?_ ?_ ?_
 ·exact⟨rfl,rfl,rfl,rfl,rfl,rfl,rfl⟩
 ·exact⟨rfl,rfl,rfl,rfl,rfl,rfl,rfl⟩
 ·rfl
 ·intro a h;have g:=toD h;clear h;go_simp;first|done|rfl
 ·intro a h;have g:=toD h;clear h;go_simp;first|done|rfl
 ·intro a h;have g:=toD h;clear h;have q2:w1.cell? ⟨w.heap.size,2,none⟩=some (.bool true) :=(X.out.c 2).trans (by show some (Value.bool f.canc)=_;rw[HCN.out]);go_simp;first|done|rfl
 ·intro a h;have g:=toD h;clear h;go_simp;first|done|rfl
 ·intro a h;have g:=toD h;clear h;have r2:w1.cell? ⟨w.heap.size+1,2,none⟩=some (.bool true) :=Y.out.c 2;go_simp;first|done|rfl
 ·exact fun a K x y hk=>by have g1:=toD x;have g2:=toD y;clear x y;exact YZ (by go_simp;first|done|exact⟨_,rfl⟩) rfl hk
 ·intro a w' d x y;have g1:=toD x;have g2:=toD y;clear x y;go_simp;first|done|rfl
 clear S1;intro a2 b2 w2 hb2 S2;replace X:=Lh (X.out.below hb2);replace Y:=Lh (Y.out.below hb2);replace HB:=Lh (bto HB.out hb2);clear hb2;refine WO 23 19 (u1:=.pointer (some ⟨w.heap.size,3,none⟩)) (u2:=.pointer (some ⟨w.heap.size+1,3,none⟩)) (v1:=Zi f.day) (v2:=Zi 0) S2 (by decide) (by decide) ?_ ?_ ?_ ?_ ?_ ?_ ?_ ?_ ?_ ?_ ?_
 ·exact⟨rfl,rfl,rfl,rfl,rfl,rfl,rfl⟩
 ·exact⟨rfl,rfl,rfl,rfl,rfl,rfl,rfl⟩
 ·rfl
 ·intro a h;have g:=toD h;clear h;go_simp;first|done|rfl
 ·intro a h;have g:=toD h;clear h;go_simp;first|done|rfl
 ·intro a h;have g:=toD h;clear h;have q3:w2.cell? ⟨w.heap.size,3,none⟩=some (Zi f.day) :=X.out.c 3;go_simp;first|done|rfl
 ·intro a h;have g:=toD h;clear h;go_simp;first|done|rfl
 ·intro a h;have g:=toD h;clear h;have r3:w2.cell? ⟨w.heap.size+1,3,none⟩=some (Zi 0) :=Y.out.c 3;go_simp;first|done|rfl
 ·exact fun a K x y hk=>by have g1:=toD x;have g2:=toD y;clear x y;exact YZ (by go_simp;first|done|exact⟨_,rfl⟩) rfl hk
 ·intro a w' d x y;have g1:=toD x;have g2:=toD y;clear x y;go_simp;first|done|rfl
 clear S2;intro a3 b3 w3 hb3 S3;replace X:=Lh (X.out.below hb3);replace Y:=Lh (Y.out.below hb3);replace HB:=Lh (bto HB.out hb3);clear hb3;refine WO 30 26 (u1:=.pointer (some ⟨w.heap.size,4,none⟩)) (u2:=.pointer (some ⟨w.heap.size+1,4,none⟩)) (v1:=Zi f.kind) (v2:=Zi 0) S3 (by decide) (by decide) ?_ ?_ ?_ ?_ ?_ ?_ ?_ ?_ ?_ ?_ ?_
 ·exact⟨rfl,rfl,rfl,rfl,rfl,rfl,rfl⟩
 ·exact⟨rfl,rfl,rfl,rfl,rfl,rfl,rfl⟩
 ·rfl
 ·intro a h;have g:=toD h;clear h;go_simp;first|done|rfl
 ·intro a h;have g:=toD h;clear h;go_simp;first|done|rfl
 ·intro a h;have g:=toD h;clear h;have q4:w3.cell? ⟨w.heap.size,4,none⟩=some (Zi f.kind) :=X.out.c 4;go_simp;first|done|rfl
 ·intro a h;have g:=toD h;clear h;go_simp;first|done|rfl
 ·intro a h;have g:=toD h;clear h;have r4:w3.cell? ⟨w.heap.size+1,4,none⟩=some (Zi 0) :=Y.out.c 4;go_simp;first|done|rfl
 ·exact fun a K x y hk=>by have g1:=toD x;have g2:=toD y;clear x y;exact YZ (by go_simp;first|done|exact⟨_,rfl⟩) rfl hk
 ·intro a w' d x y;have g1:=toD x;have g2:=toD y;clear x y;go_simp;first|done|rfl
 clear S3;intro a4 b4 w4 hb4 S4;replace X:=Lh (X.out.below hb4);replace Y:=Lh (Y.out.below hb4);replace HB:=Lh (bto HB.out hb4);clear hb4;refine WO 37 33 (u1:=.pointer (some ⟨w.heap.size,5,none⟩)) (u2:=.pointer (some ⟨w.heap.size+1,5,none⟩)) (v1:=Zg f.ins) (v2:=Zj) S4 (by decide) (by decide) ?_ ?_ ?_ ?_ ?_ ?_ ?_ ?_ ?_ ?_ ?_
 ·exact⟨rfl,rfl,rfl,rfl,rfl,rfl,rfl⟩
 ·exact⟨rfl,rfl,rfl,rfl,rfl,rfl,rfl⟩
 ·rfl
 ·intro a h;have g:=toD h;clear h;go_simp;first|done|rfl
 ·intro a h;have g:=toD h;clear h;go_simp;first|done|rfl
 ·intro a h;have g:=toD h;clear h;have q5:w4.cell? ⟨w.heap.size,5,none⟩=some (Zg f.ins) :=X.out.c 5;go_simp;first|done|rfl
 ·intro a h;have g:=toD h;clear h;go_simp;first|done|rfl
 ·intro a h;have g:=toD h;clear h;have r5:w4.cell? ⟨w.heap.size+1,5,none⟩=some (Zj) :=Y.out.c 5;go_simp;first|done|rfl
 ·exact fun a K x y hk=>by have g1:=toD x;have g2:=toD y;clear x y;exact YZ (by go_simp;first|done|exact⟨_,rfl⟩) rfl hk
 ·intro a w' d x y;have g1:=toD x;have g2:=toD y;clear x y;go_simp;first|done|rfl
 clear S4;intro a5 b5 w5 hb5 S5;replace X:=Lh (X.out.below hb5);replace Y:=Lh (Y.out.below hb5);replace HB:=Lh (bto HB.out hb5);clear hb5;refine WO 44 40 (u1:=.pointer (some ⟨w.heap.size,6,none⟩)) (u2:=.pointer (some ⟨w.heap.size+1,6,none⟩)) (v1:=Zg f.oth) (v2:=Zj) S5 (by decide) (by decide) ?_ ?_ ?_ ?_ ?_ ?_ ?_ ?_ ?_ ?_ ?_
 ·exact⟨rfl,rfl,rfl,rfl,rfl,rfl,rfl⟩
 ·exact⟨rfl,rfl,rfl,rfl,rfl,rfl,rfl⟩
 ·rfl
 ·intro a h;have g:=toD h;clear h;go_simp;first|done|rfl
 ·intro a h;have g:=toD h;clear h;go_simp;first|done|rfl
 ·intro a h;have g:=toD h;clear h;have q6:w5.cell? ⟨w.heap.size,6,none⟩=some (Zg f.oth) :=X.out.c 6;go_simp;first|done|rfl
 ·intro a h;have g:=toD h;clear h;go_simp;first|done|rfl
 ·intro a h;have g:=toD h;clear h;have r6:w5.cell? ⟨w.heap.size+1,6,none⟩=some (Zj) :=Y.out.c 6;go_simp;first|done|rfl
 ·exact fun a K x y hk=>by have g1:=toD x;have g2:=toD y;clear x y;exact YZ (by go_simp;first|done|exact⟨_,rfl⟩) rfl hk
 ·intro a w' d x y;have g1:=toD x;have g2:=toD y;clear x y;go_simp;first|done|rfl
 clear S5;intro a6 b6 w6 hb6 S6;replace X:=Lh (X.out.below hb6);replace Y:=Lh (Y.out.below hb6);replace HB:=Lh (bto HB.out hb6);clear hb6;refine WO 51 47 (u1:=.pointer (some ⟨w.heap.size,7,none⟩)) (u2:=.pointer (some ⟨w.heap.size+1,7,none⟩)) (v1:=Zg f.cur) (v2:=Zj) S6 (by decide) (by decide) ?_ ?_ ?_ ?_ ?_ ?_ ?_ ?_ ?_ ?_ ?_
 ·exact⟨rfl,rfl,rfl,rfl,rfl,rfl,rfl⟩
 ·exact⟨rfl,rfl,rfl,rfl,rfl,rfl,rfl⟩
 ·rfl
 ·intro a h;have g:=toD h;clear h;go_simp;first|done|rfl
 ·intro a h;have g:=toD h;clear h;go_simp;first|done|rfl
 ·intro a h;have g:=toD h;clear h;have q7:w6.cell? ⟨w.heap.size,7,none⟩=some (Zg f.cur) :=X.out.c 7;go_simp;first|done|rfl
 ·intro a h;have g:=toD h;clear h;go_simp;first|done|rfl
 ·intro a h;have g:=toD h;clear h;have r7:w6.cell? ⟨w.heap.size+1,7,none⟩=some (Zj) :=Y.out.c 7;go_simp;first|done|rfl
 ·exact fun a K x y hk=>by have g1:=toD x;have g2:=toD y;clear x y;exact YZ (by go_simp;first|done|exact⟨_,rfl⟩) rfl hk
 ·intro a w' d x y;have g1:=toD x;have g2:=toD y;clear x y;go_simp;first|done|rfl
 clear S6;intro a7 b7 w7 hb7 S7;replace X:=Lh (X.out.below hb7);replace Y:=Lh (Y.out.below hb7);replace HB:=Lh (bto HB.out hb7);clear hb7;refine WO 58 54 (u1:=.pointer (some ⟨w.heap.size,8,none⟩)) (u2:=.pointer (some ⟨w.heap.size+1,8,none⟩)) (v1:=Zg f.tgt) (v2:=Zj) S7 (by decide) (by decide) ?_ ?_ ?_ ?_ ?_ ?_ ?_ ?_ ?_ ?_ ?_
 ·exact⟨rfl,rfl,rfl,rfl,rfl,rfl,rfl⟩
 ·exact⟨rfl,rfl,rfl,rfl,rfl,rfl,rfl⟩
 ·rfl
 ·intro a h;have g:=toD h;clear h;go_simp;first|done|rfl
 ·intro a h;have g:=toD h;clear h;go_simp;first|done|rfl
 ·intro a h;have g:=toD h;clear h;have q8:w7.cell? ⟨w.heap.size,8,none⟩=some (Zg f.tgt) :=X.out.c 8;go_simp;first|done|rfl
 ·intro a h;have g:=toD h;clear h;go_simp;first|done|rfl
 ·intro a h;have g:=toD h;clear h;have r8:w7.cell? ⟨w.heap.size+1,8,none⟩=some (Zj) :=Y.out.c 8;go_simp;first|done|rfl
 ·exact fun a K x y hk=>by have g1:=toD x;have g2:=toD y;clear x y;exact YZ (by go_simp;first|done|exact⟨_,rfl⟩) rfl hk
 ·intro a w' d x y;have g1:=toD x;have g2:=toD y;clear x y;go_simp;first|done|rfl
 clear S7;intro a8 b8 w8 hb8 S8;replace X:=Lh (X.out.below hb8);replace Y:=Lh (Y.out.below hb8);replace HB:=Lh (bto HB.out hb8);clear hb8;refine WO 65 61 (u1:=.pointer (some ⟨w.heap.size,9,none⟩)) (u2:=.pointer (some ⟨w.heap.size+1,9,none⟩)) (v1:=Zg f.q) (v2:=Zj) S8 (by decide) (by decide) ?_ ?_ ?_ ?_ ?_ ?_ ?_ ?_ ?_ ?_ ?_
 ·exact⟨rfl,rfl,rfl,rfl,rfl,rfl,rfl⟩
 ·exact⟨rfl,rfl,rfl,rfl,rfl,rfl,rfl⟩
 ·rfl
 ·intro a h;have g:=toD h;clear h;go_simp;first|done|rfl
 ·intro a h;have g:=toD h;clear h;go_simp;first|done|rfl
 ·intro a h;have g:=toD h;clear h;have q9:w8.cell? ⟨w.heap.size,9,none⟩=some (Zg f.q) :=X.out.c 9;go_simp;first|done|rfl
 ·intro a h;have g:=toD h;clear h;go_simp;first|done|rfl
 ·intro a h;have g:=toD h;clear h;have r9:w8.cell? ⟨w.heap.size+1,9,none⟩=some (Zj) :=Y.out.c 9;go_simp;first|done|rfl
 ·exact fun a K x y hk=>by have g1:=toD x;have g2:=toD y;clear x y;exact YZ (by go_simp;first|done|exact⟨_,rfl⟩) rfl hk
 ·intro a w' d x y;have g1:=toD x;have g2:=toD y;clear x y;go_simp;first|done|rfl
 clear S8;intro a9 b9 w9 hb9 S9;replace X:=Lh (X.out.below hb9);replace Y:=Lh (Y.out.below hb9);replace HB:=Lh (bto HB.out hb9);clear hb9;refine WO 72 68 (u1:=.pointer (some ⟨w.heap.size,10,none⟩)) (u2:=.pointer (some ⟨w.heap.size+1,10,none⟩)) (v1:=Zg f.amt) (v2:=Zj) S9 (by decide) (by decide) ?_ ?_ ?_ ?_ ?_ ?_ ?_ ?_ ?_ ?_ ?_
 ·exact⟨rfl,rfl,rfl,rfl,rfl,rfl,rfl⟩
 ·exact⟨rfl,rfl,rfl,rfl,rfl,rfl,rfl⟩
 ·rfl
 ·intro a h;have g:=toD h;clear h;go_simp;first|done|rfl
 ·intro a h;have g:=toD h;clear h;go_simp;first|done|rfl
 ·intro a h;have g:=toD h;clear h;have q10:w9.cell? ⟨w.heap.size,10,none⟩=some (Zg f.amt) :=X.out.c 10;go_simp;first|done|rfl
 ·intro a h;have g:=toD h;clear h;go_simp;first|done|rfl
 ·intro a h;have g:=toD h;clear h;have r10:w9.cell? ⟨w.heap.size+1,10,none⟩=some (Zj) :=Y.out.c 10;go_simp;first|done|rfl
 ·exact fun a K x y hk=>by have g1:=toD x;have g2:=toD y;clear x y;exact YZ (by go_simp;first|done|exact⟨_,rfl⟩) rfl hk
 ·intro a w' d x y;have g1:=toD x;have g2:=toD y;clear x y;go_simp;first|done|rfl
 clear S9;intro a10 b10 w10 hb10 S10;replace X:=Lh (X.out.below hb10);replace Y:=Lh (Y.out.below hb10);replace HB:=Lh (bto HB.out hb10);clear hb10;refine WO 79 75 (u1:=.pointer (some ⟨w.heap.size,11,none⟩)) (u2:=.pointer (some ⟨w.heap.size+1,11,none⟩)) (v1:=Zg f.fee) (v2:=Zj) S10 (by decide) (by decide) ?_ ?_ ?_ ?_ ?_ ?_ ?_ ?_ ?_ ?_ ?_
 ·exact⟨rfl,rfl,rfl,rfl,rfl,rfl,rfl⟩
 ·exact⟨rfl,rfl,rfl,rfl,rfl,rfl,rfl⟩
 ·rfl
 ·intro a h;have g:=toD h;clear h;go_simp;first|done|rfl
 ·intro a h;have g:=toD h;clear h;go_simp;first|done|rfl
 ·intro a h;have g:=toD h;clear h;have q11:w10.cell? ⟨w.heap.size,11,none⟩=some (Zg f.fee) :=X.out.c 11;go_simp;first|done|rfl
 ·intro a h;have g:=toD h;clear h;go_simp;first|done|rfl
 ·intro a h;have g:=toD h;clear h;have r11:w10.cell? ⟨w.heap.size+1,11,none⟩=some (Zj) :=Y.out.c 11;go_simp;first|done|rfl
 ·exact fun a K x y hk=>by have g1:=toD x;have g2:=toD y;clear x y;exact YZ (by go_simp;first|done|exact⟨_,rfl⟩) rfl hk
 ·intro a w' d x y;have g1:=toD x;have g2:=toD y;clear x y;go_simp;first|done|rfl
 clear S10;intro a11 b11 w11 hb11 S11;replace X:=Lh (X.out.below hb11);replace Y:=Lh (Y.out.below hb11);replace HB:=Lh (bto HB.out hb11);clear hb11;refine WO 86 82 (u1:=.pointer (some ⟨w.heap.size,12,none⟩)) (u2:=.pointer (some ⟨w.heap.size+1,12,none⟩)) (v1:=.agg #[Zg f.pn,Zg f.pd]) (v2:=.agg #[Zj,Zj]) S11 (by decide) (by decide) ?_ ?_ ?_ ?_ ?_ ?_ ?_ ?_ ?_ ?_ ?_
 ·exact⟨rfl,rfl,rfl,rfl,rfl,rfl,rfl⟩
 ·exact⟨rfl,rfl,rfl,rfl,rfl,rfl,rfl⟩
 ·rfl
 ·intro a h;have g:=toD h;clear h;go_simp;first|done|rfl
 ·intro a h;have g:=toD h;clear h;go_simp;first|done|rfl
 ·intro a h;have g:=toD h;clear h;have q12:w11.cell? ⟨w.heap.size,12,none⟩=some (Zg f.pn) :=X.out.c 12;have q13:w11.cell? ⟨w.heap.size,13,none⟩=some (Zg f.pd) :=X.out.c 13;go_simp;first|done|rfl
 ·intro a h;have g:=toD h;clear h;go_simp;first|done|rfl
 ·intro a h;have g:=toD h;clear h;have r12:w11.cell? ⟨w.heap.size+1,12,none⟩=some (Zj) :=Y.out.c 12;have r13:w11.cell? ⟨w.heap.size+1,13,none⟩=some (Zj) :=Y.out.c 13;go_simp;first|done|rfl
 ·exact fun a K x y hk=>by have g1:=toD x;have g2:=toD y;clear x y;exact YZ (by go_simp;first|done|exact⟨_,rfl⟩|(by_cases u:f.pn=[]<;>by_cases v:f.pd=[]<;>simp[u,v])) rfl hk
 ·intro a w' d x y;have g1:=toD x;have g2:=toD y;clear x y;go_simp;first|done|rfl
 clear S11;intro a12 b12 w12 hb12 S12;replace X:=Lh (X.out.below hb12);replace Y:=Lh (Y.out.below hb12);replace HB:=Lh (bto HB.out hb12);clear hb12;refine WO 93 89 (u1:=.pointer (some ⟨w.heap.size,14,none⟩)) (u2:=.pointer (some ⟨w.heap.size+1,14,none⟩)) (v1:=.agg #[Zg f.rn,Zg f.rd]) (v2:=.agg #[Zj,Zj]) S12 (by decide) (by decide) ?_ ?_ ?_ ?_ ?_ ?_ ?_ ?_ ?_ ?_ ?_
 ·exact⟨rfl,rfl,rfl,rfl,rfl,rfl,rfl⟩
 ·exact⟨rfl,rfl,rfl,rfl,rfl,rfl,rfl⟩
 ·rfl
 ·intro a h;have g:=toD h;clear h;go_simp;first|done|rfl
 ·intro a h;have g:=toD h;clear h;go_simp;first|done|rfl
 ·intro a h;have g:=toD h;clear h;have q14:w12.cell? ⟨w.heap.size,14,none⟩=some (Zg f.rn) :=X.out.c 14;have q15:w12.cell? ⟨w.heap.size,15,none⟩=some (Zg f.rd) :=X.out.c 15;go_simp;first|done|rfl
 ·intro a h;have g:=toD h;clear h;go_simp;first|done|rfl
 ·intro a h;have g:=toD h;clear h;have r14:w12.cell? ⟨w.heap.size+1,14,none⟩=some (Zj) :=Y.out.c 14;have r15:w12.cell? ⟨w.heap.size+1,15,none⟩=some (Zj) :=Y.out.c 15;go_simp;first|done|rfl
 ·exact fun a K x y hk=>by have g1:=toD x;have g2:=toD y;clear x y;exact YZ (by go_simp;first|done|exact⟨_,rfl⟩|(by_cases u:f.rn=[]<;>by_cases v:f.rd=[]<;>simp[u,v])) rfl hk
 ·intro a w' d x y;have g1:=toD x;have g2:=toD y;clear x y;go_simp;first|done|rfl
 clear S12;intro a13 b13 w13 hb13 S13;replace X:=Lh (X.out.below hb13);replace Y:=Lh (Y.out.below hb13);replace HB:=Lh (bto HB.out hb13);clear hb13;refine WO 100 96 (u1:=.pointer (some ⟨w.heap.size,16,none⟩)) (u2:=.pointer (some ⟨w.heap.size+1,16,none⟩)) (v1:=.agg #[Zg f.sn,Zg f.sd]) (v2:=.agg #[Zj,Zj]) S13 (by decide) (by decide) ?_ ?_ ?_ ?_ ?_ ?_ ?_ ?_ ?_ ?_ ?_
 ·exact⟨rfl,rfl,rfl,rfl,rfl,rfl,rfl⟩
 ·exact⟨rfl,rfl,rfl,rfl,rfl,rfl,rfl⟩
 ·rfl
 ·intro a h;have g:=toD h;clear h;go_simp;first|done|rfl
 ·intro a h;have g:=toD h;clear h;go_simp;first|done|rfl
 ·intro a h;have g:=toD h;clear h;have q16:w13.cell? ⟨w.heap.size,16,none⟩=some (Zg f.sn) :=X.out.c 16;have q17:w13.cell? ⟨w.heap.size,17,none⟩=some (Zg f.sd) :=X.out.c 17;go_simp;first|done|rfl
 ·intro a h;have g:=toD h;clear h;go_simp;first|done|rfl
 ·intro a h;have g:=toD h;clear h;have r16:w13.cell? ⟨w.heap.size+1,16,none⟩=some (Zj) :=Y.out.c 16;have r17:w13.cell? ⟨w.heap.size+1,17,none⟩=some (Zj) :=Y.out.c 17;go_simp;first|done|rfl
 ·exact fun a K x y hk=>by have g1:=toD x;have g2:=toD y;clear x y;exact YZ (by go_simp;first|done|exact⟨_,rfl⟩|(by_cases u:f.sn=[]<;>by_cases v:f.sd=[]<;>simp[u,v])) rfl hk
 ·intro a w' d x y;have g1:=toD x;have g2:=toD y;clear x y;go_simp;first|done|rfl
 clear S13;intro a14 b14 w14 hb14 S14;replace X:=Lh (X.out.below hb14);replace Y:=Lh (Y.out.below hb14);replace HB:=Lh (bto HB.out hb14);clear hb14;have CE:=Lh (ZcV f.pA f.pN f.pC w14);refine WO 107 103 (u1:=.pointer (some ⟨w.heap.size,18,none⟩)) (u2:=.pointer (some ⟨w.heap.size+1,18,none⟩)) (v1:=.slice f.pA f.pN f.pC) (v2:=.slice none 0 0) S14 (by decide) (by decide) ?_ ?_ ?_ ?_ ?_ ?_ ?_ ?_ ?_ ?_ ?_
 ·exact⟨rfl,rfl,rfl,rfl,rfl,rfl,rfl⟩
 ·exact⟨rfl,rfl,rfl,rfl,rfl,rfl,rfl⟩
 ·rfl
 ·intro a h;have g:=toD h;clear h;go_simp;first|done|rfl
 ·intro a h;have g:=toD h;clear h;go_simp;first|done|rfl
 ·intro a h;have g:=toD h;clear h;have q18:w14.cell? ⟨w.heap.size,18,none⟩=some (.slice f.pA f.pN f.pC) :=X.out.c 18;go_simp;first|done|rfl
 ·intro a h;have g:=toD h;clear h;go_simp;first|done|rfl
 ·intro a h;have g:=toD h;clear h;have r18:w14.cell? ⟨w.heap.size+1,18,none⟩=some (.slice none 0 0) :=Y.out.c 18;go_simp;first|done|rfl
 ·exact fun a K x y hk=>by have g1:=toD x;have g2:=toD y;clear x y;simp only[Oper.wp];go_simp;exact CE.out.mono (fun e w' h=>by obtain⟨rfl,hb⟩:=h;exact hk _ _ hb)
 ·intro a w' d x y;have g1:=toD x;have g2:=toD y;clear x y;go_simp;first|done|rfl
 clear S14 CE;intro a15 b15 w15 hb15 S15;replace X:=Lh (X.out.below hb15);replace Y:=Lh (Y.out.below hb15);replace HB:=Lh (bto HB.out hb15);clear hb15;have CE:=Lh (ZcW f.oA f.oN f.oC w15);refine WO 114 110 (u1:=.pointer (some ⟨w.heap.size,19,none⟩)) (u2:=.pointer (some ⟨w.heap.size+1,19,none⟩)) (v1:=.slice f.oA f.oN f.oC) (v2:=.slice none 0 0) S15 (by decide) (by decide) ?_ ?_ ?_ ?_ ?_ ?_ ?_ ?_ ?_ ?_ ?_
 ·exact⟨rfl,rfl,rfl,rfl,rfl,rfl,rfl⟩
 ·exact⟨rfl,rfl,rfl,rfl,rfl,rfl,rfl⟩
 ·rfl
 ·intro a h;have g:=toD h;clear h;go_simp;first|done|rfl
 ·intro a h;have g:=toD h;clear h;go_simp;first|done|rfl
 ·intro a h;have g:=toD h;clear h;have q19:w15.cell? ⟨w.heap.size,19,none⟩=some (.slice f.oA f.oN f.oC) :=X.out.c 19;go_simp;first|done|rfl
 ·intro a h;have g:=toD h;clear h;go_simp;first|done|rfl
 ·intro a h;have g:=toD h;clear h;have r19:w15.cell? ⟨w.heap.size+1,19,none⟩=some (.slice none 0 0) :=Y.out.c 19;go_simp;first|done|rfl
 ·exact fun a K x y hk=>by have g1:=toD x;have g2:=toD y;clear x y;simp only[Oper.wp];go_simp;exact CE.out.mono (fun e w' h=>by obtain⟨rfl,hb⟩:=h;exact hk _ _ hb)
 ·intro a w' d x y;have g1:=toD x;have g2:=toD y;clear x y;go_simp;first|done|rfl
 clear S15 CE;intro a16 b16 w16 hb16 S16;replace X:=Lh (X.out.below hb16);replace Y:=Lh (Y.out.below hb16);replace HB:=Lh (bto HB.out hb16);clear hb16;refine WO 121 117 (u1:=.pointer (some ⟨w.heap.size,20,none⟩)) (u2:=.pointer (some ⟨w.heap.size+1,20,none⟩)) (v1:=Zi f.choice) (v2:=Zi 0) S16 (by decide) (by decide) ?_ ?_ ?_ ?_ ?_ ?_ ?_ ?_ ?_ ?_ ?_
 ·exact⟨rfl,rfl,rfl,rfl,rfl,rfl,rfl⟩
 ·exact⟨rfl,rfl,rfl,rfl,rfl,rfl,rfl⟩
 ·rfl
 ·intro a h;have g:=toD h;clear h;go_simp;first|done|rfl
 ·intro a h;have g:=toD h;clear h;go_simp;first|done|rfl
 ·intro a h;have g:=toD h;clear h;have q20:w16.cell? ⟨w.heap.size,20,none⟩=some (Zi f.choice) :=X.out.c 20;go_simp;first|done|rfl
 ·intro a h;have g:=toD h;clear h;go_simp;first|done|rfl
 ·intro a h;have g:=toD h;clear h;have r20:w16.cell? ⟨w.heap.size+1,20,none⟩=some (Zi 0) :=Y.out.c 20;go_simp;first|done|rfl
 ·exact fun a K x y hk=>by have g1:=toD x;have g2:=toD y;clear x y;exact YZ (by go_simp;first|done|exact⟨_,rfl⟩) rfl hk
 ·intro a w' d x y;have g1:=toD x;have g2:=toD y;clear x y;go_simp;first|done|rfl
 clear S16;intro a17 b17 w17 hb17 S17;replace X:=Lh (X.out.below hb17);replace Y:=Lh (Y.out.below hb17);replace HB:=Lh (bto HB.out hb17);clear hb17;refine Wv (v:=.bool b17) (d:=4) (wn0 rfl) rfl (by have g:=toD S17.ep;go_simp;first|done|rfl) ?_
 refine wpList_nil ?_;refine wp_ret (bodyPost_ret (v:=.bool b17) ?_ S17.df ⟨⟨_,rfl⟩,HB.out⟩);rw[results_tmp (t:=4) rfl];exact congrArg (fun v=>Result.ok v w17) ((Ik (by rw[S17.sz];decide)).trans (if_pos rfl))
theorem FL {f:Fct} {ps:List Pk} {os:List Opn} {w:World} (hG:GE w) (hA:Qj w f ps os) :
  Calls prog 121 #[.agg (Zq f)] w fun e w'=>(∃E:Int,e=.returned (Zi E)/\(f.canc=false->f.kind=5∨f.kind=13->(E=0↔Za9 f)))/\Below w.heap.size w w':=by
 cases hcn:f.canc with
 | false=>exact (C9 hG hA hcn).mono (fun e w' h=>⟨h.1.elim fun E h=>⟨E,h.1,fun _=>h.2.2⟩,h.2⟩)
 | true=>
 have hb0:=Zh w (.cells (Zq f) 48);have x0:Blk (w.alloc (.cells (Zq f) 48)) w.heap.size (Zq f):=Blk.new w _ 48;have q0:(w.alloc (.cells (Zq f) 48)).cell? ⟨w.heap.size,0,none⟩=some (Zg f.key):=x0.c 0;have hkl:=hA.sm.key;have C1:=Lh ((TH (l:=f.key) (by omega)).e)
 have X0:=Lh x0;have HCN:=Lh hcn;clear hkl hA x0 hcn;go_enter func121,ntmps121;go_wp2_with fail
 refine (C1.out.of hG hb0).mono ?_
 rintro e w1 ⟨rfl,hb1⟩;have X1:=Lh (X0.out.below hb1);have HB1:=Lh (bto hb0 hb1);clear hb0 hb1 q0 X0 C1;cases hnk:YE f.key with
 | false=>
  clear hnk;go_wp2;go_ret;exact⟨⟨_,rfl,fun h=>absurd h (by decide)⟩,HB1.out⟩
 | true=>
 clear hnk;have q0:w1.cell? ⟨w.heap.size,0,none⟩=some (Zg f.key):=X1.out.c 0;have q1:w1.cell? ⟨w.heap.size,1,none⟩=some (Zi f.stamp):=X1.out.c 1;have q2:w1.cell? ⟨w.heap.size,2,none⟩=some (.bool true):=(X1.out.c 2).trans (by show some (Value.bool f.canc)=_;rw[HCN.out])
 by_cases hs:f.stamp<0
 ·have e1:decide (f.stamp<0)=true:=Dt hs;clear hs;go_wp2;go_ret;exact⟨⟨_,rfl,fun h=>absurd h (by decide)⟩,HB1.out⟩
 have e1:decide (f.stamp<0)=false:=Df hs;clear hs;have CS:=Lh (Zb5 HCN.out w1);go_wp2_with (refine Zy rfl 48 (.tmp 1) rfl w.heap.size rfl (Zq f) X1.out underlying48 rfl ZN ?_);refine CS.out.mono ?_;rintro e w2 ⟨⟨b,rfl⟩,hb2⟩;have HB2:=Lh (bto HB1.out hb2);clear hb2 q0 q1 q2 e1;cases b with
 | true=>
  go_wp2;go_ret;exact⟨⟨_,rfl,fun h=>absurd h (by decide)⟩,HB2.out⟩
 | false=>
  go_wp2;go_ret;exact⟨⟨_,rfl,fun h=>absurd h (by decide)⟩,HB2.out⟩
theorem QS {P:Program} {ops:Array Oper} {rest:List Oper} {op:Oper} {a:Act} {w:World} {Q:Exit->Act->World->Prop} (hw:Region.wanted op (yielded ops a.tmps)=true) (ty:TypeId) (x:Operand) (ho:op.op=.load ty x)
  (b:Nat) (hx:a.eval x=.pointer (some ⟨b,0,none⟩)) (cs:Array Value) {d:TypeDesc} (hc:Blk w b cs)
  (hu:P.underlying ty=some d) (hd:d.isRow=true) (hi:(P.info? ty).map (·.size)=some cs.size)
  (h:wpList P ops Q rest (a.put op.dst (.agg cs)) w):wpList P ops Q (op::rest) a w:=by
 unfold wpList;rw[hw];refine .inl ?_;unfold Oper.wp;rw[WE (P:=P) (e:=a.eval) ty x ho b hx cs hc hu hd hi];exact h
theorem Bi (A:Option Addr) (xs:List Lot) (n c:Nat) (w:World) (hn:xs.length=n) (hn2:n<=1000000) (h:Y7 w A xs) :
  Calls prog 58 #[.slice A n c] w fun e w'=>∃A' c',e=.returned (.slice A' n c')/\Y7 w' A' xs/\(∀g o,0<n->A'=some ⟨g,o,none⟩->w.heap.size<=g)/\Below w.heap.size w w':=by
 by_cases h0:0<n
 ·refine (J3 A xs n c w hn h0 hn2 h).mono ?_;rintro e w' ⟨v,rfl,ht,hb⟩;obtain⟨A2,c2,rfl⟩:=ht.formN hn;obtain⟨g,c3,e3,hg,-⟩:=ht.row (by omega)
  refine⟨A2,c2,rfl,ht.lotAt rfl,fun g' o _ e=>?_,hb⟩
  rw[e] at e3;cases e3;exact hg
 have hz:n=0:=by omega
 subst hz;have hx:xs=[]:=List.length_eq_zero_iff.1 hn;subst hx;clear h hn hn2 h0;cases A with
 | none=>
  refine (AnyE.slices_Clone_nil Tryz.cloneLt 0 c w).mono ?_;rintro e w' ⟨rfl,rfl⟩;exact⟨none,0,rfl,fun i y hy=>by simp at hy,fun _ _ h=>absurd h (by decide),Below.refl _ _⟩
 | some a=>
  have q22:∀w,(binOp .eql 44 (.slice (some a) 0 c) (.slice none 0 0)).run prog w=.ok (.bool false) w:=fun w=>Lib.run_eql_slice_nil w _ _ (some a) 0 c 0 0 underlying44
  go_enter func58,ntmps58;go_wp2;go_ret;exact⟨_,_,rfl,fun i y hy=>by simp at hy,fun _ _ h=>absurd h (by decide),Zh _ _⟩
theorem Ky {w:World} {b:Nat} {old cs:Array Value} {ty:TypeId} (h:w.heap[b]?=some (.cells old ty (0,0))) (hs:old.size=cs.size):w.there b 0 cs.size/\Xw w (w.setCells b 0 cs.toList) b (.cells cs ty (0,0)):=by
 refine⟨fun j hj=>⟨by rw[Zk h,Array.getElem?_eq_getElem (by omega)];rfl,Zt h _⟩,?_⟩
 have h1:=VO b ty cs.toList 0 old w h;have h2:=QJ cs.toList [] old.toList (by simpa using hs)
 simp only[List.nil_append,List.length_nil,Array.toArray_toList] at h2
 rwa [h2] at h1
section
variable {w:World} {bp bg bo bf B:Nat} {AP:Option Addr} {np cq:Nat} {ps:List (List UInt8)} {f:Fct} {j1 j2:Nat} {G:Int} {v1 v2:Value} {W W':World}
variable {W0:World} {x:Lot}
end
theorem FM {w:World} {B n sz:Nat} {ty:TypeId} {v:Value} {cs:List Value} (h:w.ownsRow B ty sz v n cs):∃A c,v=.slice A n c:=by
 rcases h.2 with ⟨e,hn⟩|⟨g,cap,cur,e,-⟩
 ·exact⟨none,0,by rw[e,hn]⟩
 ·exact⟨_,_,e⟩
theorem FN {Z:Int} {ys:List Lot} {ps:List (List UInt8)} {M N:Nat} (hN:M<=N) (hZ:(canon Z).length<=N) (hq:∀x∈ys,x.q.length<=M) (h:NZ (canon Z) (ys.map (·.q)) ps):∀p∈ps,p.length<=N+N+2:=by
 rcases h with ⟨-,rfl⟩|⟨h0,zs,rfl,hd⟩
 ·exact fun p hp=>by simp at hp
 ·intro p hp;obtain⟨z,hz,rfl⟩:=List.mem_map.1 hp;obtain⟨-,-,-,hw,-⟩:=SJ h0;refine UK.bd (N:=N) (fun u hu=>?_) (Zw hZ) hd z hz
  obtain⟨r,hr,rfl⟩:=List.mem_map.1 hu;obtain⟨y,hy,rfl⟩:=List.mem_map.1 hr;exact⟨(hw _ hr).2,Zw (by have:=hq y hy;omega)⟩
def LB (k e:Nat) (x:Lot):Prop:=x.q.length<=k/\x.cost.length<=e/\x.used.length<=k/\x.id.length<=40/\x.ins.length<=40
theorem LB.s {k e:Nat} {x:Lot} (h:LB k e x) (hk:k<=1000) (he:e<=1000):Vh x:=by
 obtain⟨h1,h2,h3,h4,h5⟩:=h;exact⟨by omega,by omega,by omega,by omega,by omega⟩
theorem QT (I:List UInt8):∀(xs:List Lot) (ps:List (List UInt8)),∀x∈ZZ I xs ps,∃y∈xs,x.id=y.id/\x.ins=y.ins/\x.q=y.q/\x.used=y.used/\(x.cost=y.cost∨x.cost∈ps)
 | [],_=>fun x hx=>by simp[ZZ] at hx
 | a::t,[]=>fun x hx=>⟨x,hx,rfl,rfl,rfl,rfl,.inl rfl⟩
 | a::t,p::ps=>fun x hx=>by
  unfold ZZ at hx
  split at hx
  ·rcases List.mem_cons.1 hx with rfl|hx
   ·exact⟨a,List.mem_cons_self,rfl,rfl,rfl,rfl,.inr List.mem_cons_self⟩
   ·obtain⟨y,hy,h1,h2,h3,h4,h5⟩:=QT I t ps x hx;exact⟨y,List.mem_cons_of_mem _ hy,h1,h2,h3,h4,h5.imp id (List.mem_cons_of_mem _)⟩
  ·rcases List.mem_cons.1 hx with rfl|hx
   ·exact⟨x,List.mem_cons_self,rfl,rfl,rfl,rfl,.inl rfl⟩
   ·obtain⟨y,hy,h1,h2,h3,h4,h5⟩:=QT I t (p::ps) x hx;exact⟨y,List.mem_cons_of_mem _ hy,h1,h2,h3,h4,h5⟩
theorem FO (I:List UInt8) (xs:List Lot):ZZ I xs []=xs:=by cases xs<;>rfl
theorem Bl {I:List UInt8} {m:Int} {xs xs2:List Lot} (hb:∀x∈xs,LB 20 13 x) (hq:∀x∈xs,x.q.length<=13) (hn:xs.length<=100000) (h:Pp I m xs xs2):xs2.length=xs.length/\∀x∈xs2,LB 20 60 x:=by
 rcases h with ⟨-,rfl⟩|⟨-,ps,rfl,hP⟩
 ·exact⟨rfl,fun x hx=>by obtain⟨h1,h2,h3⟩:=hb x hx;exact⟨h1,by omega,h3⟩⟩
 refine⟨(Wq I xs ps).1,fun x hx=>?_⟩
 have hT:(canon (Yx (ofL I xs))).length<=21:=Nt (YR 13 (fun x=>x.cost) (ofL I xs) (fun y hy=>(hb y (List.mem_filter.1 hy).1).2.1) (Nt (List.length_filter_le _ _) hn)) (by decide)
 have hps:=FN (M:=13) (N:=21) (by decide) hT (fun x hx=>hq x (List.mem_filter.1 hx).1) hP
 obtain⟨y,hy,h1,h2,h3,h4,h5⟩:=QT I xs ps x hx;obtain⟨b1,b2,b3,b4,b5⟩:=hb y hy;refine⟨by rw[h3];exact b1,?_,by rw[h4];exact b3,by rw[h1];exact b4,by rw[h2];exact b5⟩
 rcases h5 with e|e
 ·rw[e];omega
 ·exact Nt (hps _ e) (by decide)
theorem Hw {q:Rat} {k:Nat} (b:Bd k q) (m:Int):(rnd q m).natAbs<10 ^ (k+1):=by
 have h2:=EZ q m;have h3:=MA q;have h4:=b.1;rw[Nat.pow_succ];omega
theorem Kz {z y:Int} {i:Nat} (h1:z.natAbs<10 ^ i) (h2:y.natAbs<10 ^ i):(canon (z-y)).length<=i+2:=by
 refine Zu _ (i+1) ?_;rw[Nat.pow_succ];omega
theorem Hy {t p a:List UInt8} (ht:t.length<=60) (hp:p.length<=20) (ha:a.length<=20):(OQ (val t) (val p) (val a)).natAbs<10 ^ 81:=by
 have h1:=Zw ht;have h2:=Zw hp;have h3:=Zw ha;unfold OQ
 by_cases h0:val a=0
 ·rw[h0,Rat.divInt_zero];exact Hw (k:=80) (Ez (a:=0) (by decide) (by decide)) 1
 ·refine Hw (k:=80) (Vr ?_ ?_ h0) 1
  ·rw[Int.natAbs_mul];exact XS (i:=60) (j:=20) h1 h2
  ·exact Nat.lt_of_lt_of_le h3 (Nat.pow_le_pow_right (by decide) (by decide))
theorem ZaG {xs:List Lot} {pk:List Pk} (hk:Q7 xs pk) (hx:∀x∈xs,LB 20 60 x) (hp:∀p∈pk,p.q.length<=20):(∀y∈(Z8 (xs,[]) pk).2,LB 30 90 y)/\∀y∈(Z8 (xs,[]) pk).1,LB 30 90 y:=by
 obtain⟨-,h2,h3⟩:=SQ pk xs [] hk;have key:∀x∈xs,LB 30 90 x:=fun x h=>by obtain⟨h1,h2,h3,h4⟩:=hx x h;exact⟨by omega,by omega,by omega,h4⟩
 constructor
 ·intro y hy;rcases h2 y hy with h|⟨p,hpm,x,hxm,-,h⟩
  ·cases h
  ·rcases h with rfl|⟨-,-,rfl⟩
   ·exact key _ hxm
   ·obtain⟨b1,b2,b3,b4,b5⟩:=hx x hxm;have hq:=hp p hpm;refine⟨Nt hq (by decide),Nt (Zu _ 81 (Hy b2 hq b1)) (by decide),?_,b4,b5⟩
    show (if x.used=[] then [] else p.q).length<=30
    split
    ·exact Nat.zero_le _
    ·exact Nt hq (by decide)
 ·intro y hy;rcases h3 y hy with h|⟨p,hpm,x,hxm,-,rfl⟩
  ·exact key _ h
  ·obtain⟨b1,b2,b3,b4,b5⟩:=hx x hxm;have hq:=hp p hpm;have hd:(canon (val x.q-val p.q)).length<=30:=Nt (Kz (i:=20) (Zw b1) (Zw hq)) (by decide)
   refine⟨hd,Nt (Kz (i:=81) (Nat.lt_of_lt_of_le (Zw b2) (Nat.pow_le_pow_right (by decide) (by decide))) (Hy b2 hq b1)) (by decide),?_,b4,b5⟩
   show (if x.used=[] then [] else canon (val x.q-val p.q)).length<=30
   split
   ·exact Nat.zero_le _
   ·exact hd
theorem FP {xs xs2 rest taken:List Lot} {I q fid:List UInt8} {day m:Int} {ps:List Pk} {zs:List Int} {T:Int} (hE:chE xs2 I q m ps=0) (hs:∀x∈xs2,Vh x) (hql:q.length<=900) (hP:Pp I m xs xs2) (hS:L8 xs2 I q m ps rest taken) (hd:UK T (taken.map (fun x=>val x.q)) zs) :
  Z7 (((taken.zip (zs.map canon)).map (Ub fid I day)).map (·.pro))=T/\
  Z7 (((taken.zip (zs.map canon)).map (Ub fid I day)).map (·.cost))+Yx (ofL I rest)=Yx (ofL I xs)/\
  Z7 (((taken.zip (zs.map canon)).map (Ub fid I day)).map (·.q))+Yi (ofL I rest)=Yi (ofL I xs)/\
  canon (Z7 (((taken.zip (zs.map canon)).map (Ub fid I day)).map (·.q)))=q:=by
 obtain⟨c1,c2,-⟩:=QN hE;obtain⟨pk,hc,hp,e⟩:=hS;have e1:rest=(Z8 (xs2,[]) pk).1:=by rw[<-e]
 have e2:taken=(Z8 (xs2,[]) pk).2:=by rw[<-e]
 have hpq:=MN hE hs hql hc;obtain⟨l1,l2,l3⟩:=UZ c1;obtain⟨rem,hi,hr⟩:=hpq.inv;obtain⟨s1,s2,s3,-⟩:=NW l3 (fun x hx=>(MB (l2 x hx)).2.2.2.2.2.1) hi hr hp
 rw[<-e1,<-e2] at s2 s3;rw[<-e2] at s1;obtain⟨z1,z2⟩:=hd.sum;rw[List.length_map] at z2;have g1:∀(taken:List Lot) (zs:List Int),zs.length=taken.length->((taken.zip (zs.map canon)).map (Ub fid I day)).map (·.pro)=zs.map canon/\((taken.zip (zs.map canon)).map (Ub fid I day)).map (·.cost)=taken.map (·.cost)/\((taken.zip (zs.map canon)).map (Ub fid I day)).map (·.q)=taken.map (·.q):=by
  intro taken
  induction taken with
  | nil=>intro zs h;have:zs=[]:=List.eq_nil_of_length_eq_zero h;subst this;exact⟨rfl,rfl,rfl⟩
  | cons a t ih=>
   intro zs h;cases zs with
   | nil=>cases h
   | cons z r=>
    obtain⟨i1,i2,i3⟩:=ih r (by simpa using h)
    simp only[List.map_cons,List.zip_cons_cons];rw[i1,i2,i3];exact⟨rfl,rfl,rfl⟩
 obtain⟨g1,g2,g3⟩:=g1 taken zs z2;have v1:∀zs:List Int,Z7 (zs.map canon)=zs.sum:=by
  intro zs;unfold Z7;rw[List.map_map];congr 1;exact (List.map_congr_left (fun z _=>Zm z)).trans (List.map_id _)
 have v2:∀(f:Lot->List UInt8) (l:List Lot),Z7 (l.map f)=(l.map (fun x=>val (f x))).sum:=fun f l=>by unfold Z7;rw[List.map_map];rfl
 rw[g1,g2,g3,v1,v2,v2];have hpool:Yx (ofL I xs2)=Yx (ofL I xs)/\Yi (ofL I xs2)=Yi (ofL I xs):=by
  rcases hP with ⟨-,rfl⟩|⟨-,pp,rfl,hP⟩
  ·exact⟨rfl,rfl⟩
  ·rcases hP with ⟨-,rfl⟩|⟨-,ws,rfl,hw⟩
   ·rw[FO];exact⟨rfl,rfl⟩
   ·obtain⟨w1,w2⟩:=hw.sum;rw[List.length_map,List.length_map] at w2;obtain⟨p1,p2⟩:=OT I xs (ws.map canon) (by rw[List.length_map];exact w2)
    refine⟨p1.trans ?_,p2⟩;rw[show ((ws.map canon).map val).sum=Z7 (ws.map canon) from rfl,v1,w1,Zm]
 rw[<-hpool.1,<-hpool.2];have s1':(taken.map (fun x=>val x.q)).sum=val q:=s1
 refine⟨z1,?_,?_,?_⟩
 ·have:(List.map (fun x=>val x.cost) (ofI I rest)).sum+(List.map (fun x=>val x.cost) taken).sum=Yx (ofL I xs2):=s3
  rw[Int.add_comm];exact this
 ·have:(List.map (fun x=>val x.q) (ofI I rest)).sum+(List.map (fun x=>val x.q) taken).sum=Yi (ofL I xs2):=s2
  rw[Int.add_comm];exact this
 ·rw[s1'];exact c2.symm
theorem ZaH {xs2 rest taken:List Lot} {I q fid amt fee:List UInt8} {day m:Int} {ps:List Pk} {zs:List Int} (hE:chE xs2 I q m ps=0) (hb:∀x∈xs2,LB 20 60 x) (hq:q.length<=13) (hf:fid.length<=40) (hI:I.length<=40) (ha:amt.length<=13) (he:fee.length<=13) (hS:L8 xs2 I q m ps rest taken) (hd:UK (val (canon (val amt-val fee))) (taken.map (fun x=>val x.q)) zs) :
  rest.length<=1000/\(∀y∈rest,Vh y)/\((taken.zip (zs.map canon)).map (Ub fid I day)).length=taken.length/\taken.length<=1000/\∀x∈(taken.zip (zs.map canon)).map (Ub fid I day),GnS x:=by
 have hs:∀x∈xs2,Vh x:=fun x hx=>(hb x hx).s (by decide) (by decide)
 obtain⟨c1,c2,-⟩:=QN hE;obtain⟨pk,hc,hp,e⟩:=hS;have e1:rest=(Z8 (xs2,[]) pk).1:=by rw[<-e]
 have e2:taken=(Z8 (xs2,[]) pk).2:=by rw[<-e]
 have hpq:=MN hE hs (Nt hq (by decide)) hc
 obtain⟨l1,l2,l3⟩:=UZ c1;obtain⟨rem,hi,hr⟩:=hpq.inv;obtain⟨hk,hqs⟩:=J9 c1 hpq hp;have hpos:=Ur pk (fun p hp=>(hi.pos p hp).1)
 have hpl:∀p∈pk,p.q.length<=20/\0<=val p.q/\(val p.q).natAbs<10 ^ 13:=fun p hpm=>by
  obtain⟨p1,p2⟩:=hi.pos p hpm;have h4:=hpos.2 p hpm;have h5:=Zw hq;have h6:=hpq.sum;refine⟨?_,by omega,by omega⟩
  rw[p2];exact Nt (Zu _ 13 (by omega)) (by decide)
 obtain⟨b1,b2⟩:=ZaG hk hb (fun p hp=>(hpl p hp).1)
 have hlen:=(SQ pk xs2 [] hk).1.len;rw[<-e1] at b2 hlen;rw[<-e2] at b1 hqs;have hz:=hd.sum.2;rw[List.length_map] at hz;have hzl:((taken.zip (zs.map canon)).map (Ub fid I day)).length=taken.length:=by rw[List.length_map,List.length_zip,List.length_map];omega
 have hzb:∀z∈zs,(canon z).length<=14+14+2:=by
  refine UK.bd (N:=14) (fun z hz=>?_) ?_ hd
  ·obtain⟨x,hx,rfl⟩:=List.mem_map.1 hz;have h1:x.q∈pk.map (·.q):=by rw[<-hqs];exact List.mem_map.2 ⟨x,hx,rfl⟩
   obtain⟨p,hp,e⟩:=List.mem_map.1 h1;rw[<-e];obtain⟨-,h2,h3⟩:=hpl p hp;exact⟨h2,Nat.lt_of_lt_of_le h3 (by decide)⟩
  ·rw[Zm];have h1:=Zw ha;have h2:=Zw he;omega
 have htl:taken.length<=1000:=by
  have h1:=congrArg List.length hqs;rw[List.length_map,List.length_map] at h1;rw[h1];exact hpq.len
 refine⟨by omega,fun y hy=>(b2 y hy).s (by decide) (by decide),hzl,htl,fun x hx=>?_⟩
 obtain⟨y,hy,rfl⟩:=List.mem_map.1 hx;have h1:=(List.of_mem_zip hy).1;obtain⟨z,hz,e⟩:=List.mem_map.1 (List.of_mem_zip hy).2;obtain⟨g1,g2,g3,g4,g5⟩:=b1 _ h1;refine⟨by show fid.length<=_;omega,by show y.1.id.length<=_;omega,by show I.length<=_;omega,by show y.1.q.length<=_;omega,?_,by show y.1.cost.length<=_;omega⟩
 show y.2.length<=_;rw[<-e];exact Nt (hzb z hz) (by decide)
def Zb6 (P:Prop) (w:World) (f:Fct):Prop:=∀w',Below w.heap.size w w'->Calls prog 121 #[.agg (Zq f)] w' fun e w''=>(∃E:Int,e=.returned (Zi E)/\(P->E=0))/\Below w'.heap.size w' w''
theorem ZaI {P:Prop} {f:Fct} {xs:List Lot} {A:Option Addr} {n:Nat} {w:World} (c:Nat) (kd:Int) (hG:GE w) (hL:Yk w A xs n) (hC:Zb6 P w f) :
  Calls prog 89 #[.slice A n c,.agg (Zq f),Zi kd] w fun e w'=>(∃E:Int,e=.returned (Zi E)/\(Xs xs=0->P->f.kind=kd->E=0)/\(E=0->Xs xs=0/\f.kind=kd))/\Below w.heap.size w w':=by
 have hb0:=Zh w (.cells (Zq f) 48);have X0:Hid (Blk (w.alloc (.cells (Zq f) 48)) w.heap.size (Zq f)):=Blk.new w _ 48;have K1:=Lh (V2 c (hG.below hb0) (hL.below hb0));have HC:=Lh hC;obtain⟨E1,hE1⟩:∃E1,E1=Xs xs:=⟨_,rfl⟩
 rw[<-hE1] at K1;have HE1:=Lh hE1;rw[<-hE1];clear hE1 hC;go_enter func89,ntmps89;go_wp2_with fail
 refine K1.out.mono ?_
 rintro e w1 ⟨rfl,hb1⟩;have X1:=Lh (X0.out.below hb1);have HB1:=Lh (bto hb0 hb1);clear hb0 hb1 X0 K1
 by_cases h0:E1=0
 rotate_left
 ·have e5:decide (E1=0)=false:=Df h0;have e6:(E1==0)=false:=by rw[Bn];exact h0
  have H0:=Lh h0;go_wp2;go_ret;exact⟨⟨_,rfl,fun h=>absurd h H0.out,fun h=>by cases h⟩,HB1.out⟩
 subst h0;have C2:=Lh (HC.out w1 HB1.out);go_wp2_with (refine QS rfl 48 (.tmp 4) rfl w.heap.size rfl (Zq f) X1.out underlying48 rfl ZN ?_)
 refine C2.out.mono ?_
 rintro e w2 ⟨⟨E2,rfl,hE2⟩,hb2⟩;have q4:w2.cell? ⟨w.heap.size,4,none⟩=some (Zi f.kind):=(X1.out.below hb2).c 4;have HB2:=Lh (bto HB1.out hb2);have HE2:=Lh hE2;clear hE2 hb2 C2 HB1 X1
 by_cases h0:E2=0
 rotate_left
 ·have e5:decide (E2=0)=false:=Df h0;have e6:(E2==0)=false:=by rw[Bn];exact h0
  have H0:=Lh h0;go_wp2;go_ret;exact⟨⟨_,rfl,fun hg _=>absurd (HE2.out hg) H0.out,fun h=>by cases h⟩,HB2.out⟩
 subst h0
 by_cases hk:f.kind=kd
 ·have e5:decide (f.kind=kd)=true:=Dt hk;have e6:(f.kind==kd)=true:=by rw[beq_iff_eq];exact hk
  have HK:=Lh hk;clear hk;go_wp2;go_ret;exact⟨⟨_,rfl,fun _ _=>rfl,fun _=>HK.out⟩,HB2.out⟩
 ·have e5:decide (f.kind=kd)=false:=Df hk;have e6:(f.kind==kd)=false:=by rw[Bn];exact hk
  have HK:=Lh hk;clear hk;go_wp2;go_ret;exact⟨⟨_,rfl,fun _ h=>absurd h HK.out,fun h=>by cases h⟩,HB2.out⟩
theorem BA {w:World} {A:Option Addr} (c:Nat) (ins:List UInt8) (hG:GE w) (hL:Yk w A [] 0) :
  Calls prog 91 #[.slice A 0 c,Zg ins] w fun e w'=>(∃A' c' ps,e=.returned (.slice A' 0 c')/\NZ (canon (Yx (ofL ins []))) ((ofL ins []).map (·.q)) ps)/\Below w.heap.size w w':=by
 have K1:=Lh (Qz c ins hG hL);obtain⟨T1,hT1⟩:∃T1,T1=canon (Yi (ofL ins [])):=⟨_,rfl⟩
 obtain⟨T2,hT2⟩:∃T2,T2=canon (Yx (ofL ins [])):=⟨_,rfl⟩
 have hTl:T2.length<=1008:=by
  rw[hT2];exact YR 1000 (fun x=>x.cost) (ofL ins []) (fun y hy=>by cases (List.mem_filter.1 hy).1) (by show 0<=100000;decide)
 rw[<-hT1,<-hT2] at K1;rw[<-hT2];have HL:=Lh hL;have HG:=Lh hG;clear hL hT1 hT2 hG;go_enter func91,ntmps91;go_wp2_with fail
 refine K1.out.mono ?_
 rintro e w1 ⟨rfl,hb1⟩;clear K1;have K2:=Lh (lOf c ins (HL.out.below hb1));go_wp2_with fail
 refine K2.out.mono ?_
 rintro e w2 ⟨v2,rfl,hrow,hb2⟩;clear K2;have hrow:Y9 w2 w1.heap.size v2 (ofL ins []):=hrow;obtain⟨A2,c2,rfl⟩:=hrow.formN (n:=0) rfl;have HB2:=Lh (bto hb1 hb2);have HBe:Hid (Below w2.heap.size w2 w2):=Below.refl _ _;clear hrow hb1 hb2;go_wp2_with fail
 go_loopw [7,9,25] (fun qv _ iv wr=>.slice none 0 0=qv/\iv=Zi 0/\Hid (Below w2.heap.size w2 wr)) (fun _ _ iv _=>0-(intOf iv).toNat)
 case atStart=>exact⟨rfl,rfl,HBe.out⟩
 case round=>
 clear HBe;obtain⟨rfl,rfl,HBL⟩:=hrel;have hbw:=bto HB2.out HBL.out;have KS:=Lh (N3 (A:=none) (ws:=[]) (n:=0) (T:=T2) 0 (HG.out.below hbw) ⟨rfl,by decide,fun r hr=>(by cases hr),fun i r hr=>(by simp at hr)⟩ (by omega))
 clear HBL HB2;go_wp2_with fail
 refine KS.out.mono ?_
 rintro e w6 ⟨AP,ps,np,cq,err,rfl,hpl,hnp,hst,hpp,hb6⟩;clear KS;have HBW:=Lh (bto hbw hb6);have HPP:=Lh hpp;have KC:=Lh (Bi A [] 0 c w6 rfl (by decide) (fun i x hx=>by simp at hx))
 clear hb6 hbw hst hpp hpl hnp;go_wp2_with fail
 refine KC.out.mono ?_
 rintro e w7 ⟨A',c',rfl,-,-,hb7⟩;have HB7:=Lh (bto HBW.out hb7);have HBe:Hid (Below w7.heap.size w7 w7):=Below.refl _ _;clear KC hb7 HBW;go_wp2_with fail
 go_loopw [13,14,45] (fun kv _ iv wr=>kv=Zi 0/\iv=Zi 0/\Hid (Below w7.heap.size w7 wr)) (fun _ _ iv _=>0-(intOf iv).toNat)
 case atStart=>exact⟨rfl,rfl,HBe.out⟩
 case round=>
 clear HBe;obtain⟨rfl,rfl,HBL⟩:=hrel;have HBF:=Lh (bto HB7.out HBL.out);clear HBL HB7;go_wp2;go_ret;exact⟨⟨A',c',ps,rfl,HPP.out⟩,HBF.out⟩
theorem BB {w:World} {A:Option Addr} {xs:List Lot} {n:Nat} (c:Nat) (ins:List UInt8) (hG:GE w) (hL:Yk w A xs n) :
  Calls prog 91 #[.slice A n c,Zg ins] w fun e w'=>∃A2 c2 ps,e=.returned (.slice A2 n c2)/\(∀w4:World,(∀b,w.heap.size<=b->w4.heap[b]?=w'.heap[b]?)->Y7 w4 A2 (ZZ ins xs ps))/\NZ (canon (Yx (ofL ins xs))) ((ofL ins xs).map (·.q)) ps/\Below w.heap.size w w':=by
 by_cases hn0:0<n
 ·refine (Zaf c ins hG hL hn0).mono ?_;rintro e w' ⟨v,ps,rfl,hT,hP,hb⟩;obtain⟨A2,c2,rfl⟩:=hT.formN (n:=n) (by rw[(Wq ins xs ps).1,hL.len])
  exact⟨A2,c2,ps,rfl,fun w4 h4=>(show Y9 w4 w.heap.size (.slice A2 n c2) (ZZ ins xs ps) from Xo hT (fun b hb _=>h4 b hb)).lotAt rfl,hP,hb⟩
 ·have h0:n=0:=by omega
  subst h0;have hx:xs=[]:=List.eq_nil_of_length_eq_zero hL.len;subst hx;refine (BA c ins hG hL).mono ?_;rintro e w' ⟨⟨A2,c2,ps,rfl,hP⟩,hb⟩;exact⟨A2,c2,ps,rfl,fun w4 _ i x hx=>by simp[ZZ] at hx,hP,hb⟩
end Go.Proofs.YtpieeldbamklkaaGreatDoor
