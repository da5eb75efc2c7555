/- Texts put together: Oj Uq Ra Ga Gb Gc Bu Rf Us Ut Rj Ok. -/
import Derived.Test.YtpieeldbamklkaaGreatDoorV3
import Derived.Sort.Statements
set_option maxHeartbeats 8000000
set_option maxRecDepth 100000
open Go.Proofs.Tryz
namespace Go.Proofs.YtpieeldbamklkaaGreatDoor
open Go.RowKit Num
def PE (x y:Int):Int:=if x<y then -1 else if y<x then 1 else 0
theorem Zdd (x y:Int) (w:World):Calls prog 293 #[Zi x,Zi y] w fun e w'=>e=.returned (Zi (PE x y))/\w=w':=by
 unfold PE
 by_cases h1:x<y
 ·have e1:decide (x<y)=true:=Dt h1;rw[if_pos h1];clear h1;go_enter func293,ntmps293;go_wp2;go_ret;exact⟨rfl,rfl⟩
 ·have e1:decide (x<y)=false:=Df h1;rw[if_neg h1];clear h1
  by_cases h2:y<x
  ·have e2:decide (y<x)=true:=Dt h2;rw[if_pos h2];clear h2;go_enter func293,ntmps293;go_wp2;go_ret;exact⟨rfl,rfl⟩
  ·have e2:decide (y<x)=false:=Df h2;rw[if_neg h2];clear h2;go_enter func293,ntmps293;go_wp2;go_ret;exact⟨rfl,rfl⟩
theorem Zde (x y:Int) (w:World):Calls prog 270 #[Zi x,Zi y] w fun e w'=>e=.returned (Zi (PE x y))/\w=w':=by
 unfold PE
 by_cases h1:x<y
 ·have e1:decide (x<y)=true:=Dt h1;rw[if_pos h1];clear h1;go_enter func270,ntmps270;go_wp2;go_ret;exact⟨rfl,rfl⟩
 ·have e1:decide (x<y)=false:=Df h1;rw[if_neg h1];clear h1
  by_cases h2:y<x
  ·have e2:decide (y<x)=true:=Dt h2;rw[if_pos h2];clear h2;go_enter func270,ntmps270;go_wp2;go_ret;exact⟨rfl,rfl⟩
  ·have e2:decide (y<x)=false:=Df h2;rw[if_neg h2];clear h2;go_enter func270,ntmps270;go_wp2;go_ret;exact⟨rfl,rfl⟩
def orZ (x y:Int):Int:=if x=0 then y else x
theorem JU (b:Nat) (x y:Int) (w:World) (h0:w.cell? ⟨b,0,none⟩=some (Zi x)) (h1:w.cell? ⟨b,1,none⟩=some (Zi y)) :
  Calls prog 272 #[.slice (some ⟨b,0,none⟩) 2 2] w fun e w'=>e=.returned (Zi (orZ x y))/\w=w':=by
 have HV:Hid (orZ x y=if x=0 then y else x):=rfl
 generalize orZ x y=R at *;go_enter func272,ntmps272;go_wp2_with fail
 go_loop [5,8] (fun _ iv=>∃k:Nat,k<=2/\iv=Zi (k:Int)/\Hid (R=if k=0 then (if x=0 then y else x) else if k=1 then y else 0)) (fun _ iv=>2-(intOf iv).toNat)
 case atStart=>exact⟨0,by omega,rfl,HV.out⟩
 case round=>
  clear HV;obtain⟨k,hk,rfl,HV⟩:=hrel;have hk3:k=0∨k=1∨k=2:=by omega
  rcases hk3 with rfl|rfl|rfl
  ·by_cases g:x=0
   ·subst g;have HV2:Hid (R=y):=HV.out;clear HV;go_wp2
    go_round
    case rel=>exact⟨1,by omega,by go_num,HV2.out⟩
    case measure=>simp[intOf]
   ·have e1:(x==0)=false:=by rw[Bn];exact g
    have e2:=V0 e1;have HV2:Hid (R=x):=by show _=_;rw[HV.out,if_pos rfl,if_neg g]
    clear HV g;go_wp2;go_ret;exact⟨Z2 HV2.out.symm,rfl⟩
  ·have HV1:Hid (R=y):=HV.out;clear HV
   by_cases g:y=0
   ·subst g;go_wp2
    go_round
    case rel=>exact⟨2,by omega,by go_num,HV1.out⟩
    case measure=>simp[intOf]
   ·have e1:(y==0)=false:=by rw[Bn];exact g
    have e2:=V0 e1;clear g;go_wp2;go_ret;exact⟨Z2 HV1.out.symm,rfl⟩
  ·have HV1:Hid (R=0):=HV.out;clear HV;go_wp2;go_ret;exact⟨Z2 HV1.out.symm,rfl⟩
def Z0 {α:Type} (p:α->Bool):List α->Nat->Int
 | [],_=>-1
 | a::t,k=>if p a=true then (k:Int) else Z0 p t (k+1)
section
variable {α:Type} (p:α->Bool)
theorem NL (zs:List α) (k:Nat) (y:α) (h:zs[k]?=some y):Z0 p (zs.drop k) k=if p y=true then (k:Int) else Z0 p (zs.drop (k+1)) (k+1):=by
 obtain⟨hk,rfl⟩:=Lg.1 h;rw[List.drop_eq_getElem_cons hk];rfl
theorem U2:∀(zs:List α) (k:Nat),0<=Z0 p zs k↔zs.any p=true
 | [],k=>by simp[Z0]
 | a::t,k=>by
  unfold Z0
  by_cases h:p a=true
  ·simp[h]
  ·rw[if_neg h,U2 t (k+1)];simp[h]
theorem Vi:∀(zs:List α) (k:Nat),0<=Z0 p zs k->∃i x,Z0 p zs k=((k+i:Nat):Int)/\zs[i]?=some x/\p x=true/\∀j y,j<i->zs[j]?=some y->p y=false
 | [],k=>fun h=>by simp[Z0] at h
 | a::t,k=>fun h=>by
  unfold Z0 at h ⊢
  by_cases ha:p a=true
  ·rw[if_pos ha];exact⟨0,a,by simp,rfl,ha,fun j _ hj=>absurd hj (Nat.not_lt_zero _)⟩
  ·rw[if_neg ha] at h ⊢;obtain⟨i,x,e,hx,hp,hf⟩:=Vi t (k+1) h;refine⟨i+1,x,by rw[e];congr 1;omega,hx,hp,fun j y hj hy=>?_⟩
   cases j with
   | zero=>simp at hy;subst hy;simpa using ha
   | succ j=>exact hf j y (by omega) hy
end
structure Pk where
 lot:List UInt8
 q:List UInt8
 deriving DecidableEq
def Ya (id:List UInt8) (p:Pk):Bool:=p.lot==id
def isLt (id:List UInt8) (x:Lot):Bool:=x.id==id
def Xh (a b:List UInt8):List UInt8:=if val a<val b then a else b
def SL (out:List Pk) (x:Lot):List UInt8:=
 if 0<=Z0 (Ya x.id) out 0 then canon (val x.q-val ((out.getD (Z0 (Ya x.id) out 0).toNat ⟨[],[]⟩).q)) else x.q
def nS (out:List Pk) (rem:List UInt8) (x:Lot) (most:List UInt8):List UInt8:=Xh (Xh most (SL out x)) rem
def PF (out:List Pk) (x:Lot) (n:List UInt8):List Pk:=
 if 0<=Z0 (Ya x.id) out 0 then out.set (Z0 (Ya x.id) out 0).toNat ⟨(out.getD (Z0 (Ya x.id) out 0).toNat ⟨[],[]⟩).lot,canon (val ((out.getD (Z0 (Ya x.id) out 0).toNat ⟨[],[]⟩).q)+val n)⟩
 else out++[⟨x.id,canon (val n)⟩]
def YO (s:List Pk×List UInt8) (x:Lot) (most:List UInt8):List Pk×List UInt8:=
 if val (nS s.1 s.2 x most)<=0 then s else (PF s.1 x (nS s.1 s.2 x most),canon (val s.2-val (nS s.1 s.2 x most)))
def Xb (l:List Pk):Int:=(l.map (fun p=>val p.q)).sum
def Xi (l:List Pk) (id:List UInt8):Int:=((l.filter (Ya id)).map (fun p=>val p.q)).sum
structure Yz (own:List Lot) (Q:Int) (s:List Pk×List UInt8):Prop where
 sum:Xb s.1+val s.2=Q
 rem:0<=val s.2
 can:s.2=canon (val s.2)
 pos:∀p∈s.1,0<val p.q/\p.q=canon (val p.q)
 nd:(s.1.map (·.lot)).Nodup
 mem:∀p∈s.1,∃x∈own,x.id=p.lot
theorem Ur:∀(l:List Pk),(∀p∈l,0<val p.q)->0<=Xb l/\∀p∈l,val p.q<=Xb l
 | [],_=>⟨Int.le_refl _,fun p hp=>by cases hp⟩
 | a::t,h=>by
  obtain⟨h1,h2⟩:=Ur t (fun p hp=>h p (List.mem_cons_of_mem _ hp))
  have ha:=h a List.mem_cons_self;have e:Xb (a::t)=val a.q+Xb t:=by simp[Xb]
  refine⟨by omega,fun p hp=>?_⟩
  rcases List.mem_cons.1 hp with rfl|hp
  ·omega
  ·have:=h2 p hp;omega
theorem AX (l:List Pk) (id:List UInt8) (h:∀p∈l,0<val p.q):0<=Xi l id:=
 (Ur (l.filter (Ya id)) (fun p hp=>h p (List.mem_filter.1 hp).1)).1
theorem LF (a b:List Pk):Xb (a++b)=Xb a+Xb b:=by simp[Xb]
theorem I3 (a b:List Pk) (id:List UInt8):Xi (a++b) id=Xi a id+Xi b id:=by simp[Xi]
theorem I4 (p:Pk) (id:List UInt8):Xi [p] id=if p.lot=id then val p.q else 0:=by
 unfold Xi
 by_cases h:p.lot=id
 ·simp[Ya,h]
 ·simp[Ya,h]
theorem Fa {l:List Pk} {i:Nat} {p:Pk} (h:l[i]?=some p) (u:Pk):l=l.take i++[p]++l.drop (i+1)/\l.set i u=l.take i++[u]++l.drop (i+1):=by
 obtain⟨hi,rfl⟩:=Lg.1 h;refine⟨?_,?_⟩
 ·rw[List.append_assoc,List.singleton_append,<-List.drop_eq_getElem_cons hi,List.take_append_drop]
 ·rw[List.set_eq_take_append_cons_drop,if_pos hi,List.append_assoc,List.singleton_append]
theorem Dk:∀{l:List Pk} {i:Nat} {p:Pk},(l.map (·.lot)).Nodup->l[i]?=some p->Xi l p.lot=val p.q
 | [],i,p,_,h=>by simp at h
 | a::t,0,p,hn,h=>by
  simp at h;subst h;have hn':=List.nodup_cons.1 (by simpa using hn:(a.lot::t.map (·.lot)).Nodup)
  have e:t.filter (Ya a.lot)=[]:=by
   rw[List.filter_eq_nil_iff];intro x hx hc;refine hn'.1 (List.mem_map.2 ⟨x,hx,?_⟩);simpa [Ya] using hc
  unfold Xi;rw[List.filter_cons_of_pos (by simp[Ya]),e]
  simp
 | a::t,i+1,p,hn,h=>by
  have hn':=List.nodup_cons.1 (by simpa using hn:(a.lot::t.map (·.lot)).Nodup)
  have hp:t[i]?=some p:=by simpa using h
  have ih:=Dk hn'.2 hp;have hne:a.lot≠p.lot:=fun e=>hn'.1 (List.mem_map.2 ⟨p,Lm hp,e.symm⟩)
  unfold Xi at ih ⊢;rw[List.filter_cons_of_neg (by simp[Ya,hne]),ih]
theorem Dl {l:List Pk} {id:List UInt8} (h:l.any (Ya id)=false):Xi l id=0:=by
 unfold Xi
 have:l.filter (Ya id)=[]:=by
  rw[List.filter_eq_nil_iff];intro x hx hc;rw[List.any_eq_false] at h;exact h x hx hc
 rw[this];rfl
theorem LG (a b:List UInt8):val (Xh a b)<=val a/\val (Xh a b)<=val b/\(val (Xh a b)=val a∨val (Xh a b)=val b):=by
 unfold Xh
 split
 ·exact⟨Int.le_refl _,by omega,.inl rfl⟩
 ·exact⟨by omega,Int.le_refl _,.inr rfl⟩
theorem Dm {out:List Pk} {x:Lot} (hn:(out.map (·.lot)).Nodup):val (SL out x)=val x.q-Xi out x.id:=by
 unfold SL
 by_cases h:0<=Z0 (Ya x.id) out 0
 ·rw[if_pos h,Zm];obtain⟨i,p,e,hp,hq,-⟩:=Vi _ _ _ h;rw[e,Nat.zero_add,Int.toNat_natCast,List.getD_eq_getElem?_getD,hp];have e2:p.lot=x.id:=by simpa [Ya] using hq
  have:=Dk hn hp
  rw[e2] at this;simp[this]
 ·rw[if_neg h]
  have:out.any (Ya x.id)=false:=by
   cases hc:out.any (Ya x.id) with
   | false=>rfl
   | true=>exact absurd ((U2 _ _ 0).2 hc) h
  rw[Dl this];omega
theorem Fb {out:List Pk} {x:Lot} {n:List UInt8} (hn:(out.map (·.lot)).Nodup) (hp:∀p∈out,0<val p.q/\p.q=canon (val p.q)) (h0:0<val n) :
  Xb (PF out x n)=Xb out+val n/\(∀id,Xi (PF out x n) id=Xi out id+if x.id=id then val n else 0)/\(∀p∈PF out x n,0<val p.q/\p.q=canon (val p.q))/\((PF out x n).map (·.lot)).Nodup/\∀p∈PF out x n,p.lot=x.id∨p∈out:=by
 unfold PF
 by_cases h:0<=Z0 (Ya x.id) out 0
 ·rw[if_pos h];obtain⟨i,p,e,hi,hq,-⟩:=Vi _ _ _ h;have e2:p.lot=x.id:=by simpa [Ya] using hq
  rw[e,Nat.zero_add,Int.toNat_natCast,List.getD_eq_getElem?_getD,hi,Option.getD_some];obtain⟨s1,s2⟩:=Fa hi ⟨p.lot,canon (val p.q+val n)⟩;have hpp:=hp p (Lm hi);refine⟨?_,fun id=>?_,fun r hr=>?_,?_,fun r hr=>?_⟩
  ·rw[s2]
   conv=>rhs;rw[s1]
   simp only[LF];simp[Xb,Zm];omega
  ·rw[s2]
   conv=>rhs;rw[s1]
   simp only[I3,I4,e2]
   by_cases hid:x.id=id
   ·simp[hid,Zm];omega
   ·simp[hid]
  ·rcases List.mem_or_eq_of_mem_set hr with hr|rfl
   ·exact hp r hr
   ·rw[Zm];exact⟨by omega,rfl⟩
  ·have:(out.set i ⟨p.lot,canon (val p.q+val n)⟩).map (·.lot)=out.map (·.lot):=by
    rw[List.map_set];apply List.ext_getElem?;intro j;rw[List.getElem?_set]
    split
    ·rename_i hj;subst hj
     split
     ·simp[hi]
     ·rename_i hlt;simp at hlt;simp[List.getElem?_eq_none hlt]
    ·rfl
   rw[this];exact hn
  ·rcases List.mem_or_eq_of_mem_set hr with hr|rfl
   ·exact .inr hr
   ·exact .inl e2
 ·rw[if_neg h];have hany:out.any (Ya x.id)=false:=by
   cases hc:out.any (Ya x.id) with
   | false=>rfl
   | true=>exact absurd ((U2 _ _ 0).2 hc) h
  refine⟨?_,fun id=>?_,fun r hr=>?_,?_,fun r hr=>?_⟩
  ·rw[LF];simp[Xb,Zm]
  ·rw[I3,I4,Zm]
  ·rcases List.mem_append.1 hr with hr|hr
   ·exact hp r hr
   ·simp at hr;subst hr;rw[Zm];exact⟨h0,rfl⟩
  ·rw[List.map_append,List.nodup_append];refine⟨hn,by simp,fun a ha b hb hab=>?_⟩
   simp at hb;subst hb;subst hab;obtain⟨r,hr,e⟩:=List.mem_map.1 ha;rw[List.any_eq_false] at hany;exact hany r hr (by simp[Ya,e])
  ·rcases List.mem_append.1 hr with hr|hr
   ·exact .inr hr
   ·simp at hr;subst hr;exact .inl rfl
theorem U3 {own:List Lot} {Q:Int} {s:List Pk×List UInt8} {x:Lot} (most:List UInt8) (h:Yz own Q s) (hx:x∈own) :
  Yz own Q (YO s x most)/\(∀id,Xi s.1 id<=Xi (YO s x most).1 id)/\val (YO s x most).2<=val s.2/\(val most=val x.q->val (YO s x most).2=0∨val x.q<=Xi (YO s x most).1 x.id):=by
 have l1:=LG (Xh most (SL s.1 x)) s.2;have l2:=LG most (SL s.1 x);have l3:=Dm (x:=x) h.nd;have l4:=AX s.1 x.id (fun p hp=>(h.pos p hp).1)
 have l5:=h.rem;obtain⟨n,hn⟩:∃n,n=nS s.1 s.2 x most:=⟨_,rfl⟩
 have hn':=hn;unfold nS at hn';rw[<-hn'] at l1;unfold YO;rw[<-hn]
 by_cases h0:val n<=0
 ·rw[if_pos h0];refine⟨h,fun _=>Int.le_refl _,Int.le_refl _,fun hm=>?_⟩
  omega
 ·rw[if_neg h0];obtain⟨p1,p2,p3,p4,p5⟩:=Fb (x:=x) (n:=n) h.nd h.pos (by omega)
  have hs:=h.sum;refine⟨⟨?_,?_,?_,p3,p4,fun p hp=>?_⟩,fun id=>?_,?_,fun hm=>?_⟩
  ·show Xb (PF s.1 x n)+val (canon (val s.2-val n))=Q;rw[p1,Zm];omega
  ·show 0<=val (canon (val s.2-val n));rw[Zm];omega
  ·show canon (val s.2-val n)=_;rw[Zm]
  ·rcases p5 p hp with e|hp
   ·exact⟨x,hx,e.symm⟩
   ·exact h.mem p hp
  ·show _<=Xi (PF s.1 x n) id;rw[p2]
   split<;>omega
  ·show val (canon (val s.2-val n))<=_;rw[Zm];omega
  ·show val (canon (val s.2-val n))=0∨val x.q<=Xi (PF s.1 x n) x.id;rw[p2,Zm,if_pos rfl];omega
def WS (own:List Lot):List Pk->List Pk×List UInt8->List Pk×List UInt8
 | [],s=>s
 | p::t,s=>WS own t (if 0<=Z0 (isLt p.lot) own 0 then YO s (own.getD (Z0 (isLt p.lot) own 0).toNat ⟨[],[],0,0,[],[],[]⟩) p.q else s)
def Yy:List Lot->List Pk×List UInt8->List Pk×List UInt8
 | [],s=>s
 | x::t,s=>Yy t (YO s x x.q)
theorem QC {own:List Lot} {Q:Int}:∀(ps:List Pk) {s:List Pk×List UInt8},Yz own Q s->Yz own Q (WS own ps s)
 | [],_,h=>h
 | p::t,s,h=>by
  unfold WS
  by_cases hi:0<=Z0 (isLt p.lot) own 0
  ·rw[if_pos hi];obtain⟨i,x,e,hx,-,-⟩:=Vi _ _ _ hi;rw[e,Nat.zero_add,Int.toNat_natCast,List.getD_eq_getElem?_getD,hx,Option.getD_some];exact QC t (U3 p.q h (Lm hx)).1
  ·rw[if_neg hi];exact QC t h
theorem LH {own:List Lot} {Q:Int}:∀(xs:List Lot) {s:List Pk×List UInt8},(∀x∈xs,x∈own)->Yz own Q s->
  Yz own Q (Yy xs s)/\(∀id,Xi s.1 id<=Xi (Yy xs s).1 id)/\val (Yy xs s).2<=val s.2/\∀x∈xs,val (Yy xs s).2=0∨val x.q<=Xi (Yy xs s).1 x.id
 | [],_,_,h=>⟨h,fun _=>Int.le_refl _,Int.le_refl _,fun x hx=>by cases hx⟩
 | x::t,s,hm,h=>by
  obtain⟨a1,a2,a3,a4⟩:=U3 x.q h (hm x List.mem_cons_self);obtain⟨b1,b2,b3,b4⟩:=LH t (fun y hy=>hm y (List.mem_cons_of_mem _ hy)) a1
  unfold Yy;refine⟨b1,fun id=>Int.le_trans (a2 id) (b2 id),Int.le_trans b3 a3,fun y hy=>?_⟩
  rcases List.mem_cons.1 hy with rfl|hy
  ·have:=a4 rfl
   have:=b2 y.id
   have:=b1.rem
   omega
  ·exact b4 y hy
def Za2 (l:List Lot):Int:=(l.map (fun x=>val x.q)).sum
theorem I5:∀(ids:List (List UInt8)),ids.Nodup->∀(out:List Pk),(∀p∈out,0<val p.q)->(ids.map (Xi out)).sum<=Xb out
 | [],_,out,h=>by simpa using (Ur out h).1
 | a::t,hn,out,h=>by
  have hn':=List.nodup_cons.1 hn;have ih:=I5 t hn'.2 (out.filter (fun p=>!Ya a p)) (fun p hp=>h p (List.mem_filter.1 hp).1)
  have e1:∀id∈t,Xi (out.filter (fun p=>!Ya a p)) id=Xi out id:=fun id hid=>by
   unfold Xi;rw[List.filter_filter];congr 2;apply List.filter_congr;intro p _
   by_cases hp:p.lot=id
   ·have:id≠a:=fun e=>hn'.1 (e ▸ hid)
    simp[Ya,hp,this]
   ·simp[Ya,hp]
  have e2:Xb out=Xi out a+Xb (out.filter (fun p=>!Ya a p)):=by
   clear ih e1 h
   induction out with
   | nil=>rfl
   | cons p r ih=>
    have e3:Xb (p::r)=val p.q+Xb r:=by simp[Xb]
    by_cases hp:Ya a p=true
    ·have:Xi (p::r) a=val p.q+Xi r a:=by simp[Xi,hp]
     rw[e3,this,List.filter_cons_of_neg (by simp[hp])];omega
    ·have:Xi (p::r) a=Xi r a:=by simp[Xi,hp]
     rw[e3,this,List.filter_cons_of_pos (by simpa using hp)]
     have:Xb (p::r.filter (fun p=>!Ya a p))=val p.q+Xb (r.filter (fun p=>!Ya a p)):=by simp[Xb]
     omega
  rw[List.map_cons,List.sum_cons,e2,<-List.map_congr_left e1];omega
theorem Dn {α:Type} {f g:α->Int}:∀(l:List α),(∀x∈l,f x<=g x)->(l.map f).sum<=(l.map g).sum
 | [],_=>Int.le_refl _
 | a::t,h=>by
  have:=Dn t (fun x hx=>h x (List.mem_cons_of_mem _ hx))
  have:=h a List.mem_cons_self
  simp;omega
theorem Do {own xs:List Lot} {Q:Int} {s:List Pk×List UInt8} (hx:xs.Perm own) (hn:(own.map (·.id)).Nodup) (hq:Q<=Za2 own) (h:Yz own Q s) :
  Yz own Q (Yy xs s)/\val (Yy xs s).2=0/\Xb (Yy xs s).1=Q:=by
 obtain⟨b1,-,-,b4⟩:=LH xs (fun x hx'=>hx.subset hx') h
 have hs:=b1.sum
 by_cases h0:val (Yy xs s).2=0
 ·exact⟨b1,h0,by omega⟩
 ·have h1:∀x∈own,val x.q<=Xi (Yy xs s).1 x.id:=fun x hx'=>(b4 x (hx.symm.subset hx')).resolve_left h0
  have h2:=Dn own h1;have h3:=I5 (own.map (·.id)) hn (Yy xs s).1 (fun p hp=>(b1.pos p hp).1)
  rw[List.map_map] at h3;have h4:Za2 own<=Xb (Yy xs s).1:=Int.le_trans h2 h3
  have:=b1.rem
  omega
def XI (w:World) (A:Option Addr) (ps:List Pk):Prop:=∀(i:Nat) (r:Pk),ps[i]?=some r->∃b o,A=some ⟨b,o,none⟩/\b<w.heap.size/\w.cell? ⟨b,o+i*2,none⟩=some (Zg r.lot)/\w.cell? ⟨b,o+i*2+1,none⟩=some (Zg r.q)
theorem XI.below {w w':World} {A:Option Addr} {rs:List Pk} (h:XI w A rs) (hb:Below w.heap.size w w'):XI w' A rs:=fun i t ht=>by
 obtain⟨b,o,hA,hl,h0,h1⟩:=h i t ht;exact⟨b,o,hA,Nat.lt_of_lt_of_le hl hb.size,(hb.cell (p:=⟨b,_,none⟩) hl).trans h0,(hb.cell (p:=⟨b,_,none⟩) hl).trans h1⟩
theorem XI.take {w:World} {A:Option Addr} {rs:List Pk} (h:XI w A rs) (k:Nat):XI w A (rs.take k):=fun i t ht=>by
 rw[List.getElem?_take] at ht
 split at ht
 ·exact h i t ht
 ·cases ht
theorem ZbE (f:Nat) (hcall:∀(args:Array Value) w,(callFunc f args).run prog w=.ok (.enter f args) w) (p:Lot->Bool) (caps:Array Value) (A:Option Addr) (rs:List Lot) (n c:Nat) (w:World) (hn:rs.length=n) (hn2:n<=1000000000) (h:Y7 w A rs)
  (hp:∀x∈rs,∀w',Below w.heap.size w w'->Calls prog f (#[(Value.agg (Zn x))]++caps) w' fun e w''=>e=.returned (.bool (p x))/\Below w'.heap.size w' w'') :
  Calls prog 209 #[.slice A n c,.func (Fn.func f) #[] caps] w fun e w'=>e=.returned (Zi (Z0 p rs 0))/\Below w.heap.size w w':=by
 have HI:=Lh h;have HP:=Lh hp;have hn1:rs.length<=n:=by omega
 have hn3:n<=rs.length:=by omega
 obtain⟨Z,hZ⟩:∃Z,Z=Z0 p rs 0:=⟨_,rfl⟩
 rw[<-hZ];have HZ:Hid (Z=Z0 p (rs.drop 0) 0):=hZ;clear h hp hn hZ;go_enter func209,ntmps209;go_wp2_with fail
 go_loopw [8] (fun iv wr=>∃k:Nat,k<=n/\iv=Zi (k:Int)/\Hid (Z=Z0 p (rs.drop k) k)/\Below w.heap.size w wr) (fun iv _=>n-(intOf iv).toNat)
 case atStart=>exact⟨0,Nat.zero_le _,rfl,HZ.out,Below.refl _ _⟩
 case round=>
  clear HZ;obtain⟨k,hk,rfl,HK,hb⟩:=hrel
  by_cases hlt:k<n
  ·obtain⟨x,hx⟩:∃x,rs[k]?=some x:=⟨_,List.getElem?_eq_getElem (by omega)⟩
   obtain⟨b,o,rfl,hbs,hc0⟩:=(HI.out.below hb) k x hx;have HD:=Lh (NL p rs k x hx);have CP:=Lh (HP.out x (Lm hx) wr hb);have e1:decide (k<n)=true:=Dt hlt;clear hx;have p0:=hc0.c0;have p1:=hc0.c1;have p2:=hc0.c2;have p3:=hc0.c3;have p4:=hc0.c4;have p5:=hc0.c5;have p6:=hc0.c6;go_wp2_with fail
   refine CP.out.mono ?_
   rintro e w2 ⟨rfl,hb2⟩;replace hb:=bto hb hb2;clear hb2 CP hc0 p0 p1 p2 p3 p4 p5 p6
   by_cases hq:p x=true
   ·have HV:Hid (Z=(k:Int)):=by show _=_;rw[HK.out,HD.out,if_pos hq]
    rw[hq];clear hq HK HD;go_wp2;go_ret;exact⟨Z2 HV.out.symm,hb⟩
   ·have HV:Hid (Z=Z0 p (rs.drop (k+1)) (k+1)):=by show _=_;rw[HK.out,HD.out,if_neg hq]
    rw[YW hq];clear hq HK HD;go_wp2;go_roundw
    case rel=>exact⟨k+1,by omega,by go_num,HV,hb⟩
    case measure=>simp[intOf];omega
  ·have HV:Hid (Z = -1):=by show _=_;rw[HK.out,List.drop_of_length_le (by omega)];rfl
   have e1:decide (k<n)=false:=Df hlt;clear HK;go_wp2;go_ret;exact⟨Z2 HV.out.symm,hb⟩
theorem Dq (f:Nat) (hcall:∀(args:Array Value) w,(callFunc f args).run prog w=.ok (.enter f args) w) (p:Pk->Bool) (caps:Array Value) (A:Option Addr) (rs:List Pk) (n c:Nat) (w:World) (hn:rs.length=n) (hn2:n<=1000000000) (h:XI w A rs)
  (hp:∀x∈rs,∀w',Below w.heap.size w w'->Calls prog f (#[.agg #[Zg x.lot,Zg x.q]]++caps) w' fun e w''=>e=.returned (.bool (p x))/\Below w'.heap.size w' w'') :
  Calls prog 163 #[.slice A n c,.func (Fn.func f) #[] caps] w fun e w'=>e=.returned (Zi (Z0 p rs 0))/\Below w.heap.size w w':=by
 have HI:=Lh h;have HP:=Lh hp;have hn1:rs.length<=n:=by omega
 have hn3:n<=rs.length:=by omega
 obtain⟨Z,hZ⟩:∃Z,Z=Z0 p rs 0:=⟨_,rfl⟩
 rw[<-hZ];have HZ:Hid (Z=Z0 p (rs.drop 0) 0):=hZ;clear h hp hn hZ;go_enter func163,ntmps163;go_wp2_with fail
 go_loopw [8] (fun iv wr=>∃k:Nat,k<=n/\iv=Zi (k:Int)/\Hid (Z=Z0 p (rs.drop k) k)/\Below w.heap.size w wr) (fun iv _=>n-(intOf iv).toNat)
 case atStart=>exact⟨0,Nat.zero_le _,rfl,HZ.out,Below.refl _ _⟩
 case round=>
  clear HZ;obtain⟨k,hk,rfl,HK,hb⟩:=hrel
  by_cases hlt:k<n
  ·obtain⟨x,hx⟩:∃x,rs[k]?=some x:=⟨_,List.getElem?_eq_getElem (by omega)⟩
   obtain⟨b,o,rfl,hbs,p0,p1⟩:=(HI.out.below hb) k x hx;have HD:=Lh (NL p rs k x hx);have CP:=Lh (HP.out x (Lm hx) wr hb);have e1:decide (k<n)=true:=Dt hlt;clear hx;go_wp2_with fail
   refine CP.out.mono ?_
   rintro e w2 ⟨rfl,hb2⟩;replace hb:=bto hb hb2;clear hb2 CP p0 p1
   by_cases hq:p x=true
   ·have HV:Hid (Z=(k:Int)):=by show _=_;rw[HK.out,HD.out,if_pos hq]
    rw[hq];clear hq HK HD;go_wp2;go_ret;exact⟨Z2 HV.out.symm,hb⟩
   ·have HV:Hid (Z=Z0 p (rs.drop (k+1)) (k+1)):=by show _=_;rw[HK.out,HD.out,if_neg hq]
    rw[YW hq];clear hq HK HD;go_wp2;go_roundw
    case rel=>exact⟨k+1,by omega,by go_num,HV,hb⟩
    case measure=>simp[intOf];omega
  ·have HV:Hid (Z = -1):=by show _=_;rw[HK.out,List.drop_of_length_le (by omega)];rfl
   have e1:decide (k<n)=false:=Df hlt;clear HK;go_wp2;go_ret;exact⟨Z2 HV.out.symm,hb⟩
theorem Dr {α:Type} (p:α->Bool) (rs:List α):decide (0<=Z0 p rs 0)=rs.any p:=by
 have h:=U2 p rs 0
 by_cases g:0<=Z0 p rs 0
 ·rw[Dt g,h.1 g]
 ·rw[Df g];cases hc:rs.any p with
  | false=>rfl
  | true=>exact absurd (h.2 hc) g
theorem I6 (f:Nat) (hcall:∀(args:Array Value) w,(callFunc f args).run prog w=.ok (.enter f args) w) (p:Pk->Bool) (caps:Array Value) (A:Option Addr) (rs:List Pk) (n c:Nat) (w:World) (hn:rs.length=n) (hn2:n<=1000000000) (h:XI w A rs)
  (hp:∀x∈rs,∀w',Below w.heap.size w w'->Calls prog f (#[.agg #[Zg x.lot,Zg x.q]]++caps) w' fun e w''=>e=.returned (.bool (p x))/\Below w'.heap.size w' w'') :
  Calls prog 159 #[.slice A n c,.func (Fn.func f) #[] caps] w fun e w'=>e=.returned (.bool (rs.any p))/\Below w.heap.size w w':=by
 have C1:=Lh (Dq f hcall p caps A rs n c w hn hn2 h hp);have HV:=Lh (Dr p rs);generalize Z0 p rs 0=z at *;clear hn h hp;go_enter func159,ntmps159;go_wp2_with fail;refine C1.out.mono ?_;rintro e w2 ⟨rfl,hb⟩
 by_cases g:0<=z
 ·have e1:decide (0<=z)=true:=Dt g;go_wp2;go_ret;exact⟨by rw[<-HV.out,e1];rfl,hb⟩
 ·have e1:decide (0<=z)=false:=Df g;go_wp2;go_ret;exact⟨by rw[<-HV.out,e1];rfl,hb⟩
theorem ZbF (x:Lot) (bi:Nat) (id:List UInt8) (w:World) (h:Blk w bi #[Zg id]) :
  Calls prog 210 #[(Value.agg (Zn x)),.pointer (some ⟨bi,0,none⟩)] w fun e w'=>e=.returned (.bool (isLt id x))/\Below w.heap.size w w':=by
 have hb:=Zh w (.cells (Zn x) 130);have x1:=Yq.new w x 130;have p0:=x1.c0;have p1:=(h.below hb).c 0;have HV:Hid (isLt id x=(x.id==id)):=rfl;have he:=Tk x.id id;generalize isLt id x=R at *;clear h x1;go_enter func210,ntmps210;go_wp2;go_ret;refine⟨ZR ?_,hb⟩;rw[HV.out]<;>first|exact he|rfl
theorem LI (args:Array Value) (w:World):(callFunc 210 args).run prog w=.ok (.enter 210 args) w:=by kernel_rfl
def Fc (z:Int):Int:=if 0<=z then z else 0
theorem Ds {w:World} {A:Option Addr} {xs:List Lot} {n:Nat} (c:Nat) (id:List UInt8) (hn:xs.length=n) (hn2:n<=100000) (h:Y7 w A xs) :
  Calls prog 166 #[.slice A n c,Zg id] w fun e w'=>e=.returned (.tuple #[Zi (Fc (Z0 (isLt id) xs 0)),.bool (decide (0<=Z0 (isLt id) xs 0))])/\Below w.heap.size w w':=by
 have hb:=Zh w (.cells #[Zg id] 9);have x1:=Lh (Blk.new w #[Zg id] 9);have C1:=Lh (ZbE _ LI (isLt id) #[.pointer (some ⟨w.heap.size,0,none⟩)] A xs n c _ hn (by omega) (h.below hb) (fun x _ w' hb'=>ZbF x w.heap.size id w' (x1.out.below hb')))
 generalize Z0 (isLt id) xs 0=z at *;clear h hn x1;go_enter func166,ntmps166;go_wp2_with fail;refine C1.out.mono ?_;rintro e w2 ⟨rfl,hb2⟩;replace hb:=bto hb hb2;clear hb2 C1
 by_cases g:0<=z
 ·have e1:decide (0<=z)=true:=Dt g;have HZ:Hid (Fc z=z):=if_pos g;go_wp2;go_ret2;refine⟨?_,hb⟩;rw[HZ.out]
  first|rfl|(simp[g,Int.max_def];intro h;omega)
 ·have e1:decide (0<=z)=false:=Df g;have HZ:Hid (Fc z=0):=if_neg g;go_wp2;go_ret2;refine⟨?_,hb⟩;rw[HZ.out]
  first|rfl|(simp[e1,Int.max_def];intro h;omega)
theorem Vt {l:List UInt8} (hl:l.length<=100000):Ret 161 #[Zg l] (.bool (decide (0<val l))):=fun w hG=>by
 have hb:=Below.refl w.heap.size w;have C1:=Lh (ZF (l:=l) (l':=[]) (by omega) (by decide) (show _=ZH (val l) 0 from rfl))
 have hz:=(Ly (val l)).2.2.1;have HV:Hid (decide (0<ZH (val l) 0)=decide (0<val l)):=by show _=_;rw[decide_eq_decide];exact hz
 generalize ZH (val l) 0=c at *;generalize decide (0<val l)=R at *;clear hz;go_enter func161,ntmps161;go_wp2_with fail
 refine (C1.out.of hG hb).mono ?_
 rintro e w1 ⟨rfl,hb1⟩;go_wp2;go_ret;exact⟨ZR HV.out,bto hb hb1⟩
theorem MI {a b:List UInt8} (ha:a.length<=100000) (hb0:b.length<=100000):Ret 165 #[Zg a,Zg b] (Zg (Xh a b)):=fun w hG=>by
 have hb:=Below.refl w.heap.size w;have C1:=Lh (ZF (l:=a) (l':=b) (by omega) (by omega) rfl)
 have hz:ZH (val a) (val b)<0↔val a<val b:=by
  unfold ZH
  split
  ·omega
  ·split<;>omega
 by_cases g:val a<val b
 ·have HV:Hid (Xh a b=a):=if_pos g;have e1:ZH (val a) (val b)<0:=hz.2 g;generalize ZH (val a) (val b)=c at *;have e2:decide (c<0)=true:=Dt e1;clear hz g;go_enter func165,ntmps165;go_wp2_with fail
  refine (C1.out.of hG hb).mono ?_
  rintro e w1 ⟨rfl,hb1⟩;go_wp2;go_ret;exact⟨congrArg Ending.returned (str_eq HV.out.symm),bto hb hb1⟩
 ·have HV:Hid (Xh a b=b):=if_neg g;have e1:¬ZH (val a) (val b)<0:=fun h=>g (hz.1 h)
  generalize ZH (val a) (val b)=c at *;have e2:decide (c<0)=false:=Df e1;clear hz g;go_enter func165,ntmps165;go_wp2_with fail
  refine (C1.out.of hG hb).mono ?_
  rintro e w1 ⟨rfl,hb1⟩;go_wp2;go_ret;exact⟨congrArg Ending.returned (str_eq HV.out.symm),bto hb hb1⟩
open Go.Shelf
def U4 (y:Int):Bool:=decide (y % 4=0/\y % 100≠0∨y % 400=0)
def Ty (y:Int):Int:=365*(y-1900)+((y-1) / 4-(y-1) / 100+(y-1) / 400)-460
theorem Zcs {y:Int} (h0:1<=y) (h1:y<=10000) (w:World):Calls prog 316 #[Zi y] w fun e w'=>e=.returned (.bool (U4 y))/\w'=w:=by
 go_enter func316,ntmps316;go_wp2
 all_goals go_ret
 all_goals refine⟨ZR ?_,rfl⟩
 all_goals (unfold U4;rw[Bool.eq_iff_iff];simp;omega)
theorem JV {y:Int} (h0:1<=y) (h1:y<=10000) (w:World):Calls prog 315 #[Zi y] w fun e w'=>e=.returned (Zi (Ty y))/\w'=w:=by
 go_enter func315,ntmps315;go_wp2;go_ret;exact⟨rfl,rfl⟩
theorem Ff (y:Int):Ty (y+1)=Ty y+(if U4 y then 366 else 365):=by
 unfold Ty U4
 split<;>rename_i h<;>simp at h<;>omega
def NM:List Int:=[31,28,31,30,31,30,31,31,30,31,30,31]
def OM (lp:Bool) (k:Nat):Int:=if k=1/\lp=true then 29 else NM.getD k 0
theorem MJ {y:Int} {k:Nat} (h0:1<=y) (h1:y<=10000) (hk:k<12) (w:World):Calls prog 285 #[Zi y,Zi ((k:Int)+1)] w fun e w'=>e=.returned (Zi (OM (U4 y) k))/\Below w.heap.size w w':=by
 have CL:=Lh (fun w=>Zcs h0 h1 w)
 have hb:Below w.heap.size w (w.alloc (.cells #[Zi 31,Zi 28,Zi 31,Zi 30,Zi 31,Zi 30,Zi 31,Zi 31,Zi 30,Zi 31,Zi 30,Zi 31] 386)):=Zh w _;have hB:=Blk.new w (NM.map (Value.int .i64)).toArray 386;have q0:(w.alloc (.cells #[Zi 31,Zi 28,Zi 31,Zi 30,Zi 31,Zi 30,Zi 31,Zi 31,Zi 30,Zi 31,Zi 30,Zi 31] 386)).cell? ⟨w.heap.size,k,none⟩=some (Zi (NM.getD k 0)):=by
  have h:=hB.c k;rw[List.getElem?_toArray,List.getElem?_map,List.getElem?_eq_getElem (l:=NM) hk] at h;rw[List.getD_eq_getElem?_getD,List.getElem?_eq_getElem (l:=NM) hk];exact h
 obtain⟨L,hL⟩:∃L,L=NM.getD k 0:=⟨_,rfl⟩
 rw[<-hL] at q0;have HL:=Lh hL;have HB:=Lh hb;obtain⟨lp,hlp⟩:∃lp,lp=U4 y:=⟨_,rfl⟩
 rw[<-hlp] at CL ⊢;clear hL hb hB hlp
 by_cases hk1:k=1
 ·subst hk1;go_enter func285,ntmps285;go_wp2_with fail;refine (CL.out _).mono ?_;rintro e w1 ⟨rfl,rfl⟩;cases lp with
  | true=>
   go_wp2;go_ret;exact⟨rfl,HB.out⟩
  | false=>
   go_wp2;go_ret;exact⟨Z2 (by rw[HL.out];rfl),HB.out⟩
 ·have e1:((k:Int)+1==2)=false:=by rw[Bn];omega
  have HV:Hid (L=OM lp k):=by show _=_;unfold OM;rw[if_neg (fun h=>hk1 h.1),HL.out]
  clear hk1;go_enter func285,ntmps285;go_wp2;go_ret;exact⟨Z2 HV.out,HB.out⟩
theorem ON (lp:Bool):∀k,k<12->28<=OM lp k/\OM lp k<=31:=by
 cases lp<;>decide
def OO (lp:Bool) (k:Nat):Int:=((List.range k).map (OM lp)).sum
theorem Fg (lp:Bool) (k:Nat):OO lp (k+1)=OO lp k+OM lp k:=by
 unfold OO;rw[List.range_succ,List.map_append,List.sum_append];simp
theorem AY (lp:Bool):OO lp 12=if lp then 366 else 365:=by cases lp<;>decide
theorem MK {y:Int} (h0:1900<=y) (h1:y<=2300):0<=Ty y/\Ty y<=150000:=by unfold Ty;omega
theorem Du {y n:Int} (h:1900<=y) (h1:y<=1900+n / 366):Ty y<=n:=by unfold Ty;omega
theorem AZ {y n:Int} (h:Ty y<=n) (hn:n<=109572):y<=2201:=by unfold Ty at h;omega
theorem ZbG (d:Int) (w:World):Calls prog 314 #[Zi d] w fun e w'=>e=.returned (.bool (decide (-25567<=d/\d<=84005)))/\w'=w:=by
 by_cases h : -25567<=d
 ·have e1:decide (-25567<=d)=true:=Dt h;go_enter func314,ntmps314;go_wp2;go_ret;exact⟨ZR (by simp[h]),rfl⟩
 ·have e1:decide (-25567<=d)=false:=Df h;go_enter func314,ntmps314;go_wp2;go_ret;exact⟨ZR (by simp),rfl⟩
theorem ZbH (d:Int) (w:World):Calls prog 283 #[Zi d] w fun e w'=>((∃E:Int,E≠0/\e=.returned (.tuple #[Zi 0,Zi 0,Zi 0,Zi E]))∨∃(y:Int) (k:Nat) (t:Int),e=.returned (.tuple #[Zi y,Zi ((k:Int)+1),Zi t,Zi 0])/\1900<=y/\y<=2201/\k<12/\1<=t/\t<=31)/\Below w.heap.size w w':=by
 have CV:=Lh (ZbG d w)
 by_cases hd : -25567<=d/\d<=84005
 rotate_left
 ·rw[Df hd] at CV;clear hd;go_enter func283,ntmps283;go_wp2_with fail;refine CV.out.mono ?_;rintro e w1 ⟨rfl,rfl⟩;go_wp2;refine bodyPost_ret (v:=.tuple #[Zi 0,Zi 0,Zi 0,Zi 13]) ?_ rfl ⟨.inl ⟨13,by decide,rfl⟩,Below.refl _ _⟩
  simp[results,results283,go_sem]
 rw[Dt hd] at CV;obtain⟨h1,h2⟩:=hd;go_enter func283,ntmps283;go_wp2_with fail;refine CV.out.mono ?_;rintro e w1 ⟨rfl,rfl⟩;clear CV;obtain⟨n,hn⟩:∃n,d=n-25567:=⟨d+25567,by omega⟩
 subst hn;have hn0:0<=n:=by omega
 have hn1:n<=109572:=by omega
 clear h1 h2;go_wp2_with fail
 go_loop [7] (fun yv=>∃y:Int,yv=Zi y/\1900<=y/\Ty y<=n) (fun yv=>(2202-intOf yv).toNat)
 case atStart=>exact⟨1900+n / 366,by go_num,by omega,Du (by omega) (Int.le_refl _)⟩
 case round=>
 obtain⟨y,rfl,hy0,hyb⟩:=hrel;have hyu:=AZ hyb hn1;have CB:=Lh (JV (y:=y+1) (by omega) (by omega) w1)
 have CB0:=Lh (JV (y:=y) (by omega) (by omega) w1)
 obtain⟨b1,hb1⟩:∃b1,b1=Ty (y+1):=⟨_,rfl⟩
 have hbd1:=MK (y:=y+1) (by omega) (by omega)
 have hbd0:=MK (y:=y) (by omega) (by omega)
 rw[<-hb1] at CB hbd1;have HB1:=Lh hb1;clear hb1;go_wp2_with fail;refine CB.out.mono ?_;rintro e w2 ⟨rfl,rfl⟩;clear CB
 by_cases hc:b1<=n
 ·have e1:decide (b1<=n)=true:=Dt hc;go_wp2
  go_round
  case rel=>exact⟨y+1,by go_num,by omega,by rw[<-HB1.out];exact hc⟩
  case measure=>simp[intOf];omega
 have e1:decide (b1<=n)=false:=Df hc;obtain⟨lp,hlp⟩:∃lp,lp=U4 y:=⟨_,rfl⟩
 have hsu:b1=Ty y+OO lp 12:=by rw[HB1.out,Ff,AY,hlp]
 have CL:=Lh (fun (k:Nat) (hk:k<12) (w:World)=>MJ (y:=y) (k:=k) (by omega) (by omega) hk w)
 rw[<-hlp] at CL;obtain⟨b0,hb0⟩:∃b0,b0=Ty y:=⟨_,rfl⟩
 rw[<-hb0] at CB0 hsu hyb hbd0;clear hlp hb0 HB1;go_wp2_with fail;refine CB0.out.mono ?_;rintro e w3 ⟨rfl,rfl⟩;clear CB0 e1;have HBE:Hid (Below w3.heap.size w3 w3):=Below.refl _ _;have HSU:=Lh hsu;have H12:Hid (n-b0<OO lp 12):=by show _<_;omega
 clear hsu hc;go_wp2_with fail
 go_loopw [6,8] (fun nv mv wr=>∃(k:Nat) (r:Int),k<12/\mv=Zi ((k:Int)+1)/\nv=Zi r/\0<=r/\r<=n/\Hid (r+OO lp k=n-b0)/\Hid (Below w3.heap.size w3 wr)) (fun _ mv _=>(13-intOf mv).toNat)
 case atStart=>exact⟨0,n-b0,by decide,rfl,by go_num,by omega,by omega,by show _=_;simp[OO],HBE.out⟩
 case round=>
 clear HBE;obtain⟨k,r,hk,rfl,rfl,hr0,hrn,HRM,HBW⟩:=hrel;have hm:=ON lp k hk;have K1:=Lh (CL.out k hk wr);have HSS:=Lh (Fg lp k);obtain⟨L,hL⟩:∃L,L=OM lp k:=⟨_,rfl⟩
 rw[<-hL] at K1 hm HSS;have HLL:=Lh hL;clear hL;go_wp2_with fail;refine K1.out.mono ?_;rintro e w4 ⟨rfl,hb4⟩;have HB4:=Lh (bto HBW.out hb4);clear K1 hb4 HBW
 by_cases hlt:L<=r
 ·have e1:decide (L<=r)=true:=Dt hlt;have hk1:k+1<12:=by
   have h1:=HRM.out;have h2:=HSS.out;have h3:=H12.out
   by_cases h:k=11
   ·subst h;have h2:OO lp 12=OO lp 11+L:=h2;omega
   ·omega
  have HR2:Hid (r-L+OO lp (k+1)=n-b0):=by show _=_;rw[HSS.out];have:=HRM.out;omega
  have K2:=Lh (CL.out k hk w4);rw[<-HLL.out] at K2;go_wp2_with fail;refine K2.out.mono ?_;rintro e w5 ⟨rfl,hb5⟩;have HB5:=Lh (bto HB4.out hb5);clear K2 hb5 HB4 HRM HSS HLL;go_wp2;go_roundw
  case rel=>exact⟨k+1,r-L,hk1,by go_num,by go_num,by omega,by omega,HR2.out,HB5.out⟩
  case measure=>simp[intOf];omega
 ·have e1:decide (L<=r)=false:=Df hlt;clear HRM HSS HLL H12 HSU CL;go_wp2;refine bodyPost_ret (v:=.tuple #[Zi y,Zi ((k:Int)+1),Zi (r+1),Zi 0]) ?_ rfl ⟨.inr ⟨y,k,r+1,rfl,hy0,hyu,hk,by omega,by omega⟩,HB4.out⟩
  simp[results,results283,go_sem]
theorem Q6 {P:Program} {fn:Func} {a:Act} {Q:Ending->World->Prop} {w:World} {u v:Value} {s t:Tmp} (hr:fn.results=#[.tmp s,.tmp t]) (h1:a.tmps.getD s undef=u) (h2:a.tmps.getD t undef=v) (hd:a.defers=[]) (h:Q (.returned (.tuple #[u,v])) w):bodyPost P fn Q Exit.ret a w:=by
 refine bodyPost_ret (v:=.tuple #[u,v]) ?_ hd h;rw[results_tmp2 hr,h1,h2]
theorem dOf {y t:Int} {k:Nat} (hy0:1900<=y) (hy1:y<=2199) (hk:k<12) (ht0:1<=t) (ht1:t<=31) (w:World):Calls prog 284 #[Zi y,Zi ((k:Int)+1),Zi t] w fun e w'=>(∃D E:Int,e=.returned (.tuple #[Zi D,Zi E]))/\Below w.heap.size w w':=by
 have CL:=Lh (fun (k:Nat) (hk:k<12) (w:World)=>MJ (y:=y) (k:=k) (by omega) (by omega) hk w)
 have CB:=Lh (fun w=>JV (y:=y) (by omega) (by omega) w)
 have hbb:=MK (y:=y) (by omega) (by omega)
 have HM:=Lh (ON (U4 y));obtain⟨lp,hlp⟩:∃lp,lp=U4 y:=⟨_,rfl⟩
 rw[<-hlp] at CL HM;obtain⟨b0,hb0⟩:∃b0,b0=Ty y:=⟨_,rfl⟩
 rw[<-hb0] at CB hbb;clear hlp hb0;have e1:decide (y<1900)=false:=Df (by omega)
 have e2:decide (2199<y)=false:=Df (by omega)
 have e3:decide ((k:Int)+1<1)=false:=Df (by omega)
 have e4:decide (12<(k:Int)+1)=false:=Df (by omega)
 have e5:decide (t<1)=false:=Df (by omega)
 have K1:=Lh (CL.out k hk w);have hm:=HM.out k hk;obtain⟨L,hL⟩:∃L,L=OM lp k:=⟨_,rfl⟩
 rw[<-hL] at K1 hm;clear hL;go_enter func284,ntmps284;go_wp2_with fail;refine K1.out.mono ?_;rintro e w1 ⟨rfl,hb1⟩;clear K1
 by_cases hc:L<t
 ·have e6:decide (L<t)=true:=Dt hc;go_wp2;refine Q6 (s:=6) (t:=7) rfl rfl rfl rfl ⟨⟨_,_,rfl⟩,hb1⟩
 have e6:decide (L<t)=false:=Df hc;have K2:=Lh (CB.out w1);go_wp2_with fail;refine K2.out.mono ?_;rintro e w2 ⟨rfl,rfl⟩;clear K2 e1 e2 e3 e4 e5 e6 CB;have HBE:Hid (Below w2.heap.size w2 w2):=Below.refl _ _;have HB1:=Lh hb1;clear hb1;go_wp2_with fail
 go_loopw [8,9] (fun nv mv wr=>∃(j:Nat) (r:Int),j<=k/\mv=Zi ((j:Int)+1)/\nv=Zi r/\0<=r/\r<=200000+31*j/\Hid (Below w2.heap.size w2 wr)) (fun _ mv _=>(13-intOf mv).toNat)
 case atStart=>exact⟨0,b0+t-1,Nat.zero_le _,rfl,by go_num,by omega,by omega,HBE.out⟩
 case round=>
 clear HBE;obtain⟨j,r,hj,rfl,rfl,hr0,hr1,HBW⟩:=hrel
 by_cases hjk:j<k
 ·have e1:decide ((j:Int)+1<(k:Int)+1)=true:=Dt (by omega)
  have e2:decide (j<k)=true:=Dt hjk;have e3:decide ((j:Int)<(k:Int))=true:=Dt (by omega)
  have K3:=Lh (CL.out j (by omega) wr)
  have hm2:=HM.out j (by omega)
  obtain⟨L2,hL2⟩:∃L2,L2=OM lp j:=⟨_,rfl⟩
  rw[<-hL2] at K3 hm2;clear hL2;go_wp2_with fail;refine K3.out.mono ?_;rintro e w4 ⟨rfl,hb4⟩;have HB4:=Lh (bto HBW.out hb4);clear K3 hb4 HBW e1 e2 e3;go_wp2;go_roundw
  case rel=>exact⟨j+1,r+L2,by omega,by go_num,by go_num,by omega,by omega,HB4.out⟩
  case measure=>simp[intOf];omega
 ·have e1:decide ((j:Int)+1<(k:Int)+1)=false:=Df (by omega)
  have e2:decide (j<k)=false:=Df hjk;have e3:decide ((j:Int)<(k:Int))=false:=Df (by omega)
  go_wp2;refine Q6 (s:=6) (t:=7) rfl rfl rfl rfl ⟨⟨_,_,rfl⟩,bto HB1.out HBW.out⟩
theorem Zdf (d:Int) {n:Int} (hn0:0<=n) (hn1:n<=120) (w:World):Calls prog 224 #[Zi d,Zi n] w fun e w'=>(∃D E:Int,e=.returned (.tuple #[Zi D,Zi E]))/\Below w.heap.size w w':=by
 have CP:=Lh (ZbH d w);go_enter func224,ntmps224;go_wp2_with fail;refine CP.out.mono ?_;rintro e w1 ⟨⟨E,hE,rfl⟩|⟨y,k,t,rfl,hy0,hy1,hk,ht0,ht1⟩,hb1⟩
 ·have e1:(E != 0)=true:=V0 (OB hE);clear hE CP;go_wp2;refine Q6 (s:=4) (t:=5) rfl rfl rfl rfl ⟨⟨_,_,rfl⟩,hb1⟩
 clear CP;have e1:decide (n < -4800)=false:=Df (by omega)
 have e2:decide (4800<n)=false:=Df (by omega)
 go_upto_region 7 with fail
 obtain⟨M,hM⟩:∃M,12*y+((k:Int)+1)-1+n=M:=⟨_,rfl⟩
 rw[hM];have hM0:22800<=M:=by omega
 have hM1:M<=26600:=by omega
 clear hM e1 e2
 go_upto_region 8 with fail
 obtain⟨y2,hy2⟩:∃y2,M / 12=y2:=⟨_,rfl⟩
 obtain⟨k2,hk2⟩:∃k2:Nat,M % 12=(k2:Int):=⟨(M % 12).toNat,by omega⟩
 rw[hy2,hk2];have hk12:k2<12:=by omega
 have hya:1900<=y2:=by omega
 have hyb:y2<=3000:=by omega
 clear hy2 hk2;have e1:decide (y2<1900)=false:=Df (by omega)
 by_cases hc:2199<y2
 ·have e2:decide (2199<y2)=true:=Dt hc;go_wp2;refine Q6 (s:=4) (t:=5) rfl rfl rfl rfl ⟨⟨_,_,rfl⟩,hb1⟩
 have e2:decide (2199<y2)=false:=Df hc;have K1:=Lh (MJ (y:=y2) (k:=k2) (by omega) (by omega) hk12 w1)
 have hm:=ON (U4 y2) k2 hk12;obtain⟨L,hL⟩:∃L,L=OM (U4 y2) k2:=⟨_,rfl⟩
 rw[<-hL] at K1 hm;clear hL;go_wp2_with fail;refine K1.out.mono ?_;rintro e w2 ⟨rfl,hb2⟩;clear K1 e1 e2;have hbb:=bto hb1 hb2;clear hb1 hb2;have K2:=Lh (dOf (y:=y2) (k:=k2) (t:=min t L) hya (by omega) hk12 (by omega) (by omega) w2)
 go_wp2_with fail;refine K2.out.mono ?_;rintro e w3 ⟨⟨D,E,rfl⟩,hb3⟩;clear K2;go_wp2;refine Q6 (s:=4) (t:=5) rfl rfl rfl rfl ⟨⟨_,_,rfl⟩,bto hbb hb3⟩
section
variable {P:Program} {w:World}
theorem V6 (base:Nat) (t ty e:TypeId) (i:TypeInfo) (z:Value) (size bytes:Nat) (ht:P.underlying t=some (.slice e)) (hi:P.info? e=some i) (hz:i.zero=some z)
  (hsize:i.size=size) (hby:i.bytes=bytes) (hzs:z.cells.size=size) (hsz:0<size)
  (v:Value) (n:Nat) (xs:List Value) (hown:w.ownsRow base e size v n xs)
  (a:Addr) (m c:Nat) (news:List Value) (hl:news.length=m*size) (hnews:∀j u,news[j]?=some u->w.cell? (a.add j)=some u) (h1:∀u∈news,u.oneCell'=true)
  (h63:n+m<=maxLen) (hbytes:(n+m)*bytes<=140737488355328) {v':Value} {w':World} (hr:(Builtin.append_ #[t,t] ty #[v,.slice (some a) m c]).run P w=.ok v' w') :
  ∀g,v'.ownBlock=some g->v.ownBlock=some g∨w.heap.size<=g:=by
 intro g hg;have hsmall:n+m<=9223372036854775807:=by simp only[maxLen] at h63;omega
 rcases hown.2 with ⟨rfl,rfl⟩|⟨g0,cap,cur,rfl,hbg,hgg,hnc,hcm,hcs,htake⟩
 ·obtain⟨v2,w2,hr2,h2,-,-⟩:=run_append_own (P:=P) w w.heap.size t ty e i z size bytes ht hi hz hsize hby hzs hsz (.slice none 0 0) 0 [] (World.ownsRow_nil w w.heap.size e size) a m c news hl hnews h1 h63 hbytes (Nl _);rw[hr] at hr2;injection hr2 with e1 e2
  subst e1 e2;exact .inr (h2.lt g hg).1
 ·subst hsize;subst hby
  by_cases hroom:n+m<=cap
  ·have hfit:n*i.size+news.length<=cur.size:=by rw[hl,hcs,<-Nat.add_mul];exact Nat.mul_le_mul_right _ hroom
   have hr2:=run_append_room (P:=P) w t ty e i ht hi g0 n cap cur hgg a m c news hl hnews h1 hroom hfit;rw[hr] at hr2;injection hr2 with e1 e2
   subst e1;exact .inl hg
  ·have holds:∀j u,xs[j]?=some u->w.cell? ((⟨g0,0,none⟩:Addr).add j)=some u:=hown.cells (g:=g0) rfl
   have hr2:=run_append_grow (P:=P) w t ty e i z ht hi hz ⟨g0,0,none⟩ n cap xs hown.1 holds a m c news hl hnews (by omega) (by omega) (growslice_fits (by omega) hbytes)
   rw[hr] at hr2;injection hr2 with e1 e2
   subst e1;injection hg with hg
   exact .inr (Nat.le_of_eq hg)
theorem ZW {ops:Array Oper} {rest:List Oper} {o:Oper} {a:Act} {Q:Exit->Act->World->Prop} (hgd:o.guard=none) (s x:Operand) (t:TypeId)
  (ho:o.op=.call { callee:=.builtin .append,args:=#[s,x],argTypes:=#[t,t] })
  (base:Nat) (e:TypeId) (i:TypeInfo) (z:Value) (size bytes:Nat) (ht:P.underlying t=some (.slice e)) (hi:P.info? e=some i) (hz:i.zero=some z)
  (hsize:i.size=size) (hby:i.bytes=bytes) (hzs:z.cells.size=size) (hsz:0<size)
  (v:Value) (n:Nat) (xs:List Value) (hs:a.eval s=v) (hown:w.ownsRow base e size v n xs)
  (ad:Addr) (m c:Nat) (news:List Value) (hx:a.eval x=.slice (some ad) m c) (hl:news.length=m*size) (hnews:∀j u,news[j]?=some u->w.cell? (ad.add j)=some u) (h1:∀u∈news,u.oneCell'=true)
  (h63:n+m<=maxLen) (hbytes:(n+m)*bytes<=140737488355328) (hbase:base<=w.heap.size)
  (h:∀v' w',w'.ownsRow base e size v' (n+m) (xs++news)->w.grownBy w' v.ownBlock->(∀g,v'.ownBlock=some g->v.ownBlock=some g∨w.heap.size<=g)->wpList P ops Q rest (a.put o.dst v') w'):wpList P ops Q (o::rest) a w:=
 wpList_plain hgd fun _ hK=>by
  obtain⟨v',w',hr,h2,h3,-⟩:=run_append_own (P:=P) w base t o.type e i z size bytes ht hi hz hsize hby hzs hsz v n xs hown ad m c news hl hnews h1 h63 hbytes hbase;have h5:=V6 (P:=P) base t o.type e i z size bytes ht hi hz hsize hby hzs hsz v n xs hown ad m c news hl hnews h1 h63 hbytes hr;unfold Oper.wp execOp;simp only[ho,resolve,invoke,builtin,Sem.run_bind,Sem.run_pure,Result.andThen_ok,List.map_toArray,List.map_cons,List.map_nil,hs,hx,hr];exact hK _ _ (h v' w' h2 h3 h5)
end
def Dis (u v:Value):Prop:=∀g,u.ownBlock=some g->v.ownBlock≠some g
theorem Dis.symm {u v:Value} (h:Dis u v):Dis v u:=fun g hv hu=>h g hu hv
theorem Dis.fresh {u u' v:Value} {N:Nat} (h:Dis u v) (hf:∀g,u'.ownBlock=some g->u.ownBlock=some g∨N<=g) (hv:∀g,v.ownBlock=some g->g<N):Dis u' v:=fun g hu hg=>by
 rcases hf g hu with h1|h1
 ·exact h g h1 hg
 ·have:=hv g hg;omega
theorem LJ {u u':Value} {N b:Nat} (h:u.ownBlock≠some b) (hf:∀g,u'.ownBlock=some g->u.ownBlock=some g∨N<=g) (hb:b<N):u'.ownBlock≠some b:=fun hu=>by
 rcases hf b hu with h1|h1
 ·exact h h1
 ·omega
def WW (xs:List Pk):List Value:=xs.flatMap (fun x=>[Zg x.lot,Zg x.q])
theorem T3 (x:Pk) (xs:List Pk):WW (x::xs)=Zg x.lot::Zg x.q::WW xs:=rfl
theorem NN:∀xs:List Pk,(WW xs).length=xs.length*2
 | []=>rfl
 | x::xs=>by rw[T3,List.length_cons,List.length_cons,NN xs,List.length_cons];omega
theorem Fh (xs ys:List Pk):WW (xs++ys)=WW xs++WW ys:=List.flatMap_append
theorem SN:∀{xs:List Pk} {i:Nat} {x:Pk},xs[i]?=some x->(WW xs)[i*2]?=some (Zg x.lot)/\(WW xs)[i*2+1]?=some (Zg x.q)
 | [],i,x,h=>by simp at h
 | y::xs,0,x,h=>by
  have:y=x:=by simpa using h
  subst this;exact⟨rfl,rfl⟩
 | y::xs,i+1,x,h=>by
  obtain⟨h1,h2⟩:=SN (xs:=xs) (i:=i) (x:=x) (by simpa using h)
  rw[T3,show (i+1)*2=i*2+1+1 by omega]
  exact⟨by simpa using h1,by simpa using h2⟩
theorem NO:∀{xs:List Pk} {i:Nat} {x:Pk} (a:List UInt8),xs[i]?=some x->(WW xs).set (i*2+1) (Zg a)=WW (xs.set i ⟨x.lot,a⟩)
 | [],i,x,a,h=>by simp at h
 | y::xs,0,x,a,h=>by
  have:y=x:=by simpa using h
  subst this;rfl
 | y::xs,i+1,x,a,h=>by
  have h1:=NO (xs:=xs) (i:=i) (x:=x) a (by simpa using h)
  rw[T3,show (i+1)*2+1=(i*2+1)+1+1 by omega,List.set_cons_succ,List.set_cons_succ,h1];rfl
def Nn (w:World) (g:Nat) (qs:List Pk):Prop:=∃cur:Array Value,w.heap[g]?=some (.cells cur 195 (0,0))/\cur.toList.take (qs.length*2)=WW qs/\qs.length*2<=cur.size
section
variable {w w':World} {g b i:Nat} {qs:List Pk} {u:Value}
theorem Nn.lt (h:Nn w g qs):g<w.heap.size:=by obtain⟨cur,h,-⟩:=h;exact (Ag.1 h).1
theorem Nn.cells {x:Pk} (h:Nn w g qs) (hx:qs[i]?=some x):w.cell? ⟨g,i*2,none⟩=some (Zg x.lot)/\w.cell? ⟨g,i*2+1,none⟩=some (Zg x.q):=by
 obtain⟨cur,hh,ht,hs⟩:=h;have hi:=(Lg.1 hx).1;obtain⟨h1,h2⟩:=SN hx;constructor
 ·rw[Zk hh,<-h1,<-ht,List.getElem?_take,if_pos (by omega),Array.getElem?_toList]
 ·rw[Zk hh,<-h2,<-ht,List.getElem?_take,if_pos (by omega),Array.getElem?_toList]
theorem Nn.pkAt (h:Nn w g qs):XI w (some ⟨g,0,none⟩) qs:=fun i t ht=>by
 obtain⟨h1,h2⟩:=h.cells ht;exact⟨g,0,rfl,h.lt,by rw[Nat.zero_add];exact h1,by rw[Nat.zero_add];exact h2⟩
end
theorem Dv {w:World} {base n c:Nat} {A:Option Addr} {qs:List Pk} (h:w.ownsRow base 195 2 (.slice A n c) n (WW qs)) (hn:n=qs.length) (h0:0<n):∃g,A=some ⟨g,0,none⟩/\base<=g/\Nn w g qs:=by
 rcases h.2 with ⟨hv,h1⟩|⟨g,cap,cur,hv,hb,hh,hcap,_,hsz,htk⟩
 ·omega
 ·injection hv with h1 _ h3
  subst h1 h3;refine⟨g,rfl,hb,cur,hh,by rw[<-hn];exact htk,by omega⟩
def YP (w:World) (B:Nat) (v:Value) (xs:List Pk):Prop:=w.ownsRow B 195 2 v xs.length (WW xs)
section
variable {w w':World} {B b i:Nat} {u v v':Value} {xs:List Pk}
theorem YP.below (h:YP w B v xs) (hb:Below w.heap.size w w'):YP w' B v xs:=by
 refine⟨h.1,?_⟩;rcases h.2 with h2|⟨g,cap,cur,e,hB,hg,r⟩
 ·exact .inl h2
 ·exact .inr ⟨g,cap,cur,e,hB,(hb.block g (Ag.1 hg).1).trans hg,r⟩
theorem YP.block (h:YP w B v xs):∀g,v.ownBlock=some g->B<=g/\g<w.heap.size:=World.ownsRow.lt h
theorem YP.form (h:YP w B v xs):∃A c,v=.slice A xs.length c:=by
 rcases h.2 with ⟨e,hn⟩|⟨g,cap,cur,e,-⟩
 ·exact⟨none,0,by rw[e,hn]⟩
 ·exact⟨_,_,e⟩
theorem YP.row (h:YP w B v xs) (h0:0<xs.length):∃g c,v=.slice (some ⟨g,0,none⟩) xs.length c/\B<=g/\Nn w g xs:=by
 obtain⟨A,c,rfl⟩:=h.form;obtain⟨g,rfl,hB,hp⟩:=Dv (show w.ownsRow B 195 2 (.slice A xs.length c) xs.length (WW xs) from h) rfl h0
 exact⟨g,c,rfl,hB,hp⟩
theorem YP.pkAt (h:YP w B v xs) {A:Option Addr} {n c:Nat} (e:v=.slice A n c):XI w A xs:=by
 by_cases h0:0<xs.length
 ·obtain⟨g,c',e2,-,hp⟩:=h.row h0;rw[e] at e2;injection e2 with e2
  subst e2;exact hp.pkAt
 ·have:xs=[]:=List.eq_nil_of_length_eq_zero (by omega)
  subst this;exact fun i x hx=>by simp at hx
theorem YP.set {c:Nat} {g:Nat} {x:Pk} (h:YP w B (.slice (some ⟨g,0,none⟩) xs.length c) xs) (hx:xs[i]?=some x) (a:List UInt8):YP (w.setCell ⟨g,i*2+1,none⟩ (Zg a)) B (.slice (some ⟨g,0,none⟩) xs.length c) (xs.set i ⟨x.lot,a⟩):=by
 have hl:(xs.set i ⟨x.lot,a⟩).length=xs.length:=List.length_set ..;refine⟨by rw[NN],?_⟩
 rcases h.2 with ⟨e,hn⟩|⟨g',cap,cur,e,hB,hg,h1,h2,h3,h4⟩
 ·cases e
 ·injection e with e1 e2 e3
  injection e1 with e1
  injection e1 with e1
  subst e1 e3;refine .inr ⟨g,c,cur.setIfInBounds (i*2+1) (Zg a),by rw[hl],hB,?_,by rw[hl];exact h1,h2,by rw[Array.size_setIfInBounds];exact h3,?_⟩
  ·obtain⟨hlt,hk⟩:=Ag.1 hg;show (w.heap.modify g _)[g]?=_;rw[Array.getElem?_eq_getElem (by rw[Array.size_modify];exact hlt),Array.getElem_modify_self,hk]
   simp
  ·rw[hl,Array.toList_setIfInBounds,List.take_set,h4,NO a hx]
theorem YP.far (h:YP w B v xs) (hn:v.ownBlock≠some b):YP (w.setCell ⟨b,i,none⟩ u) B v xs:=by
 refine⟨h.1,?_⟩;rcases h.2 with h2|⟨g,cap,cur,e,hB,hg,r⟩
 ·exact .inl h2
 ·refine .inr ⟨g,cap,cur,e,hB,(Below.heap_setCell w ⟨b,i,none⟩ u g (fun hgb=>hn (by rw[e];exact congrArg some hgb))).trans hg,r⟩
end
theorem YP.app {w:World} {B n:Nat} {v:Value} {xs:List Pk} {x:Pk} (h:w.ownsRow B 195 2 v (n+1) (WW xs++[Zg x.lot,Zg x.q])) (hn:xs.length=n):YP w B v (xs++[x]):=by
 unfold YP;rw[List.length_append,List.length_singleton,hn,Fh];exact h
theorem LK (w:World) (B:Nat):YP w B (.slice none 0 0) []:=World.ownsRow_nil w B _ 2
theorem YP.formN {w:World} {B n:Nat} {v:Value} {xs:List Pk} (h:YP w B v xs) (hn:xs.length=n):∃A c,v=.slice A n c:=by rw[<-hn];exact h.form
theorem Fi:(prog.info? 195).map (fun i=>(i.zero,i.size,i.bytes))=some (some (.agg #[Zj,Zj]),2,32):=by kernel_rfl
def YF (f:List Int) (i:Nat):List Int:=f.take i++List.replicate (f.length-i) 0
theorem T4 (f:List Int):YF f 0=List.replicate f.length 0:=by simp[YF]
theorem QD (f:List Int) (i:Nat):(YF f i).length=f.length:=by simp[YF];omega
theorem QE (f:List Int) (i:Nat) (h:f.length<=i):YF f i=f:=by
 unfold YF;rw[List.take_of_length_le h,Nat.sub_eq_zero_of_le h];simp
theorem SO {f:List Int} {i k:Nat} (h:k<i) (hk:k<f.length):(YF f i)[k]?=f[k]?:=by
 unfold YF;rw[List.getElem?_append_left (by rw[List.length_take];omega),List.getElem?_take_of_lt h]
theorem V7 {f:List Int} {i k:Nat} (h:i<=k) (hk:k<f.length):(YF f i)[k]?=some 0:=by
 unfold YF;rw[List.getElem?_append_right (by rw[List.length_take];omega),List.getElem?_replicate]
 rw[if_pos];rw[List.length_take];omega
theorem QF {f:List Int} {i:Nat} {x:Int} (h:f[i]?=some x):(YF f i).set i x=YF f (i+1):=by
 obtain⟨hi,hx⟩:=Lg.1 h;apply List.ext_getElem?;intro k
 by_cases hk:k<f.length
 ·by_cases h1:k=i
  ·subst h1;rw[List.getElem?_set_self (by rw[QD];exact hi),SO (Nat.lt_succ_self _) hi,h]
  ·rw[List.getElem?_set_ne (Ne.symm h1)]
   by_cases h2:k<i
   ·rw[SO h2 hk,SO (Nat.lt_succ_of_lt h2) hk]
   ·rw[V7 (by omega) hk,V7 (by omega) hk]
 ·rw[List.getElem?_eq_none (by rw[List.length_set,QD];omega),List.getElem?_eq_none (by rw[QD];omega)]
def Vj (T S:Int) (ws:List Int):List Int:=ws.map fun w=>T*w / S
def VS (T S:Int) (ws:List Int):List Int:=ws.map fun w=>T*w % S
theorem I7 (T S:Int):∀ws:List Int,T*ws.sum=S*(Vj T S ws).sum+(VS T S ws).sum
 | []=>by simp[Vj,VS]
 | w::t=>by
  have ih:=I7 T S t;have h:=Int.mul_ediv_add_emod (T*w) S;simp only[Vj,VS,List.map_cons,List.sum_cons,Int.mul_add] at *;omega
theorem Dw (T S:Int) (hS:0<S):∀ws:List Int,0<=(VS T S ws).sum/\(VS T S ws).sum+ws.length<=S*ws.length
 | []=>by simp[VS]
 | w::t=>by
  have ih:=Dw T S hS t;have h1:=Int.emod_nonneg (T*w) (Int.ne_of_gt hS);have h2:=Int.emod_lt_of_pos (T*w) hS;simp only[VS,List.map_cons,List.sum_cons,List.length_cons] at *;have h3:S*((t.length+1:Nat):Int)=S*(t.length:Int)+S:=by rw[Int.natCast_add,Int.mul_add];simp
  rw[h3];omega
theorem I8 (T:Int) (ws:List Int) (hS:0<ws.sum):0<=T-(Vj T ws.sum ws).sum/\T-(Vj T ws.sum ws).sum<ws.length:=by
 have h1:=I7 T ws.sum ws;have h2:=Dw T ws.sum hS ws;have hne:ws≠[]:=fun e=>by subst e;simp at hS
 have hl:0<(ws.length:Int):=by
  have:=List.length_pos_iff.2 hne
  omega
 generalize (Vj T ws.sum ws).sum=F at *;generalize (VS T ws.sum ws).sum=R at *;generalize ws.sum=S at *;generalize (ws.length:Int)=n at *;have e:S*(T-F)=R:=by rw[Int.mul_sub,Int.mul_comm S T];omega
 constructor
 ·rcases Int.lt_or_le (T-F) 0 with h|h
  ·have:S*(T-F)<0:=Int.mul_neg_of_pos_of_neg hS h
   omega
  ·exact h
 ·rcases Int.lt_or_le (T-F) n with h|h
  ·exact h
  ·have:=Int.mul_le_mul_of_nonneg_left h (Int.le_of_lt hS)
   omega
def bump (ps:List Int) (i:Nat):List Int:=ps.modify i (· + 1)
def WJ (ps:List Int) (js:List Nat):List Int:=js.foldl bump ps
theorem LL (ps:List Int) (i:Nat):(bump ps i).length=ps.length:=by simp[bump]
theorem NP:∀(js:List Nat) (ps:List Int),(WJ ps js).length=ps.length
 | [],_=>rfl
 | j::t,ps=>by show (WJ (bump ps j) t).length=_;rw[NP t,LL]
theorem JW (ps:List Int) (js:List Nat) (j:Nat):WJ ps (js++[j])=bump (WJ ps js) j:=by simp[WJ]
theorem Dx {ps:List Int} {i:Nat} {x:Int} (h:ps[i]?=some x):ps.set i (x+1)=bump ps i:=by
 unfold bump;obtain⟨hi,hx⟩:=Lg.1 h;apply List.ext_getElem?;intro k
 by_cases h1:k=i
 ·subst h1;rw[List.getElem?_set_self hi,List.getElem?_modify_eq,h];rfl
 ·rw[List.getElem?_set_ne (Ne.symm h1),List.getElem?_modify_ne _ _ (Ne.symm h1)]
theorem A4 (ps:List Int) (i k:Nat):(bump ps i)[k]?=(ps[k]?).map fun x=>x+(if k=i then 1 else 0):=by
 unfold bump
 by_cases h1:k=i
 ·subst h1;rw[List.getElem?_modify_eq];cases ps[k]?<;>simp
 ·rw[List.getElem?_modify_ne _ _ (Ne.symm h1)];cases ps[k]?<;>simp[h1]
theorem SP:∀(js:List Nat) (ps:List Int) (k:Nat),(WJ ps js)[k]?=(ps[k]?).map fun x=>x+(js.count k:Int)
 | [],ps,k=>by simp[WJ]
 | j::t,ps,k=>by
  show (WJ (bump ps j) t)[k]?=_;rw[SP t,A4];cases ps[k]? with
  | none=>rfl
  | some x=>
   simp only[Option.map_some,List.count_cons];congr 1
   by_cases h:k=j
   ·subst h;simp;omega
   ·have:(j==k)=false:=by rw[Bn];exact Ne.symm h
    simp[h,this]
theorem LM:∀(ps:List Int) (i:Nat),i<ps.length->(bump ps i).sum=ps.sum+1
 | [],_,h=>by simp at h
 | p::t,0,_=>by simp[bump];omega
 | p::t,i+1,h=>by
  have ih:=LM t i (by simpa using h)
  unfold bump at *;simp only[List.modify_succ_cons,List.sum_cons,ih];omega
theorem NQ:∀(js:List Nat) (ps:List Int),(∀j∈js,j<ps.length)->(WJ ps js).sum=ps.sum+js.length
 | [],ps,_=>by simp[WJ]
 | j::t,ps,h=>by
  show (WJ (bump ps j) t).sum=_;rw[NQ t _ (fun x hx=>by rw[LL];exact h x (List.mem_cons_of_mem _ hx)),LM _ _ (h j List.mem_cons_self)]
  simp;omega
structure OP (T:Int) (ws ps:List Int):Prop where
 len:ps.length=ws.length
 sum:ps.sum=T
 at':∀k:Nat,ps[k]?=(Vj T ws.sum ws)[k]?∨ps[k]?=((Vj T ws.sum ws)[k]?).map (· + 1)
 ord:∀i k:Nat,i<ws.length->k<ws.length->ps[i]?=((Vj T ws.sum ws)[i]?).map (· + 1)->ps[k]?=(Vj T ws.sum ws)[k]?->
  (VS T ws.sum ws).getD k 0<(VS T ws.sum ws).getD i 0∨((VS T ws.sum ws).getD k 0=(VS T ws.sum ws).getD i 0/\i<k)
theorem Dy (T:Int) (ws:List Int) (hS:0<ws.sum) (js:List Nat) (hp:js.Perm (List.range ws.length))
  (hs:js.Pairwise fun i k=>(VS T ws.sum ws).getD k 0<(VS T ws.sum ws).getD i 0∨((VS T ws.sum ws).getD k 0=(VS T ws.sum ws).getD i 0/\i<k)) :
  OP T ws (WJ (Vj T ws.sum ws) (js.take (T-(Vj T ws.sum ws).sum).toNat)):=by
 obtain⟨m0,m1⟩:=I8 T ws hS;have hl:(Vj T ws.sum ws).length=ws.length:=by simp[Vj]
 have hjl:js.length=ws.length:=by rw[hp.length_eq,List.length_range]
 have hnd:js.Nodup:=hp.nodup_iff.2 List.nodup_range;have hmem:∀j,j∈js↔j<ws.length:=fun j=>by rw[hp.mem_iff,List.mem_range]
 obtain⟨M,hM⟩:∃M,M=(T-(Vj T ws.sum ws).sum).toNat:=⟨_,rfl⟩
 rw[<-hM];have hcnt:∀k,(js.take M).count k=if k∈js.take M then 1 else 0:=fun k=>(hnd.sublist (List.take_sublist M js)).count
 refine⟨by rw[NP,hl],?_,fun k=>?_,fun i k hi hk h1 h2=>?_⟩
 ·rw[NQ _ _ (fun j hj=>by rw[hl];exact (hmem j).1 (List.mem_of_mem_take hj)),List.length_take,hjl]
  omega
 ·rw[SP,hcnt]
  split
  ·right;cases (Vj T ws.sum ws)[k]?<;>rfl
  ·left;cases (Vj T ws.sum ws)[k]?<;>simp
 ·rw[SP,hcnt] at h1 h2;have gi:∃x,(Vj T ws.sum ws)[i]?=some x:=⟨_,List.getElem?_eq_getElem (by omega)⟩
  have gk:∃x,(Vj T ws.sum ws)[k]?=some x:=⟨_,List.getElem?_eq_getElem (by omega)⟩
  obtain⟨x,hx⟩:=gi;obtain⟨y,hy⟩:=gk;rw[hx] at h1;rw[hy] at h2;simp only[Option.map_some,Option.some.injEq] at h1 h2;have mi:i∈js.take M:=by
   by_cases h:i∈js.take M
   ·exact h
   ·rw[if_neg h] at h1;simp at h1;omega
  have mk:k∈js.drop M:=by
   by_cases h:k∈js.take M
   ·rw[if_pos h] at h2;simp at h2;omega
   ·have:k∈js.take M++js.drop M:=by rw[List.take_append_drop];exact (hmem k).2 hk
    rcases List.mem_append.1 this with h3|h3
    ·exact absurd h3 h
    ·exact h3
  have hs2:=hs;rw[<-List.take_append_drop M js] at hs2;exact (List.pairwise_append.1 hs2).2.2 i mi k mk
theorem ML (n:Nat):(List.finRange n).map Fin.val=List.range n:=by
 apply List.ext_getElem<;>simp
theorem TM {α:Type} (a:Array α) (n:Nat) (h:a.size=n):a.extract 0 n=a:=by subst h;simp
def PG (R:Nat->Int) (x y:Nat):Prop:=R y<R x∨(R y=R x/\x<y)
theorem Dz {n:Nat} (R:Nat->Int) (lt:Fin n->Fin n->Bool) (hlt:∀x y,lt x y=true↔PG R x y):Go.Sort.SWO lt:=by
 have hf:∀x y,lt x y=false↔¬PG R x y:=fun x y=>by rw[<-hlt];cases lt x y<;>simp
 refine⟨fun x=>(hf x x).2 ?_,fun x y z h1 h2=>?_,fun x y z h1 h2=>?_⟩
 ·unfold PG;omega
 ·rw[hlt] at *;unfold PG at *;omega
 ·rw[hf] at *;unfold PG at *;omega
theorem Zct {n:Nat} [Inhabited (Fin n)] (R:Nat->Int) (lt:Fin n->Fin n->Bool) (hlt:∀x y,lt x y=true↔PG R x y) (d':Array (Fin n))
  (hp:Go.Sort.PermIn 0 n (List.finRange n).toArray d') (hs:Go.Sort.SortedIn lt 0 n d') :
  (d'.toList.map Fin.val).Perm (List.range n)/\(d'.toList.map Fin.val).Pairwise (PG R):=by
 have hf:∀x y,lt x y=false↔¬PG R x y:=fun x y=>by rw[<-hlt];cases lt x y<;>simp
 obtain⟨hz,-,hp⟩:=hp;have hz:d'.size=n:=by simpa using hz
 have e1:d'.extract 0 n=d':=TM _ _ hz;have e2:(List.finRange n).toArray.extract 0 n=(List.finRange n).toArray:=TM _ _ (by simp)
 rw[e1,e2] at hp;have hp2:(d'.toList.map Fin.val).Perm (List.range n):=by
  rw[<-ML];exact hp.map _
 refine⟨hp2,?_⟩;have hnd:(d'.toList.map Fin.val).Nodup:=hp2.nodup_iff.2 List.nodup_range;rw[List.pairwise_iff_getElem];intro i j hi hj hij;have hj2:j<d'.size:=by simpa using hj
 have hi2:i<d'.size:=by simpa using hi
 have h1:=hs i j (Nat.zero_le _) hij (by omega)
 rw[getElem!_pos d' i hi2,getElem!_pos d' j hj2,hf] at h1;have h2:(d'.toList.map Fin.val)[i]≠(d'.toList.map Fin.val)[j]:=fun e=>by
  have:=(List.getElem_inj hnd).1 e
  omega
 simp only[List.getElem_map,Array.getElem_toList] at h2 ⊢;unfold PG at *;omega
def OQ (T p a:Int):Int:=rnd (Rat.divInt (T*p) a) 1
def Vk (x:Lot) (q:List UInt8):Lot:={ x with q:=q,cost:=canon (OQ (val x.cost) (val q) (val x.q)),used:=if x.used=[] then [] else q }
def WT (x:Lot) (q:List UInt8):Lot:={ x with q:=canon (val x.q-val q),cost:=canon (val x.cost-OQ (val x.cost) (val q) (val x.q)),used:=if x.used=[] then [] else canon (val x.q-val q) }
def stepT (s:List Lot×List Lot) (p:Pk):List Lot×List Lot:=
 if (s.1.getD (Z0 (isLt p.lot) s.1 0).toNat ⟨[],[],0,0,[],[],[]⟩).q=p.q then
  (s.1.eraseIdx (Z0 (isLt p.lot) s.1 0).toNat,s.2++[s.1.getD (Z0 (isLt p.lot) s.1 0).toNat ⟨[],[],0,0,[],[],[]⟩])
 else (s.1.set (Z0 (isLt p.lot) s.1 0).toNat (WT (s.1.getD (Z0 (isLt p.lot) s.1 0).toNat ⟨[],[],0,0,[],[],[]⟩) p.q),s.2++[Vk (s.1.getD (Z0 (isLt p.lot) s.1 0).toNat ⟨[],[],0,0,[],[],[]⟩) p.q])
def Z8 (s:List Lot×List Lot) (ps:List Pk):List Lot×List Lot:=ps.foldl stepT s
def Xt (xs:List Lot) (done:List Pk):List Pk->Int
 | []=>0
 | p::t=>if Z0 (isLt p.lot) xs 0<0 then 6 else if done.any (Ya p.lot)=true then 5 else if ¬p.q=canon (val p.q) then 1 else if val p.q<=0 then 2 else
   if val (xs.getD (Z0 (isLt p.lot) xs 0).toNat ⟨[],[],0,0,[],[],[]⟩).q<val p.q then 15 else Xt xs (done++[p]) t
structure A7 (xs:List Lot) (p:Pk):Prop where
 lot:∃x∈xs,x.id=p.lot/\x.q=canon (val x.q)/\val p.q<=val x.q
 can:p.q=canon (val p.q)
 pos:0<val p.q
structure Q7 (xs:List Lot) (ps:List Pk):Prop where
 nd:(xs.map (·.id)).Nodup
 all:∀p∈ps,A7 xs p
 pnd:(ps.map (·.lot)).Nodup
theorem OR {xs:List Lot} (hc:∀x∈xs,x.q=canon (val x.q)):∀(ps done:List Pk),Xt xs done ps=0->(∀p∈ps,A7 xs p)/\(ps.map (·.lot)).Nodup/\∀p∈ps,∀d∈done,d.lot≠p.lot
 | [],_,_=>⟨fun _ h=>by (cases h),by simp,fun _ h=>by (cases h)⟩
 | p::t,done,h=>by
  unfold Xt at h
  by_cases h1:Z0 (isLt p.lot) xs 0<0
  ·rw[if_pos h1] at h;exact absurd h (by decide)
  rw[if_neg h1] at h
  by_cases h2:done.any (Ya p.lot)=true
  ·rw[if_pos h2] at h;exact absurd h (by decide)
  rw[if_neg h2] at h
  by_cases h3:¬p.q=canon (val p.q)
  ·rw[if_pos h3] at h;exact absurd h (by decide)
  rw[if_neg h3] at h
  by_cases h4:val p.q<=0
  ·rw[if_pos h4] at h;exact absurd h (by decide)
  rw[if_neg h4] at h;obtain⟨i,x,e,hx,hp,-⟩:=Vi _ _ _ (Int.not_lt.1 h1);rw[e,Nat.zero_add,Int.toNat_natCast,List.getD_eq_getElem?_getD,hx,Option.getD_some] at h
  by_cases h5:val x.q<val p.q
  ·rw[if_pos h5] at h;exact absurd h (by decide)
  rw[if_neg h5] at h;obtain⟨a1,a2,a3⟩:=OR hc t (done++[p]) h;have hm:=Lm hx;have hid:x.id=p.lot:=by simpa [isLt] using hp
  refine⟨fun r hr=>?_,?_,fun r hr d hd=>?_⟩
  ·rcases List.mem_cons.1 hr with rfl|hr
   ·exact⟨⟨x,hm,hid,hc x hm,by omega⟩,Decidable.not_not.1 h3,by omega⟩
   ·exact a1 r hr
  ·rw[List.map_cons,List.nodup_cons];refine⟨fun hc=>?_,a2⟩
   obtain⟨r,hr,er⟩:=List.mem_map.1 hc;exact a3 r hr p (by simp) er.symm
  ·rcases List.mem_cons.1 hr with rfl|hr
   ·intro he;apply h2;rw[List.any_eq_true];exact⟨d,hd,by simp[Ya,he]⟩
   ·exact a3 r hr d (by simp[hd])
theorem I9 {g:Lot->Int} {x:Lot} (y:Lot):∀{xs:List Lot} {k:Nat},xs[k]?=some x->((xs.set k y).map g).sum=(xs.map g).sum-g x+g y
 | [],k,h=>by simp at h
 | a::t,0,h=>by simp at h;subst h;simp;omega
 | a::t,k+1,h=>by
  have ih:=I9 (g:=g) (x:=x) y (xs:=t) (k:=k) (by simpa using h)
  simp only[List.set_cons_succ,List.map_cons,List.sum_cons,ih];omega
theorem NR {g:Lot->Int} {x:Lot}:∀{xs:List Lot} {k:Nat},xs[k]?=some x->((xs.eraseIdx k).map g).sum=(xs.map g).sum-g x
 | [],k,h=>by simp at h
 | a::t,0,h=>by simp at h;subst h;simp;omega
 | a::t,k+1,h=>by
  have ih:=NR (g:=g) (x:=x) (xs:=t) (k:=k) (by simpa using h)
  simp only[List.eraseIdx_cons_succ,List.map_cons,List.sum_cons,ih];omega
theorem Uu {α:Type} {x y:α}:∀{xs:List α} {k:Nat},xs[k]?=some x->y∈xs->y≠x->y∈xs.eraseIdx k
 | [],k,h,_,_=>by simp at h
 | a::t,0,h,hy,hne=>by
  simp at h;subst h;rcases List.mem_cons.1 hy with rfl|hy
  ·exact absurd rfl hne
  ·simpa using hy
 | a::t,k+1,h,hy,hne=>by
  rw[List.eraseIdx_cons_succ];rcases List.mem_cons.1 hy with rfl|hy
  ·simp
  ·exact List.mem_cons_of_mem _ (Uu (by simpa using h) hy hne)
theorem T5 {α:Type} {x y:α} (z:α):∀{xs:List α} {k:Nat},xs[k]?=some x->y∈xs->y≠x->y∈xs.set k z
 | [],k,h,_,_=>by simp at h
 | a::t,0,h,hy,hne=>by
  simp at h;subst h;rcases List.mem_cons.1 hy with rfl|hy
  ·exact absurd rfl hne
  ·simp[hy]
 | a::t,k+1,h,hy,hne=>by
  rw[List.set_cons_succ];rcases List.mem_cons.1 hy with rfl|hy
  ·simp
  ·exact List.mem_cons_of_mem _ (T5 z (by simpa using h) hy hne)
theorem A8 {xs:List Lot} {k:Nat} {x y:Lot} (h:xs[k]?=some x) (e:y.id=x.id):(xs.set k y).map (·.id)=xs.map (·.id):=by
 rw[List.map_set,e];apply List.ext_getElem?;intro j;rw[List.getElem?_set]
 split
 ·rename_i hj;subst hj
  split
  ·simp[h]
  ·rename_i hlt;simp at hlt;simp[List.getElem?_eq_none hlt]
 ·rfl
theorem LN {xs t:List Lot} {p:Pk} (h:A7 xs p) (hn:(xs.map (·.id)).Nodup) :
  ∃(k:Nat) (x:Lot),Z0 (isLt p.lot) xs 0=(k:Int)/\xs[k]?=some x/\x.id=p.lot/\x.q=canon (val x.q)/\val p.q<=val x.q/\
   stepT (xs,t) p=if x.q=p.q then (xs.eraseIdx k,t++[x]) else (xs.set k (WT x p.q),t++[Vk x p.q]):=by
 obtain⟨x,hx,hid,hq,hle⟩:=h.lot;have hany:xs.any (isLt p.lot)=true:=List.any_eq_true.2 ⟨x,hx,by simp[isLt,hid]⟩
 obtain⟨i,y,e,hy,hp,-⟩:=Vi _ _ _ ((U2 (isLt p.lot) xs 0).2 hany);rw[Nat.zero_add] at e;have hyid:y.id=p.lot:=by simpa [isLt] using hp
 have hxy:y=x:=by
  obtain⟨j,hj⟩:=List.getElem?_of_mem hx;obtain⟨hi,-⟩:=Lg.1 hy;obtain⟨hj',-⟩:=Lg.1 hj;have h1:(xs.map (·.id))[i]?=some p.lot:=by simp[hy,hyid]
  have h2:(xs.map (·.id))[j]?=some p.lot:=by simp[hj,hid]
  have:i=j:=(List.getElem?_inj (by simpa using hi) hn).1 (h1.trans h2.symm)
  subst this;rw[hy] at hj;cases hj;rfl
 subst hxy;refine⟨i,y,e,hy,hid,hq,hle,?_⟩;unfold stepT;simp only[e,Int.toNat_natCast,List.getD_eq_getElem?_getD,hy,Option.getD_some]
def Zcu (g:Lot->Int):Prop:=∀x q,g (Vk x q)+g (WT x q)=g x
theorem Hb (f:Lot->Int) (h:∀x q,f (Vk x q)+f (WT x q)=f x) (I:List UInt8):Zcu (fun x=>if x.ins==I then f x else 0):=fun x q=>by
 show (if x.ins==I then f (Vk x q) else 0)+(if x.ins==I then f (WT x q) else 0)=if x.ins==I then f x else 0
 split
 ·exact h x q
 ·rfl
theorem Zcv (x:Lot) (q:List UInt8):val (Vk x q).q+val (WT x q).q=val x.q:=by
 show val q+val (canon (val x.q-val q))=_;rw[Zm];omega
theorem Zcw (x:Lot) (q:List UInt8):val (Vk x q).cost+val (WT x q).cost=val x.cost:=by
 show val (canon (OQ (val x.cost) (val q) (val x.q)))+val (canon (val x.cost-OQ (val x.cost) (val q) (val x.q)))=_;rw[Zm,Zm];omega
theorem T6 (f:Lot->Int) (I:List UInt8):∀xs:List Lot,((xs.filter (fun x=>x.ins==I)).map f).sum=(xs.map (fun x=>if x.ins==I then f x else 0)).sum
 | []=>rfl
 | a::t=>by
  have ih:=T6 f I t
  by_cases h:(a.ins==I)=true
  ·rw[List.filter_cons_of_pos (p:=fun x:Lot=>x.ins==I) h,List.map_cons,List.map_cons,List.sum_cons,List.sum_cons,ih,if_pos h]
  ·rw[List.filter_cons_of_neg (p:=fun x:Lot=>x.ins==I) h,List.map_cons,List.sum_cons,ih,if_neg h];omega
structure Zcx (xs t:List Lot) (ps:List Pk) (s:List Lot×List Lot):Prop where
 sum:∀g,Zcu g->(s.1.map g).sum+(s.2.map g).sum=(xs.map g).sum+(t.map g).sum
 qs:s.2.map (·.q)=t.map (·.q)++ps.map (·.q)
 ids:s.2.map (·.id)=t.map (·.id)++ps.map (·.lot)
 len:s.1.length<=xs.length
theorem LO {xs t:List Lot} {p:Pk} {ps:List Pk} (h:Q7 xs (p::ps)):Q7 (stepT (xs,t) p).1 ps/\Zcx xs t [p] (stepT (xs,t) p)/\
  (∀y∈(stepT (xs,t) p).1,y∈xs∨∃x∈xs,x.id=p.lot/\y=WT x p.q)/\(∀y∈(stepT (xs,t) p).2,y∈t∨∃x∈xs,x.id=p.lot/\(y=x∨(0<val p.q/\val p.q<val x.q/\y=Vk x p.q)))/\
  (∀x∈xs,x.id≠p.lot->x∈(stepT (xs,t) p).1)/\(∀y∈(stepT (xs,t) p).1,y.id≠p.lot->y∈xs):=by
 have hp:=h.all p List.mem_cons_self;obtain⟨k,x,ek,hx,hid,hcq,hle,es⟩:=LN (t:=t) hp h.nd;have hnd:=h.pnd;rw[List.map_cons,List.nodup_cons] at hnd;have hother:∀r∈ps,r.lot≠p.lot:=fun r hr e=>hnd.1 (List.mem_map.2 ⟨r,hr,e⟩)
 have hxm:=Lm hx;have hkeep:∀(W:List Lot),(∀y∈xs,y≠x->y∈W)->∀r∈ps,A7 W r:=fun W hW r hr=>by
  obtain⟨⟨y,hy,h1,h2,h3⟩,h4,h5⟩:=h.all r (List.mem_cons_of_mem _ hr);refine⟨⟨y,hW y hy (fun e=>?_),h1,h2,h3⟩,h4,h5⟩
  subst e;exact hother r hr (h1.symm.trans hid)
 rw[es]
 by_cases hq:x.q=p.q
 ·rw[if_pos hq];refine⟨⟨?_,hkeep _ (fun y hy hne=>Uu hx hy hne),hnd.2⟩,⟨fun g _=>?_,?_,?_,?_⟩,fun y hy=>.inl (List.mem_of_mem_eraseIdx hy),fun y hy=>?_,fun y hy hne=>Uu hx hy (fun e=>hne (e ▸ hid)),fun y hy _=>List.mem_of_mem_eraseIdx hy⟩
  ·exact List.Nodup.sublist ((List.eraseIdx_sublist _ _).map _) h.nd
  ·simp only[NR hx,List.map_append,List.sum_append,List.map_cons,List.map_nil,List.sum_cons,List.sum_nil];omega
  ·simp[hq]
  ·simp[hid]
  ·exact (List.eraseIdx_sublist _ _).length_le
  ·rcases List.mem_append.1 hy with hy|hy
   ·exact .inl hy
   ·simp at hy;subst hy;exact .inr ⟨y,hxm,hid,.inl rfl⟩
 ·rw[if_neg hq];have hlt:val p.q<val x.q:=by
   rcases Int.lt_or_le (val p.q) (val x.q) with h1|h1
   ·exact h1
   ·exfalso;apply hq;rw[hcq,hp.can];congr 1;omega
  refine⟨⟨?_,hkeep _ (fun y hy hne=>T5 _ hx hy hne),hnd.2⟩,⟨fun g hg=>?_,?_,?_,?_⟩,fun y hy=>?_,fun y hy=>?_,fun y hy hne=>T5 _ hx hy (fun e=>hne (e ▸ hid)),fun y hy hne=>?_⟩
  ·show ((xs.set k (WT x p.q)).map (·.id)).Nodup
   rw[A8 (x:=x) (y:=WT x p.q) hx rfl];exact h.nd
  ·have:=hg x p.q
   simp only[I9 (WT x p.q) hx,List.map_append,List.sum_append,List.map_cons,List.map_nil,List.sum_cons,List.sum_nil];omega
  ·simp[Vk]
  ·simp[Vk,hid]
  ·simp
  ·rcases List.mem_or_eq_of_mem_set hy with hy|hy
   ·exact .inl hy
   ·exact .inr ⟨x,hxm,hid,hy⟩
  ·rcases List.mem_append.1 hy with hy|hy
   ·exact .inl hy
   ·simp at hy;exact .inr ⟨x,hxm,hid,.inr ⟨hp.pos,hlt,hy⟩⟩
  ·rcases List.mem_or_eq_of_mem_set hy with hy|hy
   ·exact hy
   ·subst hy;exact absurd hid hne
theorem SQ:∀(ps:List Pk) (xs t:List Lot),Q7 xs ps->Zcx xs t ps (Z8 (xs,t) ps)/\
  (∀y∈(Z8 (xs,t) ps).2,y∈t∨∃p∈ps,∃x∈xs,x.id=p.lot/\(y=x∨(0<val p.q/\val p.q<val x.q/\y=Vk x p.q)))/\
  (∀y∈(Z8 (xs,t) ps).1,y∈xs∨∃p∈ps,∃x∈xs,x.id=p.lot/\y=WT x p.q)
 | [],xs,t,h=>⟨⟨fun _ _=>rfl,by simp[Z8],by simp[Z8],Nl _⟩,fun y hy=>.inl hy,fun y hy=>.inl hy⟩
 | p::ps,xs,t,h=>by
  obtain⟨h1,h2,h3,h4,h5,h6⟩:=LO (t:=t) h;obtain⟨s1,s2⟩:∃s1,s1=(stepT (xs,t) p).1:=⟨_,rfl⟩
  obtain⟨t1,t2⟩:∃t1,t1=(stepT (xs,t) p).2:=⟨_,rfl⟩
  obtain⟨r1,r2,r3⟩:=SQ ps s1 t1 (s2 ▸ h1);have es:Z8 (xs,t) (p::ps)=Z8 (s1,t1) ps:=by
   rw[s2,t2];rfl
  have hnd:=h.pnd;rw[List.map_cons,List.nodup_cons] at hnd;have hother:∀r∈ps,r.lot≠p.lot:=fun r hr e=>hnd.1 (List.mem_map.2 ⟨r,hr,e⟩)
  rw[es];rw[<-s2] at h3 h5 h6;rw[<-t2] at h4;refine⟨⟨fun g hg=>?_,?_,?_,?_⟩,fun y hy=>?_,fun y hy=>?_⟩
  ·have a1:=r1.sum g hg;have a2:=h2.sum g hg;rw[<-s2,<-t2] at a2;omega
  ·have a2:=h2.qs;rw[<-t2] at a2;rw[r1.qs,a2];simp
  ·have a2:=h2.ids;rw[<-t2] at a2;rw[r1.ids,a2];simp
  ·have a2:=h2.len;rw[<-s2] at a2;exact Nt r1.len a2
  ·rcases r2 y hy with hy|⟨r,hr,x,hx,hxid,hyx⟩
   ·rcases h4 y hy with hy|⟨x,hx,hxid,hyx⟩
    ·exact .inl hy
    ·exact .inr ⟨p,List.mem_cons_self,x,hx,hxid,hyx⟩
   ·exact .inr ⟨r,List.mem_cons_of_mem _ hr,x,h6 x hx (fun e=>hother r hr (hxid.symm.trans e)),hxid,hyx⟩
  ·rcases r3 y hy with hy|⟨r,hr,x,hx,hxid,hyx⟩
   ·rcases h3 y hy with hy|⟨x,hx,hxid,hyx⟩
    ·exact .inl hy
    ·exact .inr ⟨p,List.mem_cons_self,x,hx,hxid,hyx⟩
   ·exact .inr ⟨r,List.mem_cons_of_mem _ hr,x,h6 x hx (fun e=>hother r hr (hxid.symm.trans e)),hxid,hyx⟩
theorem Zdg (p r:Pk) (bx:Nat) (w:World) (h:Blk w bx #[Zg r.lot,Zg r.q]) :
  Calls prog 276 #[.agg #[Zg p.lot,Zg p.q],.pointer (some ⟨bx,0,none⟩)] w fun e w'=>e=.returned (.bool (Ya r.lot p))/\Below w.heap.size w w':=by
 have hb:=Zh w (.cells #[Zg p.lot,Zg p.q] 195);have x1:=Blk.new w #[Zg p.lot,Zg p.q] 195;have p0:=x1.c 0;have p1:=(h.below hb).c 0;have HV:Hid (Ya r.lot p=(p.lot==r.lot)):=rfl;have he:=Tk p.lot r.lot;generalize Ya r.lot p=R at *;clear h x1;go_enter func276,ntmps276;go_wp2;go_ret;refine⟨ZR ?_,hb⟩;rw[HV.out]<;>first|exact he|rfl
theorem Fj (args:Array Value) (w:World):(callFunc 276 args).run prog w=.ok (.enter 276 args) w:=by kernel_rfl
theorem DC {α:Type} {xs:List α} {i:Nat} {x:α} (h:xs[i]?=some x):i<xs.length:=(Lg.1 h).1
theorem JX {xs:List Lot} {ps:List Pk} {k:Nat} {p:Pk} (h:ps[k]?=some p):Xt xs (ps.take k) (ps.drop k)=if Z0 (isLt p.lot) xs 0<0 then 6 else if (ps.take k).any (Ya p.lot)=true then 5 else if ¬p.q=canon (val p.q) then 1 else if val p.q<=0 then 2 else
   if val (xs.getD (Z0 (isLt p.lot) xs 0).toNat ⟨[],[],0,0,[],[],[]⟩).q<val p.q then 15 else Xt xs (ps.take (k+1)) (ps.drop (k+1)):=by
 obtain⟨hk,rfl⟩:=Lg.1 h;rw[List.drop_eq_getElem_cons hk,List.take_succ_eq_append_getElem hk];rfl
theorem NS {w:World} {A Ap:Option Addr} {xs:List Lot} {ps:List Pk} {n np:Nat} (c cp:Nat) (hG:GE w) (hL:Yk w A xs n) (hP:XI w Ap ps) (hpn:ps.length=np) (hpc:np<=cp) (hpn2:np<=100000) (hps:∀p∈ps,p.lot.length<=1000/\p.q.length<=2000) :
  Calls prog 213 #[.slice A n c,.pointer none,.slice Ap np cp] w fun e w'=>e=.returned (Zi (Xt xs [] ps))/\Below w.heap.size w w':=by
 have hn2:=hL.big;have HL:=Lh hL;have HP:=Lh hP;have HPS:=Lh hps;have HPN:=Lh hpn;have hp1:ps.length<=np:=by omega
 have hp2:np<=ps.length:=by omega
 obtain⟨E,hE⟩:∃E,E=Xt xs [] ps:=⟨_,rfl⟩
 rw[<-hE];have HE:Hid (E=Xt xs (ps.take 0) (ps.drop 0)):=hE;have hb0:=Below.refl w.heap.size w;clear hL hP hps hpn hE;go_enter func213,ntmps213;go_wp2_with fail
 go_loopw [7,8,9,10,13,18,25,28,42,48,53,58] (fun _ _ _ _ iv _ _ _ _ _ _ _ wr=>∃k:Nat,k<=np/\iv=Zi (k:Int)/\Hid (E=Xt xs (ps.take k) (ps.drop k))/\Below w.heap.size w wr) (fun _ _ _ _ iv _ _ _ _ _ _ _ _=>np-(intOf iv).toNat)
 case atStart=>exact⟨0,Nat.zero_le _,rfl,HE.out,hb0⟩
 case round=>
  clear HE hb0;obtain⟨k,hk,rfl,HE,hb⟩:=hrel
  by_cases hlk:k<np
  rotate_left
  ·have HQ:Hid (E=0):=by
    have h:=HE.out;rw[List.drop_of_length_le (by omega)] at h
    exact h
   have e1:decide (k<np)=false:=Df hlk;have e2:decide ((k:Int)<(np:Int))=false:=Df (by omega)
   clear HE;go_wp2;go_ret;exact⟨Z2 HQ.out.symm,hb⟩
  have e1:decide (k<np)=true:=Dt hlk;have e2:decide ((k:Int)<(np:Int))=true:=Dt (by omega)
  obtain⟨p,hp⟩:∃p,ps[k]?=some p:=⟨_,List.getElem?_eq_getElem (by omega)⟩
  have hpz:=HPS.out p (Lm hp);obtain⟨bp,op,rfl,hbps,p0,p1⟩:=(HP.out.below hb) k p hp;have hbA:=Zh wr (.cells #[Zg p.lot,Zg p.q] 195);have X1:=Lh (Blk.new wr #[Zg p.lot,Zg p.q] 195);have q0:=X1.out.c 0;have HV:=Lh (HE.out.trans (JX hp));replace hb:=bto hb hbA;have KF:=Lh (Ds c p.lot HL.out.len hn2 (HL.out.mem.below hb));obtain⟨bx,hbx⟩:∃bx,bx=wr.heap.size:=⟨_,rfl⟩
  rw[<-hbx] at X1 q0;have HBX:=Lh hbx;have hkc:(k:Int)<=(cp:Int):=by omega
  clear hp hbA HE hbx;go_wp2_with fail;rw[<-HBX.out];refine KF.out.mono ?_;rintro e w1 ⟨rfl,hb1⟩;clear p0 p1 q0 KF e1 e2;replace X1:=Lh (X1.out.below hb1);replace hb:=bto hb hb1;clear hb1
  by_cases g1:Z0 (isLt p.lot) xs 0<0
  ·have HQ:Hid (E=6):=by show _=_;rw[HV.out,if_pos g1]
   rw[Df (by omega:¬0<=Z0 (isLt p.lot) xs 0)]
   clear g1 HV X1;go_wp2;go_ret;exact⟨Z2 HQ.out.symm,hb⟩
  have HV1:=Lh (HV.out.trans (if_neg g1));obtain⟨i,x,hzi,hxi,-,-⟩:=Vi _ _ _ (Int.not_lt.1 g1);rw[Nat.zero_add] at hzi;have hpos:Fc (Z0 (isLt p.lot) xs 0)=(i:Int):=by rw[hzi];exact if_pos (by omega)
  rw[Dt (Int.not_lt.1 g1),hpos];have hxq:xs.getD (Z0 (isLt p.lot) xs 0).toNat ⟨[],[],0,0,[],[],[]⟩=x:=by rw[hzi,Int.toNat_natCast,List.getD_eq_getElem?_getD,hxi];rfl
  rw[hxq] at HV1;have hiN:i<n:=by rw[<-HL.out.len];exact DC hxi
  have hxs:=HL.out.sm x (Lm hxi);have KP:=Lh (fun (w':World) (hb':Below w1.heap.size w1 w')=>I6 _ Fj (Ya p.lot) #[.pointer (some ⟨bx,0,none⟩)] (some ⟨bp,op,none⟩) (ps.take k) k cp w' (by rw[List.length_take];omega) (by omega) (((HP.out.below hb).below hb').take k) (fun r _ w2 hb2=>Zdg r p bx w2 ((X1.out.below hb').below hb2)))
  have HXI:=Lh hxi;clear g1 HV hzi hxi hpos hxq;go_wp2_with fail;refine Zx (by kernel_rfl) (by kernel_rfl) ?_
  iterate 3 refine PeV ?_
  iterate 9 refine PeO ?_
  iterate 2 refine PeV ?_
  intro ρ w2 hF;dsimp only;have hbF:=hF.below;clear hF;go_wp2_with fail;refine (KP.out _ hbF).mono ?_;rintro e w3 ⟨rfl,hb3⟩;replace X1:=Lh ((X1.out.below hbF).below hb3);replace hb:=bto (bto hb hbF) hb3;clear hbF hb3 KP
  by_cases g2:(ps.take k).any (Ya p.lot)=true
  ·have HQ:Hid (E=5):=by show _=_;rw[HV1.out,if_pos g2]
   rw[g2];clear g2 HV1 X1;go_wp2;go_ret;exact⟨Z2 HQ.out.symm,hb⟩
  have HV2:=Lh (HV1.out.trans (if_neg g2));rw[YW g2];have K1:=Lh (Yv (l:=p.q) (by omega) rfl)
  have q1:=X1.out.c 1;clear g2 HV1
  by_cases g3:p.q=canon (val p.q)
  rotate_left
  ·have HQ:Hid (E=1):=by show _=_;rw[HV2.out,if_pos g3]
   rw[if_neg g3] at K1;clear g3 HV2;go_wp2_with fail
   refine (K1.out.e.of hG hb).mono ?_
   rintro e w4 ⟨rfl,hb4⟩;replace hb:=bto hb hb4;go_wp2;go_ret;exact⟨Z2 HQ.out.symm,hb⟩
  have HV3:=Lh (HV2.out.trans (if_neg (fun h=>h g3)))
  rw[if_pos g3] at K1;clear g3 HV2;go_wp2_with fail
  refine (K1.out.e.of hG hb).mono ?_
  rintro e w4 ⟨rfl,hb4⟩;replace X1:=Lh (X1.out.below hb4);replace hb:=bto hb hb4;clear hb4 q1 K1;have q1:=X1.out.c 1;have K2:=Lh (Vt (l:=p.q) (by omega))
  by_cases g4:val p.q<=0
  ·have HQ:Hid (E=2):=by show _=_;rw[HV3.out,if_pos g4]
   rw[Df (by omega:¬0<val p.q)] at K2
   clear g4 HV3;go_wp2_with fail
   refine (K2.out.e.of hG hb).mono ?_
   rintro e w5 ⟨rfl,hb5⟩;replace hb:=bto hb hb5;go_wp2;go_ret;exact⟨Z2 HQ.out.symm,hb⟩
  have HV4:=Lh (HV3.out.trans (if_neg g4));rw[Dt (by omega:0<val p.q)] at K2
  clear g4 HV3;go_wp2_with fail
  refine (K2.out.e.of hG hb).mono ?_
  rintro e w5 ⟨rfl,hb5⟩;replace X1:=Lh (X1.out.below hb5);replace hb:=bto hb hb5;clear hb5 q1 K2;obtain⟨b,o,rfl,hbs,hcx⟩:=(HL.out.mem.below hb) i x HXI.out;have HXC:=Lh hcx;obtain⟨cc,hcc⟩:∃cc,cc=ZH (val p.q) (val x.q):=⟨_,rfl⟩
  have hxsq:=hxs.q;have KC:=Lh (ZF (l:=p.q) (l':=x.q) (by omega) (by omega) hcc.symm)
  have hci:0<cc↔val x.q<val p.q:=by
   rw[hcc];unfold ZH
   split
   ·omega
   ·split<;>omega
  obtain⟨bv,hbv⟩:∃bv,bv=decide (0<cc):=⟨_,rfl⟩
  have HBV:=Lh hbv;clear hcx hcc hbv;go_wp2_with fail;refine Zx (by kernel_rfl) (by kernel_rfl) ?_
  refine PeV ?_;refine PeW (fun ρ wz hw=>by have q0:=(X1.out.below hw).c 1;go_simp;try rfl) ?_
  iterate 2 refine PeV ?_
  refine PeV (v:=.pointer (some ⟨b,o+i*7,none⟩)) ?_;refine PeV (v:=.pointer (some ⟨b,o+i*7+4,none⟩)) ?_;refine PeW (fun ρ wz hw=>by have q0:=(HXC.out.below hbs hw).c4;go_simp;try rfl) ?_
  refine PeC (fun wz hw=>KC.out.e.of hG (bto hb hw)) ?_
  refine PkV (.bool bv) (fun _=>rfl) (fun ρ wz hw=>by rw[HBV.out];go_simp;try rfl) ?_
  refine PeV ?_;intro ρ w6 hF;dsimp only;replace hb:=bto hb hF.below;clear hF KC HXC X1;have hbv:=HBV.out;clear HBV;cases bv;rotate_left
  ·have g5:val x.q<val p.q:=hci.1 (of_decide_eq_true hbv.symm);have HQ:Hid (E=15):=by show _=_;rw[HV4.out,if_pos g5]
   clear g5 HV4 hci hbv;go_wp2;go_ret;exact⟨Z2 HQ.out.symm,hb⟩
  ·have g5:¬val x.q<val p.q:=fun h=>of_decide_eq_false hbv.symm (hci.2 h)
   have HQ:Hid (E=Xt xs (ps.take (k+1)) (ps.drop (k+1))):=by show _=_;rw[HV4.out,if_neg g5]
   clear g5 HV4 hci hbv;go_wp2;go_roundw
   case rel=>exact⟨k+1,by omega,by go_num,HQ.out,hb⟩
   case measure=>simp[intOf];omega
def LP (rs:List (List UInt8)):Array Value:=(rs.map (fun r=>Zg r)).toArray
theorem SR {rs:List (List UInt8)} {i:Nat} {r:List UInt8} (h:rs[i]?=some r):(LP rs)[i]?=some (Zg r):=by unfold LP;simp[h]
theorem Zcy (bx br n c:Nat) (rs:List (List UInt8)) (i k:Nat) (ri rk:List UInt8) (w:World) (hG:Yb w) (hbx:Blk w bx #[.slice (some ⟨br,0,none⟩) n c]) (hbr:Blk w br (LP rs)) (hi:rs[i]?=some ri) (hk:rs[k]?=some rk) (hn:rs.length=n) (hri:ri.length<=100000) (hrk:rk.length<=100000) :
  Calls prog 292 #[Zi i,Zi k,.pointer (some ⟨bx,0,none⟩)] w fun e w'=>e=.returned (Zi (orZ (ZH (val rk) (val ri)) (PE i k)))/\Below w.heap.size w w':=by
 have C1:=Lh (ZF (l:=rk) (l':=ri) (by omega) (by omega) rfl)
 have C2:=Lh (fun w'=>Zdd (i:Int) (k:Int) w')
 have rie:=SR hi;have rke:=SR hk;have li:i<n:=by rw[<-hn];exact (Lg.1 hi).1
 have lk:k<n:=by rw[<-hn];exact (Lg.1 hk).1
 obtain⟨x,hx⟩:∃x,x=ZH (val rk) (val ri):=⟨_,rfl⟩
 obtain⟨y,hy⟩:∃y,y=PE (i:Int) (k:Int):=⟨_,rfl⟩
 rw[<-hx] at C1 ⊢;rw[<-hy] at C2 ⊢;clear hi hk hri hrk hx hy hn;go_enter func292,ntmps292;go_wp2_with fail;refine Wk (by simp) (by simp) (by kernel_rfl) (by kernel_rfl) (by kernel_rfl) (by kernel_rfl) (by kernel_rfl) ?_
 simp only[List.dropLast_cons_cons,List.dropLast_singleton,List.getLast_cons_cons,List.getLast_singleton];refine PeW (fun ρ wz hw=>by have q0:wz.cell? ⟨bx,0,none⟩=some (.slice (some ⟨br,0,none⟩) n c):=(hbx.below hw).c 0;go_simp;try rfl) ?_
 iterate 2 refine PeV ?_
 refine PeW (fun ρ wz hw=>by have q0:wz.cell? ⟨br,k,none⟩=some (Zg rk):=((hbr.below hw).c k).trans rke;go_simp;try rfl) ?_
 refine PeW (fun ρ wz hw=>by have q0:wz.cell? ⟨bx,0,none⟩=some (.slice (some ⟨br,0,none⟩) n c):=(hbx.below hw).c 0;go_simp;try rfl) ?_
 iterate 2 refine PeV ?_
 refine PeW (fun ρ wz hw=>by have q0:wz.cell? ⟨br,i,none⟩=some (Zg ri):=((hbr.below hw).c i).trans rie;go_simp;try rfl) ?_
 refine PeC (fun wz hw=>C1.out.of hG hw) ?_
 iterate 2 refine PeV ?_
 refine PeC (fun wz hw=>(C2.out wz).mono fun e w' h=>⟨h.1,h.2 ▸ Below.refl _ _⟩) ?_
 refine Sq (fun b=>.slice (some ⟨b,0,none⟩) 2 2) _ rfl (fun _=>rfl) (fun ρ wz hw=>by go_simp;try rfl) ?_
 simp only[Act.put,StT,StZ,StS,Nat.reduceAdd];intro ρ w2 hF;dsimp only;have hB:=(hF.box 12 _ _ rfl).2;have hb2:=hF.below;generalize ρ 12=bb at *;have h0:w2.cell? ⟨bb,0,none⟩=some (Zi x):=Zk hB 0;have h1:w2.cell? ⟨bb,1,none⟩=some (Zi y):=Zk hB 1;clear hF hB C1 C2;go_wp2_with fail
 refine (JU bb x y w2 h0 h1).mono ?_
 rintro e w3 ⟨rfl,rfl⟩;go_wp2;go_ret;exact⟨rfl,hb2⟩
def JY (rs:List (List UInt8)) (i k:Nat):Int:=orZ (ZH (val (rs.getD k [])) (val (rs.getD i []))) (PE i k)
theorem DD (a b:Int):(a<b/\ZH a b = -1)∨(a=b/\ZH a b=0)∨(b<a/\ZH a b=1):=by
 unfold ZH
 split
 ·exact .inl ⟨‹_›,rfl⟩
 ·split
  ·exact .inr (.inr ⟨by omega,rfl⟩)
  ·exact .inr (.inl ⟨by omega,rfl⟩)
theorem A9 (rs:List (List UInt8)) (i k:Nat):(JY rs i k<0)↔(val (rs.getD k [])<val (rs.getD i [])∨(val (rs.getD k [])=val (rs.getD i [])/\i<k)):=by
 unfold JY orZ;have h:=DD (val (rs.getD k [])) (val (rs.getD i []));generalize ZH (val (rs.getD k [])) (val (rs.getD i []))=c at *;have h2:PE (i:Int) (k:Int)<0↔i<k:=by
  unfold PE
  split
  ·omega
  ·split<;>omega
 split
 ·rw[h2];omega
 ·omega
end Go.Proofs.YtpieeldbamklkaaGreatDoor
