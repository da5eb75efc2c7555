/- Texts put together: Oj Uq Ra St Su Sv Sw Sx Ok Us Sp Ol. -/
import Derived.Test.YtpieeldbamklkaaGreatDoorA3
import Derived.Deep.DeepCutAuto
import Derived.Deep.CutBlock
import Derived.Sort.Statements
import Derived.Shelf.SlSortCmp.Whole1
import Derived.Shelf.Strconv.ParseIntPublic10
import Derived.Sort.Grow
set_option maxHeartbeats 4000000
set_option maxRecDepth 100000
namespace Go.Proofs.YtpieeldbamklkaaGreatDoor
open Go.RowKit Num
def Pf (x y:Int):Int:=if x<y then -1 else if y<x then 1 else 0
theorem ZcW (x y:Int) (w:World):Calls Tryz.prog 293 #[.int .i64 x,.int .i64 y] w fun e w'=>e=.returned (.int .i64 (Pf x y))/\w=w':=by
 unfold Pf
 by_cases h1:x<y
 ·have e1:decide (x<y)=true:=Dt h1;rw[if_pos h1];clear h1;go_enter Tryz.func293,Tryz.ntmps293;go_wp2;go_ret;exact⟨rfl,rfl⟩
 ·have e1:decide (x<y)=false:=Df h1;rw[if_neg h1];clear h1
  by_cases h2:y<x
  ·have e2:decide (y<x)=true:=Dt h2;rw[if_pos h2];clear h2;go_enter Tryz.func293,Tryz.ntmps293;go_wp2;go_ret;exact⟨rfl,rfl⟩
  ·have e2:decide (y<x)=false:=Df h2;rw[if_neg h2];clear h2;go_enter Tryz.func293,Tryz.ntmps293;go_wp2;go_ret;exact⟨rfl,rfl⟩
theorem ZcX (x y:Int) (w:World):Calls Tryz.prog 270 #[.int .i64 x,.int .i64 y] w fun e w'=>e=.returned (.int .i64 (Pf x y))/\w=w':=by
 unfold Pf
 by_cases h1:x<y
 ·have e1:decide (x<y)=true:=Dt h1;rw[if_pos h1];clear h1;go_enter Tryz.func270,Tryz.ntmps270;go_wp2;go_ret;exact⟨rfl,rfl⟩
 ·have e1:decide (x<y)=false:=Df h1;rw[if_neg h1];clear h1
  by_cases h2:y<x
  ·have e2:decide (y<x)=true:=Dt h2;rw[if_pos h2];clear h2;go_enter Tryz.func270,Tryz.ntmps270;go_wp2;go_ret;exact⟨rfl,rfl⟩
  ·have e2:decide (y<x)=false:=Df h2;rw[if_neg h2];clear h2;go_enter Tryz.func270,Tryz.ntmps270;go_wp2;go_ret;exact⟨rfl,rfl⟩
def orZ (x y:Int):Int:=if x=0 then y else x
theorem Zbn (b:Nat) (x y:Int) (w:World) (h0:w.cell? ⟨b,0,none⟩=some (.int .i64 x)) (h1:w.cell? ⟨b,1,none⟩=some (.int .i64 y)) :
  Calls Tryz.prog 272 #[.slice (some ⟨b,0,none⟩) 2 2] w fun e w'=>e=.returned (.int .i64 (orZ x y))/\w=w':=by
 have HV:Hid (orZ x y=if x=0 then y else x):=rfl
 generalize orZ x y=R at *;go_enter Tryz.func272,Tryz.ntmps272;go_wp2_with fail
 go_loop [5,8] (fun _ iv=>∃k:Nat,k<=2/\iv=.int .i64 (k:Int)/\Hid (R=if k=0 then (if x=0 then y else x) else if k=1 then y else 0)) (fun _ iv=>2-(intOf iv).toNat)
 case atStart=>exact⟨0,by omega,rfl,HV.out⟩
 case round=>
  clear HV;obtain⟨k,hk,rfl,HV⟩:=hrel;have hk3:k=0∨k=1∨k=2:=by omega
  rcases hk3 with rfl|rfl|rfl
  ·by_cases g:x=0
   ·subst g;have HV2:Hid (R=y):=HV.out;clear HV;go_wp2
    go_round
    case rel=>exact⟨1,by omega,by go_num,HV2.out⟩
    case measure=>simp[intOf]
   ·have e1:(x==0)=false:=by rw[Bn];exact g
    have e2:=QQ e1;have HV2:Hid (R=x):=by show _=_;rw[HV.out,if_pos rfl,if_neg g]
    clear HV g;go_wp2;go_ret;exact⟨ZH HV2.out.symm,rfl⟩
  ·have HV1:Hid (R=y):=HV.out;clear HV
   by_cases g:y=0
   ·subst g;go_wp2
    go_round
    case rel=>exact⟨2,by omega,by go_num,HV1.out⟩
    case measure=>simp[intOf]
   ·have e1:(y==0)=false:=by rw[Bn];exact g
    have e2:=QQ e1;clear g;go_wp2;go_ret;exact⟨ZH HV1.out.symm,rfl⟩
  ·have HV1:Hid (R=0):=HV.out;clear HV;go_wp2;go_ret;exact⟨ZH HV1.out.symm,rfl⟩
def ZG {α:Type} (p:α->Bool):List α->Nat->Int
 | [],_=>-1
 | a::t,k=>if p a=true then (k:Int) else ZG p t (k+1)
section
variable {α:Type} (p:α->Bool)
theorem VX (zs:List α) (k:Nat) (y:α) (h:zs[k]?=some y):ZG p (zs.drop k) k=if p y=true then (k:Int) else ZG p (zs.drop (k+1)) (k+1):=by
 obtain⟨hk,rfl⟩:=Lg.1 h;rw[List.drop_eq_getElem_cons hk];rfl
theorem U7:∀(zs:List α) (k:Nat),0<=ZG p zs k↔zs.any p=true
 | [],k=>by simp[ZG]
 | a::t,k=>by
  unfold ZG
  by_cases h:p a=true
  ·simp[h]
  ·rw[if_neg h,U7 t (k+1)];simp[h]
theorem VA:∀(zs:List α) (k:Nat),0<=ZG p zs k->∃i x,ZG p zs k=((k+i:Nat):Int)/\zs[i]?=some x/\p x=true/\∀j y,j<i->zs[j]?=some y->p y=false
 | [],k=>fun h=>by simp[ZG] at h
 | a::t,k=>fun h=>by
  unfold ZG at h ⊢
  by_cases ha:p a=true
  ·rw[if_pos ha];exact⟨0,a,by simp,rfl,ha,fun j _ hj=>absurd hj (Nat.not_lt_zero _)⟩
  ·rw[if_neg ha] at h ⊢;obtain⟨i,x,e,hx,hp,hf⟩:=VA t (k+1) h;refine⟨i+1,x,by rw[e];congr 1;omega,hx,hp,fun j y hj hy=>?_⟩
   cases j with
   | zero=>simp at hy;subst hy;simpa using ha
   | succ j=>exact hf j y (by omega) hy
end
structure Pk where
 lot:List UInt8
 q:List UInt8
 deriving DecidableEq
def Yb (id:List UInt8) (p:Pk):Bool:=p.lot==id
def isLt (id:List UInt8) (x:Lot):Bool:=x.id==id
def Y0 (a b:List UInt8):List UInt8:=if val a<val b then a else b
def SR (out:List Pk) (x:Lot):List UInt8:=
 if 0<=ZG (Yb x.id) out 0 then canon (val x.q-val ((out.getD (ZG (Yb x.id) out 0).toNat ⟨[],[]⟩).q)) else x.q
def nS (out:List Pk) (rem:List UInt8) (x:Lot) (most:List UInt8):List UInt8:=Y0 (Y0 most (SR out x)) rem
def Pg (out:List Pk) (x:Lot) (n:List UInt8):List Pk:=
 if 0<=ZG (Yb x.id) out 0 then out.set (ZG (Yb x.id) out 0).toNat ⟨(out.getD (ZG (Yb x.id) out 0).toNat ⟨[],[]⟩).lot,canon (val ((out.getD (ZG (Yb x.id) out 0).toNat ⟨[],[]⟩).q)+val n)⟩
 else out++[⟨x.id,canon (val n)⟩]
def YM (s:List Pk×List UInt8) (x:Lot) (most:List UInt8):List Pk×List UInt8:=
 if val (nS s.1 s.2 x most)<=0 then s else (Pg s.1 x (nS s.1 s.2 x most),canon (val s.2-val (nS s.1 s.2 x most)))
def Y3 (l:List Pk):Int:=(l.map (fun p=>val p.q)).sum
def Y4 (l:List Pk) (id:List UInt8):Int:=((l.filter (Yb id)).map (fun p=>val p.q)).sum
structure YC (own:List Lot) (Q:Int) (s:List Pk×List UInt8):Prop where
 sum:Y3 s.1+val s.2=Q
 rem:0<=val s.2
 can:s.2=canon (val s.2)
 pos:∀p∈s.1,0<val p.q/\p.q=canon (val p.q)
 nd:(s.1.map (·.lot)).Nodup
 mem:∀p∈s.1,∃x∈own,x.id=p.lot
theorem Tu:∀(l:List Pk),(∀p∈l,0<val p.q)->0<=Y3 l/\∀p∈l,val p.q<=Y3 l
 | [],_=>⟨Int.le_refl _,fun p hp=>by cases hp⟩
 | a::t,h=>by
  obtain⟨h1,h2⟩:=Tu t (fun p hp=>h p (List.mem_cons_of_mem _ hp))
  have ha:=h a List.mem_cons_self;have e:Y3 (a::t)=val a.q+Y3 t:=by simp[Y3]
  refine⟨by omega,fun p hp=>?_⟩
  rcases List.mem_cons.1 hp with rfl|hp
  ·omega
  ·have:=h2 p hp;omega
theorem AN (l:List Pk) (id:List UInt8) (h:∀p∈l,0<val p.q):0<=Y4 l id:=
 (Tu (l.filter (Yb id)) (fun p hp=>h p (List.mem_filter.1 hp).1)).1
theorem LI (a b:List Pk):Y3 (a++b)=Y3 a+Y3 b:=by simp[Y3]
theorem IR (a b:List Pk) (id:List UInt8):Y4 (a++b) id=Y4 a id+Y4 b id:=by simp[Y4]
theorem IS (p:Pk) (id:List UInt8):Y4 [p] id=if p.lot=id then val p.q else 0:=by
 unfold Y4
 by_cases h:p.lot=id
 ·simp[Yb,h]
 ·simp[Yb,h]
theorem G5 {l:List Pk} {i:Nat} {p:Pk} (h:l[i]?=some p) (u:Pk):l=l.take i++[p]++l.drop (i+1)/\l.set i u=l.take i++[u]++l.drop (i+1):=by
 obtain⟨hi,rfl⟩:=Lg.1 h;refine⟨?_,?_⟩
 ·rw[List.append_assoc,List.singleton_append,<-List.drop_eq_getElem_cons hi,List.take_append_drop]
 ·rw[List.set_eq_take_append_cons_drop,if_pos hi,List.append_assoc,List.singleton_append]
theorem Dj:∀{l:List Pk} {i:Nat} {p:Pk},(l.map (·.lot)).Nodup->l[i]?=some p->Y4 l p.lot=val p.q
 | [],i,p,_,h=>by simp at h
 | a::t,0,p,hn,h=>by
  simp at h;subst h;have hn':=List.nodup_cons.1 (by simpa using hn:(a.lot::t.map (·.lot)).Nodup)
  have e:t.filter (Yb a.lot)=[]:=by
   rw[List.filter_eq_nil_iff];intro x hx hc;refine hn'.1 (List.mem_map.2 ⟨x,hx,?_⟩);simpa [Yb] using hc
  unfold Y4;rw[List.filter_cons_of_pos (by simp[Yb]),e]
  simp
 | a::t,i+1,p,hn,h=>by
  have hn':=List.nodup_cons.1 (by simpa using hn:(a.lot::t.map (·.lot)).Nodup)
  have hp:t[i]?=some p:=by simpa using h
  have ih:=Dj hn'.2 hp;have hne:a.lot≠p.lot:=fun e=>hn'.1 (List.mem_map.2 ⟨p,Lm hp,e.symm⟩)
  unfold Y4 at ih ⊢;rw[List.filter_cons_of_neg (by simp[Yb,hne]),ih]
theorem Dk {l:List Pk} {id:List UInt8} (h:l.any (Yb id)=false):Y4 l id=0:=by
 unfold Y4
 have:l.filter (Yb id)=[]:=by
  rw[List.filter_eq_nil_iff];intro x hx hc;rw[List.any_eq_false] at h;exact h x hx hc
 rw[this];rfl
theorem LJ (a b:List UInt8):val (Y0 a b)<=val a/\val (Y0 a b)<=val b/\(val (Y0 a b)=val a∨val (Y0 a b)=val b):=by
 unfold Y0
 split
 ·exact⟨Int.le_refl _,by omega,.inl rfl⟩
 ·exact⟨by omega,Int.le_refl _,.inr rfl⟩
theorem Dl {out:List Pk} {x:Lot} (hn:(out.map (·.lot)).Nodup):val (SR out x)=val x.q-Y4 out x.id:=by
 unfold SR
 by_cases h:0<=ZG (Yb x.id) out 0
 ·rw[if_pos h,Zj];obtain⟨i,p,e,hp,hq,-⟩:=VA _ _ _ h;rw[e,Nat.zero_add,Int.toNat_natCast,List.getD_eq_getElem?_getD,hp];have e2:p.lot=x.id:=by simpa [Yb] using hq
  have:=Dj hn hp
  rw[e2] at this;simp[this]
 ·rw[if_neg h]
  have:out.any (Yb x.id)=false:=by
   cases hc:out.any (Yb x.id) with
   | false=>rfl
   | true=>exact absurd ((U7 _ _ 0).2 hc) h
  rw[Dk this];omega
theorem G6 {out:List Pk} {x:Lot} {n:List UInt8} (hn:(out.map (·.lot)).Nodup) (hp:∀p∈out,0<val p.q/\p.q=canon (val p.q)) (h0:0<val n) :
  Y3 (Pg out x n)=Y3 out+val n/\(∀id,Y4 (Pg out x n) id=Y4 out id+if x.id=id then val n else 0)/\(∀p∈Pg out x n,0<val p.q/\p.q=canon (val p.q))/\((Pg out x n).map (·.lot)).Nodup/\∀p∈Pg out x n,p.lot=x.id∨p∈out:=by
 unfold Pg
 by_cases h:0<=ZG (Yb x.id) out 0
 ·rw[if_pos h];obtain⟨i,p,e,hi,hq,-⟩:=VA _ _ _ h;have e2:p.lot=x.id:=by simpa [Yb] using hq
  rw[e,Nat.zero_add,Int.toNat_natCast,List.getD_eq_getElem?_getD,hi,Option.getD_some];obtain⟨s1,s2⟩:=G5 hi ⟨p.lot,canon (val p.q+val n)⟩;have hpp:=hp p (Lm hi);refine⟨?_,fun id=>?_,fun r hr=>?_,?_,fun r hr=>?_⟩
  ·rw[s2]
   conv=>rhs;rw[s1]
   simp only[LI];simp[Y3,Zj];omega
  ·rw[s2]
   conv=>rhs;rw[s1]
   simp only[IR,IS,e2]
   by_cases hid:x.id=id
   ·simp[hid,Zj];omega
   ·simp[hid]
  ·rcases List.mem_or_eq_of_mem_set hr with hr|rfl
   ·exact hp r hr
   ·rw[Zj];exact⟨by omega,rfl⟩
  ·have:(out.set i ⟨p.lot,canon (val p.q+val n)⟩).map (·.lot)=out.map (·.lot):=by
    rw[List.map_set];apply List.ext_getElem?;intro j;rw[List.getElem?_set]
    split
    ·rename_i hj;subst hj
     split
     ·simp[hi]
     ·rename_i hlt;simp at hlt;simp[List.getElem?_eq_none hlt]
    ·rfl
   rw[this];exact hn
  ·rcases List.mem_or_eq_of_mem_set hr with hr|rfl
   ·exact .inr hr
   ·exact .inl e2
 ·rw[if_neg h];have hany:out.any (Yb x.id)=false:=by
   cases hc:out.any (Yb x.id) with
   | false=>rfl
   | true=>exact absurd ((U7 _ _ 0).2 hc) h
  refine⟨?_,fun id=>?_,fun r hr=>?_,?_,fun r hr=>?_⟩
  ·rw[LI];simp[Y3,Zj]
  ·rw[IR,IS,Zj]
  ·rcases List.mem_append.1 hr with hr|hr
   ·exact hp r hr
   ·simp at hr;subst hr;rw[Zj];exact⟨h0,rfl⟩
  ·rw[List.map_append,List.nodup_append];refine⟨hn,by simp,fun a ha b hb hab=>?_⟩
   simp at hb;subst hb;subst hab;obtain⟨r,hr,e⟩:=List.mem_map.1 ha;rw[List.any_eq_false] at hany;exact hany r hr (by simp[Yb,e])
  ·rcases List.mem_append.1 hr with hr|hr
   ·exact .inr hr
   ·simp at hr;subst hr;exact .inl rfl
theorem ON {own:List Lot} {Q:Int} {s:List Pk×List UInt8} {x:Lot} (most:List UInt8) (h:YC own Q s) (hx:x∈own) :
  YC own Q (YM s x most)/\(∀id,Y4 s.1 id<=Y4 (YM s x most).1 id)/\val (YM s x most).2<=val s.2/\(val most=val x.q->val (YM s x most).2=0∨val x.q<=Y4 (YM s x most).1 x.id):=by
 have l1:=LJ (Y0 most (SR s.1 x)) s.2;have l2:=LJ most (SR s.1 x);have l3:=Dl (x:=x) h.nd;have l4:=AN s.1 x.id (fun p hp=>(h.pos p hp).1)
 have l5:=h.rem;obtain⟨n,hn⟩:∃n,n=nS s.1 s.2 x most:=⟨_,rfl⟩
 have hn':=hn;unfold nS at hn';rw[<-hn'] at l1;unfold YM;rw[<-hn]
 by_cases h0:val n<=0
 ·rw[if_pos h0];refine⟨h,fun _=>Int.le_refl _,Int.le_refl _,fun hm=>?_⟩
  omega
 ·rw[if_neg h0];obtain⟨p1,p2,p3,p4,p5⟩:=G6 (x:=x) (n:=n) h.nd h.pos (by omega)
  have hs:=h.sum;refine⟨⟨?_,?_,?_,p3,p4,fun p hp=>?_⟩,fun id=>?_,?_,fun hm=>?_⟩
  ·show Y3 (Pg s.1 x n)+val (canon (val s.2-val n))=Q;rw[p1,Zj];omega
  ·show 0<=val (canon (val s.2-val n));rw[Zj];omega
  ·show canon (val s.2-val n)=_;rw[Zj]
  ·rcases p5 p hp with e|hp
   ·exact⟨x,hx,e.symm⟩
   ·exact h.mem p hp
  ·show _<=Y4 (Pg s.1 x n) id;rw[p2]
   split<;>omega
  ·show val (canon (val s.2-val n))<=_;rw[Zj];omega
  ·show val (canon (val s.2-val n))=0∨val x.q<=Y4 (Pg s.1 x n) x.id;rw[p2,Zj,if_pos rfl];omega
def MF (own:List Lot):List Pk->List Pk×List UInt8->List Pk×List UInt8
 | [],s=>s
 | p::t,s=>MF own t (if 0<=ZG (isLt p.lot) own 0 then YM s (own.getD (ZG (isLt p.lot) own 0).toNat ⟨[],[],0,0,[],[],[]⟩) p.q else s)
def YN:List Lot->List Pk×List UInt8->List Pk×List UInt8
 | [],s=>s
 | x::t,s=>YN t (YM s x x.q)
theorem Qu {own:List Lot} {Q:Int}:∀(ps:List Pk) {s:List Pk×List UInt8},YC own Q s->YC own Q (MF own ps s)
 | [],_,h=>h
 | p::t,s,h=>by
  unfold MF
  by_cases hi:0<=ZG (isLt p.lot) own 0
  ·rw[if_pos hi];obtain⟨i,x,e,hx,-,-⟩:=VA _ _ _ hi;rw[e,Nat.zero_add,Int.toNat_natCast,List.getD_eq_getElem?_getD,hx,Option.getD_some];exact Qu t (ON p.q h (Lm hx)).1
  ·rw[if_neg hi];exact Qu t h
theorem LK {own:List Lot} {Q:Int}:∀(xs:List Lot) {s:List Pk×List UInt8},(∀x∈xs,x∈own)->YC own Q s->
  YC own Q (YN xs s)/\(∀id,Y4 s.1 id<=Y4 (YN xs s).1 id)/\val (YN xs s).2<=val s.2/\∀x∈xs,val (YN xs s).2=0∨val x.q<=Y4 (YN xs s).1 x.id
 | [],_,_,h=>⟨h,fun _=>Int.le_refl _,Int.le_refl _,fun x hx=>by cases hx⟩
 | x::t,s,hm,h=>by
  obtain⟨a1,a2,a3,a4⟩:=ON x.q h (hm x List.mem_cons_self);obtain⟨b1,b2,b3,b4⟩:=LK t (fun y hy=>hm y (List.mem_cons_of_mem _ hy)) a1
  unfold YN;refine⟨b1,fun id=>Int.le_trans (a2 id) (b2 id),Int.le_trans b3 a3,fun y hy=>?_⟩
  rcases List.mem_cons.1 hy with rfl|hy
  ·have:=a4 rfl
   have:=b2 y.id
   have:=b1.rem
   omega
  ·exact b4 y hy
def ZaO (l:List Lot):Int:=(l.map (fun x=>val x.q)).sum
theorem IT:∀(ids:List (List UInt8)),ids.Nodup->∀(out:List Pk),(∀p∈out,0<val p.q)->(ids.map (Y4 out)).sum<=Y3 out
 | [],_,out,h=>by simpa using (Tu out h).1
 | a::t,hn,out,h=>by
  have hn':=List.nodup_cons.1 hn;have ih:=IT t hn'.2 (out.filter (fun p=>!Yb a p)) (fun p hp=>h p (List.mem_filter.1 hp).1)
  have e1:∀id∈t,Y4 (out.filter (fun p=>!Yb a p)) id=Y4 out id:=fun id hid=>by
   unfold Y4;rw[List.filter_filter];congr 2;apply List.filter_congr;intro p _
   by_cases hp:p.lot=id
   ·have:id≠a:=fun e=>hn'.1 (e ▸ hid)
    simp[Yb,hp,this]
   ·simp[Yb,hp]
  have e2:Y3 out=Y4 out a+Y3 (out.filter (fun p=>!Yb a p)):=by
   clear ih e1 h
   induction out with
   | nil=>rfl
   | cons p r ih=>
    have e3:Y3 (p::r)=val p.q+Y3 r:=by simp[Y3]
    by_cases hp:Yb a p=true
    ·have:Y4 (p::r) a=val p.q+Y4 r a:=by simp[Y4,hp]
     rw[e3,this,List.filter_cons_of_neg (by simp[hp])];omega
    ·have:Y4 (p::r) a=Y4 r a:=by simp[Y4,hp]
     rw[e3,this,List.filter_cons_of_pos (by simpa using hp)]
     have:Y3 (p::r.filter (fun p=>!Yb a p))=val p.q+Y3 (r.filter (fun p=>!Yb a p)):=by simp[Y3]
     omega
  rw[List.map_cons,List.sum_cons,e2,<-List.map_congr_left e1];omega
theorem Dm {α:Type} {f g:α->Int}:∀(l:List α),(∀x∈l,f x<=g x)->(l.map f).sum<=(l.map g).sum
 | [],_=>Int.le_refl _
 | a::t,h=>by
  have:=Dm t (fun x hx=>h x (List.mem_cons_of_mem _ hx))
  have:=h a List.mem_cons_self
  simp;omega
theorem Dn {own xs:List Lot} {Q:Int} {s:List Pk×List UInt8} (hx:xs.Perm own) (hn:(own.map (·.id)).Nodup) (hq:Q<=ZaO own) (h:YC own Q s) :
  YC own Q (YN xs s)/\val (YN xs s).2=0/\Y3 (YN xs s).1=Q:=by
 obtain⟨b1,-,-,b4⟩:=LK xs (fun x hx'=>hx.subset hx') h
 have hs:=b1.sum
 by_cases h0:val (YN xs s).2=0
 ·exact⟨b1,h0,by omega⟩
 ·have h1:∀x∈own,val x.q<=Y4 (YN xs s).1 x.id:=fun x hx'=>(b4 x (hx.symm.subset hx')).resolve_left h0
  have h2:=Dm own h1;have h3:=IT (own.map (·.id)) hn (YN xs s).1 (fun p hp=>(b1.pos p hp).1)
  rw[List.map_map] at h3;have h4:ZaO own<=Y3 (YN xs s).1:=Int.le_trans h2 h3
  have:=b1.rem
  omega
def TD (w:World) (A:Option Addr) (ps:List Pk):Prop:=∀(i:Nat) (r:Pk),ps[i]?=some r->∃b o,A=some ⟨b,o,none⟩/\b<w.heap.size/\w.cell? ⟨b,o+i*2,none⟩=some (.string ⟨r.lot.toArray⟩)/\w.cell? ⟨b,o+i*2+1,none⟩=some (.string ⟨r.q.toArray⟩)
theorem TD.below {w w':World} {A:Option Addr} {rs:List Pk} (h:TD w A rs) (hb:Below w.heap.size w w'):TD w' A rs:=fun i t ht=>by
 obtain⟨b,o,hA,hl,h0,h1⟩:=h i t ht;exact⟨b,o,hA,Nat.lt_of_lt_of_le hl hb.size,(hb.cell (p:=⟨b,_,none⟩) hl).trans h0,(hb.cell (p:=⟨b,_,none⟩) hl).trans h1⟩
theorem TD.take {w:World} {A:Option Addr} {rs:List Pk} (h:TD w A rs) (k:Nat):TD w A (rs.take k):=fun i t ht=>by
 rw[List.getElem?_take] at ht
 split at ht
 ·exact h i t ht
 ·cases ht
theorem Zbo (f:Nat) (hcall:∀(args:Array Value) w,(callFunc f args).run Tryz.prog w=.ok (.enter f args) w) (p:Lot->Bool) (caps:Array Value) (A:Option Addr) (rs:List Lot) (n c:Nat) (w:World) (hn:rs.length=n) (hn2:n<=1000000000) (h:Vy w A rs)
  (hp:∀x∈rs,∀w',Below w.heap.size w w'->Calls Tryz.prog f (#[(Value.agg #[Value.string ⟨x.id.toArray⟩,Value.string ⟨x.ins.toArray⟩,Value.int .i64 x.acq,Value.int .i64 x.opn,Value.string ⟨x.q.toArray⟩,Value.string ⟨x.cost.toArray⟩,Value.string ⟨x.used.toArray⟩])]++caps) w' fun e w''=>e=.returned (.bool (p x))/\Below w'.heap.size w' w'') :
  Calls Tryz.prog 209 #[.slice A n c,.func (Fn.func f) #[] caps] w fun e w'=>e=.returned (.int .i64 (ZG p rs 0))/\Below w.heap.size w w':=by
 have HI:=Lh h;have HP:=Lh hp;have hn1:rs.length<=n:=by omega
 have hn3:n<=rs.length:=by omega
 obtain⟨Z,hZ⟩:∃Z,Z=ZG p rs 0:=⟨_,rfl⟩
 rw[<-hZ];have HZ:Hid (Z=ZG p (rs.drop 0) 0):=hZ;clear h hp hn hZ;go_enter Tryz.func209,Tryz.ntmps209;go_wp2_with fail
 go_loopw [8] (fun iv wr=>∃k:Nat,k<=n/\iv=.int .i64 (k:Int)/\Hid (Z=ZG p (rs.drop k) k)/\Below w.heap.size w wr) (fun iv _=>n-(intOf iv).toNat)
 case atStart=>exact⟨0,Nat.zero_le _,rfl,HZ.out,Below.refl _ _⟩
 case round=>
  clear HZ;obtain⟨k,hk,rfl,HK,hb⟩:=hrel
  by_cases hlt:k<n
  ·obtain⟨x,hx⟩:∃x,rs[k]?=some x:=⟨_,List.getElem?_eq_getElem (by omega)⟩
   obtain⟨b,o,rfl,hbs,hc0⟩:=(HI.out.below hb) k x hx;have HD:=Lh (VX p rs k x hx);have CP:=Lh (HP.out x (Lm hx) wr hb);have e1:decide (k<n)=true:=Dt hlt;clear hx;have p0:=hc0.c0;have p1:=hc0.c1;have p2:=hc0.c2;have p3:=hc0.c3;have p4:=hc0.c4;have p5:=hc0.c5;have p6:=hc0.c6;go_wp2_with fail
   with_reducible refine CP.out.mono ?_
   rintro e w2 ⟨rfl,hb2⟩;replace hb:=bto hb hb2;clear hb2 CP hc0 p0 p1 p2 p3 p4 p5 p6
   by_cases hq:p x=true
   ·have HV:Hid (Z=(k:Int)):=by show _=_;rw[HK.out,HD.out,if_pos hq]
    rw[hq];clear hq HK HD;go_wp2;go_ret;exact⟨ZH HV.out.symm,hb⟩
   ·have HV:Hid (Z=ZG p (rs.drop (k+1)) (k+1)):=by show _=_;rw[HK.out,HD.out,if_neg hq]
    rw[Yc hq];clear hq HK HD;go_wp2;go_roundw
    case rel=>exact⟨k+1,by omega,by go_num,HV,hb⟩
    case measure=>simp[intOf];omega
  ·have HV:Hid (Z = -1):=by show _=_;rw[HK.out,List.drop_of_length_le (by omega)];rfl
   have e1:decide (k<n)=false:=Df hlt;clear HK;go_wp2;go_ret;exact⟨ZH HV.out.symm,hb⟩
theorem Do (f:Nat) (hcall:∀(args:Array Value) w,(callFunc f args).run Tryz.prog w=.ok (.enter f args) w) (p:Pk->Bool) (caps:Array Value) (A:Option Addr) (rs:List Pk) (n c:Nat) (w:World) (hn:rs.length=n) (hn2:n<=1000000000) (h:TD w A rs)
  (hp:∀x∈rs,∀w',Below w.heap.size w w'->Calls Tryz.prog f (#[.agg #[.string ⟨x.lot.toArray⟩,.string ⟨x.q.toArray⟩]]++caps) w' fun e w''=>e=.returned (.bool (p x))/\Below w'.heap.size w' w'') :
  Calls Tryz.prog 163 #[.slice A n c,.func (Fn.func f) #[] caps] w fun e w'=>e=.returned (.int .i64 (ZG p rs 0))/\Below w.heap.size w w':=by
 have HI:=Lh h;have HP:=Lh hp;have hn1:rs.length<=n:=by omega
 have hn3:n<=rs.length:=by omega
 obtain⟨Z,hZ⟩:∃Z,Z=ZG p rs 0:=⟨_,rfl⟩
 rw[<-hZ];have HZ:Hid (Z=ZG p (rs.drop 0) 0):=hZ;clear h hp hn hZ;go_enter Tryz.func163,Tryz.ntmps163;go_wp2_with fail
 go_loopw [8] (fun iv wr=>∃k:Nat,k<=n/\iv=.int .i64 (k:Int)/\Hid (Z=ZG p (rs.drop k) k)/\Below w.heap.size w wr) (fun iv _=>n-(intOf iv).toNat)
 case atStart=>exact⟨0,Nat.zero_le _,rfl,HZ.out,Below.refl _ _⟩
 case round=>
  clear HZ;obtain⟨k,hk,rfl,HK,hb⟩:=hrel
  by_cases hlt:k<n
  ·obtain⟨x,hx⟩:∃x,rs[k]?=some x:=⟨_,List.getElem?_eq_getElem (by omega)⟩
   obtain⟨b,o,rfl,hbs,p0,p1⟩:=(HI.out.below hb) k x hx;have HD:=Lh (VX p rs k x hx);have CP:=Lh (HP.out x (Lm hx) wr hb);have e1:decide (k<n)=true:=Dt hlt;clear hx;go_wp2_with fail
   with_reducible refine CP.out.mono ?_
   rintro e w2 ⟨rfl,hb2⟩;replace hb:=bto hb hb2;clear hb2 CP p0 p1
   by_cases hq:p x=true
   ·have HV:Hid (Z=(k:Int)):=by show _=_;rw[HK.out,HD.out,if_pos hq]
    rw[hq];clear hq HK HD;go_wp2;go_ret;exact⟨ZH HV.out.symm,hb⟩
   ·have HV:Hid (Z=ZG p (rs.drop (k+1)) (k+1)):=by show _=_;rw[HK.out,HD.out,if_neg hq]
    rw[Yc hq];clear hq HK HD;go_wp2;go_roundw
    case rel=>exact⟨k+1,by omega,by go_num,HV,hb⟩
    case measure=>simp[intOf];omega
  ·have HV:Hid (Z = -1):=by show _=_;rw[HK.out,List.drop_of_length_le (by omega)];rfl
   have e1:decide (k<n)=false:=Df hlt;clear HK;go_wp2;go_ret;exact⟨ZH HV.out.symm,hb⟩
theorem SS {α:Type} (p:α->Bool) (rs:List α):decide (0<=ZG p rs 0)=rs.any p:=by
 have h:=U7 p rs 0
 by_cases g:0<=ZG p rs 0
 ·rw[Dt g,h.1 g]
 ·rw[Df g];cases hc:rs.any p with
  | false=>rfl
  | true=>exact absurd (h.2 hc) g
theorem ZaP (f:Nat) (hcall:∀(args:Array Value) w,(callFunc f args).run Tryz.prog w=.ok (.enter f args) w) (p:Pk->Bool) (caps:Array Value) (A:Option Addr) (rs:List Pk) (n c:Nat) (w:World) (hn:rs.length=n) (hn2:n<=1000000000) (h:TD w A rs)
  (hp:∀x∈rs,∀w',Below w.heap.size w w'->Calls Tryz.prog f (#[.agg #[.string ⟨x.lot.toArray⟩,.string ⟨x.q.toArray⟩]]++caps) w' fun e w''=>e=.returned (.bool (p x))/\Below w'.heap.size w' w'') :
  Calls Tryz.prog 159 #[.slice A n c,.func (Fn.func f) #[] caps] w fun e w'=>e=.returned (.bool (rs.any p))/\Below w.heap.size w w':=by
 have C1:=Lh (Do f hcall p caps A rs n c w hn hn2 h hp);have HV:=Lh (SS p rs);generalize ZG p rs 0=z at *;clear hn h hp;go_enter Tryz.func159,Tryz.ntmps159;go_wp2_with fail;refine C1.out.mono ?_;rintro e w2 ⟨rfl,hb⟩
 by_cases g:0<=z
 ·have e1:decide (0<=z)=true:=Dt g;go_wp2;go_ret;exact⟨by rw[<-HV.out,e1];rfl,hb⟩
 ·have e1:decide (0<=z)=false:=Df g;go_wp2;go_ret;exact⟨by rw[<-HV.out,e1];rfl,hb⟩
theorem Zbp (x:Lot) (bi:Nat) (id:List UInt8) (w:World) (h:Blk w bi #[.string ⟨id.toArray⟩]) :
  Calls Tryz.prog 210 #[(Value.agg #[Value.string ⟨x.id.toArray⟩,Value.string ⟨x.ins.toArray⟩,Value.int .i64 x.acq,Value.int .i64 x.opn,Value.string ⟨x.q.toArray⟩,Value.string ⟨x.cost.toArray⟩,Value.string ⟨x.used.toArray⟩]),.pointer (some ⟨bi,0,none⟩)] w fun e w'=>e=.returned (.bool (isLt id x))/\Below w.heap.size w w':=by
 have hb:=Zb w (.cells #[Value.string ⟨x.id.toArray⟩,Value.string ⟨x.ins.toArray⟩,Value.int .i64 x.acq,Value.int .i64 x.opn,Value.string ⟨x.q.toArray⟩,Value.string ⟨x.cost.toArray⟩,Value.string ⟨x.used.toArray⟩] 130);have x1:=Xh.new w x 130;have p0:=x1.c0;have p1:=(h.below hb).c 0;have HV:Hid (isLt id x=(x.id==id)):=rfl;have he:=Tn x.id id;generalize isLt id x=R at *;clear h x1;go_enter Tryz.func210,Tryz.ntmps210;go_wp2;go_ret;refine⟨Ya ?_,hb⟩;rw[HV.out]<;>first|exact he|rfl
theorem LL (args:Array Value) (w:World):(callFunc 210 args).run Tryz.prog w=.ok (.enter 210 args) w:=by kernel_rfl
def Dq (z:Int):Int:=if 0<=z then z else 0
theorem ZaQ {w:World} {A:Option Addr} {xs:List Lot} {n:Nat} (c:Nat) (id:List UInt8) (hn:xs.length=n) (hn2:n<=100000) (h:Vy w A xs) :
  Calls Tryz.prog 166 #[.slice A n c,.string ⟨id.toArray⟩] w fun e w'=>e=.returned (.tuple #[.int .i64 (Dq (ZG (isLt id) xs 0)),.bool (decide (0<=ZG (isLt id) xs 0))])/\Below w.heap.size w w':=by
 have hb:=Zb w (.cells #[.string ⟨id.toArray⟩] 9);have x1:=Lh (Blk.new w #[.string ⟨id.toArray⟩] 9);have C1:=Lh (Zbo _ LL (isLt id) #[.pointer (some ⟨w.heap.size,0,none⟩)] A xs n c _ hn (by omega) (h.below hb) (fun x _ w' hb'=>Zbp x w.heap.size id w' (x1.out.below hb')))
 generalize ZG (isLt id) xs 0=z at *;clear h hn x1;go_enter Tryz.func166,Tryz.ntmps166;go_wp2_with fail;refine C1.out.mono ?_;rintro e w2 ⟨rfl,hb2⟩;replace hb:=bto hb hb2;clear hb2 C1
 by_cases g:0<=z
 ·have e1:decide (0<=z)=true:=Dt g;have HZ:Hid (Dq z=z):=if_pos g;go_wp2;go_ret2;refine⟨?_,hb⟩;rw[HZ.out]
  first|rfl|(simp[g,Int.max_def];intro h;omega)
 ·have e1:decide (0<=z)=false:=Df g;have HZ:Hid (Dq z=0):=if_neg g;go_wp2;go_ret2;refine⟨?_,hb⟩;rw[HZ.out]
  first|rfl|(simp[e1,Int.max_def];intro h;omega)
theorem VY {l:List UInt8} (hl:l.length<=100000):Ret 161 #[.string ⟨l.toArray⟩] (.bool (decide (0<val l))):=fun w hG=>by
 have hb:=Below.refl w.heap.size w;have C1:=Lh (ZM (l:=l) (l':=[]) (by omega) (by decide) (show _=ZI (val l) 0 from rfl))
 have hz:=(LA (val l)).2.2.1;have HV:Hid (decide (0<ZI (val l) 0)=decide (0<val l)):=by show _=_;rw[decide_eq_decide];exact hz
 generalize ZI (val l) 0=c at *;generalize decide (0<val l)=R at *;clear hz;go_enter Tryz.func161,Tryz.ntmps161;go_wp2_with fail
 with_reducible refine (C1.out.of hG hb).mono ?_
 rintro e w1 ⟨rfl,hb1⟩;go_wp2;go_ret;exact⟨Ya HV.out,bto hb hb1⟩
theorem MG {a b:List UInt8} (ha:a.length<=100000) (hb0:b.length<=100000):Ret 165 #[.string ⟨a.toArray⟩,.string ⟨b.toArray⟩] (.string ⟨(Y0 a b).toArray⟩):=fun w hG=>by
 have hb:=Below.refl w.heap.size w;have C1:=Lh (ZM (l:=a) (l':=b) (by omega) (by omega) rfl)
 have hz:ZI (val a) (val b)<0↔val a<val b:=by
  unfold ZI
  split
  ·omega
  ·split<;>omega
 by_cases g:val a<val b
 ·have HV:Hid (Y0 a b=a):=if_pos g;have e1:ZI (val a) (val b)<0:=hz.2 g;generalize ZI (val a) (val b)=c at *;have e2:decide (c<0)=true:=Dt e1;clear hz g;go_enter Tryz.func165,Tryz.ntmps165;go_wp2_with fail
  with_reducible refine (C1.out.of hG hb).mono ?_
  rintro e w1 ⟨rfl,hb1⟩;go_wp2;go_ret;exact⟨congrArg Ending.returned (str_eq HV.out.symm),bto hb hb1⟩
 ·have HV:Hid (Y0 a b=b):=if_neg g;have e1:¬ZI (val a) (val b)<0:=fun h=>g (hz.1 h)
  generalize ZI (val a) (val b)=c at *;have e2:decide (c<0)=false:=Df e1;clear hz g;go_enter Tryz.func165,Tryz.ntmps165;go_wp2_with fail
  with_reducible refine (C1.out.of hG hb).mono ?_
  rintro e w1 ⟨rfl,hb1⟩;go_wp2;go_ret;exact⟨congrArg Ending.returned (str_eq HV.out.symm),bto hb hb1⟩
def LM (cs:Array Value) (qs:List Lot):Prop:=cs.toList.take (qs.length*7)=Yf qs/\qs.length*7<=cs.size
theorem VZ {α:Type} {xs:List α} {i:Nat} {x:α} (h:xs[i]?=some x):i<xs.length:=(Lg.1 h).1
theorem OO {w:World} {g i:Nat} {cs:Array Value} {qs:List Lot} {x:Lot} (h:LM cs qs) (hw:∀m,w.cell? ⟨g,m,none⟩=cs[m]?) (hx:qs[i]?=some x):w.rangeAt g (i*7) (lcs x):=fun j v hv=>by
 have hi:=VZ hx;have hj:j<7:=VZ hv;have h1:=Vq hx j hj;rw[hw,<-hv,<-h1,<-h.1,List.getElem?_take,if_pos (by omega),Array.getElem?_toList]
theorem OP {w:World} {g i:Nat} {cs:Array Value} {qs:List Lot} (h:LM cs qs) (hw:∀m,w.cell? ⟨g,m,none⟩=cs[m]?) (hf:∀m,w.frozen? ⟨g,m,none⟩=false) (hi:i<qs.length):w.there g (i*7) 7:=fun j hj=>by
 have:=h.2
 exact⟨by rw[hw,Array.getElem?_eq_getElem (by omega)];rfl,hf _⟩
theorem LM.set {i:Nat} {cs:Array Value} {qs:List Lot} (h:LM cs qs) (y:Lot) (hi:i<qs.length):LM (YR cs (i*7) (lcs y)) (qs.set i y):=by
 refine⟨?_,by rw[OI,List.length_set];exact h.2⟩
 rw[List.length_set];simp only[YR,lcs,Array.toList_setIfInBounds,List.take_set,h.1];exact Qs y hi
theorem YL.cs {w:World} {g:Nat} {qs:List Lot} (h:YL w g qs):∃cs,w.heap[g]?=some (.cells cs 130 (0,0))/\LM cs qs:=h
theorem YL.of {w:World} {g:Nat} {qs:List Lot} {cs:Array Value} (h:w.heap[g]?=some (.cells cs 130 (0,0))) (hc:LM cs qs):YL w g qs:=⟨cs,h,hc⟩
structure SAt (w0:World) (g:Nat) (xs:List Lot) (W:World) (ys:List Lot):Prop where
 row:YL W g ys
 perm:ys.Perm xs
 bw:Zl (fun k=>k=g) w0 W
theorem SAt.go {w0 W W':World} {g:Nat} {xs ys:List Lot} (h:SAt w0 g xs W ys) (hb:Below W.heap.size W W'):SAt w0 g xs W' ys:=
 ⟨h.row.below hb,h.perm,h.bw.trans (Zl.of_below hb)⟩
theorem SAt.len {w0 W:World} {g n:Nat} {xs ys:List Lot} (h:SAt w0 g xs W ys) (hn:xs.length=n):ys.length=n:=h.perm.length_eq.trans hn
theorem SAt.swap {w0 W W':World} {g i j:Nat} {xs ys:List Lot} {x y:Lot} {cs:Array Value} (h:SAt w0 g xs W ys) (hrc:LM cs ys) (hi:ys[i]?=some x) (hj:ys[j]?=some y)
  (hc:W'.heap[g]?=some (.cells (YR (YR cs (i*7) (lcs y)) (j*7) (lcs x)) 130 (0,0))) (hb:Zl (fun k=>k=g) W W'):SAt w0 g xs W' ((ys.set i y).set j x):=
 ⟨YL.of hc ((hrc.set y (VZ hi)).set x (by rw[List.length_set];exact VZ hj)),(GR hi hj).trans h.perm,h.bw.trans hb⟩
structure G7 (w0:World) (g:Nat) (xs:List Lot) (f:Nat) (caps:Array Value) (cf:Lot->Lot->Int):Prop where
 enter:∀args w,(callFunc f args).run Tryz.prog w=.ok (.enter f args) w
 cmp:∀W x y,Zl (fun k=>k=g) w0 W->x∈xs->y∈xs->Calls Tryz.prog f (#[(Value.agg #[Value.string ⟨x.id.toArray⟩,Value.string ⟨x.ins.toArray⟩,Value.int .i64 x.acq,Value.int .i64 x.opn,Value.string ⟨x.q.toArray⟩,Value.string ⟨x.cost.toArray⟩,Value.string ⟨x.used.toArray⟩]),(Value.agg #[Value.string ⟨y.id.toArray⟩,Value.string ⟨y.ins.toArray⟩,Value.int .i64 y.acq,Value.int .i64 y.opn,Value.string ⟨y.q.toArray⟩,Value.string ⟨y.cost.toArray⟩,Value.string ⟨y.used.toArray⟩])]++caps) W fun e w'=>e=.returned (.int .i64 (cf x y))/\Below W.heap.size W w'
theorem G7.at {w0 W W':World} {g i j f:Nat} {xs ys:List Lot} {caps:Array Value} {cf:Lot->Lot->Int} {x y:Lot} (H:G7 w0 g xs f caps cf) (h:SAt w0 g xs W ys) (hb:Below W.heap.size W W') (hi:ys[i]?=some x) (hj:ys[j]?=some y) :
  Calls Tryz.prog f (#[(Value.agg #[Value.string ⟨x.id.toArray⟩,Value.string ⟨x.ins.toArray⟩,Value.int .i64 x.acq,Value.int .i64 x.opn,Value.string ⟨x.q.toArray⟩,Value.string ⟨x.cost.toArray⟩,Value.string ⟨x.used.toArray⟩]),(Value.agg #[Value.string ⟨y.id.toArray⟩,Value.string ⟨y.ins.toArray⟩,Value.int .i64 y.acq,Value.int .i64 y.opn,Value.string ⟨y.q.toArray⟩,Value.string ⟨y.cost.toArray⟩,Value.string ⟨y.used.toArray⟩])]++caps) W' fun e w'=>e=.returned (.int .i64 (cf x y))/\Below W'.heap.size W' w':=
 H.cmp W' x y (h.bw.trans (Zl.of_below hb)) (h.perm.subset (Lm hi)) (h.perm.subset (Lm hj))
def Nr (cf:Lot->Lot->Int) (ys:List Lot):Prop:=∀(i:Nat) (x y:Lot),ys[i]?=some x->ys[i+1]?=some y->¬cf y x<0
theorem Ur (x:Lot):#[Value.string ⟨x.id.toArray⟩,Value.string ⟨x.ins.toArray⟩,Value.int .i64 x.acq,Value.int .i64 x.opn,Value.string ⟨x.q.toArray⟩,Value.string ⟨x.cost.toArray⟩,Value.string ⟨x.used.toArray⟩].all (·.oneCell')=true:=all_oneCell_toArray (cs:=lcs x) (fun v hv=>by
 simp only[lcs,List.mem_cons,List.not_mem_nil,or_false] at hv
 rcases hv with rfl|rfl|rfl|rfl|rfl|rfl|rfl<;>rfl)
theorem Tv:(Tryz.prog.info? 130).map (·.size)=some 7:=by kernel_rfl
def Zce (g:Nat) (l:List Nat):Nat->List Nat:=fun b=>if b=g then l else []
theorem AO {k:Nat} {z:Int} (hz:z=(k:Int)) (hk:k<=1000000):IntKind.i64.wrap z=(k:Int):=by
 subst hz;exact IntWalk.i64_in _ (by omega)
theorem WN.swapX {F':Fx} {g:Nat} {w w2:World} {X:Nat->Prop} (h:WN X w F' w2) (hX:∀k,X k->k=g):Zl (fun k=>k=g) w w2:=
 ⟨h.below.os,h.below.tape,h.below.output,h.below.size,fun k hk hn=>h.below.block k hk (fun hx=>hn (hX k hx))⟩
def ZcY (w0:World) (g:Nat) (xs ys:List Lot) (cf:Lot->Lot->Int) (e:Ending) (w':World):Prop:=e=.returned (.tuple #[])/\∃zs,SAt w0 g xs w' zs/\(Nr cf ys->zs=ys)
theorem ZcZ {w0 w:World} {g n c f:Nat} {caps:Array Value} {cf:Lot->Lot->Int} {xs ys:List Lot} (H:G7 w0 g xs f caps cf) (h:SAt w0 g xs w ys) (hn:xs.length=n) (hn2:n<=100000) (a b:Nat) (hab:a<=b) (hbn:b<=n) :
  Calls Tryz.prog 309 #[.slice (some ⟨g,0,none⟩) n c,.int .i64 (a:Int),.int .i64 (b:Int),.func (.func f) #[] caps] w (ZcY w0 g xs ys cf):=by
 have HS:=Lh h;have HN:=Lh hn;have hEn:=H.enter;have HZ:=Lh Tv;clear h hn;go_enter Tryz.func309,Tryz.ntmps309;go_wp2_with fail
 go_loopw [8,9] (fun iv _ wr=>∃(k:Nat) (zs:List Lot),k<=b+1/\a<k/\iv=.int .i64 (k:Int)/\Hid (SAt w0 g xs wr zs)/\Hid (Nr cf ys->zs=ys)) (fun iv _ _=>b+1-(intOf iv).toNat)
 case atStart=>exact⟨a+1,ys,by omega,by omega,by go_num,HS.out,fun _=>rfl⟩
 case round=>
  clear HS;obtain⟨k,zs,hk,hak,rfl,HS,HO⟩:=hrel
  by_cases hkb:k<b
  rotate_left
  ·have e1:decide (k<b)=false:=Df hkb;have e2:decide ((k:Int)<(b:Int))=false:=Df (by omega)
   go_wp2
   go_end0
   exact⟨rfl,zs,HS.out,HO.out⟩
  have e1:decide (k<b)=true:=Dt hkb;have e2:decide ((k:Int)<(b:Int))=true:=Dt (by omega)
  go_wp2_with fail;clear e1 e2
  rename World=>wo
  go_loopw [9] (fun jv wr=>∃(j:Nat) (zs':List Lot),j<=k/\a<=j/\jv=.int .i64 (j:Int)/\Hid (SAt w0 g xs wr zs')/\Hid (Nr cf ys->zs'=ys)) (fun jv _=>(intOf jv).toNat)
  case atStart=>exact⟨k,zs,Nl _,by omega,rfl,HS.out,HO.out⟩
  case round=>
   clear HS HO;obtain⟨j,zs',hjk,haj,rfl,HS,HO⟩:=hrel;have HR:=Lh HS.out.row
   by_cases hja:a<j
   rotate_left
   ·have e1:decide (a<j)=false:=Df hja;have e2:decide ((a:Int)<(j:Int))=false:=Df (by omega)
    go_wp2_with fail;refine Zt (by kernel_rfl) (by kernel_rfl) ?_
    iterate 4
     refine Zd _ (fun _=>rfl) (fun ρ wz hw=>by go_simp;try with_reducible rfl) ?_
     simp only[Act.put,StT,StZ,StS,Nat.reduceAdd]
    iterate 12
     refine YY (fun _=>rfl) ?_
     simp only[Act.put,StT,StZ,StS,Nat.reduceAdd]
    refine Zd _ (fun _=>rfl) (fun ρ wz hw=>by go_simp;try with_reducible rfl) ?_
    simp only[Act.put,StT,StZ,StS,Nat.reduceAdd];intro ρ wq hF;dsimp only;replace HS:=Lh (HS.out.go hF.below);clear hF HR e1 e2;go_wp2;go_roundw
    case rel=>exact⟨k+1,zs',by omega,by omega,by go_num,HS.out,HO.out⟩
    case measure=>simp[intOf];omega
   obtain⟨j1,hj1⟩:∃j1,j=j1+1:=⟨j-1,by omega⟩
   have hjn:j<n:=by omega
   have hj1n:j1<n:=by omega
   have hw1:IntKind.i64.wrap ((j:Int)-1)=(j1:Int):=AO (by omega) (by omega)
   have hl:zs'.length=n:=HS.out.len HN.out;obtain⟨y,hy⟩:∃y,zs'[j]?=some y:=⟨_,List.getElem?_eq_getElem (by omega)⟩
   obtain⟨x,hx⟩:∃x,zs'[j1]?=some x:=⟨_,List.getElem?_eq_getElem (by omega)⟩
   have e1:decide (a<j)=true:=Dt hja;have e2:decide ((a:Int)<(j:Int))=true:=Dt (by omega)
   have HC:Hid (Nr cf ys->¬cf y x<0):=fun ho=>by
    have ez:=HO.out ho;subst ez;exact ho j1 x y hx (by rw[<-hj1];exact hy)
   have HJ:=Lh hj1;clear hl hj1;go_wp2_with fail;refine Zt (by kernel_rfl) (by kernel_rfl) ?_
   iterate 7
    refine Zd _ (fun _=>rfl) (fun ρ wz hw=>by go_simp;try with_reducible rfl) ?_
    simp only[Act.put,StT,StZ,StS,Nat.reduceAdd]
   refine Zd (.pointer (some ⟨g,j*7,none⟩)) (fun _=>rfl) (fun ρ wz hw=>by go_simp;try with_reducible rfl) ?_
   simp only[Act.put,StT,StZ,StS,Nat.reduceAdd];refine Zd (.agg #[Value.string ⟨y.id.toArray⟩,Value.string ⟨y.ins.toArray⟩,Value.int .i64 y.acq,Value.int .i64 y.opn,Value.string ⟨y.q.toArray⟩,Value.string ⟨y.cost.toArray⟩,Value.string ⟨y.used.toArray⟩]) (fun _=>rfl) (fun ρ wz hw=>ZP 130 _ rfl g (j*7) rfl (lcs y) _ ((HR.out.below hw).range hy) Tryz.underlying130 rfl (by rw[HZ.out];rfl)) ?_
   iterate 2
    simp only[Act.put,StT,StZ,StS,Nat.reduceAdd];refine Zd _ (fun _=>rfl) (fun ρ wz hw=>by go_simp;try with_reducible rfl) ?_
   simp only[Act.put,StT,StZ,StS,Nat.reduceAdd];refine Zd (.int .i64 (j1:Int)) (fun _=>rfl) (fun ρ wz hw=>by go_simp;try with_reducible rfl) ?_
   simp only[Act.put,StT,StZ,StS,Nat.reduceAdd];refine Zd (.pointer (some ⟨g,j1*7,none⟩)) (fun _=>rfl) (fun ρ wz hw=>by go_simp;try with_reducible rfl) ?_
   simp only[Act.put,StT,StZ,StS,Nat.reduceAdd];refine Zd (.agg #[Value.string ⟨x.id.toArray⟩,Value.string ⟨x.ins.toArray⟩,Value.int .i64 x.acq,Value.int .i64 x.opn,Value.string ⟨x.q.toArray⟩,Value.string ⟨x.cost.toArray⟩,Value.string ⟨x.used.toArray⟩]) (fun _=>rfl) (fun ρ wz hw=>ZP 130 _ rfl g (j1*7) rfl (lcs x) _ ((HR.out.below hw).range hx) Tryz.underlying130 rfl (by rw[HZ.out];rfl)) ?_
   simp only[Act.put,StT,StZ,StS,Nat.reduceAdd];refine Zr _ _ _ (fun _=>rfl) (fun ρ wz hw=>by go_simp;try with_reducible rfl) (fun wz hw=>H.at HS.out hw hy hx) ?_
   iterate 2
    simp only[Act.put,StT,StZ,StS,Nat.reduceAdd];refine Zd _ (fun _=>rfl) (fun ρ wz hw=>by go_simp;try with_reducible rfl) ?_
   simp only[Act.put,StT,StZ,StS,Nat.reduceAdd];intro ρ wq hF;dsimp only;replace HS:=Lh (HS.out.go hF.below);clear hF HR e1 e2
   by_cases hc:cf y x<0
   rotate_left
   ·have e3:decide (cf y x<0)=false:=Df hc;clear HC;go_wp2;go_roundw
    case rel=>exact⟨k+1,zs',by omega,by omega,by go_num,HS.out,HO.out⟩
    case measure=>simp[intOf];omega
   have e3:decide (cf y x<0)=true:=Dt hc;go_wp2_with fail;clear e3;obtain⟨cs,hcs,hrc⟩:=HS.out.row.cs;obtain⟨F,hF⟩:∃F:Fx,F=fun k=>if k=g then some (.cells cs 130 (0,0)) else none:=⟨_,rfl⟩
   have fF:F g=some (.cells cs 130 (0,0)):=by rw[hF];exact if_pos rfl
   have hFF:∀b ob,F b=some ob->wq.heap[b]?=some ob:=fun b ob h=>by
    rw[hF] at h;dsimp only at h
    by_cases hg:b=g
    ·rw[if_pos hg] at h;rw[hg,hcs];exact h
    ·rw[if_neg hg] at h;cases h
   have hFX:∀k,F k≠none->k=g:=fun k hk=>by
    rw[hF] at hk;dsimp only at hk
    by_cases hg:k=g
    ·exact hg
    ·rw[if_neg hg] at hk;exact absurd rfl hk
   obtain⟨tch,htch⟩:∃tch,tch=Zce g [9,13,15,17]:=⟨_,rfl⟩
   unfold Zce at htch;have HFF:=Lh hFF;have HFX:=Lh hFX;clear hF hcs hFF hFX;refine Zw tch F (by kernel_rfl) (by kernel_rfl) (by kernel_rfl) HFF.out ?_
   refine Zi _ rfl (fun wz hw=>by go_simp;try with_reducible rfl) ?_
   simp only[Act.put,StT,StZ,StS,Nat.reduceAdd];refine Zi _ rfl (fun wz hw=>by go_simp;try with_reducible rfl) ?_
   simp only[Act.put,StT,StZ,StS,Nat.reduceAdd];refine Zi _ rfl (fun wz hw=>by go_simp;try with_reducible rfl) ?_
   simp only[Act.put,StT,StZ,StS,Nat.reduceAdd];refine Zi _ rfl (fun wz hw=>by go_simp;try with_reducible rfl) ?_
   simp only[Act.put,StT,StZ,StS,Nat.reduceAdd];refine Zi (.int .i64 (j1:Int)) rfl (fun wz hw=>by go_simp;try with_reducible rfl) ?_
   simp only[Act.put,StT,StZ,StS,Nat.reduceAdd];refine Zi _ rfl (fun wz hw=>by go_simp;try with_reducible rfl) ?_
   simp only[Act.put,StT,StZ,StS,Nat.reduceAdd];refine Zi _ rfl (fun wz hw=>by go_simp;try with_reducible rfl) ?_
   simp only[Act.put,StT,StZ,StS,Nat.reduceAdd];refine Zi (.int .i64 (j1:Int)) rfl (fun wz hw=>by go_simp;try with_reducible rfl) ?_
   simp only[Act.put,StT,StZ,StS,Nat.reduceAdd];refine Zi (.pointer (some ⟨g,j1*7,none⟩)) rfl (fun wz hw=>by go_simp;try with_reducible rfl) ?_
   simp only[Act.put,StT,StZ,StS,Nat.reduceAdd];refine Yp g cs 130 (.agg #[Value.string ⟨x.id.toArray⟩,Value.string ⟨x.ins.toArray⟩,Value.int .i64 x.acq,Value.int .i64 x.opn,Value.string ⟨x.q.toArray⟩,Value.string ⟨x.cost.toArray⟩,Value.string ⟨x.used.toArray⟩]) fF (by simp[htch]) rfl (fun wz hw hc=>ZP 130 _ rfl g (j1*7) rfl (lcs x) _ (OO hrc hc hx) Tryz.underlying130 rfl (by rw[HZ.out];rfl)) ?_
   simp only[Act.put,StT,StZ,StS,Nat.reduceAdd];refine Zi _ rfl (fun wz hw=>by go_simp;try with_reducible rfl) ?_
   simp only[Act.put,StT,StZ,StS,Nat.reduceAdd];refine Zi _ rfl (fun wz hw=>by go_simp;try with_reducible rfl) ?_
   simp only[Act.put,StT,StZ,StS,Nat.reduceAdd];refine Zi (.pointer (some ⟨g,j*7,none⟩)) rfl (fun wz hw=>by go_simp;try with_reducible rfl) ?_
   simp only[Act.put,StT,StZ,StS,Nat.reduceAdd];refine Yp g cs 130 (.agg #[Value.string ⟨y.id.toArray⟩,Value.string ⟨y.ins.toArray⟩,Value.int .i64 y.acq,Value.int .i64 y.opn,Value.string ⟨y.q.toArray⟩,Value.string ⟨y.cost.toArray⟩,Value.string ⟨y.used.toArray⟩]) fF (by simp[htch]) rfl (fun wz hw hc=>ZP 130 _ rfl g (j*7) rfl (lcs y) _ (OO hrc hc hy) Tryz.underlying130 rfl (by rw[HZ.out];rfl)) ?_
   simp only[Act.put,StT,StZ,StS,Nat.reduceAdd];refine Zi (.pointer (some ⟨g,j*7,none⟩)) rfl (fun wz hw=>by go_simp;try with_reducible rfl) ?_
   simp only[Act.put,StT,StZ,StS,Nat.reduceAdd];refine ZO g (j*7) cs (lcs x) 130 fF (by simp[htch]) (fun j oj hj=>Zq (l:=[9,13,15,17]) (by kernel_rfl) j oj (by simpa [htch] using hj)) rfl (fun wz hw hc hf=>Zn 130 _ _ rfl g (j*7) #[Value.string ⟨x.id.toArray⟩,Value.string ⟨x.ins.toArray⟩,Value.int .i64 x.acq,Value.int .i64 x.opn,Value.string ⟨x.q.toArray⟩,Value.string ⟨x.cost.toArray⟩,Value.string ⟨x.used.toArray⟩] rfl rfl (OP hrc hc hf (VZ hy)) (by rw[HZ.out];rfl) (Ur x)) ?_
   simp only[Act.put,Nat.reduceAdd];refine Zi (.pointer (some ⟨g,j1*7,none⟩)) rfl (fun wz hw=>by go_simp;try with_reducible rfl) ?_
   simp only[Act.put,StT,StZ,StS,Nat.reduceAdd];have fF2:(fun kb=>if kb=g then some (Obj.cells (YR cs (j*7) (lcs x)) 130 (0,0)) else F kb) g=some (.cells (YR cs (j*7) (lcs x)) 130 (0,0)):=if_pos rfl
   refine ZO g (j1*7) (YR cs (j*7) (lcs x)) (lcs y) 130 fF2 (by simp[htch]) (fun j oj hj=>Zq (l:=[9,13,15,17]) (by kernel_rfl) j oj (by simpa [htch] using hj)) rfl (fun wz hw hc hf=>Zn 130 _ _ rfl g (j1*7) #[Value.string ⟨y.id.toArray⟩,Value.string ⟨y.ins.toArray⟩,Value.int .i64 y.acq,Value.int .i64 y.opn,Value.string ⟨y.q.toArray⟩,Value.string ⟨y.cost.toArray⟩,Value.string ⟨y.used.toArray⟩] rfl rfl (OP (hrc.set x (VZ hy)) hc hf (by rw[List.length_set];exact VZ hx)) (by rw[HZ.out];rfl) (Ur y)) ?_
   simp only[Act.put,Nat.reduceAdd];refine ZY (fun w2 hF2=>?_)
   have hSw:=Lh (HS.out.swap (W':=w2) hrc hy hx (hF2.box g _ (if_pos rfl)) (hF2.swapX HFX.out));clear hF2 HFF HFX htch fF fF2 hrc HS;have HO2:Hid (Nr cf ys->(zs'.set j x).set j1 y=ys):=fun ho=>absurd hc (by have:=HC.out ho;omega)
   clear HO HC hc;go_wp2;go_roundw
   case rel=>exact⟨j1,_,by have:=HJ.out;omega,by have:=HJ.out;omega,(by first|rfl|go_num),hSw.out,HO2.out⟩
   case measure=>simp[intOf];have:=HJ.out;omega
def ZaR (w0:World) (g:Nat) (xs ys:List Lot) (n:Nat) (cf:Lot->Lot->Int) (e:Ending) (w':World):Prop:=e=.returned (.tuple #[])/\∃zs,SAt w0 g xs w' zs/\(n<=20->Nr cf ys->zs=ys)
def LN (rs:List (List UInt8)):Array Value:=(rs.map (fun r=>Value.string ⟨r.toArray⟩)).toArray
theorem PF {rs:List (List UInt8)} {i:Nat} {r:List UInt8} (h:rs[i]?=some r):(LN rs)[i]?=some (.string ⟨r.toArray⟩):=by unfold LN;simp[h]
theorem Zcf (bx br n c:Nat) (rs:List (List UInt8)) (i k:Nat) (ri rk:List UInt8) (w:World) (hG:ZQ w) (hbx:Blk w bx #[.slice (some ⟨br,0,none⟩) n c]) (hbr:Blk w br (LN rs)) (hi:rs[i]?=some ri) (hk:rs[k]?=some rk) (hn:rs.length=n) (hri:ri.length<=100000) (hrk:rk.length<=100000) :
  Calls Tryz.prog 292 #[.int .i64 i,.int .i64 k,.pointer (some ⟨bx,0,none⟩)] w fun e w'=>e=.returned (.int .i64 (orZ (ZI (val rk) (val ri)) (Pf i k)))/\Below w.heap.size w w':=by
 have C1:=Lh (ZM (l:=rk) (l':=ri) (by omega) (by omega) rfl)
 have C2:=Lh (fun w'=>ZcW (i:Int) (k:Int) w')
 have rie:=PF hi;have rke:=PF hk;have li:i<n:=by rw[<-hn];exact (Lg.1 hi).1
 have lk:k<n:=by rw[<-hn];exact (Lg.1 hk).1
 obtain⟨x,hx⟩:∃x,x=ZI (val rk) (val ri):=⟨_,rfl⟩
 obtain⟨y,hy⟩:∃y,y=Pf (i:Int) (k:Int):=⟨_,rfl⟩
 rw[<-hx] at C1 ⊢;rw[<-hy] at C2 ⊢;clear hi hk hri hrk hx hy hn;go_enter Tryz.func292,Tryz.ntmps292;go_wp2_with fail;refine Qm (by simp) (by simp) (by kernel_rfl) (by kernel_rfl) (by kernel_rfl) (by kernel_rfl) (by kernel_rfl) ?_
 simp only[List.dropLast_cons_cons,List.dropLast_singleton,List.getLast_cons_cons,List.getLast_singleton];refine Zd _ (fun _=>rfl) (fun ρ wz hw=>by have q0:wz.cell? ⟨bx,0,none⟩=some (.slice (some ⟨br,0,none⟩) n c):=(hbx.below hw).c 0;go_simp;try with_reducible rfl) ?_
 iterate 2
  simp only[Act.put,StT,StZ,StS,Nat.reduceAdd];refine Zd _ (fun _=>rfl) (fun ρ wz hw=>by go_simp;try with_reducible rfl) ?_
 simp only[Act.put,StT,StZ,StS,Nat.reduceAdd];refine Zd _ (fun _=>rfl) (fun ρ wz hw=>by have q0:wz.cell? ⟨br,k,none⟩=some (.string ⟨rk.toArray⟩):=((hbr.below hw).c k).trans rke;go_simp;try with_reducible rfl) ?_
 simp only[Act.put,StT,StZ,StS,Nat.reduceAdd];refine Zd _ (fun _=>rfl) (fun ρ wz hw=>by have q0:wz.cell? ⟨bx,0,none⟩=some (.slice (some ⟨br,0,none⟩) n c):=(hbx.below hw).c 0;go_simp;try with_reducible rfl) ?_
 iterate 2
  simp only[Act.put,StT,StZ,StS,Nat.reduceAdd];refine Zd _ (fun _=>rfl) (fun ρ wz hw=>by go_simp;try with_reducible rfl) ?_
 simp only[Act.put,StT,StZ,StS,Nat.reduceAdd];refine Zd _ (fun _=>rfl) (fun ρ wz hw=>by have q0:wz.cell? ⟨br,i,none⟩=some (.string ⟨ri.toArray⟩):=((hbr.below hw).c i).trans rie;go_simp;try with_reducible rfl) ?_
 simp only[Act.put,StT,StZ,StS,Nat.reduceAdd];refine Zr _ _ _ (fun _=>rfl) (fun ρ wz hw=>by go_simp;try with_reducible rfl) (fun wz hw=>C1.out.of hG hw) ?_
 iterate 2
  simp only[Act.put,StT,StZ,StS,Nat.reduceAdd];refine Zd _ (fun _=>rfl) (fun ρ wz hw=>by go_simp;try with_reducible rfl) ?_
 simp only[Act.put,StT,StZ,StS,Nat.reduceAdd];refine Zr _ _ _ (fun _=>rfl) (fun ρ wz hw=>by go_simp;try with_reducible rfl) (fun wz hw=>(C2.out wz).mono fun e w' h=>⟨h.1,h.2 ▸ Below.refl _ _⟩) ?_
 simp only[Act.put,StT,StZ,StS,Nat.reduceAdd];refine SH (fun b=>.slice (some ⟨b,0,none⟩) 2 2) _ rfl (fun _=>rfl) (fun ρ wz hw=>by go_simp;try with_reducible rfl) ?_
 simp only[Act.put,StT,StZ,StS,Nat.reduceAdd];intro ρ w2 hF;dsimp only;have hB:=(hF.box 12 _ _ rfl).2;have hb2:=hF.below;generalize ρ 12=bb at *;have h0:w2.cell? ⟨bb,0,none⟩=some (.int .i64 x):=Zg hB 0;have h1:w2.cell? ⟨bb,1,none⟩=some (.int .i64 y):=Zg hB 1;clear hF hB C1 C2;go_wp2_with fail
 with_reducible refine (Zbn bb x y w2 h0 h1).mono ?_
 rintro e w3 ⟨rfl,rfl⟩;go_wp2;go_ret;exact⟨rfl,hb2⟩
def JH (rs:List (List UInt8)) (i k:Nat):Int:=orZ (ZI (val (rs.getD k [])) (val (rs.getD i []))) (Pf i k)
theorem Dr (a b:Int):(a<b/\ZI a b = -1)∨(a=b/\ZI a b=0)∨(b<a/\ZI a b=1):=by
 unfold ZI
 split
 ·exact .inl ⟨‹_›,rfl⟩
 ·split
  ·exact .inr (.inr ⟨by omega,rfl⟩)
  ·exact .inr (.inl ⟨by omega,rfl⟩)
theorem AP (rs:List (List UInt8)) (i k:Nat):(JH rs i k<0)↔(val (rs.getD k [])<val (rs.getD i [])∨(val (rs.getD k [])=val (rs.getD i [])/\i<k)):=by
 unfold JH orZ;have h:=Dr (val (rs.getD k [])) (val (rs.getD i []));generalize ZI (val (rs.getD k [])) (val (rs.getD i []))=c at *;have h2:Pf (i:Int) (k:Int)<0↔i<k:=by
  unfold Pf
  split
  ·omega
  ·split<;>omega
 split
 ·rw[h2];omega
 ·omega
def Ys (f:List Int) (i:Nat):List Int:=f.take i++List.replicate (f.length-i) 0
theorem Se (f:List Int):Ys f 0=List.replicate f.length 0:=by simp[Ys]
theorem Qv (f:List Int) (i:Nat):(Ys f i).length=f.length:=by simp[Ys];omega
theorem Qw (f:List Int) (i:Nat) (h:f.length<=i):Ys f i=f:=by
 unfold Ys;rw[List.take_of_length_le h,Nat.sub_eq_zero_of_le h];simp
theorem SU {f:List Int} {i k:Nat} (h:k<i) (hk:k<f.length):(Ys f i)[k]?=f[k]?:=by
 unfold Ys;rw[List.getElem?_append_left (by rw[List.length_take];omega),List.getElem?_take_of_lt h]
theorem V0 {f:List Int} {i k:Nat} (h:i<=k) (hk:k<f.length):(Ys f i)[k]?=some 0:=by
 unfold Ys;rw[List.getElem?_append_right (by rw[List.length_take];omega),List.getElem?_replicate]
 rw[if_pos];rw[List.length_take];omega
theorem Qx {f:List Int} {i:Nat} {x:Int} (h:f[i]?=some x):(Ys f i).set i x=Ys f (i+1):=by
 obtain⟨hi,hx⟩:=Lg.1 h;apply List.ext_getElem?;intro k
 by_cases hk:k<f.length
 ·by_cases h1:k=i
  ·subst h1;rw[List.getElem?_set_self (by rw[Qv];exact hi),SU (Nat.lt_succ_self _) hi,h]
  ·rw[List.getElem?_set_ne (Ne.symm h1)]
   by_cases h2:k<i
   ·rw[SU h2 hk,SU (Nat.lt_succ_of_lt h2) hk]
   ·rw[V0 (by omega) hk,V0 (by omega) hk]
 ·rw[List.getElem?_eq_none (by rw[List.length_set,Qv];omega),List.getElem?_eq_none (by rw[Qv];omega)]
def WX (T S:Int) (ws:List Int):List Int:=ws.map fun w=>T*w / S
def VH (T S:Int) (ws:List Int):List Int:=ws.map fun w=>T*w % S
theorem IU (T S:Int):∀ws:List Int,T*ws.sum=S*(WX T S ws).sum+(VH T S ws).sum
 | []=>by simp[WX,VH]
 | w::t=>by
  have ih:=IU T S t;have h:=Int.mul_ediv_add_emod (T*w) S;simp only[WX,VH,List.map_cons,List.sum_cons,Int.mul_add] at *;omega
theorem Ds (T S:Int) (hS:0<S):∀ws:List Int,0<=(VH T S ws).sum/\(VH T S ws).sum+ws.length<=S*ws.length
 | []=>by simp[VH]
 | w::t=>by
  have ih:=Ds T S hS t;have h1:=Int.emod_nonneg (T*w) (Int.ne_of_gt hS);have h2:=Int.emod_lt_of_pos (T*w) hS;simp only[VH,List.map_cons,List.sum_cons,List.length_cons] at *;have h3:S*((t.length+1:Nat):Int)=S*(t.length:Int)+S:=by rw[Int.natCast_add,Int.mul_add];simp
  rw[h3];omega
theorem IV (T:Int) (ws:List Int) (hS:0<ws.sum):0<=T-(WX T ws.sum ws).sum/\T-(WX T ws.sum ws).sum<ws.length:=by
 have h1:=IU T ws.sum ws;have h2:=Ds T ws.sum hS ws;have hne:ws≠[]:=fun e=>by subst e;simp at hS
 have hl:0<(ws.length:Int):=by
  have:=List.length_pos_iff.2 hne
  omega
 generalize (WX T ws.sum ws).sum=F at *;generalize (VH T ws.sum ws).sum=R at *;generalize ws.sum=S at *;generalize (ws.length:Int)=n at *;have e:S*(T-F)=R:=by rw[Int.mul_sub,Int.mul_comm S T];omega
 constructor
 ·rcases Int.lt_or_le (T-F) 0 with h|h
  ·have:S*(T-F)<0:=Int.mul_neg_of_pos_of_neg hS h
   omega
  ·exact h
 ·rcases Int.lt_or_le (T-F) n with h|h
  ·exact h
  ·have:=Int.mul_le_mul_of_nonneg_left h (Int.le_of_lt hS)
   omega
def bump (ps:List Int) (i:Nat):List Int:=ps.modify i (· + 1)
def WE (ps:List Int) (js:List Nat):List Int:=js.foldl bump ps
theorem LO (ps:List Int) (i:Nat):(bump ps i).length=ps.length:=by simp[bump]
theorem NP:∀(js:List Nat) (ps:List Int),(WE ps js).length=ps.length
 | [],_=>rfl
 | j::t,ps=>by show (WE (bump ps j) t).length=_;rw[NP t,LO]
theorem JI (ps:List Int) (js:List Nat) (j:Nat):WE ps (js++[j])=bump (WE ps js) j:=by simp[WE]
theorem Du {ps:List Int} {i:Nat} {x:Int} (h:ps[i]?=some x):ps.set i (x+1)=bump ps i:=by
 unfold bump;obtain⟨hi,hx⟩:=Lg.1 h;apply List.ext_getElem?;intro k
 by_cases h1:k=i
 ·subst h1;rw[List.getElem?_set_self hi,List.getElem?_modify_eq,h];rfl
 ·rw[List.getElem?_set_ne (Ne.symm h1),List.getElem?_modify_ne _ _ (Ne.symm h1)]
theorem AQ (ps:List Int) (i k:Nat):(bump ps i)[k]?=(ps[k]?).map fun x=>x+(if k=i then 1 else 0):=by
 unfold bump
 by_cases h1:k=i
 ·subst h1;rw[List.getElem?_modify_eq];cases ps[k]?<;>simp
 ·rw[List.getElem?_modify_ne _ _ (Ne.symm h1)];cases ps[k]?<;>simp[h1]
theorem SX:∀(js:List Nat) (ps:List Int) (k:Nat),(WE ps js)[k]?=(ps[k]?).map fun x=>x+(js.count k:Int)
 | [],ps,k=>by simp[WE]
 | j::t,ps,k=>by
  show (WE (bump ps j) t)[k]?=_;rw[SX t,AQ];cases ps[k]? with
  | none=>rfl
  | some x=>
   simp only[Option.map_some,List.count_cons];congr 1
   by_cases h:k=j
   ·subst h;simp;omega
   ·have:(j==k)=false:=by rw[Bn];exact Ne.symm h
    simp[h,this]
theorem LP:∀(ps:List Int) (i:Nat),i<ps.length->(bump ps i).sum=ps.sum+1
 | [],_,h=>by simp at h
 | p::t,0,_=>by simp[bump];omega
 | p::t,i+1,h=>by
  have ih:=LP t i (by simpa using h)
  unfold bump at *;simp only[List.modify_succ_cons,List.sum_cons,ih];omega
theorem NQ:∀(js:List Nat) (ps:List Int),(∀j∈js,j<ps.length)->(WE ps js).sum=ps.sum+js.length
 | [],ps,_=>by simp[WE]
 | j::t,ps,h=>by
  show (WE (bump ps j) t).sum=_;rw[NQ t _ (fun x hx=>by rw[LO];exact h x (List.mem_cons_of_mem _ hx)),LP _ _ (h j List.mem_cons_self)]
  simp;omega
structure OQ (T:Int) (ws ps:List Int):Prop where
 len:ps.length=ws.length
 sum:ps.sum=T
 at':∀k:Nat,ps[k]?=(WX T ws.sum ws)[k]?∨ps[k]?=((WX T ws.sum ws)[k]?).map (· + 1)
 ord:∀i k:Nat,i<ws.length->k<ws.length->ps[i]?=((WX T ws.sum ws)[i]?).map (· + 1)->ps[k]?=(WX T ws.sum ws)[k]?->
  (VH T ws.sum ws).getD k 0<(VH T ws.sum ws).getD i 0∨((VH T ws.sum ws).getD k 0=(VH T ws.sum ws).getD i 0/\i<k)
theorem Dv (T:Int) (ws:List Int) (hS:0<ws.sum) (js:List Nat) (hp:js.Perm (List.range ws.length))
  (hs:js.Pairwise fun i k=>(VH T ws.sum ws).getD k 0<(VH T ws.sum ws).getD i 0∨((VH T ws.sum ws).getD k 0=(VH T ws.sum ws).getD i 0/\i<k)) :
  OQ T ws (WE (WX T ws.sum ws) (js.take (T-(WX T ws.sum ws).sum).toNat)):=by
 obtain⟨m0,m1⟩:=IV T ws hS;have hl:(WX T ws.sum ws).length=ws.length:=by simp[WX]
 have hjl:js.length=ws.length:=by rw[hp.length_eq,List.length_range]
 have hnd:js.Nodup:=hp.nodup_iff.2 List.nodup_range;have hmem:∀j,j∈js↔j<ws.length:=fun j=>by rw[hp.mem_iff,List.mem_range]
 obtain⟨M,hM⟩:∃M,M=(T-(WX T ws.sum ws).sum).toNat:=⟨_,rfl⟩
 rw[<-hM];have hcnt:∀k,(js.take M).count k=if k∈js.take M then 1 else 0:=fun k=>(hnd.sublist (List.take_sublist M js)).count
 refine⟨by rw[NP,hl],?_,fun k=>?_,fun i k hi hk h1 h2=>?_⟩
 ·rw[NQ _ _ (fun j hj=>by rw[hl];exact (hmem j).1 (List.mem_of_mem_take hj)),List.length_take,hjl]
  omega
 ·rw[SX,hcnt]
  split
  ·right;cases (WX T ws.sum ws)[k]?<;>rfl
  ·left;cases (WX T ws.sum ws)[k]?<;>simp
 ·rw[SX,hcnt] at h1 h2;have gi:∃x,(WX T ws.sum ws)[i]?=some x:=⟨_,List.getElem?_eq_getElem (by omega)⟩
  have gk:∃x,(WX T ws.sum ws)[k]?=some x:=⟨_,List.getElem?_eq_getElem (by omega)⟩
  obtain⟨x,hx⟩:=gi;obtain⟨y,hy⟩:=gk;rw[hx] at h1;rw[hy] at h2;simp only[Option.map_some,Option.some.injEq] at h1 h2;have mi:i∈js.take M:=by
   by_cases h:i∈js.take M
   ·exact h
   ·rw[if_neg h] at h1;simp at h1;omega
  have mk:k∈js.drop M:=by
   by_cases h:k∈js.take M
   ·rw[if_pos h] at h2;simp at h2;omega
   ·have:k∈js.take M++js.drop M:=by rw[List.take_append_drop];exact (hmem k).2 hk
    rcases List.mem_append.1 this with h3|h3
    ·exact absurd h3 h
    ·exact h3
  have hs2:=hs;rw[<-List.take_append_drop M js] at hs2;exact (List.pairwise_append.1 hs2).2.2 i mi k mk
theorem MH (n:Nat):(List.finRange n).map Fin.val=List.range n:=by
 apply List.ext_getElem<;>simp
theorem TT {α:Type} (a:Array α) (n:Nat) (h:a.size=n):a.extract 0 n=a:=by subst h;simp
def Ph (R:Nat->Int) (x y:Nat):Prop:=R y<R x∨(R y=R x/\x<y)
theorem Dw {n:Nat} (R:Nat->Int) (lt:Fin n->Fin n->Bool) (hlt:∀x y,lt x y=true↔Ph R x y):Go.Sort.SWO lt:=by
 have hf:∀x y,lt x y=false↔¬Ph R x y:=fun x y=>by rw[<-hlt];cases lt x y<;>simp
 refine⟨fun x=>(hf x x).2 ?_,fun x y z h1 h2=>?_,fun x y z h1 h2=>?_⟩
 ·unfold Ph;omega
 ·rw[hlt] at *;unfold Ph at *;omega
 ·rw[hf] at *;unfold Ph at *;omega
theorem Zcg {n:Nat} [Inhabited (Fin n)] (R:Nat->Int) (lt:Fin n->Fin n->Bool) (hlt:∀x y,lt x y=true↔Ph R x y) (d':Array (Fin n))
  (hp:Go.Sort.PermIn 0 n (List.finRange n).toArray d') (hs:Go.Sort.SortedIn lt 0 n d') :
  (d'.toList.map Fin.val).Perm (List.range n)/\(d'.toList.map Fin.val).Pairwise (Ph R):=by
 have hf:∀x y,lt x y=false↔¬Ph R x y:=fun x y=>by rw[<-hlt];cases lt x y<;>simp
 obtain⟨hz,-,hp⟩:=hp;have hz:d'.size=n:=by simpa using hz
 have e1:d'.extract 0 n=d':=TT _ _ hz;have e2:(List.finRange n).toArray.extract 0 n=(List.finRange n).toArray:=TT _ _ (by simp)
 rw[e1,e2] at hp;have hp2:(d'.toList.map Fin.val).Perm (List.range n):=by
  rw[<-MH];exact hp.map _
 refine⟨hp2,?_⟩;have hnd:(d'.toList.map Fin.val).Nodup:=hp2.nodup_iff.2 List.nodup_range;rw[List.pairwise_iff_getElem];intro i j hi hj hij;have hj2:j<d'.size:=by simpa using hj
 have hi2:i<d'.size:=by simpa using hi
 have h1:=hs i j (Nat.zero_le _) hij (by omega)
 rw[getElem!_pos d' i hi2,getElem!_pos d' j hj2,hf] at h1;have h2:(d'.toList.map Fin.val)[i]≠(d'.toList.map Fin.val)[j]:=fun e=>by
  have:=(List.getElem_inj hnd).1 e
  omega
 simp only[List.getElem_map,Array.getElem_toList] at h2 ⊢;unfold Ph at *;omega
end Go.Proofs.YtpieeldbamklkaaGreatDoor
namespace Go.Proofs
open Go.Shelf
def Tryz.laysC174_ren:Go.Shelf.Ren:=⟨fun|174=>321|247=>330|245=>195|287=>194|279=>253|280=>254|281=>255|282=>256|321=>251|322=>252|316=>299|171=>140|205=>300|243=>203|246=>267|283=>258|284=>259|285=>260|286=>261|129=>302|317=>301|318=>303|319=>304|320=>305|337=>326|338=>327|n=>n,fun|9=>9|3=>3|2=>2|75=>209|85=>388|4=>4|167=>327|5=>5|53=>207|175=>210|46=>283|168=>329|37=>214|0=>0|210=>374|21=>21|127=>289|145=>394|143=>392|171=>334|173=>337|212=>378|51=>339|20=>20|213=>379|232=>410|233=>411|80=>222|n=>n,fun|15=>0|16=>1|17=>2|18=>6|19=>7|n=>n⟩
theorem Tryz.laysC174:Go.Proofs.LaysC.n174 Tryz.prog Tryz.laysC174_ren:={
 mixed:=by kernel_rfl
 f129:=Tryz.func302.trans (congrArg some (by kernel_rfl))
 f171:=Tryz.func140.trans (congrArg some (by kernel_rfl))
 f174:=Tryz.func321.trans (congrArg some (by kernel_rfl))
 f205:=Tryz.func300.trans (congrArg some (by kernel_rfl))
 f243:=Tryz.func203.trans (congrArg some (by kernel_rfl))
 f245:=Tryz.func195.trans (congrArg some (by kernel_rfl))
 f246:=Tryz.func267.trans (congrArg some (by kernel_rfl))
 f247:=Tryz.func330.trans (congrArg some (by kernel_rfl))
 f279:=Tryz.func253.trans (congrArg some (by kernel_rfl))
 f280:=Tryz.func254.trans (congrArg some (by kernel_rfl))
 f281:=Tryz.func255.trans (congrArg some (by kernel_rfl))
 f282:=Tryz.func256.trans (congrArg some (by kernel_rfl))
 f283:=Tryz.func258.trans (congrArg some (by kernel_rfl))
 f284:=Tryz.func259.trans (congrArg some (by kernel_rfl))
 f285:=Tryz.func260.trans (congrArg some (by kernel_rfl))
 f286:=Tryz.func261.trans (congrArg some (by kernel_rfl))
 f287:=Tryz.func194.trans (congrArg some (by kernel_rfl))
 f316:=Tryz.func299.trans (congrArg some (by kernel_rfl))
 f317:=Tryz.func301.trans (congrArg some (by kernel_rfl))
 f318:=Tryz.func303.trans (congrArg some (by kernel_rfl))
 f319:=Tryz.func304.trans (congrArg some (by kernel_rfl))
 f320:=Tryz.func305.trans (congrArg some (by kernel_rfl))
 f321:=Tryz.func251.trans (congrArg some (by kernel_rfl))
 f322:=Tryz.func252.trans (congrArg some (by kernel_rfl))
 f337:=Tryz.func326.trans (congrArg some (by kernel_rfl))
 f338:=Tryz.func327.trans (congrArg some (by kernel_rfl))
 t0:=Tryz.underlying0
 a0:=Tryz.isAgg0
 z0:=Tryz.sizeOf0
 v0:=Tryz.zeroValue0
 t2:=Tryz.underlying2
 a2:=Tryz.isAgg2
 z2:=Tryz.sizeOf2
 v2:=Tryz.zeroValue2
 t3:=Tryz.underlying3
 a3:=Tryz.isAgg3
 z3:=Tryz.sizeOf3
 v3:=Tryz.zeroValue3
 t4:=Tryz.underlying4
 a4:=Tryz.isAgg4
 z4:=Tryz.sizeOf4
 v4:=Tryz.zeroValue4
 t5:=Tryz.underlying5
 a5:=Tryz.isAgg5
 z5:=Tryz.sizeOf5
 v5:=Tryz.zeroValue5
 t9:=Tryz.underlying9
 a9:=Tryz.isAgg9
 z9:=Tryz.sizeOf9
 v9:=Tryz.zeroValue9
 t20:=Tryz.underlying20
 a20:=Tryz.isAgg20
 z20:=Tryz.sizeOf20
 v20:=Tryz.zeroValue20
 t21:=Tryz.underlying21
 a21:=Tryz.isAgg21
 z21:=Tryz.sizeOf21
 v21:=Tryz.zeroValue21
 t37:=Tryz.underlying214
 a37:=Tryz.isAgg214
 z37:=Tryz.sizeOf214
 v37:=Tryz.zeroValue214
 t46:=Tryz.underlying283
 a46:=Tryz.isAgg283
 z46:=Tryz.sizeOf283
 v46:=Tryz.zeroValue283
 t51:=Tryz.underlying339
 a51:=Tryz.isAgg339
 z51:=Tryz.sizeOf339
 v51:=Tryz.zeroValue339
 t53:=Tryz.underlying207
 a53:=Tryz.isAgg207
 z53:=Tryz.sizeOf207
 v53:=Tryz.zeroValue207
 t75:=Tryz.underlying209
 a75:=Tryz.isAgg209
 z75:=Tryz.sizeOf209
 v75:=Tryz.zeroValue209
 t85:=Tryz.underlying388
 a85:=Tryz.isAgg388
 z85:=Tryz.sizeOf388
 v85:=Tryz.zeroValue388
 t127:=Tryz.underlying289
 a127:=Tryz.isAgg289
 z127:=Tryz.sizeOf289
 v127:=Tryz.zeroValue289
 t143:=Tryz.underlying392
 a143:=Tryz.isAgg392
 z143:=Tryz.sizeOf392
 v143:=Tryz.zeroValue392
 t145:=Tryz.underlying394
 a145:=Tryz.isAgg394
 z145:=Tryz.sizeOf394
 v145:=Tryz.zeroValue394
 t167:=Tryz.underlying327
 a167:=Tryz.isAgg327
 z167:=Tryz.sizeOf327
 v167:=Tryz.zeroValue327
 t168:=Tryz.underlying329
 a168:=Tryz.isAgg329
 z168:=Tryz.sizeOf329
 v168:=Tryz.zeroValue329
 t171:=Tryz.underlying334
 a171:=Tryz.isAgg334
 z171:=Tryz.sizeOf334
 v171:=Tryz.zeroValue334
 t173:=Tryz.underlying337
 a173:=Tryz.isAgg337
 z173:=Tryz.sizeOf337
 v173:=Tryz.zeroValue337
 t175:=Tryz.underlying210
 a175:=Tryz.isAgg210
 z175:=Tryz.sizeOf210
 v175:=Tryz.zeroValue210
 t210:=Tryz.underlying374
 a210:=Tryz.isAgg374
 z210:=Tryz.sizeOf374
 v210:=Tryz.zeroValue374
 t212:=Tryz.underlying378
 a212:=Tryz.isAgg378
 z212:=Tryz.sizeOf378
 v212:=Tryz.zeroValue378
 t213:=Tryz.underlying379
 a213:=Tryz.isAgg379
 z213:=Tryz.sizeOf379
 t232:=Tryz.underlying410
 a232:=Tryz.isAgg410
 z232:=Tryz.sizeOf410
 v232:=Tryz.zeroValue410
 t233:=Tryz.underlying411
 a233:=Tryz.isAgg411
 z233:=Tryz.sizeOf411
 v233:=Tryz.zeroValue411
 g15:=by kernel_rfl
 g16:=by kernel_rfl
 g17:=by kernel_rfl
 g18:=by kernel_rfl
 g19:=by kernel_rfl
 t80:=Tryz.underlying222
 a80:=Tryz.isAgg222
 z80:=Tryz.sizeOf222
 v80:=Tryz.zeroValue222
 i0:=by kernel_rfl
 i2:=by kernel_rfl
 i3:=by kernel_rfl
 i4:=by kernel_rfl
 i5:=by kernel_rfl
 i9:=by kernel_rfl
 i20:=by kernel_rfl
 i21:=by kernel_rfl
 i37:=by kernel_rfl
 i46:=by kernel_rfl
 i51:=by kernel_rfl
 i53:=by kernel_rfl
 i75:=by kernel_rfl
 i80:=by kernel_rfl
 i85:=by kernel_rfl
 i127:=by kernel_rfl
 i143:=by kernel_rfl
 i145:=by kernel_rfl
 i167:=by kernel_rfl
 i168:=by kernel_rfl
 i171:=by kernel_rfl
 i173:=by kernel_rfl
 i175:=by kernel_rfl
 i210:=by kernel_rfl
 i212:=by kernel_rfl
 i232:=by kernel_rfl
 i233:=by kernel_rfl
 m15:=by kernel_rfl
 m16:=by kernel_rfl
 m17:=by kernel_rfl
 m18:=by kernel_rfl
 m19:=by kernel_rfl
 c0:=by kernel_rfl
 c2:=by kernel_rfl
 c3:=by kernel_rfl
 c4:=by kernel_rfl
 c5:=by kernel_rfl
 c9:=by kernel_rfl
 c20:=by kernel_rfl
 c21:=by kernel_rfl
 c37:=by kernel_rfl
 c46:=by kernel_rfl
 c51:=by kernel_rfl
 c53:=by kernel_rfl
 c75:=by kernel_rfl
 c80:=by kernel_rfl
 c85:=by kernel_rfl
 c127:=by kernel_rfl
 c143:=by kernel_rfl
 c145:=by kernel_rfl
 c167:=by kernel_rfl
 c168:=by kernel_rfl
 c171:=by kernel_rfl
 c173:=by kernel_rfl
 c175:=by kernel_rfl
 c210:=by kernel_rfl
 c212:=by kernel_rfl
 c213:=by kernel_rfl
 c232:=by kernel_rfl
 c233:=by kernel_rfl }
open Go.RowKit in
theorem Tryz.strconv_ParseInt_10_at64_ok (s:ByteArray) (hmax:s.size<=9223372036854775806) (v:Int) (h:Lib.parseIntB 64 s.data.toList=.ok v) (w:World) :
  Calls Tryz.prog 321 #[.string s,.int .i64 10,.int .i64 64] w fun e w'=>e=.returned (.tuple #[.int .i64 v,.nilIface])/\(w'=w∨∃t,w'=Lib.bytesWorld w 5 t):=Any.strconv_ParseInt_10_at64_ok Tryz.laysC174 s hmax v h w
def Tryz.laysSlF6_f291_ren:Go.Shelf.Ren:=⟨fun|6=>291|15=>319|14=>318|28=>340|29=>302|20=>332|21=>333|22=>334|23=>335|24=>336|25=>337|26=>338|27=>339|46=>348|47=>349|48=>350|49=>351|50=>352|57=>355|n=>n,fun|22=>198|24=>3|25=>363|3=>3|39=>283|0=>0|53=>339|55=>207|4=>4|46=>399|45=>398|50=>247|5=>5|9=>9|66=>412|70=>416|76=>419|77=>420|n=>n,fun|n=>n⟩
theorem Tryz.laysSlF6_f291:Go.Proofs.SlLaysF.n6 Tryz.prog Tryz.laysSlF6_f291_ren:={
 mixed:=by kernel_rfl
 f6:=⟨Tryz.f291.name,by decide,Tryz.func291.trans (congrArg some (by kernel_rfl))⟩
 f14:=⟨Tryz.f318.name,by decide,Tryz.func318.trans (congrArg some (by kernel_rfl))⟩
 f15:=Tryz.func319.trans (congrArg some (by kernel_rfl))
 f20:=⟨Tryz.f332.name,by decide,Tryz.func332.trans (congrArg some (by kernel_rfl))⟩
 f21:=⟨Tryz.f333.name,by decide,Tryz.func333.trans (congrArg some (by kernel_rfl))⟩
 f22:=⟨Tryz.f334.name,by decide,Tryz.func334.trans (congrArg some (by kernel_rfl))⟩
 f23:=⟨Tryz.f335.name,by decide,Tryz.func335.trans (congrArg some (by kernel_rfl))⟩
 f24:=⟨Tryz.f336.name,by decide,Tryz.func336.trans (congrArg some (by kernel_rfl))⟩
 f25:=⟨Tryz.f337.name,by decide,Tryz.func337.trans (congrArg some (by kernel_rfl))⟩
 f26:=⟨Tryz.f338.name,by decide,Tryz.func338.trans (congrArg some (by kernel_rfl))⟩
 f27:=⟨Tryz.f339.name,by decide,Tryz.func339.trans (congrArg some (by kernel_rfl))⟩
 f28:=Tryz.func340.trans (congrArg some (by kernel_rfl))
 f29:=Tryz.func302.trans (congrArg some (by kernel_rfl))
 f46:=⟨Tryz.f348.name,by decide,Tryz.func348.trans (congrArg some (by kernel_rfl))⟩
 f47:=Tryz.func349.trans (congrArg some (by kernel_rfl))
 f48:=Tryz.func350.trans (congrArg some (by kernel_rfl))
 f49:=⟨Tryz.f351.name,by decide,Tryz.func351.trans (congrArg some (by kernel_rfl))⟩
 f50:=⟨Tryz.f352.name,by decide,Tryz.func352.trans (congrArg some (by kernel_rfl))⟩
 f57:=⟨Tryz.f355.name,by decide,Tryz.func355.trans (congrArg some (by kernel_rfl))⟩
 t0:=Tryz.underlying0
 a0:=Tryz.isAgg0
 z0:=Tryz.sizeOf0
 v0:=Tryz.zeroValue0
 t3:=Tryz.underlying3
 a3:=Tryz.isAgg3
 z3:=Tryz.sizeOf3
 v3:=Tryz.zeroValue3
 t4:=Tryz.underlying4
 a4:=Tryz.isAgg4
 z4:=Tryz.sizeOf4
 v4:=Tryz.zeroValue4
 t5:=Tryz.underlying5
 a5:=Tryz.isAgg5
 z5:=Tryz.sizeOf5
 v5:=Tryz.zeroValue5
 t9:=Tryz.underlying9
 a9:=Tryz.isAgg9
 z9:=Tryz.sizeOf9
 v9:=Tryz.zeroValue9
 t22:=Tryz.underlying198
 a22:=Tryz.isAgg198
 z22:=Tryz.sizeOf198
 v22:=Tryz.zeroValue198
 a24:=Tryz.isAgg3
 z24:=Tryz.sizeOf3
 t25:=Tryz.underlying363
 a25:=Tryz.isAgg363
 z25:=Tryz.sizeOf363
 v25:=Tryz.zeroValue363
 t39:=Tryz.underlying283
 a39:=Tryz.isAgg283
 z39:=Tryz.sizeOf283
 v39:=Tryz.zeroValue283
 t45:=Tryz.underlying398
 a45:=Tryz.isAgg398
 z45:=Tryz.sizeOf398
 v45:=Tryz.zeroValue398
 t46:=Tryz.underlying399
 a46:=Tryz.isAgg399
 z46:=Tryz.sizeOf399
 v46:=Tryz.zeroValue399
 t50:=Tryz.underlying247
 a50:=Tryz.isAgg247
 z50:=Tryz.sizeOf247
 v50:=Tryz.zeroValue247
 t53:=Tryz.underlying339
 a53:=Tryz.isAgg339
 z53:=Tryz.sizeOf339
 v53:=Tryz.zeroValue339
 t55:=Tryz.underlying207
 a55:=Tryz.isAgg207
 z55:=Tryz.sizeOf207
 v55:=Tryz.zeroValue207
 t66:=Tryz.underlying412
 a66:=Tryz.isAgg412
 z66:=Tryz.sizeOf412
 v66:=Tryz.zeroValue412
 t70:=Tryz.underlying416
 a70:=Tryz.isAgg416
 z70:=Tryz.sizeOf416
 v70:=Tryz.zeroValue416
 t76:=Tryz.underlying419
 a76:=Tryz.isAgg419
 z76:=Tryz.sizeOf419
 v76:=Tryz.zeroValue419
 t77:=Tryz.underlying420
 a77:=Tryz.isAgg420
 z77:=Tryz.sizeOf420
 v77:=Tryz.zeroValue420 }
open Go.RowKit Go.Lib Go.Sort in
theorem Tryz.sortInt {α:Type} [Inhabited α] (enc:α->Value) (h1:OneCell enc) (cf:α->α->Int) (hO:SWO (ltOf cf)) (g:Nat) (cb:Array Value) (blk off cap:Nat) (d:Array α) (w:World) (eg:∀args w,(callFunc g args).run Tryz.prog w=.ok (.enter g args) w) (hcmp:CmpLays1 Tryz.prog g cb enc cf blk off d.size w) (hH:Holds enc w blk off d) (hblk:blk<w.heap.size) (hsz:d.size<4611686018427387904) :
  Calls Tryz.prog 291 #[.slice (some ⟨blk,off,none⟩) d.size cap,.func (.func g) #[] cb] w fun e w'=>
   e=.returned (.tuple #[])/\∃d' n os,PermIn 0 d.size d d'/\SortedIn (ltOf cf) 0 d.size d'/\w'=sortWorld enc w blk off n d' os:=Any.slices_SortFunc Tryz.laysSlF6_f291 enc h1 cf hO g cb blk off cap d w eg hcmp hH hblk hsz
end Go.Proofs
namespace Go.Proofs.YtpieeldbamklkaaGreatDoor
open Go.RowKit Num
theorem LQ:((List.range 1001).all fun n=>match Lib.parseIntB 64 (YI (n:Int)) with|.ok v=>v==(n:Int)|_=>false)=true:=by kernel_rfl
theorem OR {n:Nat} (h:n<=1000):Lib.parseIntB 64 (YI (n:Int))=.ok (n:Int):=by
 have:=List.all_eq_true.1 LQ n (List.mem_range.2 (by omega))
 revert this;cases Lib.parseIntB 64 (YI (n:Int)) with
 | ok v=>intro h;rw[beq_iff_eq] at h;rw[h]
 | _=>intro h;cases h
theorem Zbq {n:Nat} (h:n<=1000):Ret 294 #[.string ⟨(canon (n:Int)).toArray⟩] (.tuple #[.int .i64 (n:Int),.bool true]):=fun w hG=>by
 have hl:(canon (n:Int)).length<=100:=Nt (Zo (n:Int) 4 (by omega)) (by decide)
 have hp:=Mu (n:Int);have hs:=OR h;have hz:(⟨(YI (n:Int)).toArray⟩:ByteArray).size<=9223372036854775806:=by
  show (YI (n:Int)).toArray.size<=_
  have:=Mw (n:Int) (by omega) (by omega)
  simp;omega
 have C1:=Lh (Jb (canon (n:Int)) w (by exact Nt hl (by decide)))
 have C2:=Lh (fun w'=>Tryz.strconv_ParseInt_10_at64_ok ⟨(YI (n:Int)).toArray⟩ hz (n:Int) hs w')
 rw[hp] at C1;obtain⟨s,hse⟩:∃s,s=canon (n:Int):=⟨_,rfl⟩
 obtain⟨p,hpe⟩:∃p,p=YI (n:Int):=⟨_,rfl⟩
 rw[<-hse] at C1 ⊢;rw[<-hpe] at C1 C2;clear hl hp hs hz hse hpe;go_enter Tryz.func294,Tryz.ntmps294;go_wp2_with fail;refine C1.out.mono ?_;rintro e w1 ⟨rfl,hb1⟩;go_wp2_with fail;refine (C2.out w1).mono ?_;rintro e w2 ⟨rfl,hw2⟩;have hb2:Below w1.heap.size w1 w2:=by
  rcases hw2 with rfl|⟨t,rfl⟩
  ·exact Below.refl _ _
  ·exact bytesWorld_below _ _ _
 have hb:=bto hb1 hb2;clear hw2 hb1 hb2 C1 C2;go_wp2;go_ret2;exact⟨rfl,hb⟩
def zsC (zs:List Int):Array Value:=LN (zs.map canon)
def izC (zs:List Int):Array Value:=(zs.map (fun z=>Value.int .i64 z)).toArray
def TE (js:List Nat):Array Value:=(js.map (fun (k:Nat)=>Value.int .i64 (k:Int))).toArray
theorem Sf {zs:List Int} {k:Nat} {z:Int} (h:zs[k]?=some z):(zsC zs)[k]?=some (.string ⟨(canon z).toArray⟩):=PF (by simp[h])
theorem PG (zs:List Int) (k:Nat) (z:Int):(zsC zs).setIfInBounds k (.string ⟨(canon z).toArray⟩)=zsC (zs.set k z):=by
 unfold zsC LN;simp[List.map_set]
theorem AR (zs:List Int) (k:Nat) (z:Int):(izC zs).setIfInBounds k (.int .i64 z)=izC (zs.set k z):=by
 unfold izC;simp[List.map_set]
theorem IW {js:List Nat} {k j:Nat} (h:js[k]?=some j):(TE js)[k]?=some (.int .i64 (j:Int)):=by simp[TE,h]
theorem AS (js:List Nat):izC (js.map (fun (k:Nat)=>(k:Int)))=TE js:=by simp[izC,TE]
section
variable {α:Type} [Inhabited α]
theorem NR (enc:α->Value) (w:World) (bo:Nat) (cs:Array Value) (t:TypeId) (h:w.heap[bo]?=some (.cells cs t (0,0))) (d':Array α) (hs:d'.size=cs.size) (m:Nat) (os:Array Obj) :
  (Sort.grow (Sort.putRow enc (Sort.ahead w m) bo 0 d') os).heap[bo]?=some (.cells (d'.map enc) t (0,0))/\Zl (fun b=>b=bo) w (Sort.grow (Sort.putRow enc (Sort.ahead w m) bo 0 d') os):=by
 have hb:bo<w.heap.size:=(Ag.1 h).1;have e:Sort.putCells enc 0 d' cs=d'.map enc:=by
  apply Array.ext
  ·simp[Sort.putCells,hs]
  ·intro i h1 h2;have h3:i<d'.size:=by simpa using h2
   simp only[Sort.putCells,Array.getElem_mapIdx,Array.getElem_map];rw[if_pos (by omega),Nat.sub_zero,getElem!_pos d' i h3]
 refine⟨?_,rfl,rfl,rfl,?_,fun k hk hne=>?_⟩
 ·rw[Sort.heap_grow_old _ _ (by rw[Sort.size_putRow];exact hb)]
  unfold Sort.putRow Sort.mapBlock Sort.ahead;simp only[Array.getElem?_modify,if_true,h,Option.map_some,Sort.onCells,e]
 ·rw[Sort.size_grow,Sort.size_putRow];exact Nat.le_add_right _ _
 ·have hne:bo≠k:=fun e=>hne e.symm
  rw[Sort.heap_grow_old _ _ (by rw[Sort.size_putRow];exact hk)]
  unfold Sort.putRow Sort.mapBlock Sort.ahead;simp only[Array.getElem?_modify,if_neg hne]
end
theorem Dx (args:Array Value) (w:World):(callFunc 292 args).run Tryz.prog w=.ok (.enter 292 args) w:=by kernel_rfl
theorem Zch {w0 w:World} {bx br bo n:Nat} {t:TypeId} (rs:List (List UInt8)) (hG:ZQ w0) (hb:Below w0.heap.size w0 w) (hbo1:w0.heap.size<=bo) (hbx:Blk w bx #[.slice (some ⟨br,0,none⟩) n n]) (hbr:Blk w br (LN rs)) (hbo:w.heap[bo]?=some (.cells (TE (List.range n)) t (0,0)))
  (hn:rs.length=n) (hn0:0<n) (hn1:n<=100000) (hrl:∀r∈rs,r.length<=100000) (hne:bx≠bo) (hne2:br≠bo) :
  Calls Tryz.prog 291 #[.slice (some ⟨bo,0,none⟩) n n,.func (.func 292) #[] #[.pointer (some ⟨bx,0,none⟩)]] w fun e w'=>e=.returned (.tuple #[])/\
   (∃js:List Nat,js.Perm (List.range n)/\js.Pairwise (Ph fun i=>val (rs.getD i []))/\w'.heap[bo]?=some (.cells (TE js) t (0,0)))/\Zl (fun b=>b=bo) w w':=by
 obtain⟨m,rfl⟩:∃m,n=m+1:=⟨n-1,by omega⟩
 have hlt:∀x y:Fin (m+1),ltOf (fun x y:Fin (m+1)=>JH rs x y) x y=true↔Ph (fun i=>val (rs.getD i [])) x y:=fun x y=>by
  unfold ltOf;rw[decide_eq_true_iff];exact AP rs x y
 have hO:=Dw (fun i=>val (rs.getD i [])) _ hlt
 have hd:(List.finRange (m+1)).toArray.size=m+1:=by simp
 have hcs:(TE (List.range (m+1))).size=m+1:=by simp[TE]
 have hlow:∀k,k=bo->w0.heap.size<=k:=fun k hk=>by rw[hk];exact hbo1
 have hH:Sort.Holds (fun x:Fin (m+1)=>Value.int .i64 (x.val:Int)) w bo 0 (List.finRange (m+1)).toArray:=fun j hj=>by
  rw[hd] at hj;rw[Nat.zero_add];refine⟨?_,Zm hbo j⟩;rw[Zg hbo j,IW (j:=j) (by simp[hj]),getElem!_pos _ j (by rw[hd];exact hj)]
  simp
 have hcmp:CmpLays1 Tryz.prog 292 #[.pointer (some ⟨bx,0,none⟩)] (fun x:Fin (m+1)=>Value.int .i64 (x.val:Int)) (fun x y:Fin (m+1)=>JH rs x y) bo 0 (List.finRange (m+1)).toArray.size w:=fun q os dk hs x y=>by
  rw[hd] at hs;obtain⟨h1,h2⟩:=NR (fun x:Fin (m+1)=>Value.int .i64 (x.val:Int)) w bo _ t hbo dk (by rw[hs,hcs]) q os
  have hx:∃r,rs[x.val]?=some r:=⟨_,List.getElem?_eq_getElem (by rw[hn];exact x.isLt)⟩
  have hy:∃r,rs[y.val]?=some r:=⟨_,List.getElem?_eq_getElem (by rw[hn];exact y.isLt)⟩
  obtain⟨ri,hri⟩:=hx;obtain⟨rk,hrk⟩:=hy;have hk:=Go.Proofs.YtpieeldbamklkaaGreatDoorMono.calls_grown (Zcf bx br (m+1) (m+1) rs x.val y.val ri rk _ (hG.below (h2.lower hb hlow)) (hbx.keepX h2 hne) (hbr.keepX h2 hne2) hri hrk hn (hrl ri (Lm hri)) (hrl rk (Lm hrk)));have e:orZ (ZI (val rk) (val ri)) (Pf (x.val:Int) (y.val:Int))=JH rs x y:=by
   unfold JH;rw[List.getD_eq_getElem?_getD,List.getD_eq_getElem?_getD,hri,hrk];rfl
  rw[e] at hk;exact hk
 have key:=Tryz.sortInt (fun x:Fin (m+1)=>Value.int .i64 (x.val:Int)) (fun _=>rfl) (fun x y:Fin (m+1)=>JH rs x y) hO 292 #[.pointer (some ⟨bx,0,none⟩)] bo 0 (m+1) (List.finRange (m+1)).toArray w Dx hcmp hH (Ag.1 hbo).1 (Nat.lt_of_le_of_lt (by rw[hd];exact hn1) (by decide))
 rw[hd] at key;refine key.mono ?_;rintro e w' ⟨he,d',q,os,hp,hs,hw⟩;obtain⟨j1,j2⟩:=Zcg (fun i=>val (rs.getD i [])) _ hlt d' hp hs
 have hsz:d'.size=(TE (List.range (m+1))).size:=by rw[hcs];exact hp.1.trans hd
 obtain⟨h1,h2⟩:=NR (fun x:Fin (m+1)=>Value.int .i64 (x.val:Int)) w bo _ t hbo d' hsz q os
 have hw2:w'=Sort.grow (Sort.putRow (fun x:Fin (m+1)=>Value.int .i64 (x.val:Int)) (Sort.ahead w q) bo 0 d') os:=hw
 rw[hw2];refine⟨he,⟨_,j1,j2,h1.trans ?_⟩,h2⟩;congr 2;apply Array.ext';simp[TE]
end Go.Proofs.YtpieeldbamklkaaGreatDoor
