/- Texts put together: Uq Ra Ok Us Sp Ol Om. -/
import Derived.Test.YtpieeldbamklkaaGreatDoorY3
import Derived.Sort.Statements
import Derived.Shelf.SlSortCmp.Whole1
import Derived.Shelf.Strconv.ParseIntPublic10
import Derived.Sort.Grow
import Derived.Deep.DeepCutAuto
set_option maxHeartbeats 4000000
set_option maxRecDepth 100000
open Go.Proofs.Tryz
namespace Go.Proofs.YtpieeldbamklkaaGreatDoor
open Go.RowKit Num
def ZW {α:Type} (p:α->Bool):List α->Nat->Int
 | [],_=>-1
 | a::t,k=>if p a=true then (k:Int) else ZW p t (k+1)
section
variable {α:Type} (p:α->Bool)
theorem Nw (zs:List α) (k:Nat) (y:α) (h:zs[k]?=some y):ZW p (zs.drop k) k=if p y=true then (k:Int) else ZW p (zs.drop (k+1)) (k+1):=by
 obtain⟨hk,rfl⟩:=Lg.1 h;rw[List.drop_eq_getElem_cons hk];rfl
theorem U2:∀(zs:List α) (k:Nat),0<=ZW p zs k↔zs.any p=true
 | [],k=>by simp[ZW]
 | a::t,k=>by
  unfold ZW
  by_cases h:p a=true
  ·simp[h]
  ·rw[if_neg h,U2 t (k+1)];simp[h]
theorem VN:∀(zs:List α) (k:Nat),0<=ZW p zs k->∃i x,ZW p zs k=((k+i:Nat):Int)/\zs[i]?=some x/\p x=true/\∀j y,j<i->zs[j]?=some y->p y=false
 | [],k=>fun h=>by simp[ZW] at h
 | a::t,k=>fun h=>by
  unfold ZW at h ⊢
  by_cases ha:p a=true
  ·rw[if_pos ha];exact⟨0,a,by simp,rfl,ha,fun j _ hj=>absurd hj (Nat.not_lt_zero _)⟩
  ·rw[if_neg ha] at h ⊢;obtain⟨i,x,e,hx,hp,hf⟩:=VN t (k+1) h;refine⟨i+1,x,by rw[e];congr 1;omega,hx,hp,fun j y hj hy=>?_⟩
   cases j with
   | zero=>simp at hy;subst hy;simpa using ha
   | succ j=>exact hf j y (by omega) hy
end
structure Pk where
 lot:List UInt8
 q:List UInt8
 deriving DecidableEq
def Z1 (id:List UInt8) (p:Pk):Bool:=p.lot==id
def isLt (id:List UInt8) (x:Lot):Bool:=x.id==id
def Y0 (a b:List UInt8):List UInt8:=if val a<val b then a else b
def SS (out:List Pk) (x:Lot):List UInt8:=
 if 0<=ZW (Z1 x.id) out 0 then canon (val x.q-val ((out.getD (ZW (Z1 x.id) out 0).toNat ⟨[],[]⟩).q)) else x.q
def nS (out:List Pk) (rem:List UInt8) (x:Lot) (most:List UInt8):List UInt8:=Y0 (Y0 most (SS out x)) rem
def Q7 (out:List Pk) (x:Lot) (n:List UInt8):List Pk:=
 if 0<=ZW (Z1 x.id) out 0 then out.set (ZW (Z1 x.id) out 0).toNat ⟨(out.getD (ZW (Z1 x.id) out 0).toNat ⟨[],[]⟩).lot,canon (val ((out.getD (ZW (Z1 x.id) out 0).toNat ⟨[],[]⟩).q)+val n)⟩
 else out++[⟨x.id,canon (val n)⟩]
def YN (s:List Pk×List UInt8) (x:Lot) (most:List UInt8):List Pk×List UInt8:=
 if val (nS s.1 s.2 x most)<=0 then s else (Q7 s.1 x (nS s.1 s.2 x most),canon (val s.2-val (nS s.1 s.2 x most)))
def Y7 (l:List Pk):Int:=(l.map (fun p=>val p.q)).sum
def Y8 (l:List Pk) (id:List UInt8):Int:=((l.filter (Z1 id)).map (fun p=>val p.q)).sum
structure YC (own:List Lot) (Q:Int) (s:List Pk×List UInt8):Prop where
 sum:Y7 s.1+val s.2=Q
 rem:0<=val s.2
 can:s.2=canon (val s.2)
 pos:∀p∈s.1,0<val p.q/\p.q=canon (val p.q)
 nd:(s.1.map (·.lot)).Nodup
 mem:∀p∈s.1,∃x∈own,x.id=p.lot
theorem Ts:∀(l:List Pk),(∀p∈l,0<val p.q)->0<=Y7 l/\∀p∈l,val p.q<=Y7 l
 | [],_=>⟨Int.le_refl _,fun p hp=>by cases hp⟩
 | a::t,h=>by
  obtain⟨h1,h2⟩:=Ts t (fun p hp=>h p (List.mem_cons_of_mem _ hp))
  have ha:=h a List.mem_cons_self;have e:Y7 (a::t)=val a.q+Y7 t:=by simp[Y7]
  refine⟨by omega,fun p hp=>?_⟩
  rcases List.mem_cons.1 hp with rfl|hp
  ·omega
  ·have:=h2 p hp;omega
theorem Ac (l:List Pk) (id:List UInt8) (h:∀p∈l,0<val p.q):0<=Y8 l id:=
 (Ts (l.filter (Z1 id)) (fun p hp=>h p (List.mem_filter.1 hp).1)).1
theorem Lv (a b:List Pk):Y7 (a++b)=Y7 a+Y7 b:=by simp[Y7]
theorem IR (a b:List Pk) (id:List UInt8):Y8 (a++b) id=Y8 a id+Y8 b id:=by simp[Y8]
theorem IS (p:Pk) (id:List UInt8):Y8 [p] id=if p.lot=id then val p.q else 0:=by
 unfold Y8
 by_cases h:p.lot=id
 ·simp[Z1,h]
 ·simp[Z1,h]
theorem GQ {l:List Pk} {i:Nat} {p:Pk} (h:l[i]?=some p) (u:Pk):l=l.take i++[p]++l.drop (i+1)/\l.set i u=l.take i++[u]++l.drop (i+1):=by
 obtain⟨hi,rfl⟩:=Lg.1 h;refine⟨?_,?_⟩
 ·rw[List.append_assoc,List.singleton_append,<-List.drop_eq_getElem_cons hi,List.take_append_drop]
 ·rw[List.set_eq_take_append_cons_drop,if_pos hi,List.append_assoc,List.singleton_append]
theorem ER:∀{l:List Pk} {i:Nat} {p:Pk},(l.map (·.lot)).Nodup->l[i]?=some p->Y8 l p.lot=val p.q
 | [],i,p,_,h=>by simp at h
 | a::t,0,p,hn,h=>by
  simp at h;subst h;have hn':=List.nodup_cons.1 (by simpa using hn:(a.lot::t.map (·.lot)).Nodup)
  have e:t.filter (Z1 a.lot)=[]:=by
   rw[List.filter_eq_nil_iff];intro x hx hc;refine hn'.1 (List.mem_map.2 ⟨x,hx,?_⟩);simpa [Z1] using hc
  unfold Y8;rw[List.filter_cons_of_pos (by simp[Z1]),e]
  simp
 | a::t,i+1,p,hn,h=>by
  have hn':=List.nodup_cons.1 (by simpa using hn:(a.lot::t.map (·.lot)).Nodup)
  have hp:t[i]?=some p:=by simpa using h
  have ih:=ER hn'.2 hp;have hne:a.lot≠p.lot:=fun e=>hn'.1 (List.mem_map.2 ⟨p,Lm hp,e.symm⟩)
  unfold Y8 at ih ⊢;rw[List.filter_cons_of_neg (by simp[Z1,hne]),ih]
theorem ES {l:List Pk} {id:List UInt8} (h:l.any (Z1 id)=false):Y8 l id=0:=by
 unfold Y8
 have:l.filter (Z1 id)=[]:=by
  rw[List.filter_eq_nil_iff];intro x hx hc;rw[List.any_eq_false] at h;exact h x hx hc
 rw[this];rfl
theorem Lw (a b:List UInt8):val (Y0 a b)<=val a/\val (Y0 a b)<=val b/\(val (Y0 a b)=val a∨val (Y0 a b)=val b):=by
 unfold Y0
 split
 ·exact⟨Int.le_refl _,by omega,.inl rfl⟩
 ·exact⟨by omega,Int.le_refl _,.inr rfl⟩
theorem ET {out:List Pk} {x:Lot} (hn:(out.map (·.lot)).Nodup):val (SS out x)=val x.q-Y8 out x.id:=by
 unfold SS
 by_cases h:0<=ZW (Z1 x.id) out 0
 ·rw[if_pos h,Zh];obtain⟨i,p,e,hp,hq,-⟩:=VN _ _ _ h;rw[e,Nat.zero_add,Int.toNat_natCast,List.getD_eq_getElem?_getD,hp];have e2:p.lot=x.id:=by simpa [Z1] using hq
  have:=ER hn hp
  rw[e2] at this;simp[this]
 ·rw[if_neg h]
  have:out.any (Z1 x.id)=false:=by
   cases hc:out.any (Z1 x.id) with
   | false=>rfl
   | true=>exact absurd ((U2 _ _ 0).2 hc) h
  rw[ES this];omega
theorem GR {out:List Pk} {x:Lot} {n:List UInt8} (hn:(out.map (·.lot)).Nodup) (hp:∀p∈out,0<val p.q/\p.q=canon (val p.q)) (h0:0<val n) :
  Y7 (Q7 out x n)=Y7 out+val n/\(∀id,Y8 (Q7 out x n) id=Y8 out id+if x.id=id then val n else 0)/\(∀p∈Q7 out x n,0<val p.q/\p.q=canon (val p.q))/\((Q7 out x n).map (·.lot)).Nodup/\∀p∈Q7 out x n,p.lot=x.id∨p∈out:=by
 unfold Q7
 by_cases h:0<=ZW (Z1 x.id) out 0
 ·rw[if_pos h];obtain⟨i,p,e,hi,hq,-⟩:=VN _ _ _ h;have e2:p.lot=x.id:=by simpa [Z1] using hq
  rw[e,Nat.zero_add,Int.toNat_natCast,List.getD_eq_getElem?_getD,hi,Option.getD_some];obtain⟨s1,s2⟩:=GQ hi ⟨p.lot,canon (val p.q+val n)⟩;have hpp:=hp p (Lm hi);refine⟨?_,fun id=>?_,fun r hr=>?_,?_,fun r hr=>?_⟩
  ·rw[s2]
   conv=>rhs;rw[s1]
   simp only[Lv];simp[Y7,Zh];omega
  ·rw[s2]
   conv=>rhs;rw[s1]
   simp only[IR,IS,e2]
   by_cases hid:x.id=id
   ·simp[hid,Zh];omega
   ·simp[hid]
  ·rcases List.mem_or_eq_of_mem_set hr with hr|rfl
   ·exact hp r hr
   ·rw[Zh];exact⟨by omega,rfl⟩
  ·have:(out.set i ⟨p.lot,canon (val p.q+val n)⟩).map (·.lot)=out.map (·.lot):=by
    rw[List.map_set];apply List.ext_getElem?;intro j;rw[List.getElem?_set]
    split
    ·rename_i hj;subst hj
     split
     ·simp[hi]
     ·rename_i hlt;simp at hlt;simp[List.getElem?_eq_none hlt]
    ·rfl
   rw[this];exact hn
  ·rcases List.mem_or_eq_of_mem_set hr with hr|rfl
   ·exact .inr hr
   ·exact .inl e2
 ·rw[if_neg h];have hany:out.any (Z1 x.id)=false:=by
   cases hc:out.any (Z1 x.id) with
   | false=>rfl
   | true=>exact absurd ((U2 _ _ 0).2 hc) h
  refine⟨?_,fun id=>?_,fun r hr=>?_,?_,fun r hr=>?_⟩
  ·rw[Lv];simp[Y7,Zh]
  ·rw[IR,IS,Zh]
  ·rcases List.mem_append.1 hr with hr|hr
   ·exact hp r hr
   ·simp at hr;subst hr;rw[Zh];exact⟨h0,rfl⟩
  ·rw[List.map_append,List.nodup_append];refine⟨hn,by simp,fun a ha b hb hab=>?_⟩
   simp at hb;subst hb;subst hab;obtain⟨r,hr,e⟩:=List.mem_map.1 ha;rw[List.any_eq_false] at hany;exact hany r hr (by simp[Z1,e])
  ·rcases List.mem_append.1 hr with hr|hr
   ·exact .inr hr
   ·simp at hr;subst hr;exact .inl rfl
theorem Ox {own:List Lot} {Q:Int} {s:List Pk×List UInt8} {x:Lot} (most:List UInt8) (h:YC own Q s) (hx:x∈own) :
  YC own Q (YN s x most)/\(∀id,Y8 s.1 id<=Y8 (YN s x most).1 id)/\val (YN s x most).2<=val s.2/\(val most=val x.q->val (YN s x most).2=0∨val x.q<=Y8 (YN s x most).1 x.id):=by
 have l1:=Lw (Y0 most (SS s.1 x)) s.2;have l2:=Lw most (SS s.1 x);have l3:=ET (x:=x) h.nd;have l4:=Ac s.1 x.id (fun p hp=>(h.pos p hp).1)
 have l5:=h.rem;obtain⟨n,hn⟩:∃n,n=nS s.1 s.2 x most:=⟨_,rfl⟩
 have hn':=hn;unfold nS at hn';rw[<-hn'] at l1;unfold YN;rw[<-hn]
 by_cases h0:val n<=0
 ·rw[if_pos h0];refine⟨h,fun _=>Int.le_refl _,Int.le_refl _,fun hm=>?_⟩
  omega
 ·rw[if_neg h0];obtain⟨p1,p2,p3,p4,p5⟩:=GR (x:=x) (n:=n) h.nd h.pos (by omega)
  have hs:=h.sum;refine⟨⟨?_,?_,?_,p3,p4,fun p hp=>?_⟩,fun id=>?_,?_,fun hm=>?_⟩
  ·show Y7 (Q7 s.1 x n)+val (canon (val s.2-val n))=Q;rw[p1,Zh];omega
  ·show 0<=val (canon (val s.2-val n));rw[Zh];omega
  ·show canon (val s.2-val n)=_;rw[Zh]
  ·rcases p5 p hp with e|hp
   ·exact⟨x,hx,e.symm⟩
   ·exact h.mem p hp
  ·show _<=Y8 (Q7 s.1 x n) id;rw[p2]
   split<;>omega
  ·show val (canon (val s.2-val n))<=_;rw[Zh];omega
  ·show val (canon (val s.2-val n))=0∨val x.q<=Y8 (Q7 s.1 x n) x.id;rw[p2,Zh,if_pos rfl];omega
def Mu (own:List Lot):List Pk->List Pk×List UInt8->List Pk×List UInt8
 | [],s=>s
 | p::t,s=>Mu own t (if 0<=ZW (isLt p.lot) own 0 then YN s (own.getD (ZW (isLt p.lot) own 0).toNat ⟨[],[],0,0,[],[],[]⟩) p.q else s)
def YO:List Lot->List Pk×List UInt8->List Pk×List UInt8
 | [],s=>s
 | x::t,s=>YO t (YN s x x.q)
theorem QC {own:List Lot} {Q:Int}:∀(ps:List Pk) {s:List Pk×List UInt8},YC own Q s->YC own Q (Mu own ps s)
 | [],_,h=>h
 | p::t,s,h=>by
  unfold Mu
  by_cases hi:0<=ZW (isLt p.lot) own 0
  ·rw[if_pos hi];obtain⟨i,x,e,hx,-,-⟩:=VN _ _ _ hi;rw[e,Nat.zero_add,Int.toNat_natCast,List.getD_eq_getElem?_getD,hx,Option.getD_some];exact QC t (Ox p.q h (Lm hx)).1
  ·rw[if_neg hi];exact QC t h
theorem Lx {own:List Lot} {Q:Int}:∀(xs:List Lot) {s:List Pk×List UInt8},(∀x∈xs,x∈own)->YC own Q s->
  YC own Q (YO xs s)/\(∀id,Y8 s.1 id<=Y8 (YO xs s).1 id)/\val (YO xs s).2<=val s.2/\∀x∈xs,val (YO xs s).2=0∨val x.q<=Y8 (YO xs s).1 x.id
 | [],_,_,h=>⟨h,fun _=>Int.le_refl _,Int.le_refl _,fun x hx=>by cases hx⟩
 | x::t,s,hm,h=>by
  obtain⟨a1,a2,a3,a4⟩:=Ox x.q h (hm x List.mem_cons_self);obtain⟨b1,b2,b3,b4⟩:=Lx t (fun y hy=>hm y (List.mem_cons_of_mem _ hy)) a1
  unfold YO;refine⟨b1,fun id=>Int.le_trans (a2 id) (b2 id),Int.le_trans b3 a3,fun y hy=>?_⟩
  rcases List.mem_cons.1 hy with rfl|hy
  ·have:=a4 rfl
   have:=b2 y.id
   have:=b1.rem
   omega
  ·exact b4 y hy
def Zar (l:List Lot):Int:=(l.map (fun x=>val x.q)).sum
theorem IT:∀(ids:List (List UInt8)),ids.Nodup->∀(out:List Pk),(∀p∈out,0<val p.q)->(ids.map (Y8 out)).sum<=Y7 out
 | [],_,out,h=>by simpa using (Ts out h).1
 | a::t,hn,out,h=>by
  have hn':=List.nodup_cons.1 hn;have ih:=IT t hn'.2 (out.filter (fun p=>!Z1 a p)) (fun p hp=>h p (List.mem_filter.1 hp).1)
  have e1:∀id∈t,Y8 (out.filter (fun p=>!Z1 a p)) id=Y8 out id:=fun id hid=>by
   unfold Y8;rw[List.filter_filter];congr 2;apply List.filter_congr;intro p _
   by_cases hp:p.lot=id
   ·have:id≠a:=fun e=>hn'.1 (e ▸ hid)
    simp[Z1,hp,this]
   ·simp[Z1,hp]
  have e2:Y7 out=Y8 out a+Y7 (out.filter (fun p=>!Z1 a p)):=by
   clear ih e1 h
   induction out with
   | nil=>rfl
   | cons p r ih=>
    have e3:Y7 (p::r)=val p.q+Y7 r:=by simp[Y7]
    by_cases hp:Z1 a p=true
    ·have:Y8 (p::r) a=val p.q+Y8 r a:=by simp[Y8,hp]
     rw[e3,this,List.filter_cons_of_neg (by simp[hp])];omega
    ·have:Y8 (p::r) a=Y8 r a:=by simp[Y8,hp]
     rw[e3,this,List.filter_cons_of_pos (by simpa using hp)]
     have:Y7 (p::r.filter (fun p=>!Z1 a p))=val p.q+Y7 (r.filter (fun p=>!Z1 a p)):=by simp[Y7]
     omega
  rw[List.map_cons,List.sum_cons,e2,<-List.map_congr_left e1];omega
theorem EU {α:Type} {f g:α->Int}:∀(l:List α),(∀x∈l,f x<=g x)->(l.map f).sum<=(l.map g).sum
 | [],_=>Int.le_refl _
 | a::t,h=>by
  have:=EU t (fun x hx=>h x (List.mem_cons_of_mem _ hx))
  have:=h a List.mem_cons_self
  simp;omega
theorem EV {own xs:List Lot} {Q:Int} {s:List Pk×List UInt8} (hx:xs.Perm own) (hn:(own.map (·.id)).Nodup) (hq:Q<=Zar own) (h:YC own Q s) :
  YC own Q (YO xs s)/\val (YO xs s).2=0/\Y7 (YO xs s).1=Q:=by
 obtain⟨b1,-,-,b4⟩:=Lx xs (fun x hx'=>hx.subset hx') h
 have hs:=b1.sum
 by_cases h0:val (YO xs s).2=0
 ·exact⟨b1,h0,by omega⟩
 ·have h1:∀x∈own,val x.q<=Y8 (YO xs s).1 x.id:=fun x hx'=>(b4 x (hx.symm.subset hx')).resolve_left h0
  have h2:=EU own h1;have h3:=IT (own.map (·.id)) hn (YO xs s).1 (fun p hp=>(b1.pos p hp).1)
  rw[List.map_map] at h3;have h4:Zar own<=Y7 (YO xs s).1:=Int.le_trans h2 h3
  have:=b1.rem
  omega
def WB (w:World) (A:Option Addr) (ps:List Pk):Prop:=∀(i:Nat) (r:Pk),ps[i]?=some r->∃b o,A=some ⟨b,o,none⟩/\b<w.heap.size/\w.cell? ⟨b,o+i*2,none⟩=some (.string ⟨r.lot.toArray⟩)/\w.cell? ⟨b,o+i*2+1,none⟩=some (.string ⟨r.q.toArray⟩)
theorem WB.below {w w':World} {A:Option Addr} {rs:List Pk} (h:WB w A rs) (hb:Below w.heap.size w w'):WB w' A rs:=fun i t ht=>by
 obtain⟨b,o,hA,hl,h0,h1⟩:=h i t ht;exact⟨b,o,hA,Nat.lt_of_lt_of_le hl hb.size,(hb.cell (p:=⟨b,_,none⟩) hl).trans h0,(hb.cell (p:=⟨b,_,none⟩) hl).trans h1⟩
theorem WB.take {w:World} {A:Option Addr} {rs:List Pk} (h:WB w A rs) (k:Nat):WB w A (rs.take k):=fun i t ht=>by
 rw[List.getElem?_take] at ht
 split at ht
 ·exact h i t ht
 ·cases ht
theorem ZaZ (f:Nat) (hcall:∀(args:Array Value) w,(callFunc f args).run prog w=.ok (.enter f args) w) (p:Lot->Bool) (caps:Array Value) (A:Option Addr) (rs:List Lot) (n c:Nat) (w:World) (hn:rs.length=n) (hn2:n<=1000000000) (h:Yc w A rs)
  (hp:∀x∈rs,∀w',Below w.heap.size w w'->Calls prog f (#[(Value.agg #[.string ⟨x.id.toArray⟩,.string ⟨x.ins.toArray⟩,.int .i64 x.acq,.int .i64 x.opn,.string ⟨x.q.toArray⟩,.string ⟨x.cost.toArray⟩,.string ⟨x.used.toArray⟩])]++caps) w' fun e w''=>e=.returned (.bool (p x))/\Below w'.heap.size w' w'') :
  Calls prog 209 #[.slice A n c,.func (Fn.func f) #[] caps] w fun e w'=>e=.returned (.int .i64 (ZW p rs 0))/\Below w.heap.size w w':=by
 have HI:=Lh h;have HP:=Lh hp;have hn1:rs.length<=n:=by omega
 have hn3:n<=rs.length:=by omega
 obtain⟨Z,hZ⟩:∃Z,Z=ZW p rs 0:=⟨_,rfl⟩
 rw[<-hZ];have HZ:Hid (Z=ZW p (rs.drop 0) 0):=hZ;clear h hp hn hZ;go_enter func209,ntmps209;go_wp2_with fail
 go_loopw [8] (fun iv wr=>∃k:Nat,k<=n/\iv=.int .i64 (k:Int)/\Hid (Z=ZW p (rs.drop k) k)/\Below w.heap.size w wr) (fun iv _=>n-(intOf iv).toNat)
 case atStart=>exact⟨0,Nat.zero_le _,rfl,HZ.out,Below.refl _ _⟩
 case round=>
  clear HZ;obtain⟨k,hk,rfl,HK,hb⟩:=hrel
  by_cases hlt:k<n
  ·obtain⟨x,hx⟩:∃x,rs[k]?=some x:=⟨_,List.getElem?_eq_getElem (by omega)⟩
   obtain⟨b,o,rfl,hbs,hc0⟩:=(HI.out.below hb) k x hx;have HD:=Lh (Nw p rs k x hx);have CP:=Lh (HP.out x (Lm hx) wr hb);have e1:decide (k<n)=true:=Dt hlt;clear hx;have p0:=hc0.c0;have p1:=hc0.c1;have p2:=hc0.c2;have p3:=hc0.c3;have p4:=hc0.c4;have p5:=hc0.c5;have p6:=hc0.c6;go_wp2_with fail
   refine CP.out.mono ?_
   rintro e w2 ⟨rfl,hb2⟩;replace hb:=bto hb hb2;clear hb2 CP hc0 p0 p1 p2 p3 p4 p5 p6
   by_cases hq:p x=true
   ·have HV:Hid (Z=(k:Int)):=by show _=_;rw[HK.out,HD.out,if_pos hq]
    rw[hq];clear hq HK HD;go_wp2;go_ret;exact⟨ZU HV.out.symm,hb⟩
   ·have HV:Hid (Z=ZW p (rs.drop (k+1)) (k+1)):=by show _=_;rw[HK.out,HD.out,if_neg hq]
    rw[YH hq];clear hq HK HD;go_wp2;go_roundw
    case rel=>exact⟨k+1,by omega,by go_num,HV,hb⟩
    case measure=>simp[intOf];omega
  ·have HV:Hid (Z = -1):=by show _=_;rw[HK.out,List.drop_of_length_le (by omega)];rfl
   have e1:decide (k<n)=false:=Df hlt;clear HK;go_wp2;go_ret;exact⟨ZU HV.out.symm,hb⟩
theorem EW (f:Nat) (hcall:∀(args:Array Value) w,(callFunc f args).run prog w=.ok (.enter f args) w) (p:Pk->Bool) (caps:Array Value) (A:Option Addr) (rs:List Pk) (n c:Nat) (w:World) (hn:rs.length=n) (hn2:n<=1000000000) (h:WB w A rs)
  (hp:∀x∈rs,∀w',Below w.heap.size w w'->Calls prog f (#[.agg #[.string ⟨x.lot.toArray⟩,.string ⟨x.q.toArray⟩]]++caps) w' fun e w''=>e=.returned (.bool (p x))/\Below w'.heap.size w' w'') :
  Calls prog 163 #[.slice A n c,.func (Fn.func f) #[] caps] w fun e w'=>e=.returned (.int .i64 (ZW p rs 0))/\Below w.heap.size w w':=by
 have HI:=Lh h;have HP:=Lh hp;have hn1:rs.length<=n:=by omega
 have hn3:n<=rs.length:=by omega
 obtain⟨Z,hZ⟩:∃Z,Z=ZW p rs 0:=⟨_,rfl⟩
 rw[<-hZ];have HZ:Hid (Z=ZW p (rs.drop 0) 0):=hZ;clear h hp hn hZ;go_enter func163,ntmps163;go_wp2_with fail
 go_loopw [8] (fun iv wr=>∃k:Nat,k<=n/\iv=.int .i64 (k:Int)/\Hid (Z=ZW p (rs.drop k) k)/\Below w.heap.size w wr) (fun iv _=>n-(intOf iv).toNat)
 case atStart=>exact⟨0,Nat.zero_le _,rfl,HZ.out,Below.refl _ _⟩
 case round=>
  clear HZ;obtain⟨k,hk,rfl,HK,hb⟩:=hrel
  by_cases hlt:k<n
  ·obtain⟨x,hx⟩:∃x,rs[k]?=some x:=⟨_,List.getElem?_eq_getElem (by omega)⟩
   obtain⟨b,o,rfl,hbs,p0,p1⟩:=(HI.out.below hb) k x hx;have HD:=Lh (Nw p rs k x hx);have CP:=Lh (HP.out x (Lm hx) wr hb);have e1:decide (k<n)=true:=Dt hlt;clear hx;go_wp2_with fail
   refine CP.out.mono ?_
   rintro e w2 ⟨rfl,hb2⟩;replace hb:=bto hb hb2;clear hb2 CP p0 p1
   by_cases hq:p x=true
   ·have HV:Hid (Z=(k:Int)):=by show _=_;rw[HK.out,HD.out,if_pos hq]
    rw[hq];clear hq HK HD;go_wp2;go_ret;exact⟨ZU HV.out.symm,hb⟩
   ·have HV:Hid (Z=ZW p (rs.drop (k+1)) (k+1)):=by show _=_;rw[HK.out,HD.out,if_neg hq]
    rw[YH hq];clear hq HK HD;go_wp2;go_roundw
    case rel=>exact⟨k+1,by omega,by go_num,HV,hb⟩
    case measure=>simp[intOf];omega
  ·have HV:Hid (Z = -1):=by show _=_;rw[HK.out,List.drop_of_length_le (by omega)];rfl
   have e1:decide (k<n)=false:=Df hlt;clear HK;go_wp2;go_ret;exact⟨ZU HV.out.symm,hb⟩
theorem EX {α:Type} (p:α->Bool) (rs:List α):decide (0<=ZW p rs 0)=rs.any p:=by
 have h:=U2 p rs 0
 by_cases g:0<=ZW p rs 0
 ·rw[Dt g,h.1 g]
 ·rw[Df g];cases hc:rs.any p with
  | false=>rfl
  | true=>exact absurd (h.2 hc) g
theorem EY (f:Nat) (hcall:∀(args:Array Value) w,(callFunc f args).run prog w=.ok (.enter f args) w) (p:Pk->Bool) (caps:Array Value) (A:Option Addr) (rs:List Pk) (n c:Nat) (w:World) (hn:rs.length=n) (hn2:n<=1000000000) (h:WB w A rs)
  (hp:∀x∈rs,∀w',Below w.heap.size w w'->Calls prog f (#[.agg #[.string ⟨x.lot.toArray⟩,.string ⟨x.q.toArray⟩]]++caps) w' fun e w''=>e=.returned (.bool (p x))/\Below w'.heap.size w' w'') :
  Calls prog 159 #[.slice A n c,.func (Fn.func f) #[] caps] w fun e w'=>e=.returned (.bool (rs.any p))/\Below w.heap.size w w':=by
 have C1:=Lh (EW f hcall p caps A rs n c w hn hn2 h hp);have HV:=Lh (EX p rs);generalize ZW p rs 0=z at *;clear hn h hp;go_enter func159,ntmps159;go_wp2_with fail;refine C1.out.mono ?_;rintro e w2 ⟨rfl,hb⟩
 by_cases g:0<=z
 ·have e1:decide (0<=z)=true:=Dt g;go_wp2;go_ret;exact⟨by rw[<-HV.out,e1];rfl,hb⟩
 ·have e1:decide (0<=z)=false:=Df g;go_wp2;go_ret;exact⟨by rw[<-HV.out,e1];rfl,hb⟩
theorem Za0 (x:Lot) (bi:Nat) (id:List UInt8) (w:World) (h:Blk w bi #[.string ⟨id.toArray⟩]) :
  Calls prog 210 #[(Value.agg #[.string ⟨x.id.toArray⟩,.string ⟨x.ins.toArray⟩,.int .i64 x.acq,.int .i64 x.opn,.string ⟨x.q.toArray⟩,.string ⟨x.cost.toArray⟩,.string ⟨x.used.toArray⟩]),.pointer (some ⟨bi,0,none⟩)] w fun e w'=>e=.returned (.bool (isLt id x))/\Below w.heap.size w w':=by
 have hb:=Zb w (.cells #[.string ⟨x.id.toArray⟩,.string ⟨x.ins.toArray⟩,.int .i64 x.acq,.int .i64 x.opn,.string ⟨x.q.toArray⟩,.string ⟨x.cost.toArray⟩,.string ⟨x.used.toArray⟩] 130);have x1:=YS.new w x 130;have p0:=x1.c0;have p1:=(h.below hb).c 0;have HV:Hid (isLt id x=(x.id==id)):=rfl;have he:=Tj x.id id;generalize isLt id x=R at *;clear h x1;go_enter func210,ntmps210;go_wp2;go_ret;refine⟨ZV ?_,hb⟩;rw[HV.out]<;>first|exact he|rfl
theorem Ly (args:Array Value) (w:World):(callFunc 210 args).run prog w=.ok (.enter 210 args) w:=by kernel_rfl
def EZ (z:Int):Int:=if 0<=z then z else 0
theorem Zas {w:World} {A:Option Addr} {xs:List Lot} {n:Nat} (c:Nat) (id:List UInt8) (hn:xs.length=n) (hn2:n<=100000) (h:Yc w A xs) :
  Calls prog 166 #[.slice A n c,.string ⟨id.toArray⟩] w fun e w'=>e=.returned (.tuple #[.int .i64 (EZ (ZW (isLt id) xs 0)),.bool (decide (0<=ZW (isLt id) xs 0))])/\Below w.heap.size w w':=by
 have hb:=Zb w (.cells #[.string ⟨id.toArray⟩] 9);have x1:=Lh (Blk.new w #[.string ⟨id.toArray⟩] 9);have C1:=Lh (ZaZ _ Ly (isLt id) #[.pointer (some ⟨w.heap.size,0,none⟩)] A xs n c _ hn (by omega) (h.below hb) (fun x _ w' hb'=>Za0 x w.heap.size id w' (x1.out.below hb')))
 generalize ZW (isLt id) xs 0=z at *;clear h hn x1;go_enter func166,ntmps166;go_wp2_with fail;refine C1.out.mono ?_;rintro e w2 ⟨rfl,hb2⟩;replace hb:=bto hb hb2;clear hb2 C1
 by_cases g:0<=z
 ·have e1:decide (0<=z)=true:=Dt g;have HZ:Hid (EZ z=z):=if_pos g;go_wp2;go_ret2;refine⟨?_,hb⟩;rw[HZ.out]
  first|rfl|(simp[g,Int.max_def];intro h;omega)
 ·have e1:decide (0<=z)=false:=Df g;have HZ:Hid (EZ z=0):=if_neg g;go_wp2;go_ret2;refine⟨?_,hb⟩;rw[HZ.out]
  first|rfl|(simp[e1,Int.max_def];intro h;omega)
theorem V7 {l:List UInt8} (hl:l.length<=100000):Ret 161 #[.string ⟨l.toArray⟩] (.bool (decide (0<val l))):=fun w hG=>by
 have hb:=Below.refl w.heap.size w;have C1:=Lh (ZA (l:=l) (l':=[]) (by omega) (by decide) (show _=Zy (val l) 0 from rfl))
 have hz:=(Lk (val l)).2.2.1;have HV:Hid (decide (0<Zy (val l) 0)=decide (0<val l)):=by show _=_;rw[decide_eq_decide];exact hz
 generalize Zy (val l) 0=c at *;generalize decide (0<val l)=R at *;clear hz;go_enter func161,ntmps161;go_wp2_with fail
 refine (C1.out.of hG hb).mono ?_
 rintro e w1 ⟨rfl,hb1⟩;go_wp2;go_ret;exact⟨ZV HV.out,bto hb hb1⟩
theorem Mv {a b:List UInt8} (ha:a.length<=100000) (hb0:b.length<=100000):Ret 165 #[.string ⟨a.toArray⟩,.string ⟨b.toArray⟩] (.string ⟨(Y0 a b).toArray⟩):=fun w hG=>by
 have hb:=Below.refl w.heap.size w;have C1:=Lh (ZA (l:=a) (l':=b) (by omega) (by omega) rfl)
 have hz:Zy (val a) (val b)<0↔val a<val b:=by
  unfold Zy
  split
  ·omega
  ·split<;>omega
 by_cases g:val a<val b
 ·have HV:Hid (Y0 a b=a):=if_pos g;have e1:Zy (val a) (val b)<0:=hz.2 g;generalize Zy (val a) (val b)=c at *;have e2:decide (c<0)=true:=Dt e1;clear hz g;go_enter func165,ntmps165;go_wp2_with fail
  refine (C1.out.of hG hb).mono ?_
  rintro e w1 ⟨rfl,hb1⟩;go_wp2;go_ret;exact⟨congrArg Ending.returned (str_eq HV.out.symm),bto hb hb1⟩
 ·have HV:Hid (Y0 a b=b):=if_neg g;have e1:¬Zy (val a) (val b)<0:=fun h=>g (hz.1 h)
  generalize Zy (val a) (val b)=c at *;have e2:decide (c<0)=false:=Df e1;clear hz g;go_enter func165,ntmps165;go_wp2_with fail
  refine (C1.out.of hG hb).mono ?_
  rintro e w1 ⟨rfl,hb1⟩;go_wp2;go_ret;exact⟨congrArg Ending.returned (str_eq HV.out.symm),bto hb hb1⟩
def Lz (rs:List (List UInt8)):Array Value:=(rs.map (fun r=>Value.string ⟨r.toArray⟩)).toArray
theorem SU {rs:List (List UInt8)} {i:Nat} {r:List UInt8} (h:rs[i]?=some r):(Lz rs)[i]?=some (.string ⟨r.toArray⟩):=by unfold Lz;simp[h]
theorem ZbR (bx br n c:Nat) (rs:List (List UInt8)) (i k:Nat) (ri rk:List UInt8) (w:World) (hG:Z5 w) (hbx:Blk w bx #[.slice (some ⟨br,0,none⟩) n c]) (hbr:Blk w br (Lz rs)) (hi:rs[i]?=some ri) (hk:rs[k]?=some rk) (hn:rs.length=n) (hri:ri.length<=100000) (hrk:rk.length<=100000) :
  Calls prog 292 #[.int .i64 i,.int .i64 k,.pointer (some ⟨bx,0,none⟩)] w fun e w'=>e=.returned (.int .i64 (orZ (Zy (val rk) (val ri)) (Q6 i k)))/\Below w.heap.size w w':=by
 have C1:=Lh (ZA (l:=rk) (l':=ri) (by omega) (by omega) rfl)
 have C2:=Lh (fun w'=>Zcv (i:Int) (k:Int) w')
 have rie:=SU hi;have rke:=SU hk;have li:i<n:=by rw[<-hn];exact (Lg.1 hi).1
 have lk:k<n:=by rw[<-hn];exact (Lg.1 hk).1
 obtain⟨x,hx⟩:∃x,x=Zy (val rk) (val ri):=⟨_,rfl⟩
 obtain⟨y,hy⟩:∃y,y=Q6 (i:Int) (k:Int):=⟨_,rfl⟩
 rw[<-hx] at C1 ⊢;rw[<-hy] at C2 ⊢;clear hi hk hri hrk hx hy hn;go_enter func292,ntmps292;go_wp2_with fail;refine Qy (by simp) (by simp) (by kernel_rfl) (by kernel_rfl) (by kernel_rfl) (by kernel_rfl) (by kernel_rfl) ?_
 simp only[List.dropLast_cons_cons,List.dropLast_singleton,List.getLast_cons_cons,List.getLast_singleton];refine KeW (fun ρ wz hw=>by have q0:wz.cell? ⟨bx,0,none⟩=some (.slice (some ⟨br,0,none⟩) n c):=(hbx.below hw).c 0;go_simp;try rfl) ?_
 iterate 2
  simp only[Act.put,StT,StZ,StS,Nat.reduceAdd];refine KeV ?_
 simp only[Act.put,StT,StZ,StS,Nat.reduceAdd];refine KeW (fun ρ wz hw=>by have q0:wz.cell? ⟨br,k,none⟩=some (.string ⟨rk.toArray⟩):=((hbr.below hw).c k).trans rke;go_simp;try rfl) ?_
 simp only[Act.put,StT,StZ,StS,Nat.reduceAdd];refine KeW (fun ρ wz hw=>by have q0:wz.cell? ⟨bx,0,none⟩=some (.slice (some ⟨br,0,none⟩) n c):=(hbx.below hw).c 0;go_simp;try rfl) ?_
 iterate 2
  simp only[Act.put,StT,StZ,StS,Nat.reduceAdd];refine KeV ?_
 simp only[Act.put,StT,StZ,StS,Nat.reduceAdd];refine KeW (fun ρ wz hw=>by have q0:wz.cell? ⟨br,i,none⟩=some (.string ⟨ri.toArray⟩):=((hbr.below hw).c i).trans rie;go_simp;try rfl) ?_
 simp only[Act.put,StT,StZ,StS,Nat.reduceAdd];refine KeC (fun wz hw=>C1.out.of hG hw) ?_
 iterate 2
  simp only[Act.put,StT,StZ,StS,Nat.reduceAdd];refine KeV ?_
 simp only[Act.put,StT,StZ,StS,Nat.reduceAdd];refine KeC (fun wz hw=>(C2.out wz).mono fun e w' h=>⟨h.1,h.2 ▸ Below.refl _ _⟩) ?_
 simp only[Act.put,StT,StZ,StS,Nat.reduceAdd];refine M4 (fun b=>.slice (some ⟨b,0,none⟩) 2 2) _ rfl (fun _=>rfl) (fun ρ wz hw=>by go_simp;try rfl) ?_
 simp only[Act.put,StT,StZ,StS,Nat.reduceAdd];intro ρ w2 hF;dsimp only;have hB:=(hF.box 12 _ _ rfl).2;have hb2:=hF.below;generalize ρ 12=bb at *;have h0:w2.cell? ⟨bb,0,none⟩=some (.int .i64 x):=Zg hB 0;have h1:w2.cell? ⟨bb,1,none⟩=some (.int .i64 y):=Zg hB 1;clear hF hB C1 C2;go_wp2_with fail
 refine (ZaY bb x y w2 h0 h1).mono ?_
 rintro e w3 ⟨rfl,rfl⟩;go_wp2;go_ret;exact⟨rfl,hb2⟩
def JK (rs:List (List UInt8)) (i k:Nat):Int:=orZ (Zy (val (rs.getD k [])) (val (rs.getD i []))) (Q6 i k)
theorem E3 (a b:Int):(a<b/\Zy a b = -1)∨(a=b/\Zy a b=0)∨(b<a/\Zy a b=1):=by
 unfold Zy
 split
 ·exact .inl ⟨‹_›,rfl⟩
 ·split
  ·exact .inr (.inr ⟨by omega,rfl⟩)
  ·exact .inr (.inl ⟨by omega,rfl⟩)
theorem Ae (rs:List (List UInt8)) (i k:Nat):(JK rs i k<0)↔(val (rs.getD k [])<val (rs.getD i [])∨(val (rs.getD k [])=val (rs.getD i [])/\i<k)):=by
 unfold JK orZ;have h:=E3 (val (rs.getD k [])) (val (rs.getD i []));generalize Zy (val (rs.getD k [])) (val (rs.getD i []))=c at *;have h2:Q6 (i:Int) (k:Int)<0↔i<k:=by
  unfold Q6
  split
  ·omega
  ·split<;>omega
 split
 ·rw[h2];omega
 ·omega
def Yq (f:List Int) (i:Nat):List Int:=f.take i++List.replicate (f.length-i) 0
theorem T5 (f:List Int):Yq f 0=List.replicate f.length 0:=by simp[Yq]
theorem QD (f:List Int) (i:Nat):(Yq f i).length=f.length:=by simp[Yq];omega
theorem QE (f:List Int) (i:Nat) (h:f.length<=i):Yq f i=f:=by
 unfold Yq;rw[List.take_of_length_le h,Nat.sub_eq_zero_of_le h];simp
theorem SX {f:List Int} {i k:Nat} (h:k<i) (hk:k<f.length):(Yq f i)[k]?=f[k]?:=by
 unfold Yq;rw[List.getElem?_append_left (by rw[List.length_take];omega),List.getElem?_take_of_lt h]
theorem V8 {f:List Int} {i k:Nat} (h:i<=k) (hk:k<f.length):(Yq f i)[k]?=some 0:=by
 unfold Yq;rw[List.getElem?_append_right (by rw[List.length_take];omega),List.getElem?_replicate]
 rw[if_pos];rw[List.length_take];omega
theorem QF {f:List Int} {i:Nat} {x:Int} (h:f[i]?=some x):(Yq f i).set i x=Yq f (i+1):=by
 obtain⟨hi,hx⟩:=Lg.1 h;apply List.ext_getElem?;intro k
 by_cases hk:k<f.length
 ·by_cases h1:k=i
  ·subst h1;rw[List.getElem?_set_self (by rw[QD];exact hi),SX (Nat.lt_succ_self _) hi,h]
  ·rw[List.getElem?_set_ne (Ne.symm h1)]
   by_cases h2:k<i
   ·rw[SX h2 hk,SX (Nat.lt_succ_of_lt h2) hk]
   ·rw[V8 (by omega) hk,V8 (by omega) hk]
 ·rw[List.getElem?_eq_none (by rw[List.length_set,QD];omega),List.getElem?_eq_none (by rw[QD];omega)]
def Va (T S:Int) (ws:List Int):List Int:=ws.map fun w=>T*w / S
def VU (T S:Int) (ws:List Int):List Int:=ws.map fun w=>T*w % S
theorem IU (T S:Int):∀ws:List Int,T*ws.sum=S*(Va T S ws).sum+(VU T S ws).sum
 | []=>by simp[Va,VU]
 | w::t=>by
  have ih:=IU T S t;have h:=Int.mul_ediv_add_emod (T*w) S;simp only[Va,VU,List.map_cons,List.sum_cons,Int.mul_add] at *;omega
theorem E4 (T S:Int) (hS:0<S):∀ws:List Int,0<=(VU T S ws).sum/\(VU T S ws).sum+ws.length<=S*ws.length
 | []=>by simp[VU]
 | w::t=>by
  have ih:=E4 T S hS t;have h1:=Int.emod_nonneg (T*w) (Int.ne_of_gt hS);have h2:=Int.emod_lt_of_pos (T*w) hS;simp only[VU,List.map_cons,List.sum_cons,List.length_cons] at *;have h3:S*((t.length+1:Nat):Int)=S*(t.length:Int)+S:=by rw[Int.natCast_add,Int.mul_add];simp
  rw[h3];omega
theorem IV (T:Int) (ws:List Int) (hS:0<ws.sum):0<=T-(Va T ws.sum ws).sum/\T-(Va T ws.sum ws).sum<ws.length:=by
 have h1:=IU T ws.sum ws;have h2:=E4 T ws.sum hS ws;have hne:ws≠[]:=fun e=>by subst e;simp at hS
 have hl:0<(ws.length:Int):=by
  have:=List.length_pos_iff.2 hne
  omega
 generalize (Va T ws.sum ws).sum=F at *;generalize (VU T ws.sum ws).sum=R at *;generalize ws.sum=S at *;generalize (ws.length:Int)=n at *;have e:S*(T-F)=R:=by rw[Int.mul_sub,Int.mul_comm S T];omega
 constructor
 ·rcases Int.lt_or_le (T-F) 0 with h|h
  ·have:S*(T-F)<0:=Int.mul_neg_of_pos_of_neg hS h
   omega
  ·exact h
 ·rcases Int.lt_or_le (T-F) n with h|h
  ·exact h
  ·have:=Int.mul_le_mul_of_nonneg_left h (Int.le_of_lt hS)
   omega
def bump (ps:List Int) (i:Nat):List Int:=ps.modify i (· + 1)
def WC (ps:List Int) (js:List Nat):List Int:=js.foldl bump ps
theorem LA (ps:List Int) (i:Nat):(bump ps i).length=ps.length:=by simp[bump]
theorem Nx:∀(js:List Nat) (ps:List Int),(WC ps js).length=ps.length
 | [],_=>rfl
 | j::t,ps=>by show (WC (bump ps j) t).length=_;rw[Nx t,LA]
theorem JL (ps:List Int) (js:List Nat) (j:Nat):WC ps (js++[j])=bump (WC ps js) j:=by simp[WC]
theorem E5 {ps:List Int} {i:Nat} {x:Int} (h:ps[i]?=some x):ps.set i (x+1)=bump ps i:=by
 unfold bump;obtain⟨hi,hx⟩:=Lg.1 h;apply List.ext_getElem?;intro k
 by_cases h1:k=i
 ·subst h1;rw[List.getElem?_set_self hi,List.getElem?_modify_eq,h];rfl
 ·rw[List.getElem?_set_ne (Ne.symm h1),List.getElem?_modify_ne _ _ (Ne.symm h1)]
theorem Af (ps:List Int) (i k:Nat):(bump ps i)[k]?=(ps[k]?).map fun x=>x+(if k=i then 1 else 0):=by
 unfold bump
 by_cases h1:k=i
 ·subst h1;rw[List.getElem?_modify_eq];cases ps[k]?<;>simp
 ·rw[List.getElem?_modify_ne _ _ (Ne.symm h1)];cases ps[k]?<;>simp[h1]
theorem SY:∀(js:List Nat) (ps:List Int) (k:Nat),(WC ps js)[k]?=(ps[k]?).map fun x=>x+(js.count k:Int)
 | [],ps,k=>by simp[WC]
 | j::t,ps,k=>by
  show (WC (bump ps j) t)[k]?=_;rw[SY t,Af];cases ps[k]? with
  | none=>rfl
  | some x=>
   simp only[Option.map_some,List.count_cons];congr 1
   by_cases h:k=j
   ·subst h;simp;omega
   ·have:(j==k)=false:=by rw[Bn];exact Ne.symm h
    simp[h,this]
theorem LB:∀(ps:List Int) (i:Nat),i<ps.length->(bump ps i).sum=ps.sum+1
 | [],_,h=>by simp at h
 | p::t,0,_=>by simp[bump];omega
 | p::t,i+1,h=>by
  have ih:=LB t i (by simpa using h)
  unfold bump at *;simp only[List.modify_succ_cons,List.sum_cons,ih];omega
theorem Ny:∀(js:List Nat) (ps:List Int),(∀j∈js,j<ps.length)->(WC ps js).sum=ps.sum+js.length
 | [],ps,_=>by simp[WC]
 | j::t,ps,h=>by
  show (WC (bump ps j) t).sum=_;rw[Ny t _ (fun x hx=>by rw[LA];exact h x (List.mem_cons_of_mem _ hx)),LB _ _ (h j List.mem_cons_self)]
  simp;omega
structure Oy (T:Int) (ws ps:List Int):Prop where
 len:ps.length=ws.length
 sum:ps.sum=T
 at':∀k:Nat,ps[k]?=(Va T ws.sum ws)[k]?∨ps[k]?=((Va T ws.sum ws)[k]?).map (· + 1)
 ord:∀i k:Nat,i<ws.length->k<ws.length->ps[i]?=((Va T ws.sum ws)[i]?).map (· + 1)->ps[k]?=(Va T ws.sum ws)[k]?->
  (VU T ws.sum ws).getD k 0<(VU T ws.sum ws).getD i 0∨((VU T ws.sum ws).getD k 0=(VU T ws.sum ws).getD i 0/\i<k)
theorem E6 (T:Int) (ws:List Int) (hS:0<ws.sum) (js:List Nat) (hp:js.Perm (List.range ws.length))
  (hs:js.Pairwise fun i k=>(VU T ws.sum ws).getD k 0<(VU T ws.sum ws).getD i 0∨((VU T ws.sum ws).getD k 0=(VU T ws.sum ws).getD i 0/\i<k)) :
  Oy T ws (WC (Va T ws.sum ws) (js.take (T-(Va T ws.sum ws).sum).toNat)):=by
 obtain⟨m0,m1⟩:=IV T ws hS;have hl:(Va T ws.sum ws).length=ws.length:=by simp[Va]
 have hjl:js.length=ws.length:=by rw[hp.length_eq,List.length_range]
 have hnd:js.Nodup:=hp.nodup_iff.2 List.nodup_range;have hmem:∀j,j∈js↔j<ws.length:=fun j=>by rw[hp.mem_iff,List.mem_range]
 obtain⟨M,hM⟩:∃M,M=(T-(Va T ws.sum ws).sum).toNat:=⟨_,rfl⟩
 rw[<-hM];have hcnt:∀k,(js.take M).count k=if k∈js.take M then 1 else 0:=fun k=>(hnd.sublist (List.take_sublist M js)).count
 refine⟨by rw[Nx,hl],?_,fun k=>?_,fun i k hi hk h1 h2=>?_⟩
 ·rw[Ny _ _ (fun j hj=>by rw[hl];exact (hmem j).1 (List.mem_of_mem_take hj)),List.length_take,hjl]
  omega
 ·rw[SY,hcnt]
  split
  ·right;cases (Va T ws.sum ws)[k]?<;>rfl
  ·left;cases (Va T ws.sum ws)[k]?<;>simp
 ·rw[SY,hcnt] at h1 h2;have gi:∃x,(Va T ws.sum ws)[i]?=some x:=⟨_,List.getElem?_eq_getElem (by omega)⟩
  have gk:∃x,(Va T ws.sum ws)[k]?=some x:=⟨_,List.getElem?_eq_getElem (by omega)⟩
  obtain⟨x,hx⟩:=gi;obtain⟨y,hy⟩:=gk;rw[hx] at h1;rw[hy] at h2;simp only[Option.map_some,Option.some.injEq] at h1 h2;have mi:i∈js.take M:=by
   by_cases h:i∈js.take M
   ·exact h
   ·rw[if_neg h] at h1;simp at h1;omega
  have mk:k∈js.drop M:=by
   by_cases h:k∈js.take M
   ·rw[if_pos h] at h2;simp at h2;omega
   ·have:k∈js.take M++js.drop M:=by rw[List.take_append_drop];exact (hmem k).2 hk
    rcases List.mem_append.1 this with h3|h3
    ·exact absurd h3 h
    ·exact h3
  have hs2:=hs;rw[<-List.take_append_drop M js] at hs2;exact (List.pairwise_append.1 hs2).2.2 i mi k mk
theorem Mw (n:Nat):(List.finRange n).map Fin.val=List.range n:=by
 apply List.ext_getElem<;>simp
theorem TN {α:Type} (a:Array α) (n:Nat) (h:a.size=n):a.extract 0 n=a:=by subst h;simp
def Q8 (R:Nat->Int) (x y:Nat):Prop:=R y<R x∨(R y=R x/\x<y)
theorem E7 {n:Nat} (R:Nat->Int) (lt:Fin n->Fin n->Bool) (hlt:∀x y,lt x y=true↔Q8 R x y):Go.Sort.SWO lt:=by
 have hf:∀x y,lt x y=false↔¬Q8 R x y:=fun x y=>by rw[<-hlt];cases lt x y<;>simp
 refine⟨fun x=>(hf x x).2 ?_,fun x y z h1 h2=>?_,fun x y z h1 h2=>?_⟩
 ·unfold Q8;omega
 ·rw[hlt] at *;unfold Q8 at *;omega
 ·rw[hf] at *;unfold Q8 at *;omega
theorem ZbS {n:Nat} [Inhabited (Fin n)] (R:Nat->Int) (lt:Fin n->Fin n->Bool) (hlt:∀x y,lt x y=true↔Q8 R x y) (d':Array (Fin n))
  (hp:Go.Sort.PermIn 0 n (List.finRange n).toArray d') (hs:Go.Sort.SortedIn lt 0 n d') :
  (d'.toList.map Fin.val).Perm (List.range n)/\(d'.toList.map Fin.val).Pairwise (Q8 R):=by
 have hf:∀x y,lt x y=false↔¬Q8 R x y:=fun x y=>by rw[<-hlt];cases lt x y<;>simp
 obtain⟨hz,-,hp⟩:=hp;have hz:d'.size=n:=by simpa using hz
 have e1:d'.extract 0 n=d':=TN _ _ hz;have e2:(List.finRange n).toArray.extract 0 n=(List.finRange n).toArray:=TN _ _ (by simp)
 rw[e1,e2] at hp;have hp2:(d'.toList.map Fin.val).Perm (List.range n):=by
  rw[<-Mw];exact hp.map _
 refine⟨hp2,?_⟩;have hnd:(d'.toList.map Fin.val).Nodup:=hp2.nodup_iff.2 List.nodup_range;rw[List.pairwise_iff_getElem];intro i j hi hj hij;have hj2:j<d'.size:=by simpa using hj
 have hi2:i<d'.size:=by simpa using hi
 have h1:=hs i j (Nat.zero_le _) hij (by omega)
 rw[getElem!_pos d' i hi2,getElem!_pos d' j hj2,hf] at h1;have h2:(d'.toList.map Fin.val)[i]≠(d'.toList.map Fin.val)[j]:=fun e=>by
  have:=(List.getElem_inj hnd).1 e
  omega
 simp only[List.getElem_map,Array.getElem_toList] at h2 ⊢;unfold Q8 at *;omega
end Go.Proofs.YtpieeldbamklkaaGreatDoor
namespace Go.Proofs
open Go.Shelf
def Tryz.laysC174_ren:Go.Shelf.Ren:=⟨fun|174=>321|247=>330|245=>195|287=>194|279=>253|280=>254|281=>255|282=>256|321=>251|322=>252|316=>299|171=>140|205=>300|243=>203|246=>267|283=>258|284=>259|285=>260|286=>261|129=>302|317=>301|318=>303|319=>304|320=>305|337=>326|338=>327|n=>n,fun|9=>9|3=>3|2=>2|75=>209|85=>388|4=>4|167=>327|5=>5|53=>207|175=>210|46=>283|168=>329|37=>214|0=>0|210=>374|21=>21|127=>289|145=>394|143=>392|171=>334|173=>337|212=>378|51=>339|20=>20|213=>379|232=>410|233=>411|80=>222|n=>n,fun|15=>0|16=>1|17=>2|18=>6|19=>7|n=>n⟩
theorem Tryz.laysC174:Go.Proofs.LaysC.n174 prog Tryz.laysC174_ren:={
 mixed:=by kernel_rfl
 f129:=func302.trans (congrArg some (by kernel_rfl))
 f171:=func140.trans (congrArg some (by kernel_rfl))
 f174:=func321.trans (congrArg some (by kernel_rfl))
 f205:=func300.trans (congrArg some (by kernel_rfl))
 f243:=func203.trans (congrArg some (by kernel_rfl))
 f245:=func195.trans (congrArg some (by kernel_rfl))
 f246:=func267.trans (congrArg some (by kernel_rfl))
 f247:=func330.trans (congrArg some (by kernel_rfl))
 f279:=func253.trans (congrArg some (by kernel_rfl))
 f280:=func254.trans (congrArg some (by kernel_rfl))
 f281:=func255.trans (congrArg some (by kernel_rfl))
 f282:=func256.trans (congrArg some (by kernel_rfl))
 f283:=func258.trans (congrArg some (by kernel_rfl))
 f284:=func259.trans (congrArg some (by kernel_rfl))
 f285:=func260.trans (congrArg some (by kernel_rfl))
 f286:=func261.trans (congrArg some (by kernel_rfl))
 f287:=func194.trans (congrArg some (by kernel_rfl))
 f316:=func299.trans (congrArg some (by kernel_rfl))
 f317:=func301.trans (congrArg some (by kernel_rfl))
 f318:=func303.trans (congrArg some (by kernel_rfl))
 f319:=func304.trans (congrArg some (by kernel_rfl))
 f320:=func305.trans (congrArg some (by kernel_rfl))
 f321:=func251.trans (congrArg some (by kernel_rfl))
 f322:=func252.trans (congrArg some (by kernel_rfl))
 f337:=func326.trans (congrArg some (by kernel_rfl))
 f338:=func327.trans (congrArg some (by kernel_rfl))
 t0:=underlying0
 a0:=isAgg0
 z0:=sizeOf0
 v0:=zeroValue0
 t2:=underlying2
 a2:=isAgg2
 z2:=sizeOf2
 v2:=zeroValue2
 t3:=underlying3
 a3:=isAgg3
 z3:=sizeOf3
 v3:=zeroValue3
 t4:=underlying4
 a4:=isAgg4
 z4:=sizeOf4
 v4:=zeroValue4
 t5:=underlying5
 a5:=isAgg5
 z5:=sizeOf5
 v5:=zeroValue5
 t9:=underlying9
 a9:=isAgg9
 z9:=sizeOf9
 v9:=zeroValue9
 t20:=underlying20
 a20:=isAgg20
 z20:=sizeOf20
 v20:=zeroValue20
 t21:=underlying21
 a21:=isAgg21
 z21:=sizeOf21
 v21:=zeroValue21
 t37:=underlying214
 a37:=isAgg214
 z37:=sizeOf214
 v37:=zeroValue214
 t46:=underlying283
 a46:=isAgg283
 z46:=sizeOf283
 v46:=zeroValue283
 t51:=underlying339
 a51:=isAgg339
 z51:=sizeOf339
 v51:=zeroValue339
 t53:=underlying207
 a53:=isAgg207
 z53:=sizeOf207
 v53:=zeroValue207
 t75:=underlying209
 a75:=isAgg209
 z75:=sizeOf209
 v75:=zeroValue209
 t85:=underlying388
 a85:=isAgg388
 z85:=sizeOf388
 v85:=zeroValue388
 t127:=underlying289
 a127:=isAgg289
 z127:=sizeOf289
 v127:=zeroValue289
 t143:=underlying392
 a143:=isAgg392
 z143:=sizeOf392
 v143:=zeroValue392
 t145:=underlying394
 a145:=isAgg394
 z145:=sizeOf394
 v145:=zeroValue394
 t167:=underlying327
 a167:=isAgg327
 z167:=sizeOf327
 v167:=zeroValue327
 t168:=underlying329
 a168:=isAgg329
 z168:=sizeOf329
 v168:=zeroValue329
 t171:=underlying334
 a171:=isAgg334
 z171:=sizeOf334
 v171:=zeroValue334
 t173:=underlying337
 a173:=isAgg337
 z173:=sizeOf337
 v173:=zeroValue337
 t175:=underlying210
 a175:=isAgg210
 z175:=sizeOf210
 v175:=zeroValue210
 t210:=underlying374
 a210:=isAgg374
 z210:=sizeOf374
 v210:=zeroValue374
 t212:=underlying378
 a212:=isAgg378
 z212:=sizeOf378
 v212:=zeroValue378
 t213:=underlying379
 a213:=isAgg379
 z213:=sizeOf379
 t232:=underlying410
 a232:=isAgg410
 z232:=sizeOf410
 v232:=zeroValue410
 t233:=underlying411
 a233:=isAgg411
 z233:=sizeOf411
 v233:=zeroValue411
 g15:=by kernel_rfl
 g16:=by kernel_rfl
 g17:=by kernel_rfl
 g18:=by kernel_rfl
 g19:=by kernel_rfl
 t80:=underlying222
 a80:=isAgg222
 z80:=sizeOf222
 v80:=zeroValue222
 i0:=by kernel_rfl
 i2:=by kernel_rfl
 i3:=by kernel_rfl
 i4:=by kernel_rfl
 i5:=by kernel_rfl
 i9:=by kernel_rfl
 i20:=by kernel_rfl
 i21:=by kernel_rfl
 i37:=by kernel_rfl
 i46:=by kernel_rfl
 i51:=by kernel_rfl
 i53:=by kernel_rfl
 i75:=by kernel_rfl
 i80:=by kernel_rfl
 i85:=by kernel_rfl
 i127:=by kernel_rfl
 i143:=by kernel_rfl
 i145:=by kernel_rfl
 i167:=by kernel_rfl
 i168:=by kernel_rfl
 i171:=by kernel_rfl
 i173:=by kernel_rfl
 i175:=by kernel_rfl
 i210:=by kernel_rfl
 i212:=by kernel_rfl
 i232:=by kernel_rfl
 i233:=by kernel_rfl
 m15:=by kernel_rfl
 m16:=by kernel_rfl
 m17:=by kernel_rfl
 m18:=by kernel_rfl
 m19:=by kernel_rfl
 c0:=by kernel_rfl
 c2:=by kernel_rfl
 c3:=by kernel_rfl
 c4:=by kernel_rfl
 c5:=by kernel_rfl
 c9:=by kernel_rfl
 c20:=by kernel_rfl
 c21:=by kernel_rfl
 c37:=by kernel_rfl
 c46:=by kernel_rfl
 c51:=by kernel_rfl
 c53:=by kernel_rfl
 c75:=by kernel_rfl
 c80:=by kernel_rfl
 c85:=by kernel_rfl
 c127:=by kernel_rfl
 c143:=by kernel_rfl
 c145:=by kernel_rfl
 c167:=by kernel_rfl
 c168:=by kernel_rfl
 c171:=by kernel_rfl
 c173:=by kernel_rfl
 c175:=by kernel_rfl
 c210:=by kernel_rfl
 c212:=by kernel_rfl
 c213:=by kernel_rfl
 c232:=by kernel_rfl
 c233:=by kernel_rfl }
open Go.RowKit in
theorem Tryz.strconv_ParseInt_10_at64_ok (s:ByteArray) (hmax:s.size<=9223372036854775806) (v:Int) (h:Lib.parseIntB 64 s.data.toList=.ok v) (w:World) :
  Calls prog 321 #[.string s,.int .i64 10,.int .i64 64] w fun e w'=>e=.returned (.tuple #[.int .i64 v,.nilIface])/\(w'=w∨∃t,w'=Lib.bytesWorld w 5 t):=Any.strconv_ParseInt_10_at64_ok Tryz.laysC174 s hmax v h w
def Tryz.laysSlF6_f291_ren:Go.Shelf.Ren:=⟨fun|6=>291|15=>319|14=>318|28=>340|29=>302|20=>332|21=>333|22=>334|23=>335|24=>336|25=>337|26=>338|27=>339|46=>348|47=>349|48=>350|49=>351|50=>352|57=>355|n=>n,fun|22=>198|24=>3|25=>363|3=>3|39=>283|0=>0|53=>339|55=>207|4=>4|46=>399|45=>398|50=>247|5=>5|9=>9|66=>412|70=>416|76=>419|77=>420|n=>n,fun|n=>n⟩
theorem Tryz.laysSlF6_f291:Go.Proofs.SlLaysF.n6 prog Tryz.laysSlF6_f291_ren:={
 mixed:=by kernel_rfl
 f6:=⟨Tryz.f291.name,by decide,func291.trans (congrArg some (by kernel_rfl))⟩
 f14:=⟨Tryz.f318.name,by decide,func318.trans (congrArg some (by kernel_rfl))⟩
 f15:=func319.trans (congrArg some (by kernel_rfl))
 f20:=⟨Tryz.f332.name,by decide,func332.trans (congrArg some (by kernel_rfl))⟩
 f21:=⟨Tryz.f333.name,by decide,func333.trans (congrArg some (by kernel_rfl))⟩
 f22:=⟨Tryz.f334.name,by decide,func334.trans (congrArg some (by kernel_rfl))⟩
 f23:=⟨Tryz.f335.name,by decide,func335.trans (congrArg some (by kernel_rfl))⟩
 f24:=⟨Tryz.f336.name,by decide,func336.trans (congrArg some (by kernel_rfl))⟩
 f25:=⟨Tryz.f337.name,by decide,func337.trans (congrArg some (by kernel_rfl))⟩
 f26:=⟨Tryz.f338.name,by decide,func338.trans (congrArg some (by kernel_rfl))⟩
 f27:=⟨Tryz.f339.name,by decide,func339.trans (congrArg some (by kernel_rfl))⟩
 f28:=func340.trans (congrArg some (by kernel_rfl))
 f29:=func302.trans (congrArg some (by kernel_rfl))
 f46:=⟨Tryz.f348.name,by decide,func348.trans (congrArg some (by kernel_rfl))⟩
 f47:=func349.trans (congrArg some (by kernel_rfl))
 f48:=func350.trans (congrArg some (by kernel_rfl))
 f49:=⟨Tryz.f351.name,by decide,func351.trans (congrArg some (by kernel_rfl))⟩
 f50:=⟨Tryz.f352.name,by decide,func352.trans (congrArg some (by kernel_rfl))⟩
 f57:=⟨Tryz.f355.name,by decide,func355.trans (congrArg some (by kernel_rfl))⟩
 t0:=underlying0
 a0:=isAgg0
 z0:=sizeOf0
 v0:=zeroValue0
 t3:=underlying3
 a3:=isAgg3
 z3:=sizeOf3
 v3:=zeroValue3
 t4:=underlying4
 a4:=isAgg4
 z4:=sizeOf4
 v4:=zeroValue4
 t5:=underlying5
 a5:=isAgg5
 z5:=sizeOf5
 v5:=zeroValue5
 t9:=underlying9
 a9:=isAgg9
 z9:=sizeOf9
 v9:=zeroValue9
 t22:=underlying198
 a22:=isAgg198
 z22:=sizeOf198
 v22:=zeroValue198
 a24:=isAgg3
 z24:=sizeOf3
 t25:=underlying363
 a25:=isAgg363
 z25:=sizeOf363
 v25:=zeroValue363
 t39:=underlying283
 a39:=isAgg283
 z39:=sizeOf283
 v39:=zeroValue283
 t45:=underlying398
 a45:=isAgg398
 z45:=sizeOf398
 v45:=zeroValue398
 t46:=underlying399
 a46:=isAgg399
 z46:=sizeOf399
 v46:=zeroValue399
 t50:=underlying247
 a50:=isAgg247
 z50:=sizeOf247
 v50:=zeroValue247
 t53:=underlying339
 a53:=isAgg339
 z53:=sizeOf339
 v53:=zeroValue339
 t55:=underlying207
 a55:=isAgg207
 z55:=sizeOf207
 v55:=zeroValue207
 t66:=underlying412
 a66:=isAgg412
 z66:=sizeOf412
 v66:=zeroValue412
 t70:=underlying416
 a70:=isAgg416
 z70:=sizeOf416
 v70:=zeroValue416
 t76:=underlying419
 a76:=isAgg419
 z76:=sizeOf419
 v76:=zeroValue419
 t77:=underlying420
 a77:=isAgg420
 z77:=sizeOf420
 v77:=zeroValue420 }
open Go.RowKit Go.Lib Go.Sort in
theorem Tryz.sortInt {α:Type} [Inhabited α] (enc:α->Value) (h1:OneCell enc) (cf:α->α->Int) (hO:SWO (ltOf cf)) (g:Nat) (cb:Array Value) (blk off cap:Nat) (d:Array α) (w:World) (eg:∀args w,(callFunc g args).run prog w=.ok (.enter g args) w) (hcmp:CmpLays1 prog g cb enc cf blk off d.size w) (hH:Holds enc w blk off d) (hblk:blk<w.heap.size) (hsz:d.size<4611686018427387904) :
  Calls prog 291 #[.slice (some ⟨blk,off,none⟩) d.size cap,.func (.func g) #[] cb] w fun e w'=>
   e=.returned (.tuple #[])/\∃d' n os,PermIn 0 d.size d d'/\SortedIn (ltOf cf) 0 d.size d'/\w'=sortWorld enc w blk off n d' os:=Any.slices_SortFunc Tryz.laysSlF6_f291 enc h1 cf hO g cb blk off cap d w eg hcmp hH hblk hsz
end Go.Proofs
namespace Go.Proofs.YtpieeldbamklkaaGreatDoor
open Go.RowKit Num
theorem LC:((List.range 1001).all fun n=>match Lib.parseIntB 64 (Z7 (n:Int)) with|.ok v=>v==(n:Int)|_=>false)=true:=by kernel_rfl
theorem Oz {n:Nat} (h:n<=1000):Lib.parseIntB 64 (Z7 (n:Int))=.ok (n:Int):=by
 have:=List.all_eq_true.1 LC n (List.mem_range.2 (by omega))
 revert this;cases Lib.parseIntB 64 (Z7 (n:Int)) with
 | ok v=>intro h;rw[beq_iff_eq] at h;rw[h]
 | _=>intro h;cases h
theorem Za1 {n:Nat} (h:n<=1000):Ret 294 #[.string ⟨(canon (n:Int)).toArray⟩] (.tuple #[.int .i64 (n:Int),.bool true]):=fun w hG=>by
 have hl:(canon (n:Int)).length<=100:=Nt (Zl (n:Int) 4 (by omega)) (by decide)
 have hp:=Mh (n:Int);have hs:=Oz h;have hz:(⟨(Z7 (n:Int)).toArray⟩:ByteArray).size<=9223372036854775806:=by
  show (Z7 (n:Int)).toArray.size<=_
  have:=SK (n:Int) (by omega) (by omega)
  simp;omega
 have C1:=Lh (Jb (canon (n:Int)) w (by exact Nt hl (by decide)))
 have C2:=Lh (fun w'=>Tryz.strconv_ParseInt_10_at64_ok ⟨(Z7 (n:Int)).toArray⟩ hz (n:Int) hs w')
 rw[hp] at C1;obtain⟨s,hse⟩:∃s,s=canon (n:Int):=⟨_,rfl⟩
 obtain⟨p,hpe⟩:∃p,p=Z7 (n:Int):=⟨_,rfl⟩
 rw[<-hse] at C1 ⊢;rw[<-hpe] at C1 C2;clear hl hp hs hz hse hpe;go_enter func294,ntmps294;go_wp2_with fail;refine C1.out.mono ?_;rintro e w1 ⟨rfl,hb1⟩;go_wp2_with fail;refine (C2.out w1).mono ?_;rintro e w2 ⟨rfl,hw2⟩;have hb2:Below w1.heap.size w1 w2:=by
  rcases hw2 with rfl|⟨t,rfl⟩
  ·exact Below.refl _ _
  ·exact bytesWorld_below _ _ _
 have hb:=bto hb1 hb2;clear hw2 hb1 hb2 C1 C2;go_wp2;go_ret2;exact⟨rfl,hb⟩
def zsC (zs:List Int):Array Value:=Lz (zs.map canon)
def izC (zs:List Int):Array Value:=(zs.map (fun z=>Value.int .i64 z)).toArray
def TC (js:List Nat):Array Value:=(js.map (fun (k:Nat)=>Value.int .i64 (k:Int))).toArray
theorem T6 {zs:List Int} {k:Nat} {z:Int} (h:zs[k]?=some z):(zsC zs)[k]?=some (.string ⟨(canon z).toArray⟩):=SU (by simp[h])
theorem PD (zs:List Int) (k:Nat) (z:Int):(zsC zs).setIfInBounds k (.string ⟨(canon z).toArray⟩)=zsC (zs.set k z):=by
 unfold zsC Lz;simp[List.map_set]
theorem Ah (zs:List Int) (k:Nat) (z:Int):(izC zs).setIfInBounds k (.int .i64 z)=izC (zs.set k z):=by
 unfold izC;simp[List.map_set]
theorem IW {js:List Nat} {k j:Nat} (h:js[k]?=some j):(TC js)[k]?=some (.int .i64 (j:Int)):=by simp[TC,h]
theorem Ai (js:List Nat):izC (js.map (fun (k:Nat)=>(k:Int)))=TC js:=by simp[izC,TC]
section
variable {α:Type} [Inhabited α]
theorem Nz (enc:α->Value) (w:World) (bo:Nat) (cs:Array Value) (t:TypeId) (h:w.heap[bo]?=some (.cells cs t (0,0))) (d':Array α) (hs:d'.size=cs.size) (m:Nat) (os:Array Obj) :
  (Sort.grow (Sort.putRow enc (Sort.ahead w m) bo 0 d') os).heap[bo]?=some (.cells (d'.map enc) t (0,0))/\Zq (fun b=>b=bo) w (Sort.grow (Sort.putRow enc (Sort.ahead w m) bo 0 d') os):=by
 have hb:bo<w.heap.size:=(Ag.1 h).1;have e:Sort.putCells enc 0 d' cs=d'.map enc:=by
  apply Array.ext
  ·simp[Sort.putCells,hs]
  ·intro i h1 h2;have h3:i<d'.size:=by simpa using h2
   simp only[Sort.putCells,Array.getElem_mapIdx,Array.getElem_map];rw[if_pos (by omega),Nat.sub_zero,getElem!_pos d' i h3]
 refine⟨?_,rfl,rfl,rfl,?_,fun k hk hne=>?_⟩
 ·rw[Sort.heap_grow_old _ _ (by rw[Sort.size_putRow];exact hb)]
  unfold Sort.putRow Sort.mapBlock Sort.ahead;simp only[Array.getElem?_modify,if_true,h,Option.map_some,Sort.onCells,e]
 ·rw[Sort.size_grow,Sort.size_putRow];exact Nat.le_add_right _ _
 ·have hne:bo≠k:=fun e=>hne e.symm
  rw[Sort.heap_grow_old _ _ (by rw[Sort.size_putRow];exact hk)]
  unfold Sort.putRow Sort.mapBlock Sort.ahead;simp only[Array.getElem?_modify,if_neg hne]
end
theorem E8 (args:Array Value) (w:World):(callFunc 292 args).run prog w=.ok (.enter 292 args) w:=by kernel_rfl
theorem ZbT {w0 w:World} {bx br bo n:Nat} {t:TypeId} (rs:List (List UInt8)) (hG:Z5 w0) (hb:Below w0.heap.size w0 w) (hbo1:w0.heap.size<=bo) (hbx:Blk w bx #[.slice (some ⟨br,0,none⟩) n n]) (hbr:Blk w br (Lz rs)) (hbo:w.heap[bo]?=some (.cells (TC (List.range n)) t (0,0)))
  (hn:rs.length=n) (hn0:0<n) (hn1:n<=100000) (hrl:∀r∈rs,r.length<=100000) (hne:bx≠bo) (hne2:br≠bo) :
  Calls prog 291 #[.slice (some ⟨bo,0,none⟩) n n,.func (.func 292) #[] #[.pointer (some ⟨bx,0,none⟩)]] w fun e w'=>e=.returned (.tuple #[])/\
   (∃js:List Nat,js.Perm (List.range n)/\js.Pairwise (Q8 fun i=>val (rs.getD i []))/\w'.heap[bo]?=some (.cells (TC js) t (0,0)))/\Zq (fun b=>b=bo) w w':=by
 obtain⟨m,rfl⟩:∃m,n=m+1:=⟨n-1,by omega⟩
 have hlt:∀x y:Fin (m+1),ltOf (fun x y:Fin (m+1)=>JK rs x y) x y=true↔Q8 (fun i=>val (rs.getD i [])) x y:=fun x y=>by
  unfold ltOf;rw[decide_eq_true_iff];exact Ae rs x y
 have hO:=E7 (fun i=>val (rs.getD i [])) _ hlt
 have hd:(List.finRange (m+1)).toArray.size=m+1:=by simp
 have hcs:(TC (List.range (m+1))).size=m+1:=by simp[TC]
 have hlow:∀k,k=bo->w0.heap.size<=k:=fun k hk=>by rw[hk];exact hbo1
 have hH:Sort.Holds (fun x:Fin (m+1)=>Value.int .i64 (x.val:Int)) w bo 0 (List.finRange (m+1)).toArray:=fun j hj=>by
  rw[hd] at hj;rw[Nat.zero_add];refine⟨?_,Zn hbo j⟩;rw[Zg hbo j,IW (j:=j) (by simp[hj]),getElem!_pos _ j (by rw[hd];exact hj)]
  simp
 have hcmp:CmpLays1 prog 292 #[.pointer (some ⟨bx,0,none⟩)] (fun x:Fin (m+1)=>Value.int .i64 (x.val:Int)) (fun x y:Fin (m+1)=>JK rs x y) bo 0 (List.finRange (m+1)).toArray.size w:=fun q os dk hs x y=>by
  rw[hd] at hs;obtain⟨h1,h2⟩:=Nz (fun x:Fin (m+1)=>Value.int .i64 (x.val:Int)) w bo _ t hbo dk (by rw[hs,hcs]) q os
  have hx:∃r,rs[x.val]?=some r:=⟨_,List.getElem?_eq_getElem (by rw[hn];exact x.isLt)⟩
  have hy:∃r,rs[y.val]?=some r:=⟨_,List.getElem?_eq_getElem (by rw[hn];exact y.isLt)⟩
  obtain⟨ri,hri⟩:=hx;obtain⟨rk,hrk⟩:=hy;have hk:=Go.Proofs.YtpieeldbamklkaaGreatDoorMono.calls_grown (ZbR bx br (m+1) (m+1) rs x.val y.val ri rk _ (hG.below (h2.lower hb hlow)) (hbx.keepX h2 hne) (hbr.keepX h2 hne2) hri hrk hn (hrl ri (Lm hri)) (hrl rk (Lm hrk)));have e:orZ (Zy (val rk) (val ri)) (Q6 (x.val:Int) (y.val:Int))=JK rs x y:=by
   unfold JK;rw[List.getD_eq_getElem?_getD,List.getD_eq_getElem?_getD,hri,hrk];rfl
  rw[e] at hk;exact hk
 have key:=Tryz.sortInt (fun x:Fin (m+1)=>Value.int .i64 (x.val:Int)) (fun _=>rfl) (fun x y:Fin (m+1)=>JK rs x y) hO 292 #[.pointer (some ⟨bx,0,none⟩)] bo 0 (m+1) (List.finRange (m+1)).toArray w E8 hcmp hH (Ag.1 hbo).1 (Nat.lt_of_le_of_lt (by rw[hd];exact hn1) (by decide))
 rw[hd] at key;refine key.mono ?_;rintro e w' ⟨he,d',q,os,hp,hs,hw⟩;obtain⟨j1,j2⟩:=ZbS (fun i=>val (rs.getD i [])) _ hlt d' hp hs
 have hsz:d'.size=(TC (List.range (m+1))).size:=by rw[hcs];exact hp.1.trans hd
 obtain⟨h1,h2⟩:=Nz (fun x:Fin (m+1)=>Value.int .i64 (x.val:Int)) w bo _ t hbo d' hsz q os
 have hw2:w'=Sort.grow (Sort.putRow (fun x:Fin (m+1)=>Value.int .i64 (x.val:Int)) (Sort.ahead w q) bo 0 d') os:=hw
 rw[hw2];refine⟨he,⟨_,j1,j2,h1.trans ?_⟩,h2⟩;congr 2;apply Array.ext';simp[TC]
theorem QG:(prog.info? 32).map (fun i=>(i.zero,i.size,i.bytes))=some (some (.string ⟨#[]⟩),1,16):=by kernel_rfl
theorem GT:(prog.info? 3).map (fun i=>(i.zero,i.size,i.bytes))=some (some (.int .i64 0),1,8):=by kernel_rfl
theorem E9 (n:Nat) (hn:n<=100000) (w:World) :
  (Instr.makeSlice 50 (.int .i64 (n:Int)) (.int .i64 (n:Int))).run prog w=.ok (.slice (some ⟨w.heap.size,0,none⟩) n n) (w.alloc (.cells (zsC (List.replicate n 0)) 32)):=by
 obtain⟨i0,hi,hz0,hz1,hz2⟩:=info_parts QG;rw[VR 50 32 i0 (.string ⟨#[]⟩) underlying50 hi hz0 .i64 .i64 n n (Nl _) (by rw[hz2];omega) (by omega) w,hz1]
 have:madeCells (Value.string ⟨#[]⟩).cells (n*1)=zsC (List.replicate n 0):=by
  apply Array.ext';show (madeCells #[.string ⟨#[]⟩] (n*1)).toList=_;have e:(canon 0).toArray=#[]:=by decide
  rw[toList_madeCells_one];simp[zsC,Lz,List.map_replicate,e]
 rw[this]
theorem Db (n:Nat) (hn:n<=100000) (w:World) :
  (Instr.makeSlice 198 (.int .i64 (n:Int)) (.int .i64 (n:Int))).run prog w=.ok (.slice (some ⟨w.heap.size,0,none⟩) n n) (w.alloc (.cells (izC (List.replicate n 0)) 3)):=by
 obtain⟨i0,hi,hz0,hz1,hz2⟩:=info_parts GT;rw[VR 198 3 i0 (.int .i64 0) underlying198 hi hz0 .i64 .i64 n n (Nl _) (by rw[hz2];omega) (by omega) w,hz1]
 have:madeCells (Value.int .i64 0).cells (n*1)=izC (List.replicate n 0):=by
  apply Array.ext';show (madeCells #[.int .i64 0] (n*1)).toList=_;rw[toList_madeCells_one];simp[izC]
 rw[this]
structure Zcx (w:World) (bp br bx n:Nat) (wx:World):Prop where
 lp:w.heap.size<=bp
 lr:w.heap.size<=br
 lx:w.heap.size<=bx
 pr:bp≠br
 px:bp≠bx
 rx:br≠bx
 p:wx.heap[bp]?=some (.cells (zsC (List.replicate n 0)) 32 (0,0))
 r:wx.heap[br]?=some (.cells (zsC (List.replicate n 0)) 32 (0,0))
 x:Blk wx bx #[.slice (some ⟨br,0,none⟩) n n]
 below:Below w.heap.size w wx
structure Za2 (w0 w:World) (bp br bx bo n:Nat) (Q R I:List Int) (k:Nat) (wr:World):Prop where
 below:Below w0.heap.size w0 wr
 bw:Zq (fun b=>b=bp∨b=br∨b=bo) w wr
 p:wr.heap[bp]?=some (.cells (zsC (Yq Q k)) 32 (0,0))
 r:wr.heap[br]?=some (.cells (zsC (Yq R k)) 32 (0,0))
 o:wr.heap[bo]?=some (.cells (izC (Yq I k)) 3 (0,0))
 x:Blk wr bx #[.slice (some ⟨br,0,none⟩) n n]
theorem al3 (w1:World) (a b c:Obj):(((w1.alloc a).alloc b).alloc c).drew.heap[w1.heap.size]?=some a/\(((w1.alloc a).alloc b).alloc c).drew.heap[w1.heap.size+1]?=some b/\(((w1.alloc a).alloc b).alloc c).drew.heap[w1.heap.size+1+1]?=some c/\Below w1.heap.size w1 (((w1.alloc a).alloc b).alloc c).drew:=by
 have h0:(((w1.alloc a).alloc b).alloc c).drew.heap=((w1.heap.push a).push b).push c:=rfl;refine⟨?_,?_,?_,?_⟩
 ·rw[h0];simp only[Array.getElem?_push,Array.size_push];rw[if_neg (by omega),if_neg (by omega),if_pos trivial]
 ·rw[h0];simp only[Array.getElem?_push,Array.size_push];rw[if_neg (by omega),if_pos trivial]
 ·rw[h0];simp only[Array.getElem?_push,Array.size_push];rw[if_pos trivial]
 ·exact Zaq (bto (bto (Zb w1 a) (Zb _ b)) (Zb _ c))
theorem WE:∀(Q:List Int) (k:Nat),(∀q∈Q,0<=q)->0<=(Q.take k).sum/\(Q.take k).sum<=Q.sum
 | [],k,_=>by simp
 | q::t,0,h=>by
  have h1:=(WE t 0 (fun x hx=>h x (List.mem_cons_of_mem _ hx))).2
  have h2:=h q List.mem_cons_self;simp at h1 ⊢;omega
 | q::t,k+1,h=>by
  have h1:=WE t k (fun x hx=>h x (List.mem_cons_of_mem _ hx))
  have h2:=h q List.mem_cons_self;simp only[List.take_succ_cons,List.sum_cons];omega
theorem Za3 {z:Int} {T:List UInt8} (hT:T.length<=5000) (h0:0<=z) (h1:z<=val T+1000):(canon z).length<=5100:=by
 obtain⟨N,hN⟩:∃N,N=5000:=⟨_,rfl⟩
 rw[<-hN] at hT;have h:=Zo (l:=T) hT;refine Nt (Zl z (N+1) ?_) (by omega)
 have e:(10:Nat) ^ (N+1)=10 ^ N*10:=Nat.pow_succ ..;rw[e];have h3:(1000:Nat)<=10 ^ N:=Nt (by decide:1000<=10 ^ 3) (Nat.pow_le_pow_right (by decide) (by omega))
 generalize (10:Nat) ^ N=P at *;omega
theorem XG {a b:Int} {k:Nat} (h:0<=a/\a<=b) (hb:(canon b).length<=k):(canon a).length<=k+1:=by
 have h1:=Zo hb;rw[Zh] at h1;exact Zl a k (by omega)
theorem JM {T S:Int} {zs:List Int} {k:Nat} {z:Int} (h:zs[k]?=some z):(Va T S zs)[k]?=some (T*z / S)/\(VU T S zs)[k]?=some (T*z % S):=by
 simp[Va,VU,h]
theorem TO {Q:List Int} {k:Nat} {q:Int} (h:Q[k]?=some q):(Q.take (k+1)).sum=(Q.take k).sum+q:=by
 obtain⟨hk,rfl⟩:=Lg.1 h;rw[List.take_succ_eq_append_getElem hk,List.sum_append];simp
def Zcy (w:World) (T:Int) (zs:List Int) (n:Nat) (e:Ending) (w':World):Prop:=
 ∃bp ps,e=.returned (.slice (some ⟨bp,0,none⟩) n n)/\w.heap.size<=bp/\w'.heap[bp]?=some (.cells (zsC ps) 32 (0,0))/\Oy T zs ps/\Below w.heap.size w w'
theorem IY:∀(ws:List (List UInt8)),(∀r∈ws,0<=val r)->0<=XJ ws
 | [],_=>Int.le_refl _
 | r::t,h=>by
  have h1:=IY t (fun x hx=>h x (List.mem_cons_of_mem _ hx))
  have h2:=h r List.mem_cons_self;rw[Nr];omega
theorem JN (R:List Int) (i:Nat):val ((R.map canon).getD i [])=R.getD i 0:=by
 rw[List.getD_eq_getElem?_getD,List.getD_eq_getElem?_getD,List.getElem?_map];cases R[i]? with
 | none=>rfl
 | some z=>simp[Zh]
theorem GU (n:Nat):izC ((List.range n).map (fun (k:Nat)=>(k:Int)))=TC (List.range n):=Ai _
theorem Dc {a b:Int} (h:0<b):WW a b=a / b/\Up a b=a % b:=by
 unfold WW Up;exact⟨if_pos (by omega),if_pos (by omega)⟩
theorem NA {w:World} {A:Option Addr} {ws:List (List UInt8)} {n:Nat} (c:Nat) {T:List UInt8} (hG:GE w) (hI:WK w A ws n) (hT:T.length<=5000) (h0:1<=n) (hn1:n<=1000) (hpos:∀r∈ws,0<=val r) (hS:XJ ws≠0) (hT0:0<=val T) :
  Calls prog 242 #[.string ⟨T.toArray⟩,.slice A n c] w (Zcy w (val T) (ws.map val) n):=by
 have hS0:0<XJ ws:=by
  have:0<=XJ ws:=IY ws hpos
  omega
 obtain⟨S,hSe⟩:∃S,S=XJ ws:=⟨_,rfl⟩
 obtain⟨zs,hzs⟩:∃zs,zs=ws.map val:=⟨_,rfl⟩
 have hzS:zs.sum=S:=by rw[hzs,hSe];rfl
 rw[<-hzs];obtain⟨Q,hQ⟩:∃Q,Q=Va (val T) S zs:=⟨_,rfl⟩
 obtain⟨R,hR⟩:∃R,R=VU (val T) S zs:=⟨_,rfl⟩
 obtain⟨I,hIe⟩:∃I,I=(List.range n).map (fun (k:Nat)=>(k:Int)):=⟨_,rfl⟩
 have hzl:zs.length=n:=by rw[hzs,List.length_map];exact hI.len
 have hQl:Q.length=n:=by rw[hQ];simp[Va,hzl]
 have hRl:R.length=n:=by rw[hR];simp[VU,hzl]
 have hIl:I.length=n:=by rw[hIe];simp
 have hSl:(canon S).length<=2008:=by rw[hSe];exact Lr 2000 ws hI.sm (by rw[hI.len];omega)
 have C0:=Lh (EN c hG.g hI);have HI:=Lh hI.mem;have HSM:=Lh hI.sm;have HN:=Lh hI.len;obtain⟨hm0,hm1⟩:=IV (val T) zs (by rw[hzS,hSe];exact hS0)
 rw[hzS,<-hQ] at hm0 hm1;rw[hzl] at hm1;have hmk1:=fun w=>E9 n (by omega) w
 have hmk2:=fun w=>Db n (by omega) w
 have hQn:∀q∈Q,0<=q:=fun q hq=>by
  rw[hQ] at hq;obtain⟨z,hz,rfl⟩:=List.mem_map.1 hq;rw[hzs] at hz;obtain⟨r,hr,rfl⟩:=List.mem_map.1 hz;exact Int.ediv_nonneg (Int.mul_nonneg hT0 (hpos r hr)) (by rw[hSe];omega)
 have HQN:Hid (∀k,0<=(Q.take k).sum/\(Q.take k).sum<=val T):=fun k=>by
  have:=WE Q k hQn
  omega
 have HQM:Hid (∀q∈Q,0<=q/\q<=val T):=fun q hq=>by
  refine⟨hQn q hq,?_⟩;obtain⟨i,hi⟩:=List.getElem?_of_mem hq;have h1:=TO hi;have h2:=(WE Q (i+1) hQn).2;have h3:=(WE Q i hQn).1;omega
 rw[<-hSe] at C0 hS0;have HSS:=Lh hS0;have HP:Hid (∀js:List Nat,js.Perm (List.range n)->js.Pairwise (Q8 fun i=>R.getD i 0)->Oy (val T) zs (WC Q (js.take (val T-Q.sum).toNat))):=fun js h1 h2=>by
  have:=E6 (val T) zs (by rw[hzS];exact hS0) js (by rw[hzl];exact h1) (by rw[hzS,<-hR];exact h2)
  rw[hzS,<-hQ] at this;exact this
 have HQ:=Lh hQ;have HR:=Lh hR;have HZS:=Lh hzs;have HIE:=Lh hIe;have HQL:=Lh hQl;have HRL:=Lh hRl;have HIL:=Lh hIl;have HM:=Lh (And.intro hm0 hm1);clear hSe hzS hQ hR hIe hzs hzl hQl hRl hIl hI hpos hS hS0 hm0 hm1 hQn;go_enter func242,ntmps242;go_wp2_with fail
 refine (C0.out).mono ?_
 rintro e w1 ⟨rfl,hb1⟩
 go_upto_region 2 with fail
 go_cut [6,7] from 18 to 23 (fun s6 s7 wx=>∃bp br bx,s6=.slice (some ⟨bp,0,none⟩) n n/\s7=.pointer (some ⟨bx,0,none⟩)/\Zcx w1 bp br bx n wx)
 case first=>
  clear C0
  go_region
  all_goals (go_wp2_with fail)
  all_goals go_meet
  all_goals first
   | (refine⟨_,w1.heap.size,_,rfl,rfl,⟨by omega,by omega,by omega,by omega,by omega,by omega,?_,?_,⟨50,?_⟩,?_⟩⟩<;>first|exact (al3 _ _ _ _).1|exact (al3 _ _ _ _).2.1|exact (al3 _ _ _ _).2.2.1|exact (al3 _ _ _ _).2.2.2)
   | (refine⟨_,w1.heap.size+1,_,rfl,rfl,⟨by omega,by omega,by omega,by omega,by omega,by omega,?_,?_,⟨50,?_⟩,?_⟩⟩<;>first|exact (al3 _ _ _ _).1|exact (al3 _ _ _ _).2.1|exact (al3 _ _ _ _).2.2.1|exact (al3 _ _ _ _).2.2.2)
   | (refine⟨_,w1.heap.size+1+1,_,rfl,rfl,⟨by omega,by omega,by omega,by omega,by omega,by omega,?_,?_,⟨50,?_⟩,?_⟩⟩<;>first|exact (al3 _ _ _ _).1|exact (al3 _ _ _ _).2.1|exact (al3 _ _ _ _).2.2.1|exact (al3 _ _ _ _).2.2.2)
 case rest=>
  rename World=>wx
  obtain⟨bp,br,bx,rfl,rfl,HNw⟩:=hcut;have hbW:=bto hb1 HNw.below;have hbo:=Zb wx (.cells (izC (List.replicate n 0)) 3);have HPW:Hid (Za2 w wx bp br bx wx.heap.size n Q R I 0 (wx.alloc (.cells (izC (List.replicate n 0)) 3))):=by
   have l1:=(Ag.1 HNw.p).1;have l2:=(Ag.1 HNw.r).1;refine⟨bto hbW hbo,Zq.of_below hbo,?_,?_,?_,HNw.x.below hbo⟩
   ·rw[T5,HQL.out];exact (hbo.block _ l1).trans HNw.p
   ·rw[T5,HRL.out];exact (hbo.block _ l2).trans HNw.r
   ·rw[T5,HIL.out];simp[World.alloc,-World.alloc_eq]
  have hpr:=HNw.pr;have hpx:=HNw.px;have hrx:=HNw.rx;have hpo:bp≠wx.heap.size:=fun e=>by have:=(Ag.1 HNw.p).1;omega
  have hro:br≠wx.heap.size:=fun e=>by have:=(Ag.1 HNw.r).1;omega
  have hxo:bx≠wx.heap.size:=fun e=>by have:=HNw.x.lt;omega
  have hlp:=Nt hb1.size HNw.lp;have hlr:=Nt hb1.size HNw.lr;have hlo:w.heap.size<=wx.heap.size:=hbW.size;have HL:=Lh (And.intro hlp (And.intro hlr hlo));have HNE:=Lh (And.intro hpr (And.intro hpx (And.intro hrx (And.intro hpo (And.intro hro hxo)))));clear hmk1 HNw hbo hbW hb1 hpr hpx hrx hpo hro hxo hlp hlr hlo;go_wp2_with fail;clear hmk2
  go_loopw [9,10,11,30] (fun mv _ _ iv wr=>∃(k:Nat) (m:List UInt8),k<=n/\mv=.string ⟨m.toArray⟩/\iv=.int .i64 (k:Int)/\Hid (m.length<=5100/\val m=val T-(Q.take k).sum/\(1<=k->m=canon (val m)))/\Hid (Za2 w wx bp br bx wx.heap.size n Q R I k wr)) (fun _ _ _ iv _=>n-(intOf iv).toNat)
  case atStart=>exact⟨0,T,Nat.zero_le _,rfl,rfl,⟨by omega,by simp,fun h=>by omega⟩,HPW.out⟩
  case round=>
   clear HPW;obtain⟨k,m,hk,rfl,rfl,HMV,HPW⟩:=hrel;have hbw:=HPW.out.below
   by_cases hlk:k<n
   rotate_left
   ·have e1:decide (k<n)=false:=Df hlk;have e2:decide ((k:Int)<(n:Int))=false:=Df (by omega)
    have hlp:=HL.out.1;have hlo:=HL.out.2.2;obtain⟨hpr,hpx,hrx,hpo,hro,hxo⟩:=HNE.out;have HPn:Hid (wr.heap[bp]?=some (.cells (zsC Q) 32 (0,0))):=by
     have h:=HPW.out.p;rw[QE Q k (by have:=HQL.out;omega)] at h
     exact h
    have hRn:Blk wr br (Lz (R.map canon)):=by
     have h:=HPW.out.r;rw[QE R k (by have:=HRL.out;omega)] at h
     exact⟨_,h⟩
    have hOn:wr.heap[wx.heap.size]?=some (.cells (TC (List.range n)) 3 (0,0)):=by
     have h:=HPW.out.o;rw[QE I k (by have:=HIL.out;omega),HIE.out,GU] at h
     exact h
    have hXn:=HPW.out.x;obtain⟨z,hz⟩:∃z:Nat,(z:Int)=val T-Q.sum:=⟨(val T-Q.sum).toNat,by have:=HM.out;omega⟩
    have hzn:z<n:=by have:=HM.out;omega
    obtain rfl:m=canon (z:Int):=by
     rw[HMV.out.2.2 (by omega),HMV.out.2.1,List.take_of_length_le (by have:=HQL.out;omega),hz]
    have HZ:=Lh hz
    have CS:=Lh (ZbT (R.map canon) hG.g hbw hlo hXn hRn hOn (by rw[List.length_map];exact HRL.out) (by omega) (by omega) (fun r hr=>by
     obtain⟨x,hx,rfl⟩:=List.mem_map.1 hr;rw[HR.out] at hx;obtain⟨y,hy,rfl⟩:=List.mem_map.1 hx;have h1:=Int.emod_nonneg (val T*y) (Int.ne_of_gt HSS.out);have h2:=Int.emod_lt_of_pos (val T*y) HSS.out
     exact Nt (XG (by omega) hSl) (by decide)) hxo hro)
    have CM:=Lh (Za1 (n:=z) (by omega))
    have hz1:(z:Int)<=(n:Int):=by omega
    clear HMV HPW hz hXn hRn hOn hk hlk;go_wp2_with fail;refine CS.out.mono ?_;rintro e w7 ⟨rfl,⟨js,hj1,hj2,hj3⟩,hb7⟩;clear e1 e2 CS;rw[show (fun i=>val ((R.map canon).getD i []))=fun i=>R.getD i 0 from funext (JN R)] at hj2
    have hb8:=hb7.lower hbw (fun k hk=>by rw[hk];exact hlo)
    have HP7:Hid (w7.heap[bp]?=some (.cells (zsC Q) 32 (0,0))):=(hb7.block _ (Ag.1 HPn.out).1 hpo).trans HPn.out;have HO7:=Lh hj3;have HJ1:=Lh hj1;have HJ2:=Lh hj2;clear hbw hb7 hj1 hj2 hj3 HPn;go_wp2_with fail
    refine (CM.out.of hG.g hb8).mono ?_
    rintro e w8 ⟨rfl,hb9⟩;have hb:=bto hb8 hb9;have HP8:Hid (w8.heap[bp]?=some (.cells (zsC Q) 32 (0,0))):=(hb9.block _ (Ag.1 HP7.out).1).trans HP7.out;have HO8:Hid (w8.heap[wx.heap.size]?=some (.cells (TC js) 3 (0,0))):=(hb9.block _ (Ag.1 HO7.out).1).trans HO7.out;have HNE:=Lh hpo;clear hb8 hb9 HP7 HO7 CM hpr hpx hrx hpo hro hxo;go_wp2_with fail
    rename World=>wo
    go_loopw [15,73] (fun _ iv wr=>∃t:Nat,t<=z/\iv=.int .i64 (t:Int)/\Hid (Below w.heap.size w wr)/\Hid (wr.heap[bp]?=some (.cells (zsC (WC Q (js.take t))) 32 (0,0)))/\Hid (wr.heap[wx.heap.size]?=some (.cells (TC js) 3 (0,0)))) (fun _ iv _=>z-(intOf iv).toNat)
    case atStart=>exact⟨0,Nat.zero_le _,rfl,hb,HP8.out,HO8.out⟩
    case round=>
     clear HP8 HO8 hb;obtain⟨t,ht,rfl,HB,HPt,HOt⟩:=hrel;have hb:=HB.out
     by_cases hlt:t<z
     rotate_left
     ·have e1:decide (t<z)=false:=Df hlt;have e2:decide ((t:Int)<(z:Int))=false:=Df (by omega)
      go_wp2;go_ret;refine⟨bp,_,rfl,hlp,HPt.out,?_,HB.out⟩;have h:=HP.out js HJ1.out HJ2.out;have e:(val T-Q.sum).toNat=t:=by have:=HZ.out;omega
      rw[e] at h;exact h
     have e1:decide (t<z)=true:=Dt hlt;have e2:decide ((t:Int)<(z:Int))=true:=Dt (by omega)
     have hjl:js.length=n:=by rw[HJ1.out.length_eq,List.length_range]
     obtain⟨j,hj⟩:∃j,js[t]?=some j:=⟨_,List.getElem?_eq_getElem (by omega)⟩
     have hjn:j<n:=List.mem_range.1 (HJ1.out.subset (Lm hj));obtain⟨y,hy⟩:∃y,Q[j]?=some y:=⟨_,List.getElem?_eq_getElem (by have:=HQL.out;omega)⟩
     have hyb:=HQM.out y (Lm hy);obtain⟨x,hxe⟩:∃x,x=y+((js.take t).count j:Int):=⟨_,rfl⟩
     have hx:(WC Q (js.take t))[j]?=some x:=by rw[SY,hy,hxe];rfl
     have hcnt:(js.take t).count j<=1000:=Nt List.count_le_length (by rw[List.length_take];omega)
     have hxl:(canon x).length<=5100:=Za3 hT (by omega) (by omega)
     have CA:=Lh (VK (l:=canon x) (l':=[49]) (z:=x+1) (by omega) (by decide) (by rw[Zh];rfl))
     have HT:Hid (js.take (t+1)=js.take t++[j]):=by
      show _=_;obtain⟨h1,rfl⟩:=Lg.1 hj;exact List.take_succ_eq_append_getElem h1
     have q0:wr.cell? ⟨wx.heap.size,t,none⟩=some (.int .i64 (j:Int)):=(Zg HOt.out t).trans (IW hj);have q1:wr.cell? ⟨bp,j,none⟩=some (.string ⟨(canon x).toArray⟩):=(Zg HPt.out j).trans (T6 hx);have HX:=Lh hx;clear hjl hj hy hyb hxe hcnt hxl hx;go_wp2_with fail
     refine (CA.out.of hG.g hb).mono ?_
     rintro e w9 ⟨rfl,hb9⟩;clear q0 q1 e1 e2 CA;have HB9:=Lh (bto hb hb9);have HP9:Hid (w9.heap[bp]?=some (.cells (zsC (WC Q (js.take t))) 32 (0,0))):=(hb9.block _ (Ag.1 HPt.out).1).trans HPt.out;have HO9:Hid (w9.heap[wx.heap.size]?=some (.cells (TC js) 3 (0,0))):=(hb9.block _ (Ag.1 HOt.out).1).trans HOt.out;have q1:w9.cell? ⟨bp,j,none⟩=some (.string ⟨(canon x).toArray⟩):=(Zg HP9.out j).trans (T6 HX.out);have q2:w9.frozen? ⟨bp,j,none⟩=false:=Zn HP9.out j;have HPN:Hid ((w9.setCell ⟨bp,j,none⟩ (.string ⟨(canon (x+1)).toArray⟩)).heap[bp]?=some (.cells (zsC (WC Q (js.take (t+1)))) 32 (0,0))):=by
      have h:=Yi (o:=j) (Value.string ⟨(canon (x+1)).toArray⟩) HP9.out;rw[PD,E5 HX.out,<-JL,<-HT.out] at h;exact h
     have HON:Hid ((w9.setCell ⟨bp,j,none⟩ (.string ⟨(canon (x+1)).toArray⟩)).heap[wx.heap.size]?=some (.cells (TC js) 3 (0,0))):=(Below.heap_setCell w9 ⟨bp,j,none⟩ _ _ (Ne.symm HNE.out)).trans HO9.out;have HBN:Hid (Below w.heap.size w (w9.setCell ⟨bp,j,none⟩ (.string ⟨(canon (x+1)).toArray⟩))):=HB9.out.setCell (p:=⟨bp,j,none⟩) hlp _;clear hb hb9 HB HPt HOt HB9 HP9 HO9 HX HT;go_wp2;go_roundw
     case rel=>exact⟨t+1,by omega,by go_num,HBN.out,HPN.out,HON.out⟩
     case measure=>simp[intOf];omega
   have e1:decide (k<n)=true:=Dt hlk;have e2:decide ((k:Int)<(n:Int))=true:=Dt (by omega)
   obtain⟨u,hu⟩:∃u,ws[k]?=some u:=⟨_,List.getElem?_eq_getElem (by have:=HN.out;omega)⟩
   obtain⟨b,o,rfl,hbs,p0⟩:=(HI.out.below hbw) k u hu;have hz:zs[k]?=some (val u):=by rw[HZS.out,List.getElem?_map,hu];rfl
   obtain⟨q,hq⟩:∃q,q=val T*val u / S:=⟨_,rfl⟩
   obtain⟨r,hr⟩:∃r,r=val T*val u % S:=⟨_,rfl⟩
   have hqk:Q[k]?=some q:=by rw[HQ.out,(JM hz).1,hq]
   have hrk:R[k]?=some r:=by rw[HR.out,(JM hz).2,hr]
   have hul:=HSM.out u (Lm hu);have hd:=Dc (a:=val T*val u) HSS.out;have hml:=Yu T u;have HC1:=Lh (Zao (l:=T) (l':=u) (by omega) (by omega) rfl)
   have HC2:=Lh (IC (l:=canon (val T*val u)) (l':=canon S) (q:=q) (r:=r) (by omega) (by omega) (by rw[Zh];exact Int.ne_of_gt HSS.out) (by rw[Zh,Zh,hd.1,hq]) (by rw[Zh,Zh,hd.2,hr]))
   have hqm:=HQM.out q (Lm hqk);have hql:(canon q).length<=5100:=Za3 hT hqm.1 (by omega)
   have hmlen:=HMV.out.1;obtain⟨mm,hmm⟩:∃mm,mm=val m-q:=⟨_,rfl⟩
   have HC3:=Lh (W7 (l:=m) (l':=canon q) (z:=mm) (by omega) (by omega) (by rw[Zh,hmm]))
   have HMV2:Hid ((canon mm).length<=5100/\val (canon mm)=val T-(Q.take (k+1)).sum/\(1<=k+1->canon mm=canon (val (canon mm)))):=by
    have h1:=HMV.out.2.1;have h2:=TO hqk;have h3:=HQN.out (k+1);refine⟨Za3 hT (by omega) (by omega),by rw[Zh];omega,fun _=>by rw[Zh]⟩
   have HQK:=Lh hqk;have HRK:=Lh hrk;obtain⟨tu,htu⟩:∃tu,tu=canon (val T*val u):=⟨_,rfl⟩
   rw[<-htu] at HC1 HC2;obtain⟨ss,hss⟩:∃ss,ss=canon S:=⟨_,rfl⟩
   rw[<-hss] at HC2 ⊢;clear hu hz hq hr hqk hrk hul hd hml hqm hql hmlen hmm htu hss;go_wp2_with fail;clear p0 e1 e2;obtain⟨-,-,hlo⟩:=HL.out;have hlp:=HL.out.1;have hlr:=HL.out.2.1;obtain⟨hpr,hpx,hrx,hpo,hro,hxo⟩:=HNE.out;obtain⟨F,hF⟩:∃F:Fx,F=fun b=>if b=bp then some (.cells (zsC (Yq Q k)) 32 (0,0)) else if b=br then some (.cells (zsC (Yq R k)) 32 (0,0)) else none:=⟨_,rfl⟩
   have f1:F bp=some (.cells (zsC (Yq Q k)) 32 (0,0)):=by rw[hF];exact if_pos rfl
   have f2:F br=some (.cells (zsC (Yq R k)) 32 (0,0)):=by rw[hF];exact (if_neg (Ne.symm hpr)).trans (if_pos rfl)
   have hX:∀b,F b≠none->b=bp∨b=br:=fun b hb=>by
    rw[hF] at hb;dsimp only at hb
    by_cases h1:b=bp
    ·exact .inl h1
    ·by_cases h2:b=br
     ·exact .inr h2
     ·rw[if_neg h1,if_neg h2] at hb;exact absurd rfl hb
   have HFF:Hid (∀b ob,F b=some ob->wr.heap[b]?=some ob):=fun b ob h=>by
    rw[hF] at h;dsimp only at h
    by_cases h1:b=bp
    ·rw[if_pos h1] at h;rw[h1,<-h];exact HPW.out.p
    ·rw[if_neg h1] at h
     by_cases h2:b=br
     ·rw[if_pos h2] at h;rw[h2,<-h];exact HPW.out.r
     ·rw[if_neg h2] at h;cases h
   have hnx:¬(F bx≠none):=fun h=>by
    rcases hX bx h with e|e
    ·exact hpx e.symm
    ·exact hrx e.symm
   have hno:¬(F wx.heap.size≠none):=fun h=>by
    rcases hX _ h with e|e
    ·exact hpo e.symm
    ·exact hro e.symm
   have hlow:∀k,F k≠none->w.heap.size<=k:=fun k hk=>by
    rcases hX k hk with e|e
    ·rw[e];exact hlp
    ·rw[e];exact hlr
   have HX:=Lh HPW.out.x;have f2b:(fun k'=>if k'=bp then some (Obj.cells ((zsC (Yq Q k)).setIfInBounds k (.string ⟨(canon q).toArray⟩)) 32 (0,0)) else F k') br=some (.cells (zsC (Yq R k)) 32 (0,0)):=(if_neg (Ne.symm hpr)).trans f2
   have hql:=HQL.out;have hrl:=HRL.out;obtain⟨tch,htch⟩:∃tch:Nat->List Nat,tch=fun b=>if b=bp then [14] else if b=br then [16] else []:=⟨_,rfl⟩
   clear hF;refine Yd tch F (by kernel_rfl) (by kernel_rfl) (by kernel_rfl) HFF.out ?_
   refine Zk _ rfl (fun wz hw=>by go_simp;try rfl) ?_
   simp only[Act.put,StT,StZ,StS,Nat.reduceAdd];refine Zk _ rfl (fun wz hw=>by go_simp;try rfl) ?_
   simp only[Act.put,StT,StZ,StS,Nat.reduceAdd];refine Zk _ rfl (fun wz hw=>by have q0:=(HX.out.keepX hw hnx).c 0;go_simp;try rfl) ?_
   simp only[Act.put,StT,StZ,StS,Nat.reduceAdd];refine Zk _ rfl (fun wz hw=>by go_simp;try rfl) ?_
   simp only[Act.put,StT,StZ,StS,Nat.reduceAdd];refine Zk _ rfl (fun wz hw=>by go_simp;try rfl) ?_
   simp only[Act.put,StT,StZ,StS,Nat.reduceAdd];refine Zk _ rfl (fun wz hw=>by go_simp;try rfl) ?_
   simp only[Act.put,StT,StZ,StS,Nat.reduceAdd];refine XX _ _ _ rfl (fun wz hw=>by go_simp;try rfl) (fun wz hw=>HC1.out.of hG.g (hw.lower hbw hlow)) ?_
   simp only[Act.put,StT,StZ,StS,Nat.reduceAdd];refine Zk _ rfl (fun wz hw=>by go_simp;try rfl) ?_
   simp only[Act.put,StT,StZ,StS,Nat.reduceAdd];refine XX _ _ _ rfl (fun wz hw=>by go_simp;try rfl) (fun wz hw=>HC2.out.of hG.g (hw.lower hbw hlow)) ?_
   simp only[Act.put,StT,StZ,StS,Nat.reduceAdd];refine Zk _ rfl (fun wz hw=>by go_simp;try rfl) ?_
   simp only[Act.put,StT,StZ,StS,Nat.reduceAdd];refine Zk _ rfl (fun wz hw=>by go_simp;try rfl) ?_
   simp only[Act.put,StT,StZ,StS,Nat.reduceAdd];refine Zk _ rfl (fun wz hw=>by go_simp;try rfl) ?_
   simp only[Act.put,StT,StZ,StS,Nat.reduceAdd];refine Zk _ rfl (fun wz hw=>by go_simp;try rfl) ?_
   simp only[Act.put,StT,StZ,StS,Nat.reduceAdd];refine Zk (.pointer (some ⟨bp,k,none⟩)) rfl (fun wz hw=>by go_simp;try rfl) ?_
   simp only[Act.put,StT,StZ,StS,Nat.reduceAdd];refine Xo bp k (zsC (Yq Q k)) (.string ⟨(canon q).toArray⟩) 32 f1 (by simp[htch]) (fun j oj hj=>ZO (l:=[14]) (by kernel_rfl) j oj (by simpa [htch] using hj)) rfl (fun wz hw hc hf=>by have q0:=(hc k).trans (T6 (V8 (Nl k) (by omega)));have q1:=hf k;clear hc hf;go_simp;try rfl) ?_
   simp only[Act.put,Nat.reduceAdd];refine Zk (.pointer (some ⟨br,k,none⟩)) rfl (fun wz hw=>by go_simp;try rfl) ?_
   simp only[Act.put,StT,StZ,StS,Nat.reduceAdd];refine Xo br k (zsC (Yq R k)) (.string ⟨(canon r).toArray⟩) 32 f2b (by simp[htch,Ne.symm hpr]) (fun j oj hj=>ZO (l:=[16]) (by kernel_rfl) j oj (by simpa [htch,Ne.symm hpr] using hj)) rfl (fun wz hw hc hf=>by have q0:=(hc k).trans (T6 (V8 (Nl k) (by omega)));have q1:=hf k;clear hc hf;go_simp;try rfl) ?_
   simp only[Act.put,Nat.reduceAdd];refine Xp (fun w4 hF4=>?_)
   have hb4:=hF4.below.lower hbw hlow;have HP4:Hid (w4.heap[bp]?=some (.cells (zsC (Yq Q (k+1))) 32 (0,0))):=by
    have h:=hF4.box bp _ ((if_neg hpr).trans (if_pos rfl));rw[PD,QF HQK.out] at h;exact h
   have HR4:Hid (w4.heap[br]?=some (.cells (zsC (Yq R (k+1))) 32 (0,0))):=by
    have h:=hF4.box br _ (if_pos rfl);rw[PD,QF HRK.out] at h;exact h
   have HO4:Hid (w4.heap[wx.heap.size]?=some (.cells (izC (Yq I k)) 3 (0,0))):=(hF4.below.block _ (Ag.1 HPW.out.o).1 hno).trans HPW.out.o;have HX4:Hid (Blk w4 bx #[.slice (some ⟨br,0,none⟩) n n]):=HPW.out.x.keepX hF4.below hnx
   have HB4:Hid (Zq (fun b=>b=bp∨b=br∨b=wx.heap.size) wx w4):=HPW.out.bw.trans ⟨hF4.below.os,hF4.below.tape,hF4.below.output,hF4.below.size,fun j hj hn=>hF4.below.block j hj (fun h=>hn (by
    rcases hX j h with e|e
    ·exact .inl e
    ·exact .inr (.inl e)))⟩
   have HNE:=Lh (And.intro hpr (And.intro hpx (And.intro hrx (And.intro hpo (And.intro hro hxo)))));have q0:w4.cell? ⟨bp,k,none⟩=some (.string ⟨(canon q).toArray⟩):=(Zg HP4.out k).trans (T6 ((SX (Nat.lt_succ_self k) (by omega)).trans HQK.out))
   clear hF4 HX HPW HFF f1 f2 f2b hX hnx hno hlow htch HC1 HC2 hbw hpr hpx hrx hpo hro hxo hlp hlr;go_wp2_with fail
   refine (HC3.out.of hG.g hb4).mono ?_
   rintro e w5 ⟨rfl,hb5⟩;clear q0 HC3;have hb6:=bto hb4 hb5;have HP5:Hid (w5.heap[bp]?=some (.cells (zsC (Yq Q (k+1))) 32 (0,0))):=(hb5.block _ (Ag.1 HP4.out).1).trans HP4.out;have HR5:Hid (w5.heap[br]?=some (.cells (zsC (Yq R (k+1))) 32 (0,0))):=(hb5.block _ (Ag.1 HR4.out).1).trans HR4.out;have HO5:Hid (w5.heap[wx.heap.size]?=some (.cells (izC (Yq I k)) 3 (0,0))):=(hb5.block _ (Ag.1 HO4.out).1).trans HO4.out;have HX5:=Lh (HX4.out.below hb5);have HB5:=Lh (HB4.out.trans (Zq.of_below hb5));clear hb4 hb5 HP4 HR4 HO4 HX4 HB4 hql hrl;have HIK:Hid (I[k]?=some (k:Int)):=by
    show _=_;rw[HIE.out,List.getElem?_map,List.getElem?_range hlk];rfl
   have hil:=HIL.out
   have q0:w5.cell? ⟨wx.heap.size,k,none⟩=some (.int .i64 0):=(Zg HO5.out k).trans (by
    have h:=V8 (f:=I) (i:=k) (Nl k) (by omega)
    simp[izC,h])
   have q1:w5.frozen? ⟨wx.heap.size,k,none⟩=false:=Zn HO5.out k;clear hil;have HPW:Hid (Za2 w wx bp br bx wx.heap.size n Q R I (k+1) (w5.setCell ⟨wx.heap.size,k,none⟩ (.int .i64 (k:Int)))):=by
    obtain⟨hpr,hpx,hrx,hpo,hro,hxo⟩:=HNE.out;refine⟨hb6.setCell (p:=⟨wx.heap.size,k,none⟩) hlo _,HB5.out.trans (ZQ (g:=wx.heap.size) (.inr (.inr rfl)) [.int .i64 (k:Int)] k w5),?_,?_,?_,HX5.out.setO hxo⟩
    ·exact (Below.heap_setCell w5 ⟨wx.heap.size,k,none⟩ _ bp hpo).trans HP5.out
    ·exact (Below.heap_setCell w5 ⟨wx.heap.size,k,none⟩ _ br hro).trans HR5.out
    ·have h:=Yi (o:=k) (Value.int .i64 (k:Int)) HO5.out;rw[Ah,QF HIK.out] at h;exact h
   clear HP5 HR5 HO5 HX5 HB5 HIK hb6 HQK HRK;obtain⟨W6,hW6⟩:∃W6,W6=w5.setCell ⟨wx.heap.size,k,none⟩ (.int .i64 (k:Int)):=⟨_,rfl⟩
   go_wp2;go_roundw
   case rel=>exact⟨k+1,canon mm,by omega,rfl,by go_num,HMV2.out,HPW.out⟩
   case measure=>simp[intOf];omega
end Go.Proofs.YtpieeldbamklkaaGreatDoor
