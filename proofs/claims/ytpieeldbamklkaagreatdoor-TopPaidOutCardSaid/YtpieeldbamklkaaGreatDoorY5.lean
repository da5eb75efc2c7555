/- Texts put together: Ut On By St Rb Su Sv Sw Sx Rc. -/
import Derived.Test.YtpieeldbamklkaaGreatDoorY4
import Derived.Deep.DeepCutAuto
import Derived.Deep.CutBlock
set_option maxHeartbeats 8000000
set_option maxRecDepth 100000
open Go.Proofs.Tryz
namespace Go.Proofs.YtpieeldbamklkaaGreatDoor
open Go.RowKit Num
def Mx (T p a:Int):Int:=rnd (Rat.divInt (T*p) a) 1
def Vb (x:Lot) (q:List UInt8):Lot:={ x with q:=q,cost:=canon (Mx (val x.cost) (val q) (val x.q)),used:=if x.used=[] then [] else q }
def WL (x:Lot) (q:List UInt8):Lot:={ x with q:=canon (val x.q-val q),cost:=canon (val x.cost-Mx (val x.cost) (val q) (val x.q)),used:=if x.used=[] then [] else canon (val x.q-val q) }
def stepT (s:List Lot×List Lot) (p:Pk):List Lot×List Lot:=
 if (s.1.getD (ZW (isLt p.lot) s.1 0).toNat ⟨[],[],0,0,[],[],[]⟩).q=p.q then
  (s.1.eraseIdx (ZW (isLt p.lot) s.1 0).toNat,s.2++[s.1.getD (ZW (isLt p.lot) s.1 0).toNat ⟨[],[],0,0,[],[],[]⟩])
 else (s.1.set (ZW (isLt p.lot) s.1 0).toNat (WL (s.1.getD (ZW (isLt p.lot) s.1 0).toNat ⟨[],[],0,0,[],[],[]⟩) p.q),s.2++[Vb (s.1.getD (ZW (isLt p.lot) s.1 0).toNat ⟨[],[],0,0,[],[],[]⟩) p.q])
def Yx (s:List Lot×List Lot) (ps:List Pk):List Lot×List Lot:=ps.foldl stepT s
def VO (xs:List Lot) (done:List Pk):List Pk->Int
 | []=>0
 | p::t=>if ZW (isLt p.lot) xs 0<0 then 6 else if done.any (Z1 p.lot)=true then 5 else if ¬p.q=canon (val p.q) then 1 else if val p.q<=0 then 2 else
   if val (xs.getD (ZW (isLt p.lot) xs 0).toNat ⟨[],[],0,0,[],[],[]⟩).q<val p.q then 15 else VO xs (done++[p]) t
structure Aj (xs:List Lot) (p:Pk):Prop where
 lot:∃x∈xs,x.id=p.lot/\x.q=canon (val x.q)/\val p.q<=val x.q
 can:p.q=canon (val p.q)
 pos:0<val p.q
structure OA (xs:List Lot) (ps:List Pk):Prop where
 nd:(xs.map (·.id)).Nodup
 all:∀p∈ps,Aj xs p
 pnd:(ps.map (·.lot)).Nodup
theorem OB {xs:List Lot} (hc:∀x∈xs,x.q=canon (val x.q)):∀(ps done:List Pk),VO xs done ps=0->(∀p∈ps,Aj xs p)/\(ps.map (·.lot)).Nodup/\∀p∈ps,∀d∈done,d.lot≠p.lot
 | [],_,_=>⟨fun _ h=>by (cases h),by simp,fun _ h=>by (cases h)⟩
 | p::t,done,h=>by
  unfold VO at h
  by_cases h1:ZW (isLt p.lot) xs 0<0
  ·rw[if_pos h1] at h;exact absurd h (by decide)
  rw[if_neg h1] at h
  by_cases h2:done.any (Z1 p.lot)=true
  ·rw[if_pos h2] at h;exact absurd h (by decide)
  rw[if_neg h2] at h
  by_cases h3:¬p.q=canon (val p.q)
  ·rw[if_pos h3] at h;exact absurd h (by decide)
  rw[if_neg h3] at h
  by_cases h4:val p.q<=0
  ·rw[if_pos h4] at h;exact absurd h (by decide)
  rw[if_neg h4] at h;obtain⟨i,x,e,hx,hp,-⟩:=VN _ _ _ (Int.not_lt.1 h1);rw[e,Nat.zero_add,Int.toNat_natCast,List.getD_eq_getElem?_getD,hx,Option.getD_some] at h
  by_cases h5:val x.q<val p.q
  ·rw[if_pos h5] at h;exact absurd h (by decide)
  rw[if_neg h5] at h;obtain⟨a1,a2,a3⟩:=OB hc t (done++[p]) h;have hm:=Lm hx;have hid:x.id=p.lot:=by simpa [isLt] using hp
  refine⟨fun r hr=>?_,?_,fun r hr d hd=>?_⟩
  ·rcases List.mem_cons.1 hr with rfl|hr
   ·exact⟨⟨x,hm,hid,hc x hm,by omega⟩,Decidable.not_not.1 h3,by omega⟩
   ·exact a1 r hr
  ·rw[List.map_cons,List.nodup_cons];refine⟨fun hc=>?_,a2⟩
   obtain⟨r,hr,er⟩:=List.mem_map.1 hc;exact a3 r hr p (by simp) er.symm
  ·rcases List.mem_cons.1 hr with rfl|hr
   ·intro he;apply h2;rw[List.any_eq_true];exact⟨d,hd,by simp[Z1,he]⟩
   ·exact a3 r hr d (by simp[hd])
theorem IZ {g:Lot->Int} {x:Lot} (y:Lot):∀{xs:List Lot} {k:Nat},xs[k]?=some x->((xs.set k y).map g).sum=(xs.map g).sum-g x+g y
 | [],k,h=>by simp at h
 | a::t,0,h=>by simp at h;subst h;simp;omega
 | a::t,k+1,h=>by
  have ih:=IZ (g:=g) (x:=x) y (xs:=t) (k:=k) (by simpa using h)
  simp only[List.set_cons_succ,List.map_cons,List.sum_cons,ih];omega
theorem NB {g:Lot->Int} {x:Lot}:∀{xs:List Lot} {k:Nat},xs[k]?=some x->((xs.eraseIdx k).map g).sum=(xs.map g).sum-g x
 | [],k,h=>by simp at h
 | a::t,0,h=>by simp at h;subst h;simp;omega
 | a::t,k+1,h=>by
  have ih:=NB (g:=g) (x:=x) (xs:=t) (k:=k) (by simpa using h)
  simp only[List.eraseIdx_cons_succ,List.map_cons,List.sum_cons,ih];omega
theorem Uu {α:Type} {x y:α}:∀{xs:List α} {k:Nat},xs[k]?=some x->y∈xs->y≠x->y∈xs.eraseIdx k
 | [],k,h,_,_=>by simp at h
 | a::t,0,h,hy,hne=>by
  simp at h;subst h;rcases List.mem_cons.1 hy with rfl|hy
  ·exact absurd rfl hne
  ·simpa using hy
 | a::t,k+1,h,hy,hne=>by
  rw[List.eraseIdx_cons_succ];rcases List.mem_cons.1 hy with rfl|hy
  ·simp
  ·exact List.mem_cons_of_mem _ (Uu (by simpa using h) hy hne)
theorem Sb {α:Type} {x y:α} (z:α):∀{xs:List α} {k:Nat},xs[k]?=some x->y∈xs->y≠x->y∈xs.set k z
 | [],k,h,_,_=>by simp at h
 | a::t,0,h,hy,hne=>by
  simp at h;subst h;rcases List.mem_cons.1 hy with rfl|hy
  ·exact absurd rfl hne
  ·simp[hy]
 | a::t,k+1,h,hy,hne=>by
  rw[List.set_cons_succ];rcases List.mem_cons.1 hy with rfl|hy
  ·simp
  ·exact List.mem_cons_of_mem _ (Sb z (by simpa using h) hy hne)
theorem Ak {xs:List Lot} {k:Nat} {x y:Lot} (h:xs[k]?=some x) (e:y.id=x.id):(xs.set k y).map (·.id)=xs.map (·.id):=by
 rw[List.map_set,e];apply List.ext_getElem?;intro j;rw[List.getElem?_set]
 split
 ·rename_i hj;subst hj
  split
  ·simp[h]
  ·rename_i hlt;simp at hlt;simp[List.getElem?_eq_none hlt]
 ·rfl
theorem LD {xs t:List Lot} {p:Pk} (h:Aj xs p) (hn:(xs.map (·.id)).Nodup) :
  ∃(k:Nat) (x:Lot),ZW (isLt p.lot) xs 0=(k:Int)/\xs[k]?=some x/\x.id=p.lot/\x.q=canon (val x.q)/\val p.q<=val x.q/\
   stepT (xs,t) p=if x.q=p.q then (xs.eraseIdx k,t++[x]) else (xs.set k (WL x p.q),t++[Vb x p.q]):=by
 obtain⟨x,hx,hid,hq,hle⟩:=h.lot;have hany:xs.any (isLt p.lot)=true:=List.any_eq_true.2 ⟨x,hx,by simp[isLt,hid]⟩
 obtain⟨i,y,e,hy,hp,-⟩:=VN _ _ _ ((U2 (isLt p.lot) xs 0).2 hany);rw[Nat.zero_add] at e;have hyid:y.id=p.lot:=by simpa [isLt] using hp
 have hxy:y=x:=by
  obtain⟨j,hj⟩:=List.getElem?_of_mem hx;obtain⟨hi,-⟩:=Lg.1 hy;obtain⟨hj',-⟩:=Lg.1 hj;have h1:(xs.map (·.id))[i]?=some p.lot:=by simp[hy,hyid]
  have h2:(xs.map (·.id))[j]?=some p.lot:=by simp[hj,hid]
  have:i=j:=(List.getElem?_inj (by simpa using hi) hn).1 (h1.trans h2.symm)
  subst this;rw[hy] at hj;cases hj;rfl
 subst hxy;refine⟨i,y,e,hy,hid,hq,hle,?_⟩;unfold stepT;simp only[e,Int.toNat_natCast,List.getD_eq_getElem?_getD,hy,Option.getD_some]
def ZbU (g:Lot->Int):Prop:=∀x q,g (Vb x q)+g (WL x q)=g x
theorem I0 (f:Lot->Int) (h:∀x q,f (Vb x q)+f (WL x q)=f x) (I:List UInt8):ZbU (fun x=>if x.ins==I then f x else 0):=fun x q=>by
 show (if x.ins==I then f (Vb x q) else 0)+(if x.ins==I then f (WL x q) else 0)=if x.ins==I then f x else 0
 split
 ·exact h x q
 ·rfl
theorem ZbV (x:Lot) (q:List UInt8):val (Vb x q).q+val (WL x q).q=val x.q:=by
 show val q+val (canon (val x.q-val q))=_;rw[Zh];omega
theorem ZbW (x:Lot) (q:List UInt8):val (Vb x q).cost+val (WL x q).cost=val x.cost:=by
 show val (canon (Mx (val x.cost) (val q) (val x.q)))+val (canon (val x.cost-Mx (val x.cost) (val q) (val x.q)))=_;rw[Zh,Zh];omega
theorem Sc (f:Lot->Int) (I:List UInt8):∀xs:List Lot,((xs.filter (fun x=>x.ins==I)).map f).sum=(xs.map (fun x=>if x.ins==I then f x else 0)).sum
 | []=>rfl
 | a::t=>by
  have ih:=Sc f I t
  by_cases h:(a.ins==I)=true
  ·rw[List.filter_cons_of_pos (p:=fun x:Lot=>x.ins==I) h,List.map_cons,List.map_cons,List.sum_cons,List.sum_cons,ih,if_pos h]
  ·rw[List.filter_cons_of_neg (p:=fun x:Lot=>x.ins==I) h,List.map_cons,List.sum_cons,ih,if_neg h];omega
structure ZbX (xs t:List Lot) (ps:List Pk) (s:List Lot×List Lot):Prop where
 sum:∀g,ZbU g->(s.1.map g).sum+(s.2.map g).sum=(xs.map g).sum+(t.map g).sum
 qs:s.2.map (·.q)=t.map (·.q)++ps.map (·.q)
 ids:s.2.map (·.id)=t.map (·.id)++ps.map (·.lot)
 len:s.1.length<=xs.length
theorem LE {xs t:List Lot} {p:Pk} {ps:List Pk} (h:OA xs (p::ps)):OA (stepT (xs,t) p).1 ps/\ZbX xs t [p] (stepT (xs,t) p)/\
  (∀y∈(stepT (xs,t) p).1,y∈xs∨∃x∈xs,x.id=p.lot/\y=WL x p.q)/\(∀y∈(stepT (xs,t) p).2,y∈t∨∃x∈xs,x.id=p.lot/\(y=x∨(0<val p.q/\val p.q<val x.q/\y=Vb x p.q)))/\
  (∀x∈xs,x.id≠p.lot->x∈(stepT (xs,t) p).1)/\(∀y∈(stepT (xs,t) p).1,y.id≠p.lot->y∈xs):=by
 have hp:=h.all p List.mem_cons_self;obtain⟨k,x,ek,hx,hid,hcq,hle,es⟩:=LD (t:=t) hp h.nd;have hnd:=h.pnd;rw[List.map_cons,List.nodup_cons] at hnd;have hother:∀r∈ps,r.lot≠p.lot:=fun r hr e=>hnd.1 (List.mem_map.2 ⟨r,hr,e⟩)
 have hxm:=Lm hx;have hkeep:∀(W:List Lot),(∀y∈xs,y≠x->y∈W)->∀r∈ps,Aj W r:=fun W hW r hr=>by
  obtain⟨⟨y,hy,h1,h2,h3⟩,h4,h5⟩:=h.all r (List.mem_cons_of_mem _ hr);refine⟨⟨y,hW y hy (fun e=>?_),h1,h2,h3⟩,h4,h5⟩
  subst e;exact hother r hr (h1.symm.trans hid)
 rw[es]
 by_cases hq:x.q=p.q
 ·rw[if_pos hq];refine⟨⟨?_,hkeep _ (fun y hy hne=>Uu hx hy hne),hnd.2⟩,⟨fun g _=>?_,?_,?_,?_⟩,fun y hy=>.inl (List.mem_of_mem_eraseIdx hy),fun y hy=>?_,fun y hy hne=>Uu hx hy (fun e=>hne (e ▸ hid)),fun y hy _=>List.mem_of_mem_eraseIdx hy⟩
  ·exact List.Nodup.sublist ((List.eraseIdx_sublist _ _).map _) h.nd
  ·simp only[NB hx,List.map_append,List.sum_append,List.map_cons,List.map_nil,List.sum_cons,List.sum_nil];omega
  ·simp[hq]
  ·simp[hid]
  ·exact (List.eraseIdx_sublist _ _).length_le
  ·rcases List.mem_append.1 hy with hy|hy
   ·exact .inl hy
   ·simp at hy;subst hy;exact .inr ⟨y,hxm,hid,.inl rfl⟩
 ·rw[if_neg hq];have hlt:val p.q<val x.q:=by
   rcases Int.lt_or_le (val p.q) (val x.q) with h1|h1
   ·exact h1
   ·exfalso;apply hq;rw[hcq,hp.can];congr 1;omega
  refine⟨⟨?_,hkeep _ (fun y hy hne=>Sb _ hx hy hne),hnd.2⟩,⟨fun g hg=>?_,?_,?_,?_⟩,fun y hy=>?_,fun y hy=>?_,fun y hy hne=>Sb _ hx hy (fun e=>hne (e ▸ hid)),fun y hy hne=>?_⟩
  ·show ((xs.set k (WL x p.q)).map (·.id)).Nodup
   rw[Ak (x:=x) (y:=WL x p.q) hx rfl];exact h.nd
  ·have:=hg x p.q
   simp only[IZ (WL x p.q) hx,List.map_append,List.sum_append,List.map_cons,List.map_nil,List.sum_cons,List.sum_nil];omega
  ·simp[Vb]
  ·simp[Vb,hid]
  ·simp
  ·rcases List.mem_or_eq_of_mem_set hy with hy|hy
   ·exact .inl hy
   ·exact .inr ⟨x,hxm,hid,hy⟩
  ·rcases List.mem_append.1 hy with hy|hy
   ·exact .inl hy
   ·simp at hy;exact .inr ⟨x,hxm,hid,.inr ⟨hp.pos,hlt,hy⟩⟩
  ·rcases List.mem_or_eq_of_mem_set hy with hy|hy
   ·exact hy
   ·subst hy;exact absurd hid hne
theorem LF:∀(ps:List Pk) (xs t:List Lot),OA xs ps->ZbX xs t ps (Yx (xs,t) ps)/\
  (∀y∈(Yx (xs,t) ps).2,y∈t∨∃p∈ps,∃x∈xs,x.id=p.lot/\(y=x∨(0<val p.q/\val p.q<val x.q/\y=Vb x p.q)))/\
  (∀y∈(Yx (xs,t) ps).1,y∈xs∨∃p∈ps,∃x∈xs,x.id=p.lot/\y=WL x p.q)
 | [],xs,t,h=>⟨⟨fun _ _=>rfl,by simp[Yx],by simp[Yx],Nl _⟩,fun y hy=>.inl hy,fun y hy=>.inl hy⟩
 | p::ps,xs,t,h=>by
  obtain⟨h1,h2,h3,h4,h5,h6⟩:=LE (t:=t) h;obtain⟨s1,s2⟩:∃s1,s1=(stepT (xs,t) p).1:=⟨_,rfl⟩
  obtain⟨t1,t2⟩:∃t1,t1=(stepT (xs,t) p).2:=⟨_,rfl⟩
  obtain⟨r1,r2,r3⟩:=LF ps s1 t1 (s2 ▸ h1);have es:Yx (xs,t) (p::ps)=Yx (s1,t1) ps:=by
   rw[s2,t2];rfl
  have hnd:=h.pnd;rw[List.map_cons,List.nodup_cons] at hnd;have hother:∀r∈ps,r.lot≠p.lot:=fun r hr e=>hnd.1 (List.mem_map.2 ⟨r,hr,e⟩)
  rw[es];rw[<-s2] at h3 h5 h6;rw[<-t2] at h4;refine⟨⟨fun g hg=>?_,?_,?_,?_⟩,fun y hy=>?_,fun y hy=>?_⟩
  ·have a1:=r1.sum g hg;have a2:=h2.sum g hg;rw[<-s2,<-t2] at a2;omega
  ·have a2:=h2.qs;rw[<-t2] at a2;rw[r1.qs,a2];simp
  ·have a2:=h2.ids;rw[<-t2] at a2;rw[r1.ids,a2];simp
  ·have a2:=h2.len;rw[<-s2] at a2;exact Nt r1.len a2
  ·rcases r2 y hy with hy|⟨r,hr,x,hx,hxid,hyx⟩
   ·rcases h4 y hy with hy|⟨x,hx,hxid,hyx⟩
    ·exact .inl hy
    ·exact .inr ⟨p,List.mem_cons_self,x,hx,hxid,hyx⟩
   ·exact .inr ⟨r,List.mem_cons_of_mem _ hr,x,h6 x hx (fun e=>hother r hr (hxid.symm.trans e)),hxid,hyx⟩
  ·rcases r3 y hy with hy|⟨r,hr,x,hx,hxid,hyx⟩
   ·rcases h3 y hy with hy|⟨x,hx,hxid,hyx⟩
    ·exact .inl hy
    ·exact .inr ⟨p,List.mem_cons_self,x,hx,hxid,hyx⟩
   ·exact .inr ⟨r,List.mem_cons_of_mem _ hr,x,h6 x hx (fun e=>hother r hr (hxid.symm.trans e)),hxid,hyx⟩
def Se (T:Int) (zs qs:List Int):Prop:=(0<=T/\Oy T zs qs)∨(T<0/\∃ps,Oy (-T) zs ps/\qs=ps.map (fun z=>-z))
theorem I1:∀ps:List Int,(ps.map (fun z=>-z)).sum = -ps.sum
 | []=>rfl
 | p::t=>by simp only[List.map_cons,List.sum_cons,I1 t];omega
theorem Se.sum {T:Int} {zs qs:List Int} (h:Se T zs qs):qs.sum=T/\qs.length=zs.length:=by
 rcases h with ⟨-,h⟩|⟨-,ps,h,rfl⟩
 ·exact⟨h.sum,h.len⟩
 ·rw[I1,h.sum,List.length_map];exact⟨by omega,h.len⟩
theorem Se.bd {T:Int} {zs qs:List Int} {N:Nat} (hz:∀z∈zs,0<=z/\z.natAbs<10 ^ N) (hT:T.natAbs<10 ^ N) (h:Se T zs qs):∀q∈qs,(canon q).length<=N+N+2:=by
 have key:∀(T:Int) (ps:List Int),T.natAbs<10 ^ N->Oy T zs ps->∀q∈ps,q.natAbs<10 ^ (N+N+1):=fun T ps hT h q hq=>by
  obtain⟨k,hk⟩:=List.getElem?_of_mem hq;have h1:=h.at' k;have hk2:k<zs.length:=by
   have:=(Lg.1 hk).1
   rw[h.len] at this;exact this
  obtain⟨z,hzk⟩:∃z,zs[k]?=some z:=⟨_,List.getElem?_eq_getElem hk2⟩
  rw[(JM hzk).1,hk] at h1;have hzz:=(hz z (Lm hzk)).2;have h2:(T*z / zs.sum).natAbs<=(T*z).natAbs:=Int.natAbs_ediv_le_natAbs _ _;have h3:(T*z).natAbs<10 ^ N*10 ^ N:=by
   rw[Int.natAbs_mul];exact Nat.mul_lt_mul'' hT hzz
  have e:(10:Nat) ^ (N+N+1)=10 ^ N*10 ^ N*10:=by rw[Nat.pow_succ,Nat.pow_add]
  rw[e];generalize (10:Nat) ^ N*10 ^ N=P at *;simp only[Option.map_some,Option.some.injEq] at h1;omega
 intro q hq;rcases h with ⟨-,h⟩|⟨-,ps,h,rfl⟩
 ·exact Zl q (N+N+1) (key T qs hT h q hq)
 ·obtain⟨p,hp,rfl⟩:=List.mem_map.1 hq;refine Zl _ (N+N+1) ?_;rw[Int.natAbs_neg];exact key (-T) ps (by rw[Int.natAbs_neg];exact hT) h p hp
def ZbY (w:World) (T:Int) (zs:List Int) (n:Nat) (e:Ending) (w':World):Prop:=
 ∃bp ps,e=.returned (.slice (some ⟨bp,0,none⟩) n n)/\w.heap.size<=bp/\w'.heap[bp]?=some (.cells (zsC ps) 32 (0,0))/\Se T zs ps/\Below w.heap.size w w'
def O0 (ps:List Int) (k:Nat):List Int:=(ps.take k).map (fun z=>-z)++ps.drop k
theorem I2 {ps:List Int} {k:Nat} {x:Int} (h:ps[k]?=some x):(O0 ps k)[k]?=some x:=by
 have hk:=(Lg.1 h).1;unfold O0;rw[List.getElem?_append_right (by rw[List.length_map,List.length_take];omega),List.length_map,List.length_take,Nat.min_eq_left (Nat.le_of_lt hk),Nat.sub_self,List.getElem?_drop]
 exact h
theorem Dd {ps:List Int} {k:Nat} {x:Int} (h:ps[k]?=some x):(O0 ps k).set k (-x)=O0 ps (k+1):=by
 obtain⟨hk,rfl⟩:=Lg.1 h;unfold O0;rw[List.set_append_right _ _ (by rw[List.length_map,List.length_take];omega),List.length_map,List.length_take,Nat.min_eq_left (Nat.le_of_lt hk),Nat.sub_self,List.drop_eq_getElem_cons hk,List.set_cons_zero,List.take_succ_eq_append_getElem hk,List.map_append,List.append_assoc]
 rfl
theorem De (ps:List Int):O0 ps ps.length=ps.map (fun z=>-z):=by simp[O0]
theorem Am {w:World} {A:Option Addr} {ws:List (List UInt8)} {n:Nat} (c:Nat) {T:List UInt8} (hG:GE w) (hI:WK w A ws n) (hT:T.length<=4900) (h0:1<=n) (hn1:n<=1000) (hpos:∀r∈ws,0<=val r) (hS:XJ ws≠0) :
  Calls prog 189 #[.string ⟨T.toArray⟩,.slice A n c] w (ZbY w (val T) (ws.map val) n):=by
 have hb:=Below.refl w.heap.size w;have C1:=Lh (To (l:=T) (by omega))
 by_cases hT0:0<=val T
 ·have e0:decide (val T<0)=false:=Df (by omega)
  rw[e0] at C1;have C2:=Lh (fun (w':World) (hb':Below w.heap.size w w')=>NA c (hG.below hb') (hI.below hb') (T:=T) (by omega) h0 hn1 hpos hS hT0)
  have HT0:=Lh hT0;clear e0 hI hpos hS hT0;go_enter func189,ntmps189;go_wp2_with fail
  refine (C1.out.of hG.g hb).mono ?_
  rintro e w1 ⟨rfl,hb1⟩;go_wp2_with fail;refine (C2.out w1 hb1).mono ?_;rintro e w2 ⟨bp,ps,rfl,h1,h2,h3,h4⟩;have HR:Hid (ZbY w (val T) (ws.map val) n (.returned (.slice (some ⟨bp,0,none⟩) n n)) w2):=⟨bp,ps,rfl,Nt hb1.size h1,h2,.inl ⟨HT0.out,h3⟩,bto hb1 h4⟩;clear h1 h2 h3 h4 C1 C2 hb hb1;go_wp2;go_ret;exact HR.out
 ·have e0:decide (val T<0)=true:=Dt (by omega)
  rw[e0] at C1;have hTl:(canon (-val T)).length<=5000:=by
   have:=Zo (l:=T) hT
   refine Nt (Zl (-val T) 4900 (by rw[Int.natAbs_neg];exact this)) (by decide)
  have C2:=Lh (Zan (l:=T) (by omega) rfl)
  have C3:=Lh (fun (w':World) (hb':Below w.heap.size w w')=>NA c (hG.below hb') (hI.below hb') (T:=canon (-val T)) hTl h0 hn1 hpos hS (by rw[Zh];omega))
  have HB:Hid (∀ps,Oy (-val T) (ws.map val) ps->∀q∈ps,(canon q).length<=10002):=fun ps hp=>by
   obtain⟨N,hN⟩:∃N,N=5000:=⟨_,rfl⟩
   have hz:∀z∈ws.map val,0<=z/\z.natAbs<10 ^ N:=fun z hz=>by
    obtain⟨r,hr,rfl⟩:=List.mem_map.1 hz;exact⟨hpos r hr,Zo (by have:=hI.sm r hr;omega)⟩
   have:=Se.bd (N:=N) hz (T:=-val T) (by rw[Int.natAbs_neg];exact Zo (by omega)) (.inl ⟨by omega,hp⟩)
   intro q hq
   have:=this q hq
   omega
  rw[Zh] at C3;have HT0:Hid (val T<0):=by show _<_;omega
  have HL:Hid ((ws.map val).length=n):=by show _=_;rw[List.length_map];exact hI.len
  obtain⟨nt,hnt⟩:∃nt,nt=canon (-val T):=⟨_,rfl⟩
  rw[<-hnt] at C2 C3;clear e0 hI hpos hS hT0 hTl hnt;go_enter func189,ntmps189;go_wp2_with fail
  refine (C1.out.of hG.g hb).mono ?_
  rintro e w1 ⟨rfl,hb1⟩;go_wp2_with fail
  refine (C2.out.of hG.g hb1).mono ?_
  rintro e w2 ⟨rfl,hb2⟩;replace hb1:=bto hb1 hb2;go_wp2_with fail;refine (C3.out w2 hb1).mono ?_;rintro e w3 ⟨bp,ps,rfl,h1,h2,h3,h4⟩;have HP:=Lh h3;have HL2:Hid (ps.length=n):=h3.len.trans HL.out;have hlp:=Nt hb1.size h1;have HR:=Lh h2;have HB3:=Lh (bto hb1 h4);clear h1 h2 h3 h4 C1 C2 C3 hb hb1 hb2;go_wp2_with fail
  go_loopw [6,19] (fun _ iv wr=>∃k:Nat,k<=n/\iv=.int .i64 (k:Int)/\Hid (wr.heap[bp]?=some (.cells (zsC (O0 ps k)) 32 (0,0)))/\Hid (Below w.heap.size w wr)) (fun _ iv _=>n-(intOf iv).toNat)
  case atStart=>exact⟨0,Nat.zero_le _,rfl,HR.out,HB3.out⟩
  case round=>
   clear HR HB3;obtain⟨k,hk,rfl,HR,HB3⟩:=hrel
   by_cases hlk:k<n
   rotate_left
   ·have e1:decide (k<n)=false:=Df hlk;have e2:decide ((k:Int)<(n:Int))=false:=Df (by omega)
    go_wp2;go_ret;refine⟨bp,_,rfl,hlp,HR.out,.inr ⟨HT0.out,ps,HP.out,?_⟩,HB3.out⟩;have e:k=ps.length:=by have:=HL2.out;omega
    rw[e,De]
   have e1:decide (k<n)=true:=Dt hlk;have e2:decide ((k:Int)<(n:Int))=true:=Dt (by omega)
   obtain⟨x,hx⟩:∃x,ps[k]?=some x:=⟨_,List.getElem?_eq_getElem (by have:=HL2.out;omega)⟩
   have hxl:=HB.out ps HP.out x (Lm hx);have CN:=Lh (Zan (l:=canon x) (z:=-x) (by omega) (by rw[Zh]))
   have q0:wr.cell? ⟨bp,k,none⟩=some (.string ⟨(canon x).toArray⟩):=(Zg HR.out k).trans (T6 (I2 hx));have hb:=HB3.out;have HX:=Lh hx;clear hx hxl;go_wp2_with fail
   refine (CN.out.of hG.g hb).mono ?_
   rintro e w4 ⟨rfl,hb4⟩;clear q0 e1 e2 CN;have HR4:Hid (w4.heap[bp]?=some (.cells (zsC (O0 ps k)) 32 (0,0))):=(hb4.block _ (Ag.1 HR.out).1).trans HR.out;have q1:w4.cell? ⟨bp,k,none⟩=some (.string ⟨(canon x).toArray⟩):=(Zg HR4.out k).trans (T6 (I2 HX.out));have q2:w4.frozen? ⟨bp,k,none⟩=false:=Zn HR4.out k;have HRN:Hid ((w4.setCell ⟨bp,k,none⟩ (.string ⟨(canon (-x)).toArray⟩)).heap[bp]?=some (.cells (zsC (O0 ps (k+1))) 32 (0,0))):=by
    have h:=Yi (o:=k) (Value.string ⟨(canon (-x)).toArray⟩) HR4.out;rw[PD,Dd HX.out] at h;exact h
   have HBN:Hid (Below w.heap.size w (w4.setCell ⟨bp,k,none⟩ (.string ⟨(canon (-x)).toArray⟩))):=(bto hb hb4).setCell (p:=⟨bp,k,none⟩) hlp _;clear hb hb4 HR HB3 HR4 HX;go_wp2;go_roundw
   case rel=>exact⟨k+1,by omega,by go_num,HRN.out,HBN.out⟩
   case measure=>simp[intOf];omega
theorem JO {w:World} {A:Option Addr} {ws:List (List UInt8)} {n:Nat} (c:Nat) {T:List UInt8} (hG:GE w) (hI:WK w A ws n) (hT:T.length<=4900) (h:TB T ws≠0) :
  Calls prog 124 #[.string ⟨T.toArray⟩,.slice A n c] w fun e w'=>e=.returned (.tuple #[.slice none 0 0,.int .i64 (TB T ws)])/\Below w.heap.size w w':=by
 have C1:=Lh (EO c (T:=T) (by omega) hG.g hI)
 obtain⟨E,hE⟩:∃E,E=TB T ws:=⟨_,rfl⟩
 rw[<-hE] at C1 h ⊢;have e1:(E==0)=false:=by rw[Bn];exact h
 have e2:=UG e1;clear hE hI h;go_enter func124,ntmps124;go_wp2_with fail;refine C1.out.mono ?_;rintro e w1 ⟨rfl,hb1⟩;go_wp2;go_ret2;exact⟨rfl,hb1⟩
def ZbZ (w:World) (T:Int) (zs:List Int) (n:Nat) (e:Ending) (w':World):Prop:=
 ∃bp ps,e=.returned (.tuple #[.slice (some ⟨bp,0,none⟩) n n,.int .i64 0])/\w.heap.size<=bp/\w'.heap[bp]?=some (.cells (zsC ps) 32 (0,0))/\Se T zs ps/\Below w.heap.size w w'
theorem Dg {w:World} {A:Option Addr} {ws:List (List UInt8)} {n:Nat} (c:Nat) {T:List UInt8} (hG:GE w) (hI:WK w A ws n) (hT:T.length<=4900) (h:TB T ws=0) :
  Calls prog 124 #[.string ⟨T.toArray⟩,.slice A n c] w (ZbZ w (val T) (ws.map val) n):=by
 obtain⟨s1,s2,-,s4,s5⟩:=Tq h;have hl:=hI.len;have C1:=Lh (EO c (T:=T) (by omega) hG.g hI)
 have C2:=Lh (fun (w':World) (hb':Below w.heap.size w w')=>Am c (hG.below hb') (hI.below hb') (T:=T) hT (by omega) (by omega) (fun r hr=>(s4 r hr).2) s5)
 rw[h] at C1;clear hI h s1 s2 s4 s5 hl;go_enter func124,ntmps124;go_wp2_with fail;refine C1.out.mono ?_;rintro e w1 ⟨rfl,hb1⟩;go_wp2_with fail;refine (C2.out w1 hb1).mono ?_;rintro e w2 ⟨bp,ps,rfl,h1,h2,h3,h4⟩;have HR:Hid (ZbZ w (val T) (ws.map val) n (.returned (.tuple #[.slice (some ⟨bp,0,none⟩) n n,.int .i64 0])) w2):=⟨bp,ps,rfl,Nt hb1.size h1,h2,h3,bto hb1 h4⟩;clear h1 h2 h3 h4 C1 C2 hb1;go_wp2;go_ret2;exact HR.out
theorem I3 {l l':List UInt8} {q:Rat} {k:Nat} (h:IsQ l l' q) (b:Bd k q) (hk:k<=90000) {z:Int} (e:rnd q 1=z):Ret 57 #[(Value.agg #[.string ⟨l.toArray⟩,.string ⟨l'.toArray⟩]),.int .i64 1] (.tuple #[.string ⟨(canon z).toArray⟩,.int .i64 0]):=by
 subst e
 by_cases h0:q.num % q.den=0
 ·exact Gu h b hk 1 rfl h0
 ·exact Gv h b hk 1 rfl h0
theorem Za4 {T p a:List UInt8} (hTl:T.length<=2000) (hpl:p.length<=2000) (hal:a.length<=2000) (hT:T=canon (val T)) (hp:p=canon (val p)) (ha:a=canon (val a)) (h0:0<=val p) (h1:val p<=val a) (h2:0<val a) :
  Ret 277 #[.string ⟨T.toArray⟩,.string ⟨p.toArray⟩,.string ⟨a.toArray⟩] (.tuple #[.string ⟨(canon (Mx (val T) (val p) (val a))).toArray⟩,.string ⟨(canon (val T-Mx (val T) (val p) (val a))).toArray⟩,.int .i64 0]):=fun w hG=>by
 have hb:=Below.refl w.heap.size w;have K1:=Lh (Yz (l:=T) (c:=0) (by omega) (if_pos hT))
 have K2:=Lh (Yz (l:=p) (c:=0) (by omega) (if_pos hp))
 have K3:=Lh (Yz (l:=a) (c:=0) (by omega) (if_pos ha))
 have N1:=Lh (To (l:=a) (by omega))
 have N2:=Lh (To (l:=p) (by omega))
 rw[Df (by omega:¬val a<0)] at N1
 rw[Df (by omega:¬val p<0)] at N2
 obtain⟨cp,hcp⟩:∃cp,cp=Zy (val p) (val a):=⟨_,rfl⟩
 have hc0:cp<=0:=by rw[hcp];unfold Zy;split<;>(try split)<;>omega
 have CC:=Lh (ZA (l:=p) (l':=a) (by omega) (by omega) hcp.symm)
 have e1:decide (0<cp)=false:=Df (by omega)
 have hml:=Yu T p;have CM:=Lh (Zao (l:=T) (l':=p) (by omega) (by omega) rfl)
 obtain⟨q,hq⟩:∃q,q=Rat.divInt (val T*val p) (val a):=⟨_,rfl⟩
 have CN:=Lh (ZbI (l:=canon (val T*val p)) (l':=a) (r:=q) (by omega) (by omega) (by omega) (by rw[Zh,hq]))
 obtain⟨N,hN⟩:∃N,N=4001:=⟨_,rfl⟩
 have hbq:Bd N q:=by
  rw[hq];refine V1 ?_ (Zo (by omega)) (by omega)
  have:=Zo (l:=canon (val T*val p)) (k:=N) (by omega)
  rwa [Zh] at this
 obtain⟨s,hs⟩:∃s,s=Mx (val T) (val p) (val a):=⟨_,rfl⟩
 have CR:=Lh (I3 (UX hbq (by omega)) hbq (by omega) (z:=s) (by rw[hs,hq];rfl))
 have hsl:(canon s).length<=100000:=by
  have h3:=En q 1;have h4:=Mj q;have h5:=hbq.1;have e5:s=rnd q 1:=by rw[hs,hq];rfl
  have h6:s.natAbs<10 ^ (N+1):=by
   have e:(10:Nat) ^ (N+1)=10 ^ N*10:=Nat.pow_succ ..;have h7:1<=(10:Nat) ^ N:=Nat.pow_pos (by decide)
   rw[e];generalize (10:Nat) ^ N=P at *;omega
  exact Nt (Zl s (N+1) h6) (by omega)
 have CS:=Lh (W7 (l:=T) (l':=canon s) (z:=val T-s) (by omega) (by omega) (by rw[Zh]))
 have ha1:(a==[])=false:=by
  rw[Bn];intro hc;rw[hc] at h2;exact absurd h2 (by decide)
 have ha2:a.isEmpty=false:=by
  rw[List.isEmpty_eq_false_iff];intro hc;rw[hc] at h2;exact absurd h2 (by decide)
 rw[<-hs];obtain⟨mt,hmt⟩:∃mt,mt=canon (val T*val p):=⟨_,rfl⟩
 rw[<-hmt] at CM CN;obtain⟨ss,hss⟩:∃ss,ss=canon s:=⟨_,rfl⟩
 rw[<-hss] at CR CS ⊢;obtain⟨rr,hrr⟩:∃rr,rr=canon (val T-s):=⟨_,rfl⟩
 rw[<-hrr] at CS ⊢;clear hT hp ha hcp hq hN hbq hs hsl hmt hss hrr hml h0 h1 h2 hTl hpl hal;go_enter func277,ntmps277;go_wp2_with fail
 refine (K1.out.of hG hb).mono ?_
 rintro e w1 ⟨rfl,hb1⟩;replace hb:=bto hb hb1;go_wp2_with fail
 refine (K2.out.of hG hb).mono ?_
 rintro e w2 ⟨rfl,hb2⟩;replace hb:=bto hb hb2;go_wp2_with fail
 refine (K3.out.of hG hb).mono ?_
 rintro e w3 ⟨rfl,hb3⟩;replace hb:=bto hb hb3;clear hb1 hb2 hb3 K1 K2 K3;go_wp2_with fail
 refine (N1.out.of hG hb).mono ?_
 rintro e w4 ⟨rfl,hb4⟩;replace hb:=bto hb hb4;go_wp2_with fail
 refine (N2.out.of hG hb).mono ?_
 rintro e w5 ⟨rfl,hb5⟩;replace hb:=bto hb hb5;go_wp2_with fail
 refine (CC.out.of hG hb).mono ?_
 rintro e w6 ⟨rfl,hb6⟩;replace hb:=bto hb hb6;clear hb4 hb5 hb6 N1 N2 CC;go_wp2_with fail
 refine (CM.out.of hG hb).mono ?_
 rintro e w7 ⟨rfl,hb7⟩;replace hb:=bto hb hb7;go_wp2_with fail
 refine (CN.out.of hG hb).mono ?_
 rintro e w8 ⟨rfl,hb8⟩;replace hb:=bto hb hb8;have x9:=YQ.new w8 (.string ⟨(fN q).toArray⟩) (.string ⟨(fD q).toArray⟩) 34;have hbA:=Zb w8 (.cells #[.string ⟨(fN q).toArray⟩,.string ⟨(fD q).toArray⟩] 34);replace hb:=bto hb hbA;have p0:=x9.c0;have p1:=x9.c1;clear hb7 hb8 hbA x9 CM CN e1 ha1 ha2;go_wp2_with fail
 refine (CR.out.of hG hb).mono ?_
 rintro e w9 ⟨rfl,hb9⟩;replace hb:=bto hb hb9;clear p0 p1 hb9 CR;go_wp2_with fail
 refine (CS.out.of hG hb).mono ?_
 rintro e w10 ⟨rfl,hb10⟩;replace hb:=bto hb hb10;clear hb10 CS;go_wp2;refine bodyPost_ret (v:=.tuple #[.string ⟨ss.toArray⟩,.string ⟨rr.toArray⟩,.int .i64 0]) (by simp[results,results277,go_sem]) rfl ?_
 exact⟨rfl,hb⟩
section
variable {P:Program} {ops:Array Oper} {C:World->Prop} {Q:St->Bx->Prop} {rest:List Oper} {i:Nat} {a:St} {B:Bx} {o:Oper}
theorem NC (k j:Nat) (ok:Oper) (d:Tmp) (cs:Array Value) (vs:List Value) (t:TypeId) (hp:B k=some (false,.cells cs t (0,0))) (hk:ops[k]?=some ok) (hd:ok.dst=some d) (hl:d∈o.looksAt ops)
  (hw:∀ρ,Region.wanted o (yielded ops (a ρ).tmps)=true)
  (h:∀ρ w,C w->(∀m,w.cell? ⟨ρ k,m,none⟩=cs[m]?)->(∀m,w.frozen? ⟨ρ k,m,none⟩=false)->(execOp (a ρ).eval o).run P w=.ok .skip (w.setCells (ρ k) j vs))
  (hn:Z6 P ops C Q rest (i+1) (fun ρ=>(a ρ).put o.dst undef) (fun l=>if l=k then some (true,.cells (Xq cs j vs) t (0,0)) else B l)):Z6 P ops C Q (o::rest) i a B:=
 ⟨.put k (.cells cs t (0,0)) (.cells (Xq cs j vs) t (0,0)),hp,⟨.inr ⟨ok,d,hk,hd,hl⟩,fun ρ=>⟨hw ρ,fun w hc hb=>
  ⟨_,h ρ w hc (fun m=>Zg hb m) (fun m=>Zn hb m),VM (ρ k) t vs j cs w hb⟩⟩⟩,hn⟩
end
theorem Zcz (w1:World) (a b c:Obj):(((w1.alloc a).alloc b).alloc c).heap[w1.heap.size]?=some a/\(((w1.alloc a).alloc b).alloc c).heap[w1.heap.size+1]?=some b/\(((w1.alloc a).alloc b).alloc c).heap[w1.heap.size+1+1]?=some c/\Below w1.heap.size w1 (((w1.alloc a).alloc b).alloc c):=by
 have h0:(((w1.alloc a).alloc b).alloc c).heap=((w1.heap.push a).push b).push c:=rfl;refine⟨?_,?_,?_,?_⟩
 ·rw[h0];simp only[Array.getElem?_push,Array.size_push];rw[if_neg (by omega),if_neg (by omega),if_pos trivial]
 ·rw[h0];simp only[Array.getElem?_push,Array.size_push];rw[if_neg (by omega),if_pos trivial]
 ·rw[h0];simp only[Array.getElem?_push,Array.size_push];rw[if_pos trivial]
 ·exact bto (bto (Zb w1 a) (Zb _ b)) (Zb _ c)
def LG (cs:Array Value) (qs:List Lot):Prop:=cs.toList.take (qs.length*7)=Ye qs/\qs.length*7<=cs.size
theorem VP {α:Type} {xs:List α} {i:Nat} {x:α} (h:xs[i]?=some x):i<xs.length:=(Lg.1 h).1
theorem OC {w:World} {g i:Nat} {cs:Array Value} {qs:List Lot} {x:Lot} (h:LG cs qs) (hw:∀m,w.cell? ⟨g,m,none⟩=cs[m]?) (hx:qs[i]?=some x):w.rangeAt g (i*7) (lcs x):=fun j v hv=>by
 have hi:=VP hx;have hj:j<7:=VP hv;have h1:=Vx hx j hj;rw[hw,<-hv,<-h1,<-h.1,List.getElem?_take,if_pos (by omega),Array.getElem?_toList]
theorem OD {w:World} {g i:Nat} {cs:Array Value} {qs:List Lot} (h:LG cs qs) (hw:∀m,w.cell? ⟨g,m,none⟩=cs[m]?) (hf:∀m,w.frozen? ⟨g,m,none⟩=false) (hi:i<qs.length):w.there g (i*7) 7:=fun j hj=>by
 have:=h.2
 exact⟨by rw[hw,Array.getElem?_eq_getElem (by omega)];rfl,hf _⟩
theorem LG.set {i:Nat} {cs:Array Value} {qs:List Lot} (h:LG cs qs) (y:Lot) (hi:i<qs.length):LG (Xq cs (i*7) (lcs y)) (qs.set i y):=by
 refine⟨?_,by rw[Oo,List.length_set];exact h.2⟩
 rw[List.length_set];simp only[Xq,lcs,Array.toList_setIfInBounds,List.take_set,h.1];exact QA y hi
theorem Yo.cs {w:World} {g:Nat} {qs:List Lot} (h:Yo w g qs):∃cs,w.heap[g]?=some (.cells cs 130 (0,0))/\LG cs qs:=h
theorem Yo.of {w:World} {g:Nat} {qs:List Lot} {cs:Array Value} (h:w.heap[g]?=some (.cells cs 130 (0,0))) (hc:LG cs qs):Yo w g qs:=⟨cs,h,hc⟩
structure SAt (w0:World) (g:Nat) (xs:List Lot) (W:World) (ys:List Lot):Prop where
 row:Yo W g ys
 perm:ys.Perm xs
 bw:Zq (fun k=>k=g) w0 W
theorem SAt.go {w0 W W':World} {g:Nat} {xs ys:List Lot} (h:SAt w0 g xs W ys) (hb:Below W.heap.size W W'):SAt w0 g xs W' ys:=
 ⟨h.row.below hb,h.perm,h.bw.trans (Zq.of_below hb)⟩
theorem SAt.len {w0 W:World} {g n:Nat} {xs ys:List Lot} (h:SAt w0 g xs W ys) (hn:xs.length=n):ys.length=n:=h.perm.length_eq.trans hn
theorem SAt.swap {w0 W W':World} {g i j:Nat} {xs ys:List Lot} {x y:Lot} {cs:Array Value} (h:SAt w0 g xs W ys) (hrc:LG cs ys) (hi:ys[i]?=some x) (hj:ys[j]?=some y)
  (hc:W'.heap[g]?=some (.cells (Xq (Xq cs (i*7) (lcs y)) (j*7) (lcs x)) 130 (0,0))) (hb:Zq (fun k=>k=g) W W'):SAt w0 g xs W' ((ys.set i y).set j x):=
 ⟨Yo.of hc ((hrc.set y (VP hi)).set x (by rw[List.length_set];exact VP hj)),(GF hi hj).trans h.perm,h.bw.trans hb⟩
structure GV (w0:World) (g:Nat) (xs:List Lot) (f:Nat) (caps:Array Value) (cf:Lot->Lot->Int):Prop where
 enter:∀args w,(callFunc f args).run prog w=.ok (.enter f args) w
 cmp:∀W x y,Zq (fun k=>k=g) w0 W->x∈xs->y∈xs->Calls prog f (#[(Value.agg #[.string ⟨x.id.toArray⟩,.string ⟨x.ins.toArray⟩,.int .i64 x.acq,.int .i64 x.opn,.string ⟨x.q.toArray⟩,.string ⟨x.cost.toArray⟩,.string ⟨x.used.toArray⟩]),(Value.agg #[.string ⟨y.id.toArray⟩,.string ⟨y.ins.toArray⟩,.int .i64 y.acq,.int .i64 y.opn,.string ⟨y.q.toArray⟩,.string ⟨y.cost.toArray⟩,.string ⟨y.used.toArray⟩])]++caps) W fun e w'=>e=.returned (.int .i64 (cf x y))/\Below W.heap.size W w'
theorem GV.at {w0 W W':World} {g i j f:Nat} {xs ys:List Lot} {caps:Array Value} {cf:Lot->Lot->Int} {x y:Lot} (H:GV w0 g xs f caps cf) (h:SAt w0 g xs W ys) (hb:Below W.heap.size W W') (hi:ys[i]?=some x) (hj:ys[j]?=some y) :
  Calls prog f (#[(Value.agg #[.string ⟨x.id.toArray⟩,.string ⟨x.ins.toArray⟩,.int .i64 x.acq,.int .i64 x.opn,.string ⟨x.q.toArray⟩,.string ⟨x.cost.toArray⟩,.string ⟨x.used.toArray⟩]),(Value.agg #[.string ⟨y.id.toArray⟩,.string ⟨y.ins.toArray⟩,.int .i64 y.acq,.int .i64 y.opn,.string ⟨y.q.toArray⟩,.string ⟨y.cost.toArray⟩,.string ⟨y.used.toArray⟩])]++caps) W' fun e w'=>e=.returned (.int .i64 (cf x y))/\Below W'.heap.size W' w':=
 H.cmp W' x y (h.bw.trans (Zq.of_below hb)) (h.perm.subset (Lm hi)) (h.perm.subset (Lm hj))
def O2 (cf:Lot->Lot->Int) (ys:List Lot):Prop:=∀(i:Nat) (x y:Lot),ys[i]?=some x->ys[i+1]?=some y->¬cf y x<0
theorem Uw (x:Lot):#[Value.string ⟨x.id.toArray⟩,.string ⟨x.ins.toArray⟩,.int .i64 x.acq,.int .i64 x.opn,.string ⟨x.q.toArray⟩,.string ⟨x.cost.toArray⟩,.string ⟨x.used.toArray⟩].all (·.oneCell')=true:=all_oneCell_toArray (cs:=lcs x) (fun v hv=>by
 simp only[lcs,List.mem_cons,List.not_mem_nil,or_false] at hv
 rcases hv with rfl|rfl|rfl|rfl|rfl|rfl|rfl<;>rfl)
theorem Tt:(prog.info? 130).map (·.size)=some 7:=by kernel_rfl
def Zb0 (g:Nat) (l:List Nat):Nat->List Nat:=fun b=>if b=g then l else []
theorem An {k:Nat} {z:Int} (hz:z=(k:Int)) (hk:k<=1000000):IntKind.i64.wrap z=(k:Int):=by
 subst hz;exact IntWalk.i64_in _ (by omega)
theorem WO.swapX {F':Fx} {g:Nat} {w w2:World} {X:Nat->Prop} (h:WO X w F' w2) (hX:∀k,X k->k=g):Zq (fun k=>k=g) w w2:=
 ⟨h.below.os,h.below.tape,h.below.output,h.below.size,fun k hk hn=>h.below.block k hk (fun hx=>hn (hX k hx))⟩
def ZcA (w0:World) (g:Nat) (xs ys:List Lot) (cf:Lot->Lot->Int) (e:Ending) (w':World):Prop:=e=.returned (.tuple #[])/\∃zs,SAt w0 g xs w' zs/\(O2 cf ys->zs=ys)
theorem ZcB {w0 w:World} {g n c f:Nat} {caps:Array Value} {cf:Lot->Lot->Int} {xs ys:List Lot} (H:GV w0 g xs f caps cf) (h:SAt w0 g xs w ys) (hn:xs.length=n) (hn2:n<=100000) (a b:Nat) (hab:a<=b) (hbn:b<=n) :
  Calls prog 309 #[.slice (some ⟨g,0,none⟩) n c,.int .i64 (a:Int),.int .i64 (b:Int),.func (.func f) #[] caps] w (ZcA w0 g xs ys cf):=by
 have HS:=Lh h;have HN:=Lh hn;have hEn:=H.enter;have HZ:=Lh Tt;clear h hn;go_enter func309,ntmps309;go_wp2_with fail
 go_loopw [8,9] (fun iv _ wr=>∃(k:Nat) (zs:List Lot),k<=b+1/\a<k/\iv=.int .i64 (k:Int)/\Hid (SAt w0 g xs wr zs)/\Hid (O2 cf ys->zs=ys)) (fun iv _ _=>b+1-(intOf iv).toNat)
 case atStart=>exact⟨a+1,ys,by omega,by omega,by go_num,HS.out,fun _=>rfl⟩
 case round=>
  clear HS;obtain⟨k,zs,hk,hak,rfl,HS,HO⟩:=hrel
  by_cases hkb:k<b
  rotate_left
  ·have e1:decide (k<b)=false:=Df hkb;have e2:decide ((k:Int)<(b:Int))=false:=Df (by omega)
   go_wp2
   go_end0
   exact⟨rfl,zs,HS.out,HO.out⟩
  have e1:decide (k<b)=true:=Dt hkb;have e2:decide ((k:Int)<(b:Int))=true:=Dt (by omega)
  go_wp2_with fail;clear e1 e2
  rename World=>wo
  go_loopw [9] (fun jv wr=>∃(j:Nat) (zs':List Lot),j<=k/\a<=j/\jv=.int .i64 (j:Int)/\Hid (SAt w0 g xs wr zs')/\Hid (O2 cf ys->zs'=ys)) (fun jv _=>(intOf jv).toNat)
  case atStart=>exact⟨k,zs,Nl _,by omega,rfl,HS.out,HO.out⟩
  case round=>
   clear HS HO;obtain⟨j,zs',hjk,haj,rfl,HS,HO⟩:=hrel;have HR:=Lh HS.out.row
   by_cases hja:a<j
   rotate_left
   ·have e1:decide (a<j)=false:=Df hja;have e2:decide ((a:Int)<(j:Int))=false:=Df (by omega)
    go_wp2_with fail;refine Zm (by kernel_rfl) (by kernel_rfl) ?_
    iterate 4
     refine KeV ?_;simp only[Act.put,StT,StZ,StS,Nat.reduceAdd]
    iterate 12
     refine Yn (fun _=>rfl) ?_
     simp only[Act.put,StT,StZ,StS,Nat.reduceAdd]
    refine KeV ?_;simp only[Act.put,StT,StZ,StS,Nat.reduceAdd];intro ρ wq hF;dsimp only;replace HS:=Lh (HS.out.go hF.below);clear hF HR e1 e2;go_wp2;go_roundw
    case rel=>exact⟨k+1,zs',by omega,by omega,by go_num,HS.out,HO.out⟩
    case measure=>simp[intOf];omega
   obtain⟨j1,hj1⟩:∃j1,j=j1+1:=⟨j-1,by omega⟩
   have hjn:j<n:=by omega
   have hj1n:j1<n:=by omega
   have hw1:IntKind.i64.wrap ((j:Int)-1)=(j1:Int):=An (by omega) (by omega)
   have hl:zs'.length=n:=HS.out.len HN.out;obtain⟨y,hy⟩:∃y,zs'[j]?=some y:=⟨_,List.getElem?_eq_getElem (by omega)⟩
   obtain⟨x,hx⟩:∃x,zs'[j1]?=some x:=⟨_,List.getElem?_eq_getElem (by omega)⟩
   have e1:decide (a<j)=true:=Dt hja;have e2:decide ((a:Int)<(j:Int))=true:=Dt (by omega)
   have HC:Hid (O2 cf ys->¬cf y x<0):=fun ho=>by
    have ez:=HO.out ho;subst ez;exact ho j1 x y hx (by rw[<-hj1];exact hy)
   have HJ:=Lh hj1;clear hl hj1;go_wp2_with fail;refine Zm (by kernel_rfl) (by kernel_rfl) ?_
   iterate 7
    refine KeV ?_;simp only[Act.put,StT,StZ,StS,Nat.reduceAdd]
   refine KeV (v:=.pointer (some ⟨g,j*7,none⟩)) ?_;simp only[Act.put,StT,StZ,StS,Nat.reduceAdd];refine Zw (.agg #[.string ⟨y.id.toArray⟩,.string ⟨y.ins.toArray⟩,.int .i64 y.acq,.int .i64 y.opn,.string ⟨y.q.toArray⟩,.string ⟨y.cost.toArray⟩,.string ⟨y.used.toArray⟩]) (fun _=>rfl) (fun ρ wz hw=>ZH 130 _ rfl g (j*7) rfl (lcs y) _ ((HR.out.below hw).range hy) underlying130 rfl (by rw[HZ.out];rfl)) ?_
   iterate 2
    simp only[Act.put,StT,StZ,StS,Nat.reduceAdd];refine KeV ?_
   simp only[Act.put,StT,StZ,StS,Nat.reduceAdd];refine KeV (v:=.int .i64 (j1:Int)) ?_;simp only[Act.put,StT,StZ,StS,Nat.reduceAdd];refine KeV (v:=.pointer (some ⟨g,j1*7,none⟩)) ?_;simp only[Act.put,StT,StZ,StS,Nat.reduceAdd];refine Zw (.agg #[.string ⟨x.id.toArray⟩,.string ⟨x.ins.toArray⟩,.int .i64 x.acq,.int .i64 x.opn,.string ⟨x.q.toArray⟩,.string ⟨x.cost.toArray⟩,.string ⟨x.used.toArray⟩]) (fun _=>rfl) (fun ρ wz hw=>ZH 130 _ rfl g (j1*7) rfl (lcs x) _ ((HR.out.below hw).range hx) underlying130 rfl (by rw[HZ.out];rfl)) ?_
   simp only[Act.put,StT,StZ,StS,Nat.reduceAdd];refine KeC (fun wz hw=>H.at HS.out hw hy hx) ?_
   iterate 2
    simp only[Act.put,StT,StZ,StS,Nat.reduceAdd];refine KeV ?_
   simp only[Act.put,StT,StZ,StS,Nat.reduceAdd];intro ρ wq hF;dsimp only;replace HS:=Lh (HS.out.go hF.below);clear hF HR e1 e2
   by_cases hc:cf y x<0
   rotate_left
   ·have e3:decide (cf y x<0)=false:=Df hc;clear HC;go_wp2;go_roundw
    case rel=>exact⟨k+1,zs',by omega,by omega,by go_num,HS.out,HO.out⟩
    case measure=>simp[intOf];omega
   have e3:decide (cf y x<0)=true:=Dt hc;go_wp2_with fail;clear e3;obtain⟨cs,hcs,hrc⟩:=HS.out.row.cs;obtain⟨F,hF⟩:∃F:Fx,F=fun k=>if k=g then some (.cells cs 130 (0,0)) else none:=⟨_,rfl⟩
   have fF:F g=some (.cells cs 130 (0,0)):=by rw[hF];exact if_pos rfl
   have hFF:∀b ob,F b=some ob->wq.heap[b]?=some ob:=fun b ob h=>by
    rw[hF] at h;dsimp only at h
    by_cases hg:b=g
    ·rw[if_pos hg] at h;rw[hg,hcs];exact h
    ·rw[if_neg hg] at h;cases h
   have hFX:∀k,F k≠none->k=g:=fun k hk=>by
    rw[hF] at hk;dsimp only at hk
    by_cases hg:k=g
    ·exact hg
    ·rw[if_neg hg] at hk;exact absurd rfl hk
   obtain⟨tch,htch⟩:∃tch,tch=Zb0 g [9,13,15,17]:=⟨_,rfl⟩
   unfold Zb0 at htch;have HFF:=Lh hFF;have HFX:=Lh hFX;clear hF hcs hFF hFX;refine Yd tch F (by kernel_rfl) (by kernel_rfl) (by kernel_rfl) HFF.out ?_
   refine Zk _ rfl (fun wz hw=>by go_simp;try rfl) ?_
   simp only[Act.put,StT,StZ,StS,Nat.reduceAdd];refine Zk _ rfl (fun wz hw=>by go_simp;try rfl) ?_
   simp only[Act.put,StT,StZ,StS,Nat.reduceAdd];refine Zk _ rfl (fun wz hw=>by go_simp;try rfl) ?_
   simp only[Act.put,StT,StZ,StS,Nat.reduceAdd];refine Zk _ rfl (fun wz hw=>by go_simp;try rfl) ?_
   simp only[Act.put,StT,StZ,StS,Nat.reduceAdd];refine Zk (.int .i64 (j1:Int)) rfl (fun wz hw=>by go_simp;try rfl) ?_
   simp only[Act.put,StT,StZ,StS,Nat.reduceAdd];refine Zk _ rfl (fun wz hw=>by go_simp;try rfl) ?_
   simp only[Act.put,StT,StZ,StS,Nat.reduceAdd];refine Zk _ rfl (fun wz hw=>by go_simp;try rfl) ?_
   simp only[Act.put,StT,StZ,StS,Nat.reduceAdd];refine Zk (.int .i64 (j1:Int)) rfl (fun wz hw=>by go_simp;try rfl) ?_
   simp only[Act.put,StT,StZ,StS,Nat.reduceAdd];refine Zk (.pointer (some ⟨g,j1*7,none⟩)) rfl (fun wz hw=>by go_simp;try rfl) ?_
   simp only[Act.put,StT,StZ,StS,Nat.reduceAdd];refine Xn g cs 130 (.agg #[.string ⟨x.id.toArray⟩,.string ⟨x.ins.toArray⟩,.int .i64 x.acq,.int .i64 x.opn,.string ⟨x.q.toArray⟩,.string ⟨x.cost.toArray⟩,.string ⟨x.used.toArray⟩]) fF (by simp[htch]) rfl (fun wz hw hc=>ZH 130 _ rfl g (j1*7) rfl (lcs x) _ (OC hrc hc hx) underlying130 rfl (by rw[HZ.out];rfl)) ?_
   simp only[Act.put,StT,StZ,StS,Nat.reduceAdd];refine Zk _ rfl (fun wz hw=>by go_simp;try rfl) ?_
   simp only[Act.put,StT,StZ,StS,Nat.reduceAdd];refine Zk _ rfl (fun wz hw=>by go_simp;try rfl) ?_
   simp only[Act.put,StT,StZ,StS,Nat.reduceAdd];refine Zk (.pointer (some ⟨g,j*7,none⟩)) rfl (fun wz hw=>by go_simp;try rfl) ?_
   simp only[Act.put,StT,StZ,StS,Nat.reduceAdd];refine Xn g cs 130 (.agg #[.string ⟨y.id.toArray⟩,.string ⟨y.ins.toArray⟩,.int .i64 y.acq,.int .i64 y.opn,.string ⟨y.q.toArray⟩,.string ⟨y.cost.toArray⟩,.string ⟨y.used.toArray⟩]) fF (by simp[htch]) rfl (fun wz hw hc=>ZH 130 _ rfl g (j*7) rfl (lcs y) _ (OC hrc hc hy) underlying130 rfl (by rw[HZ.out];rfl)) ?_
   simp only[Act.put,StT,StZ,StS,Nat.reduceAdd];refine Zk (.pointer (some ⟨g,j*7,none⟩)) rfl (fun wz hw=>by go_simp;try rfl) ?_
   simp only[Act.put,StT,StZ,StS,Nat.reduceAdd];refine XY g (j*7) cs (lcs x) 130 fF (by simp[htch]) (fun j oj hj=>ZO (l:=[9,13,15,17]) (by kernel_rfl) j oj (by simpa [htch] using hj)) rfl (fun wz hw hc hf=>ZZ 130 _ _ rfl g (j*7) #[.string ⟨x.id.toArray⟩,.string ⟨x.ins.toArray⟩,.int .i64 x.acq,.int .i64 x.opn,.string ⟨x.q.toArray⟩,.string ⟨x.cost.toArray⟩,.string ⟨x.used.toArray⟩] rfl rfl (OD hrc hc hf (VP hy)) (by rw[HZ.out];rfl) (Uw x)) ?_
   simp only[Act.put,Nat.reduceAdd];refine Zk (.pointer (some ⟨g,j1*7,none⟩)) rfl (fun wz hw=>by go_simp;try rfl) ?_
   simp only[Act.put,StT,StZ,StS,Nat.reduceAdd];have fF2:(fun kb=>if kb=g then some (Obj.cells (Xq cs (j*7) (lcs x)) 130 (0,0)) else F kb) g=some (.cells (Xq cs (j*7) (lcs x)) 130 (0,0)):=if_pos rfl
   refine XY g (j1*7) (Xq cs (j*7) (lcs x)) (lcs y) 130 fF2 (by simp[htch]) (fun j oj hj=>ZO (l:=[9,13,15,17]) (by kernel_rfl) j oj (by simpa [htch] using hj)) rfl (fun wz hw hc hf=>ZZ 130 _ _ rfl g (j1*7) #[.string ⟨y.id.toArray⟩,.string ⟨y.ins.toArray⟩,.int .i64 y.acq,.int .i64 y.opn,.string ⟨y.q.toArray⟩,.string ⟨y.cost.toArray⟩,.string ⟨y.used.toArray⟩] rfl rfl (OD (hrc.set x (VP hy)) hc hf (by rw[List.length_set];exact VP hx)) (by rw[HZ.out];rfl) (Uw y)) ?_
   simp only[Act.put,Nat.reduceAdd];refine Xp (fun w2 hF2=>?_)
   have hSw:=Lh (HS.out.swap (W':=w2) hrc hy hx (hF2.box g _ (if_pos rfl)) (hF2.swapX HFX.out));clear hF2 HFF HFX htch fF fF2 hrc HS;have HO2:Hid (O2 cf ys->(zs'.set j x).set j1 y=ys):=fun ho=>absurd hc (by have:=HC.out ho;omega)
   clear HO HC hc;go_wp2;go_roundw
   case rel=>exact⟨j1,_,by have:=HJ.out;omega,by have:=HJ.out;omega,(by first|rfl|go_num),hSw.out,HO2.out⟩
   case measure=>simp[intOf];have:=HJ.out;omega
structure ZcC (w:World) (b:Nat) (x:Lot):Prop where
 out:w.rangeAt b 0 (lcs x)
theorem Vk {w:World} {b:Nat} {x:Lot} (h:Blk w b #[.string ⟨x.id.toArray⟩,.string ⟨x.ins.toArray⟩,.int .i64 x.acq,.int .i64 x.opn,.string ⟨x.q.toArray⟩,.string ⟨x.cost.toArray⟩,.string ⟨x.used.toArray⟩]):ZcC w b x:=⟨fun j v hv=>by
 have hj:j<7:=VP hv;rw[Nat.zero_add]
 match j,hj with
 | 0,_=>cases hv;exact h.c 0
 | 1,_=>cases hv;exact h.c 1
 | 2,_=>cases hv;exact h.c 2
 | 3,_=>cases hv;exact h.c 3
 | 4,_=>cases hv;exact h.c 4
 | 5,_=>cases hv;exact h.c 5
 | 6,_=>cases hv;exact h.c 6⟩
theorem hset {w:World} {b o:Nat} {cs:Array Value} {t:TypeId} (v:Value) (h:w.heap[b]?=some (.cells cs t (0,0))):(w.setCell ⟨b,o,none⟩ v).heap[b]?=some (.cells (cs.setIfInBounds o v) t (0,0)):=Yi v h
theorem hoth {w:World} {b c o:Nat} {ob:Obj} {v:Value} (h:w.heap[b]?=some ob) (hn:b≠c):(w.setCell ⟨c,o,none⟩ v).heap[b]?=some ob:=(Below.heap_setCell w ⟨c,o,none⟩ v b hn).trans h
theorem Zt {w w':World} {b:Nat} {ob:Obj} (h:w.heap[b]?=some ob) (hb:Below w.heap.size w w'):w'.heap[b]?=some ob:=(hb.block _ (Ag.1 h).1).trans h
theorem V9 {w:World} {b:Nat} {c0 c1 c2 c3 c4 c5 c6:Value} (hc:∀m,w.cell? ⟨b,m,none⟩=#[c0,c1,c2,c3,c4,c5,c6][m]?) (hf:∀m,w.frozen? ⟨b,m,none⟩=false):w.there b 0 7:=fun j hj=>by
 refine⟨?_,hf _⟩;rw[Nat.zero_add,hc]
 match j,hj with
 | 0,_|1,_|2,_|3,_|4,_|5,_|6,_=>rfl
theorem ZcD {x:Lot} (hs:Qw x) (hx:UK x=0) {q:List UInt8} (hql:q.length<=1000) (hq:q=canon (val q)) (h0:0<val q) (h1:val q<val x.q) :
  Vt 215 #[(Value.agg #[.string ⟨x.id.toArray⟩,.string ⟨x.ins.toArray⟩,.int .i64 x.acq,.int .i64 x.opn,.string ⟨x.q.toArray⟩,.string ⟨x.cost.toArray⟩,.string ⟨x.used.toArray⟩]),.string ⟨q.toArray⟩] (.tuple #[(Value.agg #[.string ⟨List.toArray (Vb x q).id⟩,.string ⟨List.toArray (Vb x q).ins⟩,.int .i64 (Vb x q).acq,.int .i64 (Vb x q).opn,.string ⟨List.toArray (Vb x q).q⟩,.string ⟨List.toArray (Vb x q).cost⟩,.string ⟨List.toArray (Vb x q).used⟩]),(Value.agg #[.string ⟨List.toArray (WL x q).id⟩,.string ⟨List.toArray (WL x q).ins⟩,.int .i64 (WL x q).acq,.int .i64 (WL x q).opn,.string ⟨List.toArray (WL x q).q⟩,.string ⟨List.toArray (WL x q).cost⟩,.string ⟨List.toArray (WL x q).used⟩]),.int .i64 0]):=fun w hG=>by
 obtain⟨-,-,-,-,-,x1,x2,x3,x4,x5,x6⟩:=Mk hx;have hl4:=hs.q;have hl5:=hs.cost;have HZ:=Lh Tt;have K1:=Lh (Eu hs);rw[hx] at K1;have K2:=Lh (Yz (l:=q) (c:=0) (by omega) (if_pos hq))
 obtain⟨ca,hca⟩:∃ca,ca=Zy (val q) 0:=⟨_,rfl⟩
 have ca1:0<ca:=by rw[hca];exact (Lk (val q)).2.2.1.2 h0
 have KC1:=Lh (ZA (l:=q) (l':=[]) (by omega) (by decide) hca.symm)
 obtain⟨cb,hcb⟩:∃cb,cb=Zy (val q) (val x.q):=⟨_,rfl⟩
 have cb1:cb<0:=by rw[hcb];unfold Zy;rw[if_pos h1];decide
 have KC2:=Lh (ZA (l:=q) (l':=x.q) (by omega) (by omega) hcb.symm)
 have g1:decide (ca<=0)=false:=Df (by omega)
 have g2:decide (0<=cb)=false:=Df (by omega)
 have KS:=Lh (W7 (l:=x.q) (l':=q) (z:=val x.q-val q) (by omega) (by omega) rfl)
 have KH:=Lh (Za4 (T:=x.cost) (p:=q) (a:=x.q) (by omega) (by omega) (by omega) x2 hq x1 (by omega) (by omega) (by omega))
 obtain⟨xa,hxa⟩:∃xa,xa=Vb x q:=⟨_,rfl⟩
 obtain⟨xb,hxb⟩:∃xb,xb=WL x q:=⟨_,rfl⟩
 have HXA:=Lh hxa;have HXB:=Lh hxb;obtain⟨d,hd⟩:∃d,d=canon (val x.q-val q):=⟨_,rfl⟩
 obtain⟨sa,hsa⟩:∃sa,sa=canon (Mx (val x.cost) (val q) (val x.q)):=⟨_,rfl⟩
 obtain⟨sb,hsb⟩:∃sb,sb=canon (val x.cost-Mx (val x.cost) (val q) (val x.q)):=⟨_,rfl⟩
 have HA1:Hid (x.used=[]->#[Value.string ⟨xa.id.toArray⟩,.string ⟨xa.ins.toArray⟩,.int .i64 xa.acq,.int .i64 xa.opn,.string ⟨xa.q.toArray⟩,.string ⟨xa.cost.toArray⟩,.string ⟨xa.used.toArray⟩]=#[Value.string ⟨x.id.toArray⟩,.string ⟨x.ins.toArray⟩,.int .i64 x.acq,.int .i64 x.opn,.string ⟨q.toArray⟩,.string ⟨sa.toArray⟩,.string ⟨x.used.toArray⟩]/\#[Value.string ⟨xb.id.toArray⟩,.string ⟨xb.ins.toArray⟩,.int .i64 xb.acq,.int .i64 xb.opn,.string ⟨xb.q.toArray⟩,.string ⟨xb.cost.toArray⟩,.string ⟨xb.used.toArray⟩]=#[Value.string ⟨x.id.toArray⟩,.string ⟨x.ins.toArray⟩,.int .i64 x.acq,.int .i64 x.opn,.string ⟨d.toArray⟩,.string ⟨sb.toArray⟩,.string ⟨x.used.toArray⟩]):=fun hu=>by
  rw[hxa,hxb,hd,hsa,hsb];simp only[Vb,WL,hu];exact⟨rfl,rfl⟩
 have HA2:Hid (x.used≠[]->#[Value.string ⟨xa.id.toArray⟩,.string ⟨xa.ins.toArray⟩,.int .i64 xa.acq,.int .i64 xa.opn,.string ⟨xa.q.toArray⟩,.string ⟨xa.cost.toArray⟩,.string ⟨xa.used.toArray⟩]=#[Value.string ⟨x.id.toArray⟩,.string ⟨x.ins.toArray⟩,.int .i64 x.acq,.int .i64 x.opn,.string ⟨q.toArray⟩,.string ⟨sa.toArray⟩,.string ⟨q.toArray⟩]/\#[Value.string ⟨xb.id.toArray⟩,.string ⟨xb.ins.toArray⟩,.int .i64 xb.acq,.int .i64 xb.opn,.string ⟨xb.q.toArray⟩,.string ⟨xb.cost.toArray⟩,.string ⟨xb.used.toArray⟩]=#[Value.string ⟨x.id.toArray⟩,.string ⟨x.ins.toArray⟩,.int .i64 x.acq,.int .i64 x.opn,.string ⟨d.toArray⟩,.string ⟨sb.toArray⟩,.string ⟨d.toArray⟩]):=fun hu=>by
  rw[hxa,hxb,hd,hsa,hsb];simp only[Vb,WL,if_neg hu];exact⟨trivial,trivial⟩
 rw[<-hxa,<-hxb];rw[<-hd] at KS;rw[<-hsa,<-hsb] at KH;obtain⟨a1,a2,a3,a4⟩:=Zcz w (.cells #[.string ⟨x.id.toArray⟩,.string ⟨x.ins.toArray⟩,.int .i64 x.acq,.int .i64 x.opn,.string ⟨x.q.toArray⟩,.string ⟨x.cost.toArray⟩,.string ⟨x.used.toArray⟩] 130) (.cells #[.string ⟨#[]⟩,.string ⟨#[]⟩,.int .i64 0,.int .i64 0,.string ⟨#[]⟩,.string ⟨#[]⟩,.string ⟨#[]⟩] 130) (.cells #[.string ⟨#[]⟩,.string ⟨#[]⟩,.int .i64 0,.int .i64 0,.string ⟨#[]⟩,.string ⟨#[]⟩,.string ⟨#[]⟩] 130);have B2:Blk (((w.alloc (.cells #[.string ⟨x.id.toArray⟩,.string ⟨x.ins.toArray⟩,.int .i64 x.acq,.int .i64 x.opn,.string ⟨x.q.toArray⟩,.string ⟨x.cost.toArray⟩,.string ⟨x.used.toArray⟩] 130)).alloc (.cells #[.string ⟨#[]⟩,.string ⟨#[]⟩,.int .i64 0,.int .i64 0,.string ⟨#[]⟩,.string ⟨#[]⟩,.string ⟨#[]⟩] 130)).alloc (.cells #[.string ⟨#[]⟩,.string ⟨#[]⟩,.int .i64 0,.int .i64 0,.string ⟨#[]⟩,.string ⟨#[]⟩,.string ⟨#[]⟩] 130)) w.heap.size #[.string ⟨x.id.toArray⟩,.string ⟨x.ins.toArray⟩,.int .i64 x.acq,.int .i64 x.opn,.string ⟨x.q.toArray⟩,.string ⟨x.cost.toArray⟩,.string ⟨x.used.toArray⟩]:=⟨_,a1⟩;have p0:=B2.c 0;have p1:=B2.c 1;have p2:=B2.c 2;have p3:=B2.c 3;have p4:=B2.c 4;have p5:=B2.c 5;have p6:=B2.c 6;have B2H:=Lh B2;have A2:=Lh a2;have A3:=Lh a3;have HUS:=Lh x6;have hb:=a4;clear hx hq h0 h1 hca hcb hxa hxb hd hsa hsb x1 x2 x3 x4 x5 x6 B2 a1 a2 a3 a4 hl4 hl5 hs;go_enter func215,ntmps215;go_wp2_with fail
 refine (K1.out.of hG hb).mono ?_
 rintro e w1 ⟨rfl,hb1⟩;clear p0 p1 p2 p3 p4 p5 p6 K1;have x2:=B2H.out.below hb1;have H4:Hid (w1.heap[w.heap.size+1]?=some (.cells #[.string ⟨#[]⟩,.string ⟨#[]⟩,.int .i64 0,.int .i64 0,.string ⟨#[]⟩,.string ⟨#[]⟩,.string ⟨#[]⟩] 130 (0,0))):=(hb1.block _ (Ag.1 A2.out).1).trans A2.out;have H5:Hid (w1.heap[w.heap.size+1+1]?=some (.cells #[.string ⟨#[]⟩,.string ⟨#[]⟩,.int .i64 0,.int .i64 0,.string ⟨#[]⟩,.string ⟨#[]⟩,.string ⟨#[]⟩] 130 (0,0))):=(hb1.block _ (Ag.1 A3.out).1).trans A3.out;replace hb:=bto hb hb1;clear hb1 B2H A2 A3;obtain⟨b4,hb4⟩:∃b4,b4=w.heap.size+1:=⟨_,rfl⟩
 obtain⟨b5,hb5⟩:∃b5,b5=w.heap.size+1+1:=⟨_,rfl⟩
 obtain⟨b2,hb2⟩:∃b2,b2=w.heap.size:=⟨_,rfl⟩
 have l4:w.heap.size<=b4:=by omega
 have l5:w.heap.size<=b5:=by omega
 have l2:w.heap.size<=b2:=by omega
 have hne45:b4≠b5:=by omega
 have hlt4:b4<w1.heap.size:=by rw[hb4];exact (Ag.1 H4.out).1
 have hlt5:b5<w1.heap.size:=by rw[hb5];exact (Ag.1 H5.out).1
 have hlt2:b2<w1.heap.size:=by rw[hb2];exact x2.lt
 rw[<-hb2] at x2;rw[<-hb4] at H4;rw[<-hb5] at H5;have HB4:=Lh hb4;have HB5:=Lh hb5;rw[<-hb5,<-hb4,<-hb2];clear hb4 hb5 hb2;go_wp2_with fail
 refine (K2.out.e.of hG hb).mono ?_
 rintro e w2 ⟨rfl,hb2⟩;replace hb:=bto hb hb2;replace x2:=x2.below hb2;replace H4:=Lh ((hb2.block _ hlt4).trans H4.out);replace H5:=Lh ((hb2.block _ hlt5).trans H5.out);replace hlt4:=Nat.lt_of_lt_of_le hlt4 hb2.size;replace hlt5:=Nat.lt_of_lt_of_le hlt5 hb2.size;clear hb2 K2;go_wp2_with fail
 refine (KC1.out.e.of hG hb).mono ?_
 rintro e w3 ⟨rfl,hb3⟩;replace hb:=bto hb hb3;replace x2:=x2.below hb3;replace H4:=Lh ((hb3.block _ hlt4).trans H4.out);replace H5:=Lh ((hb3.block _ hlt5).trans H5.out);replace hlt4:=Nat.lt_of_lt_of_le hlt4 hb3.size;replace hlt5:=Nat.lt_of_lt_of_le hlt5 hb3.size;clear hb3 KC1;have q4:=x2.c 4;go_wp2_with fail
 refine (KC2.out.e.of hG hb).mono ?_
 rintro e w4 ⟨rfl,hb4⟩;replace hb:=bto hb hb4;replace x2:=x2.below hb4;replace H4:=Lh ((hb4.block _ hlt4).trans H4.out);replace H5:=Lh ((hb4.block _ hlt5).trans H5.out);replace hlt4:=Nat.lt_of_lt_of_le hlt4 hb4.size;replace hlt5:=Nat.lt_of_lt_of_le hlt5 hb4.size;clear hb4 q4 KC2;go_wp2_with fail;clear g1 g2 ca1 cb1;refine Zm (by kernel_rfl) (by kernel_rfl) ?_
 iterate 2
  refine Zw (.agg #[.string ⟨x.id.toArray⟩,.string ⟨x.ins.toArray⟩,.int .i64 x.acq,.int .i64 x.opn,.string ⟨x.q.toArray⟩,.string ⟨x.cost.toArray⟩,.string ⟨x.used.toArray⟩]) (fun _=>rfl) (fun ρ wz hw=>ZH 130 _ rfl b2 0 rfl (lcs x) _ (Vk (x2.below hw)).out underlying130 rfl (by rw[HZ.out];rfl)) ?_
  simp only[Act.put,StT,StZ,StS,Nat.reduceAdd]
 iterate 2
  refine M4 (fun b=>.pointer (some ⟨b,0,none⟩)) (.cells #[.string ⟨#[]⟩,.string ⟨#[]⟩,.int .i64 0,.int .i64 0,.string ⟨#[]⟩,.string ⟨#[]⟩,.string ⟨#[]⟩] 130) rfl (fun _=>rfl) (fun ρ wz hw=>by go_simp;try rfl) ?_
  simp only[Act.put,StT,StZ,StS,Nat.reduceAdd]
 refine NC 2 0 _ 7 #[.string ⟨#[]⟩,.string ⟨#[]⟩,.int .i64 0,.int .i64 0,.string ⟨#[]⟩,.string ⟨#[]⟩,.string ⟨#[]⟩] (lcs x) 130 rfl rfl rfl (by decide) (fun _=>rfl) (fun ρ wz hw hc hf=>ZZ 130 _ _ rfl (ρ 2) 0 #[.string ⟨x.id.toArray⟩,.string ⟨x.ins.toArray⟩,.int .i64 x.acq,.int .i64 x.opn,.string ⟨x.q.toArray⟩,.string ⟨x.cost.toArray⟩,.string ⟨x.used.toArray⟩] rfl rfl (V9 hc hf) (by rw[HZ.out];rfl) (Uw x)) ?_
 simp only[Act.put,Nat.reduceAdd];refine NC 3 0 _ 8 #[.string ⟨#[]⟩,.string ⟨#[]⟩,.int .i64 0,.int .i64 0,.string ⟨#[]⟩,.string ⟨#[]⟩,.string ⟨#[]⟩] (lcs x) 130 rfl rfl rfl (by decide) (fun _=>rfl) (fun ρ wz hw hc hf=>ZZ 130 _ _ rfl (ρ 3) 0 #[.string ⟨x.id.toArray⟩,.string ⟨x.ins.toArray⟩,.int .i64 x.acq,.int .i64 x.opn,.string ⟨x.q.toArray⟩,.string ⟨x.cost.toArray⟩,.string ⟨x.used.toArray⟩] rfl rfl (V9 hc hf) (by rw[HZ.out];rfl) (Uw x)) ?_
 simp only[Act.put,Nat.reduceAdd];intro ρ w5 hF;dsimp only;have H7:Hid (w5.heap[ρ 2]?=some (.cells #[.string ⟨x.id.toArray⟩,.string ⟨x.ins.toArray⟩,.int .i64 x.acq,.int .i64 x.opn,.string ⟨x.q.toArray⟩,.string ⟨x.cost.toArray⟩,.string ⟨x.used.toArray⟩] 130 (0,0))):=(hF.box 2 _ _ rfl).2;have H8:Hid (w5.heap[ρ 3]?=some (.cells #[.string ⟨x.id.toArray⟩,.string ⟨x.ins.toArray⟩,.int .i64 x.acq,.int .i64 x.opn,.string ⟨x.q.toArray⟩,.string ⟨x.cost.toArray⟩,.string ⟨x.used.toArray⟩] 130 (0,0))):=(hF.box 3 _ _ rfl).2;have l7:=(hF.box 2 _ _ rfl).1;have l8:=(hF.box 3 _ _ rfl).1;have hne78:ρ 2≠ρ 3:=fun e=>by have:=hF.ne 2 3 (by simp) (by simp) e;omega
 have hbF:=hF.below;clear hF;generalize ρ 2=b7 at *;generalize ρ 3=b8 at *;have hlt2:=x2.lt;have hw4:=hb.size;have m7:w.heap.size<=b7:=Nt hw4 l7;have m8:w.heap.size<=b8:=Nt hw4 l8;have n74:b7≠b4:=by omega
 have n75:b7≠b5:=by omega
 have n84:b8≠b4:=by omega
 have n85:b8≠b5:=by omega
 have n27:b2≠b7:=by omega
 have n28:b2≠b8:=by omega
 have n87:b8≠b7:=Ne.symm hne78;have H2:Hid (Blk w5 b2 #[.string ⟨x.id.toArray⟩,.string ⟨x.ins.toArray⟩,.int .i64 x.acq,.int .i64 x.opn,.string ⟨x.q.toArray⟩,.string ⟨x.cost.toArray⟩,.string ⟨x.used.toArray⟩]):=x2.below hbF;replace H4:=Lh (Zt H4.out hbF);replace H5:=Lh (Zt H5.out hbF);replace hb:=bto hb hbF;clear hbF x2 hlt2 hlt4 hlt5 l7 l8 hw4;have q4:=H2.out.c 4;go_wp2_with fail
 refine (KS.out.e.of hG hb).mono ?_
 rintro e w6 ⟨rfl,hb6⟩;clear q4 KS;replace H2:=Lh (H2.out.below hb6);replace H4:=Lh (Zt H4.out hb6);replace H5:=Lh (Zt H5.out hb6);replace H7:=Lh (Zt H7.out hb6);replace H8:=Lh (Zt H8.out hb6);replace hb:=bto hb hb6;clear hb6;have q4:=H2.out.c 4;have q5:=H2.out.c 5;have r1:w6.cell? ⟨b7,4,none⟩=some (.string ⟨x.q.toArray⟩):=Zg H7.out 4;have r2:w6.frozen? ⟨b7,4,none⟩=false:=Zn H7.out 4;have r3:w6.cell? ⟨b8,4,none⟩=some (.string ⟨x.q.toArray⟩):=Zg H8.out 4;have r4:w6.frozen? ⟨b8,4,none⟩=false:=Zn H8.out 4;replace hb:=(hb.setCell (p:=⟨b7,4,none⟩) m7 (.string ⟨q.toArray⟩)).setCell (p:=⟨b8,4,none⟩) m8 (.string ⟨d.toArray⟩);go_wp2_with fail
 refine (KH.out.e.of hG hb).mono ?_
 rintro e w7 ⟨rfl,hb7⟩;clear q4 q5 r1 r2 r3 r4 KH;replace H2:=Lh (((H2.out.setO n27).setO n28).below hb7);replace H4:=Lh (Zt (hoth (hoth H4.out (Ne.symm n74)) (Ne.symm n84)) hb7);replace H5:=Lh (Zt (hoth (hoth H5.out (Ne.symm n75)) (Ne.symm n85)) hb7);replace H7:=Lh (Zt (hoth (hset _ H7.out) hne78) hb7);replace H8:=Lh (Zt (hset _ (hoth H8.out n87)) hb7);replace hb:=bto hb hb7;clear hb7;have q6:=H2.out.c 6;have r1:w7.cell? ⟨b7,5,none⟩=some (.string ⟨x.cost.toArray⟩):=Zg H7.out 5;have r2:w7.frozen? ⟨b7,5,none⟩=false:=Zn H7.out 5;have r3:w7.cell? ⟨b8,5,none⟩=some (.string ⟨x.cost.toArray⟩):=Zg H8.out 5;have r4:w7.frozen? ⟨b8,5,none⟩=false:=Zn H8.out 5;replace hb:=(hb.setCell (p:=⟨b7,5,none⟩) m7 (.string ⟨sa.toArray⟩)).setCell (p:=⟨b8,5,none⟩) m8 (.string ⟨sb.toArray⟩);have HB:=Lh hb;clear hb;obtain⟨W9,hW9⟩:∃W9,W9=(w7.setCell ⟨b7,5,none⟩ (.string ⟨sa.toArray⟩)).setCell ⟨b8,5,none⟩ (.string ⟨sb.toArray⟩):=⟨_,rfl⟩
 have H4b:Hid (W9.heap[b4]?=some (.cells #[.string ⟨#[]⟩,.string ⟨#[]⟩,.int .i64 0,.int .i64 0,.string ⟨#[]⟩,.string ⟨#[]⟩,.string ⟨#[]⟩] 130 (0,0))):=by show _=_;rw[hW9];exact hoth (hoth H4.out (Ne.symm n74)) (Ne.symm n84)
 have H5b:Hid (W9.heap[b5]?=some (.cells #[.string ⟨#[]⟩,.string ⟨#[]⟩,.int .i64 0,.int .i64 0,.string ⟨#[]⟩,.string ⟨#[]⟩,.string ⟨#[]⟩] 130 (0,0))):=by show _=_;rw[hW9];exact hoth (hoth H5.out (Ne.symm n75)) (Ne.symm n85)
 have H7b:Hid (W9.heap[b7]?=some (.cells #[.string ⟨x.id.toArray⟩,.string ⟨x.ins.toArray⟩,.int .i64 x.acq,.int .i64 x.opn,.string ⟨q.toArray⟩,.string ⟨sa.toArray⟩,.string ⟨x.used.toArray⟩] 130 (0,0))):=by show _=_;rw[hW9];exact hoth (hset _ H7.out) hne78
 have H8b:Hid (W9.heap[b8]?=some (.cells #[.string ⟨x.id.toArray⟩,.string ⟨x.ins.toArray⟩,.int .i64 x.acq,.int .i64 x.opn,.string ⟨d.toArray⟩,.string ⟨sb.toArray⟩,.string ⟨x.used.toArray⟩] 130 (0,0))):=by show _=_;rw[hW9];exact hset _ (hoth H8.out n87)
 rw[<-hW9] at HB;have HW9:=Lh hW9;clear H4 H5 H7 H8 H2 hW9;have hn7:∀{F:Fx},(∀b,F b≠none->b=b4∨b=b5)->¬(F b7≠none):=fun h hc=>by rcases h b7 hc with e|e<;>omega
 have hn8:∀{F:Fx},(∀b,F b≠none->b=b4∨b=b5)->¬(F b8≠none):=fun h hc=>by rcases h b8 hc with e|e<;>omega
 by_cases hu:x.used=[]
 ·have e1:(x.used==[])=true:=by rw[hu];rfl
  have e2:x.used.isEmpty=true:=by rw[hu];rfl
  have K7:Hid (Blk W9 b7 #[.string ⟨xa.id.toArray⟩,.string ⟨xa.ins.toArray⟩,.int .i64 xa.acq,.int .i64 xa.opn,.string ⟨xa.q.toArray⟩,.string ⟨xa.cost.toArray⟩,.string ⟨xa.used.toArray⟩]):=by rw[(HA1.out hu).1];exact⟨130,H7b.out⟩
  have K8:Hid (Blk W9 b8 #[.string ⟨xb.id.toArray⟩,.string ⟨xb.ins.toArray⟩,.int .i64 xb.acq,.int .i64 xb.opn,.string ⟨xb.q.toArray⟩,.string ⟨xb.cost.toArray⟩,.string ⟨xb.used.toArray⟩]):=by rw[(HA1.out hu).2];exact⟨130,H8b.out⟩
  have H4:=H4b;have H5:=H5b;clear hu HA1 HA2 H7b H8b H4b H5b;go_wp2_with fail;rw[<-HW9.out];clear q6 r1 r2 r3 r4 e1 e2;have hne:=hne45;obtain⟨F,hF⟩:∃F:Fx,F=fun b=>if b=b4 then some (.cells #[.string ⟨#[]⟩,.string ⟨#[]⟩,.int .i64 0,.int .i64 0,.string ⟨#[]⟩,.string ⟨#[]⟩,.string ⟨#[]⟩] 130 (0,0)) else if b=b5 then some (.cells #[.string ⟨#[]⟩,.string ⟨#[]⟩,.int .i64 0,.int .i64 0,.string ⟨#[]⟩,.string ⟨#[]⟩,.string ⟨#[]⟩] 130 (0,0)) else none:=⟨_,rfl⟩
  have f1:F b4=some (.cells #[.string ⟨#[]⟩,.string ⟨#[]⟩,.int .i64 0,.int .i64 0,.string ⟨#[]⟩,.string ⟨#[]⟩,.string ⟨#[]⟩] 130 (0,0)):=by rw[hF];exact if_pos rfl
  have f2:F b5=some (.cells #[.string ⟨#[]⟩,.string ⟨#[]⟩,.int .i64 0,.int .i64 0,.string ⟨#[]⟩,.string ⟨#[]⟩,.string ⟨#[]⟩] 130 (0,0)):=by rw[hF];exact (if_neg (Ne.symm hne)).trans (if_pos rfl)
  have hX:∀b,F b≠none->b=b4∨b=b5:=fun b hb=>by
   rw[hF] at hb;dsimp only at hb
   by_cases h1:b=b4
   ·exact .inl h1
   ·by_cases h2:b=b5
    ·exact .inr h2
    ·rw[if_neg h1,if_neg h2] at hb;exact absurd rfl hb
  have HFF:Hid (∀b ob,F b=some ob->W9.heap[b]?=some ob):=fun b ob h=>by
   rw[hF] at h;dsimp only at h
   by_cases h1:b=b4
   ·rw[if_pos h1] at h;rw[h1,<-h];exact H4.out
   ·rw[if_neg h1] at h
    by_cases h2:b=b5
    ·rw[if_pos h2] at h;rw[h2,<-h];exact H5.out
    ·rw[if_neg h2] at h;cases h
  obtain⟨tch,htch⟩:∃tch:Nat->List Nat,tch=fun b=>if b=b4 then [2] else if b=b5 then [3] else []:=⟨_,rfl⟩
  clear hF;have f2b:(fun kb=>if kb=b4 then some (Obj.cells (Xq #[.string ⟨#[]⟩,.string ⟨#[]⟩,.int .i64 0,.int .i64 0,.string ⟨#[]⟩,.string ⟨#[]⟩,.string ⟨#[]⟩] 0 (lcs xa)) 130 (0,0)) else F kb) b5=some (.cells #[.string ⟨#[]⟩,.string ⟨#[]⟩,.int .i64 0,.int .i64 0,.string ⟨#[]⟩,.string ⟨#[]⟩,.string ⟨#[]⟩] 130 (0,0)):=(if_neg (Ne.symm hne)).trans f2
  refine Yd tch F (by kernel_rfl) (by kernel_rfl) (by kernel_rfl) HFF.out ?_
  refine Zk (.agg #[.string ⟨xa.id.toArray⟩,.string ⟨xa.ins.toArray⟩,.int .i64 xa.acq,.int .i64 xa.opn,.string ⟨xa.q.toArray⟩,.string ⟨xa.cost.toArray⟩,.string ⟨xa.used.toArray⟩]) rfl (fun wz hw=>ZH 130 _ rfl b7 0 rfl (lcs xa) _ (Vk (K7.out.keepX hw (hn7 hX))).out underlying130 rfl (by rw[HZ.out];rfl)) ?_
  simp only[Act.put,StT,StZ,StS,Nat.reduceAdd];refine Zk (.agg #[.string ⟨xb.id.toArray⟩,.string ⟨xb.ins.toArray⟩,.int .i64 xb.acq,.int .i64 xb.opn,.string ⟨xb.q.toArray⟩,.string ⟨xb.cost.toArray⟩,.string ⟨xb.used.toArray⟩]) rfl (fun wz hw=>ZH 130 _ rfl b8 0 rfl (lcs xb) _ (Vk (K8.out.keepX hw (hn8 hX))).out underlying130 rfl (by rw[HZ.out];rfl)) ?_
  simp only[Act.put,StT,StZ,StS,Nat.reduceAdd];refine XY b4 0 #[.string ⟨#[]⟩,.string ⟨#[]⟩,.int .i64 0,.int .i64 0,.string ⟨#[]⟩,.string ⟨#[]⟩,.string ⟨#[]⟩] (lcs xa) 130 f1 (by simp[htch]) (fun j oj hj=>ZO (l:=[2]) (by kernel_rfl) j oj (by simpa [htch] using hj)) rfl (fun wz hw hc hf=>ZZ 130 _ _ rfl b4 0 #[.string ⟨xa.id.toArray⟩,.string ⟨xa.ins.toArray⟩,.int .i64 xa.acq,.int .i64 xa.opn,.string ⟨xa.q.toArray⟩,.string ⟨xa.cost.toArray⟩,.string ⟨xa.used.toArray⟩] rfl rfl (V9 hc hf) (by rw[HZ.out];rfl) (Uw xa)) ?_
  simp only[Act.put,Nat.reduceAdd];refine XY b5 0 #[.string ⟨#[]⟩,.string ⟨#[]⟩,.int .i64 0,.int .i64 0,.string ⟨#[]⟩,.string ⟨#[]⟩,.string ⟨#[]⟩] (lcs xb) 130 f2b (by simp[htch,Ne.symm hne]) (fun j oj hj=>ZO (l:=[3]) (by kernel_rfl) j oj (by simpa [htch,Ne.symm hne] using hj)) rfl (fun wz hw hc hf=>ZZ 130 _ _ rfl b5 0 #[.string ⟨xb.id.toArray⟩,.string ⟨xb.ins.toArray⟩,.int .i64 xb.acq,.int .i64 xb.opn,.string ⟨xb.q.toArray⟩,.string ⟨xb.cost.toArray⟩,.string ⟨xb.used.toArray⟩] rfl rfl (V9 hc hf) (by rw[HZ.out];rfl) (Uw xb)) ?_
  simp only[Act.put,Nat.reduceAdd];refine Zk _ rfl (fun wz hw=>by go_simp;try rfl) ?_
  simp only[Act.put,StT,StZ,StS,Nat.reduceAdd];refine Xp (fun wf hFf=>?_)
  have k4:Blk wf b4 #[.string ⟨xa.id.toArray⟩,.string ⟨xa.ins.toArray⟩,.int .i64 xa.acq,.int .i64 xa.opn,.string ⟨xa.q.toArray⟩,.string ⟨xa.cost.toArray⟩,.string ⟨xa.used.toArray⟩]:=⟨130,hFf.box b4 _ ((if_neg hne).trans (if_pos rfl))⟩;have k5:Blk wf b5 #[.string ⟨xb.id.toArray⟩,.string ⟨xb.ins.toArray⟩,.int .i64 xb.acq,.int .i64 xb.opn,.string ⟨xb.q.toArray⟩,.string ⟨xb.cost.toArray⟩,.string ⟨xb.used.toArray⟩]:=⟨130,hFf.box b5 _ (if_pos rfl)⟩;have hbf:=hFf.below.lower HB.out (fun k hk=>by rcases hX k hk with e|e<;>rw[e]<;>assumption)
  have c0:=k4.c 0;have d0:=k5.c 0;have c1:=k4.c 1;have d1:=k5.c 1;have c2:=k4.c 2;have d2:=k5.c 2;have c3:=k4.c 3;have d3:=k5.c 3;have c4:=k4.c 4;have d4:=k5.c 4;have c5:=k4.c 5;have d5:=k5.c 5;have c6:=k4.c 6;have d6:=k5.c 6;clear hFf f1 f2 f2b hX HFF htch k4 k5;go_wp2;refine bodyPost_ret (v:=.tuple #[(Value.agg #[.string ⟨xa.id.toArray⟩,.string ⟨xa.ins.toArray⟩,.int .i64 xa.acq,.int .i64 xa.opn,.string ⟨xa.q.toArray⟩,.string ⟨xa.cost.toArray⟩,.string ⟨xa.used.toArray⟩]),(Value.agg #[.string ⟨xb.id.toArray⟩,.string ⟨xb.ins.toArray⟩,.int .i64 xb.acq,.int .i64 xb.opn,.string ⟨xb.q.toArray⟩,.string ⟨xb.cost.toArray⟩,.string ⟨xb.used.toArray⟩]),.int .i64 0]) (by simp[results,results215,go_sem,c0,c1,c2,c3,c4,c5,c6,d0,d1,d2,d3,d4,d5,d6]) rfl ?_
  exact⟨by rw[HXA.out,HXB.out],hbf⟩
 ·have e1:(x.used==[])=false:=by rw[Bn];exact hu
  have e2:x.used.isEmpty=false:=by rw[List.isEmpty_eq_false_iff];exact hu
  have H7:=H7b;have H8:=H8b;obtain⟨ha1,ha2⟩:=HA2.out hu;have HA:=Lh (And.intro ha1 ha2);clear hu HA1 HA2 H7b H8b ha1 ha2;go_wp2_with fail;rw[<-HW9.out];clear q6 r1 r2 r3 r4 e1 e2 HW9;have hne:=hne78;obtain⟨F,hF⟩:∃F:Fx,F=fun b=>if b=b7 then some (.cells #[.string ⟨x.id.toArray⟩,.string ⟨x.ins.toArray⟩,.int .i64 x.acq,.int .i64 x.opn,.string ⟨q.toArray⟩,.string ⟨sa.toArray⟩,.string ⟨x.used.toArray⟩] 130 (0,0)) else if b=b8 then some (.cells #[.string ⟨x.id.toArray⟩,.string ⟨x.ins.toArray⟩,.int .i64 x.acq,.int .i64 x.opn,.string ⟨d.toArray⟩,.string ⟨sb.toArray⟩,.string ⟨x.used.toArray⟩] 130 (0,0)) else none:=⟨_,rfl⟩
  have f1:F b7=some (.cells #[.string ⟨x.id.toArray⟩,.string ⟨x.ins.toArray⟩,.int .i64 x.acq,.int .i64 x.opn,.string ⟨q.toArray⟩,.string ⟨sa.toArray⟩,.string ⟨x.used.toArray⟩] 130 (0,0)):=by rw[hF];exact if_pos rfl
  have f2:F b8=some (.cells #[.string ⟨x.id.toArray⟩,.string ⟨x.ins.toArray⟩,.int .i64 x.acq,.int .i64 x.opn,.string ⟨d.toArray⟩,.string ⟨sb.toArray⟩,.string ⟨x.used.toArray⟩] 130 (0,0)):=by rw[hF];exact (if_neg (Ne.symm hne)).trans (if_pos rfl)
  have hX:∀b,F b≠none->b=b7∨b=b8:=fun b hb=>by
   rw[hF] at hb;dsimp only at hb
   by_cases h1:b=b7
   ·exact .inl h1
   ·by_cases h2:b=b8
    ·exact .inr h2
    ·rw[if_neg h1,if_neg h2] at hb;exact absurd rfl hb
  have HFF:Hid (∀b ob,F b=some ob->W9.heap[b]?=some ob):=fun b ob h=>by
   rw[hF] at h;dsimp only at h
   by_cases h1:b=b7
   ·rw[if_pos h1] at h;rw[h1,<-h];exact H7.out
   ·rw[if_neg h1] at h
    by_cases h2:b=b8
    ·rw[if_pos h2] at h;rw[h2,<-h];exact H8.out
    ·rw[if_neg h2] at h;cases h
  obtain⟨tch,htch⟩:∃tch:Nat->List Nat,tch=fun b=>if b=b7 then [1,5] else if b=b8 then [3,7] else []:=⟨_,rfl⟩
  clear hF;have f2b:(fun kb=>if kb=b7 then some (Obj.cells (Array.setIfInBounds (#[.string ⟨x.id.toArray⟩,.string ⟨x.ins.toArray⟩,.int .i64 x.acq,.int .i64 x.opn,.string ⟨q.toArray⟩,.string ⟨sa.toArray⟩,.string ⟨x.used.toArray⟩]) 6 (.string ⟨q.toArray⟩)) 130 (0,0)) else F kb) b8=some (.cells #[.string ⟨x.id.toArray⟩,.string ⟨x.ins.toArray⟩,.int .i64 x.acq,.int .i64 x.opn,.string ⟨d.toArray⟩,.string ⟨sb.toArray⟩,.string ⟨x.used.toArray⟩] 130 (0,0)):=(if_neg (Ne.symm hne)).trans f2
  refine Yd tch F (by kernel_rfl) (by kernel_rfl) (by kernel_rfl) HFF.out ?_
  refine Zk _ rfl (fun wz hw=>by go_simp;try rfl) ?_
  simp only[Act.put,StT,StZ,StS,Nat.reduceAdd];refine Xn b7 #[.string ⟨x.id.toArray⟩,.string ⟨x.ins.toArray⟩,.int .i64 x.acq,.int .i64 x.opn,.string ⟨q.toArray⟩,.string ⟨sa.toArray⟩,.string ⟨x.used.toArray⟩] 130 (.string ⟨q.toArray⟩) f1 (by simp[htch]) rfl (fun wz hw hc=>by have q0:wz.cell? ⟨b7,4,none⟩=some (.string ⟨q.toArray⟩):=hc 4;clear hc;go_simp;try rfl) ?_
  simp only[Act.put,StT,StZ,StS,Nat.reduceAdd];refine Zk _ rfl (fun wz hw=>by go_simp;try rfl) ?_
  simp only[Act.put,StT,StZ,StS,Nat.reduceAdd];refine Xn b8 #[.string ⟨x.id.toArray⟩,.string ⟨x.ins.toArray⟩,.int .i64 x.acq,.int .i64 x.opn,.string ⟨d.toArray⟩,.string ⟨sb.toArray⟩,.string ⟨x.used.toArray⟩] 130 (.string ⟨d.toArray⟩) f2 (by simp[htch,Ne.symm hne]) rfl (fun wz hw hc=>by have q0:wz.cell? ⟨b8,4,none⟩=some (.string ⟨d.toArray⟩):=hc 4;clear hc;go_simp;try rfl) ?_
  simp only[Act.put,StT,StZ,StS,Nat.reduceAdd];refine Zk _ rfl (fun wz hw=>by go_simp;try rfl) ?_
  simp only[Act.put,StT,StZ,StS,Nat.reduceAdd];refine Xo b7 6 #[.string ⟨x.id.toArray⟩,.string ⟨x.ins.toArray⟩,.int .i64 x.acq,.int .i64 x.opn,.string ⟨q.toArray⟩,.string ⟨sa.toArray⟩,.string ⟨x.used.toArray⟩] (.string ⟨q.toArray⟩) 130 f1 (by simp[htch]) (fun j oj hj=>ZO (l:=[1,5]) (by kernel_rfl) j oj (by simpa [htch] using hj)) rfl (fun wz hw hc hf=>by have q0:wz.cell? ⟨b7,6,none⟩=some (.string ⟨x.used.toArray⟩):=hc 6;have q1:=hf 6;clear hc hf;go_simp;try rfl) ?_
  simp only[Act.put,Nat.reduceAdd];refine Zk _ rfl (fun wz hw=>by go_simp;try rfl) ?_
  simp only[Act.put,StT,StZ,StS,Nat.reduceAdd];refine Xo b8 6 #[.string ⟨x.id.toArray⟩,.string ⟨x.ins.toArray⟩,.int .i64 x.acq,.int .i64 x.opn,.string ⟨d.toArray⟩,.string ⟨sb.toArray⟩,.string ⟨x.used.toArray⟩] (.string ⟨d.toArray⟩) 130 f2b (by simp[htch,Ne.symm hne]) (fun j oj hj=>ZO (l:=[3,7]) (by kernel_rfl) j oj (by simpa [htch,Ne.symm hne] using hj)) rfl (fun wz hw hc hf=>by have q0:wz.cell? ⟨b8,6,none⟩=some (.string ⟨x.used.toArray⟩):=hc 6;have q1:=hf 6;clear hc hf;go_simp;try rfl) ?_
  simp only[Act.put,Nat.reduceAdd];refine Xp (fun w9 hF9=>?_)
  have K7:Hid (Blk w9 b7 #[.string ⟨xa.id.toArray⟩,.string ⟨xa.ins.toArray⟩,.int .i64 xa.acq,.int .i64 xa.opn,.string ⟨xa.q.toArray⟩,.string ⟨xa.cost.toArray⟩,.string ⟨xa.used.toArray⟩]):=by rw[HA.out.1];exact⟨130,hF9.box b7 _ ((if_neg hne).trans (if_pos rfl))⟩
  have K8:Hid (Blk w9 b8 #[.string ⟨xb.id.toArray⟩,.string ⟨xb.ins.toArray⟩,.int .i64 xb.acq,.int .i64 xb.opn,.string ⟨xb.q.toArray⟩,.string ⟨xb.cost.toArray⟩,.string ⟨xb.used.toArray⟩]):=by rw[HA.out.2];exact⟨130,hF9.box b8 _ (if_pos rfl)⟩
  have H4:Hid (w9.heap[b4]?=some (.cells #[.string ⟨#[]⟩,.string ⟨#[]⟩,.int .i64 0,.int .i64 0,.string ⟨#[]⟩,.string ⟨#[]⟩,.string ⟨#[]⟩] 130 (0,0))):=(hF9.below.block _ (Ag.1 H4b.out).1 (fun hc=>by rcases hX _ hc with e|e<;>omega)).trans H4b.out
  have H5:Hid (w9.heap[b5]?=some (.cells #[.string ⟨#[]⟩,.string ⟨#[]⟩,.int .i64 0,.int .i64 0,.string ⟨#[]⟩,.string ⟨#[]⟩,.string ⟨#[]⟩] 130 (0,0))):=(hF9.below.block _ (Ag.1 H5b.out).1 (fun hc=>by rcases hX _ hc with e|e<;>omega)).trans H5b.out
  have HB9:=Lh (hF9.below.lower HB.out (fun k hk=>by rcases hX k hk with e|e<;>rw[e]<;>assumption))
  clear hF9 f1 f2 f2b hX HFF htch H7 H8 H4b H5b HA HB hne;go_wp2_with fail;have hne:=hne45;obtain⟨F,hF⟩:∃F:Fx,F=fun b=>if b=b4 then some (.cells #[.string ⟨#[]⟩,.string ⟨#[]⟩,.int .i64 0,.int .i64 0,.string ⟨#[]⟩,.string ⟨#[]⟩,.string ⟨#[]⟩] 130 (0,0)) else if b=b5 then some (.cells #[.string ⟨#[]⟩,.string ⟨#[]⟩,.int .i64 0,.int .i64 0,.string ⟨#[]⟩,.string ⟨#[]⟩,.string ⟨#[]⟩] 130 (0,0)) else none:=⟨_,rfl⟩
  have f1:F b4=some (.cells #[.string ⟨#[]⟩,.string ⟨#[]⟩,.int .i64 0,.int .i64 0,.string ⟨#[]⟩,.string ⟨#[]⟩,.string ⟨#[]⟩] 130 (0,0)):=by rw[hF];exact if_pos rfl
  have f2:F b5=some (.cells #[.string ⟨#[]⟩,.string ⟨#[]⟩,.int .i64 0,.int .i64 0,.string ⟨#[]⟩,.string ⟨#[]⟩,.string ⟨#[]⟩] 130 (0,0)):=by rw[hF];exact (if_neg (Ne.symm hne)).trans (if_pos rfl)
  have hX:∀b,F b≠none->b=b4∨b=b5:=fun b hb=>by
   rw[hF] at hb;dsimp only at hb
   by_cases h1:b=b4
   ·exact .inl h1
   ·by_cases h2:b=b5
    ·exact .inr h2
    ·rw[if_neg h1,if_neg h2] at hb;exact absurd rfl hb
  have HFF:Hid (∀b ob,F b=some ob->w9.heap[b]?=some ob):=fun b ob h=>by
   rw[hF] at h;dsimp only at h
   by_cases h1:b=b4
   ·rw[if_pos h1] at h;rw[h1,<-h];exact H4.out
   ·rw[if_neg h1] at h
    by_cases h2:b=b5
    ·rw[if_pos h2] at h;rw[h2,<-h];exact H5.out
    ·rw[if_neg h2] at h;cases h
  obtain⟨tch,htch⟩:∃tch:Nat->List Nat,tch=fun b=>if b=b4 then [2] else if b=b5 then [3] else []:=⟨_,rfl⟩
  clear hF;have f2b:(fun kb=>if kb=b4 then some (Obj.cells (Xq #[.string ⟨#[]⟩,.string ⟨#[]⟩,.int .i64 0,.int .i64 0,.string ⟨#[]⟩,.string ⟨#[]⟩,.string ⟨#[]⟩] 0 (lcs xa)) 130 (0,0)) else F kb) b5=some (.cells #[.string ⟨#[]⟩,.string ⟨#[]⟩,.int .i64 0,.int .i64 0,.string ⟨#[]⟩,.string ⟨#[]⟩,.string ⟨#[]⟩] 130 (0,0)):=(if_neg (Ne.symm hne)).trans f2
  refine Yd tch F (by kernel_rfl) (by kernel_rfl) (by kernel_rfl) HFF.out ?_
  refine Zk (.agg #[.string ⟨xa.id.toArray⟩,.string ⟨xa.ins.toArray⟩,.int .i64 xa.acq,.int .i64 xa.opn,.string ⟨xa.q.toArray⟩,.string ⟨xa.cost.toArray⟩,.string ⟨xa.used.toArray⟩]) rfl (fun wz hw=>ZH 130 _ rfl b7 0 rfl (lcs xa) _ (Vk (K7.out.keepX hw (hn7 hX))).out underlying130 rfl (by rw[HZ.out];rfl)) ?_
  simp only[Act.put,StT,StZ,StS,Nat.reduceAdd];refine Zk (.agg #[.string ⟨xb.id.toArray⟩,.string ⟨xb.ins.toArray⟩,.int .i64 xb.acq,.int .i64 xb.opn,.string ⟨xb.q.toArray⟩,.string ⟨xb.cost.toArray⟩,.string ⟨xb.used.toArray⟩]) rfl (fun wz hw=>ZH 130 _ rfl b8 0 rfl (lcs xb) _ (Vk (K8.out.keepX hw (hn8 hX))).out underlying130 rfl (by rw[HZ.out];rfl)) ?_
  simp only[Act.put,StT,StZ,StS,Nat.reduceAdd];refine XY b4 0 #[.string ⟨#[]⟩,.string ⟨#[]⟩,.int .i64 0,.int .i64 0,.string ⟨#[]⟩,.string ⟨#[]⟩,.string ⟨#[]⟩] (lcs xa) 130 f1 (by simp[htch]) (fun j oj hj=>ZO (l:=[2]) (by kernel_rfl) j oj (by simpa [htch] using hj)) rfl (fun wz hw hc hf=>ZZ 130 _ _ rfl b4 0 #[.string ⟨xa.id.toArray⟩,.string ⟨xa.ins.toArray⟩,.int .i64 xa.acq,.int .i64 xa.opn,.string ⟨xa.q.toArray⟩,.string ⟨xa.cost.toArray⟩,.string ⟨xa.used.toArray⟩] rfl rfl (V9 hc hf) (by rw[HZ.out];rfl) (Uw xa)) ?_
  simp only[Act.put,Nat.reduceAdd];refine XY b5 0 #[.string ⟨#[]⟩,.string ⟨#[]⟩,.int .i64 0,.int .i64 0,.string ⟨#[]⟩,.string ⟨#[]⟩,.string ⟨#[]⟩] (lcs xb) 130 f2b (by simp[htch,Ne.symm hne]) (fun j oj hj=>ZO (l:=[3]) (by kernel_rfl) j oj (by simpa [htch,Ne.symm hne] using hj)) rfl (fun wz hw hc hf=>ZZ 130 _ _ rfl b5 0 #[.string ⟨xb.id.toArray⟩,.string ⟨xb.ins.toArray⟩,.int .i64 xb.acq,.int .i64 xb.opn,.string ⟨xb.q.toArray⟩,.string ⟨xb.cost.toArray⟩,.string ⟨xb.used.toArray⟩] rfl rfl (V9 hc hf) (by rw[HZ.out];rfl) (Uw xb)) ?_
  simp only[Act.put,Nat.reduceAdd];refine Zk _ rfl (fun wz hw=>by go_simp;try rfl) ?_
  simp only[Act.put,StT,StZ,StS,Nat.reduceAdd];refine Xp (fun wf hFf=>?_)
  have k4:Blk wf b4 #[.string ⟨xa.id.toArray⟩,.string ⟨xa.ins.toArray⟩,.int .i64 xa.acq,.int .i64 xa.opn,.string ⟨xa.q.toArray⟩,.string ⟨xa.cost.toArray⟩,.string ⟨xa.used.toArray⟩]:=⟨130,hFf.box b4 _ ((if_neg hne).trans (if_pos rfl))⟩;have k5:Blk wf b5 #[.string ⟨xb.id.toArray⟩,.string ⟨xb.ins.toArray⟩,.int .i64 xb.acq,.int .i64 xb.opn,.string ⟨xb.q.toArray⟩,.string ⟨xb.cost.toArray⟩,.string ⟨xb.used.toArray⟩]:=⟨130,hFf.box b5 _ (if_pos rfl)⟩;have hbf:=hFf.below.lower HB9.out (fun k hk=>by rcases hX k hk with e|e<;>rw[e]<;>assumption)
  have c0:=k4.c 0;have d0:=k5.c 0;have c1:=k4.c 1;have d1:=k5.c 1;have c2:=k4.c 2;have d2:=k5.c 2;have c3:=k4.c 3;have d3:=k5.c 3;have c4:=k4.c 4;have d4:=k5.c 4;have c5:=k4.c 5;have d5:=k5.c 5;have c6:=k4.c 6;have d6:=k5.c 6;clear hFf f1 f2 f2b hX HFF htch k4 k5;go_wp2;refine bodyPost_ret (v:=.tuple #[(Value.agg #[.string ⟨xa.id.toArray⟩,.string ⟨xa.ins.toArray⟩,.int .i64 xa.acq,.int .i64 xa.opn,.string ⟨xa.q.toArray⟩,.string ⟨xa.cost.toArray⟩,.string ⟨xa.used.toArray⟩]),(Value.agg #[.string ⟨xb.id.toArray⟩,.string ⟨xb.ins.toArray⟩,.int .i64 xb.acq,.int .i64 xb.opn,.string ⟨xb.q.toArray⟩,.string ⟨xb.cost.toArray⟩,.string ⟨xb.used.toArray⟩]),.int .i64 0]) (by simp[results,results215,go_sem,c0,c1,c2,c3,c4,c5,c6,d0,d1,d2,d3,d4,d5,d6]) rfl ?_
  exact⟨by rw[HXA.out,HXB.out],hbf⟩
def Zat (w0:World) (g:Nat) (xs ys:List Lot) (n:Nat) (cf:Lot->Lot->Int) (e:Ending) (w':World):Prop:=e=.returned (.tuple #[])/\∃zs,SAt w0 g xs w' zs/\(n<=20->O2 cf ys->zs=ys)
def cfF (x y:Lot):Int:=Q6 x.acq y.acq
theorem Za5 (x y:Lot) (w:World):Calls prog 269 #[(Value.agg #[.string ⟨x.id.toArray⟩,.string ⟨x.ins.toArray⟩,.int .i64 x.acq,.int .i64 x.opn,.string ⟨x.q.toArray⟩,.string ⟨x.cost.toArray⟩,.string ⟨x.used.toArray⟩]),(Value.agg #[.string ⟨y.id.toArray⟩,.string ⟨y.ins.toArray⟩,.int .i64 y.acq,.int .i64 y.opn,.string ⟨y.q.toArray⟩,.string ⟨y.cost.toArray⟩,.string ⟨y.used.toArray⟩])] w fun e w'=>e=.returned (.int .i64 (cfF x y))/\Below w.heap.size w w':=by
 have C1:=Lh (fun w'=>Zcw x.acq y.acq w')
 obtain⟨v,hv⟩:∃v,v=cfF x y:=⟨_,rfl⟩
 rw[show Q6 x.acq y.acq=v from hv.symm] at C1
 rw[<-hv];clear hv;have hbA:=Zb w (.cells #[.string ⟨x.id.toArray⟩,.string ⟨x.ins.toArray⟩,.int .i64 x.acq,.int .i64 x.opn,.string ⟨x.q.toArray⟩,.string ⟨x.cost.toArray⟩,.string ⟨x.used.toArray⟩] 130);have hbB:=Zb (w.alloc (.cells #[.string ⟨x.id.toArray⟩,.string ⟨x.ins.toArray⟩,.int .i64 x.acq,.int .i64 x.opn,.string ⟨x.q.toArray⟩,.string ⟨x.cost.toArray⟩,.string ⟨x.used.toArray⟩] 130)) (.cells #[.string ⟨y.id.toArray⟩,.string ⟨y.ins.toArray⟩,.int .i64 y.acq,.int .i64 y.opn,.string ⟨y.q.toArray⟩,.string ⟨y.cost.toArray⟩,.string ⟨y.used.toArray⟩] 130);have x1:YS ((w.alloc (.cells #[.string ⟨x.id.toArray⟩,.string ⟨x.ins.toArray⟩,.int .i64 x.acq,.int .i64 x.opn,.string ⟨x.q.toArray⟩,.string ⟨x.cost.toArray⟩,.string ⟨x.used.toArray⟩] 130)).alloc (.cells #[.string ⟨y.id.toArray⟩,.string ⟨y.ins.toArray⟩,.int .i64 y.acq,.int .i64 y.opn,.string ⟨y.q.toArray⟩,.string ⟨y.cost.toArray⟩,.string ⟨y.used.toArray⟩] 130)) w.heap.size x:=(YS.new w x 130).below hbB;have x2:YS ((w.alloc (.cells #[.string ⟨x.id.toArray⟩,.string ⟨x.ins.toArray⟩,.int .i64 x.acq,.int .i64 x.opn,.string ⟨x.q.toArray⟩,.string ⟨x.cost.toArray⟩,.string ⟨x.used.toArray⟩] 130)).alloc (.cells #[.string ⟨y.id.toArray⟩,.string ⟨y.ins.toArray⟩,.int .i64 y.acq,.int .i64 y.opn,.string ⟨y.q.toArray⟩,.string ⟨y.cost.toArray⟩,.string ⟨y.used.toArray⟩] 130)) (w.heap.size+1) y:=by
  have:=YS.new (w.alloc (.cells #[.string ⟨x.id.toArray⟩,.string ⟨x.ins.toArray⟩,.int .i64 x.acq,.int .i64 x.opn,.string ⟨x.q.toArray⟩,.string ⟨x.cost.toArray⟩,.string ⟨x.used.toArray⟩] 130)) y 130
  rwa [show (w.alloc (.cells #[.string ⟨x.id.toArray⟩,.string ⟨x.ins.toArray⟩,.int .i64 x.acq,.int .i64 x.opn,.string ⟨x.q.toArray⟩,.string ⟨x.cost.toArray⟩,.string ⟨x.used.toArray⟩] 130)).heap.size=w.heap.size+1 by simp] at this
 have hb:=bto hbA hbB;clear hbA hbB;have q0:=x1.c2;have q1:=x2.c2;clear x1 x2;go_enter func269,ntmps269;go_wp2_with fail
 refine (C1.out _).mono ?_
 rintro e w3 ⟨rfl,rfl⟩;go_wp2;go_ret;exact⟨rfl,hb⟩
theorem Dh (args:Array Value) (w:World):(callFunc 269 args).run prog w=.ok (.enter 269 args) w:=by kernel_rfl
end Go.Proofs.YtpieeldbamklkaaGreatDoor
