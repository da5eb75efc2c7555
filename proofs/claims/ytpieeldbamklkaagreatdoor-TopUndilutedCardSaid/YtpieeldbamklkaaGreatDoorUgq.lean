/- The law TopUnitReturns: the growth factors are the changes of the unit price. -/
import Derived.Test.YtpieeldbamklkaaGreatDoorW13
set_option maxHeartbeats 8000000
set_option maxRecDepth 100000
namespace Go.Proofs.YtpieeldbamklkaaGreatDoor
open Go.RowKit Go.Shelf Num
theorem IE:∀(l:List PT) (k:Nat) (p q:PT),l[k]?=some p->l[k+1]?=some q->(YK l)[k]?=some (Rat.divInt q.2.1 (p.2.1+p.2.2))
 | [],k,p,q,h,_=>by simp at h
 | [a],k,p,q,_,h=>by simp at h
 | a::b::r,0,p,q,h1,h2=>by
  have e1:a=p:=by simpa using h1
  have e2:b=q:=by simpa using h2
  subst e1;subst e2;rfl
 | a::b::r,k+1,p,q,h1,h2=>by
  have:=IE (b::r) k p q (by simpa using h1) (by simpa using h2)
  show (Rat.divInt b.2.1 (a.2.1+a.2.2)::YK (b::r))[k+1]?=_;rw[List.getElem?_cons_succ];exact this
theorem Ly:∀(l:List PT) (k:Nat) (p q:PT),NK l->l[k]?=some p->l[k+1]?=some q->0<p.2.1+p.2.2
 | [],k,p,q,_,h,_=>by simp at h
 | [a],k,p,q,_,_,h=>by simp at h
 | a::b::r,0,p,q,h,h1,_=>by
  have e1:a=p:=by simpa using h1
  subst e1;exact h.1
 | a::b::r,k+1,p,q,h,h1,h2=>Ly (b::r) k p q h.2 (by simpa using h1) (by simpa using h2)
theorem Jr {rs:List (List UInt8)} (h:∀r∈rs,r=canon (val r)/\0<=val r):upE rs=0:=by
 unfold upE;rw[if_neg,if_neg]
 ·intro h2;obtain⟨r,hr,e⟩:=List.any_eq_true.1 h2;unfold ngB at e
  have:=of_decide_eq_true e
  have:=(h r hr).2
  omega
 ·intro h2;obtain⟨r,hr,e⟩:=List.any_eq_true.1 h2;unfold ncB at e;rw[Dt (h r hr).1] at e;cases e
theorem IF {v u p:List UInt8} (hv:0<=val v) (hu:0<=val u) (hp:0<=val p):0<=val (isS v u p).1:=by
 unfold isS
 split
 ·exact hp
 ·split
  ·decide
  ·show 0<=val (canon _);rw[Zg];have h1:0<val v:=by omega
   rw[(VZ h1).1];exact Int.ediv_nonneg (Int.mul_nonneg hp hu) hv
theorem Qt {ds:List Del} {xs:List Dlt} (h:Sg ds xs):∀k,k<=ds.length->0<=val (X8 xs k)/\X8 xs k=canon (val (X8 xs k))
 | 0,_=>⟨by show 0<=val [];decide,rfl⟩
 | k+1,hk=>by
  obtain⟨d,hd⟩:∃d,ds[k]?=some d:=⟨_,List.getElem?_eq_getElem (by omega)⟩
  obtain⟨x,hx⟩:∃x,xs[k]?=some x:=⟨_,List.getElem?_eq_getElem (by rw[h.len];omega)⟩
  obtain⟨u1,u2⟩:=Qt h k (by omega)
  obtain⟨h1,h2⟩:=h.ok k d x hd hx;obtain⟨-,c2,e⟩:=UX h2;have hc:=US h1;have hi:=IF (hc d.v (by simp)).2 u1 (hc d.p (by simp)).2
  have hb:val d.u<=val (X8 xs k):=by
   unfold caS at c2
   by_cases hlt:val (X8 xs k)<val d.u
   ·rw[if_pos hlt] at c2;cases c2
   ·omega
  have hun:X8 xs (k+1)=x.un:=by
   show ((xs[k]?).map (·.un)).getD []=x.un
   rw[hx];rfl
  rw[hun,e];refine⟨?_,by rw[Zg]⟩
  show 0<=val (canon _);rw[Zg];omega
structure ZbA (xs:List Dlt) (d d2:Del) (x:Dlt) (q:Rat):Prop where
 ea:upE [x.vl,x.un]=0
 eb:upE [d2.v,x.un]=0
 vp:0<val x.vl
 fq:q=Rat.divInt (val d2.v) (val x.vl)
 mul:x.un≠[]->Rat.divInt (val x.vl) (val x.un)*q=Rat.divInt (val d2.v) (val x.un)
 ul:x.un.length<=200
 vl:x.vl.length<=200
theorem Qu {l:List UInt8} (h:l=canon (val l)) (h0:l≠[]):val l≠0:=fun e=>h0 (by rw[h,e];rfl)
theorem IG {ds:List Del} {xs:List Dlt} (h:Sg ds xs) (hs:∀d∈ds,d.v.length<=20/\d.p.length<=20/\d.u.length<=20):∀k,k<=ds.length->(val (X8 xs k)).natAbs<10 ^ (22*k)
 | 0,_=>by show (val []).natAbs<10 ^ 0;decide
 | k+1,hk=>by
  obtain⟨d,hd⟩:∃d,ds[k]?=some d:=⟨_,List.getElem?_eq_getElem (by omega)⟩
  obtain⟨x,hx⟩:∃x,xs[k]?=some x:=⟨_,List.getElem?_eq_getElem (by rw[h.len];omega)⟩
  have h1:=IG h hs k (by omega)
  obtain⟨-,h2⟩:=h.ok k d x hd hx;obtain⟨s1,s2,s3⟩:=hs d (Lm hd);have hun:X8 xs (k+1)=x.un:=by
   show ((xs[k]?).map (·.un)).getD []=x.un
   rw[hx];rfl
  rw[hun];exact (Ma h2 s2 s3 h1).1
theorem Za8 {ds:List Del} {xs:List Dlt} {k:Nat} {d d2:Del} {x:Dlt} (h6:ds.length<=6) (h:Sg ds xs) (hs:∀d∈ds,d.v.length<=20/\d.p.length<=20/\d.u.length<=20) (hp:YN (Wx ds xs)=0) (hd:ds[k]?=some d) (hd2:ds[k+1]?=some d2) (hx:xs[k]?=some x) :
  ∃q,(YK (pts (Wx ds xs)))[k]?=some q/\ZbA xs d d2 x q:=by
 have hk2:=(Lg.1 hd2).1;obtain⟨x2,hx2⟩:∃x2,xs[k+1]?=some x2:=⟨_,List.getElem?_eq_getElem (by rw[h.len];exact hk2)⟩
 have hpt:∀(j:Nat) (d:Del) (x:Dlt),ds[j]?=some d->xs[j]?=some x->(pts (Wx ds xs))[j]?=some (ptZ (ptO (d,x))):=fun j d x hd hx=>by
  unfold pts Wx;rw[List.getElem?_map,List.getElem?_map,(List.getElem?_zip_eq_some (z:=(d,x))).2 ⟨hd,hx⟩];rfl
 have hf:=IE _ k _ _ (hpt k d x hd hx) (hpt (k+1) d2 x2 hd2 hx2);obtain⟨-,-,hpos,-,-⟩:=Q5 hp;have hps:=Ly _ k _ _ hpos (hpt k d x hd hx) (hpt (k+1) d2 x2 hd2 hx2);obtain⟨h1,h2⟩:=h.ok k d x hd hx;obtain⟨-,-,e⟩:=UX h2;have hvl:val x.vl=val d.v+(val d.p-val x.out):=by
  rw[e];show val (canon _)=_;rw[Zg];show _=val d.v+(val d.p-val (caS d.v (X8 xs k) d.u).1);omega
 have hvc:x.vl=canon (val x.vl):=by
  rw[e];show canon _=canon (val (canon _));rw[Zg]
 have hz:(ptZ (ptO (d,x))).2.1+(ptZ (ptO (d,x))).2.2=val x.vl:=by
  rw[hvl];show val d.v+val (canon (val d.p-val x.out))=_;rw[Zg]
 have hun:X8 xs (k+1)=x.un:=by
  show ((xs[k]?).map (·.un)).getD []=x.un
  rw[hx];rfl
 obtain⟨u1,u2⟩:=Qt h (k+1) (by omega)
 have hub:=IG h hs (k+1) (by omega)
 rw[hun] at u1 u2 hub;rw[hz] at hf hps;obtain⟨h3,-⟩:=h.ok (k+1) d2 x2 hd2 hx2;have hc2:=US h3 d2.v (by simp)
 obtain⟨s1,s2,s3⟩:=hs d (Lm hd);have hob:=(Qs (v:=d.v) (u:=X8 xs k) (b:=d.u) s1 s3).1;have hvb:(val x.vl).natAbs<10 ^ (20+20+1+1):=by
  have a1:=Zo (l:=d.v) (k:=20) s1;have a2:=Zo (l:=d.p) (k:=20) s2;have a3:(val d.p).natAbs<10 ^ (20+20):=Nat.lt_of_lt_of_le a2 (Nat.pow_le_pow_right (by decide) (by omega))
  have a4:(val d.v).natAbs<10 ^ (20+20+1):=Nat.lt_of_lt_of_le a1 (Nat.pow_le_pow_right (by decide) (by omega))
  rw[hvl];refine SX _ a4 (SU _ a3 ?_);rw[e];exact hob
 refine⟨_,hf,⟨Jr fun r hr=>?_,Jr fun r hr=>?_,hps,rfl,fun h0=>Bm (by omega) (Qu u2 h0),?_,?_⟩⟩
 ·simp only[List.mem_cons,List.not_mem_nil,or_false] at hr;rcases hr with rfl|rfl
  ·exact⟨hvc,by omega⟩
  ·exact⟨u2,u1⟩
 ·simp only[List.mem_cons,List.not_mem_nil,or_false] at hr;rcases hr with rfl|rfl
  ·exact hc2
  ·exact⟨u2,u1⟩
 ·rw[u2];exact Nt (Zn _ _ hub) (by omega)
 ·rw[hvc];exact Nt (Zn _ _ hvb) (by decide)
theorem BZ {w:World} {B n:Nat} {v:Value} {qs:List Rat} (h:w.ownsRow B 34 2 v n (TG (frs qs))) (hn:qs.length=n) {k:Nat} {q:Rat} (hq:qs[k]?=some q) :
  ∃g c,v=.slice (some ⟨g,0,none⟩) n c/\g<w.heap.size/\w.cell? ⟨g,k*2,none⟩=some (.string ⟨(fN q).toArray⟩)/\w.cell? ⟨g,k*2+1,none⟩=some (.string ⟨(fD q).toArray⟩):=by
 obtain⟨g,c,e,-,hg,-,hc⟩:=Ts (fun t:Fs=>[.string ⟨t.1.toArray⟩,.string ⟨t.2.toArray⟩]) 2 (fun _=>rfl) h (by unfold frs;rw[List.length_map];exact hn) (i:=k) (x:=(fN q,fD q)) (by unfold frs;rw[List.getElem?_map,hq];rfl)
 exact⟨g,c,e,hg,hc 0 (by decide),hc 1 (by decide)⟩
end Go.Proofs.YtpieeldbamklkaaGreatDoor
