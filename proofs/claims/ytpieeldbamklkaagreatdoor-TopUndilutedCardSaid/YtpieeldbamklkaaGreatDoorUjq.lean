/- The law TopUndiluted: dealing does not take from the investors who remain. -/
import Derived.Test.YtpieeldbamklkaaGreatDoorUgq
import Derived.Test.YtpieeldbamklkaaGreatDoorUiq
set_option maxHeartbeats 8000000
set_option maxRecDepth 100000
namespace Go.Proofs.YtpieeldbamklkaaGreatDoor
open Go.RowKit Go.Shelf Num
theorem Dg {p q:Rat} (h:q<=p):0<=S3 p q:=by
 rcases Rat.le_iff_lt_or_eq.1 h with h|h
 ·unfold S3 Zx;have h1:0<p-q:=by grind
  have h2:0<(p-q).num:=by
   have:=Rat.lt_iff 0 (p-q)
   simpa using this.1 h1
  rw[if_neg (by omega),if_pos h2];decide
 ·rw[h];unfold S3;rw[Rat.sub_self];decide
theorem Zap {v u p:List UInt8} (hv:0<=val v) (hu:0<val u) (h:(isS v u p).2=0):val v*val (isS v u p).1<=val p*val u:=by
 have hu0:u≠[]:=fun e=>by rw[e] at hu;exact absurd hu (by decide)
 unfold isS at h ⊢
 by_cases hp:p=[]
 ·rw[if_pos (.inl hp)];rw[hp];show val v*0<=0*val u;simp
 ·rw[if_neg (fun e=>e.elim hp hu0)] at h ⊢
  by_cases h0:val v=0
  ·rw[if_pos h0] at h;cases h
  ·rw[if_neg h0];show val v*val (canon _)<=_;rw[Zg,(VZ (by omega)).1,Int.mul_comm]
   exact Int.ediv_mul_le _ h0
theorem Zaq {v u b:List UInt8} (hv:0<=val v) (hb:0<=val b) (hu:0<val u):val (caS v u b).1*val u<=val v*val b:=by
 have h0:0<=val v*val b:=Int.mul_nonneg hv hb;have hz:val []*val u<=val v*val b:=by
  show 0*val u<=_;simpa using h0
 unfold caS
 split
 ·exact hz
 ·split
  ·exact hz
  ·rw[if_neg (by omega)]
   show val (canon _)*_<=_;rw[Zg,(VZ hu).1];exact Int.ediv_mul_le _ (by omega)
structure ZbB (d2:Del) (x x2:Dlt) (q:Rat):Prop where
 e:upE (nums x++nums x2)=0
 sm:∀r∈nums x++nums x2,r.length<=1000
 fq:q=Rat.divInt (val d2.v) (val x.vl)
 vp:0<val x.vl
 bx:x.vl.length<=200
 le:LA x x2->q<=Rat.divInt (val x2.vl*val x.un) (val x2.un*val x.vl)
 b1:(val x2.vl*val x.un).natAbs<10 ^ 200
 b2:(val x2.un*val x.vl).natAbs<10 ^ 200
theorem BF {u v p b:List UInt8} {x:Dlt} (h:dlS u v p b=(x,0)) (hp:p=canon (val p)):x.iss=canon (val x.iss)/\x.out=canon (val x.out):=by
 obtain⟨h1,h2,rfl⟩:=UX h;constructor
 ·show (isS v u p).1=canon (val (isS v u p).1);unfold isS
  split
  ·exact hp
  ·split
   ·rfl
   ·show canon _=canon (val (canon _));rw[Zg]
 ·show (caS v u b).1=canon (val (caS v u b).1);unfold caS
  split
  ·rfl
  ·split
   ·rfl
   ·split
    ·rfl
    ·show canon _=canon (val (canon _));rw[Zg]
theorem BG {v u b:List UInt8} (hv:0<=val v) (hb:0<=val b) (hu:0<=val u):0<=val (caS v u b).1:=by
 unfold caS
 split
 ·decide
 ·split
  ·decide
  ·split
   ·decide
   ·show 0<=val (canon _);rw[Zg,(VZ (by omega)).1]
    exact Int.ediv_nonneg (Int.mul_nonneg hv hb) hu
structure ZbC (x:Dlt):Prop where
 can:∀r∈nums x,r=canon (val r)/\0<=val r
 bd:∀r∈nums x,r.length<=160
 bu:(val x.un).natAbs<10 ^ 150
 bv:(val x.vl).natAbs<10 ^ 43
theorem B0 {ds:List Del} {xs:List Dlt} {k:Nat} {d:Del} {x:Dlt} (h6:ds.length<=6) (h:Sg ds xs) (hs:∀d∈ds,d.v.length<=20/\d.p.length<=20/\d.u.length<=20) (hd:ds[k]?=some d) (hx:xs[k]?=some x) (hvl:0<=val x.vl):ZbC x:=by
 have hk:=(Lg.1 hd).1;obtain⟨h1,h2⟩:=h.ok k d x hd hx;obtain⟨s1,s2,s3⟩:=hs d (Lm hd);have hc:=US h1;obtain⟨u0,-⟩:=Qt h k (by omega)
 obtain⟨u1,u2⟩:=Qt h (k+1) (by omega)
 have hub:=IG h hs (k+1) (by omega)
 have hub0:=IG h hs k (by omega)
 have hun:X8 xs (k+1)=x.un:=by
  show ((xs[k]?).map (·.un)).getD []=x.un
  rw[hx];rfl
 rw[hun] at u1 u2 hub;obtain⟨c1,c2⟩:=BF h2 (hc d.p (by simp)).1
 obtain⟨-,-,e⟩:=UX h2;have hub':(val x.un).natAbs<10 ^ 150:=Nat.lt_of_lt_of_le hub (Nat.pow_le_pow_right (by decide) (by omega))
 have hi:=(N9 (v:=d.v) s2 hub0).1;have hip:=IF (hc d.v (by simp)).2 u0 (hc d.p (by simp)).2
 have ho:=(Qs (v:=d.v) (u:=X8 xs k) (b:=d.u) s1 s3).1;have hop:=BG (u:=X8 xs k) (hc d.v (by simp)).2 (hc d.u (by simp)).2 u0
 have hvb:(val x.vl).natAbs<10 ^ 43:=by
  have a1:=Zo (l:=d.v) (k:=20) s1;have a2:=Zo (l:=d.p) (k:=20) s2;have a3:(val d.p).natAbs<10 ^ 20:=a2;have a5:=SU _ (Nat.lt_of_lt_of_le (SX _ a1 a3) (Nat.pow_le_pow_right (by decide) (show 20+1<=20+20 by decide))) ho
  rw[e];show (val (canon _)).natAbs<_;rw[Zg];exact Nat.lt_of_lt_of_le a5 (Nat.pow_le_pow_right (by decide) (by decide))
 have e1:x.iss=(isS d.v (X8 xs k) d.p).1:=by rw[e]
 have e2:x.out=(caS d.v (X8 xs k) d.u).1:=by rw[e]
 rw[<-e1] at hi hip;rw[<-e2] at ho hop;refine⟨fun r hr=>?_,fun r hr=>?_,hub',hvb⟩
 ·simp only[nums,List.mem_cons,List.not_mem_nil,or_false] at hr;rcases hr with rfl|rfl|rfl|rfl
  ·exact⟨c1,hip⟩
  ·exact⟨c2,hop⟩
  ·exact⟨u2,u1⟩
  ·refine⟨?_,hvl⟩;rw[e];show canon _=canon (val (canon _));rw[Zg]
 ·simp only[nums,List.mem_cons,List.not_mem_nil,or_false] at hr;rcases hr with rfl|rfl|rfl|rfl
  ·rw[c1];exact Nt (Zn _ _ hi) (by omega)
  ·rw[c2];exact Nt (Zn _ _ ho) (by decide)
  ·rw[u2];exact Nt (Zn _ _ hub) (by omega)
  ·have hvc:x.vl=canon (val x.vl):=by
    rw[e];show canon _=canon (val (canon _));rw[Zg]
   rw[hvc];exact Nt (Zn _ _ hvb) (by decide)
theorem ZbD {ds:List Del} {xs:List Dlt} {k:Nat} {d d2:Del} {x x2:Dlt} (h6:ds.length<=6) (h:Sg ds xs) (hs:∀d∈ds,d.v.length<=20/\d.p.length<=20/\d.u.length<=20) (hp:YN (Wx ds xs)=0) (hd:ds[k]?=some d) (hd2:ds[k+1]?=some d2) (hx:xs[k]?=some x) (hx2:xs[k+1]?=some x2) :
  ∃q,(YK (pts (Wx ds xs)))[k]?=some q/\ZbB d2 x x2 q:=by
 obtain⟨q,hq,hU⟩:=Za8 h6 h hs hp hd hd2 hx;have hk2:=(Lg.1 hd2).1;obtain⟨h1,h2⟩:=h.ok (k+1) d2 x2 hd2 hx2;have hc:=US h1;obtain⟨hi2,ho2,e⟩:=UX h2;have hun:X8 xs (k+1)=x.un:=by
  show ((xs[k]?).map (·.un)).getD []=x.un
  rw[hx];rfl
 rw[hun] at hi2 ho2 e;obtain⟨u0,u0c⟩:=Qt h (k+1) (by omega)
 rw[hun] at u0 u0c;obtain⟨u2,u2c⟩:=Qt h (k+2) (by omega)
 have hun2:X8 xs (k+2)=x2.un:=by
  show ((xs[k+1]?).map (·.un)).getD []=x2.un
  rw[hx2];rfl
 rw[hun2] at u2 u2c;have hv2:val x2.vl=val d2.v+val d2.p-val x2.out:=by
  rw[e];show val (canon _)=_;rw[Zg]
 have hun3:val x2.un=val x.un+val x2.iss-val d2.u:=by
  rw[e];show val (canon _)=_;rw[Zg]
 have ei:x2.iss=(isS d2.v x.un d2.p).1:=by rw[e]
 have eo:x2.out=(caS d2.v x.un d2.u).1:=by rw[e]
 have hv2p:0<=val x2.vl:=by
  have hbu:val d2.u<=val x.un:=by
   unfold caS at ho2
   by_cases hlt:val x.un<val d2.u
   ·rw[if_pos hlt] at ho2;cases ho2
   ·omega
  have hv:=(hc d2.v (by simp)).2
  have hpp:=(hc d2.p (by simp)).2
  have hbb:=(hc d2.u (by simp)).2
  have hout:val x2.out<=val d2.v:=by
   rw[eo];unfold caS
   split
   ·exact hv
   ·split
    ·exact hv
    ·split
     ·exact hv
     ·show val (canon _)<=_;rw[Zg,(VZ (by omega)).1]
      refine Int.ediv_le_of_le_mul (by omega) ?_
      exact Int.mul_le_mul_of_nonneg_left hbu hv
  omega
 have D1:=B0 h6 h hs hd hx (Int.le_of_lt hU.vp);have D2:=B0 h6 h hs hd2 hx2 hv2p;refine⟨q,hq,⟨Jr fun r hr=>?_,fun r hr=>?_,hU.fq,hU.vp,hU.vl,fun hg=>?_,?_,?_⟩⟩
 ·rcases List.mem_append.1 hr with hr|hr
  ·exact D1.can r hr
  ·exact D2.can r hr
 ·rcases List.mem_append.1 hr with hr|hr
  ·exact Nt (D1.bd r hr) (by decide)
  ·exact Nt (D2.bd r hr) (by decide)
 ·have hu0:=Qu u0c hg.1;have hu2:=Qu u2c hg.2.1;rw[hU.fq,hv2,hun3];refine BA hU.vp (by rw[<-hun3];omega) ?_ ?_
  ·rw[ei];exact Zap (hc d2.v (by simp)).2 (by omega) hi2
  ·rw[eo];exact Zaq (hc d2.v (by simp)).2 (hc d2.u (by simp)).2 (by omega)
 ·exact Nat.lt_of_lt_of_le (Tt D2.bv D1.bu) (Nat.pow_le_pow_right (by decide) (by decide))
 ·exact Nat.lt_of_lt_of_le (Tt D2.bu D1.bv) (Nat.pow_le_pow_right (by decide) (by decide))
theorem Mb {w:World} {A:Option Addr} {ds:List Del} {n:Nat} (c:Nat) (hG:GE w) (hn:ds.length=n) (hn2:n<=9223372036854775807) (hD:TR w A ds) :
  Calls Tryz.prog 5 #[.slice A n c] w fun e w'=>e=.returned (.bool true)/\Below w.heap.size w w':=by
 have K1:=Lh (Lv c hG hn hn2 hD);have HD:=Lh hD;have HN:=Lh hn;clear hD hn;go_enter Tryz.func5,Tryz.ntmps5;go_wp2_with fail
 with_reducible refine K1.out.mono ?_
 rintro e w1 ⟨hb1,⟨v1,v2,rfl⟩|⟨xs,A1,c1,v2,rfl,hpo⟩⟩
 ·have KA:=Lh (Pe w1 (hG.below hb1));go_wp2_with fail
  with_reducible refine KA.out.mono ?_
  rintro e w2 ⟨rfl,hb2⟩;go_wp2;go_ret;exact⟨rfl,bto hb1 hb2⟩
 clear K1;obtain⟨AX,cX,rfl⟩:=WZ hpo.row;have hE0:=hpo.ok;have K2:=Lh (OX (hG.g.below hb1) hpo.ql c1);rw[hE0] at K2;simp only[if_true] at K2;rw[HN.out] at K2;obtain⟨hn1,-⟩:=Q5 hE0;have hpl:(Wx ds xs).length=n:=(Oz hpo.run.len).trans HN.out;have hfl:(YK (pts (Wx ds xs))).length=n-1:=by rw[Vi,U4,hpl]
 have HB1:=Lh hb1;have HPO:=Lh hpo;obtain⟨m,rfl⟩:∃m,n=m+1:=⟨n-1,by omega⟩
 rw[Nat.add_sub_cancel] at hfl;rw[HN.out];clear hb1 hpo hE0 hn1 hpl;go_wp2_with fail
 with_reducible refine K2.out.mono ?_
 rintro e w2 ⟨v,qs,rfl,hqs,hrow,hb2⟩;rw[<-hqs] at hfl;rw[hfl] at hrow;obtain⟨AF,cF,rfl⟩:=WZ hrow;have HROW:=Lh hrow;have HQS:=Lh hqs;have HQL:=Lh hfl;have HB2:=Lh (bto HB1.out hb2);have HB12:=Lh hb2;have j1:IntKind.i64.wrap (m:Int)=(m:Int):=Um rfl (by have h:=HPO.out.n6;rw[HN.out] at h;omega)
 have hm6:m<=6:=by have h:=HPO.out.n6;rw[HN.out] at h;omega
 clear hqs hrow hb2 K2 hfl;go_wp2_with fail
 go_loopw [8,9,10,11,38] (fun _ _ _ _ iv wr=>∃k:Nat,k<=m/\iv=.int .i64 (k:Int)/\Hid (Below w2.heap.size w2 wr)) (fun _ _ _ _ iv _=>m-(intOf iv).toNat)
 case atStart=>exact⟨0,Nat.zero_le _,rfl,Below.refl _ _⟩
 case round=>
  obtain⟨k,hk,rfl,HWR⟩:=hrel
  by_cases hlk:k<m
  rotate_left
  ·have e3:decide (k<m)=false:=Df hlk;have e4:decide ((k:Int)<(m:Int))=false:=Df (by omega)
   have KA:=Lh (Pe wr (hG.below (bto HB2.out HWR.out)));go_wp2_with fail
   with_reducible refine KA.out.mono ?_
   rintro e w5 ⟨rfl,hb5⟩;go_wp2;go_ret;exact⟨rfl,bto (bto HB2.out HWR.out) hb5⟩
  have e3:decide (k<m)=true:=Dt hlk;have e4:decide ((k:Int)<(m:Int))=true:=Dt (by omega)
  have i1:(k:Int)<(m:Int):=by omega
  have i2:(k:Int)<(m:Int)+1:=by omega
  have i3:(k:Int)+1<(m:Int)+1:=by omega
  have i4:(0:Int)<=(k:Int)+1:=by omega
  have i5:IntKind.i64.wrap ((k:Int)+1)=(k:Int)+1:=Um (k:=k+1) (by omega) (by omega)
  have i6:((k:Int)+1).toNat=k+1:=by omega
  obtain⟨d,hd⟩:∃d,ds[k]?=some d:=⟨_,List.getElem?_eq_getElem (by have:=HN.out;omega)⟩
  obtain⟨d2,hd2⟩:∃d2,ds[k+1]?=some d2:=⟨_,List.getElem?_eq_getElem (by have:=HN.out;omega)⟩
  obtain⟨x,hx⟩:∃x,xs[k]?=some x:=⟨_,List.getElem?_eq_getElem (by have:=HN.out;have:=HPO.out.run.len;omega)⟩
  obtain⟨x2,hx2⟩:∃x2,xs[k+1]?=some x2:=⟨_,List.getElem?_eq_getElem (by have:=HN.out;have:=HPO.out.run.len;omega)⟩
  obtain⟨q,hq,hU⟩:=ZbD HPO.out.n6 HPO.out.run HPO.out.sm HPO.out.ok hd hd2 hx hx2;rw[<-HQS.out] at hq;have HU:=Lh hU;obtain⟨gf,cf2,hv,hgl,hc0,hc1⟩:=BZ (Zz HROW.out HWR.out) HQL.out hq;injection hv with hv1 hv2 hv3
  subst hv1;subst hv3;have hxr:=HPO.out.row;rw[HN.out] at hxr;have hxr2:=Zz (Zz hxr HB12.out) HWR.out;obtain⟨gx,cx2,hv,-,hxl,-,hxc⟩:=Ts xcs 4 (fun _=>rfl) hxr2 (HPO.out.run.len.trans HN.out) hx
  injection hv with hv1 hv2 hv3
  subst hv1;subst hv3;obtain⟨gx',cx3,hv,-,-,-,hxc2⟩:=Ts xcs 4 (fun _=>rfl) hxr2 (HPO.out.run.len.trans HN.out) hx2
  injection hv with hv1 hv2 hv3
  injection hv1 with hv1
  injection hv1 with hv1 _ _
  subst hv1;subst hv3;have hb3:=Zd wr (.cells #[.string ⟨(fN q).toArray⟩,.string ⟨(fD q).toArray⟩] 34);have h3:=ZF wr (.cells #[.string ⟨(fN q).toArray⟩,.string ⟨(fD q).toArray⟩] 34);obtain⟨w3,hw3⟩:∃w3,w3=wr.alloc (.cells #[.string ⟨(fN q).toArray⟩,.string ⟨(fD q).toArray⟩] 34):=⟨_,rfl⟩
  rw[<-hw3] at hb3 h3;have HW3_:=Lh hw3;have X9:Hid (Blk w3 wr.heap.size #[.string ⟨(fN q).toArray⟩,.string ⟨(fD q).toArray⟩]):=⟨_,h3⟩;have c0':wr.cell? ⟨gf,k*2,none⟩=some (.string ⟨(fN q).toArray⟩):=hc0;have c1':wr.cell? ⟨gf,k*2+1,none⟩=some (.string ⟨(fD q).toArray⟩):=hc1;have HXL_:Hid (gx<w3.heap.size):=Nat.lt_of_lt_of_le hxl hb3.size;have HA4:Hid (w3.cell? ⟨gx,k*4,none⟩=some (.string ⟨x.iss.toArray⟩)/\w3.cell? ⟨gx,k*4+1,none⟩=some (.string ⟨x.out.toArray⟩)/\w3.cell? ⟨gx,k*4+2,none⟩=some (.string ⟨x.un.toArray⟩)/\w3.cell? ⟨gx,k*4+3,none⟩=some (.string ⟨x.vl.toArray⟩)):=
   ⟨(hb3.cell (p:=⟨gx,_,none⟩) hxl).trans (hxc 0 (by decide)),(hb3.cell (p:=⟨gx,_,none⟩) hxl).trans (hxc 1 (by decide)),(hb3.cell (p:=⟨gx,_,none⟩) hxl).trans (hxc 2 (by decide)),(hb3.cell (p:=⟨gx,_,none⟩) hxl).trans (hxc 3 (by decide))⟩
  have HB4_:Hid (w3.cell? ⟨gx,(k+1)*4,none⟩=some (.string ⟨x2.iss.toArray⟩)/\w3.cell? ⟨gx,(k+1)*4+1,none⟩=some (.string ⟨x2.out.toArray⟩)/\w3.cell? ⟨gx,(k+1)*4+2,none⟩=some (.string ⟨x2.un.toArray⟩)/\w3.cell? ⟨gx,(k+1)*4+3,none⟩=some (.string ⟨x2.vl.toArray⟩)):=
   ⟨(hb3.cell (p:=⟨gx,_,none⟩) hxl).trans (hxc2 0 (by decide)),(hb3.cell (p:=⟨gx,_,none⟩) hxl).trans (hxc2 1 (by decide)),(hb3.cell (p:=⟨gx,_,none⟩) hxl).trans (hxc2 2 (by decide)),(hb3.cell (p:=⟨gx,_,none⟩) hxl).trans (hxc2 3 (by decide))⟩
  have HWW:=Lh (bto (bto HB2.out HWR.out) hb3);have HW23:=Lh (bto HWR.out hb3);have HDD:=Lh hd2;clear hd hd2 hx hx2 hq hU hgl hc0 hc1 hxr hxr2 hxl hxc hxc2 hb3 h3 hw3 hv2;have CP0:∀wz,Below w3.heap.size w3 wz->Calls Tryz.prog 23 #[.agg (dlC x),.agg (dlC x2)] wz _:=fun wz hw=>De HU.out.sm HU.out.e (hG.g.below (bto HWW.out hw))
  unfold dlC at CP0
  by_cases hg:LA x x2
  rotate_left
  ·have CP:=Lh (fun wz (hw:Below w3.heap.size w3 wz)=>show Calls Tryz.prog 23 _ wz (fun e w'=>e=.returned (.tuple #[.agg #[.string ⟨#[]⟩,.string ⟨#[]⟩],.int .i64 10])/\Below wz.heap.size wz w') from (CP0 wz hw).mono fun e w' ⟨h1,h2⟩=>by
    rcases h2 with ⟨-,h2⟩|⟨h2,-⟩
    ·exact⟨h2,h1⟩
    ·exact absurd h2 hg)
   clear CP0;go_wp2_with fail;rw[<-HW3_.out];refine Zm (by kernel_rfl) (by kernel_rfl) ?_
   refine Zb _ (fun _=>rfl) (fun ρ wz hw=>by go_simp;try with_reducible rfl) ?_
   simp only[Act.put,StT,StZ,StS,Nat.reduceAdd];refine Zb _ (fun _=>rfl) (fun ρ wz hw=>by go_simp;try with_reducible rfl) ?_
   simp only[Act.put,StT,StZ,StS,Nat.reduceAdd];refine Zb _ (fun _=>rfl) (fun ρ wz hw=>by go_simp;try with_reducible rfl) ?_
   simp only[Act.put,StT,StZ,StS,Nat.reduceAdd];refine Zb _ (fun _=>rfl) (fun ρ wz hw=>by have q0:=(hw.cell (p:=⟨_,_,none⟩) HXL_.out).trans HA4.out.1;have q1:=(hw.cell (p:=⟨_,_,none⟩) HXL_.out).trans HA4.out.2.1;have q2:=(hw.cell (p:=⟨_,_,none⟩) HXL_.out).trans HA4.out.2.2.1;have q3:=(hw.cell (p:=⟨_,_,none⟩) HXL_.out).trans HA4.out.2.2.2;go_simp;try with_reducible rfl) ?_
   simp only[Act.put,StT,StZ,StS,Nat.reduceAdd];refine Zb _ (fun _=>rfl) (fun ρ wz hw=>by go_simp;try with_reducible rfl) ?_
   simp only[Act.put,StT,StZ,StS,Nat.reduceAdd];refine Zb _ (fun _=>rfl) (fun ρ wz hw=>by go_simp;try with_reducible rfl) ?_
   simp only[Act.put,StT,StZ,StS,Nat.reduceAdd];refine Zb _ (fun _=>rfl) (fun ρ wz hw=>by go_simp;try with_reducible rfl) ?_
   simp only[Act.put,StT,StZ,StS,Nat.reduceAdd];refine Zb _ (fun _=>rfl) (fun ρ wz hw=>by go_simp;try with_reducible rfl) ?_
   simp only[Act.put,StT,StZ,StS,Nat.reduceAdd];refine Zb _ (fun _=>rfl) (fun ρ wz hw=>by have q0:=(hw.cell (p:=⟨_,_,none⟩) HXL_.out).trans HB4_.out.1;have q1:=(hw.cell (p:=⟨_,_,none⟩) HXL_.out).trans HB4_.out.2.1;have q2:=(hw.cell (p:=⟨_,_,none⟩) HXL_.out).trans HB4_.out.2.2.1;have q3:=(hw.cell (p:=⟨_,_,none⟩) HXL_.out).trans HB4_.out.2.2.2;go_simp;try with_reducible rfl) ?_
   simp only[Act.put,StT,StZ,StS,Nat.reduceAdd];refine Zl _ _ _ (fun _=>rfl) (fun ρ wz hw=>by go_simp;try with_reducible rfl) (fun wz hw=>CP.out wz hw) ?_
   simp only[Act.put,StT,StZ,StS,Nat.reduceAdd];refine Zb _ (fun _=>rfl) (fun ρ wz hw=>by go_simp;try with_reducible rfl) ?_
   simp only[Act.put,StT,StZ,StS,Nat.reduceAdd];refine Zb _ (fun _=>rfl) (fun ρ wz hw=>by go_simp;try with_reducible rfl) ?_
   simp only[Act.put,StT,StZ,StS,Nat.reduceAdd];refine Zb _ (fun _=>rfl) (fun ρ wz hw=>by go_simp;try with_reducible rfl) ?_
   simp only[Act.put,StT,StZ,StS,Nat.reduceAdd];refine Wq (fun b=>.pointer (some ⟨b,0,none⟩)) _ rfl (fun _=>rfl) (fun ρ wz hw=>by go_simp;try with_reducible rfl) ?_
   simp only[Act.put,StT,StZ,StS,Nat.reduceAdd];refine VL 13 _ 10 _ _ _ _ _ rfl rfl rfl (by decide) (fun _=>rfl) (fun ρ wz hw q0 q1 q2 q3=>by go_simp;try with_reducible rfl) ?_
   simp only[Act.put,Nat.reduceAdd];refine Zb _ (fun _=>rfl) (fun ρ wz hw=>by go_simp;try with_reducible rfl) ?_
   simp only[Act.put,StT,StZ,StS,Nat.reduceAdd];refine Zu (fun ρ w4 hF=>?_)
   have hb4:=hF.below;have HW24:=Lh (bto HW23.out hb4);generalize ρ 13=b10 at *;clear hF hb4 CP HA4 HB4_ X9 c0' c1';go_wp2_with fail;exact⟨⟨k+1,by omega,by go_num,HW24.out⟩,by simp[intOf];omega⟩
  obtain⟨r1,hr1⟩:∃r1,r1=Rat.divInt (val x2.vl*val x.un) (val x2.un*val x.vl):=⟨_,rfl⟩
  have hle:=HU.out.le hg;rw[<-hr1] at hle;have hne:val x2.un*val x.vl≠0:=by
   have hc:=US HU.out.e;exact Int.mul_ne_zero (Qu (hc x2.un (by simp[nums])).1 hg.2.1) (Qu (hc x.vl (by simp[nums])).1 hg.2.2)
  have hbd1:Bd 200 r1:=by rw[hr1];exact Y7 HU.out.b1 HU.out.b2 hne
  have hd20:d2.v.length<=200:=by have:=(HPO.out.sm d2 (Lm HDD.out)).1;omega
  have hvp0:val x.vl≠0:=by have:=HU.out.vp;omega
  have hbdq:Bd 200 q:=by rw[HU.out.fq];exact Y7 (Zo hd20) (Zo HU.out.bx) hvp0
  obtain⟨cc,hcc⟩:∃cc,cc=S3 r1 q:=⟨_,rfl⟩
  have CM:=Lh (PI (VC hbd1 (by decide)) (VC hbdq (by decide)) hcc.symm)
  have hcc0:0<=cc:=by rw[hcc];exact Dg hle
  have e9:decide (cc<0)=false:=Df (by omega)
  have CP:=Lh (fun wz (hw:Below w3.heap.size w3 wz)=>show Calls Tryz.prog 23 _ wz (fun e w'=>e=.returned (.tuple #[.agg #[.string ⟨(fN r1).toArray⟩,.string ⟨(fD r1).toArray⟩],.int .i64 0])/\Below wz.heap.size wz w') from (CP0 wz hw).mono fun e w' ⟨h1,h2⟩=>by
   rcases h2 with ⟨h2,-⟩|⟨-,h2⟩
   ·exact absurd hg h2
   ·rw[<-hr1] at h2;exact⟨h2,h1⟩)
  clear CP0 hr1 hle hne hbd1 hd20 hvp0 hbdq hcc hcc0 hg;generalize fN r1=N1 at *;generalize fD r1=D1 at *;generalize fN q=N0 at *;generalize fD q=D0 at *;go_wp2_with fail;rw[<-HW3_.out];refine Zm (by kernel_rfl) (by kernel_rfl) ?_
  refine Zb _ (fun _=>rfl) (fun ρ wz hw=>by go_simp;try with_reducible rfl) ?_
  simp only[Act.put,StT,StZ,StS,Nat.reduceAdd];refine Zb _ (fun _=>rfl) (fun ρ wz hw=>by go_simp;try with_reducible rfl) ?_
  simp only[Act.put,StT,StZ,StS,Nat.reduceAdd];refine Zb _ (fun _=>rfl) (fun ρ wz hw=>by go_simp;try with_reducible rfl) ?_
  simp only[Act.put,StT,StZ,StS,Nat.reduceAdd];refine Zb _ (fun _=>rfl) (fun ρ wz hw=>by have q0:=(hw.cell (p:=⟨_,_,none⟩) HXL_.out).trans HA4.out.1;have q1:=(hw.cell (p:=⟨_,_,none⟩) HXL_.out).trans HA4.out.2.1;have q2:=(hw.cell (p:=⟨_,_,none⟩) HXL_.out).trans HA4.out.2.2.1;have q3:=(hw.cell (p:=⟨_,_,none⟩) HXL_.out).trans HA4.out.2.2.2;go_simp;try with_reducible rfl) ?_
  simp only[Act.put,StT,StZ,StS,Nat.reduceAdd];refine Zb _ (fun _=>rfl) (fun ρ wz hw=>by go_simp;try with_reducible rfl) ?_
  simp only[Act.put,StT,StZ,StS,Nat.reduceAdd];refine Zb _ (fun _=>rfl) (fun ρ wz hw=>by go_simp;try with_reducible rfl) ?_
  simp only[Act.put,StT,StZ,StS,Nat.reduceAdd];refine Zb _ (fun _=>rfl) (fun ρ wz hw=>by go_simp;try with_reducible rfl) ?_
  simp only[Act.put,StT,StZ,StS,Nat.reduceAdd];refine Zb _ (fun _=>rfl) (fun ρ wz hw=>by go_simp;try with_reducible rfl) ?_
  simp only[Act.put,StT,StZ,StS,Nat.reduceAdd];refine Zb _ (fun _=>rfl) (fun ρ wz hw=>by have q0:=(hw.cell (p:=⟨_,_,none⟩) HXL_.out).trans HB4_.out.1;have q1:=(hw.cell (p:=⟨_,_,none⟩) HXL_.out).trans HB4_.out.2.1;have q2:=(hw.cell (p:=⟨_,_,none⟩) HXL_.out).trans HB4_.out.2.2.1;have q3:=(hw.cell (p:=⟨_,_,none⟩) HXL_.out).trans HB4_.out.2.2.2;go_simp;try with_reducible rfl) ?_
  simp only[Act.put,StT,StZ,StS,Nat.reduceAdd];refine Zl _ _ _ (fun _=>rfl) (fun ρ wz hw=>by go_simp;try with_reducible rfl) (fun wz hw=>CP.out wz hw) ?_
  simp only[Act.put,StT,StZ,StS,Nat.reduceAdd];refine Zb _ (fun _=>rfl) (fun ρ wz hw=>by go_simp;try with_reducible rfl) ?_
  simp only[Act.put,StT,StZ,StS,Nat.reduceAdd];refine Zb _ (fun _=>rfl) (fun ρ wz hw=>by go_simp;try with_reducible rfl) ?_
  simp only[Act.put,StT,StZ,StS,Nat.reduceAdd];refine Zb _ (fun _=>rfl) (fun ρ wz hw=>by go_simp;try with_reducible rfl) ?_
  simp only[Act.put,StT,StZ,StS,Nat.reduceAdd];refine Wq (fun b=>.pointer (some ⟨b,0,none⟩)) _ rfl (fun _=>rfl) (fun ρ wz hw=>by go_simp;try with_reducible rfl) ?_
  simp only[Act.put,StT,StZ,StS,Nat.reduceAdd];refine VL 13 _ 10 _ _ _ _ _ rfl rfl rfl (by decide) (fun _=>rfl) (fun ρ wz hw q0 q1 q2 q3=>by go_simp;try with_reducible rfl) ?_
  simp only[Act.put,Nat.reduceAdd];refine Zb _ (fun _=>rfl) (fun ρ wz hw=>by go_simp;try with_reducible rfl) ?_
  simp only[Act.put,StT,StZ,StS,Nat.reduceAdd];refine Zu (fun ρ w4 hF=>?_)
  have h10:=(hF.box 13 _ _ rfl).2;generalize ρ 13=b10 at *;have hb4:=hF.below;have x10:Z9 w4 b10 (.string ⟨N1.toArray⟩) (.string ⟨D1.toArray⟩):=Blk.box ⟨_,h10⟩;have x9:=Blk.box (X9.out.below hb4);have HW4:=Lh (bto HWW.out hb4);have HW24:=Lh (bto HW23.out hb4);clear hF h10 hb4 CP HA4 HB4_ X9 c0' c1';have q0:=x10.c0;have q1:=x10.c1;have q2:=x9.c0;have q3:=x9.c1;have HCM:=Lh (CM.out.of (hG.g.below HW4.out) (Below.refl _ _));clear CM;go_wp2_with fail
  with_reducible refine HCM.out.mono ?_
  rintro e w6 ⟨rfl,hb6⟩;have HW26:=Lh (bto HW24.out hb6);clear HCM hb6 q0 q1 q2 q3 x9 x10;go_wp2;go_roundw
  case rel=>exact⟨k+1,by omega,by go_num,HW26.out⟩
  case measure=>simp[intOf];omega
end Go.Proofs.YtpieeldbamklkaaGreatDoor
