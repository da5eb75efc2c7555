/- The law TopAllotted: what a sale brings is divided among the gains. Printed by wip/tools/mk_gq.py. -/
import Derived.Test.YtpieeldbamklkaaGreatDoorV15
set_option maxHeartbeats 6000000
set_option maxRecDepth 100000
open Go.Proofs.Tryz
namespace Go.Proofs.YtpieeldbamklkaaGreatDoor
open Go.RowKit Go.Shelf Num
theorem BE.cases {w w':World} {f:Fct} {xs:List Lot} {m:Int} {ps:List Pk} {e:Ending} {P:Prop} (h:BE P w f xs m ps e w') :
  (∃err:Int,err≠0/\e=.returned (.tuple #[.agg #[.slice none 0 0,.slice none 0 0,.slice none 0 0,.slice none 0 0],Zi err])/\Below w.heap.size w w')∨
  ∃xs2 rest taken g cr v1 v2,Pp f.ins m xs xs2/\chE xs2 f.ins f.q m ps=0/\L8 xs2 f.ins f.q m ps rest taken/\e=.returned (.tuple #[.agg #[.slice (some ⟨g,0,none⟩) rest.length cr,v1,v2,.slice none 0 0],Zi 0])/\Zar w g cr rest taken f.key f.ins f.day (canon (val f.amt-val f.fee)) v1 v2 w':=by
 rcases h with ⟨err,h0,-,rfl,hb⟩|⟨-,-,-,-,xs2,hQ,res,err,rfl,hb,h⟩
 ·exact .inl ⟨err,h0,rfl,hb⟩
 ·rcases h with ⟨h0,rfl,-⟩|⟨rfl,hE,rest,taken,g,cr,v1,v2,hS,rfl,hD⟩
  ·exact .inl ⟨err,h0,rfl,hb⟩
  ·exact .inr ⟨xs2,rest,taken,g,cr,v1,v2,hQ,hE,hS,rfl,hD⟩
theorem KO {A:Option Addr} {xs:List Lot} {n:Nat} (c:Nat) {f:Fct} {ps:List Pk} {os:List Opn} {m mo:Int} {w:World} (hG:GE w) (hn:xs.length=n) (hn2:n<=9223372036854775807) (hl:Y7 w A xs) (hpn:ps.length=f.pN) (hpc:f.pN<=f.pC) (hpm:f.pN<=9223372036854775807) (hpk:XI w f.pA ps) (hon:os.length=f.oN) (hom:f.oN<=9223372036854775807) (hop:Qa w f.oA os) (hm0:0<=mo) (hm1:mo<=255) :
  Calls prog 7 #[.slice A n c,.agg (Zq f),Zi m,.int .u8 mo] w fun e w'=>e=.returned (.bool true)/\Below w.heap.size w w':=by
 obtain⟨h1,h2,hb,-⟩:=V9 w (.cells (Zq f) 48) (.cells (Zq f) 48);have X0:Hid (Blk (w.alloc (.cells (Zq f) 48)) w.heap.size (Zq f)):=Blk.new w (Zq f) 48;have XF1:Hid (Blk ((w.alloc (.cells (Zq f) 48)).alloc (.cells (Zq f) 48)) w.heap.size (Zq f)):=⟨_,h1⟩;have CG:=Lh (Zce (f:=f) (ps:=ps) (os:=os) (b:=w.heap.size+1) (d:=1) c hn hn2 (hl.below hb) ⟨_,h2⟩ hpn hpm (hpk.below hb) hon hom (hop.below hb));have HB:=Lh hb;have HL:=Lh hl;have HN:=Lh hn;have HG:=Lh hG;have HP:=Lh (And.intro hpn (And.intro hpc (And.intro hpk (And.intro hon hop))));clear h1 h2 hb hn hn2 hl hpn hpc hpm hpk hon hom hop hG;have hsz:(Zq f).size=21:=rfl;go_enter func7,ntmps7;go_wp2_with (refine Zy rfl 48 (.tmp 5) rfl w.heap.size rfl (Zq f) X0.out underlying48 rfl ZN ?_);rw[BP]
 refine CG.out.mono ?_
 rintro e w2 ⟨⟨R,rfl,hR⟩,hb2⟩;have HB2:=Lh (bto HB.out hb2);have X2:=Lh (XF1.out.below hb2);have HR:=Lh hR;clear CG hR hb2 HB X0 XF1 hsz;cases R with
 | true=>
  have KA:=Lh (PX w2 (HG.out.below HB2.out));go_wp2_with fail
  refine KA.out.mono ?_
  rintro e wA ⟨rfl,hbA⟩;clear KA;go_wp2;go_ret;exact⟨rfl,bto HB2.out hbA⟩
 | false=>
 obtain⟨hgr,hsm⟩:=HR.out rfl;obtain⟨hLS,hbd⟩:=FQ HN.out HL.out hgr;have hF:=hsm.fs
 have hA:Qj w f ps os:=⟨hF,HP.out.2.2.1,HP.out.1,HP.out.2.1,fun p hp=>by have:=hsm.ps p hp;omega,HP.out.2.2.2.2,HP.out.2.2.2.1,fun x hx=>by
  have:=hsm.os x hx
  unfold Zax
  omega⟩
 have hLB:∀x∈xs,LB 20 13 x:=fun x hx=>by
  obtain⟨b1,b2,b3,b4,b5⟩:=hbd x hx;exact⟨by omega,b2,by omega,b4,b5⟩
 have hpool:∀xs2,Pp f.ins m xs xs2->xs2.length=xs.length/\∀x∈xs2,LB 20 60 x:=fun xs2 h=>Bl hLB (fun x hx=>(hbd x hx).1) (by rw[hLS.len];exact hLS.big) h
 have KS:=Lh (Zba (P:=False) (m:=m) (ps:=ps) c (HG.out.below HB2.out) (hLS.below HB2.out) hF (Nt hsm.q (by decide)) (HP.out.2.2.1.below HB2.out) HP.out.1 (Nt hsm.p (by decide)) (fun p hp=>by have:=hsm.ps p hp;omega)
  (fun w' hb'=>(FL (HG.out.below (bto HB2.out hb')) (hA.below (bto HB2.out hb'))).mono (fun e w3 h=>⟨h.1.elim fun E h=>⟨E,h.1,False.elim⟩,h.2⟩))
  (fun _ xs2 h=>⟨(hpool xs2 h).1,fun x hx=>((hpool xs2 h).2 x hx).s (by decide) (by decide)⟩))
 have HSM:=Lh hsm;have HLS:=Lh hLS;have HPO:=Lh hpool;clear hgr hsm hLS hbd hF hA hLB hpool HL HN HP HR;go_wp2_with (refine Zy rfl 48 (.tmp 5) rfl w.heap.size rfl (Zq f) X2.out underlying48 rfl ZN ?_)
 refine KS.out.mono ?_
 rintro e w3 hS;clear KS;rcases hS.cases with ⟨err,h0,rfl,hb3⟩|⟨xs2,rest,taken,g,cr,v1,v2,hQ,hE,hST,rfl,hD⟩
 ·have e1:(err != 0)=true:=V0 (OB h0);have HB3:=Lh (bto HB2.out hb3);have hb4:=Zh w3 (.cells #[.slice none 0 0,.slice none 0 0,.slice none 0 0,.slice none 0 0] 60);have X4:Hid (Blk (w3.alloc (.cells #[.slice none 0 0,.slice none 0 0,.slice none 0 0,.slice none 0 0] 60)) w3.heap.size #[.slice none 0 0,.slice none 0 0,.slice none 0 0,.slice none 0 0]):=Blk.new w3 _ 60;have HB4:=Lh (bto HB3.out hb4);have q0:(w3.alloc (.cells #[.slice none 0 0,.slice none 0 0,.slice none 0 0,.slice none 0 0] 60)).cell? ⟨w3.heap.size,0,none⟩=some (.slice none 0 0):=X4.out.c 0;have q1:(w3.alloc (.cells #[.slice none 0 0,.slice none 0 0,.slice none 0 0,.slice none 0 0] 60)).cell? ⟨w3.heap.size,1,none⟩=some (.slice none 0 0):=X4.out.c 1;clear hb3 hb4 HB3 h0 hS;have KA:=Lh (PX _ (HG.out.below HB4.out));go_wp2_with fail
  refine KA.out.mono ?_
  rintro e wA ⟨rfl,hbA⟩;clear KA;go_wp2;go_ret;exact⟨rfl,bto HB4.out hbA⟩
 obtain⟨zs,hz,B,ho1,ho2⟩:=hD.sold;have hbq:=(HPO.out xs2 hQ).2;obtain⟨s1,s2,s3,s4⟩:=FP (fid:=f.key) (day:=f.day) hE (fun x hx=>(hbq x hx).s (by decide) (by decide)) (Nt HSM.out.q (by decide)) hQ hST hz
 obtain⟨t1,t2,t3,t4,t5⟩:=ZaH (fid:=f.key) (day:=f.day) hE hbq HSM.out.q (Nt HSM.out.key (by decide)) (Nt HSM.out.ins (by decide)) HSM.out.amt HSM.out.fee hST hz
 obtain⟨gs,hgs⟩:∃gs,(taken.zip (zs.map canon)).map (Ub f.key f.ins f.day)=gs:=⟨_,rfl⟩
 rw[hgs] at ho1 s1 s2 s3 s4 t3 t5;rw[<-t3] at ho1;obtain⟨A1,c1,rfl,-,hgat⟩:=LX ho1;obtain⟨A2,c2,rfl⟩:=FM ho2;obtain⟨n2,hn2⟩:∃n2,taken.length=n2:=⟨_,rfl⟩
 have hng:gs.length<=1000:=by omega
 have HB3:=Lh (bto HB2.out hD.below);have hlr:Yk w3 (some ⟨g,0,none⟩) rest rest.length:=⟨rfl,by omega,t2,hD.row.lotAt⟩
 obtain⟨nr,hnr⟩:∃nr,rest.length=nr:=⟨_,rfl⟩
 rw[hnr] at hlr ⊢;rw[hn2];obtain⟨ng,hngl⟩:∃ng,gs.length=ng:=⟨_,rfl⟩
 rw[hngl] at hng ⊢;rw[Zm] at s1;obtain⟨N,hN⟩:∃N,canon (val f.amt-val f.fee)=N:=⟨_,rfl⟩
 obtain⟨Cs,hCs⟩:∃Cs,canon (Z7 (gs.map (·.cost)))=Cs:=⟨_,rfl⟩
 have hN1:canon (Z7 (gs.map (·.pro)))=N:=by rw[s1,hN]
 obtain⟨Qb,hQb⟩:∃Qb,canon (Yi (ofL f.ins xs))=Qb:=⟨_,rfl⟩
 obtain⟨Cb,hCb⟩:∃Cb,canon (Yx (ofL f.ins xs))=Cb:=⟨_,rfl⟩
 obtain⟨Qr,hQr⟩:∃Qr,canon (Yi (ofL f.ins rest))=Qr:=⟨_,rfl⟩
 obtain⟨Cr,hCr⟩:∃Cr,canon (Yx (ofL f.ins rest))=Cr:=⟨_,rfl⟩
 have hrl:(ofL f.ins rest).length<=100000:=Nt (List.length_filter_le _ _) (by omega)
 have hQrl:Qr.length<=1008:=by rw[<-hQr];exact YR 1000 (fun x=>x.q) _ (fun y hy=>(t2 y (List.mem_filter.1 hy).1).q) hrl
 have hCrl:Cr.length<=1008:=by rw[<-hCr];exact YR 1000 (fun x=>x.cost) _ (fun y hy=>(t2 y (List.mem_filter.1 hy).1).cost) hrl
 have hlen:∀(p:Gn->List UInt8),(∀x∈gs,(p x).length<=100000)->∀k,(canon (Z7 ((gs.map p).take k))).length<=100008:=fun p hp k=>SH 100000 _ (fun r hr=>by
  obtain⟨x,hx,rfl⟩:=List.mem_map.1 (List.mem_of_mem_take hr)
  exact hp x hx) (by rw[List.length_take,List.length_map];omega)
 have HLP:=Lh (hlen (·.pro) (fun x hx=>(t5 x hx).pro))
 have HLC:=Lh (hlen (·.cost) (fun x hx=>(t5 x hx).cost))
 have HLQ:=Lh (hlen (·.q) (fun x hx=>(t5 x hx).q))
 have hCsl:Cs.length<=100008:=by
  have:=HLC.out gs.length
  rw[List.take_of_length_le (by rw[List.length_map];exact Nl _),hCs] at this
  exact this
 have HT1:=Lh (Ret.e (XX (l:=Cs) (l':=Cr) (z:=Yx (ofL f.ins xs)) (by omega) (by omega) (by rw[<-hCs,<-hCr,Zm,Zm];exact s2)))
 have HT2:=Lh (Ret.e (XX (l:=f.q) (l':=Qr) (z:=Yi (ofL f.ins xs)) (by have:=HSM.out.q;omega) (by omega) (by rw[<-s4,<-hQr,Zm,Zm];exact s3)))
 have HT3:=Lh (Ret.e (Vg (l:=f.amt) (l':=f.fee) (by have:=HSM.out.amt;omega) (by have:=HSM.out.fee;omega) rfl))
 rw[hCb] at HT1;rw[hQb] at HT2;rw[hN] at HT3;have HN1:=Lh hN1;have HC1:=Lh hCs;have HQ1:=Lh s4;have hb4:=Zh w3 (.cells #[.slice (some ⟨g,0,none⟩) nr cr,.slice A1 ng c1,.slice A2 n2 c2,.slice none 0 0] 60);have X4:Hid (Blk (w3.alloc (.cells #[.slice (some ⟨g,0,none⟩) nr cr,.slice A1 ng c1,.slice A2 n2 c2,.slice none 0 0] 60)) w3.heap.size #[.slice (some ⟨g,0,none⟩) nr cr,.slice A1 ng c1,.slice A2 n2 c2,.slice none 0 0]):=Blk.new w3 _ 60;have HB4:=Lh (bto HB3.out hb4);have HGA:=Lh (hgat.below hb4);have HGL:=Lh hngl;have HGS:=Lh t5;have HLR:=Lh (hlr.below hb4);have XF4:=Lh ((X2.out.below hD.below).below hb4);obtain⟨W,hW⟩:∃W,W=w3.alloc (.cells #[.slice (some ⟨g,0,none⟩) nr cr,.slice A1 ng c1,.slice A2 n2 c2,.slice none 0 0] 60):=⟨_,rfl⟩
 obtain⟨br,hbr⟩:∃br,br=w3.heap.size:=⟨_,rfl⟩
 rw[<-hW] at X4 HB4 HGA HLR XF4;rw[<-hbr] at X4;have q1:W.cell? ⟨br,1,none⟩=some (.slice A1 ng c1):=X4.out.c 1;have HW:=Lh hW;have HBR:=Lh hbr;have HQB:=Lh hQb;have HCB:=Lh hCb;have HQR:=Lh hQr;have HCR:=Lh hCr;clear hb4 hW hbr hS hD hz ho1 ho2 hbq s1 s2 s3 s4 t1 t2 t3 t4 t5 hgs hn2 hlr hnr hngl hN hCs hN1 hQb hCb hQr hCr hrl hQrl hCrl hlen hCsl hgat hQ hE hST X2 HB3 HPO HB2;go_wp2_with fail;rw[<-HW.out,<-HBR.out];clear HW HBR q1;have HB0:Hid (Below W.heap.size W W):=Below.refl _ _
 go_loopw [11,12,13,51] (fun s1 s2 s3 iv wr=>∃(k:Nat) (z1 z2 z3:Int),k<=ng/\s1=Zg (canon z1)/\s2=Zg (canon z2)/\s3=Zg (canon z3)/\iv=Zi (k:Int)/\Hid (z1=Z7 ((gs.map (·.pro)).take k))/\Hid (z2=Z7 ((gs.map (·.cost)).take k))/\Hid (z3=Z7 ((gs.map (·.q)).take k))/\Hid (Below W.heap.size W wr)) (fun _ _ _ iv _=>ng-(intOf iv).toNat)
 case atStart=>exact⟨0,0,0,0,Nat.zero_le _,rfl,rfl,rfl,rfl,rfl,rfl,rfl,HB0.out⟩
 case round=>
 clear HB0;obtain⟨k,z1,z2,z3,hk,rfl,rfl,rfl,rfl,HZ1,HZ2,HZ3,HBW⟩:=hrel
 by_cases hlt:k<ng
 ·obtain⟨x,hx⟩:∃x,gs[k]?=some x:=⟨_,List.getElem?_eq_getElem (by rw[HGL.out];exact hlt)⟩
  obtain⟨b,o,rfl,hbs,p0,p1,p2,p3,p4,p5,p6,p7,p8,p9⟩:=(HGA.out.below HBW.out) k x hx;have hbA:=Zh wr (.cells (gnC x) 89);have X1:Hid (Blk (wr.alloc (.cells (gnC x) 89)) wr.heap.size (gnC x)):=Blk.new wr _ 89;have e1:decide (k<ng)=true:=Dt hlt;have e2:decide ((k:Int)<(ng:Int))=true:=Dt (by omega)
  have hxs:=HGS.out x (Lm hx);have step:∀(p:Gn->List UInt8) (z:Int),z=Z7 ((gs.map p).take k)->val (canon z)+val (p x)=Z7 ((gs.map p).take (k+1)):=fun p z hz=>by
   have hq:(gs.map p)[k]?=some (p x):=by simp[hx]
   obtain⟨hk2,hxe⟩:=Lg.1 hq;rw[List.take_succ_eq_append_getElem hk2,hxe,QA,<-hz,Zm]
  have l1:=HLP.out k;have l2:=HLC.out k;have l3:=HLQ.out k;rw[<-HZ1.out] at l1;rw[<-HZ2.out] at l2;rw[<-HZ3.out] at l3;have CA1:=Lh (XX (l:=canon z1) (l':=x.pro) (by omega) (by have:=hxs.pro;omega) (step (·.pro) z1 HZ1.out))
  have CA2:=Lh (XX (l:=canon z2) (l':=x.cost) (by omega) (by have:=hxs.cost;omega) (step (·.cost) z2 HZ2.out))
  have CA3:=Lh (XX (l:=canon z3) (l':=x.q) (by omega) (by have:=hxs.q;omega) (step (·.q) z3 HZ3.out))
  obtain⟨y1,hy1⟩:∃y,Z7 ((gs.map (·.pro)).take (k+1))=y:=⟨_,rfl⟩
  obtain⟨y2,hy2⟩:∃y,Z7 ((gs.map (·.cost)).take (k+1))=y:=⟨_,rfl⟩
  obtain⟨y3,hy3⟩:∃y,Z7 ((gs.map (·.q)).take (k+1))=y:=⟨_,rfl⟩
  rw[hy1] at CA1;rw[hy2] at CA2;rw[hy3] at CA3;have HY1:=Lh hy1.symm;have HY2:=Lh hy2.symm;have HY3:=Lh hy3.symm;have HBV:=Lh (bto HBW.out hbA);have HBx:=Lh (bto HB4.out HBV.out);clear hx hbA hxs step l1 l2 l3 hy1 hy2 hy3 HZ1 HZ2 HZ3 HBW;go_wp2_with fail;refine Zx (by kernel_rfl) (by kernel_rfl) ?_
  refine KeV ?_;simp only[Act.put,StT,StZ,StS,Nat.reduceAdd];refine KeV ?_;simp only[Act.put,StT,StZ,StS,Nat.reduceAdd];refine KeW (fun ρ wz hw=>by have q0:wz.cell? ⟨wr.heap.size,6,none⟩=some (Zg x.pro):=(X1.out.below hw).c 6;go_simp;try rfl) ?_
  simp only[Act.put,StT,StZ,StS,Nat.reduceAdd];refine KeC (fun wz hw=>CA1.out.of HG.out.g (bto HBx.out hw)) ?_
  simp only[Act.put,StT,StZ,StS,Nat.reduceAdd];refine KeV ?_;simp only[Act.put,StT,StZ,StS,Nat.reduceAdd];refine KeV ?_;simp only[Act.put,StT,StZ,StS,Nat.reduceAdd];refine KeW (fun ρ wz hw=>by have q0:wz.cell? ⟨wr.heap.size,7,none⟩=some (Zg x.cost):=(X1.out.below hw).c 7;go_simp;try rfl) ?_
  simp only[Act.put,StT,StZ,StS,Nat.reduceAdd];refine KeC (fun wz hw=>CA2.out.of HG.out.g (bto HBx.out hw)) ?_
  simp only[Act.put,StT,StZ,StS,Nat.reduceAdd];refine KeV ?_;simp only[Act.put,StT,StZ,StS,Nat.reduceAdd];refine KeV ?_;simp only[Act.put,StT,StZ,StS,Nat.reduceAdd];refine KeW (fun ρ wz hw=>by have q0:wz.cell? ⟨wr.heap.size,5,none⟩=some (Zg x.q):=(X1.out.below hw).c 5;go_simp;try rfl) ?_
  simp only[Act.put,StT,StZ,StS,Nat.reduceAdd];refine KeC (fun wz hw=>CA3.out.of HG.out.g (bto HBx.out hw)) ?_
  simp only[Act.put,StT,StZ,StS,Nat.reduceAdd];refine KeV ?_;simp only[Act.put,StT,StZ,StS,Nat.reduceAdd];refine KeV ?_;simp only[Act.put,StT,StZ,StS,Nat.reduceAdd];refine KeV ?_;simp only[Act.put,StT,StZ,StS,Nat.reduceAdd];refine ZY (fun ρ w5 hF=>?_)
  have HB5:=Lh (bto HBV.out hF.below);clear hF CA1 CA2 CA3 HBV HBx X1 e1 e2 hbs p0 p1 p2 p3 p4 p5 p6 p7 p8 p9;go_wp2;go_roundw
  case rel=>exact⟨k+1,y1,y2,y3,by omega,rfl,rfl,rfl,by go_num,HY1.out,HY2.out,HY3.out,HB5.out⟩
  case measure=>simp[intOf];omega
 have hkn:k=ng:=by omega
 subst hkn;have e1:decide (k<k)=false:=Df (by omega)
 have e2:decide ((k:Int)<(k:Int))=false:=Df (by omega)
 have hfull:∀p:Gn->List UInt8,(gs.map p).take k=gs.map p:=fun p=>List.take_of_length_le (by rw[List.length_map];exact Nat.le_of_eq HGL.out)
 obtain⟨s1,hs1⟩:∃s,canon z1=s:=⟨_,rfl⟩
 obtain⟨s2,hs2⟩:∃s,canon z2=s:=⟨_,rfl⟩
 obtain⟨s3,hs3⟩:∃s,canon z3=s:=⟨_,rfl⟩
 have hN:s1=N:=by rw[<-hs1,HZ1.out,hfull,HN1.out]
 have hC:s2=Cs:=by rw[<-hs2,HZ2.out,hfull,HC1.out]
 have hQ:s3=f.q:=by rw[<-hs3,HZ3.out,hfull,HQ1.out]
 subst hN hC;rw[hs1,hs2,hs3,hQ];have HB5:=Lh (bto HB4.out HBW.out);have HLS5:=Lh (HLS.out.below HB5.out);have HLR5:=Lh (HLR.out.below HBW.out);have X5:=Lh (X4.out.below HBW.out);have XF5:=Lh (XF4.out.below HBW.out);have HGA5:=Lh (HGA.out.below HBW.out);clear hfull hs1 hs2 hs3 hQ HZ1 HZ2 HZ3 HBW HLP HLC HLQ X4 XF4 HGA HLR HLS HB4;have K1:=Lh (Qz c f.ins (HG.out.below HB5.out) HLS5.out);rw[HQB.out,HCB.out] at K1;have q5:wr.cell? ⟨w.heap.size,5,none⟩=some (Zg f.ins):=XF5.out.c 5;go_wp2_with fail
 refine K1.out.mono ?_
 rintro e w6 ⟨rfl,hb6⟩;have HB6:=Lh (bto HB5.out hb6);have K2:=Lh (Qz cr f.ins (HG.out.below HB6.out) (HLR5.out.below hb6));rw[HQR.out,HCR.out] at K2;have X6:=Lh (X5.out.below hb6);have XF6:=Lh (XF5.out.below hb6);have HGA6:=Lh (HGA5.out.below hb6);clear K1 q5 e1 e2 hb6 HB5 X5 XF5 HGA5 HLS5 HLR5;have q0:w6.cell? ⟨br,0,none⟩=some (.slice (some ⟨g,0,none⟩) nr cr):=X6.out.c 0;have q5:w6.cell? ⟨w.heap.size,5,none⟩=some (Zg f.ins):=XF6.out.c 5;go_wp2_with fail
 refine K2.out.mono ?_
 rintro e w7 ⟨rfl,hb7⟩;have HB7:=Lh (bto HB6.out hb7);have X7:=Lh (X6.out.below hb7);have XF7:=Lh (XF6.out.below hb7);have HGA7:=Lh (HGA6.out.below hb7);clear K2 q0 q5 hb7 HB6 X6 XF6 HGA6;have q10:w7.cell? ⟨w.heap.size,10,none⟩=some (Zg f.amt):=XF7.out.c 10;have q11:w7.cell? ⟨w.heap.size,11,none⟩=some (Zg f.fee):=XF7.out.c 11;go_wp2_with fail
 refine (HT3.out.of HG.out HB7.out).mono ?_
 rintro e w8 ⟨rfl,hb8⟩;have HB8:=Lh (bto HB7.out hb8);have X8:=Lh (X7.out.below hb8);have XF8:=Lh (XF7.out.below hb8);have HGA8:=Lh (HGA7.out.below hb8);clear HT3 q10 q11 hb8 HB7 X7 XF7 HGA7;have q1:w8.cell? ⟨br,1,none⟩=some (.slice A1 k c1):=X8.out.c 1;obtain⟨r,hr⟩:∃r,mo % 121=r:=⟨_,rfl⟩
 have hr0:0<=r/\r<=120:=by omega
 have KT:=Lh (ZbQ c1 hr0.1 hr0.2 (HG.out.below HB8.out) HGL.out (Nt hng (by decide)) HGA8.out HGS.out)
 rw[HN1.out,HC1.out] at KT;go_wp2_with fail
 refine KT.out.mono ?_
 rintro e w9 ⟨rfl|⟨g2,rfl,hg2,k1,k3⟩,hb9⟩
 ·have HB9:=Lh (bto HB8.out hb9);have XF9:=Lh (XF8.out.below hb9);clear KT hb9 HB8 XF8 HGA8 X8 q1;go_wp2_with fail
  refine (HT1.out.of HG.out HB9.out).mono ?_
  rintro e w10 ⟨rfl,hb10⟩;have HB10:=Lh (bto HB9.out hb10);have XF10:=Lh (XF9.out.below hb10);clear HT1 hb10 HB9 XF9;go_wp2_with fail
  refine (HT2.out.of HG.out HB10.out).mono ?_
  rintro e w11 ⟨rfl,hb11⟩;have HB11:=Lh (bto HB10.out hb11);have q9:w11.cell? ⟨w.heap.size,9,none⟩=some (Zg f.q):=(XF10.out.below hb11).c 9;clear HT2 hb11 HB10 XF10;have KA:=Lh (PX w11 (HG.out.below HB11.out));go_wp2_with fail
  refine KA.out.mono ?_
  rintro e wA ⟨rfl,hbA⟩;clear KA;go_wp2;go_ret;exact⟨rfl,bto HB11.out hbA⟩
 ·have HB9:=Lh (bto HB8.out hb9);have XF9:=Lh (XF8.out.below hb9);clear KT hb9 HB8 XF8 HGA8 X8 q1;go_wp2_with fail
  refine (HT1.out.of HG.out HB9.out).mono ?_
  rintro e w10 ⟨rfl,hb10⟩;have HB10:=Lh (bto HB9.out hb10);have XF10:=Lh (XF9.out.below hb10);have HH10:=Lh (And.intro (Nat.lt_of_lt_of_le hg2 hb10.size) (And.intro ((hb10.cell (p:=⟨g2,1,none⟩) hg2).trans k1) ((hb10.cell (p:=⟨g2,3,none⟩) hg2).trans k3)));clear HT1 hb10 HB9 XF9 k1 k3 hg2;go_wp2_with fail
  refine (HT2.out.of HG.out HB10.out).mono ?_
  rintro e w11 ⟨rfl,hb11⟩;have HB11:=Lh (bto HB10.out hb11);have q9:w11.cell? ⟨w.heap.size,9,none⟩=some (Zg f.q):=(XF10.out.below hb11).c 9;have q1:w11.cell? ⟨g2,1,none⟩=some (Zg s1):=(hb11.cell (p:=⟨g2,1,none⟩) HH10.out.1).trans HH10.out.2.1;have q3:w11.cell? ⟨g2,3,none⟩=some (Zg s2):=(hb11.cell (p:=⟨g2,3,none⟩) HH10.out.1).trans HH10.out.2.2;clear HT2 hb11 HB10 XF10 HH10;have KA:=Lh (PX w11 (HG.out.below HB11.out));go_wp2_with fail
  refine KA.out.mono ?_
  rintro e wA ⟨rfl,hbA⟩;clear KA;go_wp2;go_ret;exact⟨rfl,bto HB11.out hbA⟩
theorem MZ {A:Option Addr} {xs:List Lot} {n:Nat} (c:Nat) {f:Fct} {ps:List Pk} {os:List Opn} (m mo:Int) (hm0:0<=mo) (hm1:mo<=255) {w:World} (hG:GE w) (hn:xs.length=n) (hn2:n<=9223372036854775807) (hl:Y7 w A xs) (hpn:ps.length=f.pN) (hpc:f.pN<=f.pC) (hpm:f.pN<=9223372036854775807) (hpk:XI w f.pA ps) (hon:os.length=f.oN) (hom:f.oN<=9223372036854775807) (hop:Qa w f.oA os) :
  Calls prog 7 #[.slice A n c,.agg (Zq f),Zi m,.int .u8 mo] w fun e w'=>e=.returned (.bool true)/\Below w.heap.size w w':=
 KO c hG hn hn2 hl hpn hpc hpm hpk hon hom hop hm0 hm1
end Go.Proofs.YtpieeldbamklkaaGreatDoor
