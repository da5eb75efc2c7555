/- Texts put together: Zd Pa Zc Ad Ze Zf Ha Pb Pc Py Wg. -/
import Derived.Test.YtpieeldbamklkaaGreatDoorV14
import Derived.Test.YtpieeldbamklkaaGreatDoorVWf
import Derived.Stop.LaidErr
set_option maxHeartbeats 8000000
set_option maxRecDepth 100000
open Go.Proofs.Tryz
namespace Go.Proofs.YtpieeldbamklkaaGreatDoor
open Go.RowKit Go.Shelf Num
theorem ZaJ {W:World} {b:Nat} {o1 o2 o3 o4 a1 a2 a3 a4:Value} (h:W.heap[b]?=some (.cells #[o1,o2,o3,o4] 60 (0,0))) :
  W.there b 0 4/\(W.setCells b 0 [a1,a2,a3,a4]).heap[b]?=some (.cells #[a1,a2,a3,a4] 60 (0,0))/\∀k,k≠b->(W.setCells b 0 [a1,a2,a3,a4]).heap[k]?=W.heap[k]?:=by
 refine⟨fun j hj=>⟨by rw[Zk h,Array.getElem?_eq_getElem (by show 0+j<4;omega)];rfl,Zt h _⟩,hset (o:=3) _ (hset (o:=2) _ (hset (o:=1) _ (hset (o:=0) _ h))),fun k hk=>?_⟩
 show ((((W.setCell ⟨b,0,none⟩ _).setCell ⟨b,1,none⟩ _).setCell ⟨b,2,none⟩ _).setCell ⟨b,3,none⟩ _).heap[k]?=_;exact (Below.heap_setCell _ _ _ k hk).trans ((Below.heap_setCell _ _ _ k hk).trans ((Below.heap_setCell _ _ _ k hk).trans (Below.heap_setCell _ _ _ k hk)))
theorem SZ.form {w W:World} {f:Fct} {xs:List Lot} {m:Int} {ps:List Pk} {e:Ending} (h:SZ w f xs m ps e W):∃a1 a2 a3 a4 err,e=.returned (.tuple #[.agg #[a1,a2,a3,a4],Zi err])/\(#[a1,a2,a3,a4]:Array Value).all (·.oneCell')=true/\Below w.heap.size w W:=by
 obtain⟨res,err,rfl,hb,h⟩:=h;rcases h with ⟨-,rfl,-⟩|⟨rfl,-,rest,taken,g,cr,v1,v2,-,rfl,hD⟩
 ·exact⟨_,_,_,_,err,rfl,all_oneCell_toArray (cs:=[.slice none 0 0,.slice none 0 0,.slice none 0 0,.slice none 0 0]) (fun v hv=>by simp only[List.mem_cons,List.not_mem_nil,or_false] at hv;rcases hv with rfl|rfl|rfl|rfl<;>rfl),hb⟩
 ·obtain⟨zs,-,B,h1,h2⟩:=hD.sold;exact⟨_,_,_,_,0,rfl,all_oneCell_toArray (cs:=[.slice (some ⟨g,0,none⟩) rest.length cr,v1,v2,.slice none 0 0]) (fun v hv=>by simp only[List.mem_cons,List.not_mem_nil,or_false] at hv;rcases hv with rfl|rfl|rfl|rfl;rfl;exact VG h1;exact VG h2;rfl),hb⟩
theorem BC {w w':World} {B k sz:Nat} {ty:TypeId} {v:Value} {cs:List Value} (h:w.ownsRow B ty sz v k cs) (hb:∀(b:Nat) (cs:Array Value),w.heap[b]?=some (.cells cs ty (0,0))->w'.heap[b]?=w.heap[b]?):w'.ownsRow B ty sz v k cs:=by
 refine⟨h.1,?_⟩;rcases h.2 with h2|⟨g,cap,cur,e,hB,hg,r⟩
 ·exact .inl h2
 ·exact .inr ⟨g,cap,cur,e,hB,(hb g _ hg).trans hg,r⟩
theorem SZ.move {w0 w W W':World} {f:Fct} {xs:List Lot} {m:Int} {ps:List Pk} {e:Ending} (h:SZ w0 f xs m ps e W) (hb:Below w.heap.size w W') (hx:∀(k:Nat) (cs:Array Value) (ty:TypeId),W.heap[k]?=some (.cells cs ty (0,0))->ty≠60->W'.heap[k]?=W.heap[k]?):SZ w f xs m ps e W':=by
 obtain⟨res,err,rfl,-,h⟩:=h;refine⟨res,err,rfl,hb,?_⟩;rcases h with h|⟨h1,h2,rest,taken,g,cr,v1,v2,h3,h4,hD⟩
 ·exact .inl h
 ·obtain⟨zs,hz,B,o1,o2⟩:=hD.sold;obtain⟨cur,hc,hr⟩:=hD.row;exact .inr ⟨h1,h2,rest,taken,g,cr,v1,v2,h3,h4,⟨⟨zs,hz,B,BC o1 (fun b cs h=>hx b cs _ h (by decide)),BC o2 (fun b cs h=>hx b cs _ h (by decide))⟩,⟨cur,(hx g _ _ hc (by decide)).trans hc,hr⟩,hD.cap,hb⟩⟩
def BE (P:Prop) (w:World) (f:Fct) (xs:List Lot) (m:Int) (ps:List Pk) (e:Ending) (w':World):Prop:=
 (∃err:Int,err≠0/\¬(Xs xs=0/\P/\f.kind=4/\1<=m/\m<=6)/\e=.returned (.tuple #[.agg RZ,Zi err])/\Below w.heap.size w w')∨
 (Xs xs=0/\f.kind=4/\1<=m/\m<=6/\∃xs2,Pp f.ins m xs xs2/\SZ w f xs2 m ps e w')
def Zb7 (f:Fct) (m:Int) (xs:List Lot):Prop:=m=6->∀xs2,Pp f.ins m xs xs2->xs2.length=xs.length/\∀x∈xs2,Vh x
theorem Zba {P:Prop} {f:Fct} {ps:List Pk} {xs:List Lot} {A:Option Addr} {n:Nat} {w:World} {m:Int} (c:Nat) (hG:GE w) (hL:Yk w A xs n) (hs:MQ f) (hql:f.q.length<=900) (hP:XI w f.pA ps) (hpn:ps.length=f.pN) (hpn2:f.pN<=100000) (hps:∀p∈ps,p.lot.length<=1000/\p.q.length<=1000) (hC:Zb6 P w f) (h6:Zb7 f m xs) :
  Calls prog 35 #[.slice A n c,.agg (Zq f),Zi m] w (BE P w f xs m ps):=by
 obtain⟨g1,g2,g3,g4⟩:=V9 w (.cells #[.slice A n c] 44) (.cells (Zq f) 48);obtain⟨k1,k2,k3,k4⟩:=V9 ((w.alloc (.cells #[.slice A n c] 44)).alloc (.cells (Zq f) 48)) (.cells #[Zi m] 3) (.cells RZ 60);rw[g4] at k1 k2 k4;have hb0:=bto g3 k3;have XL:Hid (Blk ((((w.alloc (.cells #[.slice A n c] 44)).alloc (.cells (Zq f) 48)).alloc (.cells #[Zi m] 3)).alloc (.cells RZ 60)) w.heap.size #[.slice A n c]):=⟨_,Zv g1 k3⟩;have XFF:Hid (Blk ((((w.alloc (.cells #[.slice A n c] 44)).alloc (.cells (Zq f) 48)).alloc (.cells #[Zi m] 3)).alloc (.cells RZ 60)) (w.heap.size+1) (Zq f)):=⟨_,Zv g2 k3⟩;have XM:Hid (Blk ((((w.alloc (.cells #[.slice A n c] 44)).alloc (.cells (Zq f) 48)).alloc (.cells #[Zi m] 3)).alloc (.cells RZ 60)) (w.heap.size+1+1) #[Zi m]):=⟨_,k1⟩;have HR:=Lh k2;have K1:=Lh (ZaI c 4 (hG.below hb0) (hL.below hb0) (fun w' hb'=>hC w' (bto hb0 hb')))
 have HL:=Lh hL;have HS:=Lh hs;have HP:=Lh hP;have HPS:=Lh hps;have HC:=Lh hC;have H6:=Lh h6;have HB0:=Lh hb0;have HI:Hid ((prog.info? 60).map (·.size)=some RZ.size):=U5
 have HM:Hid (RZ.all (·.oneCell')=true):=all_oneCell_toArray (cs:=[.slice none 0 0,.slice none 0 0,.slice none 0 0,.slice none 0 0]) (fun v hv=>by simp only[List.mem_cons,List.not_mem_nil,or_false] at hv;rcases hv with rfl|rfl|rfl|rfl<;>rfl)
 have q0:((((w.alloc (.cells #[.slice A n c] 44)).alloc (.cells (Zq f) 48)).alloc (.cells #[Zi m] 3)).alloc (.cells RZ 60)).cell? ⟨w.heap.size,0,none⟩=some (.slice A n c):=XL.out.c 0;clear g1 g2 g3 g4 k1 k2 k3 k4 hb0 hL hs hP hps hC h6;go_enter func35,ntmps35;go_wp2_with (refine Zy rfl 48 (.tmp 4) rfl (w.heap.size+1) rfl (Zq f) XFF.out underlying48 rfl ZN ?_)
 (refine K1.out.mono ?_;rintro e w1 ⟨⟨E1,rfl,hE1,hE2⟩,hb1⟩)
 have HBw1:=Lh (bto HB0.out hb1);have HRw1:=Lh (Zv HR.out hb1);have XL1:=Lh (XL.out.below hb1);have XF1:=Lh (XFF.out.below hb1);have XM1:=Lh (XM.out.below hb1);have HEA:=Lh hE1;have HEB:=Lh hE2;clear hb1 hE1 hE2 q0 K1 HR XL XFF XM HB0
 by_cases h0:E1=0
 rotate_left
 ·have e5:decide (E1=0)=false:=Df h0;have e6:(E1==0)=false:=by rw[Bn];exact h0
  have H0:=Lh h0;obtain⟨r1,r2,-⟩:=ZaJ (a1:=.slice none 0 0) (a2:=.slice none 0 0) (a3:=.slice none 0 0) (a4:=.slice none 0 0) HRw1.out;have HTH:Hid (w1.there (w.heap.size+1+1+1) 0 RZ.size):=r1;obtain⟨wE,hwE⟩:∃wE,wE=w1.setCells (w.heap.size+1+1+1) 0 RZ.toList:=⟨_,rfl⟩
  have HWE:=Lh hwE;have HRR:Hid (wE.rangeAt (w.heap.size+1+1+1) 0 RZ.toList):=by rw[hwE];exact Ye r2
  have HBE:Hid (Below w.heap.size w wE):=by rw[hwE];exact Lib.below_setCells _ (by omega) _ _ HBw1.out
  clear hwE r1 r2;go_wp2_with (refine wpList_store_mid rfl 60 (.tmp 6) (.tmp 17) rfl (w.heap.size+1+1+1) 0 RZ rfl rfl HTH.out HI.out HM.out ?_;rw[<-HWE.out]);refine bodyPost_ret (v:=.tuple #[.agg RZ,Zi E1]) ?_ rfl ?_
  ·exact results_cell_tmp Tryz.f35 6 7 60 RZ (Zi E1) rfl rfl rfl HRR.out underlying60 rfl HI.out
  exact .inl ⟨E1,H0.out,fun h=>H0.out (HEA.out h.1 h.2.1 h.2.2.1),rfl,HBE.out⟩
 subst h0;have HE1:=Lh (HEB.out rfl);have q2:w1.cell? ⟨w.heap.size+1+1,0,none⟩=some (Zi m):=XM1.out.c 0
 by_cases hm:1<=m/\m<=6
 rotate_left
 ·have CN:=Lh (ZbT (m:=m) (by omega) w1)
  have HMN:=Lh hm;clear hm;go_wp2_with fail
  refine CN.out.mono ?_
  rintro e w2 ⟨rfl,hb2⟩;have HBw2:=Lh (bto HBw1.out hb2);have HRw2:=Lh (Zv HRw1.out hb2);clear hb2 q2;obtain⟨r1,r2,-⟩:=ZaJ (a1:=.slice none 0 0) (a2:=.slice none 0 0) (a3:=.slice none 0 0) (a4:=.slice none 0 0) HRw2.out;have HTH:Hid (w2.there (w.heap.size+1+1+1) 0 RZ.size):=r1;obtain⟨wE,hwE⟩:∃wE,wE=w2.setCells (w.heap.size+1+1+1) 0 RZ.toList:=⟨_,rfl⟩
  have HWE:=Lh hwE;have HRR:Hid (wE.rangeAt (w.heap.size+1+1+1) 0 RZ.toList):=by rw[hwE];exact Ye r2
  have HBE:Hid (Below w.heap.size w wE):=by rw[hwE];exact Lib.below_setCells _ (by omega) _ _ HBw2.out
  clear hwE r1 r2;go_wp2_with (refine wpList_store_mid rfl 60 (.tmp 6) (.tmp 26) rfl (w.heap.size+1+1+1) 0 RZ rfl rfl HTH.out HI.out HM.out ?_;rw[<-HWE.out]);refine bodyPost_ret (v:=.tuple #[.agg RZ,Zi 7]) ?_ rfl ?_
  ·exact results_cell_tmp Tryz.f35 6 7 60 RZ (Zi 7) rfl rfl rfl HRR.out underlying60 rfl HI.out
  exact .inl ⟨7,by decide,fun h=>HMN.out h.2.2.2,rfl,HBE.out⟩
 have CN:=Lh (ZcR hm.1 hm.2 w1);have HMM:=Lh hm;go_wp2_with fail
 refine CN.out.mono ?_
 rintro e w2 ⟨⟨s,rfl⟩,hb2⟩;have HBw2:=Lh (bto HBw1.out hb2);have HRw2:=Lh (Zv HRw1.out hb2);have XL2:=Lh (XL1.out.below hb2);have XF2:=Lh (XF1.out.below hb2);have XM2:=Lh (XM1.out.below hb2);have q2:w2.cell? ⟨w.heap.size+1+1,0,none⟩=some (Zi m):=XM2.out.c 0;clear hb2 CN HRw1 XL1 XF1 XM1 HBw1 hm
 by_cases h6:m=6
 ·have e5:decide (m=6)=true:=Dt h6;have e6:(m==6)=true:=by rw[beq_iff_eq];exact h6
  have hpo:=H6.out h6;have q0:w2.cell? ⟨w.heap.size,0,none⟩=some (.slice A n c):=XL2.out.c 0;have q5:w2.cell? ⟨w.heap.size+1,5,none⟩=some (Zg f.ins):=XF2.out.c 5;have CP:=Lh (BB c f.ins (hG.below HBw2.out) (HL.out.below HBw2.out));have HM6:=Lh h6;have HPO:=Lh hpo;clear h6 hpo;go_wp2_with fail
  refine CP.out.mono ?_
  rintro e w3 ⟨A2,c2,pl,rfl,hT,hPP,hb3⟩;obtain⟨xs2,hx2⟩:∃xs2,xs2=ZZ f.ins xs pl:=⟨_,rfl⟩
  rw[<-hx2] at hT;have HPQ:Hid (Pp f.ins m xs xs2):=.inr ⟨HM6.out,pl,hx2,hPP⟩;obtain⟨hl2,hs2⟩:=HPO.out xs2 HPQ.out;obtain⟨n2,hn2⟩:∃n2,n2=n:=⟨_,rfl⟩
  rw[<-hn2];have HZ1:Hid ((w3.cell? ⟨w.heap.size,0,none⟩).isSome=true):=by
   have h:w3.cell? ⟨w.heap.size,0,none⟩=some (.slice A n c):=(XL2.out.below hb3).c 0;show _=_;rw[h];rfl
  have HZ2:Hid (w3.frozen? ⟨w.heap.size,0,none⟩=false):=(XL2.out.below hb3).f 0;have HIL:Hid ((prog.info? 44).map (·.size)=some 1):=by
   show _=_
   kernel_rfl
  obtain⟨w4,hw4⟩:∃w4,w4=w3.setCell ⟨w.heap.size,0,none⟩ (.slice A2 n2 c2):=⟨_,rfl⟩
  have hoth:∀b,b≠w.heap.size->w4.heap[b]?=w3.heap[b]?:=fun b hb=>by rw[hw4];exact Below.heap_setCell _ _ _ b hb
  have HW4:=Lh hw4;have HBw4:Hid (Below w.heap.size w w4):=by rw[hw4];exact VF (bto HBw2.out hb3) (Nl _) _ _
  have hsz:=HBw2.out.size;have hge:w.heap.size<w2.heap.size:=by have:=(Ag.1 HRw2.out).1;omega
  have hT4:=hT w4 (fun b hb=>hoth b (by omega))
  have HL4:Hid (Yk w4 A2 xs2 n2):=⟨by rw[hl2,hn2];exact HL.out.len,by rw[hn2];exact HL.out.big,hs2,hT4⟩
  have HBL:Hid (Blk w4 w.heap.size #[.slice A2 n2 c2]):=by rw[hw4];exact (XL2.out.below hb3).setAt 0 _
  have XF4:Hid (Blk w4 (w.heap.size+1) (Zq f)):=by rw[hw4];exact (XF2.out.below hb3).setO (by omega)
  have XM4:Hid (Blk w4 (w.heap.size+1+1) #[Zi m]):=by rw[hw4];exact (XM2.out.below hb3).setO (by omega)
  have HRw4:Hid (w4.heap[w.heap.size+1+1+1]?=some (.cells RZ 60 (0,0))):=(hoth _ (by omega)).trans (Zv HRw2.out hb3)
  clear hT hPP hb3 hx2 hl2 hs2 hn2 hoth hsz hge hT4 q0 q5 q2 e5 e6 CP HPO hw4;have CD:=Lh (Ki c2 (m:=m) (bl:=w.heap.size) (bf:=w.heap.size+1) (bm:=w.heap.size+1+1) (hG.below HBw4.out) HL4.out HS.out hql (HP.out.below HBw4.out) hpn hpn2 HPS.out HBL.out XF4.out XM4.out);have XFF:=XF4;have q0:w4.cell? ⟨w.heap.size,0,none⟩=some (.slice A2 n2 c2):=HBL.out.c 0;go_wp2_with (first|(refine YH rfl 44 (.tmp 3) (.tmp 32) rfl w.heap.size 0 (.slice A2 n2 c2) rfl rfl HZ1.out HZ2.out HIL.out rfl ?_;rw[<-HW4.out])|(refine Zy rfl 48 (.tmp 4) rfl (w.heap.size+1) rfl (Zq f) XFF.out underlying48 rfl ZN ?_))
  refine CD.out.mono ?_
  rintro e w5 hS;obtain⟨a1,a2,a3,a4,err,rfl,hone,hb5⟩:=hS.form;have HSS:=Lh hS;have HR5:=Zv HRw4.out hb5;obtain⟨r1,r2,r3⟩:=ZaJ (a1:=a1) (a2:=a2) (a3:=a3) (a4:=a4) HR5;have HTH:Hid (w5.there (w.heap.size+1+1+1) 0 4):=r1;obtain⟨wE,hwE⟩:∃wE,wE=w5.setCells (w.heap.size+1+1+1) 0 [a1,a2,a3,a4]:=⟨_,rfl⟩
  have HWE:=Lh hwE;rw[<-hwE] at r2 r3;have HRR:Hid (wE.rangeAt (w.heap.size+1+1+1) 0 [a1,a2,a3,a4]):=Ye r2;have HMV:Hid (SZ w f xs2 m ps (.returned (.tuple #[.agg #[a1,a2,a3,a4],Zi err])) wE):=hS.move (by rw[hwE];exact Lib.below_setCells _ (by omega) _ _ (bto HBw4.out hb5)) (fun k cs ty hk hne=>r3 k (fun e=>by subst e;rw[HR5] at hk;injection hk with hk;injection hk with _ h2 _;exact hne h2.symm))
  have HONE:Hid ((#[a1,a2,a3,a4]:Array Value).all (·.oneCell')=true):=hone
  clear hwE r1 r2 r3 hS hone hb5 HR5 CD q0;go_wp2_with (refine wpList_store_mid rfl 60 (.tmp 6) (.tmp 39) rfl (w.heap.size+1+1+1) 0 #[a1,a2,a3,a4] rfl rfl HTH.out HI.out HONE.out ?_;rw[<-HWE.out]);refine bodyPost_ret (v:=.tuple #[.agg #[a1,a2,a3,a4],Zi err]) ?_ rfl ?_
  ·exact results_cell_tmp Tryz.f35 6 7 60 #[a1,a2,a3,a4] (Zi err) rfl rfl rfl HRR.out underlying60 rfl HI.out
  exact .inr ⟨HE1.out.1,HE1.out.2,HMM.out.1,HMM.out.2,xs2,HPQ.out,HMV.out⟩
 ·have e5:decide (m=6)=false:=Df h6;have e6:(m==6)=false:=by rw[Bn];exact h6
  obtain⟨w4,rfl⟩:∃w4,w4=w2:=⟨_,rfl⟩
  obtain⟨xs2,hx2⟩:∃xs2,xs2=xs:=⟨_,rfl⟩
  obtain⟨A2,n2,c2,hA2,hn2,hc2⟩:∃A2 n2 c2,A2=A/\n2=n/\c2=c:=⟨_,_,_,rfl,rfl,rfl⟩
  rw[<-hA2,<-hn2,<-hc2] at XL2;have HPQ:Hid (Pp f.ins m xs xs2):=.inl ⟨h6,hx2⟩;have HL4:Hid (Yk w4 A2 xs2 n2):=by rw[hA2,hn2,hx2];exact HL.out.below HBw2.out
  have HBw4:=HBw2;have HRw4:=HRw2;have HBL:=XL2;have XF4:=XF2;have XM4:=XM2;clear h6 hx2 hA2 hn2 hc2;have CD:=Lh (Ki c2 (m:=m) (bl:=w.heap.size) (bf:=w.heap.size+1) (bm:=w.heap.size+1+1) (hG.below HBw4.out) HL4.out HS.out hql (HP.out.below HBw4.out) hpn hpn2 HPS.out HBL.out XF4.out XM4.out);have XFF:=XF4;have q0:w4.cell? ⟨w.heap.size,0,none⟩=some (.slice A2 n2 c2):=HBL.out.c 0;go_wp2_with (refine Zy rfl 48 (.tmp 4) rfl (w.heap.size+1) rfl (Zq f) XFF.out underlying48 rfl ZN ?_)
  refine CD.out.mono ?_
  rintro e w5 hS;obtain⟨a1,a2,a3,a4,err,rfl,hone,hb5⟩:=hS.form;have HSS:=Lh hS;have HR5:=Zv HRw4.out hb5;obtain⟨r1,r2,r3⟩:=ZaJ (a1:=a1) (a2:=a2) (a3:=a3) (a4:=a4) HR5;have HTH:Hid (w5.there (w.heap.size+1+1+1) 0 4):=r1;obtain⟨wE,hwE⟩:∃wE,wE=w5.setCells (w.heap.size+1+1+1) 0 [a1,a2,a3,a4]:=⟨_,rfl⟩
  have HWE:=Lh hwE;rw[<-hwE] at r2 r3;have HRR:Hid (wE.rangeAt (w.heap.size+1+1+1) 0 [a1,a2,a3,a4]):=Ye r2;have HMV:Hid (SZ w f xs2 m ps (.returned (.tuple #[.agg #[a1,a2,a3,a4],Zi err])) wE):=hS.move (by rw[hwE];exact Lib.below_setCells _ (by omega) _ _ (bto HBw4.out hb5)) (fun k cs ty hk hne=>r3 k (fun e=>by subst e;rw[HR5] at hk;injection hk with hk;injection hk with _ h2 _;exact hne h2.symm))
  have HONE:Hid ((#[a1,a2,a3,a4]:Array Value).all (·.oneCell')=true):=hone
  clear hwE r1 r2 r3 hS hone hb5 HR5 CD q0;go_wp2_with (refine wpList_store_mid rfl 60 (.tmp 6) (.tmp 39) rfl (w.heap.size+1+1+1) 0 #[a1,a2,a3,a4] rfl rfl HTH.out HI.out HONE.out ?_;rw[<-HWE.out]);refine bodyPost_ret (v:=.tuple #[.agg #[a1,a2,a3,a4],Zi err]) ?_ rfl ?_
  ·exact results_cell_tmp Tryz.f35 6 7 60 #[a1,a2,a3,a4] (Zi err) rfl rfl rfl HRR.out underlying60 rfl HI.out
  exact .inr ⟨HE1.out.1,HE1.out.2,HMM.out.1,HMM.out.2,xs2,HPQ.out,HMV.out⟩
theorem BF (l:List UInt8) (w:World):Calls prog 118 #[Zg l] w fun e w'=>e=.returned (.bool (decide ((13:Int)<(l.length:Int))))/\w'=w:=by
 go_enter func118,ntmps118;go_wp2;go_ret;exact⟨rfl,rfl⟩
def UM (x:Lot):Bool:=decide ((13:Int)<(x.q.length:Int))||(decide ((13:Int)<(x.cost.length:Int))||(decide ((13:Int)<(x.used.length:Int))||(decide ((40:Int)<(x.id.length:Int))||decide ((40:Int)<(x.ins.length:Int)))))
theorem BG (x:Lot) (w:World):Calls prog 116 #[(Value.agg (Zn x))] w fun e w'=>e=.returned (.bool (UM x))/\Below w.heap.size w w':=by
 have x1:=Yq.new w x 130;have hb:=Zh w (.cells (Zn x) 130);have q0:=x1.c0;have q1:=x1.c1;have q4:=x1.c4;have q5:=x1.c5;have q6:=x1.c6;have HL:=Lh BF;clear x1;cases e0:decide ((13:Int)<(x.q.length:Int)) with
 | true=>
  go_enter func116,ntmps116;go_wp2_with fail
  refine (HL.out _ _).mono ?_
  rintro e w0 ⟨rfl,rfl⟩;go_wp2;go_ret;exact⟨ZR (by unfold UM;simp[e0]),hb⟩
 | false=>
 cases e1:decide ((13:Int)<(x.cost.length:Int)) with
 | true=>
  go_enter func116,ntmps116;go_wp2_with fail
  refine (HL.out _ _).mono ?_
  rintro e w0 ⟨rfl,rfl⟩;go_wp2_with fail
  refine (HL.out _ _).mono ?_
  rintro e w1 ⟨rfl,rfl⟩;go_wp2;go_ret;exact⟨ZR (by unfold UM;simp[e0,e1]),hb⟩
 | false=>
 cases e2:decide ((13:Int)<(x.used.length:Int)) with
 | true=>
  go_enter func116,ntmps116;go_wp2_with fail
  refine (HL.out _ _).mono ?_
  rintro e w0 ⟨rfl,rfl⟩;go_wp2_with fail
  refine (HL.out _ _).mono ?_
  rintro e w1 ⟨rfl,rfl⟩;go_wp2_with fail
  refine (HL.out _ _).mono ?_
  rintro e w2 ⟨rfl,rfl⟩;go_wp2;go_ret;exact⟨ZR (by unfold UM;simp[e0,e1,e2]),hb⟩
 | false=>
 cases e3:decide ((40:Int)<(x.id.length:Int)) with
 | true=>
  go_enter func116,ntmps116;go_wp2_with fail
  refine (HL.out _ _).mono ?_
  rintro e w0 ⟨rfl,rfl⟩;go_wp2_with fail
  refine (HL.out _ _).mono ?_
  rintro e w1 ⟨rfl,rfl⟩;go_wp2_with fail
  refine (HL.out _ _).mono ?_
  rintro e w2 ⟨rfl,rfl⟩;go_wp2;go_ret;exact⟨ZR (by unfold UM;simp[e0,e1,e2,e3]),hb⟩
 | false=>
 cases e4:decide ((40:Int)<(x.ins.length:Int)) with
 | true=>
  go_enter func116,ntmps116;go_wp2_with fail
  refine (HL.out _ _).mono ?_
  rintro e w0 ⟨rfl,rfl⟩;go_wp2_with fail
  refine (HL.out _ _).mono ?_
  rintro e w1 ⟨rfl,rfl⟩;go_wp2_with fail
  refine (HL.out _ _).mono ?_
  rintro e w2 ⟨rfl,rfl⟩;go_wp2;go_ret;exact⟨ZR (by unfold UM;simp[e0,e1,e2,e3,e4]),hb⟩
 | false=>
 go_enter func116,ntmps116;go_wp2_with fail
 refine (HL.out _ _).mono ?_
 rintro e w0 ⟨rfl,rfl⟩;go_wp2_with fail
 refine (HL.out _ _).mono ?_
 rintro e w1 ⟨rfl,rfl⟩;go_wp2_with fail
 refine (HL.out _ _).mono ?_
 rintro e w2 ⟨rfl,rfl⟩;go_wp2;go_ret;exact⟨ZR (by unfold UM;simp only[e0,e1,e2,e3,e4];rfl),hb⟩
def KE (xs:List Lot):Bool:=(decide ((12:Int)<(xs.length:Int))&&decide ((xs.length:Int)<999))||(decide ((1002:Int)<(xs.length:Int))||xs.any UM)
theorem BH {A:Option Addr} {xs:List Lot} {n:Nat} (c:Nat) {w:World} (hn:xs.length=n) (hn2:n<=9223372036854775807) (h:Y7 w A xs) :
  Calls prog 49 #[.slice A n c] w fun e w'=>e=.returned (.bool (KE xs))/\Below w.heap.size w w':=by
 have HV:Hid (KE xs=((decide ((12:Int)<(n:Int))&&decide ((n:Int)<999))||(decide ((1002:Int)<(n:Int))||xs.any UM))):=by unfold KE;show _=_;rw[hn]
 generalize KE xs=R at *;have HX:=Lh h;have HN:=Lh hn;have hb:=Below.refl w.heap.size w;cases e0:(decide ((12:Int)<(n:Int))&&decide ((n:Int)<999)) with
 | true=>
  have HV2:Hid (R=true):=by show _=_;rw[HV.out,e0,Bool.true_or]
  obtain⟨e1,e2⟩:=Bool.and_eq_true_iff.1 e0;clear HV HX HN e0 h hn;go_enter func49,ntmps49;go_wp2;go_ret;exact⟨ZR HV2.out.symm,hb⟩
 | false=>
 cases e3:decide ((1002:Int)<(n:Int)) with
 | true=>
  have HV2:Hid (R=true):=by show _=_;rw[HV.out,e3,Bool.true_or,Bool.or_true]
  have e1:decide ((12:Int)<(n:Int))=true:=Dt (by have:=of_decide_eq_true e3;omega)
  have e2:decide ((n:Int)<999)=false:=Df (by have:=of_decide_eq_true e3;omega)
  clear HV HX HN e0 h hn;go_enter func49,ntmps49;go_wp2;go_ret;exact⟨ZR HV2.out.symm,hb⟩
 | false=>
 have HV2:Hid (R=(xs.drop 0).any UM):=by show _=_;rw[HV.out,e0,e3,Bool.false_or,Bool.false_or];rfl
 have key:decide ((12:Int)<(n:Int))=true/\decide ((n:Int)<999)=false∨decide ((12:Int)<(n:Int))=false:=by
  cases h1:decide ((12:Int)<(n:Int)) with
  | false=>exact .inr rfl
  | true=>rw[h1,Bool.true_and] at e0;exact .inl ⟨rfl,e0⟩
 clear HV e0 h hn;rcases key with ⟨e1,e2⟩|e1
 all_goals
  go_enter func49,ntmps49;go_wp2_with fail
  (try clear e1 e2)
  (try clear e1)
  clear e3
  go_loopw [3] (fun iv wr=>∃k:Nat,k<=n/\iv=Zi (k:Int)/\Hid (R=(xs.drop k).any UM)/\Below w.heap.size w wr) (fun iv _=>n-(intOf iv).toNat)
  case atStart=>exact⟨0,Nat.zero_le _,rfl,HV2,Below.refl _ _⟩
  case round=>
   clear HV2;obtain⟨k,hk,rfl,HK,hbk⟩:=hrel
   by_cases hlt:k<n
   ·obtain⟨x,hx⟩:∃x,xs[k]?=some x:=⟨_,List.getElem?_eq_getElem (by rw[HN.out];omega)⟩
    obtain⟨b,o,rfl,hbs,hc0⟩:=(HX.out.below hbk) k x hx;have p0:=hc0.c0;have p1:=hc0.c1;have p2:=hc0.c2;have p3:=hc0.c3;have p4:=hc0.c4;have p5:=hc0.c5;have p6:=hc0.c6;have HD:Hid ((xs.drop k).any UM=(UM x||(xs.drop (k+1)).any UM)):=by
     obtain⟨hk',rfl⟩:=Lg.1 hx;show _=_;rw[List.drop_eq_getElem_cons hk',List.any_cons]
    have CP:=Lh (BG x wr);have e1:decide ((k:Int)<(n:Int))=true:=Dt (by omega)
    clear hx hc0;go_wp2_with fail
    refine CP.out.mono ?_
    rintro e w2 ⟨rfl,hb2⟩;replace hbk:=bto hbk hb2;clear hb2 CP p0 p1 p2 p3 p4 p5 p6;cases hq:UM x with
    | true=>
     have HV3:Hid (R=true):=by show _=_;rw[HK.out,HD.out,hq,Bool.true_or]
     clear hq HK HD;go_wp2;go_ret;exact⟨ZR HV3.out.symm,hbk⟩
    | false=>
     have HV3:Hid (R=(xs.drop (k+1)).any UM):=by show _=_;rw[HK.out,HD.out,hq,Bool.false_or]
     clear hq HK HD;go_wp2;go_roundw
     case rel=>exact⟨k+1,by omega,by go_num,HV3,hbk⟩
     case measure=>simp[intOf];omega
   ·have HV3:Hid (R=false):=by show _=_;rw[HK.out,List.drop_of_length_le (by rw[HN.out];omega)];rfl
    have e1:decide ((k:Int)<(n:Int))=false:=Df (by omega)
    clear HK;go_wp2;go_ret;exact⟨ZR HV3.out.symm,hbk⟩
theorem FQ {w:World} {A:Option Addr} {xs:List Lot} {n:Nat} (hn:xs.length=n) (h:Y7 w A xs) (hg:KE xs=false):Yk w A xs n/\∀x∈xs,x.q.length<=13/\x.cost.length<=13/\x.used.length<=13/\x.id.length<=40/\x.ins.length<=40:=by
 unfold KE at hg;rw[Bool.or_eq_false_iff,Bool.or_eq_false_iff] at hg;obtain⟨-,h2,h3⟩:=hg;have h4:=of_decide_eq_false h2;have hs:∀x∈xs,x.q.length<=13/\x.cost.length<=13/\x.used.length<=13/\x.id.length<=40/\x.ins.length<=40:=fun x hx=>by
  rw[List.any_eq_false] at h3;have h5:UM x=false:=by simpa using h3 x hx
  unfold UM at h5;simp only[Bool.or_eq_false_iff] at h5;obtain⟨a,b,c,d,e⟩:=h5
  have:=of_decide_eq_false a
  have:=of_decide_eq_false b
  have:=of_decide_eq_false c
  have:=of_decide_eq_false d
  have:=of_decide_eq_false e
  omega
 refine⟨⟨hn,by omega,fun x hx=>?_,h⟩,hs⟩
 obtain⟨a,b,c,d,e⟩:=hs x hx;exact⟨by omega,by omega,by omega,by omega,by omega⟩
def xsA:List Lot:=[⟨[97,47,49],[97,98,99],5,5,[49,48],[49,48,48],[]⟩,⟨[98,47,49],[97,98,99],6,6,[53],[56,48],[]⟩]
def fA:Fct:={ key:=[115],ins:=[97,98,99],oth:=[],cur:=[],tgt:=[],q:=[49,50],amt:=[51,48,48],fee:=[55],pn:=[],pd:=[],rn:=[],rd:=[],sn:=[],sd:=[],stamp:=0,day:=9,kind:=4,choice:=0,canc:=false,pA:=none,pN:=0,pC:=0,oA:=none,oN:=0,oC:=0 }
def pkA:List Pk:=[⟨[97,47,49],[49,48]⟩,⟨[98,47,49],[50]⟩]
def tkA:List Lot:=[⟨[97,47,49],[97,98,99],5,5,[49,48],[49,48,48],[]⟩,⟨[98,47,49],[97,98,99],6,6,[50],[51,50],[]⟩]
theorem ZaK:Xs xsA=0:=by decide +kernel
theorem ZaL:GoodS fA []:=by
 refine⟨by decide +kernel,by decide,by decide,rfl,(by show nmE fA.ins=0;decide +kernel),⟨rfl,by decide +kernel⟩,by decide +kernel,by decide +kernel,by decide +kernel,?_⟩
 decide +kernel
theorem Zb8:chE xsA fA.ins fA.q 1 []=0:=by decide +kernel
theorem Zb9:SS cfF (ofL fA.ins xsA):=by
 intro i x y hx hy;have e:ofL fA.ins xsA=xsA:=by decide +kernel
 rw[e] at hx hy;have hi:=(Lg.1 hy).1;have hi:i=0:=by simp[xsA] at hi;omega
 subst hi;simp[xsA] at hx hy;subst hx;subst hy;decide +kernel
theorem Zbb {pk:List Pk} (h:J8 xsA fA.ins fA.q 1 [] pk):pk=pkA:=by
 obtain⟨zs,-,h20,rfl⟩:=h;rw[h20 rfl (by decide +kernel) Zb9]
 decide +kernel
theorem ZaM:Xt xsA [] pkA=0:=by decide +kernel
theorem ZaN:(Z8 (xsA,[]) pkA).2=tkA:=by decide +kernel
theorem Zca:canon (val fA.amt-val fA.fee)=[50,57,51]:=by decide +kernel
theorem BI:val [50,57,51]=293/\tkA.map (fun x=>val x.q)=[10,2]:=by decide +kernel
theorem BJ {zs:List Int} (h:UK 293 [10,2] zs):zs=[244,49]:=by
 rcases h with ⟨-,h⟩|⟨h,-⟩
 rotate_left
 ·omega
 have hl:=h.len;have hs:=h.sum
 match zs,hl with
 | [a,b],_=>
  have e1:Vj 293 ([10,2]:List Int).sum [10,2]=[244,48]:=by decide +kernel
  have e2:VS 293 ([10,2]:List Int).sum [10,2]=[2,10]:=by decide +kernel
  have h0:=h.at' 0;have h1:=h.at' 1;have ho:=h.ord 0 1 (by decide) (by decide)
  rw[e1] at h0 h1;rw[e1,e2] at ho;simp at h0 h1 ho hs;have hab:¬(a=245/\b=48):=fun ⟨ha,hb⟩=>by have:=ho ha hb;omega
  rcases h0 with rfl|rfl<;>rcases h1 with rfl|rfl<;>first|rfl|omega
def gnA:List Gn:=[⟨[115],[97,47,49],[97,98,99],5,9,[49,48],[50,52,52],[49,48,48]⟩,⟨[115],[98,47,49],[97,98,99],6,9,[50],[52,57],[51,50]⟩]
theorem BK:(tkA.zip (([244,49]:List Int).map canon)).map (Ub fA.key fA.ins fA.day)=gnA:=by
 have e:([244,49]:List Int).map canon=[[50,52,52],[52,57]]:=by decide +kernel
 rw[e];rfl
def GaQ (w:World) (v:Value):Prop:=∃g cap cur,v=.slice (some ⟨g,0,none⟩) 2 cap/\w.heap[g]?=some (.cells cur 89 (0,0))/\20<=cur.size/\cur.toList.take 20=Yo gnA
theorem GaQ.below {w w':World} {v:Value} (h:GaQ w v) (hb:Below w.heap.size w w'):GaQ w' v:=by
 obtain⟨g,cap,cur,e,h1,h2⟩:=h;exact⟨g,cap,cur,e,Zv h1 hb,h2⟩
theorem Zcb {w:World} {B:Nat} {v:Value} (h:w.ownsRow B 89 10 v 2 (Yo gnA)):GaQ w v:=by
 rcases h.2 with ⟨-,h0⟩|⟨g,cap,cur,e,-,h1,h2,-,h3,h4⟩
 ·cases h0
 ·exact⟨g,cap,cur,e,h1,by omega,h4⟩
theorem GaQ.at {w:World} {v:Value} (h:GaQ w v):∃g cap,v=.slice (some ⟨g,0,none⟩) 2 cap/\w.cell? ⟨g,6,none⟩=some (.string ⟨#[50,52,52]⟩)/\w.cell? ⟨g,16,none⟩=some (.string ⟨#[52,57]⟩)/\w.cell? ⟨g,17,none⟩=some (.string ⟨#[51,50]⟩):=by
 obtain⟨g,cap,cur,e,h1,h2,h3⟩:=h;have key:∀j u,j<20->(Yo gnA)[j]?=some u->w.cell? ⟨g,j,none⟩=some u:=fun j u hj hu=>by
  rw[Zk h1,<-Array.getElem?_toList,<-hu,<-h3,List.getElem?_take,if_pos hj]
 exact⟨g,cap,e,key 6 _ (by decide) rfl,key 16 _ (by decide) rfl,key 17 _ (by decide) rfl⟩
def TQA (w:World) (u:Value):Prop:=∃r v1 v2,u=.tuple #[.agg #[r,v1,v2,.slice none 0 0],Zi 0]/\r.oneCell'=true/\v2.oneCell'=true/\GaQ w v1
theorem BL:MQ fA:=⟨by decide,by decide,by decide,by decide,by decide,by decide,by decide,by decide,by decide,by decide,by decide,by decide,by decide,by decide⟩
theorem Zbc (w:World):Qj w fA [] []:=⟨BL,fun i r h=>by simp at h,rfl,Nl _,fun p h=>by simp at h,fun i r h=>by simp at h,rfl,fun p h=>by simp at h⟩
theorem TQA.of {w W:World} {g cr:Nat} {rest:List Lot} {v1 v2:Value} (hD:Zar w g cr rest tkA fA.key fA.ins fA.day (canon (val fA.amt-val fA.fee)) v1 v2 W):TQA W (.tuple #[.agg (TA g rest.length cr v1 v2),Zi 0]):=by
 obtain⟨zs,hz,B,ho1,ho2⟩:=hD.sold;rw[Zca,BI.1,BI.2] at hz;rw[BJ hz,BK] at ho1;exact⟨_,v1,v2,rfl,rfl,VG ho2,Zcb ho1⟩
theorem ZcY {w:World} {A:Option Addr} (hG:GE w) (hL:Yk w A xsA 2):Calls prog 35 #[.slice A 2 2,.agg (Zq fA),Zi 1] w fun e w'=>∃u,e=.returned u/\Below w.heap.size w w'/\TQA w' u:=by
 have hc:Zb6 (GoodS fA []) w fA:=fun w' hb=>(C9 (hG.below hb) (Zbc w') rfl).mono (fun e w2 h=>⟨h.1.elim fun E h=>⟨E,h.1,h.2.1⟩,h.2⟩)
 refine (Zba (m:=1) (ps:=[]) 2 hG hL BL (by decide) (Zbc w).pk rfl (by decide) (fun p hp=>by cases hp) hc (fun h=>by cases h)).mono ?_
 rintro e w' (⟨err,-,h,-⟩|⟨-,-,-,-,xs2,hQ,res,err,rfl,hb,h⟩)
 ·exact absurd ⟨ZaK,ZaL,rfl,by decide,by decide⟩ h
 have hx:xs2=xsA:=by
  rcases hQ with ⟨-,h⟩|⟨h,-⟩
  ·exact h
  ·cases h
 subst hx;rcases h with ⟨-,-,h|⟨pk,hc,hp⟩⟩|⟨rfl,-,rest,taken,g,cr,v1,v2,⟨pk,hc,-,ht⟩,rfl,hD⟩
 ·exact absurd Zb8 h
 ·rw[Zbb hc] at hp;exact absurd ZaM hp
 ·rw[Zbb hc] at ht;have e2:taken=tkA:=by rw[<-ZaN,<-ht]
  subst e2;exact⟨_,rfl,hb,TQA.of hD⟩
theorem ZcZ (w:World):Calls prog 41 #[] w fun e w'=>∃b,e=.returned (.slice (some ⟨b,0,none⟩) 2 2)/\Below w.heap.size w w'/\Yk w' (some ⟨b,0,none⟩) xsA 2:=by
 have hb:=Zh w (.cells #[.string ⟨#[97,47,49]⟩,.string ⟨#[97,98,99]⟩,Zi 5,Zi 5,.string ⟨#[49,48]⟩,.string ⟨#[49,48,48]⟩,Zj,.string ⟨#[98,47,49]⟩,.string ⟨#[97,98,99]⟩,Zi 6,Zi 6,.string ⟨#[53]⟩,.string ⟨#[56,48]⟩,Zj] 130);have hn:=ZJ w (.cells #[.string ⟨#[97,47,49]⟩,.string ⟨#[97,98,99]⟩,Zi 5,Zi 5,.string ⟨#[49,48]⟩,.string ⟨#[49,48,48]⟩,Zj,.string ⟨#[98,47,49]⟩,.string ⟨#[97,98,99]⟩,Zi 6,Zi 6,.string ⟨#[53]⟩,.string ⟨#[56,48]⟩,Zj] 130);obtain⟨W,hW⟩:∃W,W=w.alloc (.cells #[.string ⟨#[97,47,49]⟩,.string ⟨#[97,98,99]⟩,Zi 5,Zi 5,.string ⟨#[49,48]⟩,.string ⟨#[49,48,48]⟩,Zj,.string ⟨#[98,47,49]⟩,.string ⟨#[97,98,99]⟩,Zi 6,Zi 6,.string ⟨#[53]⟩,.string ⟨#[56,48]⟩,Zj] 130):=⟨_,rfl⟩
 rw[<-hW] at hb hn;have HB:=Lh hb;have HN:=Lh hn;have HW:=Lh hW;clear hb hn hW;go_enter func41,ntmps41;go_wp2_with fail;rw[<-HW.out];go_ret;refine⟨w.heap.size,rfl,HB.out,⟨rfl,by decide,fun x hx=>?_,fun i x hx=>⟨w.heap.size,0,rfl,(Ag.1 HN.out).1,?_⟩⟩⟩
 ·simp[xsA] at hx;rcases hx with rfl|rfl<;>exact⟨by decide,by decide,by decide,by decide,by decide⟩
 ·have hi:=(Lg.1 hx).1;have hi:i=0∨i=1:=by simp[xsA] at hi;omega
  rcases hi with rfl|rfl
  ·simp[xsA] at hx;subst hx;exact⟨Zk HN.out 0,Zk HN.out 1,Zk HN.out 2,Zk HN.out 3,Zk HN.out 4,Zk HN.out 5,Zk HN.out 6⟩
  ·simp[xsA] at hx;subst hx;exact⟨Zk HN.out 7,Zk HN.out 8,Zk HN.out 9,Zk HN.out 10,Zk HN.out 11,Zk HN.out 12,Zk HN.out 13⟩
def LtQ (w:World) (u:Value):Prop:=∃b,u=.slice (some ⟨b,0,none⟩) 2 2/\Yk w (some ⟨b,0,none⟩) xsA 2
theorem LtQ.below {w w':World} {u:Value} (h:LtQ w u) (hb:Below w.heap.size w w'):LtQ w' u:=by
 obtain⟨b,e,h⟩:=h;exact⟨b,e,h.below hb⟩
theorem TQA.below {w w':World} {u:Value} (h:TQA w u) (hb:Below w.heap.size w w'):TQA w' u:=by
 obtain⟨r,v1,v2,e,h1,h2,h3⟩:=h;exact⟨r,v1,v2,e,h1,h2,h3.below hb⟩
def AQA (w:World) (u:Value):Prop:=∃r v1 v2,u=.agg #[r,v1,v2,.slice none 0 0]/\r.oneCell'=true/\v2.oneCell'=true/\GaQ w v1
theorem AQA.below {w w':World} {u:Value} (h:AQA w u) (hb:Below w.heap.size w w'):AQA w' u:=by
 obtain⟨r,v1,v2,e,h1,h2,h3⟩:=h;exact⟨r,v1,v2,e,h1,h2,h3.below hb⟩
theorem GaQ.oth {w w':World} {b:Nat} {cs:Array Value} {v:Value} (h:GaQ w v) (hb:w.heap[b]?=some (.cells cs 60 (0,0))) (hx:∀k,k≠b->w'.heap[k]?=w.heap[k]?):GaQ w' v:=by
 obtain⟨g,cap,cur,e,h1,h2⟩:=h;refine⟨g,cap,cur,e,(hx g (fun e=>?_)).trans h1,h2⟩
 subst e;rw[hb] at h1;injection h1 with h1
 injection h1 with _ h1 _
 exact absurd h1 (by decide)
theorem TQA.oth {w w':World} {b:Nat} {cs:Array Value} {v:Value} (h:TQA w v) (hb:w.heap[b]?=some (.cells cs 60 (0,0))) (hx:∀k,k≠b->w'.heap[k]?=w.heap[k]?):TQA w' v:=by
 obtain⟨r,v1,v2,e,h1,h2,h3⟩:=h;exact⟨r,v1,v2,e,h1,h2,h3.oth hb hx⟩
theorem AQA.oth {w w':World} {b:Nat} {cs:Array Value} {v:Value} (h:AQA w v) (hb:w.heap[b]?=some (.cells cs 60 (0,0))) (hx:∀k,k≠b->w'.heap[k]?=w.heap[k]?):AQA w' v:=by
 obtain⟨r,v1,v2,e,h1,h2,h3⟩:=h;exact⟨r,v1,v2,e,h1,h2,h3.oth hb hx⟩
def FRa (w:World) (u2 u3 u7 u8 u9 u10 u11 u12:Value):Act:=⟨#[.bool false,.pointer (some ⟨w.heap.size,0,none⟩),u2,u3,undef,undef,.agg (Zq fA),u7,u8,u9,u10,u11,u12,undef,undef,undef,undef,undef,undef,undef,undef,undef,undef,undef,undef,undef,undef,undef,undef,undef,undef,undef,undef,undef,undef,undef,undef,undef,undef,undef,undef,undef,undef,undef,undef,undef,undef,undef,undef,undef,undef,undef,undef,undef,undef,undef,undef,undef,undef,undef,undef],[]⟩
structure AF (w w1:World) (L:Array Bool) (w':World) (u2 u3 u7 u8 u9 u10 u11 u12:Value):Prop where
 b:Below w1.heap.size w1 w'
 f0:L.getD 0 false=true->L.getD 7 false=false->LtQ w' u8
 f1:L.getD 1 false=true->u9=.agg (Zq fA)
 f2:L.getD 2 false=true->L.getD 7 false=false->TQA w' u10
 f3:L.getD 3 false=true->TQA w' u7
 f4:L.getD 4 false=true->AQA w' u11
 f5:L.getD 5 false=true->u12=Zi 0
 f6:L.getD 6 false=true->∃b cs,u2=.pointer (some ⟨b,0,none⟩)/\w1.heap.size<=b/\w'.heap[b]?=some (.cells cs 60 (0,0))/\cs.size=4/\(L.getD 7 false=true->u11=.agg cs)
 f7:L.getD 7 false=true->L.getD 0 false=true/\L.getD 2 false=true/\L.getD 3 false=true/\L.getD 4 false=true/\L.getD 6 false=true
 f8:L.getD 8 false=true->u3=u12
 f9:L.getD 8 false=true->L.getD 5 false=true
def AI (w w1:World) (L:Array Bool) (a:Act) (w':World):Prop:=∃u2 u3 u7 u8 u9 u10 u11 u12:Value,a=FRa w u2 u3 u7 u8 u9 u10 u11 u12/\AF w w1 L w' u2 u3 u7 u8 u9 u10 u11 u12
def TR (w w1:World) (o:Oper) (i:Nat):Prop:=∀listed a w',AI w w1 listed a w'->listed.getD i true=false->(∀j,ZV o j->listed.getD j false=true)->o.wp prog a w' (AI w w1 (listed.setIfInBounds i true)) (WI fun _ _=>False)
theorem BM (w w1:World) (n:Nat):AI w w1 (Array.replicate n false) (FRa w undef undef undef undef undef undef undef undef) { w1 with drawn:=w1.drawn+1 }:=by
 have h:∀j,(Array.replicate n false).getD j false=false:=fun j=>by
  rw[Array.getD_eq_getD_getElem?,Array.getElem?_replicate]
  split<;>rfl
 refine⟨undef,undef,undef,undef,undef,undef,undef,undef,rfl,⟨⟨rfl,rfl,rfl,Nl _,fun _ _=>rfl⟩,fun e=>?_,fun e=>?_,fun e=>?_,fun e=>?_,fun e=>?_,fun e=>?_,fun e=>?_,fun e=>?_,fun e=>?_,fun e=>?_⟩⟩<;>exact absurd e (by rw[h];decide)
section
variable {w w1:World} {o:Oper}
theorem as0 (hrun:∀(a:Act) (w':World),(execOp a.eval o).run prog w'=.ok (.enter 41 #[]) w') (hd:o.dst=some 8):TR w w1 o 0:=by
 intro L a w' hI hi hl;obtain⟨u2,u3,u7,u8,u9,u10,u11,u12,rfl,hc⟩:=hI;have e:∀j,j≠0->(L.setIfInBounds 0 true).getD j false=L.getD j false:=fun j hj=>getD_set_ne false (Ne.symm hj)
 have k8:∀j,L.getD j false=true->(L.setIfInBounds 0 true).getD j false=true:=fun j hj=>getD_set_true hj
 refine YI (hrun _ w') ?_;refine (ZcZ w').mono ?_;rintro ex w2 ⟨b,rfl,hB,hM⟩;refine⟨_,rfl,?_⟩;rw[hd];exact⟨u2,u3,u7,.slice (some ⟨b,0,none⟩) 2 2,u9,u10,u11,u12,rfl,⟨bto hc.b hB,fun _ _=>⟨b,rfl,hM⟩,fun h=>hc.f1 (by rwa [e 1 (by decide)] at h),fun h h7=>(hc.f2 (by rwa [e 2 (by decide)] at h) (by rwa [e 7 (by decide)] at h7)).below hB,fun h=>(hc.f3 (by rwa [e 3 (by decide)] at h)).below hB,fun h=>(hc.f4 (by rwa [e 4 (by decide)] at h)).below hB,fun h=>hc.f5 (by rwa [e 5 (by decide)] at h),fun h=>by obtain⟨b,cs,q1,q2,q3,q4,q5⟩:=hc.f6 (by rwa [e 6 (by decide)] at h);exact⟨b,cs,q1,q2,Zv q3 hB,q4,fun h7=>q5 (by rwa [e 7 (by decide)] at h7)⟩,fun h=>by obtain⟨k0,k2,k3,k4,k6⟩:=hc.f7 (by rwa [e 7 (by decide)] at h);exact⟨k8 0 k0,k8 2 k2,k8 3 k3,k8 4 k4,k8 6 k6⟩,fun h=>hc.f8 (by rwa [e 8 (by decide)] at h),fun h=>k8 5 (hc.f9 (by rwa [e 8 (by decide)] at h))⟩⟩
theorem as1 (hX:Blk w1 w.heap.size (Zq fA)) (hop:o.op=.load 48 (.tmp 1)) (hd:o.dst=some 9):TR w w1 o 1:=by
 intro L a w' hI hi hl;obtain⟨u2,u3,u7,u8,u9,u10,u11,u12,rfl,hc⟩:=hI;have e:∀j,j≠1->(L.setIfInBounds 1 true).getD j false=L.getD j false:=fun j hj=>getD_set_ne false (Ne.symm hj)
 have k8:∀j,L.getD j false=true->(L.setIfInBounds 1 true).getD j false=true:=fun j hj=>getD_set_true hj
 refine ZK (WE (P:=prog) 48 (.tmp 1) hop w.heap.size rfl (Zq fA) (hX.below hc.b) underlying48 rfl ZN) ?_;rw[hd];exact⟨u2,u3,u7,u8,.agg (Zq fA),u10,u11,u12,rfl,⟨hc.b,fun h h7=>hc.f0 (by rwa [e 0 (by decide)] at h) (by rwa [e 7 (by decide)] at h7),fun _=>rfl,fun h h7=>hc.f2 (by rwa [e 2 (by decide)] at h) (by rwa [e 7 (by decide)] at h7),fun h=>hc.f3 (by rwa [e 3 (by decide)] at h),fun h=>hc.f4 (by rwa [e 4 (by decide)] at h),fun h=>hc.f5 (by rwa [e 5 (by decide)] at h),fun h=>by obtain⟨b,cs,q1,q2,q3,q4,q5⟩:=hc.f6 (by rwa [e 6 (by decide)] at h);exact⟨b,cs,q1,q2,q3,q4,fun h7=>q5 (by rwa [e 7 (by decide)] at h7)⟩,fun h=>by obtain⟨k0,k2,k3,k4,k6⟩:=hc.f7 (by rwa [e 7 (by decide)] at h);exact⟨k8 0 k0,k8 2 k2,k8 3 k3,k8 4 k4,k8 6 k6⟩,fun h=>hc.f8 (by rwa [e 8 (by decide)] at h),fun h=>k8 5 (hc.f9 (by rwa [e 8 (by decide)] at h))⟩⟩
theorem as2 (hG:GE w1) (hw0:ZV o 0) (hw1:ZV o 1) (hrun:∀(a:Act) (w':World) (u v:Value),a.eval (.tmp 8)=u->a.eval (.tmp 9)=v->(execOp a.eval o).run prog w'=.ok (.enter 35 #[u,v,Zi 1]) w') (hd:o.dst=some 10):TR w w1 o 2:=by
 intro L a w' hI hi hl;obtain⟨u2,u3,u7,u8,u9,u10,u11,u12,rfl,hc⟩:=hI;have e:∀j,j≠2->(L.setIfInBounds 2 true).getD j false=L.getD j false:=fun j hj=>getD_set_ne false (Ne.symm hj)
 have k8:∀j,L.getD j false=true->(L.setIfInBounds 2 true).getD j false=true:=fun j hj=>getD_set_true hj
 have h7:L.getD 7 false=false:=by
  cases hx:L.getD 7 false with
  | false=>rfl
  | true=>have:=(hc.f7 hx).2.1;rw[Yu hi] at this;cases this
 obtain⟨b,q1,q2⟩:=hc.f0 (hl 0 hw0) h7;have hr:=hrun (FRa w u2 u3 u7 u8 u9 u10 u11 u12) w' _ _ q1 (hc.f1 (hl 1 hw1));refine YI hr ?_;refine (ZcY (hG.below hc.b) q2).mono ?_;rintro ex w2 ⟨u,rfl,hB,hM⟩;refine⟨u,rfl,?_⟩;rw[hd];exact⟨u2,u3,u7,u8,u9,u,u11,u12,rfl,⟨bto hc.b hB,fun h h7=>(hc.f0 (by rwa [e 0 (by decide)] at h) (by rwa [e 7 (by decide)] at h7)).below hB,fun h=>hc.f1 (by rwa [e 1 (by decide)] at h),fun _ _=>hM,fun h=>(hc.f3 (by rwa [e 3 (by decide)] at h)).below hB,fun h=>(hc.f4 (by rwa [e 4 (by decide)] at h)).below hB,fun h=>hc.f5 (by rwa [e 5 (by decide)] at h),fun h=>by obtain⟨b,cs,q1,q2,q3,q4,q5⟩:=hc.f6 (by rwa [e 6 (by decide)] at h);exact⟨b,cs,q1,q2,Zv q3 hB,q4,fun h7=>q5 (by rwa [e 7 (by decide)] at h7)⟩,fun h=>by obtain⟨k0,k2,k3,k4,k6⟩:=hc.f7 (by rwa [e 7 (by decide)] at h);exact⟨k8 0 k0,k8 2 k2,k8 3 k3,k8 4 k4,k8 6 k6⟩,fun h=>hc.f8 (by rwa [e 8 (by decide)] at h),fun h=>k8 5 (hc.f9 (by rwa [e 8 (by decide)] at h))⟩⟩
theorem as3 (hw2:ZV o 2) (hrun:∀(a:Act) (w':World) (v:Value),a.eval (.tmp 10)=v->(execOp a.eval o).run prog w'=.ok (.value v) w') (hd:o.dst=some 7):TR w w1 o 3:=by
 intro L a w' hI hi hl;obtain⟨u2,u3,u7,u8,u9,u10,u11,u12,rfl,hc⟩:=hI;have e:∀j,j≠3->(L.setIfInBounds 3 true).getD j false=L.getD j false:=fun j hj=>getD_set_ne false (Ne.symm hj)
 have k8:∀j,L.getD j false=true->(L.setIfInBounds 3 true).getD j false=true:=fun j hj=>getD_set_true hj
 have h7:L.getD 7 false=false:=by
  cases hx:L.getD 7 false with
  | false=>rfl
  | true=>have:=(hc.f7 hx).2.2.1;rw[Yu hi] at this;cases this
 refine ZK (hrun _ w' _ rfl) ?_;rw[hd];exact⟨u2,u3,u10,u8,u9,u10,u11,u12,rfl,⟨hc.b,fun h h7=>hc.f0 (by rwa [e 0 (by decide)] at h) (by rwa [e 7 (by decide)] at h7),fun h=>hc.f1 (by rwa [e 1 (by decide)] at h),fun h h7=>hc.f2 (by rwa [e 2 (by decide)] at h) (by rwa [e 7 (by decide)] at h7),fun _=>hc.f2 (hl 2 hw2) h7,fun h=>hc.f4 (by rwa [e 4 (by decide)] at h),fun h=>hc.f5 (by rwa [e 5 (by decide)] at h),fun h=>by obtain⟨b,cs,q1,q2,q3,q4,q5⟩:=hc.f6 (by rwa [e 6 (by decide)] at h);exact⟨b,cs,q1,q2,q3,q4,fun h7=>q5 (by rwa [e 7 (by decide)] at h7)⟩,fun h=>by obtain⟨k0,k2,k3,k4,k6⟩:=hc.f7 (by rwa [e 7 (by decide)] at h);exact⟨k8 0 k0,k8 2 k2,k8 3 k3,k8 4 k4,k8 6 k6⟩,fun h=>hc.f8 (by rwa [e 8 (by decide)] at h),fun h=>k8 5 (hc.f9 (by rwa [e 8 (by decide)] at h))⟩⟩
theorem as4 (hw3:ZV o 3) (hrun:∀(a:Act) (w':World) (v b:Value),a.eval (.tmp 7)=.tuple #[v,b]->(execOp a.eval o).run prog w'=.ok (.value v) w') (hd:o.dst=some 11):TR w w1 o 4:=by
 intro L a w' hI hi hl;obtain⟨u2,u3,u7,u8,u9,u10,u11,u12,rfl,hc⟩:=hI;have e:∀j,j≠4->(L.setIfInBounds 4 true).getD j false=L.getD j false:=fun j hj=>getD_set_ne false (Ne.symm hj)
 have k8:∀j,L.getD j false=true->(L.setIfInBounds 4 true).getD j false=true:=fun j hj=>getD_set_true hj
 have h7:L.getD 7 false=false:=by
  cases hx:L.getD 7 false with
  | false=>rfl
  | true=>have:=(hc.f7 hx).2.2.2.1;rw[Yu hi] at this;cases this
 obtain⟨r,v1,v2,q1,q2,q3,q4⟩:=hc.f3 (hl 3 hw3);refine ZK (hrun _ w' _ _ q1) ?_;rw[hd];exact⟨u2,u3,u7,u8,u9,u10,.agg #[r,v1,v2,.slice none 0 0],u12,rfl,⟨hc.b,fun h h7=>hc.f0 (by rwa [e 0 (by decide)] at h) (by rwa [e 7 (by decide)] at h7),fun h=>hc.f1 (by rwa [e 1 (by decide)] at h),fun h h7=>hc.f2 (by rwa [e 2 (by decide)] at h) (by rwa [e 7 (by decide)] at h7),fun h=>hc.f3 (by rwa [e 3 (by decide)] at h),fun _=>⟨r,v1,v2,rfl,q2,q3,q4⟩,fun h=>hc.f5 (by rwa [e 5 (by decide)] at h),fun h=>by obtain⟨b,cs,r1,r2,r3,r4,r5⟩:=hc.f6 (by rwa [e 6 (by decide)] at h);exact⟨b,cs,r1,r2,r3,r4,fun h9=>(by rw[e 7 (by decide),h7] at h9;cases h9)⟩,fun h=>by obtain⟨k0,k2,k3,k4,k6⟩:=hc.f7 (by rwa [e 7 (by decide)] at h);exact⟨k8 0 k0,k8 2 k2,k8 3 k3,k8 4 k4,k8 6 k6⟩,fun h=>hc.f8 (by rwa [e 8 (by decide)] at h),fun h=>k8 5 (hc.f9 (by rwa [e 8 (by decide)] at h))⟩⟩
theorem as5 (hw3:ZV o 3) (hrun:∀(a:Act) (w':World) (v b:Value),a.eval (.tmp 7)=.tuple #[v,b]->(execOp a.eval o).run prog w'=.ok (.value b) w') (hd:o.dst=some 12):TR w w1 o 5:=by
 intro L a w' hI hi hl;obtain⟨u2,u3,u7,u8,u9,u10,u11,u12,rfl,hc⟩:=hI;have e:∀j,j≠5->(L.setIfInBounds 5 true).getD j false=L.getD j false:=fun j hj=>getD_set_ne false (Ne.symm hj)
 have k8:∀j,L.getD j false=true->(L.setIfInBounds 5 true).getD j false=true:=fun j hj=>getD_set_true hj
 obtain⟨r,v1,v2,q1,q2,q3,q4⟩:=hc.f3 (hl 3 hw3);refine ZK (hrun _ w' _ _ q1) ?_;rw[hd];exact⟨u2,u3,u7,u8,u9,u10,u11,Zi 0,rfl,⟨hc.b,fun h h7=>hc.f0 (by rwa [e 0 (by decide)] at h) (by rwa [e 7 (by decide)] at h7),fun h=>hc.f1 (by rwa [e 1 (by decide)] at h),fun h h7=>hc.f2 (by rwa [e 2 (by decide)] at h) (by rwa [e 7 (by decide)] at h7),fun h=>hc.f3 (by rwa [e 3 (by decide)] at h),fun h=>hc.f4 (by rwa [e 4 (by decide)] at h),fun _=>rfl,fun h=>by obtain⟨b,cs,q1,q2,q3,q4,q5⟩:=hc.f6 (by rwa [e 6 (by decide)] at h);exact⟨b,cs,q1,q2,q3,q4,fun h7=>q5 (by rwa [e 7 (by decide)] at h7)⟩,fun h=>by obtain⟨k0,k2,k3,k4,k6⟩:=hc.f7 (by rwa [e 7 (by decide)] at h);exact⟨k8 0 k0,k8 2 k2,k8 3 k3,k8 4 k4,k8 6 k6⟩,fun h=>(by have h9:=hc.f9 (by rwa [e 8 (by decide)] at h);rw[Yu hi] at h9;cases h9),fun h=>k8 5 (hc.f9 (by rwa [e 8 (by decide)] at h))⟩⟩
theorem as6 (hrun:∀(a:Act) (w':World),(execOp a.eval o).run prog w'=.ok (.value (.pointer (some ⟨w'.heap.size,0,none⟩))) (w'.alloc (.cells #[.slice none 0 0,.slice none 0 0,.slice none 0 0,.slice none 0 0] 60))) (hd:o.dst=some 2):TR w w1 o 6:=by
 intro L a w' hI hi hl;obtain⟨u2,u3,u7,u8,u9,u10,u11,u12,rfl,hc⟩:=hI;have e:∀j,j≠6->(L.setIfInBounds 6 true).getD j false=L.getD j false:=fun j hj=>getD_set_ne false (Ne.symm hj)
 have k8:∀j,L.getD j false=true->(L.setIfInBounds 6 true).getD j false=true:=fun j hj=>getD_set_true hj
 have hB:=Zh w' (.cells #[.slice none 0 0,.slice none 0 0,.slice none 0 0,.slice none 0 0] 60);have h7:L.getD 7 false=false:=by
  cases hx:L.getD 7 false with
  | false=>rfl
  | true=>have:=(hc.f7 hx).2.2.2.2;rw[Yu hi] at this;cases this
 refine ZK (hrun _ w') ?_;rw[hd];exact⟨.pointer (some ⟨w'.heap.size,0,none⟩),u3,u7,u8,u9,u10,u11,u12,rfl,⟨bto hc.b hB,fun h h7=>(hc.f0 (by rwa [e 0 (by decide)] at h) (by rwa [e 7 (by decide)] at h7)).below hB,fun h=>hc.f1 (by rwa [e 1 (by decide)] at h),fun h h7=>(hc.f2 (by rwa [e 2 (by decide)] at h) (by rwa [e 7 (by decide)] at h7)).below hB,fun h=>(hc.f3 (by rwa [e 3 (by decide)] at h)).below hB,fun h=>(hc.f4 (by rwa [e 4 (by decide)] at h)).below hB,fun h=>hc.f5 (by rwa [e 5 (by decide)] at h),fun _=>⟨w'.heap.size,_,rfl,hc.b.size,ZJ w' _,rfl,fun h9=>by rw[e 7 (by decide),h7] at h9;cases h9⟩,fun h=>by obtain⟨k0,k2,k3,k4,k6⟩:=hc.f7 (by rwa [e 7 (by decide)] at h);exact⟨k8 0 k0,k8 2 k2,k8 3 k3,k8 4 k4,k8 6 k6⟩,fun h=>hc.f8 (by rwa [e 8 (by decide)] at h),fun h=>k8 5 (hc.f9 (by rwa [e 8 (by decide)] at h))⟩⟩
theorem as7 (hw0:ZV o 0) (hw2:ZV o 2) (hw3:ZV o 3) (hw4:ZV o 4) (hw6:ZV o 6) (hop:o.op=.store 60 (.tmp 2) (.tmp 11)) (hd:o.dst=none) (hI:(prog.info? 60).map (·.size)=some 4):TR w w1 o 7:=by
 intro L a w' hI hi hl;obtain⟨u2,u3,u7,u8,u9,u10,u11,u12,rfl,hc⟩:=hI;have e:∀j,j≠7->(L.setIfInBounds 7 true).getD j false=L.getD j false:=fun j hj=>getD_set_ne false (Ne.symm hj)
 have k8:∀j,L.getD j false=true->(L.setIfInBounds 7 true).getD j false=true:=fun j hj=>getD_set_true hj
 obtain⟨b,cs,q1,q2,q3,q4,-⟩:=hc.f6 (hl 6 hw6);obtain⟨r,v1,v2,r1,r2,r3,r4⟩:=hc.f4 (hl 4 hw4)
 have hone:(#[r,v1,v2,.slice none 0 0]:Array Value).all (·.oneCell')=true:=all_oneCell_toArray (cs:=[r,v1,v2,.slice none 0 0]) (fun v hv=>by
  simp only[List.mem_cons,List.not_mem_nil,or_false] at hv;rcases hv with rfl|rfl|rfl|rfl
  ·exact r2
  ·obtain⟨g,cap,cur,rfl,-⟩:=r4;rfl
  ·exact r3
  ·rfl)
 have hrun:=run_storeVar_row (P:=prog) w' b 60 60 cs #[r,v1,v2,.slice none 0 0] q3 hI q4 hone;have hx:∀k,k≠b->(w'.setRow b #[r,v1,v2,.slice none 0 0]).heap[k]?=w'.heap[k]?:=fun k hk=>setRow_other w' b k _ hk
 have hB:Below w1.heap.size w1 (w'.setRow b #[r,v1,v2,.slice none 0 0]):=⟨hc.b.os,hc.b.tape,hc.b.output,Nt hc.b.size (by simp[World.setRow]),fun c hlt=>(hx c (by omega)).trans (hc.b.block c hlt)⟩
 have hself:(L.setIfInBounds 7 true).getD 7 false=true:=by
  by_cases hlt:7<L.size
  ·rw[Array.getD_eq_getD_getElem?,Array.getElem?_setIfInBounds,if_pos rfl,if_pos hlt];rfl
  ·rw[Array.getD_eq_getD_getElem?,Array.getElem?_eq_none (by omega)] at hi
   cases hi
 refine UA (w':=w'.setRow b #[r,v1,v2,.slice none 0 0]) ?_ ?_
 ·have hx2:(FRa w u2 u3 u7 u8 u9 u10 u11 u12).eval (.tmp 2)=.pointer (some ⟨b,0,none⟩):=q1;have hy:(FRa w u2 u3 u7 u8 u9 u10 u11 u12).eval (.tmp 11)=.agg #[r,v1,v2,.slice none 0 0]:=r1;unfold execOp;simp only[hop,hx2,hy,Instr.storeAt,Instr.sureAddr,Sem.run_bind,Sem.run_pure,Result.andThen_ok,hrun]
 rw[hd];exact⟨u2,u3,u7,u8,u9,u10,u11,u12,rfl,⟨hB,fun _ h7=>(by rw[hself] at h7;cases h7),fun h=>hc.f1 (by rwa [e 1 (by decide)] at h),fun _ h7=>(by rw[hself] at h7;cases h7),fun h=>(hc.f3 (by rwa [e 3 (by decide)] at h)).oth q3 hx,fun h=>(hc.f4 (by rwa [e 4 (by decide)] at h)).oth q3 hx,fun h=>hc.f5 (by rwa [e 5 (by decide)] at h),fun _=>⟨b,_,q1,q2,setRow_heap w' b cs _ 60 (0,0) q3,rfl,fun _=>r1⟩,fun _=>⟨k8 0 (hl 0 hw0),k8 2 (hl 2 hw2),k8 3 (hl 3 hw3),k8 4 (hl 4 hw4),k8 6 (hl 6 hw6)⟩,fun h=>hc.f8 (by rwa [e 8 (by decide)] at h),fun h=>k8 5 (hc.f9 (by rwa [e 8 (by decide)] at h))⟩⟩
theorem as8 (hw5:ZV o 5) (hrun:∀(a:Act) (w':World) (v:Value),a.eval (.tmp 12)=v->(execOp a.eval o).run prog w'=.ok (.value v) w') (hd:o.dst=some 3):TR w w1 o 8:=by
 intro L a w' hI hi hl;obtain⟨u2,u3,u7,u8,u9,u10,u11,u12,rfl,hc⟩:=hI;have e:∀j,j≠8->(L.setIfInBounds 8 true).getD j false=L.getD j false:=fun j hj=>getD_set_ne false (Ne.symm hj)
 have k8:∀j,L.getD j false=true->(L.setIfInBounds 8 true).getD j false=true:=fun j hj=>getD_set_true hj
 refine ZK (hrun _ w' _ rfl) ?_;rw[hd];exact⟨u2,u12,u7,u8,u9,u10,u11,u12,rfl,⟨hc.b,fun h h7=>hc.f0 (by rwa [e 0 (by decide)] at h) (by rwa [e 7 (by decide)] at h7),fun h=>hc.f1 (by rwa [e 1 (by decide)] at h),fun h h7=>hc.f2 (by rwa [e 2 (by decide)] at h) (by rwa [e 7 (by decide)] at h7),fun h=>hc.f3 (by rwa [e 3 (by decide)] at h),fun h=>hc.f4 (by rwa [e 4 (by decide)] at h),fun h=>hc.f5 (by rwa [e 5 (by decide)] at h),fun h=>by obtain⟨b,cs,q1,q2,q3,q4,q5⟩:=hc.f6 (by rwa [e 6 (by decide)] at h);exact⟨b,cs,q1,q2,q3,q4,fun h7=>q5 (by rwa [e 7 (by decide)] at h7)⟩,fun h=>by obtain⟨k0,k2,k3,k4,k6⟩:=hc.f7 (by rwa [e 7 (by decide)] at h);exact⟨k8 0 k0,k8 2 k2,k8 3 k3,k8 4 k4,k8 6 k6⟩,fun _=>rfl,fun _=>k8 5 (hl 5 hw5)⟩⟩
end
theorem MV {id:Nat} {Q:Exit->Act->World->Prop} {w w1:World} {a:Act} {L:List Oper} (hm:prog.follows .mixedOrders=true) (hg:L.all (fun o=>o.guard.isNone)=true)
  (hbk:((List.range L.length).all fun i=>(L.getD i default).after.toList.all fun e=>!Region.binds .any e||decide (e.on<i))=true) (hl:L.length=9) (ha:a=FRa w undef undef undef undef undef undef undef undef)
  (hstep:VP (TR w w1) L 0)
  (hend:∀(u2 u3 u7 u8 u9 u10 u11 u12:Value) (w':World),Below w1.heap.size w1 w'->(∃b r v1 v2,u2=.pointer (some ⟨b,0,none⟩)/\w1.heap.size<=b/\w'.heap[b]?=some (.cells #[r,v1,v2,.slice none 0 0] 60 (0,0))/\GaQ w' v1)->u3=Zi 0->Q .normal (FRa w u2 u3 u7 u8 u9 u10 u11 u12) w'):(Code.region id L.toArray true).wp prog Q a w1:=by
 refine U7 (I:=AI w w1) hm hg hbk (by rw[ha];exact BM w w1 _) (fun listed a' w' hall hI=>?_) hstep
 obtain⟨u2,u3,u7,u8,u9,u10,u11,u12,rfl,hc⟩:=hI;have h:∀j,j<9->listed.getD j false=true:=fun j hj=>hall j (by omega)
 obtain⟨b,cs,q1,q2,q3,q4,q5⟩:=hc.f6 (h 6 (by decide))
 obtain⟨r,v1,v2,r1,r2,r3,r4⟩:=hc.f4 (h 4 (by decide))
 have hu:=q5 (h 7 (by decide))
 rw[r1] at hu;injection hu with hu
 subst hu;exact hend u2 u3 u7 u8 u9 u10 u11 u12 w' hc.b ⟨b,r,v1,v2,q1,q2,q3,r4⟩ ((hc.f8 (h 8 (by decide))).trans (hc.f5 (h 5 (by decide))))
def awP:List Pnt:=[⟨1,[49,48,48],[]⟩,⟨2,[49,49,48],[]⟩]
theorem Zcc:Wn awP=0:=by decide +kernel
theorem ZaO:ET awP=.tuple #[.agg #[.string ⟨#[49]⟩,.string ⟨#[49,48]⟩],Zi 0]:=by
 have e1:YN 1 (Wo (pts awP))-1=Rat.divInt 1 10:=by decide +kernel
 have e2:fN (Rat.divInt 1 10)=[49]:=by decide +kernel
 have e3:fD (Rat.divInt 1 10)=[49,48]:=by decide +kernel
 unfold ET;rw[if_neg (fun h=>h Zcc),e1,e2,e3]
theorem PX:WQ 9 #[] (.bool true):=fun w hG=>by
 have hb1:=Zh w (.cells #[Zj,Zi 0,.bool false,Zi 0,Zi 0,Zj,Zj,Zj,Zj,Zj,Zj,Zj,Zj,Zj,Zj,Zj,Zj,Zj,.slice none 0 0,.slice none 0 0,Zi 0] 48);have h1:=ZJ w (.cells #[Zj,Zi 0,.bool false,Zi 0,Zi 0,Zj,Zj,Zj,Zj,Zj,Zj,Zj,Zj,Zj,Zj,Zj,Zj,Zj,.slice none 0 0,.slice none 0 0,Zi 0] 48);obtain⟨h2,hT⟩:=Ky (cs:=Zq fA) h1 rfl;have HTH:=Lh h2;have HI:Hid ((prog.info? 48).map (·.size)=some (Zq fA).size):=ZN
 have HM:Hid ((Zq fA).all (·.oneCell')=true):=by
  show _=_;decide +kernel
 obtain⟨W1,hW1⟩:∃W1,W1=(w.alloc (.cells #[Zj,Zi 0,.bool false,Zi 0,Zi 0,Zj,Zj,Zj,Zj,Zj,Zj,Zj,Zj,Zj,Zj,Zj,Zj,Zj,.slice none 0 0,.slice none 0 0,Zi 0] 48)).setCells w.heap.size 0 (Zq fA).toList:=⟨_,rfl⟩
 rw[<-hW1] at hT;have HW1:=Lh hW1;have HB1:Hid (Below w.heap.size w W1):=by rw[hW1];exact Lib.below_setCells _ (Nl _) _ _ hb1
 have HX1:Hid (Blk W1 w.heap.size (Zq fA)):=⟨_,hT.new⟩;clear hb1 h1 h2 hT hW1;go_enter func9,ntmps9
 go_wp2_with (first
  | (refine O2 rfl 48 _ rfl (.agg (Zq fA)) (by go_simp;first|done|rfl|rfl) ?_)
  | (refine wpList_store_mid rfl 48 (.tmp 1) (.tmp 6) rfl w.heap.size 0 (Zq fA) rfl rfl HTH.out HI.out HM.out ?_;rw[<-HW1.out]))
 refine MV (w:=w) (by kernel_rfl) (by kernel_rfl) (by kernel_rfl) rfl rfl ?_ ?_
 ·refine⟨as0 (fun a w'=>by go_simp;first|done|rfl) rfl,?_⟩
  refine⟨as1 HX1.out rfl rfl,?_⟩;refine⟨as2 (hG.below HB1.out) (Zl rfl) (Zl rfl) (fun a w' u v h1 h2=>by have g1:=toD h1;have g2:=toD h2;clear h1 h2;go_simp;first|done|rfl) rfl,?_⟩
  refine⟨as3 (Zl rfl) (fun a w' v h1=>by have g1:=toD h1;clear h1;go_simp;first|done|rfl) rfl,?_⟩
  refine⟨as4 (Zl rfl) (fun a w' v b h1=>by have g1:=toD h1;clear h1;go_simp;first|done|rfl) rfl,?_⟩
  refine⟨as5 (Zl rfl) (fun a w' v b h1=>by have g1:=toD h1;clear h1;go_simp;first|done|rfl) rfl,?_⟩
  refine⟨as6 (fun a w'=>by go_simp;first|done|rfl) rfl,?_⟩
  refine⟨as7 (Zl rfl) (Zl rfl) (Zl rfl) (Zl rfl) (Zl rfl) rfl rfl (by kernel_rfl),?_⟩
  exact⟨as8 (Zl rfl) (fun a w' v h1=>by have g1:=toD h1;clear h1;go_simp;first|done|rfl) rfl,trivial⟩
 intro u2 u3 u7 u8 u9 u10 u11 u12 w2 hb2 hres hu3;obtain⟨b,r,v1,v2,rfl,hbb,hrb,hga⟩:=hres;subst hu3;have HB2:=Lh (bto HB1.out hb2);have HRB:=Lh hrb;have HGA:=Lh hga;clear hb2 hbb hrb hga HB1 HX1 HTH HW1;unfold FRa;have hb3:=Zh w2 (.cells #[Zi 1,.string ⟨#[49,48,48]⟩,Zj,Zi 2,.string ⟨#[49,49,48]⟩,Zj] 98);have h3:=ZJ w2 (.cells #[Zi 1,.string ⟨#[49,48,48]⟩,Zj,Zi 2,.string ⟨#[49,49,48]⟩,Zj] 98);obtain⟨w3,hw3⟩:∃w3,w3=w2.alloc (.cells #[Zi 1,.string ⟨#[49,48,48]⟩,Zj,Zi 2,.string ⟨#[49,49,48]⟩,Zj] 98):=⟨_,rfl⟩
 rw[<-hw3] at hb3 h3;have HQ:QL w3 (some ⟨w2.heap.size,0,none⟩) awP 2:=by
  refine⟨rfl,by decide,.inl (by decide),by decide,fun i t ht=>?_⟩
  have hi:=(Lg.1 ht).1;have hi:i=0∨i=1:=by simp[awP] at hi;omega
  rcases hi with rfl|rfl
  ·simp[awP] at ht;subst ht;exact⟨w2.heap.size,0,rfl,(Ag.1 h3).1,Zk h3 0,Zk h3 1,Zk h3 2⟩
  ·simp[awP] at ht;subst ht;exact⟨w2.heap.size,0,rfl,(Ag.1 h3).1,Zk h3 3,Zk h3 4,Zk h3 5⟩
 have HB3:=Lh (bto HB2.out hb3);have CR0:=EU (hG.below HB3.out).g HQ 2;rw[ZaO] at CR0;have CR:=Lh (CR0 w3 (Below.refl _ _));clear CR0;have HW3:=Lh hw3;have HRB3:=Lh (Zv HRB.out hb3);have HGA3:=Lh (HGA.out.below hb3);clear hb3 h3 hw3 HQ HRB HGA HB2;go_wp2_with fail;rw[<-HW3.out]
 refine CR.out.mono ?_
 rintro e w4 ⟨rfl,hb4⟩;have hga4:=HGA3.out.below hb4;have hrb4:=Zv HRB3.out hb4;have HB4:=Lh (bto HB3.out hb4);have hb5:=Zh w4 (.cells #[Zj,Zj] 34);have h5:=ZJ w4 (.cells #[Zj,Zj] 34);obtain⟨t5,hT5⟩:=Ky (cs:=#[.string ⟨#[49]⟩,.string ⟨#[49,48]⟩]) h5 rfl;have HTF:=Lh t5;have HIF:Hid ((prog.info? 34).map (·.size)=some (#[.string ⟨#[49]⟩,.string ⟨#[49,48]⟩]:Array Value).size):=by
  show _=_
  kernel_rfl
 have HMF:Hid ((#[.string ⟨#[49]⟩,.string ⟨#[49,48]⟩]:Array Value).all (·.oneCell')=true):=by
  show _=_;decide +kernel
 obtain⟨W5,hW5⟩:∃W5,W5=(w4.alloc (.cells #[Zj,Zj] 34)).setCells w4.heap.size 0 (#[.string ⟨#[49]⟩,.string ⟨#[49,48]⟩]:Array Value).toList:=⟨_,rfl⟩
 rw[<-hW5] at hT5;have HW5:=Lh hW5;have HB5:Hid (Below w.heap.size w W5):=by rw[hW5];exact Lib.below_setCells _ (by have:=HB4.out.size;omega) _ _ (bto HB4.out hb5)
 have hrb5:W5.heap[b]?=some (.cells #[r,v1,v2,.slice none 0 0] 60 (0,0)):=(hT5.old b (by have:=(Ag.1 hrb4).1;omega)).trans (Zv hrb4 hb5)
 have hga5:GaQ W5 v1:=by
  obtain⟨g,cap,cur,e1,e2,e3⟩:=hga4;exact⟨g,cap,cur,e1,(hT5.old g (by have:=(Ag.1 e2).1;omega)).trans (Zv e2 hb5),e3⟩
 obtain⟨g,cap,rfl,qb,qc,qd⟩:=hga5.at;have qa:W5.cell? ⟨b,1,none⟩=some (.slice (some ⟨g,0,none⟩) 2 cap):=Zk hrb5 1;have qe:W5.cell? ⟨w4.heap.size,0,none⟩=some (.string ⟨#[49]⟩):=Zk hT5.new 0;have qf:W5.cell? ⟨w4.heap.size,1,none⟩=some (.string ⟨#[49,48]⟩):=Zk hT5.new 1;clear hb5 h5 t5 hT5 hW5 hrb4 hga4 hrb5 hga5 CR HW3 HRB3 HGA3 HB3 HB4 hb4;go_wp2_with (refine wpList_store_mid rfl 34 (.tmp 4) (.tmp 18) rfl w4.heap.size 0 #[.string ⟨#[49]⟩,.string ⟨#[49,48]⟩] rfl rfl HTF.out HIF.out HMF.out ?_;rw[<-HW5.out]);go_ret;exact⟨rfl,HB5.out⟩
abbrev Fp2:=List UInt8×List UInt8
def BN (w:World) (A:Option Addr) (rs:List Fp2):Prop:=∀(i:Nat) (r:Fp2),rs[i]?=some r->∃b o,A=some ⟨b,o,none⟩/\b<w.heap.size/\w.cell? ⟨b,o+i*2,none⟩=some (.string ⟨List.toArray r.1⟩)/\w.cell? ⟨b,o+i*2+1,none⟩=some (.string ⟨List.toArray r.2⟩)
theorem BN.below {w w':World} {A:Option Addr} {rs:List Fp2} (h:BN w A rs) (hb:Below w.heap.size w w'):BN w' A rs:=fun i t ht=>by
 obtain⟨b,o,hA,hl,h0,h1⟩:=h i t ht;exact⟨b,o,hA,Nat.lt_of_lt_of_le hl hb.size,(hb.cell (p:=⟨b,_,none⟩) hl).trans h0,(hb.cell (p:=⟨b,_,none⟩) hl).trans h1⟩
def Vo (l l':List UInt8):Bool:=decide ((13:Int)<(l.length:Int))||decide ((13:Int)<(l'.length:Int))
theorem Zcd {A:Option Addr} {rs:List Fp2} {n:Nat} (c:Nat) {w:World} (hn:rs.length=n) (hn2:n<=1000000000) (h:BN w A rs) :
  Calls prog 180 #[.slice A n c] w fun e w'=>e=.returned (.bool (rs.any fun r=>Vo r.1 r.2))/\Below w.heap.size w w':=by
 have HV:Hid ((rs.any fun r=>Vo r.1 r.2)=((rs.drop 0).any fun r=>Vo r.1 r.2)):=rfl
 generalize (rs.any fun r=>Vo r.1 r.2)=R at *
 have HX:=Lh h;have HN:=Lh hn;clear h hn;go_enter func180,ntmps180;go_wp2_with fail
 go_loopw [3] (fun iv wr=>∃k:Nat,k<=n/\iv=Zi (k:Int)/\Hid (R=((rs.drop k).any fun r=>Vo r.1 r.2))/\Below w.heap.size w wr) (fun iv _=>n-(intOf iv).toNat)
 case atStart=>exact⟨0,Nat.zero_le _,rfl,HV,Below.refl _ _⟩
 case round=>
  clear HV;obtain⟨k,hk,rfl,HK,hbk⟩:=hrel
  by_cases hlt:k<n
  ·obtain⟨x,hx⟩:∃x,rs[k]?=some x:=⟨_,List.getElem?_eq_getElem (by rw[HN.out];omega)⟩
   obtain⟨b,o,rfl,hbs,p0,p1⟩:=(HX.out.below hbk) k x hx;have HD:Hid (((rs.drop k).any fun r=>Vo r.1 r.2)=(Vo x.1 x.2||(rs.drop (k+1)).any fun r=>Vo r.1 r.2)):=by
    obtain⟨hk',rfl⟩:=Lg.1 hx;show _=_;rw[List.drop_eq_getElem_cons hk',List.any_cons]
   have e1:decide ((k:Int)<(n:Int))=true:=Dt (by omega)
   clear hx;cases a1:decide ((13:Int)<(x.1.length:Int)) with
   | true=>
    have HV3:Hid (R=true):=by show _=_;rw[HK.out,HD.out];unfold Vo;rw[a1,Bool.true_or,Bool.true_or]
    clear HK HD;go_wp2;go_ret;exact⟨ZR HV3.out.symm,hbk⟩
   | false=>
   cases a2:decide ((13:Int)<(x.2.length:Int)) with
   | true=>
    have HV3:Hid (R=true):=by show _=_;rw[HK.out,HD.out];unfold Vo;rw[a1,a2,Bool.false_or,Bool.true_or]
    clear HK HD;go_wp2;go_ret;exact⟨ZR HV3.out.symm,hbk⟩
   | false=>
    have HV3:Hid (R=((rs.drop (k+1)).any fun r=>Vo r.1 r.2)):=by
     show _=_;rw[HK.out,HD.out];have e:Vo x.1 x.2=false:=by unfold Vo;rw[a1,a2];rfl
     rw[e,Bool.false_or]
    clear HK HD;go_wp2;go_roundw
    case rel=>exact⟨k+1,by omega,by go_num,HV3,hbk⟩
    case measure=>simp[intOf];omega
  ·have HV3:Hid (R=false):=by show _=_;rw[HK.out,List.drop_of_length_le (by rw[HN.out];omega)];rfl
   have e1:decide ((k:Int)<(n:Int))=false:=Df (by omega)
   clear HK;go_wp2;go_ret;exact⟨ZR HV3.out.symm,hbk⟩
theorem Zc0 (l l':List UInt8) (w:World):Calls prog 119 #[.agg #[Zg l,Zg l']] w fun e w'=>e=.returned (.bool (Vo l l'))/\Below w.heap.size w w':=by
 obtain⟨g1,g2,g3,g4⟩:=V9 w (.cells #[Zg l,Zg l'] 34) (.cells #[Zg l,Zg l'] 34);have hb1:=Zh w (.cells #[Zg l,Zg l'] 34);have x1:=Xa.new w (Zg l) (Zg l') 34;have q0:=x1.c0;have q1:=x1.c1;obtain⟨W,hW⟩:∃W,W=(w.alloc (.cells #[Zg l,Zg l'] 34)).alloc (.cells #[Zg l,Zg l'] 34):=⟨_,rfl⟩
 rw[<-hW] at g1 g2 g3 g4;have hat:BN W (some ⟨w.heap.size+1,0,none⟩) [(l,l')]:=fun i r hr=>by
  refine⟨_,_,rfl,(Ag.1 g2).1,?_⟩
  match i,hr with
  | 0,hr=>cases hr;exact⟨Zk g2 0,Zk g2 1⟩
  | i+1,hr=>cases hr
 have C1:=Zcd (n:=1) 1 rfl (by decide) hat
 have e:([(l,l')].any fun r=>Vo r.1 r.2)=Vo l l':=by simp
 rw[e] at C1;have CC:=Lh C1;have HW:=Lh hW;clear g1 g2 g4 hW hat C1 e x1 hb1;go_enter func119,ntmps119;go_wp2_with fail;rw[<-HW.out]
 refine CC.out.mono ?_
 rintro e w2 ⟨rfl,hb2⟩;clear CC q0 q1 HW;go_wp2;go_ret;exact⟨rfl,bto g3 hb2⟩
structure Il (f:Fct) (ps:List Pk) (os:List Opn):Prop where
 key:f.key.length<=24
 ins:f.ins.length<=24
 oth:f.oth.length<=24
 cur:f.cur.length<=24
 tgt:f.tgt.length<=24
 q:f.q.length<=13
 amt:f.amt.length<=13
 fee:f.fee.length<=13
 pn:f.pn.length<=13
 pd:f.pd.length<=13
 rn:f.rn.length<=13
 rd:f.rd.length<=13
 sn:f.sn.length<=13
 sd:f.sd.length<=13
 p:f.pN<=66
 o:f.oN<=10
 ps:∀p∈ps,p.lot.length<=30/\p.q.length<=13
 os:∀x∈os,x.oth.length<=24/\x.rn.length<=13/\x.rd.length<=13/\x.pn.length<=13/\x.pd.length<=13/\x.vn.length<=13/\x.vd.length<=13
theorem Tv {l l':List UInt8} (h:Vo l l'=false):l.length<=13/\l'.length<=13:=by
 unfold Vo at h;rw[Bool.or_eq_false_iff] at h
 have:=of_decide_eq_false h.1
 have:=of_decide_eq_false h.2
 omega
theorem BO {f:Fct} {ps:List Pk} {os:List Opn} {w:World} (hn:ps.length=f.pN) (hn2:f.pN<=9223372036854775807) (hp:XI w f.pA ps) (hm:os.length=f.oN) (hm2:f.oN<=9223372036854775807) (ho:Qa w f.oA os) :
  Calls prog 51 #[.agg (Zq f)] w fun e w'=>(∃R:Bool,e=.returned (.bool R)/\(R=false->Il f ps os))/\Below w.heap.size w w':=by
 have hb:=Zh w (.cells (Zq f) 48);have x0:Blk (w.alloc (.cells (Zq f) 48)) w.heap.size (Zq f):=Blk.new w (Zq f) 48;have X0:=Lh x0;have q0:(w.alloc (.cells (Zq f) 48)).cell? ⟨w.heap.size,0,none⟩=some (Zg f.key):=x0.c 0;have q5:(w.alloc (.cells (Zq f) 48)).cell? ⟨w.heap.size,5,none⟩=some (Zg f.ins):=x0.c 5;have q6:(w.alloc (.cells (Zq f) 48)).cell? ⟨w.heap.size,6,none⟩=some (Zg f.oth):=x0.c 6;have q7:(w.alloc (.cells (Zq f) 48)).cell? ⟨w.heap.size,7,none⟩=some (Zg f.cur):=x0.c 7;have q8:(w.alloc (.cells (Zq f) 48)).cell? ⟨w.heap.size,8,none⟩=some (Zg f.tgt):=x0.c 8;have q9:(w.alloc (.cells (Zq f) 48)).cell? ⟨w.heap.size,9,none⟩=some (Zg f.q):=x0.c 9;have q10:(w.alloc (.cells (Zq f) 48)).cell? ⟨w.heap.size,10,none⟩=some (Zg f.amt):=x0.c 10;have q11:(w.alloc (.cells (Zq f) 48)).cell? ⟨w.heap.size,11,none⟩=some (Zg f.fee):=x0.c 11;have q12:(w.alloc (.cells (Zq f) 48)).cell? ⟨w.heap.size,12,none⟩=some (Zg f.pn):=x0.c 12;have q13:(w.alloc (.cells (Zq f) 48)).cell? ⟨w.heap.size,13,none⟩=some (Zg f.pd):=x0.c 13;have q14:(w.alloc (.cells (Zq f) 48)).cell? ⟨w.heap.size,14,none⟩=some (Zg f.rn):=x0.c 14;have q15:(w.alloc (.cells (Zq f) 48)).cell? ⟨w.heap.size,15,none⟩=some (Zg f.rd):=x0.c 15;have q16:(w.alloc (.cells (Zq f) 48)).cell? ⟨w.heap.size,16,none⟩=some (Zg f.sn):=x0.c 16;have q17:(w.alloc (.cells (Zq f) 48)).cell? ⟨w.heap.size,17,none⟩=some (Zg f.sd):=x0.c 17;have HL:=Lh BF;have HQ:=Lh Zc0;have HP:=Lh hp;have HO:=Lh ho;have HN:=Lh hn;have HM:=Lh hm;clear x0 hp ho hn hm;cases e0:decide ((24:Int)<(f.key.length:Int)) with
 | true=>
  go_enter func51,ntmps51;go_wp2;go_ret;exact⟨⟨true,rfl,fun h=>(by cases h)⟩,hb⟩
 | false=>
 cases e1:decide ((24:Int)<(f.ins.length:Int)) with
 | true=>
  go_enter func51,ntmps51;go_wp2;go_ret;exact⟨⟨true,rfl,fun h=>(by cases h)⟩,hb⟩
 | false=>
 cases e2:decide ((24:Int)<(f.oth.length:Int)) with
 | true=>
  go_enter func51,ntmps51;go_wp2;go_ret;exact⟨⟨true,rfl,fun h=>(by cases h)⟩,hb⟩
 | false=>
 cases e3:decide ((24:Int)<(f.cur.length:Int)) with
 | true=>
  go_enter func51,ntmps51;go_wp2;go_ret;exact⟨⟨true,rfl,fun h=>(by cases h)⟩,hb⟩
 | false=>
 cases e4:decide ((24:Int)<(f.tgt.length:Int)) with
 | true=>
  go_enter func51,ntmps51;go_wp2;go_ret;exact⟨⟨true,rfl,fun h=>(by cases h)⟩,hb⟩
 | false=>
 go_enter func51,ntmps51;go_wp2_with fail
 refine (HL.out _ _).mono ?_
 rintro e w5 ⟨rfl,rfl⟩;cases e5:decide ((13:Int)<(f.q.length:Int)) with
 | true=>
  go_wp2;go_ret;exact⟨⟨true,rfl,fun h=>(by cases h)⟩,hb⟩
 | false=>
 go_wp2_with fail
 refine (HL.out _ _).mono ?_
 rintro e w6 ⟨rfl,rfl⟩;cases e6:decide ((13:Int)<(f.amt.length:Int)) with
 | true=>
  go_wp2;go_ret;exact⟨⟨true,rfl,fun h=>(by cases h)⟩,hb⟩
 | false=>
 go_wp2_with fail
 refine (HL.out _ _).mono ?_
 rintro e w7 ⟨rfl,rfl⟩;cases e7:decide ((13:Int)<(f.fee.length:Int)) with
 | true=>
  go_wp2;go_ret;exact⟨⟨true,rfl,fun h=>(by cases h)⟩,hb⟩
 | false=>
 go_wp2_with fail
 refine (HQ.out f.pn f.pd _).mono ?_
 rintro e w8 ⟨rfl,hb8⟩;replace X0:=Lh (X0.out.below hb8);replace hb:=bto hb hb8;clear hb8;replace q14:w8.cell? ⟨w.heap.size,14,none⟩=some (Zg f.rn):=X0.out.c 14;replace q15:w8.cell? ⟨w.heap.size,15,none⟩=some (Zg f.rd):=X0.out.c 15;cases e8:Vo f.pn f.pd with
 | true=>
  go_wp2;go_ret;exact⟨⟨true,rfl,fun h=>(by cases h)⟩,hb⟩
 | false=>
 go_wp2_with fail
 refine (HQ.out f.rn f.rd _).mono ?_
 rintro e w9 ⟨rfl,hb9⟩;replace X0:=Lh (X0.out.below hb9);replace hb:=bto hb hb9;clear hb9;replace q16:w9.cell? ⟨w.heap.size,16,none⟩=some (Zg f.sn):=X0.out.c 16;replace q17:w9.cell? ⟨w.heap.size,17,none⟩=some (Zg f.sd):=X0.out.c 17;cases e9:Vo f.rn f.rd with
 | true=>
  go_wp2;go_ret;exact⟨⟨true,rfl,fun h=>(by cases h)⟩,hb⟩
 | false=>
 go_wp2_with fail
 refine (HQ.out f.sn f.sd _).mono ?_
 rintro e w10 ⟨rfl,hb10⟩;replace X0:=Lh (X0.out.below hb10);replace hb:=bto hb hb10;clear hb10;cases e10:Vo f.sn f.sd with
 | true=>
  go_wp2;go_ret;exact⟨⟨true,rfl,fun h=>(by cases h)⟩,hb⟩
 | false=>
 have r15:w10.cell? ⟨w.heap.size,18,none⟩=some (.slice f.pA f.pN f.pC):=X0.out.c 18;have r16:w10.cell? ⟨w.heap.size,19,none⟩=some (.slice f.oA f.oN f.oC):=X0.out.c 19
 by_cases hcont:(f.pN<=4∨(64<f.pN/\f.pN<=66))/\(f.oN<=3∨(8<f.oN/\f.oN<=10))
 rotate_left
 ·have kn:(decide ((4:Int)<(f.pN:Int))=true/\decide ((f.pN:Int)<=64)=true)∨(decide ((4:Int)<(f.pN:Int))=true/\decide ((f.pN:Int)<=64)=false/\decide ((66:Int)<(f.pN:Int))=true)∨(decide ((4:Int)<(f.pN:Int))=false/\decide ((66:Int)<(f.pN:Int))=false/\decide ((3:Int)<(f.oN:Int))=true/\decide ((f.oN:Int)<=8)=true)∨(decide ((4:Int)<(f.pN:Int))=false/\decide ((66:Int)<(f.pN:Int))=false/\decide ((3:Int)<(f.oN:Int))=true/\decide ((f.oN:Int)<=8)=false/\decide ((10:Int)<(f.oN:Int))=true)∨(decide ((4:Int)<(f.pN:Int))=true/\decide ((f.pN:Int)<=64)=false/\decide ((66:Int)<(f.pN:Int))=false/\decide ((3:Int)<(f.oN:Int))=true/\decide ((f.oN:Int)<=8)=true)∨(decide ((4:Int)<(f.pN:Int))=true/\decide ((f.pN:Int)<=64)=false/\decide ((66:Int)<(f.pN:Int))=false/\decide ((3:Int)<(f.oN:Int))=true/\decide ((f.oN:Int)<=8)=false/\decide ((10:Int)<(f.oN:Int))=true):=by
   simp only[decide_eq_true_eq,decide_eq_false_iff_not];omega
  clear hcont;rcases kn with ⟨a1,a2⟩|⟨a1,a2,a3⟩|⟨a1,a3,b1,b2⟩|⟨a1,a3,b1,b2,b3⟩|⟨a1,a2,a3,b1,b2⟩|⟨a1,a2,a3,b1,b2,b3⟩
  all_goals
   go_wp2;go_ret;exact⟨⟨true,rfl,fun h=>(by cases h)⟩,hb⟩
 have kp:(decide ((4:Int)<(f.pN:Int))=false/\decide ((66:Int)<(f.pN:Int))=false)∨(decide ((4:Int)<(f.pN:Int))=true/\decide ((f.pN:Int)<=64)=false/\decide ((66:Int)<(f.pN:Int))=false):=by
  simp only[decide_eq_true_eq,decide_eq_false_iff_not];omega
 have ko:(decide ((3:Int)<(f.oN:Int))=false/\decide ((10:Int)<(f.oN:Int))=false)∨(decide ((3:Int)<(f.oN:Int))=true/\decide ((f.oN:Int)<=8)=false/\decide ((10:Int)<(f.oN:Int))=false):=by
  simp only[decide_eq_true_eq,decide_eq_false_iff_not];omega
 have hp66:f.pN<=66:=by omega
 have ho10:f.oN<=10:=by omega
 clear hcont;have HE:=Lh (And.intro e0 (And.intro e1 (And.intro e2 (And.intro e3 (And.intro e4 (And.intro e5 (And.intro e6 (And.intro e7 (And.intro e8 (And.intro e9 e10))))))))));rcases kp with ⟨a1,a3⟩|⟨a1,a2,a3⟩
 all_goals rcases ko with ⟨b1,b3⟩|⟨b1,b2,b3⟩
 all_goals
  go_wp2_with fail;clear e0 e1 e2 e3 e4 e5 e6 e7 e8 e9 e10 r15 r16 q12 q13 q14 q15 q16 q17 a1 a3 b1 b3
  (try clear a2)
  (try clear b2)
  go_loopw [3] (fun iv wr=>∃k:Nat,k<=f.pN/\iv=Zi (k:Int)/\Hid (∀p∈ps.take k,p.lot.length<=30/\p.q.length<=13)/\Hid (Blk wr w.heap.size (Zq f))/\Below w.heap.size w wr) (fun iv _=>f.pN-(intOf iv).toNat)
  case atStart=>exact⟨0,Nat.zero_le _,rfl,(by intro p hp;simp at hp),X0.out,hb⟩
  case round=>
   clear X0 hb;obtain⟨k,hk,rfl,HS,HF,hbk⟩:=hrel;have q15:wr.cell? ⟨w.heap.size,18,none⟩=some (.slice f.pA f.pN f.pC):=HF.out.c 18
   by_cases hlt:k<f.pN
   ·have e1:decide ((k:Int)<(f.pN:Int))=true:=Dt (by omega)
    obtain⟨p,hpk⟩:∃p,ps[k]?=some p:=⟨_,List.getElem?_eq_getElem (by rw[HN.out];omega)⟩
    obtain⟨b,o,hA,hbs,p0,p1⟩:=(HP.out.below hbk) k p hpk;rw[hA] at q15;cases c1:decide ((30:Int)<(p.lot.length:Int)) with
    | true=>
     go_wp2;go_ret;exact⟨⟨true,rfl,fun h=>(by cases h)⟩,hbk⟩
    | false=>
    cases c2:decide ((13:Int)<(p.q.length:Int)) with
    | true=>
     go_wp2_with fail
     refine (HL.out _ _).mono ?_
     rintro e w2 ⟨rfl,rfl⟩;go_wp2;go_ret;exact⟨⟨true,rfl,fun h=>(by cases h)⟩,hbk⟩
    | false=>
     have HS2:Hid (∀p∈ps.take (k+1),p.lot.length<=30/\p.q.length<=13):=fun y hy=>by
      rw[NE hpk] at hy;rcases List.mem_append.1 hy with hy|hy
      ·exact HS.out y hy
      ·rw[List.mem_singleton.1 hy];have h1:=of_decide_eq_false c1;have h2:=of_decide_eq_false c2;omega
     clear hpk hA;go_wp2_with fail
     refine (HL.out _ _).mono ?_
     rintro e w2 ⟨rfl,rfl⟩;go_wp2;go_roundw
     case rel=>exact⟨k+1,by omega,by go_num,HS2,HF.out,hbk⟩
     case measure=>simp[intOf];omega
   have e1:decide ((k:Int)<(f.pN:Int))=false:=Df (by omega)
   have HPS:Hid (∀p∈ps,p.lot.length<=30/\p.q.length<=13):=by
    have h1:=HS.out
    rwa [List.take_of_length_le (by rw[HN.out];omega)] at h1
   clear HS;go_wp2_with fail;clear e1 q15 hlt hk;have HF0:=Lh HF.out;have hbk0:=hbk;clear HF hbk
   go_loopw [4] (fun iv wr=>∃k:Nat,k<=f.oN/\iv=Zi (k:Int)/\Hid (∀x∈os.take k,x.oth.length<=24/\x.rn.length<=13/\x.rd.length<=13/\x.pn.length<=13/\x.pd.length<=13/\x.vn.length<=13/\x.vd.length<=13)/\Hid (Blk wr w.heap.size (Zq f))/\Below w.heap.size w wr) (fun iv _=>f.oN-(intOf iv).toNat)
   case atStart=>exact⟨0,Nat.zero_le _,rfl,(by intro p hp;simp at hp),HF0.out,hbk0⟩
   case round=>
    clear HF0 hbk0;obtain⟨k,hk,rfl,HS,HF,hbk⟩:=hrel;have q16:wr.cell? ⟨w.heap.size,19,none⟩=some (.slice f.oA f.oN f.oC):=HF.out.c 19
    by_cases hlt:k<f.oN
    ·have e1:decide ((k:Int)<(f.oN:Int))=true:=Dt (by omega)
     obtain⟨x,hxk⟩:∃x,os[k]?=some x:=⟨_,List.getElem?_eq_getElem (by rw[HM.out];omega)⟩
     obtain⟨b,o,hA,hbs,hoc⟩:=(HO.out.below hbk) k x hxk;rw[hA] at q16;have p0:=hoc.c0;have p1:=hoc.c1;have p2:=hoc.c2;have p3:=hoc.c3;have p4:=hoc.c4;have p5:=hoc.c5;have p6:=hoc.c6;have hbA:=Zh wr (.cells #[Zg x.oth,Zg x.rn,Zg x.rd,Zg x.pn,Zg x.pd,Zg x.vn,Zg x.vd] 197);have X5:=Lh (Blk.new wr #[Zg x.oth,Zg x.rn,Zg x.rd,Zg x.pn,Zg x.pd,Zg x.vn,Zg x.vd] 197);have r0:(wr.alloc (.cells #[Zg x.oth,Zg x.rn,Zg x.rd,Zg x.pn,Zg x.pd,Zg x.vn,Zg x.vd] 197)).cell? ⟨wr.heap.size,0,none⟩=some (Zg x.oth):=X5.out.c 0;have r1:(wr.alloc (.cells #[Zg x.oth,Zg x.rn,Zg x.rd,Zg x.pn,Zg x.pd,Zg x.vn,Zg x.vd] 197)).cell? ⟨wr.heap.size,1,none⟩=some (Zg x.rn):=X5.out.c 1;have r2:(wr.alloc (.cells #[Zg x.oth,Zg x.rn,Zg x.rd,Zg x.pn,Zg x.pd,Zg x.vn,Zg x.vd] 197)).cell? ⟨wr.heap.size,2,none⟩=some (Zg x.rd):=X5.out.c 2;have r3:(wr.alloc (.cells #[Zg x.oth,Zg x.rn,Zg x.rd,Zg x.pn,Zg x.pd,Zg x.vn,Zg x.vd] 197)).cell? ⟨wr.heap.size,3,none⟩=some (Zg x.pn):=X5.out.c 3;have r4:(wr.alloc (.cells #[Zg x.oth,Zg x.rn,Zg x.rd,Zg x.pn,Zg x.pd,Zg x.vn,Zg x.vd] 197)).cell? ⟨wr.heap.size,4,none⟩=some (Zg x.pd):=X5.out.c 4;have r5:(wr.alloc (.cells #[Zg x.oth,Zg x.rn,Zg x.rd,Zg x.pn,Zg x.pd,Zg x.vn,Zg x.vd] 197)).cell? ⟨wr.heap.size,5,none⟩=some (Zg x.vn):=X5.out.c 5;have r6:(wr.alloc (.cells #[Zg x.oth,Zg x.rn,Zg x.rd,Zg x.pn,Zg x.pd,Zg x.vn,Zg x.vd] 197)).cell? ⟨wr.heap.size,6,none⟩=some (Zg x.vd):=X5.out.c 6;have HF2:=Lh (HF.out.below hbA);replace hbk:=bto hbk hbA;clear hbA hoc;cases c0:decide ((24:Int)<(x.oth.length:Int)) with
     | true=>
      go_wp2;go_ret;exact⟨⟨true,rfl,fun h=>(by cases h)⟩,hbk⟩
     | false=>
     cases c1:Vo x.rn x.rd with
     | true=>
      go_wp2_with fail
      refine (HQ.out x.rn x.rd _).mono ?_
      rintro e v0 ⟨rfl,hv0⟩;replace hbk:=bto hbk hv0;replace X5:=Lh (X5.out.below hv0);replace HF2:=Lh (HF2.out.below hv0);have s03:v0.cell? ⟨wr.heap.size,3,none⟩=some (Zg x.pn):=X5.out.c 3;have s04:v0.cell? ⟨wr.heap.size,4,none⟩=some (Zg x.pd):=X5.out.c 4;have s05:v0.cell? ⟨wr.heap.size,5,none⟩=some (Zg x.vn):=X5.out.c 5;have s06:v0.cell? ⟨wr.heap.size,6,none⟩=some (Zg x.vd):=X5.out.c 6;go_wp2;go_ret;exact⟨⟨true,rfl,fun h=>(by cases h)⟩,hbk⟩
     | false=>
     cases c2:Vo x.pn x.pd with
     | true=>
      go_wp2_with fail
      refine (HQ.out x.rn x.rd _).mono ?_
      rintro e v0 ⟨rfl,hv0⟩;replace hbk:=bto hbk hv0;replace X5:=Lh (X5.out.below hv0);replace HF2:=Lh (HF2.out.below hv0);have s03:v0.cell? ⟨wr.heap.size,3,none⟩=some (Zg x.pn):=X5.out.c 3;have s04:v0.cell? ⟨wr.heap.size,4,none⟩=some (Zg x.pd):=X5.out.c 4;have s05:v0.cell? ⟨wr.heap.size,5,none⟩=some (Zg x.vn):=X5.out.c 5;have s06:v0.cell? ⟨wr.heap.size,6,none⟩=some (Zg x.vd):=X5.out.c 6;go_wp2_with fail
      refine (HQ.out x.pn x.pd _).mono ?_
      rintro e v1 ⟨rfl,hv1⟩;replace hbk:=bto hbk hv1;replace X5:=Lh (X5.out.below hv1);replace HF2:=Lh (HF2.out.below hv1);have s15:v1.cell? ⟨wr.heap.size,5,none⟩=some (Zg x.vn):=X5.out.c 5;have s16:v1.cell? ⟨wr.heap.size,6,none⟩=some (Zg x.vd):=X5.out.c 6;go_wp2;go_ret;exact⟨⟨true,rfl,fun h=>(by cases h)⟩,hbk⟩
     | false=>
     cases c3:Vo x.vn x.vd with
     | true=>
      go_wp2_with fail
      refine (HQ.out x.rn x.rd _).mono ?_
      rintro e v0 ⟨rfl,hv0⟩;replace hbk:=bto hbk hv0;replace X5:=Lh (X5.out.below hv0);replace HF2:=Lh (HF2.out.below hv0);have s03:v0.cell? ⟨wr.heap.size,3,none⟩=some (Zg x.pn):=X5.out.c 3;have s04:v0.cell? ⟨wr.heap.size,4,none⟩=some (Zg x.pd):=X5.out.c 4;have s05:v0.cell? ⟨wr.heap.size,5,none⟩=some (Zg x.vn):=X5.out.c 5;have s06:v0.cell? ⟨wr.heap.size,6,none⟩=some (Zg x.vd):=X5.out.c 6;go_wp2_with fail
      refine (HQ.out x.pn x.pd _).mono ?_
      rintro e v1 ⟨rfl,hv1⟩;replace hbk:=bto hbk hv1;replace X5:=Lh (X5.out.below hv1);replace HF2:=Lh (HF2.out.below hv1);have s15:v1.cell? ⟨wr.heap.size,5,none⟩=some (Zg x.vn):=X5.out.c 5;have s16:v1.cell? ⟨wr.heap.size,6,none⟩=some (Zg x.vd):=X5.out.c 6;go_wp2_with fail
      refine (HQ.out x.vn x.vd _).mono ?_
      rintro e v2 ⟨rfl,hv2⟩;replace hbk:=bto hbk hv2;replace X5:=Lh (X5.out.below hv2);replace HF2:=Lh (HF2.out.below hv2);go_wp2;go_ret;exact⟨⟨true,rfl,fun h=>(by cases h)⟩,hbk⟩
     | false=>
      have HS2:Hid (∀x∈os.take (k+1),x.oth.length<=24/\x.rn.length<=13/\x.rd.length<=13/\x.pn.length<=13/\x.pd.length<=13/\x.vn.length<=13/\x.vd.length<=13):=fun y hy=>by
       rw[NE hxk] at hy;rcases List.mem_append.1 hy with hy|hy
       ·exact HS.out y hy
       ·rw[List.mem_singleton.1 hy];have h1:=of_decide_eq_false c0;have h2:=Tv c1;have h3:=Tv c2;have h4:=Tv c3;exact⟨by omega,h2.1,h2.2,h3.1,h3.2,h4.1,h4.2⟩
      clear hxk hA;go_wp2_with fail
      refine (HQ.out x.rn x.rd _).mono ?_
      rintro e v0 ⟨rfl,hv0⟩;replace hbk:=bto hbk hv0;replace X5:=Lh (X5.out.below hv0);replace HF2:=Lh (HF2.out.below hv0);have s03:v0.cell? ⟨wr.heap.size,3,none⟩=some (Zg x.pn):=X5.out.c 3;have s04:v0.cell? ⟨wr.heap.size,4,none⟩=some (Zg x.pd):=X5.out.c 4;have s05:v0.cell? ⟨wr.heap.size,5,none⟩=some (Zg x.vn):=X5.out.c 5;have s06:v0.cell? ⟨wr.heap.size,6,none⟩=some (Zg x.vd):=X5.out.c 6;go_wp2_with fail
      refine (HQ.out x.pn x.pd _).mono ?_
      rintro e v1 ⟨rfl,hv1⟩;replace hbk:=bto hbk hv1;replace X5:=Lh (X5.out.below hv1);replace HF2:=Lh (HF2.out.below hv1);have s15:v1.cell? ⟨wr.heap.size,5,none⟩=some (Zg x.vn):=X5.out.c 5;have s16:v1.cell? ⟨wr.heap.size,6,none⟩=some (Zg x.vd):=X5.out.c 6;go_wp2_with fail
      refine (HQ.out x.vn x.vd _).mono ?_
      rintro e v2 ⟨rfl,hv2⟩;replace hbk:=bto hbk hv2;replace X5:=Lh (X5.out.below hv2);replace HF2:=Lh (HF2.out.below hv2);go_wp2;go_roundw
      case rel=>exact⟨k+1,by omega,by go_num,HS2,HF2.out,hbk⟩
      case measure=>simp[intOf];omega
    have e1:decide ((k:Int)<(f.oN:Int))=false:=Df (by omega)
    have HOS:Hid (∀x∈os,x.oth.length<=24/\x.rn.length<=13/\x.rd.length<=13/\x.pn.length<=13/\x.pd.length<=13/\x.vn.length<=13/\x.vd.length<=13):=by
     have h1:=HS.out
     rwa [List.take_of_length_le (by rw[HM.out];omega)] at h1
    clear HS;go_wp2;go_ret;refine⟨⟨false,rfl,fun _=>?_⟩,hbk⟩
    obtain⟨g0,g1,g2,g3,g4,g5,g6,g7,g8,g9,g10⟩:=HE.out;have i8:=Tv g8;have i9:=Tv g9;have i10:=Tv g10;have i0:=of_decide_eq_false g0;have i1:=of_decide_eq_false g1;have i2:=of_decide_eq_false g2;have i3:=of_decide_eq_false g3;have i4:=of_decide_eq_false g4;have i5:=of_decide_eq_false g5;have i6:=of_decide_eq_false g6;have i7:=of_decide_eq_false g7;exact⟨by omega,by omega,by omega,by omega,by omega,by omega,by omega,by omega,i8.1,i8.2,i9.1,i9.2,i10.1,i10.2,hp66,ho10,HPS.out,HOS.out⟩
theorem ZaP {f:Fct} {ps:List Pk} {os:List Opn} {b c:Nat} {w:World} (hB:Blk w b (Zq f)) (hn:ps.length=f.pN) (hn2:f.pN<=9223372036854775807) (hp:XI w f.pA ps) (hm:os.length=f.oN) (hm2:f.oN<=9223372036854775807) (ho:Qa w f.oA os) :
  Calls prog 117 #[.slice (some ⟨b,0,none⟩) 1 c,.func (Fn.func 51) #[] #[]] w fun e w'=>(∃z:Int,e=.returned (Zi z)/\(z<0->Il f ps os))/\Below w.heap.size w w':=by
 have X:=Lh hB;have hlt:=hB.lt;have HC:=Lh (fun w' (hb:Below w.heap.size w w')=>BO (f:=f) (ps:=ps) (os:=os) hn hn2 (hp.below hb) hm hm2 (ho.below hb))
 clear hB hn hp hm ho;go_enter func117,ntmps117;go_wp2_with fail
 go_loopw [8] (fun iv wr=>(iv=Zi 0∨(iv=Zi 1/\Hid (Il f ps os)))/\Below w.heap.size w wr) (fun iv _=>1-(intOf iv).toNat)
 case atStart=>exact⟨.inl rfl,Below.refl _ _⟩
 case round=>
  obtain⟨hiv,hb⟩:=hrel;rcases hiv with rfl|⟨rfl,HS⟩
  ·have X1:=Lh (X.out.below hb);have hbs:b<wr.heap.size:=X1.out.lt;go_wp2_with (refine Zy rfl 48 (.tmp 14) rfl b rfl (Zq f) X1.out underlying48 rfl ZN ?_);refine (HC.out wr hb).mono ?_;rintro e w2 ⟨⟨R,rfl,hR⟩,hb2⟩;have hbb:=bto hb hb2;cases R with
   | true=>
    clear hR X1 hb hb2;go_wp2;go_ret;exact⟨⟨_,rfl,fun h=>absurd h (by decide)⟩,hbb⟩
   | false=>
    have HS:=Lh (hR rfl);clear hR X1 hb hb2;go_wp2;go_roundw
    case rel=>exact⟨.inr ⟨by go_num,HS⟩,hbb⟩
    case measure=>simp[intOf]
  ·go_wp2;go_ret;exact⟨⟨_,rfl,fun _=>HS.out⟩,hb⟩
theorem ZaQ {f:Fct} {ps:List Pk} {os:List Opn} {b c:Nat} {w:World} (hB:Blk w b (Zq f)) (hn:ps.length=f.pN) (hn2:f.pN<=9223372036854775807) (hp:XI w f.pA ps) (hm:os.length=f.oN) (hm2:f.oN<=9223372036854775807) (ho:Qa w f.oA os) :
  Calls prog 50 #[.slice (some ⟨b,0,none⟩) 1 c,.func (Fn.func 51) #[] #[]] w fun e w'=>(∃R:Bool,e=.returned (.bool R)/\(R=false->Il f ps os))/\Below w.heap.size w w':=by
 have HC:=Lh (ZaP (c:=c) hB hn hn2 hp hm hm2 ho);clear hB hn hp hm ho;go_enter func50,ntmps50;go_wp2_with fail;refine HC.out.mono ?_;rintro e w2 ⟨⟨z,rfl,hz⟩,hb⟩;clear HC
 by_cases h:0<=z
 ·have e1:decide (0<=z)=true:=Dt h;clear hz;go_wp2;go_ret;exact⟨⟨true,rfl,fun h=>(by cases h)⟩,hb⟩
 ·have e1:decide (0<=z)=false:=Df h;have HZ:=Lh (hz (by omega))
  clear hz;go_wp2;go_ret;exact⟨⟨false,rfl,fun _=>HZ.out⟩,hb⟩
theorem Zce {A:Option Addr} {xs:List Lot} {n:Nat} (c:Nat) {f:Fct} {ps:List Pk} {os:List Opn} {b d:Nat} {w:World} (hx:xs.length=n) (hx2:n<=9223372036854775807) (hl:Y7 w A xs) (hB:Blk w b (Zq f)) (hn:ps.length=f.pN) (hn2:f.pN<=9223372036854775807) (hp:XI w f.pA ps) (hm:os.length=f.oN) (hm2:f.oN<=9223372036854775807) (ho:Qa w f.oA os) :
  Calls prog 13 #[.slice A n c,.slice (some ⟨b,0,none⟩) 1 d] w fun e w'=>(∃R:Bool,e=.returned (.bool R)/\(R=false->KE xs=false/\Il f ps os))/\Below w.heap.size w w':=by
 have C1:=Lh (BH c hx hx2 hl);have C2:=Lh (fun w' (hb:Below w.heap.size w w')=>ZaQ (f:=f) (ps:=ps) (os:=os) (b:=b) (c:=d) (hB.below hb) hn hn2 (hp.below hb) hm hm2 (ho.below hb))
 clear hx hl hB hn hp hm ho;cases hg:KE xs with
 | true=>
  rw[hg] at C1;clear hg;go_enter func13,ntmps13;go_wp2_with fail
  refine C1.out.mono ?_
  rintro e w2 ⟨rfl,hb⟩;clear C1 C2;go_wp2;go_ret;exact⟨⟨true,rfl,fun h=>(by cases h)⟩,hb⟩
 | false=>
  rw[hg] at C1;clear hg;go_enter func13,ntmps13;go_wp2_with fail
  refine C1.out.mono ?_
  rintro e w2 ⟨rfl,hb⟩;have K2:=Lh (C2.out w2 hb);clear C1 C2;go_wp2_with fail;refine K2.out.mono ?_;rintro e w3 ⟨⟨R,rfl,hR⟩,hb3⟩;have hbb:=bto hb hb3;have HR:=Lh hR;clear K2 hR;go_wp2;go_ret;exact⟨⟨R,rfl,fun h=>⟨(by first|rfl|trivial),HR.out h⟩⟩,hbb⟩
theorem Il.fs {f:Fct} {ps:List Pk} {os:List Opn} (h:Il f ps os):MQ f:=
 ⟨by have:=h.key;omega,by have:=h.ins;omega,by have:=h.oth;omega,by have:=h.cur;omega,by have:=h.tgt;omega,by have:=h.q;omega,by have:=h.amt;omega,by have:=h.fee;omega,by have:=h.pn;omega,by have:=h.pd;omega,by have:=h.rn;omega,by have:=h.rd;omega,by have:=h.sn;omega,by have:=h.sd;omega⟩
theorem BP (f:Fct):Array.foldl (fun (cs:Array Value) (x:Value×Nat)=>cs.setIfInBounds x.snd x.fst) (#[Zj,Zi 0,.bool false,Zi 0,Zi 0,Zj,Zj,Zj,Zj,Zj,Zj,Zj,Zj,Zj,Zj,Zj,Zj,Zj,.slice none 0 0,.slice none 0 0,Zi 0]:Array Value) (Zq f).zipIdx 0 21=Zq f:=by
 simp[Zq]
open Go.ChangeShapes Go.WideShapes Go.ChangeAt
theorem BQ : "*"++ "errors.errorString" = "*errors.errorString":=by decide
theorem Zbd (u:TypeId) (h:prog.typeName? 3 u=some "*errors.errorString"):u=392:=
 typeName_ptr_named (nm:= "errors.errorString") (by rw[BQ];kernel_rfl) (by kernel_rfl) (by decide) u (by rw[BQ];exact h)
theorem Zc1:prog.cellsOf 394=1:=by kernel_rfl
theorem Zc2:prog.cellsOf 9=1:=by kernel_rfl
theorem Zc3:prog.globalNamed "strconv.ErrRange" = some 1:=by kernel_rfl
theorem Zc4:prog.globalNamed "strconv.ErrSyntax" = some 0:=by kernel_rfl
theorem ZdB:(prog.globals[1]?).map (·.type)=some 209:=by kernel_rfl
theorem ZdC:(prog.globals[0]?).map (·.type)=some 209:=by kernel_rfl
theorem Zc5 {W:World} (h1:laidMet prog Lt W) (hs:W.ShapedOpen prog):GE W:=by
 refine⟨⟨?_,Go.Proofs.cell_of_shapedOpen_int (zero:=#[Zi 0]) (t:=3) hs (of_decide_eq_true (by kernel_rfl)) (by kernel_rfl) rfl (by kernel_rfl) (by kernel_rfl) underlying3⟩,?_,?_⟩
 ·exact Lib.tabIs_of_head (g:=2) (by kernel_rfl) (by kernel_rfl) underlying378 underlying207 (by kernel_rfl) (by kernel_rfl) h1.tail.tail
 ·obtain⟨a,s,hv,-⟩:=laid_sentinel h1.tail.tail.tail.tail.tail Zc4 ZdC underlying209 Zbd underlying392 underlying394 rfl rfl underlying9 Zc1 Zc2;exact⟨_,_,World.var?_cell Zc4 hv 0⟩
 ·obtain⟨a,s,hv,-⟩:=laid_sentinel h1.tail.tail.tail.tail Zc3 ZdB underlying209 Zbd underlying392 underlying394 rfl rfl underlying9 Zc1 Zc2;exact⟨_,_,World.var?_cell Zc3 hv 0⟩
end Go.Proofs.YtpieeldbamklkaaGreatDoor
