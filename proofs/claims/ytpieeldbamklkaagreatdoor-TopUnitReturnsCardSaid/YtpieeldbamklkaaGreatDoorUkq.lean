/- The law OA. -/
import Derived.Test.YtpieeldbamklkaaGreatDoorUgq
set_option maxHeartbeats 8000000
set_option maxRecDepth 100000
namespace Go.Proofs.YtpieeldbamklkaaGreatDoor
open Go.RowKit Go.Shelf Num
theorem OA {w:World} {A:Option Addr} {ds:List Del} {n:Nat} (c:Nat) (hG:GE w) (hn:ds.length=n) (hn2:n<=9223372036854775807) (hD:TR w A ds) :
  Calls Tryz.prog 3 #[.slice A n c] w fun e w'=>e=.returned (.bool true)/\Below w.heap.size w w':=by
 have K1:=Lh (Lv c hG hn hn2 hD);have HD:=Lh hD;have HN:=Lh hn;clear hD hn;go_enter Tryz.func3,Tryz.ntmps3;go_wp2_with fail
 with_reducible refine K1.out.mono ?_
 rintro e w1 ⟨hb1,⟨v1,v2,rfl⟩|⟨xs,A1,c1,v2,rfl,hpo⟩⟩
 ·have KA:=Lh (Pe w1 (hG.below hb1));go_wp2_with fail
  with_reducible refine KA.out.mono ?_
  rintro e w2 ⟨rfl,hb2⟩;go_wp2;go_ret;exact⟨rfl,bto hb1 hb2⟩
 clear K1;obtain⟨AX,cX,rfl⟩:=WZ hpo.row;have hE0:=hpo.ok;have K2:=Lh (OX (hG.g.below hb1) hpo.ql c1);rw[hE0] at K2;simp only[if_true] at K2;rw[HN.out] at K2;obtain⟨hn1,-⟩:=Q5 hE0;have hpl:(Wx ds xs).length=n:=(Oz hpo.run.len).trans HN.out;have hfl:(YK (pts (Wx ds xs))).length=n-1:=by rw[Vi,U4,hpl]
 have HB1:=Lh hb1;have HPO:=Lh hpo;obtain⟨m,rfl⟩:∃m,n=m+1:=⟨n-1,by omega⟩
 rw[Nat.add_sub_cancel] at hfl;rw[HN.out];clear hb1 hpo hE0 hn1 hpl;go_wp2_with fail
 with_reducible refine K2.out.mono ?_
 rintro e w2 ⟨v,qs,rfl,hqs,hrow,hb2⟩;rw[<-hqs] at hfl;rw[hfl] at hrow;obtain⟨AF,cF,rfl⟩:=WZ hrow;have HROW:=Lh hrow;have HQS:=Lh hqs;have HQL:=Lh hfl;have HB2:=Lh (bto HB1.out hb2);have HB12:=Lh hb2;have j1:IntKind.i64.wrap (m:Int)=(m:Int):=Um rfl (by have h:=HPO.out.n6;rw[HN.out] at h;omega)
 have hm6:m<=6:=by have h:=HPO.out.n6;rw[HN.out] at h;omega
 clear hqs hrow hb2 K2 hfl;go_wp2_with fail
 go_loopw [8,9,10,11,12,13,40] (fun _ _ _ _ _ _ iv wr=>∃k:Nat,k<=m/\iv=.int .i64 (k:Int)/\Hid (Below w2.heap.size w2 wr)) (fun _ _ _ _ _ _ iv _=>m-(intOf iv).toNat)
 case atStart=>exact⟨0,Nat.zero_le _,rfl,Below.refl _ _⟩
 case round=>
  obtain⟨k,hk,rfl,HWR⟩:=hrel
  by_cases hlk:k<m
  rotate_left
  ·have e3:decide (k<m)=false:=Df hlk;have e4:decide ((k:Int)<(m:Int))=false:=Df (by omega)
   have KA:=Lh (Pe wr (hG.below (bto HB2.out HWR.out)));go_wp2_with fail
   with_reducible refine KA.out.mono ?_
   rintro e w5 ⟨rfl,hb5⟩;go_wp2;go_ret;exact⟨rfl,bto (bto HB2.out HWR.out) hb5⟩
  have e3:decide (k<m)=true:=Dt hlk;have e4:decide ((k:Int)<(m:Int))=true:=Dt (by omega)
  have i1:(k:Int)<(m:Int):=by omega
  have i2:(k:Int)<(m:Int)+1:=by omega
  have i3:(k:Int)+1<(m:Int)+1:=by omega
  have i4:(0:Int)<=(k:Int)+1:=by omega
  have i5:IntKind.i64.wrap ((k:Int)+1)=(k:Int)+1:=Um (k:=k+1) (by omega) (by omega)
  have i6:((k:Int)+1).toNat=k+1:=by omega
  obtain⟨d,hd⟩:∃d,ds[k]?=some d:=⟨_,List.getElem?_eq_getElem (by have:=HN.out;omega)⟩
  obtain⟨d2,hd2⟩:∃d2,ds[k+1]?=some d2:=⟨_,List.getElem?_eq_getElem (by have:=HN.out;omega)⟩
  obtain⟨x,hx⟩:∃x,xs[k]?=some x:=⟨_,List.getElem?_eq_getElem (by have:=HN.out;have:=HPO.out.run.len;omega)⟩
  obtain⟨q,hq,hU⟩:=Za8 HPO.out.n6 HPO.out.run HPO.out.sm HPO.out.ok hd hd2 hx;rw[<-HQS.out] at hq;obtain⟨gf,cf2,hv,hgl,hc0,hc1⟩:=BZ (Zz HROW.out HWR.out) HQL.out hq;injection hv with hv1 hv2 hv3
  subst hv1;subst hv3;have hxr:=HPO.out.row;rw[HN.out] at hxr;obtain⟨gx,cx2,hv,-,hxl,-,hxc⟩:=Ts xcs 4 (fun _=>rfl) (Zz (Zz hxr HB12.out) HWR.out) (HPO.out.run.len.trans HN.out) hx
  injection hv with hv1 hv2 hv3
  subst hv1;subst hv3;obtain⟨b,o,hA,hbs,-,p1,-,-⟩:=(HD.out.below (bto HB2.out HWR.out)) (k+1) d2 hd2;subst hA;have hb3:=Zd wr (.cells #[.string ⟨(fN q).toArray⟩,.string ⟨(fD q).toArray⟩] 34);have h3:=ZF wr (.cells #[.string ⟨(fN q).toArray⟩,.string ⟨(fD q).toArray⟩] 34);obtain⟨w3,hw3⟩:∃w3,w3=wr.alloc (.cells #[.string ⟨(fN q).toArray⟩,.string ⟨(fD q).toArray⟩] 34):=⟨_,rfl⟩
  rw[<-hw3] at hb3 h3;have HW3_:=Lh hw3;have X9:Hid (Blk w3 wr.heap.size #[.string ⟨(fN q).toArray⟩,.string ⟨(fD q).toArray⟩]):=⟨_,h3⟩;have c0':wr.cell? ⟨gf,k*2,none⟩=some (.string ⟨(fN q).toArray⟩):=hc0;have c1':wr.cell? ⟨gf,k*2+1,none⟩=some (.string ⟨(fD q).toArray⟩):=hc1;have HX2:Hid (w3.cell? ⟨gx,k*4+2,none⟩=some (.string ⟨x.un.toArray⟩)):=(hb3.cell (p:=⟨gx,_,none⟩) hxl).trans (hxc 2 (by decide))
  have HX3:Hid (w3.cell? ⟨gx,k*4+3,none⟩=some (.string ⟨x.vl.toArray⟩)):=(hb3.cell (p:=⟨gx,_,none⟩) hxl).trans (hxc 3 (by decide))
  have HXL_:Hid (gx<w3.heap.size):=Nat.lt_of_lt_of_le hxl hb3.size;have HY1_:Hid (w3.cell? ⟨b,o+(k+1)*4+1,none⟩=some (.string ⟨d2.v.toArray⟩)):=(hb3.cell (p:=⟨b,_,none⟩) hbs).trans p1;have HYL_:Hid (b<w3.heap.size):=Nat.lt_of_lt_of_le hbs hb3.size;have HWW:=Lh (bto (bto HB2.out HWR.out) hb3);have HW23:=Lh (bto HWR.out hb3);have hxu:(wr.alloc (.cells #[.string ⟨(fN q).toArray⟩,.string ⟨(fD q).toArray⟩] 34)).cell? ⟨gx,k*4+2,none⟩=some (.string ⟨x.un.toArray⟩):=by rw[<-hw3];exact HX2.out
  have HU:=Lh hU;have HDD:=Lh hd2;clear hd hd2 hx hq hU hgl hc0 hc1 hxr hxl hxc hbs p1 hb3 h3 hw3 hv2
  by_cases hu0:x.un=[]
  ·rw[hu0] at hxu;clear hu0;have HW33:Hid (Below w2.heap.size w2 (wr.alloc (.cells #[.string ⟨(fN q).toArray⟩,.string ⟨(fD q).toArray⟩] 34))):=by rw[<-HW3_.out];exact HW23.out
   go_wp2;go_roundw
   case rel=>exact⟨k+1,by omega,by go_num,HW33.out⟩
   case measure=>simp[intOf];omega
  have b1:(x.un==[])=false:=by rw[Bn];exact hu0
  have b2:x.un.isEmpty=false:=by rw[List.isEmpty_eq_false_iff];exact hu0
  obtain⟨r1,hr1⟩:∃r1,r1=Rat.divInt (val x.vl) (val x.un):=⟨_,rfl⟩
  obtain⟨r2,hr2⟩:∃r2,r2=Rat.divInt (val d2.v) (val x.un):=⟨_,rfl⟩
  have hvd:d2.v.length<=100000:=by
   obtain⟨j,hj⟩:∃j,ds[j]?=some d2:=⟨_,HDD.out⟩
   have:=(HPO.out.sm d2 (Lm hj)).1
   omega
  have CP1:=Lh (ID (v:=x.vl) (u:=x.un) (by have:=HU.out.vl;omega) (by have:=HU.out.ul;omega) HU.out.ea hu0 hr1.symm)
  have CP2:=Lh (ID (v:=d2.v) (u:=x.un) hvd (by have:=HU.out.ul;omega) HU.out.eb hu0 hr2.symm)
  have hmul:=HU.out.mul hu0;rw[<-hr1,<-hr2] at hmul;have hun0:=Qu (US HU.out.ea x.un (by simp)).1 hu0
  have hvp0:val x.vl≠0:=by have:=HU.out.vp;omega
  have hd20:d2.v.length<=200:=by have:=(HPO.out.sm d2 (Lm HDD.out)).1;omega
  have hbd1:Bd 200 r1:=by rw[hr1];exact Y7 (Zo HU.out.vl) (Zo HU.out.ul) hun0
  have hbdq:Bd 200 q:=by rw[HU.out.fq];exact Y7 (Zo hd20) (Zo HU.out.vl) hvp0
  have CM:=Lh (Zav (VC hbd1 (by decide)) (VC hbdq (by decide)) hmul)
  clear hr1 hr2 hvd hmul hun0 hbd1 hbdq hvp0 hd20;generalize fN r1=N1 at *;generalize fD r1=D1 at *;generalize fN r2=N2 at *;generalize fD r2=D2 at *;generalize fN q=N0 at *;generalize fD q=D0 at *;go_wp2_with fail;rw[<-HW3_.out];refine Zm (by kernel_rfl) (by kernel_rfl) ?_
  refine Zb _ (fun _=>rfl) (fun ρ wz hw=>by go_simp;try with_reducible rfl) ?_
  simp only[Act.put,StT,StZ,StS,Nat.reduceAdd];refine Zb _ (fun _=>rfl) (fun ρ wz hw=>by go_simp;try with_reducible rfl) ?_
  simp only[Act.put,StT,StZ,StS,Nat.reduceAdd];refine Zb _ (fun _=>rfl) (fun ρ wz hw=>by go_simp;try with_reducible rfl) ?_
  simp only[Act.put,StT,StZ,StS,Nat.reduceAdd];refine Zb _ (fun _=>rfl) (fun ρ wz hw=>by go_simp;try with_reducible rfl) ?_
  simp only[Act.put,StT,StZ,StS,Nat.reduceAdd];refine Zb _ (fun _=>rfl) (fun ρ wz hw=>by have q0:=(hw.cell (p:=⟨_,_,none⟩) HXL_.out).trans HX3.out;go_simp;try with_reducible rfl) ?_
  simp only[Act.put,StT,StZ,StS,Nat.reduceAdd];refine Zb _ (fun _=>rfl) (fun ρ wz hw=>by go_simp;try with_reducible rfl) ?_
  simp only[Act.put,StT,StZ,StS,Nat.reduceAdd];refine Zb _ (fun _=>rfl) (fun ρ wz hw=>by go_simp;try with_reducible rfl) ?_
  simp only[Act.put,StT,StZ,StS,Nat.reduceAdd];refine Zb _ (fun _=>rfl) (fun ρ wz hw=>by go_simp;try with_reducible rfl) ?_
  simp only[Act.put,StT,StZ,StS,Nat.reduceAdd];refine Zb _ (fun _=>rfl) (fun ρ wz hw=>by go_simp;try with_reducible rfl) ?_
  simp only[Act.put,StT,StZ,StS,Nat.reduceAdd];refine Zb _ (fun _=>rfl) (fun ρ wz hw=>by have q0:=(hw.cell (p:=⟨_,_,none⟩) HXL_.out).trans HX2.out;go_simp;try with_reducible rfl) ?_
  simp only[Act.put,StT,StZ,StS,Nat.reduceAdd];refine Zl _ _ _ (fun _=>rfl) (fun ρ wz hw=>by go_simp;try with_reducible rfl) (fun wz hw=>CP1.out.of (hG.g.below HWW.out) hw) ?_
  simp only[Act.put,StT,StZ,StS,Nat.reduceAdd];refine Zb _ (fun _=>rfl) (fun ρ wz hw=>by go_simp;try with_reducible rfl) ?_
  simp only[Act.put,StT,StZ,StS,Nat.reduceAdd];refine Zb _ (fun _=>rfl) (fun ρ wz hw=>by go_simp;try with_reducible rfl) ?_
  simp only[Act.put,StT,StZ,StS,Nat.reduceAdd];refine Zb _ (fun _=>rfl) (fun ρ wz hw=>by go_simp;try with_reducible rfl) ?_
  simp only[Act.put,StT,StZ,StS,Nat.reduceAdd];refine Wq (fun b=>.pointer (some ⟨b,0,none⟩)) _ rfl (fun _=>rfl) (fun ρ wz hw=>by go_simp;try with_reducible rfl) ?_
  simp only[Act.put,StT,StZ,StS,Nat.reduceAdd];refine VL 14 _ 10 _ _ _ _ _ rfl rfl rfl (by decide) (fun _=>rfl) (fun ρ wz hw q0 q1 q2 q3=>by go_simp;try with_reducible rfl) ?_
  simp only[Act.put,Nat.reduceAdd];refine Zb _ (fun _=>rfl) (fun ρ wz hw=>by go_simp;try with_reducible rfl) ?_
  simp only[Act.put,StT,StZ,StS,Nat.reduceAdd];refine Zu (fun ρ w4 hF=>?_)
  have h10:=(hF.box 14 _ _ rfl).2;generalize ρ 14=b10 at *;have hb4:=hF.below;have X10:Hid (Blk w4 b10 #[.string ⟨N1.toArray⟩,.string ⟨D1.toArray⟩]):=⟨_,h10⟩;have X94:=Lh (X9.out.below hb4);have HX22:Hid (w4.cell? ⟨gx,k*4+2,none⟩=some (.string ⟨x.un.toArray⟩)):=(hb4.cell (p:=⟨gx,_,none⟩) HXL_.out).trans HX2.out;have HXL2:Hid (gx<w4.heap.size):=Nat.lt_of_lt_of_le HXL_.out hb4.size;have HY1:Hid (w4.cell? ⟨b,o+(k+1)*4+1,none⟩=some (.string ⟨d2.v.toArray⟩)):=(hb4.cell (p:=⟨b,_,none⟩) HYL_.out).trans HY1_.out;have HYL:Hid (b<w4.heap.size):=Nat.lt_of_lt_of_le HYL_.out hb4.size;have HW3:=Lh (bto HWW.out hb4);have HW24:=Lh (bto HW23.out hb4);clear hF h10 hb4 CP1 HX2 HX3 HXL_ HY1_ HYL_ HWW HW23 X9 hxu c0' c1';go_wp2_with fail;refine Zm (by kernel_rfl) (by kernel_rfl) ?_
  refine Zb _ (fun _=>rfl) (fun ρ wz hw=>by go_simp;try with_reducible rfl) ?_
  simp only[Act.put,StT,StZ,StS,Nat.reduceAdd];refine Zb _ (fun _=>rfl) (fun ρ wz hw=>by go_simp;try with_reducible rfl) ?_
  simp only[Act.put,StT,StZ,StS,Nat.reduceAdd];refine Zb _ (fun _=>rfl) (fun ρ wz hw=>by go_simp;try with_reducible rfl) ?_
  simp only[Act.put,StT,StZ,StS,Nat.reduceAdd];refine Zb _ (fun _=>rfl) (fun ρ wz hw=>by go_simp;try with_reducible rfl) ?_
  simp only[Act.put,StT,StZ,StS,Nat.reduceAdd];refine Zb _ (fun _=>rfl) (fun ρ wz hw=>by go_simp;try with_reducible rfl) ?_
  simp only[Act.put,StT,StZ,StS,Nat.reduceAdd];refine Zb _ (fun _=>rfl) (fun ρ wz hw=>by have q0:=(hw.cell (p:=⟨_,_,none⟩) HYL.out).trans HY1.out;go_simp;try with_reducible rfl) ?_
  simp only[Act.put,StT,StZ,StS,Nat.reduceAdd];refine Zb _ (fun _=>rfl) (fun ρ wz hw=>by go_simp;try with_reducible rfl) ?_
  simp only[Act.put,StT,StZ,StS,Nat.reduceAdd];refine Zb _ (fun _=>rfl) (fun ρ wz hw=>by go_simp;try with_reducible rfl) ?_
  simp only[Act.put,StT,StZ,StS,Nat.reduceAdd];refine Zb _ (fun _=>rfl) (fun ρ wz hw=>by go_simp;try with_reducible rfl) ?_
  simp only[Act.put,StT,StZ,StS,Nat.reduceAdd];refine Zb _ (fun _=>rfl) (fun ρ wz hw=>by go_simp;try with_reducible rfl) ?_
  simp only[Act.put,StT,StZ,StS,Nat.reduceAdd];refine Zb _ (fun _=>rfl) (fun ρ wz hw=>by have q0:=(hw.cell (p:=⟨_,_,none⟩) HXL2.out).trans HX22.out;go_simp;try with_reducible rfl) ?_
  simp only[Act.put,StT,StZ,StS,Nat.reduceAdd];refine Zl _ _ _ (fun _=>rfl) (fun ρ wz hw=>by go_simp;try with_reducible rfl) (fun wz hw=>CP2.out.of (hG.g.below HW3.out) hw) ?_
  simp only[Act.put,StT,StZ,StS,Nat.reduceAdd];refine Zb _ (fun _=>rfl) (fun ρ wz hw=>by go_simp;try with_reducible rfl) ?_
  simp only[Act.put,StT,StZ,StS,Nat.reduceAdd];refine Zb _ (fun _=>rfl) (fun ρ wz hw=>by go_simp;try with_reducible rfl) ?_
  simp only[Act.put,StT,StZ,StS,Nat.reduceAdd];refine Zb _ (fun _=>rfl) (fun ρ wz hw=>by go_simp;try with_reducible rfl) ?_
  simp only[Act.put,StT,StZ,StS,Nat.reduceAdd];refine Wq (fun b=>.pointer (some ⟨b,0,none⟩)) _ rfl (fun _=>rfl) (fun ρ wz hw=>by go_simp;try with_reducible rfl) ?_
  simp only[Act.put,StT,StZ,StS,Nat.reduceAdd];refine VL 15 _ 12 _ _ _ _ _ rfl rfl rfl (by decide) (fun _=>rfl) (fun ρ wz hw q0 q1 q2 q3=>by go_simp;try with_reducible rfl) ?_
  simp only[Act.put,Nat.reduceAdd];refine Zb _ (fun _=>rfl) (fun ρ wz hw=>by go_simp;try with_reducible rfl) ?_
  simp only[Act.put,StT,StZ,StS,Nat.reduceAdd];refine Zu (fun ρ w5 hF=>?_)
  have h12:=(hF.box 15 _ _ rfl).2;generalize ρ 15=b12 at *;have hb5:=hF.below;have x12:Z9 w5 b12 (.string ⟨N2.toArray⟩) (.string ⟨D2.toArray⟩):=Blk.box ⟨_,h12⟩;have x10:=Blk.box (X10.out.below hb5);have x9:=Blk.box (X94.out.below hb5);have HW4:=Lh (bto HW3.out hb5);have HW25:=Lh (bto HW24.out hb5);clear hF h12 hb5 CP2 HX22 HXL2 HY1 HYL HW3 HW24 X10 X94;go_wp2_with fail;refine Zm (by kernel_rfl) (by kernel_rfl) ?_
  refine Zb _ (fun _=>rfl) (fun ρ wz hw=>by go_simp;try with_reducible rfl) ?_
  simp only[Act.put,StT,StZ,StS,Nat.reduceAdd];refine Zb _ (fun _=>rfl) (fun ρ wz hw=>by go_simp;try with_reducible rfl) ?_
  simp only[Act.put,StT,StZ,StS,Nat.reduceAdd];refine Zb _ (fun _=>rfl) (fun ρ wz hw=>by go_simp;try with_reducible rfl) ?_
  simp only[Act.put,StT,StZ,StS,Nat.reduceAdd];refine Zb _ (fun _=>rfl) (fun ρ wz hw=>by go_simp;try with_reducible rfl) ?_
  simp only[Act.put,StT,StZ,StS,Nat.reduceAdd];refine Zb _ (fun _=>rfl) (fun ρ wz hw=>by go_simp;try with_reducible rfl) ?_
  simp only[Act.put,StT,StZ,StS,Nat.reduceAdd];refine Zb _ (fun _=>rfl) (fun ρ wz hw=>by go_simp;try with_reducible rfl) ?_
  simp only[Act.put,StT,StZ,StS,Nat.reduceAdd];refine Zb _ (fun _=>rfl) (fun ρ wz hw=>by go_simp;try with_reducible rfl) ?_
  simp only[Act.put,StT,StZ,StS,Nat.reduceAdd];refine Zb _ (fun _=>rfl) (fun ρ wz hw=>by have q0:=(x10.below hw).c0;have q1:=(x10.below hw).c1;go_simp;try with_reducible rfl) ?_
  simp only[Act.put,StT,StZ,StS,Nat.reduceAdd];refine Zb _ (fun _=>rfl) (fun ρ wz hw=>by have q0:=(x9.below hw).c0;have q1:=(x9.below hw).c1;go_simp;try with_reducible rfl) ?_
  simp only[Act.put,StT,StZ,StS,Nat.reduceAdd];refine Zl _ _ _ (fun _=>rfl) (fun ρ wz hw=>by go_simp;try with_reducible rfl) (fun wz hw=>CM.out.of (hG.g.below HW4.out) hw) ?_
  simp only[Act.put,StT,StZ,StS,Nat.reduceAdd];refine Zb _ (fun _=>rfl) (fun ρ wz hw=>by have q0:=(x12.below hw).c0;have q1:=(x12.below hw).c1;go_simp;try with_reducible rfl) ?_
  simp only[Act.put,StT,StZ,StS,Nat.reduceAdd];refine Zb _ (fun _=>rfl) (fun ρ wz hw=>by go_simp;try with_reducible rfl) ?_
  simp only[Act.put,StT,StZ,StS,Nat.reduceAdd];refine Zb _ (fun _=>rfl) (fun ρ wz hw=>by go_simp;try with_reducible rfl) ?_
  simp only[Act.put,StT,StZ,StS,Nat.reduceAdd];refine Zu (fun ρ w6 hF=>?_)
  have HW26:=Lh (bto HW25.out hF.below);clear hF x9 x10 x12;go_wp2;go_roundw
  case rel=>exact⟨k+1,by omega,by go_num,HW26.out⟩
  case measure=>simp[intOf];omega
end Go.Proofs.YtpieeldbamklkaaGreatDoor
