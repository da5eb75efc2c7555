/- Texts put together: Rg Rh Ab Rj Sd Rk. -/
import Derived.Test.YtpieeldbamklkaaGreatDoorW6
import Derived.StillTailTactics
import Derived.WalkKit
import Derived.Deep.RegionLaw
import Derived.Lib.SliceRun
import Derived.Laws.IdiomCopy
import Derived.Lib.SlBuf
set_option maxHeartbeats 8000000
set_option maxRecDepth 1000000
namespace Go.Proofs.YtpieeldbamklkaaGreatDoor
open Go.RowKit Num
theorem BU (p:Pk) (x:Lot) (bx:Nat) (w:World) (h:Blk w bx #[Value.string ⟨x.id.toArray⟩,Value.string ⟨x.ins.toArray⟩,Value.int .i64 x.acq,Value.int .i64 x.opn,Value.string ⟨x.q.toArray⟩,Value.string ⟨x.cost.toArray⟩,Value.string ⟨x.used.toArray⟩]) :
  Calls Tryz.prog 164 #[.agg #[.string ⟨p.lot.toArray⟩,.string ⟨p.q.toArray⟩],.pointer (some ⟨bx,0,none⟩)] w fun e w'=>e=.returned (.bool (Z1 x.id p))/\Below w.heap.size w w':=by
 have hb:=Zd w (.cells #[.string ⟨p.lot.toArray⟩,.string ⟨p.q.toArray⟩] 195);have x1:=Blk.new w #[.string ⟨p.lot.toArray⟩,.string ⟨p.q.toArray⟩] 195;have p0:=x1.c 0;have p1:=(h.below hb).c 0;have HV:Hid (Z1 x.id p=(p.lot==x.id)):=rfl;have he:=U5 p.lot x.id;generalize Z1 x.id p=R at *;clear h x1;go_enter Tryz.func164,Tryz.ntmps164;go_wp2;go_ret;refine⟨Z4 ?_,hb⟩;rw[HV.out]<;>first|exact he|rfl
theorem P7 (args:Array Value) (w:World):(callFunc 164 args).run Tryz.prog w=.ok (.enter 164 args) w:=by kernel_rfl
theorem Ys.same {w1 w2:World} {B:Nat} {v:Value} {xs:List Pk} (h:Ys w1 B v xs) (e:∀g,v.ownBlock=some g->w2.heap[g]?=w1.heap[g]?):Ys w2 B v xs:=by
 refine⟨h.1,?_⟩;rcases h.2 with h2|⟨g,cap,cur,ev,hB,hg,r⟩
 ·exact .inl h2
 ·exact .inr ⟨g,cap,cur,ev,hB,(e g (by rw[ev];rfl)).trans hg,r⟩
structure NW (w:World) (B bo bq:Nat) (s:List Pk×List UInt8) (v:Value) (W:World):Prop where
 below:Below w.heap.size w W
 lq:w.heap.size<=bq
 lo:bq<bo
 lb:bo<B
 le:B<=W.heap.size
 rem:W.heap[bq]?=some (.cells #[.string ⟨s.2.toArray⟩] 32 (0,0))
 out:W.heap[bo]?=some (.cells #[v] 45 (0,0))
 row:Ys W B v s.1
theorem NW.go {w W W':World} {B bo bq:Nat} {s:List Pk×List UInt8} {v:Value} (h:NW w B bo bq s v W) (hb:Below W.heap.size W W'):NW w B bo bq s v W':=
 ⟨bto h.below hb,h.lq,h.lo,h.lb,Nt h.le hb.size,Zw h.rem hb,Zw h.out hb,h.row.below hb⟩
def TkX (bo bq:Nat) (v:Value) (k:Nat):Prop:=k=bo∨k=bq∨v.ownBlock=some k
def Ld (w:World) (B bo bq:Nat) (s:List Pk×List UInt8) (v:Value) (W:World) (e:Ending) (W':World):Prop:=
 e=.returned (.tuple #[])/\∃v',NW w B bo bq s v' W'/\Zr (TkX bo bq v) W W'/\∀g,v'.ownBlock=some g->v.ownBlock=some g∨W.heap.size<=g
theorem OL {w:World} {base n sz:Nat} {e:TypeId} {v:Value} {xs:List Value} (h:w.ownsRow base e sz v n xs):∀g,v.ownBlock=some g->base<=g:=fun g hg=>(World.ownsRow.lt h g hg).1
theorem Uo {a b:List UInt8} {k:Nat} (ha:a.length<=k) (hb:b.length<=k):(YU a b).length<=k:=by
 unfold YU
 split<;>assumption
theorem En {w W:World} {B bo bq:Nat} {own:List Lot} {Q:Int} {s:List Pk×List UInt8} {v:Value} {x:Lot} {most:List UInt8} (hG:GE w) (hC:NW w B bo bq s v W) (hI:Yw own Q s) (hs:PO x) (hm:most.length<=1000) (hQ:(canon Q).length<=1100) (hl:s.1.length<=100000) (hz0:0<=ZO (Z1 x.id) s.1 0) :
  Calls Tryz.prog 162 #[(Value.agg #[Value.string ⟨x.id.toArray⟩,Value.string ⟨x.ins.toArray⟩,Value.int .i64 x.acq,Value.int .i64 x.opn,Value.string ⟨x.q.toArray⟩,Value.string ⟨x.cost.toArray⟩,Value.string ⟨x.used.toArray⟩]),.string ⟨most.toArray⟩,.pointer (some ⟨bo,0,none⟩),.pointer (some ⟨bq,0,none⟩)] W (Ld w B bo bq (YE s x most) v W):=by
 have hxq:=hs.q;have hx0:=Tk s.1 (fun p hp=>(hI.pos p hp).1)
 have hsm:=hI.sum;have hrem:=hI.rem;have hrl:s.2.length<=1101:=by rw[hI.can];exact XI (by omega) hQ
 have hpl:∀p∈s.1,p.q.length<=1101:=fun p hp=>by
  rw[(hI.pos p hp).2];refine XI ⟨Int.le_of_lt (hI.pos p hp).1,?_⟩ hQ
  have:=hx0.2 p hp
  omega
 obtain⟨n,hn⟩:∃n,n=s.1.length:=⟨_,rfl⟩
 obtain⟨A,c,rfl⟩:=hC.row.formN hn.symm;have hbA:=Zd W (.cells #[Value.string ⟨x.id.toArray⟩,Value.string ⟨x.ins.toArray⟩,Value.int .i64 x.acq,Value.int .i64 x.opn,Value.string ⟨x.q.toArray⟩,Value.string ⟨x.cost.toArray⟩,Value.string ⟨x.used.toArray⟩] 130);have X1:=Lh (Xf.new W x 130);have HC:=Lh (hC.go hbA);have K1:=Lh (F5 _ P7 (Z1 x.id) #[.pointer (some ⟨W.heap.size,0,none⟩)] A s.1 n c _ hn.symm (by omega) (HC.out.row.pkAt rfl) (fun p _ w' hb'=>BU p x W.heap.size w' (X1.out.below hb')))
 obtain⟨z,hz⟩:∃z,z=ZO (Z1 x.id) s.1 0:=⟨_,rfl⟩
 rw[<-hz] at K1 hz0;obtain⟨i,p,hzi,hpi,hpx,-⟩:=Vz _ _ _ (hz ▸ hz0);rw[Nat.zero_add] at hzi;have hzi2:z=(i:Int):=hz.trans hzi;have hin:i<n:=by rw[hn];exact VU hpi
 have hppl:=hpl p (Lm hpi);obtain⟨lf,hlf⟩:∃lf,lf=canon (val x.q-val p.q):=⟨_,rfl⟩
 have elf:SF s.1 x=lf:=by
  unfold SF;rw[if_pos (hz ▸ hz0),hzi,Int.toNat_natCast,List.getD_eq_getElem?_getD,hpi,hlf];rfl
 have KL:=Lh (Wk (l:=x.q) (l':=p.q) (z:=val x.q-val p.q) (by omega) (by omega) rfl)
 rw[<-hlf] at KL;have hlfl:lf.length<=1105:=by
  rw[hlf];obtain⟨M,hM⟩:∃M,M=1101:=⟨_,rfl⟩
  have h1:=Zo (l:=x.q) (k:=M) (by omega)
  have h2:=Zo (l:=p.q) (k:=M) (by omega)
  refine Nt (Zn _ (M+1) ?_) (by omega)
  have e:(10:Nat) ^ (M+1)=10 ^ M*10:=Nat.pow_succ ..;rw[e];generalize (10:Nat) ^ M=P at *;omega
 obtain⟨n1,hn1⟩:∃n1,n1=YU most lf:=⟨_,rfl⟩
 obtain⟨nn,hnn⟩:∃nn,nn=YU n1 s.2:=⟨_,rfl⟩
 have en:nS s.1 s.2 x most=nn:=by unfold nS;rw[elf,hnn,hn1]
 have hn1l:n1.length<=1105:=by rw[hn1];exact Uo (by omega) hlfl
 have hnnl:nn.length<=1105:=by rw[hnn];exact Uo hn1l (by omega)
 have L1:=Lh (NT (a:=most) (b:=lf) (by omega) (by omega))
 have L2:=Lh (NT (a:=n1) (b:=s.2) (by omega) (by omega))
 rw[<-hn1] at L1;rw[<-hnn] at L2;have L3:=Lh (VX (l:=nn) (by omega))
 have lq:=hC.lq;have lo:=hC.lo;have lb:=hC.lb;have le:=hC.le;have hbW0:=HC.out.below;have HGet:=Lh en;have HBA:Hid (Zr (TkX bo bq (.slice A n c)) W (W.alloc (.cells #[Value.string ⟨x.id.toArray⟩,Value.string ⟨x.ins.toArray⟩,Value.int .i64 x.acq,Value.int .i64 x.opn,Value.string ⟨x.q.toArray⟩,Value.string ⟨x.cost.toArray⟩,Value.string ⟨x.used.toArray⟩] 130))):=Zr.of_below hbA;clear hbA hC hI hs hm hQ hxq hx0 hsm hrem hpl elf hn1 hnn en hn1l hlfl;have HPI:=Lh hpi;have HZI:=Lh hzi;have HNL:Hid (s.1.length=n):=hn.symm;have HZ:=Lh hz;subst hzi2;have g1:decide ((0:Int)<=(i:Int))=true:=Dt (by omega)
 have g2:decide ((i:Int)<0)=false:=Df (by omega)
 clear hlf hn hz hl hpi hzi hz0 hpx;have q0:(W.alloc (.cells #[Value.string ⟨x.id.toArray⟩,Value.string ⟨x.ins.toArray⟩,Value.int .i64 x.acq,Value.int .i64 x.opn,Value.string ⟨x.q.toArray⟩,Value.string ⟨x.cost.toArray⟩,Value.string ⟨x.used.toArray⟩] 130)).cell? ⟨bo,0,none⟩=some (.slice A n c):=Zh HC.out.out 0;go_enter Tryz.func162,Tryz.ntmps162;go_wp2_with fail;refine K1.out.mono ?_;rintro e w1 ⟨rfl,hb1⟩;clear q0 K1;replace HC:=Lh (HC.out.go hb1);replace X1:=Lh (X1.out.below hb1);replace HBA:=Lh (HBA.out.trans (Zr.of_below hb1));have hbW:=bto hbW0 hb1;clear hbW0 hb1;have q4:=X1.out.c4;obtain⟨g,cc,e',hBg,hk⟩:=HC.out.row.row (by have:=HNL.out;omega)
 injection e' with e1 e2 e3
 subst e1 e3;have q0:w1.cell? ⟨bo,0,none⟩=some (.slice (some ⟨g,0,none⟩) n c):=Zh HC.out.out 0;have q1:=(hk.cells HPI.out).2;clear hk e2;go_wp2_with fail
 with_reducible refine (KL.out.e.of hG hbW).mono ?_
 rintro e w2 ⟨rfl,hb2⟩;clear q0 q1 KL;replace HC:=Lh (HC.out.go hb2);replace X1:=Lh (X1.out.below hb2);replace HBA:=Lh (HBA.out.trans (Zr.of_below hb2));replace hbW:=bto hbW hb2;clear hb2 q4;go_wp2_with fail;refine Zm (by kernel_rfl) (by kernel_rfl) ?_
 iterate 2
  refine Zb _ (fun _=>rfl) (fun ρ wz hw=>by go_simp;try with_reducible rfl) ?_
  simp only[Act.put,StT,StZ,StS,Nat.reduceAdd]
 refine Zl _ _ _ (fun _=>rfl) (fun ρ wz hw=>by go_simp;try with_reducible rfl) (fun wz hw=>L1.out.e.of hG (bto hbW hw)) ?_
 simp only[Act.put,StT,StZ,StS,Nat.reduceAdd];refine Zb _ (fun _=>rfl) (fun ρ wz hw=>by have q0:wz.cell? ⟨bq,0,none⟩=some (.string ⟨s.2.toArray⟩):=Zh (Zw HC.out.rem hw) 0;go_simp;try with_reducible rfl) ?_
 simp only[Act.put,StT,StZ,StS,Nat.reduceAdd];refine Zl _ _ _ (fun _=>rfl) (fun ρ wz hw=>by go_simp;try with_reducible rfl) (fun wz hw=>L2.out.e.of hG (bto hbW hw)) ?_
 simp only[Act.put,StT,StZ,StS,Nat.reduceAdd];refine Zb _ (fun _=>rfl) (fun ρ wz hw=>by go_simp;try with_reducible rfl) ?_
 simp only[Act.put,StT,StZ,StS,Nat.reduceAdd];intro ρ w3 hF;dsimp only;replace HC:=Lh (HC.out.go hF.below);replace X1:=Lh (X1.out.below hF.below);replace HBA:=Lh (HBA.out.trans (Zr.of_below hF.below));replace hbW:=bto hbW hF.below;clear hF L1 L2
 by_cases hp0:0<val nn
 rotate_left
 ·have e1:decide (0<val nn)=false:=Df hp0;rw[e1] at L3;have HT:Hid (YE s x most=s):=by
   show _=_;unfold YE;rw[HGet.out,if_pos (by omega)]
  clear hp0 e1;go_wp2_with fail
  with_reducible refine (L3.out.e.of hG hbW).mono ?_
  rintro e w4 ⟨rfl,hb4⟩;clear L3;go_wp2
  go_end0
  rw[HT.out];exact⟨rfl,_,HC.out.go hb4,HBA.out.trans (Zr.of_below hb4),fun g h=>.inl h⟩
 have e1:decide (0<val nn)=true:=Dt hp0;rw[e1] at L3;have HT:Hid (∀nq,nq=canon (val p.q+val nn)->YE s x most=(s.1.set i ⟨p.lot,nq⟩,canon (val s.2-val nn))):=fun nq h=>by
  unfold YE QQ;rw[HGet.out,if_neg (by omega)]
  simp only[<-HZ.out,Int.toNat_natCast,List.getD_eq_getElem?_getD,HPI.out,Option.getD_some];rw[if_pos (by omega),h]
 clear hp0 e1;go_wp2_with fail
 with_reducible refine (L3.out.e.of hG hbW).mono ?_
 rintro e W3 ⟨rfl,hb4⟩;clear L3;replace HC:=Lh (HC.out.go hb4);have HX3:=Lh (HBA.out.trans (Zr.of_below hb4));have hb3:=bto hbW hb4;clear hbW hb4 HBA X1;go_wp2_with fail;clear g1 g2;have HO:Hid (W3.heap[bo]?=some (.cells #[.slice (some ⟨g,0,none⟩) n c] 45 (0,0))):=HC.out.out;have HRM:=Lh HC.out.rem;have HRW:Hid (Ys W3 B (.slice (some ⟨g,0,none⟩) n c) s.1):=HC.out.row;have HP:=HPI;have HN:=HNL;have hll:s.1.length=n:=HNL.out;have HFR:Hid (∀g',Value.ownBlock (.slice (some ⟨g,0,none⟩) n c)=some g'->Value.ownBlock (.slice (some ⟨g,0,none⟩) n c)=some g'∨W.heap.size<=g'):=fun g' h=>.inl h
 have HGK:Hid (∀k,k<W.heap.size->¬TkX bo bq (.slice (some ⟨g,0,none⟩) n c) k->¬k=g):=fun k _ hn e=>hn (.inr (.inr (by rw[e];rfl)))
 have hgB:B<=g:=hBg;obtain⟨cur,hcur,hct,hcs⟩:OK W3 g s.1:=by
  obtain⟨g',c',e',-,hk⟩:=HRW.out.row (by omega)
  injection e' with e1 e2 e3
  injection e1 with e1
  injection e1 with e1
  subst e1;exact hk
 have HCI:Hid (cur[i*2+1]?=some (.string ⟨p.q.toArray⟩)):=by
  have h1:=(SJ HP.out).2;rw[<-hct,List.getElem?_take,if_pos (by omega),Array.getElem?_toList] at h1
  exact h1
 have KA:=Lh (Xa (l:=p.q) (l':=nn) (z:=val p.q+val nn) (by omega) (by omega) rfl)
 have KS:=Lh (Wk (l:=s.2) (l':=nn) (z:=val s.2-val nn) (by omega) (by omega) rfl)
 obtain⟨nq,hnq⟩:∃nq,nq=canon (val p.q+val nn):=⟨_,rfl⟩
 obtain⟨nr,hnr⟩:∃nr,nr=canon (val s.2-val nn):=⟨_,rfl⟩
 rw[<-hnq] at KA;rw[<-hnr] at KS;have HNQ:=Lh hnq;have HNR:=Lh hnr;clear hnq hnr;obtain⟨F,hF⟩:∃F:Fx,F=fun b=>if b=g then some (.cells cur 195 (0,0)) else none:=⟨_,rfl⟩
 have f1:F g=some (.cells cur 195 (0,0)):=by rw[hF];exact if_pos rfl
 have hX:∀b,F b≠none->b=g:=fun b hb=>by
  rw[hF] at hb;dsimp only at hb
  by_cases h1:b=g
  ·exact h1
  ·rw[if_neg h1] at hb;exact absurd rfl hb
 have HFF:Hid (∀b ob,F b=some ob->W3.heap[b]?=some ob):=fun b ob h=>by
  rw[hF] at h;dsimp only at h
  by_cases h1:b=g
  ·rw[if_pos h1] at h;rw[h1,<-h];exact hcur
  ·rw[if_neg h1] at h;cases h
 have hno:¬(F bo≠none):=fun h=>by have:=hX _ h;omega
 have hnq':¬(F bq≠none):=fun h=>by have:=hX _ h;omega
 have hlow:∀k,F k≠none->w.heap.size<=k:=fun k hk=>by have:=hX _ hk;omega
 have hlbo:bo<W3.heap.size:=(Ag.1 HO.out).1;obtain⟨tch,htch⟩:∃tch:Nat->List Nat,tch=fun b=>if b=g then [6,11] else []:=⟨_,rfl⟩
 clear hF;refine Z0 tch F (by kernel_rfl) (by kernel_rfl) (by kernel_rfl) HFF.out ?_
 refine Zj _ rfl (fun wz hw=>by have q0:wz.cell? ⟨bo,0,none⟩=some (.slice (some ⟨g,0,none⟩) n c):=(Zh ((hw.block _ hlbo hno).trans HO.out) 0);go_simp;try with_reducible rfl) ?_
 simp only[Act.put,StT,StZ,StS,Nat.reduceAdd];refine Zj _ rfl (fun wz hw=>by go_simp;try with_reducible rfl) ?_
 simp only[Act.put,StT,StZ,StS,Nat.reduceAdd];refine Zj _ rfl (fun wz hw=>by have q0:wz.cell? ⟨bo,0,none⟩=some (.slice (some ⟨g,0,none⟩) n c):=(Zh ((hw.block _ hlbo hno).trans HO.out) 0);go_simp;try with_reducible rfl) ?_
 simp only[Act.put,StT,StZ,StS,Nat.reduceAdd];refine Zj _ rfl (fun wz hw=>by go_simp;try with_reducible rfl) ?_
 simp only[Act.put,StT,StZ,StS,Nat.reduceAdd];refine Zj (.pointer (some ⟨g,i*2,none⟩)) rfl (fun wz hw=>by go_simp;try with_reducible rfl) ?_
 simp only[Act.put,StT,StZ,StS,Nat.reduceAdd];refine Zj (.pointer (some ⟨g,i*2+1,none⟩)) rfl (fun wz hw=>by go_simp;try with_reducible rfl) ?_
 simp only[Act.put,StT,StZ,StS,Nat.reduceAdd];refine Xr g cur 195 (.string ⟨p.q.toArray⟩) f1 (by simp[htch]) rfl (fun wz hw hc=>by have q0:wz.cell? ⟨g,i*2+1,none⟩=some (.string ⟨p.q.toArray⟩):=(hc _).trans HCI.out;clear hc;go_simp;try with_reducible rfl) ?_
 simp only[Act.put,StT,StZ,StS,Nat.reduceAdd];refine Zj _ rfl (fun wz hw=>by go_simp;try with_reducible rfl) ?_
 simp only[Act.put,StT,StZ,StS,Nat.reduceAdd];refine Yp _ _ _ rfl (fun wz hw=>by go_simp;try with_reducible rfl) (fun wz hw=>KA.out.e.of hG (hw.lower hb3 hlow)) ?_
 simp only[Act.put,StT,StZ,StS,Nat.reduceAdd];refine Zj (.pointer (some ⟨g,i*2,none⟩)) rfl (fun wz hw=>by go_simp;try with_reducible rfl) ?_
 simp only[Act.put,StT,StZ,StS,Nat.reduceAdd];refine Zj (.pointer (some ⟨g,i*2+1,none⟩)) rfl (fun wz hw=>by go_simp;try with_reducible rfl) ?_
 simp only[Act.put,StT,StZ,StS,Nat.reduceAdd];refine Xs g (i*2+1) cur (.string ⟨nq.toArray⟩) 195 f1 (by simp[htch]) (fun j oj hj=>ZJ (l:=[6,11]) (by kernel_rfl) j oj (by simpa [htch] using hj)) rfl (fun wz hw hc hf=>by have q0:wz.cell? ⟨g,i*2+1,none⟩=some (.string ⟨p.q.toArray⟩):=(hc _).trans HCI.out;have q1:=hf (i*2+1);clear hc hf;go_simp;try with_reducible rfl) ?_
 simp only[Act.put,Nat.reduceAdd];refine Y9 (fun w4 hF4=>?_)
 have hb4:=hF4.below.lower hb3 hlow;have HX4:Hid (Zr (fun k=>k=g) W3 w4):=⟨hF4.below.os,hF4.below.tape,hF4.below.output,hF4.below.size,fun k hk hn=>hF4.below.block k hk (fun h=>hn (hX k h))⟩
 have HO4:Hid (w4.heap[bo]?=some (.cells #[.slice (some ⟨g,0,none⟩) n c] 45 (0,0))):=(hF4.below.block _ hlbo hno).trans HO.out;have HR4:Hid (w4.heap[bq]?=some (.cells #[.string ⟨s.2.toArray⟩] 32 (0,0))):=(hF4.below.block _ (Ag.1 HRM.out).1 hnq').trans HRM.out;have HW4:Hid (Ys w4 B (.slice (some ⟨g,0,none⟩) n c) (s.1.set i ⟨p.lot,nq⟩)):=by
  have h1:Ys W3 B (.slice (some ⟨g,0,none⟩) s.1.length c) s.1:=by rw[HN.out];exact HRW.out
  have h2:=h1.set HP.out nq;rw[HN.out] at h2;refine h2.same (fun g' e=>?_)
  injection e with e
  have e:g=g':=e;subst e;rw[hF4.box g _ (if_pos rfl),hset _ hcur]
 have hs4:=hF4.below.size;clear hF4 f1 hX HFF hno hnq' htch KA HCI hcur hct hcs HRW;have q0:w4.cell? ⟨bq,0,none⟩=some (.string ⟨s.2.toArray⟩):=Zh HR4.out 0;go_wp2_with fail
 with_reducible refine (KS.out.e.of hG hb4).mono ?_
 rintro e w5 ⟨rfl,hb5⟩;clear q0 KS;have q0:w5.cell? ⟨bq,0,none⟩=some (.string ⟨s.2.toArray⟩):=Zh (Zw HR4.out hb5) 0;have q1:w5.frozen? ⟨bq,0,none⟩=false:=Zq (Zw HR4.out hb5) 0;have HFin:Hid (Ld w B bo bq (YE s x most) (.slice (some ⟨g,0,none⟩) n c) W (.returned (.tuple #[])) (w5.setCell ⟨bq,0,none⟩ (.string ⟨nr.toArray⟩))):=by
  have e:YE s x most=(s.1.set i ⟨p.lot,nq⟩,nr):=by rw[HNR.out];exact HT.out nq HNQ.out
  rw[e];refine⟨rfl,_,⟨(bto hb4 hb5).setCell (p:=⟨bq,0,none⟩) lq _,lq,lo,lb,?_,hset _ (Zw HR4.out hb5),hoth (Zw HO4.out hb5) (by omega),?_⟩,?_,HFR.out⟩
  ·have h1:=hb5.size;have h2:=HX3.out.size;show B<=(w5.setCell _ _).heap.size;simp;omega
  ·exact (HW4.out.below hb5).far (fun e=>by injection e with e;have e:g=bq:=e;omega)
  ·have h1:=HX3.out.size;have h3:=hb5.size;refine⟨hb5.os.trans (HX4.out.os.trans HX3.out.os),hb5.tape.trans (HX4.out.tape.trans HX3.out.tape),hb5.output.trans (HX4.out.output.trans HX3.out.output),?_,fun k hk hn=>?_⟩
   ·show W.heap.size<=(w5.setCell _ _).heap.size;simp;omega
   ·exact (Below.heap_setCell w5 ⟨bq,0,none⟩ _ k (fun e=>hn (.inr (.inl e)))).trans ((hb5.block k (by omega)).trans ((HX4.out.block k (by omega) (HGK.out k hk hn)).trans (HX3.out.block k hk hn)))
 clear hb4 hb5 HX4 HO4 HR4 HW4;go_wp2
 go_end0
 exact HFin.out
theorem Gj {w W:World} {B bo bq:Nat} {own:List Lot} {Q:Int} {s:List Pk×List UInt8} {v:Value} {x:Lot} {most:List UInt8} (hG:GE w) (hC:NW w B bo bq s v W) (hI:Yw own Q s) (hs:PO x) (hm:most.length<=1000) (hQ:(canon Q).length<=1100) (hl:s.1.length<=100000) (hz0:ZO (Z1 x.id) s.1 0<0) :
  Calls Tryz.prog 162 #[(Value.agg #[Value.string ⟨x.id.toArray⟩,Value.string ⟨x.ins.toArray⟩,Value.int .i64 x.acq,Value.int .i64 x.opn,Value.string ⟨x.q.toArray⟩,Value.string ⟨x.cost.toArray⟩,Value.string ⟨x.used.toArray⟩]),.string ⟨most.toArray⟩,.pointer (some ⟨bo,0,none⟩),.pointer (some ⟨bq,0,none⟩)] W (Ld w B bo bq (YE s x most) v W):=by
 have hxq:=hs.q;have hx0:=Tk s.1 (fun p hp=>(hI.pos p hp).1)
 have hsm:=hI.sum;have hrem:=hI.rem;have hrl:s.2.length<=1101:=by rw[hI.can];exact XI (by omega) hQ
 have hpl:∀p∈s.1,p.q.length<=1101:=fun p hp=>by
  rw[(hI.pos p hp).2];refine XI ⟨Int.le_of_lt (hI.pos p hp).1,?_⟩ hQ
  have:=hx0.2 p hp
  omega
 obtain⟨n,hn⟩:∃n,n=s.1.length:=⟨_,rfl⟩
 obtain⟨A,c,rfl⟩:=hC.row.formN hn.symm;have hbA:=Zd W (.cells #[Value.string ⟨x.id.toArray⟩,Value.string ⟨x.ins.toArray⟩,Value.int .i64 x.acq,Value.int .i64 x.opn,Value.string ⟨x.q.toArray⟩,Value.string ⟨x.cost.toArray⟩,Value.string ⟨x.used.toArray⟩] 130);have X1:=Lh (Xf.new W x 130);have HC:=Lh (hC.go hbA);have K1:=Lh (F5 _ P7 (Z1 x.id) #[.pointer (some ⟨W.heap.size,0,none⟩)] A s.1 n c _ hn.symm (by omega) (HC.out.row.pkAt rfl) (fun p _ w' hb'=>BU p x W.heap.size w' (X1.out.below hb')))
 obtain⟨z,hz⟩:∃z,z=ZO (Z1 x.id) s.1 0:=⟨_,rfl⟩
 rw[<-hz] at K1 hz0;obtain⟨lf,hlf⟩:∃lf,lf=x.q:=⟨_,rfl⟩
 have elf:SF s.1 x=lf:=by
  unfold SF;rw[if_neg (by rw[<-hz];omega),hlf]
 have hlfl:lf.length<=1105:=by rw[hlf];omega
 obtain⟨n1,hn1⟩:∃n1,n1=YU most lf:=⟨_,rfl⟩
 obtain⟨nn,hnn⟩:∃nn,nn=YU n1 s.2:=⟨_,rfl⟩
 have en:nS s.1 s.2 x most=nn:=by unfold nS;rw[elf,hnn,hn1]
 have hn1l:n1.length<=1105:=by rw[hn1];exact Uo (by omega) hlfl
 have hnnl:nn.length<=1105:=by rw[hnn];exact Uo hn1l (by omega)
 have L1:=Lh (NT (a:=most) (b:=lf) (by omega) (by omega))
 have L2:=Lh (NT (a:=n1) (b:=s.2) (by omega) (by omega))
 rw[<-hn1] at L1;rw[<-hnn] at L2;have L3:=Lh (VX (l:=nn) (by omega))
 have lq:=hC.lq;have lo:=hC.lo;have lb:=hC.lb;have le:=hC.le;have hbW0:=HC.out.below;have HGet:=Lh en;have HBA:Hid (Zr (TkX bo bq (.slice A n c)) W (W.alloc (.cells #[Value.string ⟨x.id.toArray⟩,Value.string ⟨x.ins.toArray⟩,Value.int .i64 x.acq,Value.int .i64 x.opn,Value.string ⟨x.q.toArray⟩,Value.string ⟨x.cost.toArray⟩,Value.string ⟨x.used.toArray⟩] 130))):=Zr.of_below hbA;clear hbA hC hI hs hm hQ hxq hx0 hsm hrem hpl elf hn1 hnn en hn1l hlfl;have HLF:=Lh hlf;have HZ0:=Lh hz0;have HNL:Hid (s.1.length=n):=hn.symm;have HZ:=Lh hz;have g1:decide (0<=z)=false:=Df (by omega)
 have g2:decide (z<0)=true:=Dt hz0;have hnl:n<=100000:=by omega
 clear hlf hn hz hl;have q0:(W.alloc (.cells #[Value.string ⟨x.id.toArray⟩,Value.string ⟨x.ins.toArray⟩,Value.int .i64 x.acq,Value.int .i64 x.opn,Value.string ⟨x.q.toArray⟩,Value.string ⟨x.cost.toArray⟩,Value.string ⟨x.used.toArray⟩] 130)).cell? ⟨bo,0,none⟩=some (.slice A n c):=Zh HC.out.out 0;go_enter Tryz.func162,Tryz.ntmps162;go_wp2_with fail;refine K1.out.mono ?_;rintro e w1 ⟨rfl,hb1⟩;clear q0 K1;replace HC:=Lh (HC.out.go hb1);replace X1:=Lh (X1.out.below hb1);replace HBA:=Lh (HBA.out.trans (Zr.of_below hb1));have hbW:=bto hbW0 hb1;clear hbW0 hb1;have q4:=X1.out.c4;rw[<-HLF.out] at q4;go_wp2_with fail;refine Zm (by kernel_rfl) (by kernel_rfl) ?_
 iterate 2
  refine Zb _ (fun _=>rfl) (fun ρ wz hw=>by go_simp;try with_reducible rfl) ?_
  simp only[Act.put,StT,StZ,StS,Nat.reduceAdd]
 refine Zl _ _ _ (fun _=>rfl) (fun ρ wz hw=>by go_simp;try with_reducible rfl) (fun wz hw=>L1.out.e.of hG (bto hbW hw)) ?_
 simp only[Act.put,StT,StZ,StS,Nat.reduceAdd];refine Zb _ (fun _=>rfl) (fun ρ wz hw=>by have q0:wz.cell? ⟨bq,0,none⟩=some (.string ⟨s.2.toArray⟩):=Zh (Zw HC.out.rem hw) 0;go_simp;try with_reducible rfl) ?_
 simp only[Act.put,StT,StZ,StS,Nat.reduceAdd];refine Zl _ _ _ (fun _=>rfl) (fun ρ wz hw=>by go_simp;try with_reducible rfl) (fun wz hw=>L2.out.e.of hG (bto hbW hw)) ?_
 simp only[Act.put,StT,StZ,StS,Nat.reduceAdd];refine Zb _ (fun _=>rfl) (fun ρ wz hw=>by go_simp;try with_reducible rfl) ?_
 simp only[Act.put,StT,StZ,StS,Nat.reduceAdd];intro ρ w3 hF;dsimp only;replace HC:=Lh (HC.out.go hF.below);replace X1:=Lh (X1.out.below hF.below);replace HBA:=Lh (HBA.out.trans (Zr.of_below hF.below));replace hbW:=bto hbW hF.below;clear hF L1 L2;clear q4
 by_cases hp0:0<val nn
 rotate_left
 ·have e1:decide (0<val nn)=false:=Df hp0;rw[e1] at L3;have HT:Hid (YE s x most=s):=by
   show _=_;unfold YE;rw[HGet.out,if_pos (by omega)]
  clear hp0 e1;go_wp2_with fail
  with_reducible refine (L3.out.e.of hG hbW).mono ?_
  rintro e w4 ⟨rfl,hb4⟩;clear L3;go_wp2
  go_end0
  rw[HT.out];exact⟨rfl,_,HC.out.go hb4,HBA.out.trans (Zr.of_below hb4),fun g h=>.inl h⟩
 have e1:decide (0<val nn)=true:=Dt hp0;rw[e1] at L3;have HT:Hid (∀nq,nq=canon (val ([]:List UInt8)+val nn)->YE s x most=((s.1++[Pk.mk x.id []]).set n ⟨x.id,nq⟩,canon (val s.2-val nn))):=fun nq h=>by
  unfold YE QQ;rw[HGet.out,if_neg (by omega)]
  have hz1:=HZ0.out;simp only[<-HZ.out];rw[if_neg (by omega),h,<-HNL.out]
  have e:val ([]:List UInt8)+val nn=val nn:=by
   have:val ([]:List UInt8)=0:=by decide
   omega
  rw[e];simp
 clear hp0 e1;have q0:w3.cell? ⟨bo,0,none⟩=some (.slice A n c):=Zh HC.out.out 0;go_wp2_with fail
 with_reducible refine (L3.out.e.of hG hbW).mono ?_
 rintro e w4 ⟨rfl,hb4⟩;clear L3 q0;replace HC:=Lh (HC.out.go hb4);replace X1:=Lh (X1.out.below hb4);replace HBA:=Lh (HBA.out.trans (Zr.of_below hb4));have hb5:=bto hbW hb4;clear hbW hb4;have q0:w4.cell? ⟨bo,0,none⟩=some (.slice A n c):=Zh HC.out.out 0;have q1:=X1.out.c0;obtain⟨i0,hi,hz0,hz1,hz2⟩:=info_parts Gi;have hown:w4.ownsRow B 195 2 (.slice A n c) n (WF s.1):=by
  have h:=HC.out.row;unfold Ys at h;rw[HNL.out] at h;exact h
 have hbq:=Zd w4 (.cells #[.string ⟨x.id.toArray⟩,.string ⟨#[]⟩] 195);have hsz4:(w4.alloc (.cells #[.string ⟨x.id.toArray⟩,.string ⟨#[]⟩] 195)).heap.size=w4.heap.size+1:=by simp
 have HSZ:=Lh hsz4;have HOW:=Lh hown;have HII:=Lh (And.intro hi (And.intro hz0 (And.intro hz1 hz2)));clear hown hi hz0 hz1 hz2 hsz4;go_wp2_with (at_builtin;refine ZM rfl _ _ 45 rfl B 195 i0 (.agg #[.string ⟨#[]⟩,.string ⟨#[]⟩]) 2 32 Tryz.underlying45 HII.out.1 HII.out.2.1 HII.out.2.2.1 HII.out.2.2.2 rfl (by decide) _ _ _ rfl (Zz HOW.out hbq) ⟨w4.heap.size,0,none⟩ 1 1 [.string ⟨x.id.toArray⟩,.string ⟨#[]⟩] rfl rfl ?c1 ?c2 ?c3 ?c4 ?c5 ?_)
 case c1=>
  intro j u hu
  match j,hu with
  | 0,hu=>cases hu;exact Zh (ZF w4 _) 0
  | 1,hu=>cases hu;exact Zh (ZF w4 _) 1
 case c2=>
  intro u hu;simp only[List.mem_cons,List.not_mem_nil,or_false] at hu;rcases hu with rfl|rfl<;>rfl
 case c3=>unfold maxLen;omega
 case c4=>omega
 case c5=>have:=HC.out.le;have:=HSZ.out;omega
 intro v' w5 hown' hgrow hfresh;have hrow':Ys w5 B v' (s.1++[Pk.mk x.id []]):=Ys.app (x:=⟨x.id,[]⟩) hown' HNL.out;obtain⟨g,cc,rfl,hgB,hkb⟩:=hrow'.row (by simp)
 have hll0:(s.1++[Pk.mk x.id []]).length=n+1:=by rw[List.length_append,HNL.out];rfl
 rw[hll0] at hrow' hfresh hown' ⊢;have hov:=OL HOW.out;have hnb:Value.ownBlock (.slice A n c)≠some bo:=fun e=>by have:=hov _ e;omega
 have hnq:Value.ownBlock (.slice A n c)≠some bq:=fun e=>by have:=hov _ e;omega
 have hOo:w5.heap[bo]?=some (.cells #[.slice A n c] 45 (0,0)):=by
  have h1:=Zw HC.out.out hbq;exact (hgrow.block bo (Ag.1 h1).1 (fun e=>hnb e.symm)).trans h1
 have hRo:w5.heap[bq]?=some (.cells #[.string ⟨s.2.toArray⟩] 32 (0,0)):=by
  have h1:=Zw HC.out.rem hbq;exact (hgrow.block bq (Ag.1 h1).1 (fun e=>hnq e.symm)).trans h1
 have hgr:Zr (TkX bo bq (.slice A n c)) (w4.alloc (.cells #[.string ⟨x.id.toArray⟩,.string ⟨#[]⟩] 195)) w5:=⟨hgrow.os,hgrow.tape,hgrow.output,hgrow.size,fun k hk hn=>hgrow.block k hk (fun e=>hn (.inr (.inr e.symm)))⟩
 have q2:w5.cell? ⟨bo,0,none⟩=some (.slice A n c):=Zh hOo 0;have q3:w5.frozen? ⟨bo,0,none⟩=false:=Zq hOo 0;have hb3:Below w.heap.size w (w5.setCell ⟨bo,0,none⟩ (.slice (some ⟨g,0,none⟩) (n+1) cc)):=by
  refine Below.setCell (p:=⟨bo,0,none⟩) ?_ (by show w.heap.size<=bo;omega) _
  refine (bto hb5 hbq).grown hgrow (bto hb5 hbq).size (fun k hk=>?_)
  have:=hov k hk
  omega
 have HX3:Hid (Zr (TkX bo bq (.slice A n c)) W (w5.setCell ⟨bo,0,none⟩ (.slice (some ⟨g,0,none⟩) (n+1) cc))):=
  ((HBA.out.trans (Zr.of_below hbq)).trans hgr).trans (ZR (g:=bo) (X:=TkX bo bq (.slice A n c)) (.inl rfl) [.slice (some ⟨g,0,none⟩) (n+1) cc] 0 w5)
 have HO:Hid ((w5.setCell ⟨bo,0,none⟩ (.slice (some ⟨g,0,none⟩) (n+1) cc)).heap[bo]?=some (.cells #[.slice (some ⟨g,0,none⟩) (n+1) cc] 45 (0,0))):=hset _ hOo;have HRM:Hid ((w5.setCell ⟨bo,0,none⟩ (.slice (some ⟨g,0,none⟩) (n+1) cc)).heap[bq]?=some (.cells #[.string ⟨s.2.toArray⟩] 32 (0,0))):=hoth hRo (by omega)
 have HRW:Hid (Ys (w5.setCell ⟨bo,0,none⟩ (.slice (some ⟨g,0,none⟩) (n+1) cc)) B (.slice (some ⟨g,0,none⟩) (n+1) cc) (s.1++[Pk.mk x.id []])):=hrow'.far (fun e=>by injection e with e;have e:g=bo:=e;omega)
 have hws:W.heap.size<=w4.heap.size:=by
  have:=HBA.out.size
  omega
 have HFR:Hid (∀g',Value.ownBlock (.slice (some ⟨g,0,none⟩) (n+1) cc)=some g'->Value.ownBlock (.slice A n c)=some g'∨W.heap.size<=g'):=fun g' h=>by
  rcases hfresh g' h with h1|h1
  ·exact .inl h1
  ·have:=HSZ.out
   exact .inr (by omega)
 have HGK:Hid (∀k,k<W.heap.size->¬TkX bo bq (.slice A n c) k->¬k=g):=fun k hk hn e=>by
  rcases HFR.out g rfl with h1|h1
  ·exact hn (.inr (.inr (by rw[e];exact h1)))
  ·omega
 have HN:Hid ((s.1++[Pk.mk x.id []]).length=n+1):=hll0;have HP:Hid ((s.1++[Pk.mk x.id []])[n]?=some ⟨x.id,[]⟩):=by show _=_;rw[<-HNL.out];simp
 obtain⟨p,hpe⟩:∃p:Pk,p=⟨x.id,[]⟩:=⟨_,rfl⟩
 obtain⟨l,hle⟩:∃l,l=s.1++[Pk.mk x.id []]:=⟨_,rfl⟩
 obtain⟨i,hie⟩:∃i,i=n:=⟨_,rfl⟩
 have hppl:p.q.length<=1101:=by rw[hpe];exact Nat.zero_le _
 have HT2:Hid (∀nq,nq=canon (val p.q+val nn)->YE s x most=(l.set i ⟨p.lot,nq⟩,canon (val s.2-val nn))):=by
  rw[hpe,hle,hie];exact HT.out
 rw[<-hle] at HRW HN HP;rw[<-hpe,<-hie] at HP;have HPE:=Lh hpe;have HIE2:=Lh hie;clear hpe hle hrow' hown' hgrow hfresh hOo hRo hgr hkb hnb hnq hov HC HOW HII hbq q0 q1 HBA X1 HT hb5 hll0 HLF;have HT:=HT2;clear HT2;go_wp2_with fail;clear q2 q3 g1 g2;obtain⟨W3,hW3⟩:∃W3,W3=w5.setCell ⟨bo,0,none⟩ (.slice (some ⟨g,0,none⟩) (n+1) cc):=⟨_,rfl⟩
 rw[<-hW3] at hb3 HX3 HO HRM HRW ⊢;rw[<-HIE2.out];rw[<-HIE2.out] at HO HRW HN HFR HX3 HGK;have hi1:i<=100000:=by rw[hie];omega
 clear hie hW3 hnl hws;obtain⟨N,hN⟩:∃N,N=i+1:=⟨_,rfl⟩
 rw[<-hN] at HO HRW HN HFR ⊢;have hll:l.length=N:=HN.out;have hin:i<N:=by omega
 have hi2:N<=100001:=by omega
 clear hN hi1;obtain⟨cur,hcur,hct,hcs⟩:OK W3 g l:=by
  obtain⟨g',c',e',-,hk⟩:=HRW.out.row (by omega)
  injection e' with e1 e2 e3
  injection e1 with e1
  injection e1 with e1
  subst e1;exact hk
 have HCI:Hid (cur[i*2+1]?=some (.string ⟨p.q.toArray⟩)):=by
  have h1:=(SJ HP.out).2;rw[<-hct,List.getElem?_take,if_pos (by omega),Array.getElem?_toList] at h1
  exact h1
 have KA:=Lh (Xa (l:=p.q) (l':=nn) (z:=val p.q+val nn) (by omega) (by omega) rfl)
 have KS:=Lh (Wk (l:=s.2) (l':=nn) (z:=val s.2-val nn) (by omega) (by omega) rfl)
 obtain⟨nq,hnq⟩:∃nq,nq=canon (val p.q+val nn):=⟨_,rfl⟩
 obtain⟨nr,hnr⟩:∃nr,nr=canon (val s.2-val nn):=⟨_,rfl⟩
 rw[<-hnq] at KA;rw[<-hnr] at KS;have HNQ:=Lh hnq;have HNR:=Lh hnr;clear hnq hnr;obtain⟨F,hF⟩:∃F:Fx,F=fun b=>if b=g then some (.cells cur 195 (0,0)) else none:=⟨_,rfl⟩
 have f1:F g=some (.cells cur 195 (0,0)):=by rw[hF];exact if_pos rfl
 have hX:∀b,F b≠none->b=g:=fun b hb=>by
  rw[hF] at hb;dsimp only at hb
  by_cases h1:b=g
  ·exact h1
  ·rw[if_neg h1] at hb;exact absurd rfl hb
 have HFF:Hid (∀b ob,F b=some ob->W3.heap[b]?=some ob):=fun b ob h=>by
  rw[hF] at h;dsimp only at h
  by_cases h1:b=g
  ·rw[if_pos h1] at h;rw[h1,<-h];exact hcur
  ·rw[if_neg h1] at h;cases h
 have hno:¬(F bo≠none):=fun h=>by have:=hX _ h;omega
 have hnq':¬(F bq≠none):=fun h=>by have:=hX _ h;omega
 have hlow:∀k,F k≠none->w.heap.size<=k:=fun k hk=>by have:=hX _ hk;omega
 have hlbo:bo<W3.heap.size:=(Ag.1 HO.out).1;obtain⟨tch,htch⟩:∃tch:Nat->List Nat,tch=fun b=>if b=g then [6,11] else []:=⟨_,rfl⟩
 clear hF;refine Z0 tch F (by kernel_rfl) (by kernel_rfl) (by kernel_rfl) HFF.out ?_
 refine Zj _ rfl (fun wz hw=>by have q0:wz.cell? ⟨bo,0,none⟩=some (.slice (some ⟨g,0,none⟩) N cc):=(Zh ((hw.block _ hlbo hno).trans HO.out) 0);go_simp;try with_reducible rfl) ?_
 simp only[Act.put,StT,StZ,StS,Nat.reduceAdd];refine Zj _ rfl (fun wz hw=>by go_simp;try with_reducible rfl) ?_
 simp only[Act.put,StT,StZ,StS,Nat.reduceAdd];refine Zj _ rfl (fun wz hw=>by have q0:wz.cell? ⟨bo,0,none⟩=some (.slice (some ⟨g,0,none⟩) N cc):=(Zh ((hw.block _ hlbo hno).trans HO.out) 0);go_simp;try with_reducible rfl) ?_
 simp only[Act.put,StT,StZ,StS,Nat.reduceAdd];refine Zj _ rfl (fun wz hw=>by go_simp;try with_reducible rfl) ?_
 simp only[Act.put,StT,StZ,StS,Nat.reduceAdd];refine Zj (.pointer (some ⟨g,i*2,none⟩)) rfl (fun wz hw=>by go_simp;try with_reducible rfl) ?_
 simp only[Act.put,StT,StZ,StS,Nat.reduceAdd];refine Zj (.pointer (some ⟨g,i*2+1,none⟩)) rfl (fun wz hw=>by go_simp;try with_reducible rfl) ?_
 simp only[Act.put,StT,StZ,StS,Nat.reduceAdd];refine Xr g cur 195 (.string ⟨p.q.toArray⟩) f1 (by simp[htch]) rfl (fun wz hw hc=>by have q0:wz.cell? ⟨g,i*2+1,none⟩=some (.string ⟨p.q.toArray⟩):=(hc _).trans HCI.out;clear hc;go_simp;try with_reducible rfl) ?_
 simp only[Act.put,StT,StZ,StS,Nat.reduceAdd];refine Zj _ rfl (fun wz hw=>by go_simp;try with_reducible rfl) ?_
 simp only[Act.put,StT,StZ,StS,Nat.reduceAdd];refine Yp _ _ _ rfl (fun wz hw=>by go_simp;try with_reducible rfl) (fun wz hw=>KA.out.e.of hG (hw.lower hb3 hlow)) ?_
 simp only[Act.put,StT,StZ,StS,Nat.reduceAdd];refine Zj (.pointer (some ⟨g,i*2,none⟩)) rfl (fun wz hw=>by go_simp;try with_reducible rfl) ?_
 simp only[Act.put,StT,StZ,StS,Nat.reduceAdd];refine Zj (.pointer (some ⟨g,i*2+1,none⟩)) rfl (fun wz hw=>by go_simp;try with_reducible rfl) ?_
 simp only[Act.put,StT,StZ,StS,Nat.reduceAdd];refine Xs g (i*2+1) cur (.string ⟨nq.toArray⟩) 195 f1 (by simp[htch]) (fun j oj hj=>ZJ (l:=[6,11]) (by kernel_rfl) j oj (by simpa [htch] using hj)) rfl (fun wz hw hc hf=>by have q0:wz.cell? ⟨g,i*2+1,none⟩=some (.string ⟨p.q.toArray⟩):=(hc _).trans HCI.out;have q1:=hf (i*2+1);clear hc hf;go_simp;try with_reducible rfl) ?_
 simp only[Act.put,Nat.reduceAdd];refine Y9 (fun w4 hF4=>?_)
 have hb4:=hF4.below.lower hb3 hlow;have HX4:Hid (Zr (fun k=>k=g) W3 w4):=⟨hF4.below.os,hF4.below.tape,hF4.below.output,hF4.below.size,fun k hk hn=>hF4.below.block k hk (fun h=>hn (hX k h))⟩
 have HO4:Hid (w4.heap[bo]?=some (.cells #[.slice (some ⟨g,0,none⟩) N cc] 45 (0,0))):=(hF4.below.block _ hlbo hno).trans HO.out;have HR4:Hid (w4.heap[bq]?=some (.cells #[.string ⟨s.2.toArray⟩] 32 (0,0))):=(hF4.below.block _ (Ag.1 HRM.out).1 hnq').trans HRM.out;have HW4:Hid (Ys w4 B (.slice (some ⟨g,0,none⟩) N cc) (l.set i ⟨p.lot,nq⟩)):=by
  have h1:Ys W3 B (.slice (some ⟨g,0,none⟩) l.length cc) l:=by rw[HN.out];exact HRW.out
  have h2:=h1.set HP.out nq;rw[HN.out] at h2;refine h2.same (fun g' e=>?_)
  injection e with e
  have e:g=g':=e;subst e;rw[hF4.box g _ (if_pos rfl),hset _ hcur]
 have hs4:=hF4.below.size;clear hF4 f1 hX HFF hno hnq' htch KA HCI hcur hct hcs HRW;have q0:w4.cell? ⟨bq,0,none⟩=some (.string ⟨s.2.toArray⟩):=Zh HR4.out 0;go_wp2_with fail
 with_reducible refine (KS.out.e.of hG hb4).mono ?_
 rintro e w5 ⟨rfl,hb5⟩;clear q0 KS;have q0:w5.cell? ⟨bq,0,none⟩=some (.string ⟨s.2.toArray⟩):=Zh (Zw HR4.out hb5) 0;have q1:w5.frozen? ⟨bq,0,none⟩=false:=Zq (Zw HR4.out hb5) 0;have HFin:Hid (Ld w B bo bq (YE s x most) (.slice A i c) W (.returned (.tuple #[])) (w5.setCell ⟨bq,0,none⟩ (.string ⟨nr.toArray⟩))):=by
  have e:YE s x most=(l.set i ⟨p.lot,nq⟩,nr):=by rw[HNR.out];exact HT.out nq HNQ.out
  rw[e];refine⟨rfl,_,⟨(bto hb4 hb5).setCell (p:=⟨bq,0,none⟩) lq _,lq,lo,lb,?_,hset _ (Zw HR4.out hb5),hoth (Zw HO4.out hb5) (by omega),?_⟩,?_,HFR.out⟩
  ·have h1:=hb5.size;have h2:=HX3.out.size;show B<=(w5.setCell _ _).heap.size;simp;omega
  ·exact (HW4.out.below hb5).far (fun e=>by injection e with e;have e:g=bq:=e;omega)
  ·have h1:=HX3.out.size;have h3:=hb5.size;refine⟨hb5.os.trans (HX4.out.os.trans HX3.out.os),hb5.tape.trans (HX4.out.tape.trans HX3.out.tape),hb5.output.trans (HX4.out.output.trans HX3.out.output),?_,fun k hk hn=>?_⟩
   ·show W.heap.size<=(w5.setCell _ _).heap.size;simp;omega
   ·exact (Below.heap_setCell w5 ⟨bq,0,none⟩ _ k (fun e=>hn (.inr (.inl e)))).trans ((hb5.block k (by omega)).trans ((HX4.out.block k (by omega) (HGK.out k hk hn)).trans (HX3.out.block k hk hn)))
 clear hb4 hb5 HX4 HO4 HR4 HW4;go_wp2
 go_end0
 have h:=HFin.out;rw[HIE2.out] at h;exact h
theorem AT {w W:World} {B bo bq:Nat} {own:List Lot} {Q:Int} {s:List Pk×List UInt8} {v:Value} {x:Lot} {most:List UInt8} (hG:GE w) (hC:NW w B bo bq s v W) (hI:Yw own Q s) (hs:PO x) (hm:most.length<=1000) (hQ:(canon Q).length<=1100) (hl:s.1.length<=100000) :
  Calls Tryz.prog 162 #[(Value.agg #[Value.string ⟨x.id.toArray⟩,Value.string ⟨x.ins.toArray⟩,Value.int .i64 x.acq,Value.int .i64 x.opn,Value.string ⟨x.q.toArray⟩,Value.string ⟨x.cost.toArray⟩,Value.string ⟨x.used.toArray⟩]),.string ⟨most.toArray⟩,.pointer (some ⟨bo,0,none⟩),.pointer (some ⟨bq,0,none⟩)] W (Ld w B bo bq (YE s x most) v W):=by
 by_cases h:0<=ZO (Z1 x.id) s.1 0
 ·exact En hG hC hI hs hm hQ hl h
 ·exact Gj hG hC hI hs hm hQ hl (by omega)
def Je (p:Pk):Bool:=!decide (p.q=canon (val p.q))||!decide (0<val p.q)
def chE (xs:List Lot) (I q:List UInt8) (m:Int) (ps:List Pk):Int:=
 if Vj xs≠0 then 1 else if ¬q=canon (val q) then 1 else if m=5/\ps.any Je=true then 1 else if m<1∨7<=m then 7 else if val q<=0 then 2 else if XO (ofL I xs)<val q then 15 else 0
theorem Jf {xs:List Lot} {I q:List UInt8} {m:Int} {ps:List Pk} (h:chE xs I q m ps=0):Vj xs=0/\q=canon (val q)/\¬(m=5/\ps.any Je=true)/\1<=m/\m<=6/\0<val q/\val q<=XO (ofL I xs):=by
 unfold chE at h
 by_cases h1:Vj xs≠0
 ·rw[if_pos h1] at h;exact absurd h (by decide)
 rw[if_neg h1] at h
 by_cases h2:¬q=canon (val q)
 ·rw[if_pos h2] at h;exact absurd h (by decide)
 rw[if_neg h2] at h
 by_cases h3:m=5/\ps.any Je=true
 ·rw[if_pos h3] at h;exact absurd h (by decide)
 rw[if_neg h3] at h
 by_cases h4:m<1∨7<=m
 ·rw[if_pos h4] at h;exact absurd h (by decide)
 rw[if_neg h4] at h
 by_cases h5:val q<=0
 ·rw[if_pos h5] at h;exact absurd h (by decide)
 rw[if_neg h5] at h
 by_cases h6:XO (ofL I xs)<val q
 ·rw[if_pos h6] at h;exact absurd h (by decide)
 exact⟨Decidable.not_not.1 h1,Decidable.not_not.1 h2,h3,by omega,by omega,by omega,by omega⟩
theorem Zbp {p:Pk} (hp:p.q.length<=1000):WN 160 #[.agg #[.string ⟨p.lot.toArray⟩,.string ⟨p.q.toArray⟩]] (.bool (Je p)):=fun w hG=>by
 have hb:=Zd w (.cells #[.string ⟨p.lot.toArray⟩,.string ⟨p.q.toArray⟩] 195);have X1:=Lh (Blk.new w #[.string ⟨p.lot.toArray⟩,.string ⟨p.q.toArray⟩] 195);have C1:=Lh (Yk (l:=p.q) (by omega) rfl)
 have C2:=Lh (VX (l:=p.q) (by omega))
 have HV:Hid (Je p=(!decide (p.q=canon (val p.q))||!decide (0<val p.q))):=rfl
 generalize Je p=R at *;have q1:=X1.out.c 1
 by_cases g:p.q=canon (val p.q)
 ·have HV2:Hid (R = !decide (0<val p.q)):=by show _=_;rw[HV.out,Dt g];rfl
  rw[if_pos g] at C1;generalize decide (0<val p.q)=nb at *;clear HV g;go_enter Tryz.func160,Tryz.ntmps160;go_wp2_with fail
  with_reducible refine (C1.out.e.of hG hb).mono ?_
  rintro e w1 ⟨rfl,hb1⟩;clear q1;have q1:=(X1.out.below hb1).c 1;replace hb:=bto hb hb1;go_wp2_with fail
  with_reducible refine (C2.out.e.of hG hb).mono ?_
  rintro e w2 ⟨rfl,hb2⟩;go_wp2;go_ret;exact⟨Z4 HV2.out.symm,bto hb hb2⟩
 ·have HV2:Hid (R=true):=by show _=_;rw[HV.out,Df g];rfl
  rw[if_neg g] at C1;clear HV g C2;go_enter Tryz.func160,Tryz.ntmps160;go_wp2_with fail
  with_reducible refine (C1.out.e.of hG hb).mono ?_
  rintro e w1 ⟨rfl,hb1⟩;go_wp2;go_ret;exact⟨Z4 HV2.out.symm,bto hb hb1⟩
theorem Gk (args:Array Value) (w:World):(callFunc 160 args).run Tryz.prog w=.ok (.enter 160 args) w:=by kernel_rfl
theorem Gl (args:Array Value) (w:World):(callFunc 162 args).run Tryz.prog w=.ok (.enter 162 args) w:=by kernel_rfl
theorem Ni {α:Type} [DecidableEq α]:∀(l m:List α),l.Nodup->(∀x∈l,x∈m)->l.length<=m.length
 | [],m,_,_=>Nat.zero_le _
 | a::l,m,hn,hs=>by
  have hn':=List.nodup_cons.1 hn;have ha:=hs a List.mem_cons_self;have ih:=Ni l (m.erase a) hn'.2 (fun x hx=>(List.mem_erase_of_ne (fun e=>hn'.1 (by rw[<-e];exact hx))).2 (hs x (List.mem_cons_of_mem _ hx)))
  rw[List.length_erase_of_mem ha] at ih
  have:=List.length_pos_of_mem ha
  simp only[List.length_cons];omega
theorem Yw.len {own:List Lot} {Q:Int} {s:List Pk×List UInt8} (h:Yw own Q s):s.1.length<=own.length:=by
 have:=Ni (s.1.map (·.lot)) (own.map (·.id)) h.nd (fun x hx=>by
  obtain⟨p,hp,rfl⟩:=List.mem_map.1 hx;obtain⟨y,hy,e⟩:=h.mem p hp
  exact List.mem_map.2 ⟨y,hy,e⟩)
 simpa using this
theorem NX {own:List Lot} {q:List UInt8} (hq:q=canon (val q)) (h0:0<=val q):Yw own (val q) ([],q):=
 ⟨by show YV []+val q=val q;simp[YV],h0,hq,fun p hp=>(by cases hp),by simp,fun p hp=>(by cases hp)⟩
theorem Ys.base {w:World} {B B':Nat} {v:Value} {xs:List Pk} (h:Ys w B v xs) (hb:B'<=B):Ys w B' v xs:=by
 refine⟨h.1,?_⟩;rcases h.2 with h2|⟨g,cap,cur,ev,hB,r⟩
 ·exact .inl h2
 ·exact .inr ⟨g,cap,cur,ev,Nt hb hB,r⟩
def OM (own:List Lot) (q:List UInt8) (m:Int) (ps:List Pk):List Pk×List UInt8:=if m=5 then NS own ps ([],q) else ([],q)
def BW (w:World) (own:List Lot) (q:List UInt8) (m:Int) (ps:List Pk) (e:Ending) (w':World):Prop:=
 ∃v zs,e=.returned (.tuple #[v,.int .i64 0])/\Below w.heap.size w w'/\zs.Perm own/\(m=1->own.length<=20->OI cfF own->zs=own)/\Ys w' w.heap.size v (YF zs (OM own q m ps)).1
theorem Eo {w:World} {A Ap:Option Addr} {xs:List Lot} {ps:List Pk} {n np:Nat} (c cp:Nat) {I q:List UInt8} (hG:GE w) (hL:Xl w A xs n) (hP:UG w Ap ps) (hpn:ps.length=np) (hpn2:np<=100000) (hps:∀p∈ps,p.lot.length<=1000/\p.q.length<=1000) (hql:q.length<=1000) (hE:chE xs I q 1 ps=0) (hn19:n<20) :
  Calls Tryz.prog 93 #[.slice A n c,.string ⟨I.toArray⟩,.string ⟨q.toArray⟩,.int .i64 1,.slice Ap np cp] w (BW w (ofL I xs) q 1 ps):=by
 obtain⟨c1,c2,c3,c4,c5,c6,c7⟩:=Jf hE;have hb:=Zd w (.cells #[.string ⟨q.toArray⟩] 32);have HQ:Hid ((w.alloc (.cells #[.string ⟨q.toArray⟩] 32)).heap[w.heap.size]?=some (.cells #[.string ⟨q.toArray⟩] 32 (0,0))):=ZF w _;have K1:=Lh (Qb c (hG.below hb) (hL.below hb));rw[c1] at K1;have K2:=Lh (Yk (l:=q) (c:=0) (by omega) (if_pos c2))
 have K3:=Lh (fun (w':World) (hb':Below w.heap.size w w')=>F6 _ Gk Je #[] Ap ps np cp w' hpn (by omega) (hP.below hb') (fun p hp w2 hb2=>Zbp (hps p hp).2 w2 ((hG.below hb').below hb2)))
 have K4:=Lh (fun (w':World)=>Ek w')
 have K5:=Lh (fun (w':World) (hb':Below w.heap.size w w')=>AE c I (hG.below hb') (hL.below hb'))
 have K6:=Lh (VX (l:=q) (by omega))
 rw[Dt c6] at K6;obtain⟨own,hown⟩:∃own,own=ofL I xs:=⟨_,rfl⟩
 have hosm:∀x∈own,PO x:=fun x hx=>by rw[hown] at hx;exact hL.sm x ((List.mem_filter.1 hx).1)
 have hol:own.length<=100000:=by
  have h1:own.length<=xs.length:=by rw[hown];exact List.length_filter_le _ _
  have:=hL.len
  have:=hL.big
  omega
 have hol19:own.length<20:=by
  have h1:own.length<=xs.length:=by rw[hown];exact List.length_filter_le _ _
  have:=hL.len
  omega
 have hol1:1<=own.length:=by
  rcases Nat.eq_zero_or_pos own.length with h|h
  ·have:own=[]:=List.eq_nil_of_length_eq_zero h
   rw[<-hown,this] at c7;have e:XO []=0:=rfl;omega
  ·exact h
 have K8:=Lh (fun (w':World) (hb':Below w.heap.size w w')=>lOf c I (hL.below hb'))
 rw[<-hown] at K5 K8 c7 ⊢;obtain⟨sq,hsq⟩:∃sq,sq=canon (XO own):=⟨_,rfl⟩
 obtain⟨sc,hsc⟩:∃sc,sc=canon (Vy own):=⟨_,rfl⟩
 rw[<-hsq,<-hsc] at K5;obtain⟨cc,hcc⟩:∃cc,cc=Zx (val sq) (val q):=⟨_,rfl⟩
 have hsql:sq.length<=100000:=by rw[hsq];exact VD (fun x=>x.q) own (fun x hx=>(hosm x hx).q) hol
 have K7:=Lh (Zv (l:=sq) (l':=q) (by omega) (by omega) hcc.symm)
 have hcc0:¬cc<0:=by
  rw[hcc,hsq,Zg];unfold Zx;rw[if_neg (by omega)]
  split<;>omega
 have e7:decide (cc<0)=false:=Df hcc0;have HQI:=Lh (NX (own:=own) c2 (Int.le_of_lt c6));have HQL:Hid ((canon (val q)).length<=1100):=by rw[<-c2];show q.length<=1100;omega
 have HOS:=Lh hosm;have HPA:=Lh hP;have HPS:=Lh hps;have HPN:=Lh hpn;have HC3:=Lh c3;have lq:w.heap.size<=w.heap.size:=Nl _;clear hE c1 c2 c3 c6 c7 hown hosm hsq hsc hcc hsql hcc0 hL hP hps hpn hql;obtain⟨bq,hbq⟩:∃bq,bq=w.heap.size:=⟨_,rfl⟩
 rw[<-hbq] at HQ;have lq:w.heap.size<=bq:=by omega
 clear HC3 K3 c4 c5;go_enter Tryz.func93,Tryz.ntmps93;go_wp2_with fail;rw[<-hbq];have HBQ:=Lh hbq;clear hbq;refine K1.out.mono ?_;rintro e w1 ⟨rfl,hb1⟩;replace hb:=bto hb hb1;replace HQ:=Lh (Zw HQ.out hb1);have q0:w1.cell? ⟨bq,0,none⟩=some (.string ⟨q.toArray⟩):=Zh HQ.out 0;clear K1 hb1;go_wp2_with fail
 with_reducible refine (K2.out.e.of hG hb).mono ?_
 rintro e w2 ⟨rfl,hb2⟩;replace hb:=bto hb hb2;replace HQ:=Lh (Zw HQ.out hb2);clear K2 hb2 q0;go_wp2_with fail;refine (K4.out _).mono ?_;rintro e w3 ⟨nm,f,cap,rv,bf,rfl,hbf,hB,hb3,-,hm1⟩;obtain⟨rfl,rfl,rfl⟩:=hm1 rfl;have hb3':=Zd w3 (.cells #[.string ⟨nm.toArray⟩,.func (.func 269) #[] (Gg false bf),.bool false] 240);have HE:Hid (Blk (w3.alloc (.cells #[.string ⟨nm.toArray⟩,.func (.func 269) #[] (Gg false bf),.bool false] 240)) w3.heap.size #[.string ⟨nm.toArray⟩,.func (.func 269) #[] (Gg false bf),.bool false]):=Blk.new w3 _ 240;have HB:=Lh (hB.below hb3');replace hb:=bto (bto hb hb3) hb3';replace HQ:=Lh (Zw (Zw HQ.out hb3) hb3');clear K4 hb3 hb3' hB hm1 hbf;go_wp2_with fail;refine (K5.out _ hb).mono ?_;rintro e w4 ⟨rfl,hb4⟩;replace HE:=Lh (HE.out.below hb4);replace HB:=Lh (HB.out.below hb4);replace hb:=bto hb hb4;replace HQ:=Lh (Zw HQ.out hb4);have q0:w4.cell? ⟨bq,0,none⟩=some (.string ⟨q.toArray⟩):=Zh HQ.out 0;clear K5 hb4;go_wp2_with fail
 with_reducible refine (K6.out.e.of hG hb).mono ?_
 rintro e w5 ⟨rfl,hb5⟩;replace HE:=Lh (HE.out.below hb5);replace HB:=Lh (HB.out.below hb5);replace hb:=bto hb hb5;replace HQ:=Lh (Zw HQ.out hb5);clear q0 K6 hb5;have q0:w5.cell? ⟨bq,0,none⟩=some (.string ⟨q.toArray⟩):=Zh HQ.out 0;go_wp2_with fail
 with_reducible refine (K7.out.e.of hG hb).mono ?_
 rintro e w6 ⟨rfl,hb6⟩;replace HE:=Lh (HE.out.below hb6);replace HB:=Lh (HB.out.below hb6);replace hb:=bto hb hb6;replace HQ:=Lh (Zw HQ.out hb6);clear q0 K7 hb6;go_wp2_with fail;refine (K8.out _ hb).mono ?_;rintro e w7 ⟨v0,rfl,hro,hb7⟩;replace HE:=Lh (HE.out.below hb7);replace HB:=Lh (HB.out.below hb7);replace hb:=bto hb hb7;replace HQ:=Lh (Zw HQ.out hb7);obtain⟨Ao,co,rfl⟩:∃Ao co,v0=.slice Ao own.length co:=by
  rcases hro.2 with ⟨hv,h1⟩|⟨g,cap,cur,hv,-⟩
  ·omega
  ·exact⟨_,_,hv⟩
 obtain⟨g0,rfl,hg0,hr0⟩:=MQ hro rfl hol1;have HRO:=Lh hr0;clear K8 hb7 hro hr0 e7;have hbo:=Zd w7 (.cells #[.slice none 0 0] 45);have hsz:(w7.alloc (.cells #[.slice none 0 0] 45)).heap.size=w7.heap.size+1:=by simp
 have hqlt:bq<w7.heap.size:=(Ag.1 HQ.out).1;have helt:w3.heap.size<w7.heap.size:=HE.out.lt;have hblt:bf<w7.heap.size:=HB.out.lt;have hglt:g0<w7.heap.size:=HRO.out.lt;have hgq:g0≠bq:=fun e=>by
  obtain⟨cur,h0,-⟩:=HRO.out;rw[e,HQ.out] at h0;simp at h0
 have heq:w3.heap.size≠bq:=fun e=>by
  obtain⟨t0,h0⟩:=HE.out;rw[e,HQ.out] at h0;simp at h0
 have hfq:bf≠bq:=fun e=>by
  obtain⟨t0,h0⟩:=HB.out;rw[e,HQ.out] at h0;simp at h0
 have HC:Hid (NW w (w7.heap.size+1) w7.heap.size bq ([],q) (.slice none 0 0) (w7.alloc (.cells #[.slice none 0 0] 45))):=⟨bto hb hbo,lq,hqlt,Nat.lt_succ_self _,by rw[hsz];exact Nl _,Zw HQ.out hbo,ZF w7 _,Em _ _⟩
 replace HE:=Lh (HE.out.below hbo);replace HB:=Lh (HB.out.below hbo);replace HRO:=Lh (HRO.out.below hbo);clear hbo hsz hb HQ;obtain⟨bo,hbo⟩:∃bo,bo=w7.heap.size:=⟨_,rfl⟩
 obtain⟨be,hbe⟩:∃be,be=w3.heap.size:=⟨_,rfl⟩
 obtain⟨B,hB⟩:∃B,B=bo+1:=⟨_,rfl⟩
 obtain⟨N,hN⟩:∃N,N=own.length:=⟨_,rfl⟩
 rw[<-hbo,<-hB] at HC;rw[<-hbo] at hqlt helt hblt hglt;rw[<-hbe] at HE helt heq;have hEn:=fun args w=>Gl args w
 have hboB:bo<B:=by omega
 have HBO:=Lh hbo;have HBE:=Lh hbe;have HNN:=Lh hN;have hN1:1<=N:=by omega
 have hN2:N<=100000:=by omega
 clear hbo hbe hB hN;have HI:=HQI;have HS1:Hid (OM own q 1 ps=([],q)):=if_neg (by decide)
 go_upto_region 24 with fail
 rw[<-HBO.out,<-HBE.out,<-HNN.out];have KSo:=Lh (Cr co (hG.below HC.out.below) ⟨HNN.out.symm,hN2,HOS.out,HRO.out.lotAt⟩ hN1 (by have:=HNN.out;omega) nm bf HB.out)
 have q1:=HE.out.c 0;have q2:=HE.out.c 1;have q3:=HE.out.c 2;go_wp2_with fail;refine KSo.out.mono ?_;rintro e w9 ⟨gs,cps,zs,rfl,hgs,hrs,hperm,hb9,hord⟩;have hvb:=HC.out.row.block;have hle:=HC.out.le;have HVG:Hid (Value.ownBlock (.slice none 0 0)≠some gs):=fun e=>by have:=(hvb gs e).2;omega
 have hgbo:gs≠bo:=by omega
 have hgbq:gs≠bq:=by omega
 replace HC:=Lh (HC.out.go hb9);have HRS:=Lh hrs;have HPE:=Lh hperm;have HOR:=Lh hord;have hzl:zs.length=N:=hperm.length_eq.trans HNN.out.symm;have hz1:zs.length<=N:=by omega
 have hz2:N<=zs.length:=by omega
 clear hvb hle hgs hrs hperm hb9 hord hzl q1 q2 q3 KSo HE HB HRO;go_wp2_with fail
 rename World=>wo
 go_loopw [24,95] (fun _ iv wr=>∃(k:Nat) (s:List Pk×List UInt8) (v:Value),k<=N/\iv=.int .i64 (k:Int)/\Hid (NW w B bo bq s v wr)/\Hid (Yw own (val q) s)/\Hid (YF (zs.drop k) s=YF zs (([],q):List Pk×List UInt8))/\Hid (YD wr gs zs)/\Hid (v.ownBlock≠some gs)) (fun _ iv _=>N-(intOf iv).toNat)
 case atStart=>exact⟨0,_,_,Nat.zero_le _,rfl,HC.out,HI.out,rfl,HRS.out,HVG.out⟩
 case round=>
  clear HC HI HRS HVG;obtain⟨k,s,v,hk,rfl,HC,HI,HRE,HRS,HVG⟩:=hrel
  by_cases hlk:k<N
  rotate_left
  ·have e1:decide (k<N)=false:=Df hlk;have e2:decide ((k:Int)<(N:Int))=false:=Df (by omega)
   have q0:wr.cell? ⟨bo,0,none⟩=some v:=Zh HC.out.out 0;have HF:Hid (BW w own q 1 ps (.returned (.tuple #[v,.int .i64 0])) wr):=by
    have e:s=YF zs (OM own q 1 ps):=by
     have h:=HRE.out;rw[List.drop_of_length_le (by omega)] at h
     rw[HS1.out];exact h
    refine⟨v,zs,rfl,HC.out.below,HPE.out,fun hm h20 ho=>?_,?_⟩
    · exact HOR.out (by trivial) (by trivial) (by have:=HNN.out;omega) ho
    ·rw[<-e];exact HC.out.row.base (by have:=HC.out.lq;have:=HC.out.lo;have:=HC.out.lb;omega)
   obtain⟨A1,c1,rfl⟩:=HC.out.row.form;clear HC HI HRE HRS HVG;go_wp2;go_ret2;exact HF.out
  have e1:decide (k<N)=true:=Dt hlk;have e2:decide ((k:Int)<(N:Int))=true:=Dt (by omega)
  obtain⟨x,hx⟩:∃x,zs[k]?=some x:=⟨_,List.getElem?_eq_getElem (by omega)⟩
  have hxo:x∈own:=HPE.out.subset (Lm hx);have hxs:=HOS.out x hxo;have hcells:=HRS.out.cells hx;have p0:=hcells.c0;have p1:=hcells.c1;have p2:=hcells.c2;have p3:=hcells.c3;have p4:=hcells.c4;have p5:=hcells.c5;have p6:=hcells.c6;have hbA:=Zd wr (.cells #[Value.string ⟨x.id.toArray⟩,Value.string ⟨x.ins.toArray⟩,Value.int .i64 x.acq,Value.int .i64 x.opn,Value.string ⟨x.q.toArray⟩,Value.string ⟨x.cost.toArray⟩,Value.string ⟨x.used.toArray⟩] 130);have x1:=Xf.new wr x 130;have q0:=x1.c0;have q1:=x1.c1;have q2:=x1.c2;have q3:=x1.c3;have q4:=x1.c4;have q5:=x1.c5;have q6:=x1.c6;have KT:=Lh (AT hG (HC.out.go hbA) HI.out hxs hxs.q HQL.out (Nt HI.out.len (by have:=HNN.out;omega)))
  have HD:Hid (zs.drop k=x::zs.drop (k+1)):=by
   obtain⟨hk2,rfl⟩:=Lg.1 hx;exact List.drop_eq_getElem_cons hk2
  have HI2:=Lh (P1 x.q HI.out hxo).1;have hgl:=HRS.out.lt;have HRA:=Lh (HRS.out.below hbA);have hsa:(wr.alloc (.cells #[Value.string ⟨x.id.toArray⟩,Value.string ⟨x.ins.toArray⟩,Value.int .i64 x.acq,Value.int .i64 x.opn,Value.string ⟨x.q.toArray⟩,Value.string ⟨x.cost.toArray⟩,Value.string ⟨x.used.toArray⟩] 130)).heap.size=wr.heap.size+1:=by simp
  have HSA:=Lh hsa;clear hx hxo hxs hcells x1 hbA hsa;go_wp2_with fail;refine KT.out.mono ?_;rintro e w10 ⟨rfl,v',hc',hx',hf'⟩;have HC':=Lh hc'
  have HRS':Hid (YD w10 gs zs):=HRA.out.keepX hx' (fun h=>by
   rcases h with h|h|h
   ·exact hgbo h
   ·exact hgbq h
   ·exact HVG.out h)
  have HVG':Hid (v'.ownBlock≠some gs):=fun e=>by
   rcases hf' gs e with h|h
   ·exact HVG.out h
   ·have:=HSA.out;omega
  have HRE':Hid (YF (zs.drop (k+1)) (YE s x x.q)=YF zs (([],q):List Pk×List UInt8)):=by
   have h:=HRE.out;rw[HD.out] at h;exact h
  clear p0 p1 p2 p3 p4 p5 p6 q0 q1 q2 q3 q4 q5 q6 e1 e2 KT hc' hx' hf' HC HI HRE HRS HVG HRA HD hgl HSA;go_wp2;go_roundw
  case rel=>exact⟨k+1,_,v',by omega,by go_num,HC'.out,HI2.out,HRE'.out,HRS'.out,HVG'.out⟩
  case measure=>simp[intOf];omega
theorem Zbq (p r:Pk) (bx:Nat) (w:World) (h:Blk w bx #[.string ⟨r.lot.toArray⟩,.string ⟨r.q.toArray⟩]) :
  Calls Tryz.prog 276 #[.agg #[.string ⟨p.lot.toArray⟩,.string ⟨p.q.toArray⟩],.pointer (some ⟨bx,0,none⟩)] w fun e w'=>e=.returned (.bool (Z1 r.lot p))/\Below w.heap.size w w':=by
 have hb:=Zd w (.cells #[.string ⟨p.lot.toArray⟩,.string ⟨p.q.toArray⟩] 195);have x1:=Blk.new w #[.string ⟨p.lot.toArray⟩,.string ⟨p.q.toArray⟩] 195;have p0:=x1.c 0;have p1:=(h.below hb).c 0;have HV:Hid (Z1 r.lot p=(p.lot==r.lot)):=rfl;have he:=U5 p.lot r.lot;generalize Z1 r.lot p=R at *;clear h x1;go_enter Tryz.func276,Tryz.ntmps276;go_wp2;go_ret;refine⟨Z4 ?_,hb⟩;rw[HV.out]<;>first|exact he|rfl
theorem Gm (args:Array Value) (w:World):(callFunc 276 args).run Tryz.prog w=.ok (.enter 276 args) w:=by kernel_rfl
theorem Ep {α:Type} {xs:List α} {i:Nat} {x:α} (h:xs[i]?=some x):i<xs.length:=(Lg.1 h).1
theorem Jg {xs:List Lot} {ps:List Pk} {k:Nat} {p:Pk} (h:ps[k]?=some p):VA xs (ps.take k) (ps.drop k)=if ZO (isLt p.lot) xs 0<0 then 6 else if (ps.take k).any (Z1 p.lot)=true then 5 else if ¬p.q=canon (val p.q) then 1 else if val p.q<=0 then 2 else
   if val (xs.getD (ZO (isLt p.lot) xs 0).toNat ⟨[],[],0,0,[],[],[]⟩).q<val p.q then 15 else VA xs (ps.take (k+1)) (ps.drop (k+1)):=by
 obtain⟨hk,rfl⟩:=Lg.1 h;rw[List.drop_eq_getElem_cons hk,List.take_succ_eq_append_getElem hk];rfl
theorem Gp {w:World} {A Ap:Option Addr} {xs:List Lot} {ps:List Pk} {n np:Nat} (c cp:Nat) (hG:GE w) (hL:Xl w A xs n) (hP:UG w Ap ps) (hpn:ps.length=np) (hpc:np<=cp) (hpn2:np<=100000) (hps:∀p∈ps,p.lot.length<=1000/\p.q.length<=2000) :
  Calls Tryz.prog 213 #[.slice A n c,.pointer none,.slice Ap np cp] w fun e w'=>e=.returned (.int .i64 (VA xs [] ps))/\Below w.heap.size w w':=by
 have hn2:=hL.big;have HL:=Lh hL;have HP:=Lh hP;have HPS:=Lh hps;have HPN:=Lh hpn;have hp1:ps.length<=np:=by omega
 have hp2:np<=ps.length:=by omega
 obtain⟨E,hE⟩:∃E,E=VA xs [] ps:=⟨_,rfl⟩
 rw[<-hE];have HE:Hid (E=VA xs (ps.take 0) (ps.drop 0)):=hE;have hb0:=Below.refl w.heap.size w;clear hL hP hps hpn hE;go_enter Tryz.func213,Tryz.ntmps213;go_wp2_with fail
 go_loopw [7,8,9,10,13,18,25,28,42,48,53,58] (fun _ _ _ _ iv _ _ _ _ _ _ _ wr=>∃k:Nat,k<=np/\iv=.int .i64 (k:Int)/\Hid (E=VA xs (ps.take k) (ps.drop k))/\Below w.heap.size w wr) (fun _ _ _ _ iv _ _ _ _ _ _ _ _=>np-(intOf iv).toNat)
 case atStart=>exact⟨0,Nat.zero_le _,rfl,HE.out,hb0⟩
 case round=>
  clear HE hb0;obtain⟨k,hk,rfl,HE,hb⟩:=hrel
  by_cases hlk:k<np
  rotate_left
  ·have HQ:Hid (E=0):=by
    have h:=HE.out;rw[List.drop_of_length_le (by omega)] at h
    exact h
   have e1:decide (k<np)=false:=Df hlk;have e2:decide ((k:Int)<(np:Int))=false:=Df (by omega)
   clear HE;go_wp2;go_ret;exact⟨ZN HQ.out.symm,hb⟩
  have e1:decide (k<np)=true:=Dt hlk;have e2:decide ((k:Int)<(np:Int))=true:=Dt (by omega)
  obtain⟨p,hp⟩:∃p,ps[k]?=some p:=⟨_,List.getElem?_eq_getElem (by omega)⟩
  have hpz:=HPS.out p (Lm hp);obtain⟨bp,op,rfl,hbps,p0,p1⟩:=(HP.out.below hb) k p hp;have hbA:=Zd wr (.cells #[.string ⟨p.lot.toArray⟩,.string ⟨p.q.toArray⟩] 195);have X1:=Lh (Blk.new wr #[.string ⟨p.lot.toArray⟩,.string ⟨p.q.toArray⟩] 195);have q0:=X1.out.c 0;have HV:=Lh (HE.out.trans (Jg hp));replace hb:=bto hb hbA;have KF:=Lh (BR c p.lot HL.out.len hn2 (HL.out.mem.below hb));obtain⟨bx,hbx⟩:∃bx,bx=wr.heap.size:=⟨_,rfl⟩
  rw[<-hbx] at X1 q0;have HBX:=Lh hbx;have hkc:(k:Int)<=(cp:Int):=by omega
  clear hp hbA HE hbx;go_wp2_with fail;rw[<-HBX.out];refine KF.out.mono ?_;rintro e w1 ⟨rfl,hb1⟩;clear p0 p1 q0 KF e1 e2;replace X1:=Lh (X1.out.below hb1);replace hb:=bto hb hb1;clear hb1
  by_cases g1:ZO (isLt p.lot) xs 0<0
  ·have HQ:Hid (E=6):=by show _=_;rw[HV.out,if_pos g1]
   rw[Df (by omega:¬0<=ZO (isLt p.lot) xs 0)]
   clear g1 HV X1;go_wp2;go_ret;exact⟨ZN HQ.out.symm,hb⟩
  have HV1:=Lh (HV.out.trans (if_neg g1));obtain⟨i,x,hzi,hxi,-,-⟩:=Vz _ _ _ (Int.not_lt.1 g1);rw[Nat.zero_add] at hzi;have hpos:F7 (ZO (isLt p.lot) xs 0)=(i:Int):=by rw[hzi];exact if_pos (by omega)
  rw[Dt (Int.not_lt.1 g1),hpos];have hxq:xs.getD (ZO (isLt p.lot) xs 0).toNat ⟨[],[],0,0,[],[],[]⟩=x:=by rw[hzi,Int.toNat_natCast,List.getD_eq_getElem?_getD,hxi];rfl
  rw[hxq] at HV1;have hiN:i<n:=by rw[<-HL.out.len];exact Ep hxi
  have hxs:=HL.out.sm x (Lm hxi);have KP:=Lh (fun (w':World) (hb':Below w1.heap.size w1 w')=>F6 _ Gm (Z1 p.lot) #[.pointer (some ⟨bx,0,none⟩)] (some ⟨bp,op,none⟩) (ps.take k) k cp w' (by rw[List.length_take];omega) (by omega) (((HP.out.below hb).below hb').take k) (fun r _ w2 hb2=>Zbq r p bx w2 ((X1.out.below hb').below hb2)))
  have HXI:=Lh hxi;clear g1 HV hzi hxi hpos hxq;go_wp2_with fail;refine Zm (by kernel_rfl) (by kernel_rfl) ?_
  iterate 3
   refine Zb _ (fun _=>rfl) (fun ρ wz hw=>by go_simp;try with_reducible rfl) ?_
   simp only[Act.put,StT,StZ,StS,Nat.reduceAdd]
  iterate 9
   refine Yb (fun _=>rfl) ?_
   simp only[Act.put,StT,StZ,StS,Nat.reduceAdd]
  iterate 2
   refine Zb _ (fun _=>rfl) (fun ρ wz hw=>by go_simp;try with_reducible rfl) ?_
   simp only[Act.put,StT,StZ,StS,Nat.reduceAdd]
  intro ρ w2 hF;dsimp only;have hbF:=hF.below;clear hF;go_wp2_with fail;refine (KP.out _ hbF).mono ?_;rintro e w3 ⟨rfl,hb3⟩;replace X1:=Lh ((X1.out.below hbF).below hb3);replace hb:=bto (bto hb hbF) hb3;clear hbF hb3 KP
  by_cases g2:(ps.take k).any (Z1 p.lot)=true
  ·have HQ:Hid (E=5):=by show _=_;rw[HV1.out,if_pos g2]
   rw[g2];clear g2 HV1 X1;go_wp2;go_ret;exact⟨ZN HQ.out.symm,hb⟩
  have HV2:=Lh (HV1.out.trans (if_neg g2));rw[Yo g2];have K1:=Lh (Yk (l:=p.q) (by omega) rfl)
  have q1:=X1.out.c 1;clear g2 HV1
  by_cases g3:p.q=canon (val p.q)
  rotate_left
  ·have HQ:Hid (E=1):=by show _=_;rw[HV2.out,if_pos g3]
   rw[if_neg g3] at K1;clear g3 HV2;go_wp2_with fail
   with_reducible refine (K1.out.e.of hG hb).mono ?_
   rintro e w4 ⟨rfl,hb4⟩;replace hb:=bto hb hb4;go_wp2;go_ret;exact⟨ZN HQ.out.symm,hb⟩
  have HV3:=Lh (HV2.out.trans (if_neg (fun h=>h g3)))
  rw[if_pos g3] at K1;clear g3 HV2;go_wp2_with fail
  with_reducible refine (K1.out.e.of hG hb).mono ?_
  rintro e w4 ⟨rfl,hb4⟩;replace X1:=Lh (X1.out.below hb4);replace hb:=bto hb hb4;clear hb4 q1 K1;have q1:=X1.out.c 1;have K2:=Lh (VX (l:=p.q) (by omega))
  by_cases g4:val p.q<=0
  ·have HQ:Hid (E=2):=by show _=_;rw[HV3.out,if_pos g4]
   rw[Df (by omega:¬0<val p.q)] at K2
   clear g4 HV3;go_wp2_with fail
   with_reducible refine (K2.out.e.of hG hb).mono ?_
   rintro e w5 ⟨rfl,hb5⟩;replace hb:=bto hb hb5;go_wp2;go_ret;exact⟨ZN HQ.out.symm,hb⟩
  have HV4:=Lh (HV3.out.trans (if_neg g4));rw[Dt (by omega:0<val p.q)] at K2
  clear g4 HV3;go_wp2_with fail
  with_reducible refine (K2.out.e.of hG hb).mono ?_
  rintro e w5 ⟨rfl,hb5⟩;replace X1:=Lh (X1.out.below hb5);replace hb:=bto hb hb5;clear hb5 q1 K2;obtain⟨b,o,rfl,hbs,hcx⟩:=(HL.out.mem.below hb) i x HXI.out;have HXC:=Lh hcx;obtain⟨cc,hcc⟩:∃cc,cc=Zx (val p.q) (val x.q):=⟨_,rfl⟩
  have hxsq:=hxs.q;have KC:=Lh (Zv (l:=p.q) (l':=x.q) (by omega) (by omega) hcc.symm)
  have hci:0<cc↔val x.q<val p.q:=by
   rw[hcc];unfold Zx
   split
   ·omega
   ·split<;>omega
  obtain⟨bv,hbv⟩:∃bv,bv=decide (0<cc):=⟨_,rfl⟩
  have HBV:=Lh hbv;clear hcx hcc hbv;go_wp2_with fail;refine Zm (by kernel_rfl) (by kernel_rfl) ?_
  refine Zb _ (fun _=>rfl) (fun ρ wz hw=>by go_simp;try with_reducible rfl) ?_
  simp only[Act.put,StT,StZ,StS,Nat.reduceAdd];refine Zb _ (fun _=>rfl) (fun ρ wz hw=>by have q0:=(X1.out.below hw).c 1;go_simp;try with_reducible rfl) ?_
  iterate 2
   simp only[Act.put,StT,StZ,StS,Nat.reduceAdd];refine Zb _ (fun _=>rfl) (fun ρ wz hw=>by go_simp;try with_reducible rfl) ?_
  simp only[Act.put,StT,StZ,StS,Nat.reduceAdd];refine Zb (.pointer (some ⟨b,o+i*7,none⟩)) (fun _=>rfl) (fun ρ wz hw=>by go_simp;try with_reducible rfl) ?_
  simp only[Act.put,StT,StZ,StS,Nat.reduceAdd];refine Zb (.pointer (some ⟨b,o+i*7+4,none⟩)) (fun _=>rfl) (fun ρ wz hw=>by go_simp;try with_reducible rfl) ?_
  simp only[Act.put,StT,StZ,StS,Nat.reduceAdd];refine Zb _ (fun _=>rfl) (fun ρ wz hw=>by have q0:=(HXC.out.below hbs hw).c4;go_simp;try with_reducible rfl) ?_
  simp only[Act.put,StT,StZ,StS,Nat.reduceAdd];refine Zl _ _ _ (fun _=>rfl) (fun ρ wz hw=>by go_simp;try with_reducible rfl) (fun wz hw=>KC.out.e.of hG (bto hb hw)) ?_
  simp only[Act.put,StT,StZ,StS,Nat.reduceAdd];refine Zb (.bool bv) (fun _=>rfl) (fun ρ wz hw=>by rw[HBV.out];go_simp;try with_reducible rfl) ?_
  simp only[Act.put,StT,StZ,StS,Nat.reduceAdd];refine Zb _ (fun _=>rfl) (fun ρ wz hw=>by go_simp;try with_reducible rfl) ?_
  simp only[Act.put,StT,StZ,StS,Nat.reduceAdd];intro ρ w6 hF;dsimp only;replace hb:=bto hb hF.below;clear hF KC HXC X1;have hbv:=HBV.out;clear HBV;cases bv;rotate_left
  ·have g5:val x.q<val p.q:=hci.1 (of_decide_eq_true hbv.symm);have HQ:Hid (E=15):=by show _=_;rw[HV4.out,if_pos g5]
   clear g5 HV4 hci hbv;go_wp2;go_ret;exact⟨ZN HQ.out.symm,hb⟩
  ·have g5:¬val x.q<val p.q:=fun h=>of_decide_eq_false hbv.symm (hci.2 h)
   have HQ:Hid (E=VA xs (ps.take (k+1)) (ps.drop (k+1))):=by show _=_;rw[HV4.out,if_neg g5]
   clear g5 HV4 hci hbv;go_wp2;go_roundw
   case rel=>exact⟨k+1,by omega,by go_num,HQ.out,hb⟩
   case measure=>simp[intOf];omega
theorem Er (cs:Array Value):(Builtin.zeroCells cs 1).toList=cs.toList:=by
 unfold Builtin.zeroCells;rw[Nat.one_mul];apply List.ext_getElem
 ·simp
 ·intro i h1 h2;have hi:i<cs.size:=by simpa using h2
  simp[Nat.mod_eq_of_lt hi,hi]
theorem ON {P:Program} (w:World) (t e ty:TypeId) (z:Value) (ht:P.underlying t=some (.slice e)) (hv:∀w,(zeroValue e).run P w=.ok z w) (h1:∀u∈z.cells.toList,u.oneCell'=true) (b o c:Nat)
  (hc:∀j,j<z.cells.size->(w.cell? ⟨b,o+j,none⟩).isSome=true) (hf:∀j,j<z.cells.size->w.frozen? ⟨b,o+j,none⟩=false) :
  (Builtin.clear_ #[t] ty #[.slice (some ⟨b,o,none⟩) 1 c]).run P w=.ok (.tuple #[]) (w.setCells b o z.cells.toList):=by
 have hst:=run_storeCells_cells (P:=P) b o z.cells.toList 0 w (by simpa using hc) (by simpa using hf) h1
 simp only[Nat.add_zero] at hst;simp[Builtin.clear_,run_underlying ht,hv,Er,hst]
theorem Ur (b:Nat) {t:TypeId}:∀(vs:List Value) (o:Nat) (w:World) (cur:Array Value),w.heap[b]?=some (.cells cur t (0,0))->o+vs.length<=cur.size->
  ∃cur',(w.setCells b o vs).heap[b]?=some (.cells cur' t (0,0))/\cur'.size=cur.size
 | [],o,w,cur,h,_=>⟨cur,h,rfl⟩
 | v::r,o,w,cur,h,hl=>by
  have h1:(w.setCell ⟨b,o,none⟩ v).heap[b]?=some (.cells (cur.setIfInBounds o v) t (0,0)):=by
   obtain⟨hlt,hk⟩:=Ag.1 h;show (w.heap.modify b _)[b]?=_;rw[Array.getElem?_eq_getElem (by rw[Array.size_modify];exact hlt),Array.getElem_modify_self,hk]
   simp
  obtain⟨cur',e1,e2⟩:=Ur b r (o+1) _ _ h1 (by simp at hl ⊢;omega)
  exact⟨cur',e1,by rw[e2];simp⟩
theorem Zbr (g n cp k:Nat) (cur:Array Value) (xs:List Lot) (w:World) (hn:xs.length=n) (hk:k<n) (hcap:n<=cp) (hH:w.heap[g]?=some (.cells cur 130 (0,0))) (hsz:n*7<=cur.size) (ht:cur.toList.take (n*7)=Z8 xs) :
  Calls Tryz.prog 214 #[.slice (some ⟨g,0,none⟩) n cp,.int .i64 (k:Int),.int .i64 ((k:Int)+1)] w fun e w'=>e=.returned (.slice (some ⟨g,0,none⟩) (n-1) cp)/\YD w' g (xs.eraseIdx k)/\Zr (fun b=>b=g) w w':=by
 have hlt:=(Ag.1 hH).1;have hcell:∀j,j<cur.size->w.cell? ⟨g,j,none⟩=cur[j]?:=fun j _=>Zh hH j
 have hrow:∀j,j<n*7->w.cell? ⟨g,j,none⟩=(Z8 xs)[j]?:=fun j hj=>by
  rw[hcell j (by omega),<-ht,List.getElem?_take,if_pos hj,Array.getElem?_toList]
 have hfr:∀j,w.frozen? ⟨g,j,none⟩=false:=fun j=>Zq hH j
 obtain⟨i0,e0,e1,e2,e3⟩:=info_parts UQ;obtain⟨news,hnews⟩:∃news,news=(Z8 xs).drop ((k+1)*7):=⟨_,rfl⟩
 have hlen:news.length=(n-(k+1))*7:=by rw[hnews,List.length_drop,VS,hn,Nat.sub_mul]
 obtain⟨A,hA,hsrc⟩:∃A:Addr,(if cp=k+1 then (some ⟨g,0,none⟩:Option Addr) else some ⟨g,(k+1)*7,none⟩)=some A/\Hid (∀t u,news[t]?=some u->w.drew.cell? (A.add t)=some u):=by
  by_cases h:cp=k+1
  ·refine⟨⟨g,0,none⟩,by rw[if_pos h],fun t u hu=>?_⟩
   have h0:news.length=0:=by
    rw[hlen];have:n-(k+1)=0:=by omega
    rw[this,Nat.zero_mul]
   rw[List.length_eq_zero_iff.1 h0] at hu;simp at hu
  ·refine⟨⟨g,(k+1)*7,none⟩,by rw[if_neg h],fun t u hu=>?_⟩
   have htl:=(Lg.1 hu).1;rw[Lib.add_plain];show w.cell? _=_;rw[hrow _ (by rw[hlen,Nat.sub_mul] at htl;omega),<-hu,hnews,List.getElem?_drop]
 have s2:Hid (∀u∈news,u.oneCell'=true):=fun u hu=>by
  rw[hnews] at hu;exact VT xs u (List.mem_of_mem_drop hu)
 have s3:Hid (∀t,t<news.length->(w.drew.cell? ⟨g,0+k*7+t,none⟩).isSome=true/\w.drew.frozen? ⟨g,0+k*7+t,none⟩=false):=fun t ht2=>by
  rw[hlen,Nat.sub_mul] at ht2;refine⟨?_,hfr _⟩;show (w.cell? _).isSome=true;rw[hcell _ (by omega),Array.getElem?_eq_getElem (by omega)];rfl
 obtain⟨W1,hW1⟩:∃W1,W1=w.drew.setCells g (0+k*7) news:=⟨_,rfl⟩
 have hH0:w.drew.heap[g]?=some (.cells cur 130 (0,0)):=hH;obtain⟨cur1,hH1,hs1⟩:=Ur g news (0+k*7) w.drew cur hH0 (by rw[hlen,Nat.sub_mul];omega)
 rw[<-hW1] at hH1;have hz:∀w,(zeroValue 130).run Tryz.prog w=.ok (Value.agg #[.string ⟨#[]⟩,.string ⟨#[]⟩,.int .i64 0,.int .i64 0,.string ⟨#[]⟩,.string ⟨#[]⟩,.string ⟨#[]⟩]) w:=Tryz.zeroValue130
 have hcl:∀ty,(Builtin.clear_ #[44] ty #[.slice (some ⟨g,(n-1)*7,none⟩) 1 (cp-(n-1))]).run Tryz.prog W1=.ok (.tuple #[]) (W1.setCells g ((n-1)*7) (Value.agg #[.string ⟨#[]⟩,.string ⟨#[]⟩,.int .i64 0,.int .i64 0,.string ⟨#[]⟩,.string ⟨#[]⟩,.string ⟨#[]⟩]).cells.toList):=
  fun ty=>ON W1 _ _ ty _ Tryz.underlying44 hz (by decide) g _ _ (fun j hj=>by
   have hj:j<7:=hj
   rw[Zh hH1,Array.getElem?_eq_getElem (by rw[hs1];omega)];rfl) (fun j _=>Zq hH1 _)
 obtain⟨W2,hW2⟩:∃W2,W2=W1.setCells g ((n-1)*7) (Value.agg #[.string ⟨#[]⟩,.string ⟨#[]⟩,.int .i64 0,.int .i64 0,.string ⟨#[]⟩,.string ⟨#[]⟩,.string ⟨#[]⟩]).cells.toList:=⟨_,rfl⟩
 have hlE:(xs.eraseIdx k).length=n-1:=by rw[List.length_eraseIdx_of_lt (by omega),hn]
 obtain⟨cur2,hH2,hs2⟩:=Ur g (Value.agg #[.string ⟨#[]⟩,.string ⟨#[]⟩,.int .i64 0,.int .i64 0,.string ⟨#[]⟩,.string ⟨#[]⟩,.string ⟨#[]⟩]).cells.toList ((n-1)*7) W1 cur1 hH1 (by show (n-1)*7+7<=_;rw[hs1];omega)
 rw[<-hW2] at hH2;have key:∀i x,(xs.eraseIdx k)[i]?=some x->∀r,r<7->W2.cell? ⟨g,i*7+r,none⟩=(lcs x)[r]?:=by
  intro i x hx r hr;have hil:=(Lg.1 hx).1;rw[hlE] at hil;rw[hW2,World.cell?_setCells_out g _ _ _ _ (fun _ _=>.inl (by show i*7+r<_;omega))]
  rw[hW1]
  by_cases hik:i<k
  ·rw[World.cell?_setCells_out g _ _ _ _ (fun _ _=>.inl (by show i*7+r<_;omega))]
   show w.cell? _=_;rw[List.getElem?_eraseIdx_of_lt hik] at hx;rw[hrow _ (by omega),Vk hx r hr]
  ·rw[List.getElem?_eraseIdx_of_ge (by omega)] at hx
   obtain⟨t,rfl⟩:∃t,i=k+t:=⟨i-k,by omega⟩
   have e5:(k+t)*7+r=0+k*7+(t*7+r):=by omega
   have hj:t*7+r<news.length:=by rw[hlen,Nat.sub_mul];omega
   rw[e5,World.cell?_setCells_in g news _ _ (fun j hj=>(s3.out j hj).1) _ hj,<-List.getElem?_eq_getElem hj,hnews,List.getElem?_drop,show (k+1)*7+(t*7+r)=(k+t+1)*7+r by omega,Vk hx r hr]
 have hend:YD W2 g (xs.eraseIdx k)/\Zr (fun b=>b=g) w W2:=by
  constructor
  ·refine⟨cur2,hH2,?_,by rw[hlE];omega⟩
   apply List.ext_getElem?;intro j;rw[List.getElem?_take]
   by_cases hj:j<(xs.eraseIdx k).length*7
   ·rw[if_pos hj,Array.getElem?_toList,<-Zh hH2 j];obtain⟨i,r,rfl,hr⟩:∃i r,j=i*7+r/\r<7:=⟨j / 7,j % 7,by omega,by omega⟩
    have hi:i<(xs.eraseIdx k).length:=by omega
    have hx:=List.getElem?_eq_getElem hi;rw[key i _ hx r hr,Vk hx r hr]
   ·rw[if_neg hj,List.getElem?_eq_none (by rw[VS];omega)]
  ·have h0:Zr (fun b=>b=g) w w.drew:=⟨rfl,rfl,rfl,Nl _,fun _ _ _=>rfl⟩
   rw[hW2,hW1];exact (h0.trans (ZR (X:=fun b=>b=g) rfl _ _ _)).trans (ZR (X:=fun b=>b=g) rfl _ _ _)
 clear key hH2 hs2 hlE;have HE:=Lh hend;have s1:Hid (news.length=(n-(k+1))*7):=hlen;have hW:Hid (W1=w.drew.setCells g (0+k*7) news):=hW1;have hX:Hid (W2=W1.setCells g ((n-1)*7) (Value.agg #[.string ⟨#[]⟩,.string ⟨#[]⟩,.int .i64 0,.int .i64 0,.string ⟨#[]⟩,.string ⟨#[]⟩,.string ⟨#[]⟩]).cells.toList):=hW2;simp only[<-hX.out] at hcl;have HK:Hid (k+(n-(k+1))=n-1):=by show _=_;omega
 have hcl2:∀ty,(Builtin.clear_ #[44] ty #[.slice (some ⟨g,(k+(n-(k+1)))*7,none⟩) (n-(k+(n-(k+1)))) (cp-(k+(n-(k+1))))]).run Tryz.prog W1=.ok (.tuple #[]) W2:=fun ty=>by rw[HK.out,show n-(n-1)=1 by omega];exact hcl ty
 clear hcl;have hic:k<=cp:=by omega
 have hk0:(0:Int)<=(k:Int)+1:=by omega
 have hkn:(k:Int)+1<=(n:Int):=by omega
 have mixed:Tryz.prog.follows .mixedOrders=true:=by kernel_rfl
 have hjc:k+1<=cp:=by omega
 clear hend hW1 hW2 hH1 hH hH0 hs1 hcell hrow hfr hnews hlen hz ht hsz hlt hn;go_enter Tryz.func214,Tryz.ntmps214;go_wp2_with fail
 go_region_law_o (refine step_append_room rfl (.tmp 22) (.tmp 25) 44 rfl 130 i0 7 Tryz.underlying44 e0 e2 g 0 k cp (by simp[Act.eval,Act.put]) A (n-(k+1)) (cp-(k+1)) news (by simp[Act.eval,Act.put]) s1.out hsrc.out s2.out (by omega) s3.out ?_;rw[<-hW.out])
 go_wp2;go_ret;exact⟨by rw[HK.out];rfl,HE.out⟩
def WR (w:World) (B:Nat) (v:Value) (xs:List Lot):Prop:=w.ownsRow B 130 7 v xs.length (Z8 xs)
section
variable {w w':World} {B b i:Nat} {u v v':Value} {xs:List Lot}
theorem WR.below (h:WR w B v xs) (hb:Below w.heap.size w w'):WR w' B v xs:=by
 refine⟨h.1,?_⟩;rcases h.2 with h2|⟨g,cap,cur,e,hB,hg,r⟩
 ·exact .inl h2
 ·exact .inr ⟨g,cap,cur,e,hB,(hb.block g (Ag.1 hg).1).trans hg,r⟩
theorem WR.keepX {X:Nat->Prop} (h:WR w B v xs) (hb:Zr X w w') (hx:∀g,v.ownBlock=some g->¬X g):WR w' B v xs:=by
 refine⟨h.1,?_⟩;rcases h.2 with h2|⟨g,cap,cur,e,hB,hg,r⟩
 ·exact .inl h2
 ·exact .inr ⟨g,cap,cur,e,hB,(hb.block g (Ag.1 hg).1 (hx g (by rw[e];rfl))).trans hg,r⟩
theorem WR.block (h:WR w B v xs):∀g,v.ownBlock=some g->B<=g/\g<w.heap.size:=World.ownsRow.lt h
theorem WR.form (h:WR w B v xs):∃A c,v=.slice A xs.length c:=by
 rcases h.2 with ⟨e,hn⟩|⟨g,cap,cur,e,-⟩
 ·exact⟨none,0,by rw[e,hn]⟩
 ·exact⟨_,_,e⟩
theorem WR.formN {n:Nat} (h:WR w B v xs) (hn:xs.length=n):∃A c,v=.slice A n c:=by rw[<-hn];exact h.form
theorem WR.row (h:WR w B v xs) (h0:0<xs.length):∃g c,v=.slice (some ⟨g,0,none⟩) xs.length c/\B<=g/\xs.length<=c/\YD w g xs:=by
 rcases h.2 with ⟨hv,h1⟩|⟨g,cap,cur,hv,hb,hh,hcap,_,hsz,htk⟩
 ·omega
 ·exact⟨g,cap,hv,hb,hcap,cur,hh,htk,by rw[hsz];exact Nat.mul_le_mul_right 7 hcap⟩
theorem WR.lotAt (h:WR w B v xs) {A:Option Addr} {n c:Nat} (e:v=.slice A n c):Vw w A xs:=by
 by_cases h0:0<xs.length
 ·obtain⟨g,c',e2,-,-,hp⟩:=h.row h0;rw[e] at e2;injection e2 with e2
  subst e2;exact hp.lotAt
 ·have:xs=[]:=List.eq_nil_of_length_eq_zero (by omega)
  subst this;exact fun i x hx=>by simp at hx
end
theorem Es (w:World) (B:Nat):WR w B (.slice none 0 0) []:=World.ownsRow_nil w B _ 7
theorem WR.app {w:World} {B n:Nat} {v:Value} {xs:List Lot} {x:Lot} (h:w.ownsRow B 130 7 v (n+1) (Z8 xs++lcs x)) (hn:xs.length=n):WR w B v (xs++[x]):=by
 unfold WR;rw[List.length_append,List.length_singleton,hn,O1];exact h
theorem TO {α:Type} {xs:List α} {k n:Nat} (hn:xs.length=n) (hk:k<n):(xs.eraseIdx k).length=n-1:=by rw[List.length_eraseIdx_of_lt (by omega),hn]
theorem AU (A:Option Addr) (ps:List Lot) (n c:Nat) (w:World) (hn:ps.length=n) (h0:0<n) (hn2:n<=1000000) (h:Vw w A ps) :
  Calls Tryz.prog 58 #[.slice A n c] w fun e w'=>∃v,e=.returned v/\WR w' w.heap.size v ps/\Below w.heap.size w w':=by
 obtain⟨x0,hx0⟩:∃x,ps[0]?=some x:=⟨_,List.getElem?_eq_getElem (by omega)⟩
 obtain⟨b,o,rfl,hbs,-⟩:=h 0 x0 hx0;obtain⟨i0,e0,e1,e2,e3⟩:=info_parts UQ;refine (AnyE.slices_Clone Tryz.cloneLt i0 _ 7 96 e0 e1 e2 e3 rfl (by decide) Tryz.sizeOf130 b o n c (Z8 ps) w (by rw[VS,hn]) (by unfold maxLen;omega) (by omega) (fun j u hu=>?_) (VT ps)).mono ?_
 ·obtain⟨x,h1,h2⟩:=Qc hu;obtain⟨b',o',hA,-,hc⟩:=h (j / 7) x h1;cases hA;have hlt:j % 7<7:=Nat.mod_lt _ (by decide)
  have ej:o+j=o+j / 7*7+j % 7:=by omega
  rw[ej];generalize j % 7=m at *
  match m,hlt with
  | 0,_=>cases h2;exact hc.c0
  | 1,_=>cases h2;exact hc.c1
  | 2,_=>cases h2;exact hc.c2
  | 3,_=>cases h2;exact hc.c3
  | 4,_=>cases h2;exact hc.c4
  | 5,_=>cases h2;exact hc.c5
  | 6,_=>cases h2;exact hc.c6
 ·rintro e w' ⟨v,rfl,hown,-,hb⟩;have hown':w'.ownsRow w.heap.size 130 7 v n (Z8 ps):=hown;subst hn;exact⟨v,rfl,hown',hb⟩
end Go.Proofs.YtpieeldbamklkaaGreatDoor
