/- Texts put together: Rg Rh Zp Ri. -/
import Derived.Test.YtpieeldbamklkaaGreatDoorV9
import Derived.StillTailTactics
set_option maxHeartbeats 8000000
set_option maxRecDepth 100000
open Go.Proofs.Tryz
namespace Go.Proofs.YtpieeldbamklkaaGreatDoor
open Go.RowKit Num
theorem Za7 (p:Pk) (x:Lot) (bx:Nat) (w:World) (h:Blk w bx (Zn x)) :
  Calls prog 164 #[.agg #[Zg p.lot,Zg p.q],.pointer (some ⟨bx,0,none⟩)] w fun e w'=>e=.returned (.bool (Ya x.id p))/\Below w.heap.size w w':=by
 have hb:=Zh w (.cells #[Zg p.lot,Zg p.q] 195);have x1:=Blk.new w #[Zg p.lot,Zg p.q] 195;have p0:=x1.c 0;have p1:=(h.below hb).c 0;have HV:Hid (Ya x.id p=(p.lot==x.id)):=rfl;have he:=Tk p.lot x.id;generalize Ya x.id p=R at *;clear h x1;go_enter func164,ntmps164;go_wp2;go_ret;refine⟨ZR ?_,hb⟩;rw[HV.out]<;>first|exact he|rfl
theorem O3 (args:Array Value) (w:World):(callFunc 164 args).run prog w=.ok (.enter 164 args) w:=by kernel_rfl
theorem YP.same {w1 w2:World} {B:Nat} {v:Value} {xs:List Pk} (h:YP w1 B v xs) (e:∀g,v.ownBlock=some g->w2.heap[g]?=w1.heap[g]?):YP w2 B v xs:=by
 refine⟨h.1,?_⟩;rcases h.2 with h2|⟨g,cap,cur,ev,hB,hg,r⟩
 ·exact .inl h2
 ·exact .inr ⟨g,cap,cur,ev,hB,(e g (by rw[ev];rfl)).trans hg,r⟩
structure PI (w:World) (B bo bq:Nat) (s:List Pk×List UInt8) (v:Value) (W:World):Prop where
 below:Below w.heap.size w W
 lq:w.heap.size<=bq
 lo:bq<bo
 lb:bo<B
 le:B<=W.heap.size
 rem:W.heap[bq]?=some (.cells #[Zg s.2] 32 (0,0))
 out:W.heap[bo]?=some (.cells #[v] 45 (0,0))
 row:YP W B v s.1
theorem PI.go {w W W':World} {B bo bq:Nat} {s:List Pk×List UInt8} {v:Value} (h:PI w B bo bq s v W) (hb:Below W.heap.size W W'):PI w B bo bq s v W':=
 ⟨bto h.below hb,h.lq,h.lo,h.lb,Nt h.le hb.size,Zv h.rem hb,Zv h.out hb,h.row.below hb⟩
def TkX (bo bq:Nat) (v:Value) (k:Nat):Prop:=k=bo∨k=bq∨v.ownBlock=some k
def L5 (w:World) (B bo bq:Nat) (s:List Pk×List UInt8) (v:Value) (W:World) (e:Ending) (W':World):Prop:=
 e=.returned (.tuple #[])/\∃v',PI w B bo bq s v' W'/\Zz (TkX bo bq v) W W'/\∀g,v'.ownBlock=some g->v.ownBlock=some g∨W.heap.size<=g
theorem Ns {w:World} {base n sz:Nat} {e:TypeId} {v:Value} {xs:List Value} (h:w.ownsRow base e sz v n xs):∀g,v.ownBlock=some g->base<=g:=fun g hg=>(World.ownsRow.lt h g hg).1
theorem Uy {a b:List UInt8} {k:Nat} (ha:a.length<=k) (hb:b.length<=k):(Xh a b).length<=k:=by
 unfold Xh
 split<;>assumption
theorem Cg {w W:World} {B bo bq:Nat} {own:List Lot} {Q:Int} {s:List Pk×List UInt8} {v:Value} {x:Lot} {most:List UInt8} (hG:GE w) (hC:PI w B bo bq s v W) (hI:Yz own Q s) (hs:Vh x) (hm:most.length<=1000) (hQ:(canon Q).length<=1100) (hl:s.1.length<=100000) (hz0:0<=Z0 (Ya x.id) s.1 0) :
  Calls prog 162 #[(Value.agg (Zn x)),Zg most,.pointer (some ⟨bo,0,none⟩),.pointer (some ⟨bq,0,none⟩)] W (L5 w B bo bq (YO s x most) v W):=by
 have hxq:=hs.q;have hx0:=Ur s.1 (fun p hp=>(hI.pos p hp).1)
 have hsm:=hI.sum;have hrem:=hI.rem;have hrl:s.2.length<=1101:=by rw[hI.can];exact XU (by omega) hQ
 have hpl:∀p∈s.1,p.q.length<=1101:=fun p hp=>by
  rw[(hI.pos p hp).2];refine XU ⟨Int.le_of_lt (hI.pos p hp).1,?_⟩ hQ
  have:=hx0.2 p hp
  omega
 obtain⟨n,hn⟩:∃n,n=s.1.length:=⟨_,rfl⟩
 obtain⟨A,c,rfl⟩:=hC.row.formN hn.symm;have hbA:=Zh W (.cells (Zn x) 130);have X1:=Lh (Yq.new W x 130);have HC:=Lh (hC.go hbA);have K1:=Lh (Dq _ O3 (Ya x.id) #[.pointer (some ⟨W.heap.size,0,none⟩)] A s.1 n c _ hn.symm (by omega) (HC.out.row.pkAt rfl) (fun p _ w' hb'=>Za7 p x W.heap.size w' (X1.out.below hb')))
 obtain⟨z,hz⟩:∃z,z=Z0 (Ya x.id) s.1 0:=⟨_,rfl⟩
 rw[<-hz] at K1 hz0;obtain⟨i,p,hzi,hpi,hpx,-⟩:=Vi _ _ _ (hz ▸ hz0);rw[Nat.zero_add] at hzi;have hzi2:z=(i:Int):=hz.trans hzi;have hin:i<n:=by rw[hn];exact YG hpi
 have hppl:=hpl p (Lm hpi);obtain⟨lf,hlf⟩:∃lf,lf=canon (val x.q-val p.q):=⟨_,rfl⟩
 have elf:SL s.1 x=lf:=by
  unfold SL;rw[if_pos (hz ▸ hz0),hzi,Int.toNat_natCast,List.getD_eq_getElem?_getD,hpi,hlf];rfl
 have KL:=Lh (Vg (l:=x.q) (l':=p.q) (z:=val x.q-val p.q) (by omega) (by omega) rfl)
 rw[<-hlf] at KL;have hlfl:lf.length<=1105:=by
  rw[hlf];obtain⟨M,hM⟩:∃M,M=1101:=⟨_,rfl⟩
  have h1:=Zw (l:=x.q) (k:=M) (by omega)
  have h2:=Zw (l:=p.q) (k:=M) (by omega)
  refine Nt (Zu _ (M+1) ?_) (by omega)
  have e:(10:Nat) ^ (M+1)=10 ^ M*10:=Nat.pow_succ ..;rw[e];generalize (10:Nat) ^ M=P at *;omega
 obtain⟨n1,hn1⟩:∃n1,n1=Xh most lf:=⟨_,rfl⟩
 obtain⟨nn,hnn⟩:∃nn,nn=Xh n1 s.2:=⟨_,rfl⟩
 have en:nS s.1 s.2 x most=nn:=by unfold nS;rw[elf,hnn,hn1]
 have hn1l:n1.length<=1105:=by rw[hn1];exact Uy (by omega) hlfl
 have hnnl:nn.length<=1105:=by rw[hnn];exact Uy hn1l (by omega)
 have L1:=Lh (MI (a:=most) (b:=lf) (by omega) (by omega))
 have L2:=Lh (MI (a:=n1) (b:=s.2) (by omega) (by omega))
 rw[<-hn1] at L1;rw[<-hnn] at L2;have L3:=Lh (Vt (l:=nn) (by omega))
 have lq:=hC.lq;have lo:=hC.lo;have lb:=hC.lb;have le:=hC.le;have hbW0:=HC.out.below;have HGet:=Lh en;have HBA:Hid (Zz (TkX bo bq (.slice A n c)) W (W.alloc (.cells (Zn x) 130))):=Zz.of_below hbA;clear hbA hC hI hs hm hQ hxq hx0 hsm hrem hpl elf hn1 hnn en hn1l hlfl;have HPI:=Lh hpi;have HZI:=Lh hzi;have HNL:Hid (s.1.length=n):=hn.symm;have HZ:=Lh hz;subst hzi2;have g1:decide ((0:Int)<=(i:Int))=true:=Dt (by omega)
 have g2:decide ((i:Int)<0)=false:=Df (by omega)
 clear hlf hn hz hl hpi hzi hz0 hpx;have q0:(W.alloc (.cells (Zn x) 130)).cell? ⟨bo,0,none⟩=some (.slice A n c):=Zk HC.out.out 0;go_enter func162,ntmps162;go_wp2_with fail;refine K1.out.mono ?_;rintro e w1 ⟨rfl,hb1⟩;clear q0 K1;replace HC:=Lh (HC.out.go hb1);replace X1:=Lh (X1.out.below hb1);replace HBA:=Lh (HBA.out.trans (Zz.of_below hb1));have hbW:=bto hbW0 hb1;clear hbW0 hb1;have q4:=X1.out.c4;obtain⟨g,cc,e',hBg,hk⟩:=HC.out.row.row (by have:=HNL.out;omega)
 injection e' with e1 e2 e3
 subst e1 e3;have q0:w1.cell? ⟨bo,0,none⟩=some (.slice (some ⟨g,0,none⟩) n c):=Zk HC.out.out 0;have q1:=(hk.cells HPI.out).2;clear hk e2;go_wp2_with fail
 refine (KL.out.e.of hG hbW).mono ?_
 rintro e w2 ⟨rfl,hb2⟩;clear q0 q1 KL;replace HC:=Lh (HC.out.go hb2);replace X1:=Lh (X1.out.below hb2);replace HBA:=Lh (HBA.out.trans (Zz.of_below hb2));replace hbW:=bto hbW hb2;clear hb2 q4;go_wp2_with fail;refine Zx (by kernel_rfl) (by kernel_rfl) ?_
 iterate 2 refine PeV ?_
 refine PeC (fun wz hw=>L1.out.e.of hG (bto hbW hw)) ?_
 refine PeW (fun ρ wz hw=>by have q0:wz.cell? ⟨bq,0,none⟩=some (Zg s.2):=Zk (Zv HC.out.rem hw) 0;go_simp;try rfl) ?_
 refine PeC (fun wz hw=>L2.out.e.of hG (bto hbW hw)) ?_
 refine PeV ?_;intro ρ w3 hF;dsimp only;replace HC:=Lh (HC.out.go hF.below);replace X1:=Lh (X1.out.below hF.below);replace HBA:=Lh (HBA.out.trans (Zz.of_below hF.below));replace hbW:=bto hbW hF.below;clear hF L1 L2
 by_cases hp0:0<val nn
 rotate_left
 ·have e1:decide (0<val nn)=false:=Df hp0;rw[e1] at L3;have HT:Hid (YO s x most=s):=by
   show _=_;unfold YO;rw[HGet.out,if_pos (by omega)]
  clear hp0 e1;go_wp2_with fail
  refine (L3.out.e.of hG hbW).mono ?_
  rintro e w4 ⟨rfl,hb4⟩;clear L3;go_wp2
  go_end0
  rw[HT.out];exact⟨rfl,_,HC.out.go hb4,HBA.out.trans (Zz.of_below hb4),fun g h=>.inl h⟩
 have e1:decide (0<val nn)=true:=Dt hp0;rw[e1] at L3;have HT:Hid (∀nq,nq=canon (val p.q+val nn)->YO s x most=(s.1.set i ⟨p.lot,nq⟩,canon (val s.2-val nn))):=fun nq h=>by
  unfold YO PF;rw[HGet.out,if_neg (by omega)]
  simp only[<-HZ.out,Int.toNat_natCast,List.getD_eq_getElem?_getD,HPI.out,Option.getD_some];rw[if_pos (by omega),h]
 clear hp0 e1;go_wp2_with fail
 refine (L3.out.e.of hG hbW).mono ?_
 rintro e W3 ⟨rfl,hb4⟩;clear L3;replace HC:=Lh (HC.out.go hb4);have HX3:=Lh (HBA.out.trans (Zz.of_below hb4));have hb3:=bto hbW hb4;clear hbW hb4 HBA X1;go_wp2_with fail;clear g1 g2;have HO:Hid (W3.heap[bo]?=some (.cells #[.slice (some ⟨g,0,none⟩) n c] 45 (0,0))):=HC.out.out;have HRM:=Lh HC.out.rem;have HRW:Hid (YP W3 B (.slice (some ⟨g,0,none⟩) n c) s.1):=HC.out.row;have HP:=HPI;have HN:=HNL;have hll:s.1.length=n:=HNL.out;have HFR:Hid (∀g',Value.ownBlock (.slice (some ⟨g,0,none⟩) n c)=some g'->Value.ownBlock (.slice (some ⟨g,0,none⟩) n c)=some g'∨W.heap.size<=g'):=fun g' h=>.inl h
 have HGK:Hid (∀k,k<W.heap.size->¬TkX bo bq (.slice (some ⟨g,0,none⟩) n c) k->¬k=g):=fun k _ hn e=>hn (.inr (.inr (by rw[e];rfl)))
 have hgB:B<=g:=hBg;obtain⟨cur,hcur,hct,hcs⟩:Nn W3 g s.1:=by
  obtain⟨g',c',e',-,hk⟩:=HRW.out.row (by omega)
  injection e' with e1 e2 e3
  injection e1 with e1
  injection e1 with e1
  subst e1;exact hk
 have HCI:Hid (cur[i*2+1]?=some (Zg p.q)):=by
  have h1:=(SN HP.out).2;rw[<-hct,List.getElem?_take,if_pos (by omega),Array.getElem?_toList] at h1
  exact h1
 have KA:=Lh (XX (l:=p.q) (l':=nn) (z:=val p.q+val nn) (by omega) (by omega) rfl)
 have KS:=Lh (Vg (l:=s.2) (l':=nn) (z:=val s.2-val nn) (by omega) (by omega) rfl)
 obtain⟨nq,hnq⟩:∃nq,nq=canon (val p.q+val nn):=⟨_,rfl⟩
 obtain⟨nr,hnr⟩:∃nr,nr=canon (val s.2-val nn):=⟨_,rfl⟩
 rw[<-hnq] at KA;rw[<-hnr] at KS;have HNQ:=Lh hnq;have HNR:=Lh hnr;clear hnq hnr;obtain⟨F,hF⟩:∃F:Fx,F=fun b=>if b=g then some (.cells cur 195 (0,0)) else none:=⟨_,rfl⟩
 have f1:F g=some (.cells cur 195 (0,0)):=by rw[hF];exact if_pos rfl
 have hX:∀b,F b≠none->b=g:=fun b hb=>by
  rw[hF] at hb;dsimp only at hb
  by_cases h1:b=g
  ·exact h1
  ·rw[if_neg h1] at hb;exact absurd rfl hb
 have HFF:Hid (∀b ob,F b=some ob->W3.heap[b]?=some ob):=fun b ob h=>by
  rw[hF] at h;dsimp only at h
  by_cases h1:b=g
  ·rw[if_pos h1] at h;rw[h1,<-h];exact hcur
  ·rw[if_neg h1] at h;cases h
 have hno:¬(F bo≠none):=fun h=>by have:=hX _ h;omega
 have hnq':¬(F bq≠none):=fun h=>by have:=hX _ h;omega
 have hlow:∀k,F k≠none->w.heap.size<=k:=fun k hk=>by have:=hX _ hk;omega
 have hlbo:bo<W3.heap.size:=(Ag.1 HO.out).1;obtain⟨tch,htch⟩:∃tch:Nat->List Nat,tch=fun b=>if b=g then [6,11] else []:=⟨_,rfl⟩
 clear hF;refine ZL tch F (by kernel_rfl) (by kernel_rfl) (by kernel_rfl) HFF.out ?_
 iterate 2
  refine PfV _ rfl (fun wz hw=>by have q0:wz.cell? ⟨bo,0,none⟩=some (.slice (some ⟨g,0,none⟩) n c):=(Zk ((hw.block _ hlbo hno).trans HO.out) 0);go_simp;try rfl) ?_
  refine PfV _ rfl (fun wz hw=>by go_simp;try rfl) ?_
 refine PfV (.pointer (some ⟨g,i*2,none⟩)) rfl (fun wz hw=>by go_simp;try rfl) ?_
 refine PfV (.pointer (some ⟨g,i*2+1,none⟩)) rfl (fun wz hw=>by go_simp;try rfl) ?_
 refine Z9 g cur 195 (Zg p.q) f1 (by simp[htch]) rfl (fun wz hw hc=>by have q0:wz.cell? ⟨g,i*2+1,none⟩=some (Zg p.q):=(hc _).trans HCI.out;clear hc;go_simp;try rfl) ?_
 simp only[Act.put,StT,StZ,StS,Nat.reduceAdd];refine PfV _ rfl (fun wz hw=>by go_simp;try rfl) ?_
 refine PfC _ _ _ rfl (fun wz hw=>by go_simp;try rfl) (fun wz hw=>KA.out.e.of hG (hw.lower hb3 hlow)) ?_
 refine PfV (.pointer (some ⟨g,i*2,none⟩)) rfl (fun wz hw=>by go_simp;try rfl) ?_
 refine PfV (.pointer (some ⟨g,i*2+1,none⟩)) rfl (fun wz hw=>by go_simp;try rfl) ?_
 refine XE g (i*2+1) cur (Zg nq) 195 f1 (by simp[htch]) (fun j oj hj=>ZC (l:=[6,11]) (by kernel_rfl) j oj (by simpa [htch] using hj)) rfl (fun wz hw hc hf=>by have q0:wz.cell? ⟨g,i*2+1,none⟩=some (Zg p.q):=(hc _).trans HCI.out;have q1:=hf (i*2+1);clear hc hf;go_simp;try rfl) ?_
 simp only[Act.put,Nat.reduceAdd];refine YB (fun w4 hF4=>?_)
 have hb4:=hF4.below.lower hb3 hlow;have HX4:Hid (Zz (fun k=>k=g) W3 w4):=⟨hF4.below.os,hF4.below.tape,hF4.below.output,hF4.below.size,fun k hk hn=>hF4.below.block k hk (fun h=>hn (hX k h))⟩
 have HO4:Hid (w4.heap[bo]?=some (.cells #[.slice (some ⟨g,0,none⟩) n c] 45 (0,0))):=(hF4.below.block _ hlbo hno).trans HO.out;have HR4:Hid (w4.heap[bq]?=some (.cells #[Zg s.2] 32 (0,0))):=(hF4.below.block _ (Ag.1 HRM.out).1 hnq').trans HRM.out;have HW4:Hid (YP w4 B (.slice (some ⟨g,0,none⟩) n c) (s.1.set i ⟨p.lot,nq⟩)):=by
  have h1:YP W3 B (.slice (some ⟨g,0,none⟩) s.1.length c) s.1:=by rw[HN.out];exact HRW.out
  have h2:=h1.set HP.out nq;rw[HN.out] at h2;refine h2.same (fun g' e=>?_)
  injection e with e
  have e:g=g':=e;subst e;rw[hF4.box g _ (if_pos rfl),hset _ hcur]
 have hs4:=hF4.below.size;clear hF4 f1 hX HFF hno hnq' htch KA HCI hcur hct hcs HRW;have q0:w4.cell? ⟨bq,0,none⟩=some (Zg s.2):=Zk HR4.out 0;go_wp2_with fail
 refine (KS.out.e.of hG hb4).mono ?_
 rintro e w5 ⟨rfl,hb5⟩;clear q0 KS;have q0:w5.cell? ⟨bq,0,none⟩=some (Zg s.2):=Zk (Zv HR4.out hb5) 0;have q1:w5.frozen? ⟨bq,0,none⟩=false:=Zt (Zv HR4.out hb5) 0;have HFin:Hid (L5 w B bo bq (YO s x most) (.slice (some ⟨g,0,none⟩) n c) W (.returned (.tuple #[])) (w5.setCell ⟨bq,0,none⟩ (Zg nr))):=by
  have e:YO s x most=(s.1.set i ⟨p.lot,nq⟩,nr):=by rw[HNR.out];exact HT.out nq HNQ.out
  rw[e];refine⟨rfl,_,⟨(bto hb4 hb5).setCell (p:=⟨bq,0,none⟩) lq _,lq,lo,lb,?_,hset _ (Zv HR4.out hb5),hoth (Zv HO4.out hb5) (by omega),?_⟩,?_,HFR.out⟩
  ·have h1:=hb5.size;have h2:=HX3.out.size;show B<=(w5.setCell _ _).heap.size;simp;omega
  ·exact (HW4.out.below hb5).far (fun e=>by injection e with e;have e:g=bq:=e;omega)
  ·have h1:=HX3.out.size;have h3:=hb5.size;refine⟨hb5.os.trans (HX4.out.os.trans HX3.out.os),hb5.tape.trans (HX4.out.tape.trans HX3.out.tape),hb5.output.trans (HX4.out.output.trans HX3.out.output),?_,fun k hk hn=>?_⟩
   ·show W.heap.size<=(w5.setCell _ _).heap.size;simp;omega
   ·exact (Below.heap_setCell w5 ⟨bq,0,none⟩ _ k (fun e=>hn (.inr (.inl e)))).trans ((hb5.block k (by omega)).trans ((HX4.out.block k (by omega) (HGK.out k hk hn)).trans (HX3.out.block k hk hn)))
 clear hb4 hb5 HX4 HO4 HR4 HW4;go_wp2
 go_end0
 exact HFin.out
theorem FD {w W:World} {B bo bq:Nat} {own:List Lot} {Q:Int} {s:List Pk×List UInt8} {v:Value} {x:Lot} {most:List UInt8} (hG:GE w) (hC:PI w B bo bq s v W) (hI:Yz own Q s) (hs:Vh x) (hm:most.length<=1000) (hQ:(canon Q).length<=1100) (hl:s.1.length<=100000) (hz0:Z0 (Ya x.id) s.1 0<0) :
  Calls prog 162 #[(Value.agg (Zn x)),Zg most,.pointer (some ⟨bo,0,none⟩),.pointer (some ⟨bq,0,none⟩)] W (L5 w B bo bq (YO s x most) v W):=by
 have hxq:=hs.q;have hx0:=Ur s.1 (fun p hp=>(hI.pos p hp).1)
 have hsm:=hI.sum;have hrem:=hI.rem;have hrl:s.2.length<=1101:=by rw[hI.can];exact XU (by omega) hQ
 have hpl:∀p∈s.1,p.q.length<=1101:=fun p hp=>by
  rw[(hI.pos p hp).2];refine XU ⟨Int.le_of_lt (hI.pos p hp).1,?_⟩ hQ
  have:=hx0.2 p hp
  omega
 obtain⟨n,hn⟩:∃n,n=s.1.length:=⟨_,rfl⟩
 obtain⟨A,c,rfl⟩:=hC.row.formN hn.symm;have hbA:=Zh W (.cells (Zn x) 130);have X1:=Lh (Yq.new W x 130);have HC:=Lh (hC.go hbA);have K1:=Lh (Dq _ O3 (Ya x.id) #[.pointer (some ⟨W.heap.size,0,none⟩)] A s.1 n c _ hn.symm (by omega) (HC.out.row.pkAt rfl) (fun p _ w' hb'=>Za7 p x W.heap.size w' (X1.out.below hb')))
 obtain⟨z,hz⟩:∃z,z=Z0 (Ya x.id) s.1 0:=⟨_,rfl⟩
 rw[<-hz] at K1 hz0;obtain⟨lf,hlf⟩:∃lf,lf=x.q:=⟨_,rfl⟩
 have elf:SL s.1 x=lf:=by
  unfold SL;rw[if_neg (by rw[<-hz];omega),hlf]
 have hlfl:lf.length<=1105:=by rw[hlf];omega
 obtain⟨n1,hn1⟩:∃n1,n1=Xh most lf:=⟨_,rfl⟩
 obtain⟨nn,hnn⟩:∃nn,nn=Xh n1 s.2:=⟨_,rfl⟩
 have en:nS s.1 s.2 x most=nn:=by unfold nS;rw[elf,hnn,hn1]
 have hn1l:n1.length<=1105:=by rw[hn1];exact Uy (by omega) hlfl
 have hnnl:nn.length<=1105:=by rw[hnn];exact Uy hn1l (by omega)
 have L1:=Lh (MI (a:=most) (b:=lf) (by omega) (by omega))
 have L2:=Lh (MI (a:=n1) (b:=s.2) (by omega) (by omega))
 rw[<-hn1] at L1;rw[<-hnn] at L2;have L3:=Lh (Vt (l:=nn) (by omega))
 have lq:=hC.lq;have lo:=hC.lo;have lb:=hC.lb;have le:=hC.le;have hbW0:=HC.out.below;have HGet:=Lh en;have HBA:Hid (Zz (TkX bo bq (.slice A n c)) W (W.alloc (.cells (Zn x) 130))):=Zz.of_below hbA;clear hbA hC hI hs hm hQ hxq hx0 hsm hrem hpl elf hn1 hnn en hn1l hlfl;have HLF:=Lh hlf;have HZ0:=Lh hz0;have HNL:Hid (s.1.length=n):=hn.symm;have HZ:=Lh hz;have g1:decide (0<=z)=false:=Df (by omega)
 have g2:decide (z<0)=true:=Dt hz0;have hnl:n<=100000:=by omega
 clear hlf hn hz hl;have q0:(W.alloc (.cells (Zn x) 130)).cell? ⟨bo,0,none⟩=some (.slice A n c):=Zk HC.out.out 0;go_enter func162,ntmps162;go_wp2_with fail;refine K1.out.mono ?_;rintro e w1 ⟨rfl,hb1⟩;clear q0 K1;replace HC:=Lh (HC.out.go hb1);replace X1:=Lh (X1.out.below hb1);replace HBA:=Lh (HBA.out.trans (Zz.of_below hb1));have hbW:=bto hbW0 hb1;clear hbW0 hb1;have q4:=X1.out.c4;rw[<-HLF.out] at q4;go_wp2_with fail;refine Zx (by kernel_rfl) (by kernel_rfl) ?_
 iterate 2 refine PeV ?_
 refine PeC (fun wz hw=>L1.out.e.of hG (bto hbW hw)) ?_
 refine PeW (fun ρ wz hw=>by have q0:wz.cell? ⟨bq,0,none⟩=some (Zg s.2):=Zk (Zv HC.out.rem hw) 0;go_simp;try rfl) ?_
 refine PeC (fun wz hw=>L2.out.e.of hG (bto hbW hw)) ?_
 refine PeV ?_;intro ρ w3 hF;dsimp only;replace HC:=Lh (HC.out.go hF.below);replace X1:=Lh (X1.out.below hF.below);replace HBA:=Lh (HBA.out.trans (Zz.of_below hF.below));replace hbW:=bto hbW hF.below;clear hF L1 L2;clear q4
 by_cases hp0:0<val nn
 rotate_left
 ·have e1:decide (0<val nn)=false:=Df hp0;rw[e1] at L3;have HT:Hid (YO s x most=s):=by
   show _=_;unfold YO;rw[HGet.out,if_pos (by omega)]
  clear hp0 e1;go_wp2_with fail
  refine (L3.out.e.of hG hbW).mono ?_
  rintro e w4 ⟨rfl,hb4⟩;clear L3;go_wp2
  go_end0
  rw[HT.out];exact⟨rfl,_,HC.out.go hb4,HBA.out.trans (Zz.of_below hb4),fun g h=>.inl h⟩
 have e1:decide (0<val nn)=true:=Dt hp0;rw[e1] at L3;have HT:Hid (∀nq,nq=canon (val ([]:List UInt8)+val nn)->YO s x most=((s.1++[Pk.mk x.id []]).set n ⟨x.id,nq⟩,canon (val s.2-val nn))):=fun nq h=>by
  unfold YO PF;rw[HGet.out,if_neg (by omega)]
  have hz1:=HZ0.out;simp only[<-HZ.out];rw[if_neg (by omega),h,<-HNL.out]
  have e:val ([]:List UInt8)+val nn=val nn:=by
   have:val ([]:List UInt8)=0:=by decide
   omega
  rw[e];simp
 clear hp0 e1;have q0:w3.cell? ⟨bo,0,none⟩=some (.slice A n c):=Zk HC.out.out 0;go_wp2_with fail
 refine (L3.out.e.of hG hbW).mono ?_
 rintro e w4 ⟨rfl,hb4⟩;clear L3 q0;replace HC:=Lh (HC.out.go hb4);replace X1:=Lh (X1.out.below hb4);replace HBA:=Lh (HBA.out.trans (Zz.of_below hb4));have hb5:=bto hbW hb4;clear hbW hb4;have q0:w4.cell? ⟨bo,0,none⟩=some (.slice A n c):=Zk HC.out.out 0;have q1:=X1.out.c0;obtain⟨i0,hi,hz0,hz1,hz2⟩:=info_parts Fi;have hown:w4.ownsRow B 195 2 (.slice A n c) n (WW s.1):=by
  have h:=HC.out.row;unfold YP at h;rw[HNL.out] at h;exact h
 have hbq:=Zh w4 (.cells #[Zg x.id,Zj] 195);have hsz4:(w4.alloc (.cells #[Zg x.id,Zj] 195)).heap.size=w4.heap.size+1:=by simp
 have HSZ:=Lh hsz4;have HOW:=Lh hown;have HII:=Lh (And.intro hi (And.intro hz0 (And.intro hz1 hz2)));clear hown hi hz0 hz1 hz2 hsz4;go_wp2_with (at_builtin;refine ZW rfl _ _ 45 rfl B 195 i0 (.agg #[Zj,Zj]) 2 32 underlying45 HII.out.1 HII.out.2.1 HII.out.2.2.1 HII.out.2.2.2 rfl (by decide) _ _ _ rfl (Yt HOW.out hbq) ⟨w4.heap.size,0,none⟩ 1 1 [Zg x.id,Zj] rfl rfl ?c1 ?c2 ?c3 ?c4 ?c5 ?_)
 case c1=>
  intro j u hu
  match j,hu with
  | 0,hu=>cases hu;exact Zk (ZJ w4 _) 0
  | 1,hu=>cases hu;exact Zk (ZJ w4 _) 1
 case c2=>
  intro u hu;simp only[List.mem_cons,List.not_mem_nil,or_false] at hu;rcases hu with rfl|rfl<;>rfl
 case c3=>unfold maxLen;omega
 case c4=>omega
 case c5=>exact Nt HC.out.le (Nt (Nat.le_add_right _ _) (Nat.le_of_eq HSZ.out.symm))
 intro v' w5 hown' hgrow hfresh;have hrow':YP w5 B v' (s.1++[Pk.mk x.id []]):=YP.app (x:=⟨x.id,[]⟩) hown' HNL.out;obtain⟨g,cc,rfl,hgB,hkb⟩:=hrow'.row (by simp)
 have hll0:(s.1++[Pk.mk x.id []]).length=n+1:=by rw[List.length_append,HNL.out];rfl
 rw[hll0] at hrow' hfresh hown' ⊢;have hov:=Ns HOW.out;have hnb:Value.ownBlock (.slice A n c)≠some bo:=fun e=>by have:=hov _ e;omega
 have hnq:Value.ownBlock (.slice A n c)≠some bq:=fun e=>by have:=hov _ e;omega
 have hOo:w5.heap[bo]?=some (.cells #[.slice A n c] 45 (0,0)):=by
  have h1:=Zv HC.out.out hbq;exact (hgrow.block bo (Ag.1 h1).1 (fun e=>hnb e.symm)).trans h1
 have hRo:w5.heap[bq]?=some (.cells #[Zg s.2] 32 (0,0)):=by
  have h1:=Zv HC.out.rem hbq;exact (hgrow.block bq (Ag.1 h1).1 (fun e=>hnq e.symm)).trans h1
 have hgr:Zz (TkX bo bq (.slice A n c)) (w4.alloc (.cells #[Zg x.id,Zj] 195)) w5:=⟨hgrow.os,hgrow.tape,hgrow.output,hgrow.size,fun k hk hn=>hgrow.block k hk (fun e=>hn (.inr (.inr e.symm)))⟩
 have q2:w5.cell? ⟨bo,0,none⟩=some (.slice A n c):=Zk hOo 0;have q3:w5.frozen? ⟨bo,0,none⟩=false:=Zt hOo 0;have hb3:Below w.heap.size w (w5.setCell ⟨bo,0,none⟩ (.slice (some ⟨g,0,none⟩) (n+1) cc)):=by
  refine Below.setCell (p:=⟨bo,0,none⟩) ?_ (by show w.heap.size<=bo;omega) _
  refine (bto hb5 hbq).grown hgrow (bto hb5 hbq).size (fun k hk=>?_)
  have:=hov k hk
  omega
 have HX3:Hid (Zz (TkX bo bq (.slice A n c)) W (w5.setCell ⟨bo,0,none⟩ (.slice (some ⟨g,0,none⟩) (n+1) cc))):=
  ((HBA.out.trans (Zz.of_below hbq)).trans hgr).trans (ZM (g:=bo) (X:=TkX bo bq (.slice A n c)) (.inl rfl) [.slice (some ⟨g,0,none⟩) (n+1) cc] 0 w5)
 have HO:Hid ((w5.setCell ⟨bo,0,none⟩ (.slice (some ⟨g,0,none⟩) (n+1) cc)).heap[bo]?=some (.cells #[.slice (some ⟨g,0,none⟩) (n+1) cc] 45 (0,0))):=hset _ hOo;have HRM:Hid ((w5.setCell ⟨bo,0,none⟩ (.slice (some ⟨g,0,none⟩) (n+1) cc)).heap[bq]?=some (.cells #[Zg s.2] 32 (0,0))):=hoth hRo (by omega)
 have HRW:Hid (YP (w5.setCell ⟨bo,0,none⟩ (.slice (some ⟨g,0,none⟩) (n+1) cc)) B (.slice (some ⟨g,0,none⟩) (n+1) cc) (s.1++[Pk.mk x.id []])):=hrow'.far (fun e=>by injection e with e;have e:g=bo:=e;omega)
 have hws:W.heap.size<=w4.heap.size:=by
  have:=HBA.out.size
  omega
 have HFR:Hid (∀g',Value.ownBlock (.slice (some ⟨g,0,none⟩) (n+1) cc)=some g'->Value.ownBlock (.slice A n c)=some g'∨W.heap.size<=g'):=fun g' h=>by
  rcases hfresh g' h with h1|h1
  ·exact .inl h1
  ·have:=HSZ.out
   exact .inr (by omega)
 have HGK:Hid (∀k,k<W.heap.size->¬TkX bo bq (.slice A n c) k->¬k=g):=fun k hk hn e=>by
  rcases HFR.out g rfl with h1|h1
  ·exact hn (.inr (.inr (by rw[e];exact h1)))
  ·omega
 have HN:Hid ((s.1++[Pk.mk x.id []]).length=n+1):=hll0;have HP:Hid ((s.1++[Pk.mk x.id []])[n]?=some ⟨x.id,[]⟩):=by show _=_;rw[<-HNL.out];simp
 obtain⟨p,hpe⟩:∃p:Pk,p=⟨x.id,[]⟩:=⟨_,rfl⟩
 obtain⟨l,hle⟩:∃l,l=s.1++[Pk.mk x.id []]:=⟨_,rfl⟩
 obtain⟨i,hie⟩:∃i,i=n:=⟨_,rfl⟩
 have hppl:p.q.length<=1101:=by rw[hpe];exact Nat.zero_le _
 have HT2:Hid (∀nq,nq=canon (val p.q+val nn)->YO s x most=(l.set i ⟨p.lot,nq⟩,canon (val s.2-val nn))):=by
  rw[hpe,hle,hie];exact HT.out
 rw[<-hle] at HRW HN HP;rw[<-hpe,<-hie] at HP;have HPE:=Lh hpe;have HIE2:=Lh hie;clear hpe hle hrow' hown' hgrow hfresh hOo hRo hgr hkb hnb hnq hov HC HOW HII hbq q0 q1 HBA X1 HT hb5 hll0 HLF;have HT:=HT2;clear HT2;go_wp2_with fail;clear q2 q3 g1 g2;obtain⟨W3,hW3⟩:∃W3,W3=w5.setCell ⟨bo,0,none⟩ (.slice (some ⟨g,0,none⟩) (n+1) cc):=⟨_,rfl⟩
 rw[<-hW3] at hb3 HX3 HO HRM HRW ⊢;rw[<-HIE2.out];rw[<-HIE2.out] at HO HRW HN HFR HX3 HGK;have hi1:i<=100000:=by rw[hie];omega
 clear hie hW3 hnl hws;obtain⟨N,hN⟩:∃N,N=i+1:=⟨_,rfl⟩
 rw[<-hN] at HO HRW HN HFR ⊢;have hll:l.length=N:=HN.out;have hin:i<N:=by omega
 have hi2:N<=100001:=by omega
 clear hN hi1;obtain⟨cur,hcur,hct,hcs⟩:Nn W3 g l:=by
  obtain⟨g',c',e',-,hk⟩:=HRW.out.row (by omega)
  injection e' with e1 e2 e3
  injection e1 with e1
  injection e1 with e1
  subst e1;exact hk
 have HCI:Hid (cur[i*2+1]?=some (Zg p.q)):=by
  have h1:=(SN HP.out).2;rw[<-hct,List.getElem?_take,if_pos (by omega),Array.getElem?_toList] at h1
  exact h1
 have KA:=Lh (XX (l:=p.q) (l':=nn) (z:=val p.q+val nn) (by omega) (by omega) rfl)
 have KS:=Lh (Vg (l:=s.2) (l':=nn) (z:=val s.2-val nn) (by omega) (by omega) rfl)
 obtain⟨nq,hnq⟩:∃nq,nq=canon (val p.q+val nn):=⟨_,rfl⟩
 obtain⟨nr,hnr⟩:∃nr,nr=canon (val s.2-val nn):=⟨_,rfl⟩
 rw[<-hnq] at KA;rw[<-hnr] at KS;have HNQ:=Lh hnq;have HNR:=Lh hnr;clear hnq hnr;obtain⟨F,hF⟩:∃F:Fx,F=fun b=>if b=g then some (.cells cur 195 (0,0)) else none:=⟨_,rfl⟩
 have f1:F g=some (.cells cur 195 (0,0)):=by rw[hF];exact if_pos rfl
 have hX:∀b,F b≠none->b=g:=fun b hb=>by
  rw[hF] at hb;dsimp only at hb
  by_cases h1:b=g
  ·exact h1
  ·rw[if_neg h1] at hb;exact absurd rfl hb
 have HFF:Hid (∀b ob,F b=some ob->W3.heap[b]?=some ob):=fun b ob h=>by
  rw[hF] at h;dsimp only at h
  by_cases h1:b=g
  ·rw[if_pos h1] at h;rw[h1,<-h];exact hcur
  ·rw[if_neg h1] at h;cases h
 have hno:¬(F bo≠none):=fun h=>by have:=hX _ h;omega
 have hnq':¬(F bq≠none):=fun h=>by have:=hX _ h;omega
 have hlow:∀k,F k≠none->w.heap.size<=k:=fun k hk=>by have:=hX _ hk;omega
 have hlbo:bo<W3.heap.size:=(Ag.1 HO.out).1;obtain⟨tch,htch⟩:∃tch:Nat->List Nat,tch=fun b=>if b=g then [6,11] else []:=⟨_,rfl⟩
 clear hF;refine ZL tch F (by kernel_rfl) (by kernel_rfl) (by kernel_rfl) HFF.out ?_
 iterate 2
  refine PfV _ rfl (fun wz hw=>by have q0:wz.cell? ⟨bo,0,none⟩=some (.slice (some ⟨g,0,none⟩) N cc):=(Zk ((hw.block _ hlbo hno).trans HO.out) 0);go_simp;try rfl) ?_
  refine PfV _ rfl (fun wz hw=>by go_simp;try rfl) ?_
 refine PfV (.pointer (some ⟨g,i*2,none⟩)) rfl (fun wz hw=>by go_simp;try rfl) ?_
 refine PfV (.pointer (some ⟨g,i*2+1,none⟩)) rfl (fun wz hw=>by go_simp;try rfl) ?_
 refine Z9 g cur 195 (Zg p.q) f1 (by simp[htch]) rfl (fun wz hw hc=>by have q0:wz.cell? ⟨g,i*2+1,none⟩=some (Zg p.q):=(hc _).trans HCI.out;clear hc;go_simp;try rfl) ?_
 simp only[Act.put,StT,StZ,StS,Nat.reduceAdd];refine PfV _ rfl (fun wz hw=>by go_simp;try rfl) ?_
 refine PfC _ _ _ rfl (fun wz hw=>by go_simp;try rfl) (fun wz hw=>KA.out.e.of hG (hw.lower hb3 hlow)) ?_
 refine PfV (.pointer (some ⟨g,i*2,none⟩)) rfl (fun wz hw=>by go_simp;try rfl) ?_
 refine PfV (.pointer (some ⟨g,i*2+1,none⟩)) rfl (fun wz hw=>by go_simp;try rfl) ?_
 refine XE g (i*2+1) cur (Zg nq) 195 f1 (by simp[htch]) (fun j oj hj=>ZC (l:=[6,11]) (by kernel_rfl) j oj (by simpa [htch] using hj)) rfl (fun wz hw hc hf=>by have q0:wz.cell? ⟨g,i*2+1,none⟩=some (Zg p.q):=(hc _).trans HCI.out;have q1:=hf (i*2+1);clear hc hf;go_simp;try rfl) ?_
 simp only[Act.put,Nat.reduceAdd];refine YB (fun w4 hF4=>?_)
 have hb4:=hF4.below.lower hb3 hlow;have HX4:Hid (Zz (fun k=>k=g) W3 w4):=⟨hF4.below.os,hF4.below.tape,hF4.below.output,hF4.below.size,fun k hk hn=>hF4.below.block k hk (fun h=>hn (hX k h))⟩
 have HO4:Hid (w4.heap[bo]?=some (.cells #[.slice (some ⟨g,0,none⟩) N cc] 45 (0,0))):=(hF4.below.block _ hlbo hno).trans HO.out;have HR4:Hid (w4.heap[bq]?=some (.cells #[Zg s.2] 32 (0,0))):=(hF4.below.block _ (Ag.1 HRM.out).1 hnq').trans HRM.out;have HW4:Hid (YP w4 B (.slice (some ⟨g,0,none⟩) N cc) (l.set i ⟨p.lot,nq⟩)):=by
  have h1:YP W3 B (.slice (some ⟨g,0,none⟩) l.length cc) l:=by rw[HN.out];exact HRW.out
  have h2:=h1.set HP.out nq;rw[HN.out] at h2;refine h2.same (fun g' e=>?_)
  injection e with e
  have e:g=g':=e;subst e;rw[hF4.box g _ (if_pos rfl),hset _ hcur]
 have hs4:=hF4.below.size;clear hF4 f1 hX HFF hno hnq' htch KA HCI hcur hct hcs HRW;have q0:w4.cell? ⟨bq,0,none⟩=some (Zg s.2):=Zk HR4.out 0;go_wp2_with fail
 refine (KS.out.e.of hG hb4).mono ?_
 rintro e w5 ⟨rfl,hb5⟩;clear q0 KS;have q0:w5.cell? ⟨bq,0,none⟩=some (Zg s.2):=Zk (Zv HR4.out hb5) 0;have q1:w5.frozen? ⟨bq,0,none⟩=false:=Zt (Zv HR4.out hb5) 0;have HFin:Hid (L5 w B bo bq (YO s x most) (.slice A i c) W (.returned (.tuple #[])) (w5.setCell ⟨bq,0,none⟩ (Zg nr))):=by
  have e:YO s x most=(l.set i ⟨p.lot,nq⟩,nr):=by rw[HNR.out];exact HT.out nq HNQ.out
  rw[e];refine⟨rfl,_,⟨(bto hb4 hb5).setCell (p:=⟨bq,0,none⟩) lq _,lq,lo,lb,?_,hset _ (Zv HR4.out hb5),hoth (Zv HO4.out hb5) (by omega),?_⟩,?_,HFR.out⟩
  ·have h1:=hb5.size;have h2:=HX3.out.size;show B<=(w5.setCell _ _).heap.size;simp;omega
  ·exact (HW4.out.below hb5).far (fun e=>by injection e with e;have e:g=bq:=e;omega)
  ·have h1:=HX3.out.size;have h3:=hb5.size;refine⟨hb5.os.trans (HX4.out.os.trans HX3.out.os),hb5.tape.trans (HX4.out.tape.trans HX3.out.tape),hb5.output.trans (HX4.out.output.trans HX3.out.output),?_,fun k hk hn=>?_⟩
   ·show W.heap.size<=(w5.setCell _ _).heap.size;simp;omega
   ·exact (Below.heap_setCell w5 ⟨bq,0,none⟩ _ k (fun e=>hn (.inr (.inl e)))).trans ((hb5.block k (by omega)).trans ((HX4.out.block k (by omega) (HGK.out k hk hn)).trans (HX3.out.block k hk hn)))
 clear hb4 hb5 HX4 HO4 HR4 HW4;go_wp2
 go_end0
 have h:=HFin.out;rw[HIE2.out] at h;exact h
theorem J7 {w W:World} {B bo bq:Nat} {own:List Lot} {Q:Int} {s:List Pk×List UInt8} {v:Value} {x:Lot} {most:List UInt8} (hG:GE w) (hC:PI w B bo bq s v W) (hI:Yz own Q s) (hs:Vh x) (hm:most.length<=1000) (hQ:(canon Q).length<=1100) (hl:s.1.length<=100000) :
  Calls prog 162 #[(Value.agg (Zn x)),Zg most,.pointer (some ⟨bo,0,none⟩),.pointer (some ⟨bq,0,none⟩)] W (L5 w B bo bq (YO s x most) v W):=by
 by_cases h:0<=Z0 (Ya x.id) s.1 0
 ·exact Cg hG hC hI hs hm hQ hl h
 ·exact FD hG hC hI hs hm hQ hl (by omega)
def QM (p:Pk):Bool:=!decide (p.q=canon (val p.q))||!decide (0<val p.q)
def chE (xs:List Lot) (I q:List UInt8) (m:Int) (ps:List Pk):Int:=
 if Xs xs≠0 then 1 else if ¬q=canon (val q) then 1 else if m=5/\ps.any QM=true then 1 else if m<1∨7<=m then 7 else if val q<=0 then 2 else if Yi (ofL I xs)<val q then 15 else 0
theorem QN {xs:List Lot} {I q:List UInt8} {m:Int} {ps:List Pk} (h:chE xs I q m ps=0):Xs xs=0/\q=canon (val q)/\¬(m=5/\ps.any QM=true)/\1<=m/\m<=6/\0<val q/\val q<=Yi (ofL I xs):=by
 unfold chE at h
 by_cases h1:Xs xs≠0
 ·rw[if_pos h1] at h;exact absurd h (by decide)
 rw[if_neg h1] at h
 by_cases h2:¬q=canon (val q)
 ·rw[if_pos h2] at h;exact absurd h (by decide)
 rw[if_neg h2] at h
 by_cases h3:m=5/\ps.any QM=true
 ·rw[if_pos h3] at h;exact absurd h (by decide)
 rw[if_neg h3] at h
 by_cases h4:m<1∨7<=m
 ·rw[if_pos h4] at h;exact absurd h (by decide)
 rw[if_neg h4] at h
 by_cases h5:val q<=0
 ·rw[if_pos h5] at h;exact absurd h (by decide)
 rw[if_neg h5] at h
 by_cases h6:Yi (ofL I xs)<val q
 ·rw[if_pos h6] at h;exact absurd h (by decide)
 exact⟨Decidable.not_not.1 h1,Decidable.not_not.1 h2,h3,by omega,by omega,by omega,by omega⟩
theorem ZcS {p:Pk} (hp:p.q.length<=1000):WQ 160 #[.agg #[Zg p.lot,Zg p.q]] (.bool (QM p)):=fun w hG=>by
 have hb:=Zh w (.cells #[Zg p.lot,Zg p.q] 195);have X1:=Lh (Blk.new w #[Zg p.lot,Zg p.q] 195);have C1:=Lh (Yv (l:=p.q) (by omega) rfl)
 have C2:=Lh (Vt (l:=p.q) (by omega))
 have HV:Hid (QM p=(!decide (p.q=canon (val p.q))||!decide (0<val p.q))):=rfl
 generalize QM p=R at *;have q1:=X1.out.c 1
 by_cases g:p.q=canon (val p.q)
 ·have HV2:Hid (R = !decide (0<val p.q)):=by show _=_;rw[HV.out,Dt g];rfl
  rw[if_pos g] at C1;generalize decide (0<val p.q)=nb at *;clear HV g;go_enter func160,ntmps160;go_wp2_with fail
  refine (C1.out.e.of hG hb).mono ?_
  rintro e w1 ⟨rfl,hb1⟩;clear q1;have q1:=(X1.out.below hb1).c 1;replace hb:=bto hb hb1;go_wp2_with fail
  refine (C2.out.e.of hG hb).mono ?_
  rintro e w2 ⟨rfl,hb2⟩;go_wp2;go_ret;exact⟨ZR HV2.out.symm,bto hb hb2⟩
 ·have HV2:Hid (R=true):=by show _=_;rw[HV.out,Df g];rfl
  rw[if_neg g] at C1;clear HV g C2;go_enter func160,ntmps160;go_wp2_with fail
  refine (C1.out.e.of hG hb).mono ?_
  rintro e w1 ⟨rfl,hb1⟩;go_wp2;go_ret;exact⟨ZR HV2.out.symm,bto hb hb1⟩
theorem N6 (args:Array Value) (w:World):(callFunc 160 args).run prog w=.ok (.enter 160 args) w:=by kernel_rfl
theorem N7 (args:Array Value) (w:World):(callFunc 162 args).run prog w=.ok (.enter 162 args) w:=by kernel_rfl
theorem N8 {α:Type} [DecidableEq α]:∀(l m:List α),l.Nodup->(∀x∈l,x∈m)->l.length<=m.length
 | [],m,_,_=>Nat.zero_le _
 | a::l,m,hn,hs=>by
  have hn':=List.nodup_cons.1 hn;have ha:=hs a List.mem_cons_self;have ih:=N8 l (m.erase a) hn'.2 (fun x hx=>(List.mem_erase_of_ne (fun e=>hn'.1 (by rw[<-e];exact hx))).2 (hs x (List.mem_cons_of_mem _ hx)))
  rw[List.length_erase_of_mem ha] at ih
  have:=List.length_pos_of_mem ha
  simp only[List.length_cons];omega
theorem Yz.len {own:List Lot} {Q:Int} {s:List Pk×List UInt8} (h:Yz own Q s):s.1.length<=own.length:=by
 have:=N8 (s.1.map (·.lot)) (own.map (·.id)) h.nd (fun x hx=>by
  obtain⟨p,hp,rfl⟩:=List.mem_map.1 hx;obtain⟨y,hy,e⟩:=h.mem p hp
  exact List.mem_map.2 ⟨y,hy,e⟩)
 simpa using this
theorem MM {own:List Lot} {q:List UInt8} (hq:q=canon (val q)) (h0:0<=val q):Yz own (val q) ([],q):=
 ⟨by show Xb []+val q=val q;simp[Xb],h0,hq,fun p hp=>(by cases hp),by simp,fun p hp=>(by cases hp)⟩
theorem YP.base {w:World} {B B':Nat} {v:Value} {xs:List Pk} (h:YP w B v xs) (hb:B'<=B):YP w B' v xs:=by
 refine⟨h.1,?_⟩;rcases h.2 with h2|⟨g,cap,cur,ev,hB,r⟩
 ·exact .inl h2
 ·exact .inr ⟨g,cap,cur,ev,Nt hb hB,r⟩
def QO (own:List Lot) (q:List UInt8) (m:Int) (ps:List Pk):List Pk×List UInt8:=if m=5 then WS own ps ([],q) else ([],q)
def Ch (w:World) (own:List Lot) (q:List UInt8) (m:Int) (ps:List Pk) (e:Ending) (w':World):Prop:=
 ∃v zs,e=.returned (.tuple #[v,Zi 0])/\Below w.heap.size w w'/\zs.Perm own/\(m=1->own.length<=20->SS cfF own->zs=own)/\YP w' w.heap.size v (Yy zs (QO own q m ps)).1
theorem Zas {w:World} {A Ap:Option Addr} {xs:List Lot} {ps:List Pk} {n np:Nat} (c cp:Nat) {I q:List UInt8} {m:Int} (hG:GE w) (hL:Yk w A xs n) (hP:XI w Ap ps) (hpn:ps.length=np) (hpn2:np<=100000) (hps:∀p∈ps,p.lot.length<=1000/\p.q.length<=1000) (hql:q.length<=1000) (hE:chE xs I q m ps=0) :
  Calls prog 93 #[.slice A n c,Zg I,Zg q,Zi m,.slice Ap np cp] w (Ch w (ofL I xs) q m ps):=by
 obtain⟨c1,c2,c3,c4,c5,c6,c7⟩:=QN hE;have hb:=Zh w (.cells #[Zg q] 32);have HQ:Hid ((w.alloc (.cells #[Zg q] 32)).heap[w.heap.size]?=some (.cells #[Zg q] 32 (0,0))):=ZJ w _;have K1:=Lh (V2 c (hG.below hb) (hL.below hb));rw[c1] at K1;have K2:=Lh (Yv (l:=q) (c:=0) (by omega) (if_pos c2))
 have K3:=Lh (fun (w':World) (hb':Below w.heap.size w w')=>I6 _ N6 QM #[] Ap ps np cp w' hpn (by omega) (hP.below hb') (fun p hp w2 hb2=>ZcS (hps p hp).2 w2 ((hG.below hb').below hb2)))
 have K4:=Lh (fun (w':World)=>PV c4 c5 w')
 have K5:=Lh (fun (w':World) (hb':Below w.heap.size w w')=>Qz c I (hG.below hb') (hL.below hb'))
 have K6:=Lh (Vt (l:=q) (by omega))
 rw[Dt c6] at K6;obtain⟨own,hown⟩:∃own,own=ofL I xs:=⟨_,rfl⟩
 have hosm:∀x∈own,Vh x:=fun x hx=>by rw[hown] at hx;exact hL.sm x ((List.mem_filter.1 hx).1)
 have hol:own.length<=100000:=by
  have h1:own.length<=xs.length:=by rw[hown];exact List.length_filter_le _ _
  have:=hL.len
  have:=hL.big
  omega
 have hol1:1<=own.length:=by
  rcases Nat.eq_zero_or_pos own.length with h|h
  ·have:own=[]:=List.eq_nil_of_length_eq_zero h
   rw[<-hown,this] at c7;have e:Yi []=0:=rfl;omega
  ·exact h
 have K8:=Lh (fun (w':World) (hb':Below w.heap.size w w')=>lOf c I (hL.below hb'))
 rw[<-hown] at K5 K8 c7 ⊢;obtain⟨sq,hsq⟩:∃sq,sq=canon (Yi own):=⟨_,rfl⟩
 obtain⟨sc,hsc⟩:∃sc,sc=canon (Yx own):=⟨_,rfl⟩
 rw[<-hsq,<-hsc] at K5;obtain⟨cc,hcc⟩:∃cc,cc=ZH (val sq) (val q):=⟨_,rfl⟩
 have hsql:sq.length<=100000:=by rw[hsq];exact WB (fun x=>x.q) own (fun x hx=>(hosm x hx).q) hol
 have K7:=Lh (ZF (l:=sq) (l':=q) (by omega) (by omega) hcc.symm)
 have hcc0:¬cc<0:=by
  rw[hcc,hsq,Zm];unfold ZH;rw[if_neg (by omega)]
  split<;>omega
 have e7:decide (cc<0)=false:=Df hcc0;have HQI:=Lh (MM (own:=own) c2 (Int.le_of_lt c6));have HQL:Hid ((canon (val q)).length<=1100):=by rw[<-c2];show q.length<=1100;omega
 have HOS:=Lh hosm;have HPA:=Lh hP;have HPS:=Lh hps;have HPN:=Lh hpn;have HC3:=Lh c3;have lq:w.heap.size<=w.heap.size:=Nl _;clear hE c1 c2 c3 c6 c7 hown hosm hsq hsc hcc hsql hcc0 hL hP hps hpn hql;obtain⟨bq,hbq⟩:∃bq,bq=w.heap.size:=⟨_,rfl⟩
 rw[<-hbq] at HQ;have lq:w.heap.size<=bq:=by omega
 by_cases hm5:m=5
 ·have em:(m==5)=true:=by rw[beq_iff_eq];exact hm5
  have HA:Hid (ps.any QM=false):=by
   cases hc:ps.any QM with
   | false=>rfl
   | true=>exact absurd ⟨hm5,hc⟩ HC3.out
  rw[HA.out] at K3;have HM5:=Lh hm5;clear hm5 HC3 HA;go_enter func93,ntmps93;go_wp2_with fail;rw[<-hbq];have HBQ:=Lh hbq;clear hbq;refine K1.out.mono ?_;rintro e w1 ⟨rfl,hb1⟩;replace hb:=bto hb hb1;replace HQ:=Lh (Zv HQ.out hb1);have q0:w1.cell? ⟨bq,0,none⟩=some (Zg q):=Zk HQ.out 0;clear K1 hb1;go_wp2_with fail
  refine (K2.out.e.of hG hb).mono ?_
  rintro e w2 ⟨rfl,hb2⟩;replace hb:=bto hb hb2;replace HQ:=Lh (Zv HQ.out hb2);clear K2 hb2 q0;go_wp2_with fail;refine (K3.out _ hb).mono ?_;rintro e w2b ⟨rfl,hb2b⟩;replace hb:=bto hb hb2b;replace HQ:=Lh (Zv HQ.out hb2b);clear K3 hb2b;go_wp2_with fail;refine (K4.out _).mono ?_;rintro e w3 ⟨nm,f,cap,rv,bf,rfl,hbf,hB,hb3,hE,hm1⟩;have hb3':=Zh w3 (.cells #[Zg nm,.func (.func f) #[] (WL cap bf),.bool rv] 240);have HE:Hid (Blk (w3.alloc (.cells #[Zg nm,.func (.func f) #[] (WL cap bf),.bool rv] 240)) w3.heap.size #[Zg nm,.func (.func f) #[] (WL cap bf),.bool rv]):=Blk.new w3 _ 240;have HB:=Lh (hB.below hb3');replace hb:=bto (bto hb hb3) hb3';replace HQ:=Lh (Zv (Zv HQ.out hb3) hb3');have HENT:=Lh hE;have HM1:=Lh hm1;clear K4 hb3 hb3' hB hE hm1 hbf;go_wp2_with fail;refine (K5.out _ hb).mono ?_;rintro e w4 ⟨rfl,hb4⟩;replace HE:=Lh (HE.out.below hb4);replace HB:=Lh (HB.out.below hb4);replace hb:=bto hb hb4;replace HQ:=Lh (Zv HQ.out hb4);have q0:w4.cell? ⟨bq,0,none⟩=some (Zg q):=Zk HQ.out 0;clear K5 hb4;go_wp2_with fail
  refine (K6.out.e.of hG hb).mono ?_
  rintro e w5 ⟨rfl,hb5⟩;replace HE:=Lh (HE.out.below hb5);replace HB:=Lh (HB.out.below hb5);replace hb:=bto hb hb5;replace HQ:=Lh (Zv HQ.out hb5);clear q0 K6 hb5;have q0:w5.cell? ⟨bq,0,none⟩=some (Zg q):=Zk HQ.out 0;go_wp2_with fail
  refine (K7.out.e.of hG hb).mono ?_
  rintro e w6 ⟨rfl,hb6⟩;replace HE:=Lh (HE.out.below hb6);replace HB:=Lh (HB.out.below hb6);replace hb:=bto hb hb6;replace HQ:=Lh (Zv HQ.out hb6);clear q0 K7 hb6;go_wp2_with fail;refine (K8.out _ hb).mono ?_;rintro e w7 ⟨v0,rfl,hro,hb7⟩;replace HE:=Lh (HE.out.below hb7);replace HB:=Lh (HB.out.below hb7);replace hb:=bto hb hb7;replace HQ:=Lh (Zv HQ.out hb7);obtain⟨Ao,co,rfl⟩:∃Ao co,v0=.slice Ao own.length co:=by
   rcases hro.2 with ⟨hv,h1⟩|⟨g,cap,cur,hv,-⟩
   ·omega
   ·exact⟨_,_,hv⟩
  obtain⟨g0,rfl,hg0,hr0⟩:=OI hro rfl hol1;have HRO:=Lh hr0;clear K8 hb7 hro hr0 e7;have hbo:=Zh w7 (.cells #[.slice none 0 0] 45);have hsz:(w7.alloc (.cells #[.slice none 0 0] 45)).heap.size=w7.heap.size+1:=by simp
  have hqlt:bq<w7.heap.size:=(Ag.1 HQ.out).1;have helt:w3.heap.size<w7.heap.size:=HE.out.lt;have hblt:bf<w7.heap.size:=HB.out.lt;have hglt:g0<w7.heap.size:=HRO.out.lt;have hgq:g0≠bq:=fun e=>by
   obtain⟨cur,h0,-⟩:=HRO.out;rw[e,HQ.out] at h0;simp at h0
  have heq:w3.heap.size≠bq:=fun e=>by
   obtain⟨t0,h0⟩:=HE.out;rw[e,HQ.out] at h0;simp at h0
  have hfq:bf≠bq:=fun e=>by
   obtain⟨t0,h0⟩:=HB.out;rw[e,HQ.out] at h0;simp at h0
  have HC:Hid (PI w (w7.heap.size+1) w7.heap.size bq ([],q) (.slice none 0 0) (w7.alloc (.cells #[.slice none 0 0] 45))):=⟨bto hb hbo,lq,hqlt,Nat.lt_succ_self _,by rw[hsz];exact Nl _,Zv HQ.out hbo,ZJ w7 _,LK _ _⟩
  replace HE:=Lh (HE.out.below hbo);replace HB:=Lh (HB.out.below hbo);replace HRO:=Lh (HRO.out.below hbo);clear hbo hsz hb HQ;obtain⟨bo,hbo⟩:∃bo,bo=w7.heap.size:=⟨_,rfl⟩
  obtain⟨be,hbe⟩:∃be,be=w3.heap.size:=⟨_,rfl⟩
  obtain⟨B,hB⟩:∃B,B=bo+1:=⟨_,rfl⟩
  obtain⟨N,hN⟩:∃N,N=own.length:=⟨_,rfl⟩
  rw[<-hbo,<-hB] at HC;rw[<-hbo] at hqlt helt hblt hglt;rw[<-hbe] at HE helt heq;have hEn:=fun args w=>N7 args w
  have hboB:bo<B:=by omega
  have HBO:=Lh hbo;have HBE:=Lh hbe;have HNN:=Lh hN;have hN1:1<=N:=by omega
  have hN2:N<=100000:=by omega
  clear hbo hbe hB hN;have HI:=HQI;have hp1:ps.length<=np:=by have:=HPN.out;omega
  have hp2:np<=ps.length:=by have:=HPN.out;omega
  go_wp2_with fail;rw[<-HBO.out,<-HBE.out,<-HNN.out]
  go_loopw [20,21,22,70] (fun _ _ _ iv wr=>∃(k:Nat) (s:List Pk×List UInt8) (v:Value),k<=np/\iv=Zi (k:Int)/\Hid (PI w B bo bq s v wr)/\Hid (Yz own (val q) s)/\Hid (WS own (ps.drop k) s=WS own ps ([],q))/\Hid (YK wr g0 own)/\Hid (Blk wr be #[Zg nm,.func (.func f) #[] (WL cap bf),.bool rv])/\Hid (Blk wr bf #[.func (.func 269) #[] #[]])) (fun _ _ _ iv _=>np-(intOf iv).toNat)
  case atStart=>exact⟨0,_,_,Nat.zero_le _,rfl,HC.out,HI.out,rfl,HRO.out,HE.out,HB.out⟩
  case round=>
   clear HC HI HRO HE HB;obtain⟨k,s,v,hk,rfl,HC,HI,HNE,HRO,HE,HB⟩:=hrel
   by_cases hlk:k<np
   rotate_left
   ·have e1:decide (k<np)=false:=Df hlk;have e2:decide ((k:Int)<(np:Int))=false:=Df (by omega)
    have HS1:Hid (QO own q m ps=s):=by
     have h:=HNE.out;rw[List.drop_of_length_le (by omega)] at h
     unfold QO;show _=_;rw[if_pos HM5.out,<-h];rfl
    rename World=>wl
    clear HNE;have KSo:=Lh (Za6 co (hG.below HC.out.below) ⟨HNN.out.symm,hN2,HOS.out,HRO.out.lotAt⟩ hN1 nm rv bf HENT.out HB.out);have q1:=HE.out.c 0;have q2:=HE.out.c 1;have q3:=HE.out.c 2;go_wp2_with fail;refine KSo.out.mono ?_;rintro e w9 ⟨gs,cps,zs,rfl,hgs,hrs,hperm,hb9,hord⟩;have hvb:=HC.out.row.block;have hle:=HC.out.le;have HVG:Hid (Value.ownBlock (v)≠some gs):=fun e=>by have:=(hvb gs e).2;omega
    have hgbo:gs≠bo:=by omega
    have hgbq:gs≠bq:=by omega
    replace HC:=Lh (HC.out.go hb9);have HRS:=Lh hrs;have HPE:=Lh hperm;have HOR:=Lh hord;have hzl:zs.length=N:=hperm.length_eq.trans HNN.out.symm;have hz1:zs.length<=N:=by omega
    have hz2:N<=zs.length:=by omega
    clear hvb hle hgs hrs hperm hb9 hord hzl q1 q2 q3 KSo HE HB HRO;go_wp2_with fail
    rename World=>wo
    obtain⟨s0,hs0⟩:∃s0,s0=s:=⟨_,rfl⟩
    rw[<-hs0] at HS1;have HS0:=Lh hs0;clear hs0
    go_loopw [24,95] (fun _ iv wr=>∃(k:Nat) (s:List Pk×List UInt8) (v:Value),k<=N/\iv=Zi (k:Int)/\Hid (PI w B bo bq s v wr)/\Hid (Yz own (val q) s)/\Hid (Yy (zs.drop k) s=Yy zs s0)/\Hid (YK wr gs zs)/\Hid (v.ownBlock≠some gs)) (fun _ iv _=>N-(intOf iv).toNat)
    case atStart=>exact⟨0,_,_,Nat.zero_le _,rfl,HC.out,HI.out,(by rw[HS0.out];rfl),HRS.out,HVG.out⟩
    case round=>
     clear HC HI HRS HVG;obtain⟨k,s,v,hk,rfl,HC,HI,HRE,HRS,HVG⟩:=hrel
     by_cases hlk:k<N
     rotate_left
     ·have e1:decide (k<N)=false:=Df hlk;have e2:decide ((k:Int)<(N:Int))=false:=Df (by omega)
      have q0:wr.cell? ⟨bo,0,none⟩=some v:=Zk HC.out.out 0;have HF:Hid (Ch w own q m ps (.returned (.tuple #[v,Zi 0])) wr):=by
       have e:s=Yy zs (QO own q m ps):=by
        have h:=HRE.out;rw[List.drop_of_length_le (by omega)] at h
        rw[HS1.out];exact h
       refine⟨v,zs,rfl,HC.out.below,HPE.out,fun hm h20 ho=>?_,?_⟩
       ·obtain⟨h1,-,h3⟩:=HM1.out hm;exact HOR.out h3 h1 (by have:=HNN.out;omega) ho
       ·rw[<-e];exact HC.out.row.base (by have:=HC.out.lq;have:=HC.out.lo;have:=HC.out.lb;omega)
      obtain⟨A1,c1,rfl⟩:=HC.out.row.form;clear HC HI HRE HRS HVG;go_wp2;go_ret2;exact HF.out
     have e1:decide (k<N)=true:=Dt hlk;have e2:decide ((k:Int)<(N:Int))=true:=Dt (by omega)
     obtain⟨x,hx⟩:∃x,zs[k]?=some x:=⟨_,List.getElem?_eq_getElem (by omega)⟩
     have hxo:x∈own:=HPE.out.subset (Lm hx);have hxs:=HOS.out x hxo;have hcells:=HRS.out.cells hx;have p0:=hcells.c0;have p1:=hcells.c1;have p2:=hcells.c2;have p3:=hcells.c3;have p4:=hcells.c4;have p5:=hcells.c5;have p6:=hcells.c6;have hbA:=Zh wr (.cells (Zn x) 130);have x1:=Yq.new wr x 130;have q0:=x1.c0;have q1:=x1.c1;have q2:=x1.c2;have q3:=x1.c3;have q4:=x1.c4;have q5:=x1.c5;have q6:=x1.c6;have KT:=Lh (J7 hG (HC.out.go hbA) HI.out hxs hxs.q HQL.out (Nt HI.out.len (by have:=HNN.out;omega)))
     have HD:Hid (zs.drop k=x::zs.drop (k+1)):=by
      obtain⟨hk2,rfl⟩:=Lg.1 hx;exact List.drop_eq_getElem_cons hk2
     have HI2:=Lh (U3 x.q HI.out hxo).1;have hgl:=HRS.out.lt;have HRA:=Lh (HRS.out.below hbA);have hsa:(wr.alloc (.cells (Zn x) 130)).heap.size=wr.heap.size+1:=by simp
     have HSA:=Lh hsa;clear hx hxo hxs hcells x1 hbA hsa;go_wp2_with fail;refine KT.out.mono ?_;rintro e w10 ⟨rfl,v',hc',hx',hf'⟩;have HC':=Lh hc'
     have HRS':Hid (YK w10 gs zs):=HRA.out.keepX hx' (fun h=>by
      rcases h with h|h|h
      ·exact hgbo h
      ·exact hgbq h
      ·exact HVG.out h)
     have HVG':Hid (v'.ownBlock≠some gs):=fun e=>by
      rcases hf' gs e with h|h
      ·exact HVG.out h
      ·have:=HSA.out;omega
     have HRE':Hid (Yy (zs.drop (k+1)) (YO s x x.q)=Yy zs s0):=by
      have h:=HRE.out;rw[HD.out] at h;exact h
     clear p0 p1 p2 p3 p4 p5 p6 q0 q1 q2 q3 q4 q5 q6 e1 e2 KT hc' hx' hf' HC HI HRE HRS HVG HRA HD hgl HSA;go_wp2;go_roundw
     case rel=>exact⟨k+1,_,v',by omega,by go_num,HC'.out,HI2.out,HRE'.out,HRS'.out,HVG'.out⟩
     case measure=>simp[intOf];omega
   have e1:decide (k<np)=true:=Dt hlk;have e2:decide ((k:Int)<(np:Int))=true:=Dt (by omega)
   obtain⟨p,hp⟩:∃p,ps[k]?=some p:=⟨_,List.getElem?_eq_getElem (by omega)⟩
   have hpz:=HPS.out p (Lm hp);obtain⟨b,o,rfl,hbs,p0,p1⟩:=(HPA.out.below HC.out.below) k p hp;have hbA:=Zh wr (.cells #[Zg p.lot,Zg p.q] 195);have x1:=Blk.new wr #[Zg p.lot,Zg p.q] 195;have q0:=x1.c 0;have KF:=Lh (Ds co p.lot HNN.out.symm hN2 (HRO.out.below hbA).lotAt);have HD:Hid (WS own (ps.drop k) s=WS own (ps.drop (k+1)) (if 0<=Z0 (isLt p.lot) own 0 then YO s (own.getD (Z0 (isLt p.lot) own 0).toNat ⟨[],[],0,0,[],[],[]⟩) p.q else s)):=by
    obtain⟨hk2,rfl⟩:=Lg.1 hp;show _=_;rw[List.drop_eq_getElem_cons hk2];rfl
   have X1:=Lh x1;replace HC:=Lh (HC.out.go hbA);replace HRO:=Lh (HRO.out.below hbA);replace HE:=Lh (HE.out.below hbA);replace HB:=Lh (HB.out.below hbA);clear hp x1 hbA;go_wp2_with fail;refine KF.out.mono ?_;rintro e w8 ⟨rfl,hb8⟩;clear p0 p1 q0 KF;replace X1:=Lh (X1.out.below hb8);replace HC:=Lh (HC.out.go hb8);replace HRO:=Lh (HRO.out.below hb8);replace HE:=Lh (HE.out.below hb8);replace HB:=Lh (HB.out.below hb8);clear hb8
   by_cases hz:0<=Z0 (isLt p.lot) own 0
   rotate_left
   ·have HN2:Hid (WS own (ps.drop (k+1)) s=WS own ps ([],q)):=by
     have h:=HD.out;rw[if_neg hz] at h;exact h.symm.trans HNE.out
    rw[Df hz];clear hz HD HNE X1 e1 e2;go_wp2;go_roundw
    case rel=>exact⟨k+1,s,v,by omega,by go_num,HC.out,HI.out,HN2.out,HRO.out,HE.out,HB.out⟩
    case measure=>simp[intOf];omega
   obtain⟨i,x,hzi,hxi,-,-⟩:=Vi _ _ _ hz;rw[Nat.zero_add] at hzi;have HN2:Hid (WS own (ps.drop (k+1)) (YO s x p.q)=WS own ps ([],q)):=by
    have h:=HD.out;rw[if_pos hz,hzi,Int.toNat_natCast,List.getD_eq_getElem?_getD,hxi] at h;exact h.symm.trans HNE.out
   have hpos:Fc (Z0 (isLt p.lot) own 0)=(i:Int):=by rw[hzi];exact if_pos (by omega)
   rw[Dt hz,hpos];have hiN:i<N:=by rw[HNN.out];exact YG hxi
   have hxo:x∈own:=Lm hxi;have hcells:=HRO.out.cells hxi;have p0:=hcells.c0;have p1:=hcells.c1;have p2:=hcells.c2;have p3:=hcells.c3;have p4:=hcells.c4;have p5:=hcells.c5;have p6:=hcells.c6;have q0:=X1.out.c 1;have KT:=Lh (fun (W:World) (hb:Below w8.heap.size w8 W)=>J7 (most:=p.q) hG (HC.out.go hb) HI.out (HOS.out x hxo) hpz.2 HQL.out (Nt HI.out.len (by have:=HNN.out;omega)))
   have HI2:=Lh (U3 p.q HI.out hxo).1;clear hz hzi hxi hpos HD hxo hcells e1 e2 hpz X1;go_wp2_with fail
   go_still_tail 7,(by kernel_rfl)
   have hbd:=Dc (Below.refl w8.heap.size w8);go_wp2_with fail;refine (KT.out _ hbd).mono ?_;rintro e w10 ⟨rfl,v',hc',hx',-⟩;have hX:Zz (TkX bo bq v) w8 w10:=(Zz.of_below hbd).trans hx';have hvb:=HC.out.row.block;have hnk:∀k',k'<bo->k'≠bq->¬TkX bo bq v k':=fun k' h1 h2 h=>by
    rcases h with h|h|h
    ·omega
    ·exact h2 h
    ·have:=(hvb k' h).1;omega
   have HC':=Lh hc';have HRO':=Lh (HRO.out.keepX hX (hnk g0 hglt hgq));have HE':=Lh (HE.out.keepX hX (hnk be helt heq));have HB':=Lh (HB.out.keepX hX (hnk bf hblt hfq));clear p0 p1 p2 p3 p4 p5 p6 q0 KT hc' hx' hX hvb hnk hbd HC HI HRO HE HB HNE;go_wp2;go_roundw
   case rel=>exact⟨k+1,_,v',by omega,by go_num,HC'.out,HI2.out,HN2.out,HRO'.out,HE'.out,HB'.out⟩
   case measure=>simp[intOf];omega
 ·have em:(m==5)=false:=by rw[Bn];exact hm5
  have HM5:=Lh hm5;clear hm5 HC3 K3;go_enter func93,ntmps93;go_wp2_with fail;rw[<-hbq];have HBQ:=Lh hbq;clear hbq;refine K1.out.mono ?_;rintro e w1 ⟨rfl,hb1⟩;replace hb:=bto hb hb1;replace HQ:=Lh (Zv HQ.out hb1);have q0:w1.cell? ⟨bq,0,none⟩=some (Zg q):=Zk HQ.out 0;clear K1 hb1;go_wp2_with fail
  refine (K2.out.e.of hG hb).mono ?_
  rintro e w2 ⟨rfl,hb2⟩;replace hb:=bto hb hb2;replace HQ:=Lh (Zv HQ.out hb2);clear K2 hb2 q0;go_wp2_with fail;refine (K4.out _).mono ?_;rintro e w3 ⟨nm,f,cap,rv,bf,rfl,hbf,hB,hb3,hE,hm1⟩;have hb3':=Zh w3 (.cells #[Zg nm,.func (.func f) #[] (WL cap bf),.bool rv] 240);have HE:Hid (Blk (w3.alloc (.cells #[Zg nm,.func (.func f) #[] (WL cap bf),.bool rv] 240)) w3.heap.size #[Zg nm,.func (.func f) #[] (WL cap bf),.bool rv]):=Blk.new w3 _ 240;have HB:=Lh (hB.below hb3');replace hb:=bto (bto hb hb3) hb3';replace HQ:=Lh (Zv (Zv HQ.out hb3) hb3');have HENT:=Lh hE;have HM1:=Lh hm1;clear K4 hb3 hb3' hB hE hm1 hbf;go_wp2_with fail;refine (K5.out _ hb).mono ?_;rintro e w4 ⟨rfl,hb4⟩;replace HE:=Lh (HE.out.below hb4);replace HB:=Lh (HB.out.below hb4);replace hb:=bto hb hb4;replace HQ:=Lh (Zv HQ.out hb4);have q0:w4.cell? ⟨bq,0,none⟩=some (Zg q):=Zk HQ.out 0;clear K5 hb4;go_wp2_with fail
  refine (K6.out.e.of hG hb).mono ?_
  rintro e w5 ⟨rfl,hb5⟩;replace HE:=Lh (HE.out.below hb5);replace HB:=Lh (HB.out.below hb5);replace hb:=bto hb hb5;replace HQ:=Lh (Zv HQ.out hb5);clear q0 K6 hb5;have q0:w5.cell? ⟨bq,0,none⟩=some (Zg q):=Zk HQ.out 0;go_wp2_with fail
  refine (K7.out.e.of hG hb).mono ?_
  rintro e w6 ⟨rfl,hb6⟩;replace HE:=Lh (HE.out.below hb6);replace HB:=Lh (HB.out.below hb6);replace hb:=bto hb hb6;replace HQ:=Lh (Zv HQ.out hb6);clear q0 K7 hb6;go_wp2_with fail;refine (K8.out _ hb).mono ?_;rintro e w7 ⟨v0,rfl,hro,hb7⟩;replace HE:=Lh (HE.out.below hb7);replace HB:=Lh (HB.out.below hb7);replace hb:=bto hb hb7;replace HQ:=Lh (Zv HQ.out hb7);obtain⟨Ao,co,rfl⟩:∃Ao co,v0=.slice Ao own.length co:=by
   rcases hro.2 with ⟨hv,h1⟩|⟨g,cap,cur,hv,-⟩
   ·omega
   ·exact⟨_,_,hv⟩
  obtain⟨g0,rfl,hg0,hr0⟩:=OI hro rfl hol1;have HRO:=Lh hr0;clear K8 hb7 hro hr0 e7;have hbo:=Zh w7 (.cells #[.slice none 0 0] 45);have hsz:(w7.alloc (.cells #[.slice none 0 0] 45)).heap.size=w7.heap.size+1:=by simp
  have hqlt:bq<w7.heap.size:=(Ag.1 HQ.out).1;have helt:w3.heap.size<w7.heap.size:=HE.out.lt;have hblt:bf<w7.heap.size:=HB.out.lt;have hglt:g0<w7.heap.size:=HRO.out.lt;have hgq:g0≠bq:=fun e=>by
   obtain⟨cur,h0,-⟩:=HRO.out;rw[e,HQ.out] at h0;simp at h0
  have heq:w3.heap.size≠bq:=fun e=>by
   obtain⟨t0,h0⟩:=HE.out;rw[e,HQ.out] at h0;simp at h0
  have hfq:bf≠bq:=fun e=>by
   obtain⟨t0,h0⟩:=HB.out;rw[e,HQ.out] at h0;simp at h0
  have HC:Hid (PI w (w7.heap.size+1) w7.heap.size bq ([],q) (.slice none 0 0) (w7.alloc (.cells #[.slice none 0 0] 45))):=⟨bto hb hbo,lq,hqlt,Nat.lt_succ_self _,by rw[hsz];exact Nl _,Zv HQ.out hbo,ZJ w7 _,LK _ _⟩
  replace HE:=Lh (HE.out.below hbo);replace HB:=Lh (HB.out.below hbo);replace HRO:=Lh (HRO.out.below hbo);clear hbo hsz hb HQ;obtain⟨bo,hbo⟩:∃bo,bo=w7.heap.size:=⟨_,rfl⟩
  obtain⟨be,hbe⟩:∃be,be=w3.heap.size:=⟨_,rfl⟩
  obtain⟨B,hB⟩:∃B,B=bo+1:=⟨_,rfl⟩
  obtain⟨N,hN⟩:∃N,N=own.length:=⟨_,rfl⟩
  rw[<-hbo,<-hB] at HC;rw[<-hbo] at hqlt helt hblt hglt;rw[<-hbe] at HE helt heq;have hEn:=fun args w=>N7 args w
  have hboB:bo<B:=by omega
  have HBO:=Lh hbo;have HBE:=Lh hbe;have HNN:=Lh hN;have hN1:1<=N:=by omega
  have hN2:N<=100000:=by omega
  clear hbo hbe hB hN;have HI:=HQI;have HS1:Hid (QO own q m ps=([],q)):=if_neg HM5.out
  go_upto_region 24 with fail
  rw[<-HBO.out,<-HBE.out,<-HNN.out];have KSo:=Lh (Za6 co (hG.below HC.out.below) ⟨HNN.out.symm,hN2,HOS.out,HRO.out.lotAt⟩ hN1 nm rv bf HENT.out HB.out);have q1:=HE.out.c 0;have q2:=HE.out.c 1;have q3:=HE.out.c 2;go_wp2_with fail;refine KSo.out.mono ?_;rintro e w9 ⟨gs,cps,zs,rfl,hgs,hrs,hperm,hb9,hord⟩;have hvb:=HC.out.row.block;have hle:=HC.out.le;have HVG:Hid (Value.ownBlock (.slice none 0 0)≠some gs):=fun e=>by have:=(hvb gs e).2;omega
  have hgbo:gs≠bo:=by omega
  have hgbq:gs≠bq:=by omega
  replace HC:=Lh (HC.out.go hb9);have HRS:=Lh hrs;have HPE:=Lh hperm;have HOR:=Lh hord;have hzl:zs.length=N:=hperm.length_eq.trans HNN.out.symm;have hz1:zs.length<=N:=by omega
  have hz2:N<=zs.length:=by omega
  clear hvb hle hgs hrs hperm hb9 hord hzl q1 q2 q3 KSo HE HB HRO;go_wp2_with fail
  rename World=>wo
  go_loopw [24,95] (fun _ iv wr=>∃(k:Nat) (s:List Pk×List UInt8) (v:Value),k<=N/\iv=Zi (k:Int)/\Hid (PI w B bo bq s v wr)/\Hid (Yz own (val q) s)/\Hid (Yy (zs.drop k) s=Yy zs (([],q):List Pk×List UInt8))/\Hid (YK wr gs zs)/\Hid (v.ownBlock≠some gs)) (fun _ iv _=>N-(intOf iv).toNat)
  case atStart=>exact⟨0,_,_,Nat.zero_le _,rfl,HC.out,HI.out,rfl,HRS.out,HVG.out⟩
  case round=>
   clear HC HI HRS HVG;obtain⟨k,s,v,hk,rfl,HC,HI,HRE,HRS,HVG⟩:=hrel
   by_cases hlk:k<N
   rotate_left
   ·have e1:decide (k<N)=false:=Df hlk;have e2:decide ((k:Int)<(N:Int))=false:=Df (by omega)
    have q0:wr.cell? ⟨bo,0,none⟩=some v:=Zk HC.out.out 0;have HF:Hid (Ch w own q m ps (.returned (.tuple #[v,Zi 0])) wr):=by
     have e:s=Yy zs (QO own q m ps):=by
      have h:=HRE.out;rw[List.drop_of_length_le (by omega)] at h
      rw[HS1.out];exact h
     refine⟨v,zs,rfl,HC.out.below,HPE.out,fun hm h20 ho=>?_,?_⟩
     ·obtain⟨h1,-,h3⟩:=HM1.out hm;exact HOR.out h3 h1 (by have:=HNN.out;omega) ho
     ·rw[<-e];exact HC.out.row.base (by have:=HC.out.lq;have:=HC.out.lo;have:=HC.out.lb;omega)
    obtain⟨A1,c1,rfl⟩:=HC.out.row.form;clear HC HI HRE HRS HVG;go_wp2;go_ret2;exact HF.out
   have e1:decide (k<N)=true:=Dt hlk;have e2:decide ((k:Int)<(N:Int))=true:=Dt (by omega)
   obtain⟨x,hx⟩:∃x,zs[k]?=some x:=⟨_,List.getElem?_eq_getElem (by omega)⟩
   have hxo:x∈own:=HPE.out.subset (Lm hx);have hxs:=HOS.out x hxo;have hcells:=HRS.out.cells hx;have p0:=hcells.c0;have p1:=hcells.c1;have p2:=hcells.c2;have p3:=hcells.c3;have p4:=hcells.c4;have p5:=hcells.c5;have p6:=hcells.c6;have hbA:=Zh wr (.cells (Zn x) 130);have x1:=Yq.new wr x 130;have q0:=x1.c0;have q1:=x1.c1;have q2:=x1.c2;have q3:=x1.c3;have q4:=x1.c4;have q5:=x1.c5;have q6:=x1.c6;have KT:=Lh (J7 hG (HC.out.go hbA) HI.out hxs hxs.q HQL.out (Nt HI.out.len (by have:=HNN.out;omega)))
   have HD:Hid (zs.drop k=x::zs.drop (k+1)):=by
    obtain⟨hk2,rfl⟩:=Lg.1 hx;exact List.drop_eq_getElem_cons hk2
   have HI2:=Lh (U3 x.q HI.out hxo).1;have hgl:=HRS.out.lt;have HRA:=Lh (HRS.out.below hbA);have hsa:(wr.alloc (.cells (Zn x) 130)).heap.size=wr.heap.size+1:=by simp
   have HSA:=Lh hsa;clear hx hxo hxs hcells x1 hbA hsa;go_wp2_with fail;refine KT.out.mono ?_;rintro e w10 ⟨rfl,v',hc',hx',hf'⟩;have HC':=Lh hc'
   have HRS':Hid (YK w10 gs zs):=HRA.out.keepX hx' (fun h=>by
    rcases h with h|h|h
    ·exact hgbo h
    ·exact hgbq h
    ·exact HVG.out h)
   have HVG':Hid (v'.ownBlock≠some gs):=fun e=>by
    rcases hf' gs e with h|h
    ·exact HVG.out h
    ·have:=HSA.out;omega
   have HRE':Hid (Yy (zs.drop (k+1)) (YO s x x.q)=Yy zs (([],q):List Pk×List UInt8)):=by
    have h:=HRE.out;rw[HD.out] at h;exact h
   clear p0 p1 p2 p3 p4 p5 p6 q0 q1 q2 q3 q4 q5 q6 e1 e2 KT hc' hx' hf' HC HI HRE HRS HVG HRA HD hgl HSA;go_wp2;go_roundw
   case rel=>exact⟨k+1,_,v',by omega,by go_num,HC'.out,HI2.out,HRE'.out,HRS'.out,HVG'.out⟩
   case measure=>simp[intOf];omega
open Go.Shelf
theorem L6 {α:Type} [BEq α] [LawfulBEq α]:∀(l m:List α),l.Nodup->(∀x∈l,x∈m)->l.length<=m.length
 | [],_,_,_=>Nat.zero_le _
 | x::t,m,hn,hs=>by
  rw[List.nodup_cons] at hn;have hx:=hs x List.mem_cons_self;have h1:=L6 t (m.erase x) hn.2 (fun y hy=>(List.mem_erase_of_ne (fun e=>hn.1 (by rw[<-e];exact hy))).2 (hs y (List.mem_cons_of_mem _ hy)))
  have h2:=List.length_erase_of_mem hx;have h3:=List.length_pos_of_mem hx;rw[List.length_cons];omega
theorem Zat {xs zs:List Lot} {I q:List UInt8} {m:Int} {ps:List Pk} (hE:chE xs I q m ps=0) (hz:zs.Perm (ofL I xs)) :
  Yz (ofI I xs) (val q) (Yy zs (QO (ofL I xs) q m ps))/\val (Yy zs (QO (ofL I xs) q m ps)).2=0/\Xb (Yy zs (QO (ofL I xs) q m ps)).1=val q:=by
 obtain⟨c1,c2,-,-,-,c6,c7⟩:=QN hE;obtain⟨-,-,l3⟩:=UZ c1;have hn:((ofI I xs).map (·.id)).Nodup:=l3.sublist ((List.filter_sublist).map _)
 have h0:Yz (ofI I xs) (val q) (QO (ofL I xs) q m ps):=by
  have h1:Yz (ofI I xs) (val q) (([],q):List Pk×List UInt8):=⟨by simp[Xb],Int.le_of_lt c6,c2,fun p hp=>(by cases hp),by simp,fun p hp=>(by cases hp)⟩
  unfold QO
  split
  ·exact QC ps h1
  ·exact h1
 exact Do hz hn c7 h0
def J8 (xs:List Lot) (I q:List UInt8) (m:Int) (ps pk:List Pk):Prop:=∃zs,zs.Perm (ofL I xs)/\(m=1->(ofL I xs).length<=20->SS cfF (ofL I xs)->zs=ofL I xs)/\pk=(Yy zs (QO (ofL I xs) q m ps)).1
structure PkQ (xs:List Lot) (I q:List UInt8) (pk:List Pk):Prop where
 inv:∃rem,Yz (ofI I xs) (val q) (pk,rem)/\val rem=0
 sm:∀p∈pk,p.lot.length<=1000/\p.q.length<=1000
 len:pk.length<=1000
 pos:0<pk.length
 sum:Xb pk=val q
theorem MN {xs:List Lot} {I q:List UInt8} {m:Int} {ps pk:List Pk} (hE:chE xs I q m ps=0) (hs:∀x∈xs,Vh x) (hql:q.length<=900) (h:J8 xs I q m ps pk):PkQ xs I q pk:=by
 obtain⟨zs,hz,-,rfl⟩:=h;obtain⟨h1,h2,h3⟩:=Zat (m:=m) (ps:=ps) hE hz;obtain⟨c1,c2,-,-,-,c6,c7⟩:=QN hE;obtain⟨l1,-,-⟩:=UZ c1;generalize Yy zs (QO (ofL I xs) q m ps)=s at *;obtain⟨pk,rem⟩:=s;have hmem:=h1.mem;have hp:=Ur pk (fun p hp=>(h1.pos p hp).1)
 refine⟨⟨rem,h1,h2⟩,fun p hpm=>?_,?_,?_,h3⟩
 ·obtain⟨x,hx,e⟩:=hmem p hpm;have hx2:=hs x (List.mem_filter.1 hx).1;obtain⟨p1,p2⟩:=h1.pos p hpm;refine⟨by rw[<-e];exact hx2.id,?_⟩
  have h4:val p.q<=val q:=by have:=hp.2 p hpm;have h3':Xb pk=val q:=h3;omega
  have h5:=Zw (l:=q) (k:=900) hql;rw[p2];exact Nt (Zu _ 900 (by omega)) (by decide)
 ·have h5:=L6 (pk.map (·.lot)) ((ofI I xs).map (·.id)) h1.nd (fun y hy=>by
   obtain⟨p,hpm,rfl⟩:=List.mem_map.1 hy;obtain⟨x,hx,e⟩:=hmem p hpm
   exact List.mem_map.2 ⟨x,hx,e⟩)
  rw[List.length_map,List.length_map] at h5;have h6:(ofI I xs).length<=xs.length:=List.length_filter_le _ _;show pk.length<=1000;omega
 ·cases pk with
  | nil=>have h3':(0:Int)=val q:=h3;omega
  | cons a t=>simp
theorem J9 {xs:List Lot} {I q:List UInt8} {pk:List Pk} (hV:Xs xs=0) (hk:PkQ xs I q pk) (hp:Xt xs [] pk=0) :
  Q7 xs pk/\((Z8 (xs,[]) pk).2).map (·.q)=pk.map (·.q):=by
 obtain⟨l1,l2,l3⟩:=UZ hV;have hc:∀x∈xs,x.q=canon (val x.q):=fun x hx=>(MB (l2 x hx)).2.2.2.2.2.1
 obtain⟨rem,hi,hr⟩:=hk.inv;obtain⟨a1,a2,-⟩:=OR hc pk [] hp;exact⟨⟨l3,a1,a2⟩,(NW l3 hc hi hr hp).2.2.2.2.1⟩
theorem Ci {xs:List Lot} {I q T:List UInt8} {pk:List Pk} (hV:Xs xs=0) (hk:PkQ xs I q pk) (hp:Xt xs [] pk=0) (hT:T=canon (val T)) (hq0:0<val q) :
  (∀x∈(Z8 (xs,[]) pk).2,x.q.length<=2000)/\Tx T (((Z8 (xs,[]) pk).2).map (·.q))=0:=by
 obtain⟨-,h2⟩:=J9 hV hk hp;obtain⟨rem,hi,hr⟩:=hk.inv;constructor
 ·intro x hx;have h3:x.q∈pk.map (·.q):=by rw[<-h2];exact List.mem_map.2 ⟨x,hx,rfl⟩
  obtain⟨p,hpm,e⟩:=List.mem_map.1 h3;rw[<-e];exact Nt (hk.sm p hpm).2 (by decide)
 ·rw[h2];have hpos:=hk.pos;have hln:=hk.len;have hb:(pk.map (·.q)).any PD=false:=by
   rw[List.any_eq_false];intro r hr;obtain⟨p,hpm,rfl⟩:=List.mem_map.1 hr;obtain⟨p1,p2⟩:=hi.pos p hpm;unfold PD;rw[Dt p2,Df (by omega)]
   decide
  have hs:Z7 (pk.map (·.q))=val q:=by
   rw[<-hk.sum];unfold Z7 Xb;rw[List.map_map];rfl
  unfold Tx;rw[List.length_map,if_neg (by omega),if_neg (by omega),if_neg (by simpa using hT),hb,if_neg (by decide),hs,if_neg (by omega)]
def Pp (I:List UInt8) (m:Int) (xs xs2:List Lot):Prop:=(m≠6/\xs2=xs)∨(m=6/\∃ps,xs2=ZZ I xs ps/\NZ (canon (Yx (ofL I xs))) ((ofL I xs).map (·.q)) ps)
def L8 (xs2:List Lot) (I q:List UInt8) (m:Int) (ps:List Pk) (rest taken:List Lot):Prop:=∃pk,J8 xs2 I q m ps pk/\Xt xs2 [] pk=0/\(rest,taken)=Z8 (xs2,[]) pk
theorem Ie {w:World} {A Ap:Option Addr} {xs:List Lot} {ps:List Pk} {n np:Nat} (c cp:Nat) {I q:List UInt8} {m:Int} (hG:GE w) (hL:Yk w A xs n) (hP:XI w Ap ps) (hpn:ps.length=np) (hpn2:np<=100000) (hps:∀p∈ps,p.lot.length<=1000/\p.q.length<=1000) (hql:q.length<=1000) (hE:chE xs I q m ps≠0) :
  Calls prog 93 #[.slice A n c,Zg I,Zg q,Zi m,.slice Ap np cp] w fun e w'=>e=.returned (.tuple #[.slice none 0 0,Zi (chE xs I q m ps)])/\Below w.heap.size w w':=by
 have hb:=Zh w (.cells #[Zg q] 32);have HQ:Hid ((w.alloc (.cells #[Zg q] 32)).heap[w.heap.size]?=some (.cells #[Zg q] 32 (0,0))):=ZJ w _;have K1:=Lh (V2 c (hG.below hb) (hL.below hb));have K2:=Lh (Yv (l:=q) (by omega) rfl)
 have K3:=Lh (fun (w':World) (hb':Below w.heap.size w w')=>I6 _ N6 QM #[] Ap ps np cp w' hpn (by omega) (hP.below hb') (fun p hp w2 hb2=>ZcS (hps p hp).2 w2 ((hG.below hb').below hb2)))
 have K5:=Lh (fun (w':World) (hb':Below w.heap.size w w')=>Qz c I (hG.below hb') (hL.below hb'))
 have K6:=Lh (Vt (l:=q) (by omega))
 obtain⟨own,hown⟩:∃own,own=ofL I xs:=⟨_,rfl⟩
 have hol:own.length<=100000:=by
  have h1:own.length<=xs.length:=by rw[hown];exact List.length_filter_le _ _
  have:=hL.len
  have:=hL.big
  omega
 have hosm:∀x∈own,Vh x:=fun x hx=>by rw[hown] at hx;exact hL.sm x (List.mem_filter.1 hx).1
 obtain⟨E,hEe⟩:∃E,E=chE xs I q m ps:=⟨_,rfl⟩
 rw[<-hEe] at hE ⊢;unfold chE at hEe;rw[<-hown] at K5 hEe;obtain⟨sq,hsq⟩:∃sq,sq=canon (Yi own):=⟨_,rfl⟩
 obtain⟨sc,hsc⟩:∃sc,sc=canon (Yx own):=⟨_,rfl⟩
 rw[<-hsq,<-hsc] at K5;obtain⟨cc,hcc⟩:∃cc,cc=ZH (val sq) (val q):=⟨_,rfl⟩
 have hsql:sq.length<=100000:=by rw[hsq];exact WB (fun x=>x.q) own (fun x hx=>(hosm x hx).q) hol
 have K7:=Lh (ZF (l:=sq) (l':=q) (by omega) (by omega) hcc.symm)
 have HCC:Hid (cc<0↔Yi own<val q):=by
  show _↔_;rw[hcc,hsq,Zm];unfold ZH
  split
  ·omega
  ·split<;>omega
 have HV:=Lh hEe;have HE0:=Lh hE;clear hEe hE hown hosm hol hsq hsc hcc hsql hL hP hps hpn;obtain⟨le,hle⟩:∃le,le=Xs xs:=⟨_,rfl⟩
 rw[<-hle] at K1 HV;clear hle
 by_cases g1:le=0
 rotate_left
 ·have HE:Hid (E=1):=by show _=_;rw[HV.out,if_pos g1]
  have e1:(le==0)=false:=by rw[Bn];exact g1
  have e2:=V0 e1;clear g1 HV;go_enter func93,ntmps93;go_wp2_with fail;refine K1.out.mono ?_;rintro e w1 ⟨rfl,hb1⟩;replace hb:=bto hb hb1;go_wp2;go_ret2;exact⟨(by rw[HE.out];rfl),hb⟩
 rw[g1] at K1;have HV1:=Lh (HV.out.trans (if_neg (fun h=>h g1)))
 clear HV g1
 by_cases g2:q=canon (val q)
 rotate_left
 ·have HE:Hid (E=1):=by show _=_;rw[HV1.out,if_pos g2]
  rw[if_neg g2] at K2;clear g2 HV1;go_enter func93,ntmps93;go_wp2_with fail;refine K1.out.mono ?_;rintro e w1 ⟨rfl,hb1⟩;replace hb:=bto hb hb1;replace HQ:=Lh (Zv HQ.out hb1);clear hb1;have q0:w1.cell? ⟨w.heap.size,0,none⟩=some (Zg q):=Zk HQ.out 0;go_wp2_with fail
  refine (K2.out.e.of hG hb).mono ?_
  rintro e w2 ⟨rfl,hb2⟩;replace hb:=bto hb hb2;go_wp2;go_ret2;exact⟨(by rw[HE.out];rfl),hb⟩
 rw[if_pos g2] at K2;have HV2:=Lh (HV1.out.trans (if_neg (fun h=>h g2)))
 clear HV1 g2
 by_cases g3:m=5/\ps.any QM=true
 ·have HE:Hid (E=1):=by show _=_;rw[HV2.out,if_pos g3]
  obtain⟨g3,g3b⟩:=g3;have em:(m==5)=true:=by rw[beq_iff_eq];exact g3
  rw[g3b] at K3;clear g3 g3b HV2;go_enter func93,ntmps93;go_wp2_with fail;refine K1.out.mono ?_;rintro e w1 ⟨rfl,hb1⟩;replace hb:=bto hb hb1;replace HQ:=Lh (Zv HQ.out hb1);clear hb1;have q0:w1.cell? ⟨w.heap.size,0,none⟩=some (Zg q):=Zk HQ.out 0;go_wp2_with fail
  refine (K2.out.e.of hG hb).mono ?_
  rintro e w2 ⟨rfl,hb2⟩;clear q0;replace hb:=bto hb hb2;replace HQ:=Lh (Zv HQ.out hb2);clear hb2;go_wp2_with fail;refine (K3.out _ hb).mono ?_;rintro e w3 ⟨rfl,hb3⟩;replace hb:=bto hb hb3;go_wp2;go_ret2;exact⟨(by rw[HE.out];rfl),hb⟩
 have HV3:=Lh (HV2.out.trans (if_neg g3));have HA:Hid (m=5->ps.any QM=false):=fun h=>by
  cases hc:ps.any QM with
  | false=>rfl
  | true=>exact absurd ⟨h,hc⟩ g3
 clear HV2 g3
 by_cases hm5:m=5
 ·have em:(m==5)=true:=by rw[beq_iff_eq];exact hm5
  have hr:1<=m/\m<=6:=by omega
  rw[HA.out hm5] at K3;clear hm5 HA;have K4:=Lh (fun (w':World)=>PV hr.1 hr.2 w')
  have HV4:=Lh (HV3.out.trans (if_neg (by omega)))
  clear HV3 hr
  by_cases g5:val q<=0
  ·have HE:Hid (E=2):=by show _=_;rw[HV4.out,if_pos g5]
   rw[Df (by omega:¬0<val q)] at K6
   clear g5 HV4;go_enter func93,ntmps93;go_wp2_with fail;refine K1.out.mono ?_;rintro e w1 ⟨rfl,hb1⟩;replace hb:=bto hb hb1;replace HQ:=Lh (Zv HQ.out hb1);clear hb1;have q0:w1.cell? ⟨w.heap.size,0,none⟩=some (Zg q):=Zk HQ.out 0;go_wp2_with fail
   refine (K2.out.e.of hG hb).mono ?_
   rintro e w2 ⟨rfl,hb2⟩;clear q0;replace hb:=bto hb hb2;replace HQ:=Lh (Zv HQ.out hb2);clear hb2;go_wp2_with fail;refine (K3.out _ hb).mono ?_;rintro e w2b ⟨rfl,hb2b⟩;replace hb:=bto hb hb2b;replace HQ:=Lh (Zv HQ.out hb2b);clear hb2b;go_wp2_with fail;refine (K4.out _).mono ?_;rintro e w3 ⟨nm,f,cap,rv,bf,rfl,-,-,hb3,-,-⟩;have hb3':=Zh w3 (.cells #[Zg nm,.func (.func f) #[] (WL cap bf),.bool rv] 240);replace hb:=bto (bto hb hb3) hb3';replace HQ:=Lh (Zv (Zv HQ.out hb3) hb3');clear hb3 hb3' K4 em;go_wp2_with fail;refine (K5.out _ hb).mono ?_;rintro e w4 ⟨rfl,hb4⟩;replace hb:=bto hb hb4;replace HQ:=Lh (Zv HQ.out hb4);clear hb4;have q0:w4.cell? ⟨w.heap.size,0,none⟩=some (Zg q):=Zk HQ.out 0;go_wp2_with fail
   refine (K6.out.e.of hG hb).mono ?_
   rintro e w5 ⟨rfl,hb5⟩;clear q0;replace hb:=bto hb hb5;replace HQ:=Lh (Zv HQ.out hb5);clear hb5;go_wp2;go_ret2;exact⟨(by rw[HE.out];rfl),hb⟩
  rw[Dt (by omega:0<val q)] at K6
  have HV5:=Lh (HV4.out.trans (if_neg g5));clear HV4 g5;have g6:Yi own<val q:=by
   by_cases h:Yi own<val q
   ·exact h
   ·exact absurd (HV5.out.trans (if_neg h)) HE0.out
  have HE:Hid (E=15):=by show _=_;rw[HV5.out,if_pos g6]
  have hcc:cc<0:=HCC.out.2 g6;have e7:decide (cc<0)=true:=Dt hcc;clear g6 HV5;go_enter func93,ntmps93;go_wp2_with fail;refine K1.out.mono ?_;rintro e w1 ⟨rfl,hb1⟩;replace hb:=bto hb hb1;replace HQ:=Lh (Zv HQ.out hb1);clear hb1;have q0:w1.cell? ⟨w.heap.size,0,none⟩=some (Zg q):=Zk HQ.out 0;go_wp2_with fail
  refine (K2.out.e.of hG hb).mono ?_
  rintro e w2 ⟨rfl,hb2⟩;clear q0;replace hb:=bto hb hb2;replace HQ:=Lh (Zv HQ.out hb2);clear hb2;go_wp2_with fail;refine (K3.out _ hb).mono ?_;rintro e w2b ⟨rfl,hb2b⟩;replace hb:=bto hb hb2b;replace HQ:=Lh (Zv HQ.out hb2b);clear hb2b;go_wp2_with fail;refine (K4.out _).mono ?_;rintro e w3 ⟨nm,f,cap,rv,bf,rfl,-,-,hb3,-,-⟩;have hb3':=Zh w3 (.cells #[Zg nm,.func (.func f) #[] (WL cap bf),.bool rv] 240);replace hb:=bto (bto hb hb3) hb3';replace HQ:=Lh (Zv (Zv HQ.out hb3) hb3');clear hb3 hb3' K4 em;go_wp2_with fail;refine (K5.out _ hb).mono ?_;rintro e w4 ⟨rfl,hb4⟩;replace hb:=bto hb hb4;replace HQ:=Lh (Zv HQ.out hb4);clear hb4;have q0:w4.cell? ⟨w.heap.size,0,none⟩=some (Zg q):=Zk HQ.out 0;go_wp2_with fail
  refine (K6.out.e.of hG hb).mono ?_
  rintro e w5 ⟨rfl,hb5⟩;clear q0;replace hb:=bto hb hb5;replace HQ:=Lh (Zv HQ.out hb5);clear hb5;have q0:w5.cell? ⟨w.heap.size,0,none⟩=some (Zg q):=Zk HQ.out 0;go_wp2_with fail
  refine (K7.out.e.of hG hb).mono ?_
  rintro e w6 ⟨rfl,hb6⟩;replace hb:=bto hb hb6;go_wp2;go_ret2;exact⟨(by rw[HE.out];rfl),hb⟩
 ·have em:(m==5)=false:=by rw[Bn];exact hm5
  clear hm5 HA K3
  by_cases hr:1<=m/\m<=6
  ·have K4:=Lh (fun (w':World)=>PV hr.1 hr.2 w')
   have HV4:=Lh (HV3.out.trans (if_neg (by omega)))
   clear HV3 hr
   by_cases g5:val q<=0
   ·have HE:Hid (E=2):=by show _=_;rw[HV4.out,if_pos g5]
    rw[Df (by omega:¬0<val q)] at K6
    clear g5 HV4;go_enter func93,ntmps93;go_wp2_with fail;refine K1.out.mono ?_;rintro e w1 ⟨rfl,hb1⟩;replace hb:=bto hb hb1;replace HQ:=Lh (Zv HQ.out hb1);clear hb1;have q0:w1.cell? ⟨w.heap.size,0,none⟩=some (Zg q):=Zk HQ.out 0;go_wp2_with fail
    refine (K2.out.e.of hG hb).mono ?_
    rintro e w2 ⟨rfl,hb2⟩;clear q0;replace hb:=bto hb hb2;replace HQ:=Lh (Zv HQ.out hb2);clear hb2;go_wp2_with fail;refine (K4.out _).mono ?_;rintro e w3 ⟨nm,f,cap,rv,bf,rfl,-,-,hb3,-,-⟩;have hb3':=Zh w3 (.cells #[Zg nm,.func (.func f) #[] (WL cap bf),.bool rv] 240);replace hb:=bto (bto hb hb3) hb3';replace HQ:=Lh (Zv (Zv HQ.out hb3) hb3');clear hb3 hb3' K4 em;go_wp2_with fail;refine (K5.out _ hb).mono ?_;rintro e w4 ⟨rfl,hb4⟩;replace hb:=bto hb hb4;replace HQ:=Lh (Zv HQ.out hb4);clear hb4;have q0:w4.cell? ⟨w.heap.size,0,none⟩=some (Zg q):=Zk HQ.out 0;go_wp2_with fail
    refine (K6.out.e.of hG hb).mono ?_
    rintro e w5 ⟨rfl,hb5⟩;clear q0;replace hb:=bto hb hb5;replace HQ:=Lh (Zv HQ.out hb5);clear hb5;go_wp2;go_ret2;exact⟨(by rw[HE.out];rfl),hb⟩
   rw[Dt (by omega:0<val q)] at K6
   have HV5:=Lh (HV4.out.trans (if_neg g5));clear HV4 g5;have g6:Yi own<val q:=by
    by_cases h:Yi own<val q
    ·exact h
    ·exact absurd (HV5.out.trans (if_neg h)) HE0.out
   have HE:Hid (E=15):=by show _=_;rw[HV5.out,if_pos g6]
   have hcc:cc<0:=HCC.out.2 g6;have e7:decide (cc<0)=true:=Dt hcc;clear g6 HV5;go_enter func93,ntmps93;go_wp2_with fail;refine K1.out.mono ?_;rintro e w1 ⟨rfl,hb1⟩;replace hb:=bto hb hb1;replace HQ:=Lh (Zv HQ.out hb1);clear hb1;have q0:w1.cell? ⟨w.heap.size,0,none⟩=some (Zg q):=Zk HQ.out 0;go_wp2_with fail
   refine (K2.out.e.of hG hb).mono ?_
   rintro e w2 ⟨rfl,hb2⟩;clear q0;replace hb:=bto hb hb2;replace HQ:=Lh (Zv HQ.out hb2);clear hb2;go_wp2_with fail;refine (K4.out _).mono ?_;rintro e w3 ⟨nm,f,cap,rv,bf,rfl,-,-,hb3,-,-⟩;have hb3':=Zh w3 (.cells #[Zg nm,.func (.func f) #[] (WL cap bf),.bool rv] 240);replace hb:=bto (bto hb hb3) hb3';replace HQ:=Lh (Zv (Zv HQ.out hb3) hb3');clear hb3 hb3' K4 em;go_wp2_with fail;refine (K5.out _ hb).mono ?_;rintro e w4 ⟨rfl,hb4⟩;replace hb:=bto hb hb4;replace HQ:=Lh (Zv HQ.out hb4);clear hb4;have q0:w4.cell? ⟨w.heap.size,0,none⟩=some (Zg q):=Zk HQ.out 0;go_wp2_with fail
   refine (K6.out.e.of hG hb).mono ?_
   rintro e w5 ⟨rfl,hb5⟩;clear q0;replace hb:=bto hb hb5;replace HQ:=Lh (Zv HQ.out hb5);clear hb5;have q0:w5.cell? ⟨w.heap.size,0,none⟩=some (Zg q):=Zk HQ.out 0;go_wp2_with fail
   refine (K7.out.e.of hG hb).mono ?_
   rintro e w6 ⟨rfl,hb6⟩;replace hb:=bto hb hb6;go_wp2;go_ret2;exact⟨(by rw[HE.out];rfl),hb⟩
  ·have hr2:m<1∨7<=m:=by omega
   have HE:Hid (E=7):=by show _=_;rw[HV3.out,if_pos hr2]
   have K4:=Lh (fun (w':World)=>D8 hr2 w')
   clear hr hr2 HV3;go_enter func93,ntmps93;go_wp2_with fail;refine K1.out.mono ?_;rintro e w1 ⟨rfl,hb1⟩;replace hb:=bto hb hb1;replace HQ:=Lh (Zv HQ.out hb1);clear hb1;have q0:w1.cell? ⟨w.heap.size,0,none⟩=some (Zg q):=Zk HQ.out 0;go_wp2_with fail
   refine (K2.out.e.of hG hb).mono ?_
   rintro e w2 ⟨rfl,hb2⟩;clear q0;replace hb:=bto hb hb2;replace HQ:=Lh (Zv HQ.out hb2);clear hb2;go_wp2_with fail;refine (K4.out _).mono ?_;rintro e w3 ⟨rfl,hb3⟩;have hb3':=Zh w3 (.cells #[Zj,.nilFunc,.bool false] 240);replace hb:=bto (bto hb hb3) hb3';clear hb3 hb3' K4 em;go_wp2_with fail;refine (K5.out _ hb).mono ?_;rintro e w4 ⟨rfl,hb4⟩;replace hb:=bto hb hb4;go_wp2;go_ret2;exact⟨(by rw[HE.out];rfl),hb⟩
end Go.Proofs.YtpieeldbamklkaaGreatDoor
