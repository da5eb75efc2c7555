/- Texts put together: Kc Kd Kf Kg Kh. -/
import Derived.Test.YtpieeldbamklkaaGreatDoorW9
import Derived.Maps.RangeRun
set_option maxHeartbeats 4000000
set_option maxRecDepth 100000
namespace Go.Proofs.YtpieeldbamklkaaGreatDoor
open Go.RowKit Go.Shelf Num
theorem WY (p q:Bool) (w:World):Calls Tryz.prog 229 #[.bool p,.bool q] w fun e w'=>∃u,e=.returned u/\Below w.heap.size w w'/\∃b1 b2,u=.func (.func 286) #[] #[.pointer (some ⟨b1,0,none⟩),.pointer (some ⟨b2,0,none⟩)]/\Blk w' b1 #[.bool p]/\Blk w' b2 #[.bool q]:=by
 refine (Ey p q w).mono ?_;rintro e w' ⟨rfl,rfl⟩;obtain⟨h1,h2,h3,-⟩:=Vs w (.cells #[.bool p] 4) (.cells #[.bool q] 4);exact⟨_,rfl,h3,_,_,rfl,⟨_,h1⟩,⟨_,h2⟩⟩
theorem Zbs (p r:Pk) (bx:Nat) (w:World) (h:Blk w bx #[.string ⟨r.lot.toArray⟩,.string ⟨r.q.toArray⟩]) :
  Calls Tryz.prog 289 #[.agg #[.string ⟨p.lot.toArray⟩,.string ⟨p.q.toArray⟩],.pointer (some ⟨bx,0,none⟩)] w fun e w'=>e=.returned (.bool (Z1 r.lot p))/\Below w.heap.size w w':=by
 have hb:=Zd w (.cells #[.string ⟨p.lot.toArray⟩,.string ⟨p.q.toArray⟩] 195);have x1:=Blk.new w #[.string ⟨p.lot.toArray⟩,.string ⟨p.q.toArray⟩] 195;have p0:=x1.c 0;have p1:=(h.below hb).c 0;have HV:Hid (Z1 r.lot p=(p.lot==r.lot)):=rfl;have he:=U5 p.lot r.lot;generalize Z1 r.lot p=R at *;clear h x1;go_enter Tryz.func289,Tryz.ntmps289;go_wp2;go_ret;refine⟨Z4 ?_,hb⟩;rw[HV.out]<;>first|exact he|rfl
theorem Jk (args:Array Value) (w:World):(callFunc 289 args).run Tryz.prog w=.ok (.enter 289 args) w:=by kernel_rfl
theorem Gz {z v:Int} {M k:Nat} (h:z.natAbs<=k*M) (hv:v.natAbs<=M):(z+v).natAbs<=(k+1)*M:=by
 have h1:=Int.natAbs_add_le z v;rw[Nat.add_mul,Nat.one_mul];omega
theorem Ln {z:Int} {k:Nat} (h:z.natAbs<=k*10 ^ 100) (hk:k<=100000):(canon z).length<=100000:=by
 refine Nt (Zn z 106 ?_) (by decide)
 have h2:k*10 ^ 100<=100000*10 ^ 100:=Nat.mul_le_mul_right _ hk;have h3:(100000:Nat)*10 ^ 100<10 ^ 106:=by
  rw[show (106:Nat)=100+6 from rfl,Nat.pow_add,Nat.mul_comm]
  exact Nat.mul_lt_mul_of_pos_left (by decide) (Nat.pow_pos (by decide))
 exact Nat.lt_of_le_of_lt (Nt h h2) h3
theorem Zbt {l:List UInt8} (h:l.length<=100):(val l).natAbs<=10 ^ 100:=Nat.le_of_lt (Zo h)
theorem A8 {f:Fct} {ps:List Pk} {w:World} (hG:GE w) (hs:Ez f) (hp:UG w f.pA ps) (hn:ps.length=f.pN) (hc:f.pN<=f.pC) (hps:∀p∈ps,p.lot.length<=1000/\p.q.length<=100) :
  Calls Tryz.prog 235 #[.agg (Zs f)] w fun e w'=>(∃E:Int,e=.returned (.int .i64 E)/\(ps=[]->0<=val f.q->E=0))/\Below w.heap.size w w':=by
 have hb0:=Zd w (.cells (Zs f) 48);have x0:Blk (w.alloc (.cells (Zs f) 48)) w.heap.size (Zs f):=Blk.new w _ 48;have q18:(w.alloc (.cells (Zs f) 48)).cell? ⟨w.heap.size,18,none⟩=some (.slice f.pA f.pN f.pC):=x0.c 18;obtain⟨n,hN⟩:∃n,n=f.pN:=⟨_,rfl⟩
 obtain⟨A,hAA⟩:∃A,A=f.pA:=⟨_,rfl⟩
 rw[<-hN] at hn hc q18;rw[<-hAA] at hp q18;have HAA:=Lh hAA;clear hAA;have HQ:=Lh hs.q;have HPS:=Lh hps;have HN:=Lh hn;have HP:=Lh hp;have HG:=Lh hG;clear hs hps hp
 by_cases h64:64<n
 ·have e1:decide (64<n)=true:=Dt h64;have e2:decide (64<(n:Int))=true:=Dt (by omega)
  have HX:Hid (¬ps=[]):=fun h=>by rw[h] at hn;simp at hn;omega
  clear hn hN;go_enter Tryz.func235,Tryz.ntmps235;go_wp2;go_ret;exact⟨⟨_,rfl,fun h=>absurd h HX.out⟩,hb0⟩
 have e1:decide (64<n)=false:=Df h64;have e2:decide (64<(n:Int))=false:=Df (by omega)
 have HX0:=Lh x0;clear hn x0;obtain⟨W0,hW0⟩:∃W0,W0=w.alloc (.cells (Zs f) 48):=⟨_,rfl⟩
 have HW0:=Lh hW0;have HNN:=Lh hN;clear hN hW0;go_enter Tryz.func235,Tryz.ntmps235;go_wp2_with fail
 go_loopw [3,4,5,6,14] (fun sv _ _ _ iv wr=>∃(k:Nat) (z:Int),k<=n/\sv=.string ⟨List.toArray (canon z)⟩/\iv=.int .i64 (k:Int)/\Hid (z.natAbs<=k*10 ^ 100/\(k=0->z=0))/\Hid (Below w.heap.size w wr)/\Hid (Blk wr w.heap.size (Zs f))) (fun _ _ _ _ iv _=>n-(intOf iv).toNat)
 case atStart=>exact⟨0,0,Nat.zero_le _,rfl,rfl,⟨by simp,fun _=>rfl⟩,hb0,HX0.out⟩
 case round=>
  clear hb0 HX0 q18;obtain⟨k,z,hk,rfl,rfl,HZ,HB,HF⟩:=hrel
  by_cases hlk:k<n
  rotate_left
  ·have e3:decide (k<n)=false:=Df hlk;have e4:decide ((k:Int)<(n:Int))=false:=Df (by omega)
   have q9:wr.cell? ⟨w.heap.size,9,none⟩=some (.string ⟨f.q.toArray⟩):=HF.out.c 9;obtain⟨c,hc⟩:∃c,c=Zx z (val f.q):=⟨_,rfl⟩
   have hq:=HQ.out;have hzl:=Ln HZ.out.1 (by omega)
   have CC:=Lh ((Zv (l:=canon z) (l':=f.q) (c:=c) (by omega) (by omega) (by rw[Zg];exact hc.symm)).e)
   have HE:Hid (ps=[]->0<=val f.q->c<=0):=fun h h0=>by
    have h1:=HN.out;rw[h] at h1;have h2:k=0:=by simp at h1;omega
    have h3:=HZ.out.2 h2;rw[hc,h3];unfold Zx
    split
    ·omega
    ·split<;>omega
   have hbq:=HB.out;clear hq hzl hc;go_wp2_with fail
   with_reducible refine (CC.out.of hG hbq).mono ?_
   rintro e w9 ⟨rfl,hb9⟩
   by_cases h0:0<c
   ·have e5:decide (0<c)=true:=Dt h0;go_wp2;go_ret;exact⟨⟨_,rfl,fun h h1=>absurd h0 (by have:=HE.out h h1;omega)⟩,bto hbq hb9⟩
   ·have e5:decide (0<c)=false:=Df h0;go_wp2;go_ret;exact⟨⟨_,rfl,fun _ _=>rfl⟩,bto hbq hb9⟩
  have e3:decide (k<n)=true:=Dt hlk;have e4:decide ((k:Int)<(n:Int))=true:=Dt (by omega)
  have HE:Hid (¬ps=[]):=fun h=>by
   have h1:=HN.out;rw[h] at h1;simp at h1;omega
  obtain⟨x,hx⟩:∃x,ps[k]?=some x:=⟨_,List.getElem?_eq_getElem (by have:=HN.out;omega)⟩
  obtain⟨b,o,rfl,hbs,p0,p1⟩:=(HP.out.below HB.out) k x hx;obtain⟨hx1,hx2⟩:=HPS.out x (Lm hx);have hbA:=Zd wr (.cells #[.string ⟨x.lot.toArray⟩,.string ⟨x.q.toArray⟩] 195);have y1:Blk (wr.alloc (.cells #[.string ⟨x.lot.toArray⟩,.string ⟨x.q.toArray⟩] 195)) wr.heap.size #[.string ⟨x.lot.toArray⟩,.string ⟨x.q.toArray⟩]:=Blk.new wr _ 195;have hq18:(wr.alloc (.cells #[.string ⟨x.lot.toArray⟩,.string ⟨x.q.toArray⟩] 195)).cell? ⟨w.heap.size,18,none⟩=some (.slice f.pA f.pN f.pC):=(HF.out.below hbA).c 18;rw[<-HNN.out,<-HAA.out] at hq18;have C1:=Lh (Av (s:=x.lot) (by omega))
  have HT:=Lh ((HP.out.below (bto HB.out hbA)).take k);have htl:(ps.take k).length=k:=by rw[List.length_take];have:=HN.out;omega
  have HTL:=Lh htl;have HBA:=Lh (bto HB.out hbA);have HFA:=Lh (HF.out.below hbA);have hzb:=Gz HZ.out.1 (Zbt hx2);have HZ2:Hid ((z+val x.q).natAbs<=(k+1)*10 ^ 100/\(k+1=0->z+val x.q=0)):=⟨hzb,fun h=>by omega⟩
  have hzl:=Ln HZ.out.1 (by omega)
  have CA:=Lh ((Xa (l:=canon z) (l':=x.q) (by omega) (by omega) (z:=z+val x.q) (by rw[Zg])).e)
  have CW:=Lh (NZ x.q);obtain⟨E2,hE2⟩:∃E2,E2=bwE true false x.q [] (fv x.q []):=⟨_,rfl⟩
  have CB:Hid (∀w' b1 b2,GE w'->Blk w' b1 #[.bool true]->Blk w' b2 #[.bool false]->Calls Tryz.prog 286 #[.agg #[.string ⟨x.q.toArray⟩,.string ⟨#[]⟩],.pointer (some ⟨b1,0,none⟩),.pointer (some ⟨b2,0,none⟩)] w' fun e w''=>e=.returned (.int .i64 E2)/\Below w'.heap.size w' w''):=fun w' b1 b2 hG' h1 h2=>by
   rw[hE2];exact Ip true false (Q2 (k:=100) hx2 (by decide) (by decide)) hG' h1 h2
  clear hx hx1 hx2 htl hzb hzl hE2 HZ HF HB;obtain⟨Wp,hWp⟩:∃Wp,Wp=wr.alloc (.cells #[.string ⟨x.lot.toArray⟩,.string ⟨x.q.toArray⟩] 195):=⟨_,rfl⟩
  have q0:Wp.cell? ⟨wr.heap.size,0,none⟩=some (.string ⟨x.lot.toArray⟩):=by rw[hWp];exact y1.c 0
  rw[hWp] at q0;rw[<-hWp] at y1 HT HBA HFA;have HWp:=Lh hWp;have Y1:=Lh y1;clear y1 hWp hbA;go_wp2_with fail;rw[<-HWp.out] at *
  with_reducible refine (C1.out.of hG HBA.out).mono ?_
  rintro e w2 ⟨rfl,hb2⟩;obtain⟨bl,hbl⟩:∃bl,bl=idB x.lot:=⟨_,rfl⟩
  rw[<-hbl];clear hbl q0 hq18 C1;cases bl with
  | false=>
   go_wp2;go_ret;exact⟨⟨_,rfl,fun h=>absurd h HE.out⟩,bto HBA.out hb2⟩
  | true=>
  have Y2:=Lh (Y1.out.below hb2);have HB2:=Lh (bto HBA.out hb2);have hq18:w2.cell? ⟨w.heap.size,18,none⟩=some (.slice (some ⟨b,o,none⟩) n f.pC):=by
   have h:=(HFA.out.below hb2).c 18;rw[show (Zs f)[18]?=some (.slice f.pA f.pN f.pC) from rfl,<-HNN.out,<-HAA.out] at h
   exact h
  have HF2:=Lh (HFA.out.below hb2);have hT2:=HT.out.below hb2;have C2:=Lh (F6 _ Jk (Z1 x.lot) #[.pointer (some ⟨wr.heap.size,0,none⟩)] (some ⟨b,o,none⟩) (ps.take k) k f.pC w2 HTL.out (by omega) hT2 (fun p hp w' hb'=>Zbs p x wr.heap.size w' (Y2.out.below hb')))
  have hkc:k<=f.pC:=by omega
  clear hb2 hT2 Y1 HBA HFA HT;go_wp2_with fail
  with_reducible refine C2.out.mono ?_
  rintro e w3 ⟨rfl,hb3⟩;obtain⟨bl,hbl⟩:∃bl,bl=(ps.take k).any (Z1 x.lot):=⟨_,rfl⟩
  rw[<-hbl];clear hbl hq18 C2;cases bl with
  | true=>
   go_wp2;go_ret;exact⟨⟨_,rfl,fun h=>absurd h HE.out⟩,bto HB2.out hb3⟩
  | false=>
  have Y3:=Lh (Y2.out.below hb3);have HF3:=Lh (HF2.out.below hb3);replace hb3:=bto HB2.out hb3;clear Y2 HF2 HB2;go_wp2_with fail;refine Vn (by kernel_rfl) (by kernel_rfl) ?_
  refine Ot 229 #[.bool true,.bool false] (fun w u=>∃b1 b2,u=.func (.func 286) #[] #[.pointer (some ⟨b1,0,none⟩),.pointer (some ⟨b2,0,none⟩)]/\Blk w b1 #[.bool true]/\Blk w b2 #[.bool false]) rfl (fun w w' u ⟨b1,b2,e,h1,h2⟩ hb=>⟨b1,b2,e,h1.below hb,h2.below hb⟩) (fun _=>rfl) (fun ρ wz hw=>by go_simp;try with_reducible rfl) (fun wz hw=>WY true false wz) ?_
  simp only[Act.put,StT,StZ,StS,Nat.reduceAdd];refine Vo _ (fun _=>rfl) (fun ρ wz hw=>by go_simp;try with_reducible rfl) ?_
  simp only[Act.put,StT,StZ,StS,Nat.reduceAdd];refine Vo _ (fun _=>rfl) (fun ρ wz hw=>by have q0:wz.cell? ⟨wr.heap.size,1,none⟩=some (.string ⟨x.q.toArray⟩):=(Y3.out.below hw).c 1;go_simp;try with_reducible rfl) ?_
  simp only[Act.put,StT,StZ,StS,Nat.reduceAdd];refine Gy _ _ _ (fun _=>rfl) (fun ρ wz hw=>by go_simp;try with_reducible rfl) (fun wz hw=>CW.out.of hG (bto hb3 hw)) ?_
  simp only[Act.put,StT,StZ,StS,Nat.reduceAdd];refine Sb 0 _ _ _ 29 rfl rfl rfl (by decide) (fun _=>rfl) (fun ρ wz hw ⟨b1,b2,e,h1,h2⟩=>⟨286,#[.agg #[.string ⟨x.q.toArray⟩,.string ⟨#[]⟩],.pointer (some ⟨b1,0,none⟩),.pointer (some ⟨b2,0,none⟩)],by simp only[e];go_simp;try with_reducible rfl,CB.out wz b1 b2 (hG.below (bto hb3 hw)) h1 h2⟩) ?_
  simp only[Act.put,StT,StZ,StS,Nat.reduceAdd];refine Vo _ (fun _=>rfl) (fun ρ wz hw=>by go_simp;try with_reducible rfl) ?_
  simp only[Act.put,StT,StZ,StS,Nat.reduceAdd];intro ρ w4 hF;have Y4:=Lh (Y3.out.below hF.below);have HF4:=Lh (HF3.out.below hF.below);have hb4:=bto hb3 hF.below;clear hF Y3 HF3 hb3 CB CW
  by_cases h0:E2=0
  rotate_left
  ·have e5:decide (E2=0)=false:=Df h0;have e6:(E2==0)=false:=by rw[Bn];exact h0
   go_wp2;go_ret;exact⟨⟨_,rfl,fun h=>absurd h HE.out⟩,hb4⟩
  subst h0;have q1:w4.cell? ⟨wr.heap.size,1,none⟩=some (.string ⟨x.q.toArray⟩):=Y4.out.c 1;go_wp2_with fail
  with_reducible refine (CA.out.of hG hb4).mono ?_
  rintro e w5 ⟨rfl,hb5⟩;have HF5:=Lh (HF4.out.below hb5);replace hb5:=bto hb4 hb5;clear q1 Y4 HF4 hb4;go_wp2;go_roundw
  case rel=>exact⟨k+1,z+val x.q,by omega,rfl,by go_num,HZ2.out,hb5,HF5.out⟩
  case measure=>simp[intOf];omega
theorem X6 {e:Operand->Value} {o:Oper} {w:World} (x y:Operand) (ho:o.op=.binOp .neq 34 x y 34) (l l':List UInt8) (hx:e x=.agg #[.string ⟨l.toArray⟩,.string ⟨l'.toArray⟩]) (hy:e y=.agg #[.string ⟨#[]⟩,.string ⟨#[]⟩]) :
  (execOp e o).run Tryz.prog w=.ok (.value (.bool (!(l.isEmpty&&l'.isEmpty)))) w:=by
 unfold execOp;simp only[ho,hx,hy];go_simp
 by_cases h1:l=[]
 ·by_cases h2:l'=[]
  ·simp[h1,h2]
  ·simp[h1,h2]
 ·simp[h1]
structure Opn where
 oth:List UInt8
 rn:List UInt8
 rd:List UInt8
 pn:List UInt8
 pd:List UInt8
 vn:List UInt8
 vd:List UInt8
structure A9 (w:World) (b o:Nat) (x:Opn):Prop where
 c0:w.cell? ⟨b,o,none⟩=some (.string ⟨x.oth.toArray⟩)
 c1:w.cell? ⟨b,o+1,none⟩=some (.string ⟨x.rn.toArray⟩)
 c2:w.cell? ⟨b,o+2,none⟩=some (.string ⟨x.rd.toArray⟩)
 c3:w.cell? ⟨b,o+3,none⟩=some (.string ⟨x.pn.toArray⟩)
 c4:w.cell? ⟨b,o+4,none⟩=some (.string ⟨x.pd.toArray⟩)
 c5:w.cell? ⟨b,o+5,none⟩=some (.string ⟨x.vn.toArray⟩)
 c6:w.cell? ⟨b,o+6,none⟩=some (.string ⟨x.vd.toArray⟩)
def EJ (w:World) (A:Option Addr) (os:List Opn):Prop:=∀(i:Nat) (r:Opn),os[i]?=some r->∃b o,A=some ⟨b,o,none⟩/\b<w.heap.size/\A9 w b (o+i*7) r
theorem EJ.below {w w':World} {A:Option Addr} {os:List Opn} (h:EJ w A os) (hb:Below w.heap.size w w'):EJ w' A os:=fun i r hr=>by
 obtain⟨b,o,e,hlt,hc⟩:=h i r hr;have hk:∀j,w'.cell? ⟨b,j,none⟩=w.cell? ⟨b,j,none⟩:=fun j=>World.cell?_of_block (hb.block _ hlt)
 exact⟨b,o,e,Nat.lt_of_lt_of_le hlt hb.size,(hk _).trans hc.c0,(hk _).trans hc.c1,(hk _).trans hc.c2,(hk _).trans hc.c3,(hk _).trans hc.c4,(hk _).trans hc.c5,(hk _).trans hc.c6⟩
def Zaa (x:Opn):Prop:=x.oth.length<=1000/\x.rn.length<=1000/\x.rd.length<=1000/\x.pn.length<=1000/\x.pd.length<=1000/\x.vn.length<=1000/\x.vd.length<=1000
def opF (x:Opn):List (List UInt8×List UInt8):=[(x.rn,x.rd),(x.pn,x.pd),(x.vn,x.vd)]
theorem Lo {x:Opn} {w:World} {b:Nat} (h:Blk w b #[.string ⟨x.rn.toArray⟩,.string ⟨x.rd.toArray⟩,.string ⟨x.pn.toArray⟩,.string ⟨x.pd.toArray⟩,.string ⟨x.vn.toArray⟩,.string ⟨x.vd.toArray⟩]) {i:Nat} {p:List UInt8×List UInt8} (hp:(opF x)[i]?=some p):w.cell? ⟨b,i*2,none⟩=some (.string ⟨List.toArray p.1⟩)/\w.cell? ⟨b,i*2+1,none⟩=some (.string ⟨List.toArray p.2⟩):=by
 have hi:i<3:=(Lg.1 hp).1
 match i,hi with
 | 0,_=>cases hp;exact⟨h.c 0,h.c 1⟩
 | 1,_=>cases hp;exact⟨h.c 2,h.c 3⟩
 | 2,_=>cases hp;exact⟨h.c 4,h.c 5⟩
theorem Is {x:Opn} (h:Zaa x) {i:Nat} {p:List UInt8×List UInt8} (hp:(opF x)[i]?=some p):p.1.length<=1000/\p.2.length<=1000:=by
 obtain⟨-,h1,h2,h3,h4,h5,h6⟩:=h;have hi:i<3:=(Lg.1 hp).1
 match i,hi with
 | 0,_=>cases hp;exact⟨h1,h2⟩
 | 1,_=>cases hp;exact⟨h3,h4⟩
 | 2,_=>cases hp;exact⟨h5,h6⟩
theorem EK {f:Fct} {os:List Opn} {w:World} (hG:GE w) (hp:EJ w f.oA os) (hn:os.length=f.oN) (hps:∀p∈os,Zaa p) :
  Calls Tryz.prog 236 #[.agg (Zs f)] w fun e w'=>(∃E:Int,e=.returned (.int .i64 E))/\Below w.heap.size w w':=by
 have hb0:=Zd w (.cells (Zs f) 48);have x0:Blk (w.alloc (.cells (Zs f) 48)) w.heap.size (Zs f):=Blk.new w _ 48;have q19:(w.alloc (.cells (Zs f) 48)).cell? ⟨w.heap.size,19,none⟩=some (.slice f.oA f.oN f.oC):=x0.c 19;obtain⟨n,hN⟩:∃n,n=f.oN:=⟨_,rfl⟩
 obtain⟨A,hAA⟩:∃A,A=f.oA:=⟨_,rfl⟩
 rw[<-hN] at hn q19;rw[<-hAA] at hp q19;have HPS:=Lh hps;have HN:=Lh hn;have HP:=Lh hp;clear hps hp hAA
 by_cases hz:n=0
 ·have e1:(n==0)=true:=by rw[beq_iff_eq];exact hz
  have e2:((n:Int)==0)=true:=by rw[beq_iff_eq];omega
  clear hn hN;go_enter Tryz.func236,Tryz.ntmps236;go_wp2;go_ret;exact⟨⟨_,rfl⟩,hb0⟩
 have z1:(n==0)=false:=by rw[Bn];exact hz
 have z2:((n:Int)==0)=false:=by rw[Bn];omega
 by_cases h64:8<n
 ·have e1:decide (8<n)=true:=Dt h64;have e2:decide (8<(n:Int))=true:=Dt (by omega)
  clear hn hN;go_enter Tryz.func236,Tryz.ntmps236;go_wp2;go_ret;exact⟨⟨_,rfl⟩,hb0⟩
 have e1:decide (8<n)=false:=Df h64;have e2:decide (8<(n:Int))=false:=Df (by omega)
 have HX0:=Lh x0;clear hn x0 hN;go_enter Tryz.func236,Tryz.ntmps236;go_wp2_with fail
 go_loopw [4,6,7,19,45] (fun _ _ _ iv _ wr=>∃(k:Nat),k<=n/\iv=.int .i64 (k:Int)/\Hid (Below w.heap.size w wr)/\Hid (Blk wr w.heap.size (Zs f))) (fun _ _ _ iv _ _=>n-(intOf iv).toNat)
 case atStart=>exact⟨0,Nat.zero_le _,rfl,hb0,HX0.out⟩
 case round=>
  clear hb0 HX0 q19;obtain⟨k,hk,rfl,HB,HF⟩:=hrel
  by_cases hlk:k<n
  rotate_left
  ·have e3:decide (k<n)=false:=Df hlk;have e4:decide ((k:Int)<(n:Int))=false:=Df (by omega)
   have hbq:=HB.out;go_wp2;go_ret;exact⟨⟨_,rfl⟩,hbq⟩
  have e3:decide (k<n)=true:=Dt hlk;have e4:decide ((k:Int)<(n:Int))=true:=Dt (by omega)
  obtain⟨x,hx⟩:∃x,os[k]?=some x:=⟨_,List.getElem?_eq_getElem (by have:=HN.out;omega)⟩
  obtain⟨b,o,rfl,hbs,hcs⟩:=(HP.out.below HB.out) k x hx;have p0:=hcs.c0;have p1:=hcs.c1;have p2:=hcs.c2;have p3:=hcs.c3;have p4:=hcs.c4;have p5:=hcs.c5;have p6:=hcs.c6;have hxs:=HPS.out x (Lm hx);have hxo:=hxs.1;have HXS:=Lh hxs;have hbA:=Zd wr (.cells #[.string ⟨x.oth.toArray⟩,.string ⟨x.rn.toArray⟩,.string ⟨x.rd.toArray⟩,.string ⟨x.pn.toArray⟩,.string ⟨x.pd.toArray⟩,.string ⟨x.vn.toArray⟩,.string ⟨x.vd.toArray⟩] 197);have y1:Blk (wr.alloc (.cells #[.string ⟨x.oth.toArray⟩,.string ⟨x.rn.toArray⟩,.string ⟨x.rd.toArray⟩,.string ⟨x.pn.toArray⟩,.string ⟨x.pd.toArray⟩,.string ⟨x.vn.toArray⟩,.string ⟨x.vd.toArray⟩] 197)) wr.heap.size #[.string ⟨x.oth.toArray⟩,.string ⟨x.rn.toArray⟩,.string ⟨x.rd.toArray⟩,.string ⟨x.pn.toArray⟩,.string ⟨x.pd.toArray⟩,.string ⟨x.vn.toArray⟩,.string ⟨x.vd.toArray⟩]:=Blk.new wr _ 197;have C1:=Lh ((OV (l:=x.oth) (by omega)).e)
  have HBA:=Lh (bto HB.out hbA);have HFA:=Lh (HF.out.below hbA);have Y1:=Lh y1;clear hx hxs hxo HB HF hcs;have q0:(wr.alloc (.cells #[.string ⟨x.oth.toArray⟩,.string ⟨x.rn.toArray⟩,.string ⟨x.rd.toArray⟩,.string ⟨x.pn.toArray⟩,.string ⟨x.pd.toArray⟩,.string ⟨x.vn.toArray⟩,.string ⟨x.vd.toArray⟩] 197)).cell? ⟨wr.heap.size,0,none⟩=some (.string ⟨x.oth.toArray⟩):=y1.c 0;clear y1 hbA
  by_cases ho:x.oth=[]
  ·have o1:x.oth.isEmpty=true:=by rw[ho];rfl
   have Y2:=Y1;have HF2:=HFA;have HB2:=HBA;clear Y1 HFA HBA C1 q0 ho;have q0:(wr.alloc (.cells #[.string ⟨x.oth.toArray⟩,.string ⟨x.rn.toArray⟩,.string ⟨x.rd.toArray⟩,.string ⟨x.pn.toArray⟩,.string ⟨x.pd.toArray⟩,.string ⟨x.vn.toArray⟩,.string ⟨x.vd.toArray⟩] 197)).cell? ⟨wr.heap.size,0,none⟩=some (.string ⟨x.oth.toArray⟩):=Y2.out.c 0;have q5:(wr.alloc (.cells #[.string ⟨x.oth.toArray⟩,.string ⟨x.rn.toArray⟩,.string ⟨x.rd.toArray⟩,.string ⟨x.pn.toArray⟩,.string ⟨x.pd.toArray⟩,.string ⟨x.vn.toArray⟩,.string ⟨x.vd.toArray⟩] 197)).cell? ⟨w.heap.size,5,none⟩=some (.string ⟨f.ins.toArray⟩):=HF2.out.c 5
   by_cases hi:x.oth=f.ins
   ·have e5:(x.oth==f.ins)=true:=by rw[beq_iff_eq];exact hi
    have hbq:=HB2.out;clear hi;go_wp2;go_ret;exact⟨⟨_,rfl⟩,hbq⟩
   have e5:(x.oth==f.ins)=false:=by rw[Bn];exact hi
   have q1:(wr.alloc (.cells #[.string ⟨x.oth.toArray⟩,.string ⟨x.rn.toArray⟩,.string ⟨x.rd.toArray⟩,.string ⟨x.pn.toArray⟩,.string ⟨x.pd.toArray⟩,.string ⟨x.vn.toArray⟩,.string ⟨x.vd.toArray⟩] 197)).cell? ⟨wr.heap.size,1,none⟩=some (.string ⟨x.rn.toArray⟩):=Y2.out.c 1;have q2:(wr.alloc (.cells #[.string ⟨x.oth.toArray⟩,.string ⟨x.rn.toArray⟩,.string ⟨x.rd.toArray⟩,.string ⟨x.pn.toArray⟩,.string ⟨x.pd.toArray⟩,.string ⟨x.vn.toArray⟩,.string ⟨x.vd.toArray⟩] 197)).cell? ⟨wr.heap.size,2,none⟩=some (.string ⟨x.rd.toArray⟩):=Y2.out.c 2;have q3:(wr.alloc (.cells #[.string ⟨x.oth.toArray⟩,.string ⟨x.rn.toArray⟩,.string ⟨x.rd.toArray⟩,.string ⟨x.pn.toArray⟩,.string ⟨x.pd.toArray⟩,.string ⟨x.vn.toArray⟩,.string ⟨x.vd.toArray⟩] 197)).cell? ⟨wr.heap.size,3,none⟩=some (.string ⟨x.pn.toArray⟩):=Y2.out.c 3;have q4:(wr.alloc (.cells #[.string ⟨x.oth.toArray⟩,.string ⟨x.rn.toArray⟩,.string ⟨x.rd.toArray⟩,.string ⟨x.pn.toArray⟩,.string ⟨x.pd.toArray⟩,.string ⟨x.vn.toArray⟩,.string ⟨x.vd.toArray⟩] 197)).cell? ⟨wr.heap.size,4,none⟩=some (.string ⟨x.pd.toArray⟩):=Y2.out.c 4;have q6:(wr.alloc (.cells #[.string ⟨x.oth.toArray⟩,.string ⟨x.rn.toArray⟩,.string ⟨x.rd.toArray⟩,.string ⟨x.pn.toArray⟩,.string ⟨x.pd.toArray⟩,.string ⟨x.vn.toArray⟩,.string ⟨x.vd.toArray⟩] 197)).cell? ⟨wr.heap.size,5,none⟩=some (.string ⟨x.vn.toArray⟩):=Y2.out.c 5;have q7:(wr.alloc (.cells #[.string ⟨x.oth.toArray⟩,.string ⟨x.rn.toArray⟩,.string ⟨x.rd.toArray⟩,.string ⟨x.pn.toArray⟩,.string ⟨x.pd.toArray⟩,.string ⟨x.vn.toArray⟩,.string ⟨x.vd.toArray⟩] 197)).cell? ⟨wr.heap.size,6,none⟩=some (.string ⟨x.vd.toArray⟩):=Y2.out.c 6;have hbS:=Zd (wr.alloc (.cells #[.string ⟨x.oth.toArray⟩,.string ⟨x.rn.toArray⟩,.string ⟨x.rd.toArray⟩,.string ⟨x.pn.toArray⟩,.string ⟨x.pd.toArray⟩,.string ⟨x.vn.toArray⟩,.string ⟨x.vd.toArray⟩] 197)) (.cells #[.string ⟨x.rn.toArray⟩,.string ⟨x.rd.toArray⟩,.string ⟨x.pn.toArray⟩,.string ⟨x.pd.toArray⟩,.string ⟨x.vn.toArray⟩,.string ⟨x.vd.toArray⟩] 34);have z1:Blk ((wr.alloc (.cells #[.string ⟨x.oth.toArray⟩,.string ⟨x.rn.toArray⟩,.string ⟨x.rd.toArray⟩,.string ⟨x.pn.toArray⟩,.string ⟨x.pd.toArray⟩,.string ⟨x.vn.toArray⟩,.string ⟨x.vd.toArray⟩] 197)).alloc (.cells #[.string ⟨x.rn.toArray⟩,.string ⟨x.rd.toArray⟩,.string ⟨x.pn.toArray⟩,.string ⟨x.pd.toArray⟩,.string ⟨x.vn.toArray⟩,.string ⟨x.vd.toArray⟩] 34)) (wr.heap.size+1) #[.string ⟨x.rn.toArray⟩,.string ⟨x.rd.toArray⟩,.string ⟨x.pn.toArray⟩,.string ⟨x.pd.toArray⟩,.string ⟨x.vn.toArray⟩,.string ⟨x.vd.toArray⟩]:=by have h:=Blk.new (wr.alloc (.cells #[.string ⟨x.oth.toArray⟩,.string ⟨x.rn.toArray⟩,.string ⟨x.rd.toArray⟩,.string ⟨x.pn.toArray⟩,.string ⟨x.pd.toArray⟩,.string ⟨x.vn.toArray⟩,.string ⟨x.vd.toArray⟩] 197)) #[.string ⟨x.rn.toArray⟩,.string ⟨x.rd.toArray⟩,.string ⟨x.pn.toArray⟩,.string ⟨x.pd.toArray⟩,.string ⟨x.vn.toArray⟩,.string ⟨x.vd.toArray⟩] 34;rwa [World.size_alloc] at h
   have HS:=Lh (And.intro (bto HB2.out hbS) (And.intro (Y2.out.below hbS) (And.intro (HF2.out.below hbS) z1)));clear hi hbS z1 Y2 HF2 HB2;go_wp2_with fail;clear p0 p1 p2 p3 p4 p5 p6 q0 q5 q1 q2 q3 q4 q6 q7 e5;generalize wr.heap.size=bx at *
   go_loopw [6,7,45] (fun _ _ iv wi=>∃(j:Nat),j<=3/\iv=.int .i64 (j:Int)/\Hid (Below w.heap.size w wi/\Blk wi bx #[.string ⟨x.oth.toArray⟩,.string ⟨x.rn.toArray⟩,.string ⟨x.rd.toArray⟩,.string ⟨x.pn.toArray⟩,.string ⟨x.pd.toArray⟩,.string ⟨x.vn.toArray⟩,.string ⟨x.vd.toArray⟩]/\Blk wi w.heap.size (Zs f)/\Blk wi (bx+1) #[.string ⟨x.rn.toArray⟩,.string ⟨x.rd.toArray⟩,.string ⟨x.pn.toArray⟩,.string ⟨x.pd.toArray⟩,.string ⟨x.vn.toArray⟩,.string ⟨x.vd.toArray⟩])) (fun _ _ iv _=>3-(intOf iv).toNat)
   case atStart=>exact⟨0,by omega,rfl,HS.out⟩
   case round=>
    clear HS;obtain⟨j,hj,rfl,HS⟩:=hrel
    by_cases hlj:j<3
    ·have f1:decide (j<3)=true:=Dt hlj;have f2:decide ((j:Int)<3)=true:=Dt (by omega)
     obtain⟨p,hp⟩:∃p,(opF x)[j]?=some p:=⟨_,List.getElem?_eq_getElem (show j<3 from hlj)⟩
     obtain⟨g1,g2⟩:=Lo HS.out.2.2.2 hp;obtain⟨hl1,hl2⟩:=Is HXS.out hp;obtain⟨E2,hE2⟩:∃E2,E2=bwE false false p.1 p.2 (fv p.1 p.2):=⟨_,rfl⟩
     have CB:Hid (∀w' b1 b2,GE w'->Blk w' b1 #[.bool false]->Blk w' b2 #[.bool false]->Calls Tryz.prog 286 #[.agg #[.string ⟨List.toArray p.1⟩,.string ⟨List.toArray p.2⟩],.pointer (some ⟨b1,0,none⟩),.pointer (some ⟨b2,0,none⟩)] w' fun e w''=>e=.returned (.int .i64 E2)/\Below w'.heap.size w' w''):=fun w' b1 b2 hG' h1 h2=>by
      rw[hE2];exact Ip false false (Q2 (k:=1000) hl1 hl2 (by decide)) hG' h1 h2
     have hbF:=Zd wr (.cells #[.string ⟨List.toArray p.1⟩,.string ⟨List.toArray p.2⟩] 34);have y3:Blk (wr.alloc (.cells #[.string ⟨List.toArray p.1⟩,.string ⟨List.toArray p.2⟩] 34)) wr.heap.size #[.string ⟨List.toArray p.1⟩,.string ⟨List.toArray p.2⟩]:=Blk.new wr _ 34;have Y3:=Lh y3;have hb3:=bto HS.out.1 hbF;have HS3:=Lh (And.intro (HS.out.2.1.below hbF) (And.intro (HS.out.2.2.1.below hbF) (HS.out.2.2.2.below hbF)));clear hp hl1 hl2 hE2 y3 hbF HS;go_wp2_with fail;refine Vn (by kernel_rfl) (by kernel_rfl) ?_
     refine Ot 229 #[.bool false,.bool false] (fun w u=>∃b1 b2,u=.func (.func 286) #[] #[.pointer (some ⟨b1,0,none⟩),.pointer (some ⟨b2,0,none⟩)]/\Blk w b1 #[.bool false]/\Blk w b2 #[.bool false]) rfl (fun w w' u ⟨b1,b2,e,h1,h2⟩ hb=>⟨b1,b2,e,h1.below hb,h2.below hb⟩) (fun _=>rfl) (fun ρ wz hw=>by go_simp;try with_reducible rfl) (fun wz hw=>WY false false wz) ?_
     simp only[Act.put,StT,StZ,StS,Nat.reduceAdd];refine Vo _ (fun _=>rfl) (fun ρ wz hw=>by have q0:wz.cell? ⟨wr.heap.size,0,none⟩=some (.string ⟨List.toArray p.1⟩):=(Y3.out.below hw).c 0;have q1:wz.cell? ⟨wr.heap.size,1,none⟩=some (.string ⟨List.toArray p.2⟩):=(Y3.out.below hw).c 1;go_simp;try with_reducible rfl) ?_
     simp only[Act.put,StT,StZ,StS,Nat.reduceAdd];refine Sb 0 _ _ _ 49 rfl rfl rfl (by decide) (fun _=>rfl) (fun ρ wz hw ⟨b1,b2,e,h1,h2⟩=>⟨286,#[.agg #[.string ⟨List.toArray p.1⟩,.string ⟨List.toArray p.2⟩],.pointer (some ⟨b1,0,none⟩),.pointer (some ⟨b2,0,none⟩)],by simp only[e];go_simp;try with_reducible rfl,CB.out wz b1 b2 (hG.below (bto hb3 hw)) h1 h2⟩) ?_
     simp only[Act.put,StT,StZ,StS,Nat.reduceAdd];refine Vo _ (fun _=>rfl) (fun ρ wz hw=>by go_simp;try with_reducible rfl) ?_
     simp only[Act.put,StT,StZ,StS,Nat.reduceAdd];intro ρ w4 hF;have HS4:=Lh (And.intro (bto hb3 hF.below) (And.intro (HS3.out.1.below hF.below) (And.intro (HS3.out.2.1.below hF.below) (HS3.out.2.2.below hF.below))));clear hF HS3 hb3 CB Y3 g1 g2
     by_cases h0:E2=0
     rotate_left
     ·have e5:decide (E2=0)=false:=Df h0;have e6:(E2==0)=false:=by rw[Bn];exact h0
      have hb4:=HS4.out.1;go_wp2;go_ret;exact⟨⟨_,rfl⟩,hb4⟩
     subst h0;go_wp2;go_roundw
     case rel=>exact⟨j+1,by omega,by go_num,HS4.out⟩
     case measure=>simp[intOf];omega
    have hj3:j=3:=by omega
    subst hj3;have f1:decide (3<3)=false:=rfl;have Y5:=Lh HS.out.2.1;have HF5:=Lh HS.out.2.2.1;have HB5:=Lh HS.out.1;clear HS;go_wp2_with fail
    by_cases h2:(x.rn.isEmpty&&x.rd.isEmpty)=false
    ·have e2:(x.rn.isEmpty&&x.rd.isEmpty)=false:=h2;clear h2;refine Zm (by kernel_rfl) (by kernel_rfl) ?_
     refine Zb _ (fun _=>rfl) (fun ρ w hw=>by go_simp;try with_reducible rfl) ?_
     simp only[Act.put,StT,StZ,StS,Nat.reduceAdd];refine Zb _ (fun _=>rfl) (fun ρ wz hw=>by have q0:wz.cell? ⟨bx,0,none⟩=some (.string ⟨x.oth.toArray⟩):=(Y5.out.below hw).c 0;go_simp;try with_reducible rfl) ?_
     simp only[Act.put,StT,StZ,StS,Nat.reduceAdd];refine Zb (.bool false) (fun _=>rfl) (fun ρ w hw=>by go_simp;try with_reducible rfl) ?_
     simp only[Act.put,StT,StZ,StS,Nat.reduceAdd];refine Zb _ (fun _=>rfl) (fun ρ w hw=>by go_simp;try with_reducible rfl) ?_
     simp only[Act.put,StT,StZ,StS,Nat.reduceAdd];refine Zb _ (fun _=>rfl) (fun ρ wz hw=>by have q1:wz.cell? ⟨bx,1,none⟩=some (.string ⟨x.rn.toArray⟩):=(Y5.out.below hw).c 1;have q2:wz.cell? ⟨bx,2,none⟩=some (.string ⟨x.rd.toArray⟩):=(Y5.out.below hw).c 2;go_simp;try with_reducible rfl) ?_
     simp only[Act.put,StT,StZ,StS,Nat.reduceAdd];refine Zb _ (fun _=>rfl) (fun ρ w hw=>by go_simp;try with_reducible rfl) ?_
     simp only[Act.put,StT,StZ,StS,Nat.reduceAdd];refine Zb (.bool true) (fun _=>rfl) (fun ρ wz hw=>(X6 _ _ rfl x.rn x.rd rfl rfl).trans (by rw[e2];rfl)) ?_
     simp only[Act.put,StT,StZ,StS,Nat.reduceAdd];refine Zb (.bool true) (fun _=>rfl) (fun ρ w hw=>by go_simp;try with_reducible rfl) ?_
     simp only[Act.put,StT,StZ,StS,Nat.reduceAdd];refine Zb _ (fun _=>rfl) (fun ρ w hw=>by go_simp;try with_reducible rfl) ?_
     iterate 9
      simp only[Act.put,StT,StZ,StS,Nat.reduceAdd];refine Yb (fun _=>rfl) ?_
     simp only[Act.put,StT,StZ,StS,Nat.reduceAdd];refine Zb _ (fun _=>rfl) (fun ρ w hw=>by go_simp;try with_reducible rfl) ?_
     simp only[Act.put,StT,StZ,StS,Nat.reduceAdd];refine Zu (fun ρ w9 hF=>?_)
     have hb6:=bto HB5.out hF.below;clear hF Y5 HF5 HB5;go_wp2;go_ret;exact⟨⟨_,rfl⟩,hb6⟩
    have e2:(x.rn.isEmpty&&x.rd.isEmpty)=true:=by cases hh:(x.rn.isEmpty&&x.rd.isEmpty) with|true=>rfl|false=>exact absurd hh h2
    clear h2;cases hv:(x.vn.isEmpty&&x.vd.isEmpty) with
    | false=>
     have e3:(x.vn.isEmpty&&x.vd.isEmpty)=false:=hv;clear hv;refine Zm (by kernel_rfl) (by kernel_rfl) ?_
     refine Zb _ (fun _=>rfl) (fun ρ w hw=>by go_simp;try with_reducible rfl) ?_
     simp only[Act.put,StT,StZ,StS,Nat.reduceAdd];refine Zb _ (fun _=>rfl) (fun ρ wz hw=>by have q0:wz.cell? ⟨bx,0,none⟩=some (.string ⟨x.oth.toArray⟩):=(Y5.out.below hw).c 0;go_simp;try with_reducible rfl) ?_
     simp only[Act.put,StT,StZ,StS,Nat.reduceAdd];refine Zb (.bool false) (fun _=>rfl) (fun ρ w hw=>by go_simp;try with_reducible rfl) ?_
     simp only[Act.put,StT,StZ,StS,Nat.reduceAdd];refine Zb _ (fun _=>rfl) (fun ρ w hw=>by go_simp;try with_reducible rfl) ?_
     simp only[Act.put,StT,StZ,StS,Nat.reduceAdd];refine Zb _ (fun _=>rfl) (fun ρ wz hw=>by have q1:wz.cell? ⟨bx,1,none⟩=some (.string ⟨x.rn.toArray⟩):=(Y5.out.below hw).c 1;have q2:wz.cell? ⟨bx,2,none⟩=some (.string ⟨x.rd.toArray⟩):=(Y5.out.below hw).c 2;go_simp;try with_reducible rfl) ?_
     simp only[Act.put,StT,StZ,StS,Nat.reduceAdd];refine Zb _ (fun _=>rfl) (fun ρ w hw=>by go_simp;try with_reducible rfl) ?_
     simp only[Act.put,StT,StZ,StS,Nat.reduceAdd];refine Zb (.bool false) (fun _=>rfl) (fun ρ wz hw=>(X6 _ _ rfl x.rn x.rd rfl rfl).trans (by rw[e2];rfl)) ?_
     simp only[Act.put,StT,StZ,StS,Nat.reduceAdd];refine Zb (.bool false) (fun _=>rfl) (fun ρ w hw=>by go_simp;try with_reducible rfl) ?_
     iterate 2
      simp only[Act.put,StT,StZ,StS,Nat.reduceAdd];refine Zb _ (fun _=>rfl) (fun ρ w hw=>by go_simp;try with_reducible rfl) ?_
     simp only[Act.put,StT,StZ,StS,Nat.reduceAdd];refine Zb _ (fun _=>rfl) (fun ρ wz hw=>by have q0:wz.cell? ⟨bx,0,none⟩=some (.string ⟨x.oth.toArray⟩):=(Y5.out.below hw).c 0;go_simp;try with_reducible rfl) ?_
     simp only[Act.put,StT,StZ,StS,Nat.reduceAdd];refine Zb (.bool true) (fun _=>rfl) (fun ρ w hw=>by go_simp;try with_reducible rfl) ?_
     iterate 2
      simp only[Act.put,StT,StZ,StS,Nat.reduceAdd];refine Zb _ (fun _=>rfl) (fun ρ w hw=>by go_simp;try with_reducible rfl) ?_
     simp only[Act.put,StT,StZ,StS,Nat.reduceAdd];refine Zb _ (fun _=>rfl) (fun ρ wz hw=>by have q5:wz.cell? ⟨bx,5,none⟩=some (.string ⟨x.vn.toArray⟩):=(Y5.out.below hw).c 5;have q6:wz.cell? ⟨bx,6,none⟩=some (.string ⟨x.vd.toArray⟩):=(Y5.out.below hw).c 6;go_simp;try with_reducible rfl) ?_
     simp only[Act.put,StT,StZ,StS,Nat.reduceAdd];refine Zb _ (fun _=>rfl) (fun ρ w hw=>by go_simp;try with_reducible rfl) ?_
     simp only[Act.put,StT,StZ,StS,Nat.reduceAdd];refine Zb (.bool true) (fun _=>rfl) (fun ρ wz hw=>(X6 _ _ rfl x.vn x.vd rfl rfl).trans (by rw[e3];rfl)) ?_
     iterate 2
      simp only[Act.put,StT,StZ,StS,Nat.reduceAdd];refine Zb _ (fun _=>rfl) (fun ρ w hw=>by go_simp;try with_reducible rfl) ?_
     simp only[Act.put,StT,StZ,StS,Nat.reduceAdd];refine Zu (fun ρ w9 hF=>?_)
     have hb6:=bto HB5.out hF.below;clear hF Y5 HF5 HB5;go_wp2;go_ret;exact⟨⟨_,rfl⟩,hb6⟩
    | true=>
     have e3:(x.vn.isEmpty&&x.vd.isEmpty)=true:=hv;clear hv;refine Zm (by kernel_rfl) (by kernel_rfl) ?_
     refine Zb _ (fun _=>rfl) (fun ρ w hw=>by go_simp;try with_reducible rfl) ?_
     simp only[Act.put,StT,StZ,StS,Nat.reduceAdd];refine Zb _ (fun _=>rfl) (fun ρ wz hw=>by have q0:wz.cell? ⟨bx,0,none⟩=some (.string ⟨x.oth.toArray⟩):=(Y5.out.below hw).c 0;go_simp;try with_reducible rfl) ?_
     simp only[Act.put,StT,StZ,StS,Nat.reduceAdd];refine Zb (.bool false) (fun _=>rfl) (fun ρ w hw=>by go_simp;try with_reducible rfl) ?_
     simp only[Act.put,StT,StZ,StS,Nat.reduceAdd];refine Zb _ (fun _=>rfl) (fun ρ w hw=>by go_simp;try with_reducible rfl) ?_
     simp only[Act.put,StT,StZ,StS,Nat.reduceAdd];refine Zb _ (fun _=>rfl) (fun ρ wz hw=>by have q1:wz.cell? ⟨bx,1,none⟩=some (.string ⟨x.rn.toArray⟩):=(Y5.out.below hw).c 1;have q2:wz.cell? ⟨bx,2,none⟩=some (.string ⟨x.rd.toArray⟩):=(Y5.out.below hw).c 2;go_simp;try with_reducible rfl) ?_
     simp only[Act.put,StT,StZ,StS,Nat.reduceAdd];refine Zb _ (fun _=>rfl) (fun ρ w hw=>by go_simp;try with_reducible rfl) ?_
     simp only[Act.put,StT,StZ,StS,Nat.reduceAdd];refine Zb (.bool false) (fun _=>rfl) (fun ρ wz hw=>(X6 _ _ rfl x.rn x.rd rfl rfl).trans (by rw[e2];rfl)) ?_
     simp only[Act.put,StT,StZ,StS,Nat.reduceAdd];refine Zb (.bool false) (fun _=>rfl) (fun ρ w hw=>by go_simp;try with_reducible rfl) ?_
     iterate 2
      simp only[Act.put,StT,StZ,StS,Nat.reduceAdd];refine Zb _ (fun _=>rfl) (fun ρ w hw=>by go_simp;try with_reducible rfl) ?_
     simp only[Act.put,StT,StZ,StS,Nat.reduceAdd];refine Zb _ (fun _=>rfl) (fun ρ wz hw=>by have q0:wz.cell? ⟨bx,0,none⟩=some (.string ⟨x.oth.toArray⟩):=(Y5.out.below hw).c 0;go_simp;try with_reducible rfl) ?_
     simp only[Act.put,StT,StZ,StS,Nat.reduceAdd];refine Zb (.bool true) (fun _=>rfl) (fun ρ w hw=>by go_simp;try with_reducible rfl) ?_
     iterate 2
      simp only[Act.put,StT,StZ,StS,Nat.reduceAdd];refine Zb _ (fun _=>rfl) (fun ρ w hw=>by go_simp;try with_reducible rfl) ?_
     simp only[Act.put,StT,StZ,StS,Nat.reduceAdd];refine Zb _ (fun _=>rfl) (fun ρ wz hw=>by have q5:wz.cell? ⟨bx,5,none⟩=some (.string ⟨x.vn.toArray⟩):=(Y5.out.below hw).c 5;have q6:wz.cell? ⟨bx,6,none⟩=some (.string ⟨x.vd.toArray⟩):=(Y5.out.below hw).c 6;go_simp;try with_reducible rfl) ?_
     simp only[Act.put,StT,StZ,StS,Nat.reduceAdd];refine Zb _ (fun _=>rfl) (fun ρ w hw=>by go_simp;try with_reducible rfl) ?_
     simp only[Act.put,StT,StZ,StS,Nat.reduceAdd];refine Zb (.bool false) (fun _=>rfl) (fun ρ wz hw=>(X6 _ _ rfl x.vn x.vd rfl rfl).trans (by rw[e3];rfl)) ?_
     iterate 2
      simp only[Act.put,StT,StZ,StS,Nat.reduceAdd];refine Zb _ (fun _=>rfl) (fun ρ w hw=>by go_simp;try with_reducible rfl) ?_
     simp only[Act.put,StT,StZ,StS,Nat.reduceAdd];refine Zu (fun ρ w9 hF=>?_)
     have Y6:=Lh (Y5.out.below hF.below);have HF6:=Lh (HF5.out.below hF.below);have hb6:=bto HB5.out hF.below;clear hF Y5 HF5 HB5;go_wp2;go_roundw
     case rel=>exact⟨k+1,by omega,by go_num,hb6,HF6.out⟩
     case measure=>simp[intOf];omega
  have o1:x.oth.isEmpty=false:=by cases h:x.oth with|nil=>exact absurd h ho|cons a r=>rfl
  go_wp2_with fail
  with_reducible refine (C1.out.of hG HBA.out).mono ?_
  rintro e w2 ⟨rfl,hb2⟩;have Y2:=Lh (Y1.out.below hb2);have HF2:=Lh (HFA.out.below hb2);have HB2:=Lh (bto HBA.out hb2);obtain⟨bl,hbl⟩:∃bl,bl=YS x.oth:=⟨_,rfl⟩
  rw[<-hbl];clear hbl q0 hb2 Y1 HFA HBA C1 p0 p1 p2 p3 p4 p5 p6;cases bl with
  | false=>
   have hbq:=HB2.out;go_wp2;go_ret;exact⟨⟨_,rfl⟩,hbq⟩
  | true=>
   clear ho;have q0:w2.cell? ⟨wr.heap.size,0,none⟩=some (.string ⟨x.oth.toArray⟩):=Y2.out.c 0;have q5:w2.cell? ⟨w.heap.size,5,none⟩=some (.string ⟨f.ins.toArray⟩):=HF2.out.c 5
   by_cases hi:x.oth=f.ins
   ·have e5:(x.oth==f.ins)=true:=by rw[beq_iff_eq];exact hi
    have hbq:=HB2.out;clear hi;go_wp2;go_ret;exact⟨⟨_,rfl⟩,hbq⟩
   have e5:(x.oth==f.ins)=false:=by rw[Bn];exact hi
   have q1:w2.cell? ⟨wr.heap.size,1,none⟩=some (.string ⟨x.rn.toArray⟩):=Y2.out.c 1;have q2:w2.cell? ⟨wr.heap.size,2,none⟩=some (.string ⟨x.rd.toArray⟩):=Y2.out.c 2;have q3:w2.cell? ⟨wr.heap.size,3,none⟩=some (.string ⟨x.pn.toArray⟩):=Y2.out.c 3;have q4:w2.cell? ⟨wr.heap.size,4,none⟩=some (.string ⟨x.pd.toArray⟩):=Y2.out.c 4;have q6:w2.cell? ⟨wr.heap.size,5,none⟩=some (.string ⟨x.vn.toArray⟩):=Y2.out.c 5;have q7:w2.cell? ⟨wr.heap.size,6,none⟩=some (.string ⟨x.vd.toArray⟩):=Y2.out.c 6;have hbS:=Zd w2 (.cells #[.string ⟨x.rn.toArray⟩,.string ⟨x.rd.toArray⟩,.string ⟨x.pn.toArray⟩,.string ⟨x.pd.toArray⟩,.string ⟨x.vn.toArray⟩,.string ⟨x.vd.toArray⟩] 34);have z1:Blk (w2.alloc (.cells #[.string ⟨x.rn.toArray⟩,.string ⟨x.rd.toArray⟩,.string ⟨x.pn.toArray⟩,.string ⟨x.pd.toArray⟩,.string ⟨x.vn.toArray⟩,.string ⟨x.vd.toArray⟩] 34)) w2.heap.size #[.string ⟨x.rn.toArray⟩,.string ⟨x.rd.toArray⟩,.string ⟨x.pn.toArray⟩,.string ⟨x.pd.toArray⟩,.string ⟨x.vn.toArray⟩,.string ⟨x.vd.toArray⟩]:=Blk.new w2 _ 34;have HS:=Lh (And.intro (bto HB2.out hbS) (And.intro (Y2.out.below hbS) (And.intro (HF2.out.below hbS) z1)));clear hi hbS z1 Y2 HF2 HB2;go_wp2_with fail;clear q0 q5 q1 q2 q3 q4 q6 q7 e5;generalize wr.heap.size=bx at *
   go_loopw [6,7,45] (fun _ _ iv wi=>∃(j:Nat),j<=3/\iv=.int .i64 (j:Int)/\Hid (Below w.heap.size w wi/\Blk wi bx #[.string ⟨x.oth.toArray⟩,.string ⟨x.rn.toArray⟩,.string ⟨x.rd.toArray⟩,.string ⟨x.pn.toArray⟩,.string ⟨x.pd.toArray⟩,.string ⟨x.vn.toArray⟩,.string ⟨x.vd.toArray⟩]/\Blk wi w.heap.size (Zs f)/\Blk wi w2.heap.size #[.string ⟨x.rn.toArray⟩,.string ⟨x.rd.toArray⟩,.string ⟨x.pn.toArray⟩,.string ⟨x.pd.toArray⟩,.string ⟨x.vn.toArray⟩,.string ⟨x.vd.toArray⟩])) (fun _ _ iv _=>3-(intOf iv).toNat)
   case atStart=>exact⟨0,by omega,rfl,HS.out⟩
   case round=>
    clear HS;obtain⟨j,hj,rfl,HS⟩:=hrel
    by_cases hlj:j<3
    ·have f1:decide (j<3)=true:=Dt hlj;have f2:decide ((j:Int)<3)=true:=Dt (by omega)
     obtain⟨p,hp⟩:∃p,(opF x)[j]?=some p:=⟨_,List.getElem?_eq_getElem (show j<3 from hlj)⟩
     obtain⟨g1,g2⟩:=Lo HS.out.2.2.2 hp;obtain⟨hl1,hl2⟩:=Is HXS.out hp;obtain⟨E2,hE2⟩:∃E2,E2=bwE false false p.1 p.2 (fv p.1 p.2):=⟨_,rfl⟩
     have CB:Hid (∀w' b1 b2,GE w'->Blk w' b1 #[.bool false]->Blk w' b2 #[.bool false]->Calls Tryz.prog 286 #[.agg #[.string ⟨List.toArray p.1⟩,.string ⟨List.toArray p.2⟩],.pointer (some ⟨b1,0,none⟩),.pointer (some ⟨b2,0,none⟩)] w' fun e w''=>e=.returned (.int .i64 E2)/\Below w'.heap.size w' w''):=fun w' b1 b2 hG' h1 h2=>by
      rw[hE2];exact Ip false false (Q2 (k:=1000) hl1 hl2 (by decide)) hG' h1 h2
     have hbF:=Zd wr (.cells #[.string ⟨List.toArray p.1⟩,.string ⟨List.toArray p.2⟩] 34);have y3:Blk (wr.alloc (.cells #[.string ⟨List.toArray p.1⟩,.string ⟨List.toArray p.2⟩] 34)) wr.heap.size #[.string ⟨List.toArray p.1⟩,.string ⟨List.toArray p.2⟩]:=Blk.new wr _ 34;have Y3:=Lh y3;have hb3:=bto HS.out.1 hbF;have HS3:=Lh (And.intro (HS.out.2.1.below hbF) (And.intro (HS.out.2.2.1.below hbF) (HS.out.2.2.2.below hbF)));clear hp hl1 hl2 hE2 y3 hbF HS;go_wp2_with fail;refine Vn (by kernel_rfl) (by kernel_rfl) ?_
     refine Ot 229 #[.bool false,.bool false] (fun w u=>∃b1 b2,u=.func (.func 286) #[] #[.pointer (some ⟨b1,0,none⟩),.pointer (some ⟨b2,0,none⟩)]/\Blk w b1 #[.bool false]/\Blk w b2 #[.bool false]) rfl (fun w w' u ⟨b1,b2,e,h1,h2⟩ hb=>⟨b1,b2,e,h1.below hb,h2.below hb⟩) (fun _=>rfl) (fun ρ wz hw=>by go_simp;try with_reducible rfl) (fun wz hw=>WY false false wz) ?_
     simp only[Act.put,StT,StZ,StS,Nat.reduceAdd];refine Vo _ (fun _=>rfl) (fun ρ wz hw=>by have q0:wz.cell? ⟨wr.heap.size,0,none⟩=some (.string ⟨List.toArray p.1⟩):=(Y3.out.below hw).c 0;have q1:wz.cell? ⟨wr.heap.size,1,none⟩=some (.string ⟨List.toArray p.2⟩):=(Y3.out.below hw).c 1;go_simp;try with_reducible rfl) ?_
     simp only[Act.put,StT,StZ,StS,Nat.reduceAdd];refine Sb 0 _ _ _ 49 rfl rfl rfl (by decide) (fun _=>rfl) (fun ρ wz hw ⟨b1,b2,e,h1,h2⟩=>⟨286,#[.agg #[.string ⟨List.toArray p.1⟩,.string ⟨List.toArray p.2⟩],.pointer (some ⟨b1,0,none⟩),.pointer (some ⟨b2,0,none⟩)],by simp only[e];go_simp;try with_reducible rfl,CB.out wz b1 b2 (hG.below (bto hb3 hw)) h1 h2⟩) ?_
     simp only[Act.put,StT,StZ,StS,Nat.reduceAdd];refine Vo _ (fun _=>rfl) (fun ρ wz hw=>by go_simp;try with_reducible rfl) ?_
     simp only[Act.put,StT,StZ,StS,Nat.reduceAdd];intro ρ w4 hF;have HS4:=Lh (And.intro (bto hb3 hF.below) (And.intro (HS3.out.1.below hF.below) (And.intro (HS3.out.2.1.below hF.below) (HS3.out.2.2.below hF.below))));clear hF HS3 hb3 CB Y3 g1 g2
     by_cases h0:E2=0
     rotate_left
     ·have e5:decide (E2=0)=false:=Df h0;have e6:(E2==0)=false:=by rw[Bn];exact h0
      have hb4:=HS4.out.1;go_wp2;go_ret;exact⟨⟨_,rfl⟩,hb4⟩
     subst h0;go_wp2;go_roundw
     case rel=>exact⟨j+1,by omega,by go_num,HS4.out⟩
     case measure=>simp[intOf];omega
    have hj3:j=3:=by omega
    subst hj3;have f1:decide (3<3)=false:=rfl;have Y5:=Lh HS.out.2.1;have HF5:=Lh HS.out.2.2.1;have HB5:=Lh HS.out.1;clear HS;go_wp2_with fail
    by_cases h2:(x.rn.isEmpty&&x.rd.isEmpty)=false
    ·have e2:(x.rn.isEmpty&&x.rd.isEmpty)=false:=h2;clear h2;refine Zm (by kernel_rfl) (by kernel_rfl) ?_
     refine Zb _ (fun _=>rfl) (fun ρ w hw=>by go_simp;try with_reducible rfl) ?_
     simp only[Act.put,StT,StZ,StS,Nat.reduceAdd];refine Zb _ (fun _=>rfl) (fun ρ wz hw=>by have q0:wz.cell? ⟨bx,0,none⟩=some (.string ⟨x.oth.toArray⟩):=(Y5.out.below hw).c 0;go_simp;try with_reducible rfl) ?_
     simp only[Act.put,StT,StZ,StS,Nat.reduceAdd];refine Zb (.bool true) (fun _=>rfl) (fun ρ w hw=>by go_simp;try with_reducible rfl) ?_
     simp only[Act.put,StT,StZ,StS,Nat.reduceAdd];refine Zb _ (fun _=>rfl) (fun ρ w hw=>by go_simp;try with_reducible rfl) ?_
     simp only[Act.put,StT,StZ,StS,Nat.reduceAdd];refine Zb _ (fun _=>rfl) (fun ρ wz hw=>by have q1:wz.cell? ⟨bx,1,none⟩=some (.string ⟨x.rn.toArray⟩):=(Y5.out.below hw).c 1;have q2:wz.cell? ⟨bx,2,none⟩=some (.string ⟨x.rd.toArray⟩):=(Y5.out.below hw).c 2;go_simp;try with_reducible rfl) ?_
     simp only[Act.put,StT,StZ,StS,Nat.reduceAdd];refine Zb _ (fun _=>rfl) (fun ρ w hw=>by go_simp;try with_reducible rfl) ?_
     simp only[Act.put,StT,StZ,StS,Nat.reduceAdd];refine Zb (.bool true) (fun _=>rfl) (fun ρ wz hw=>(X6 _ _ rfl x.rn x.rd rfl rfl).trans (by rw[e2];rfl)) ?_
     simp only[Act.put,StT,StZ,StS,Nat.reduceAdd];refine Zb (.bool false) (fun _=>rfl) (fun ρ w hw=>by go_simp;try with_reducible rfl) ?_
     iterate 2
      simp only[Act.put,StT,StZ,StS,Nat.reduceAdd];refine Zb _ (fun _=>rfl) (fun ρ w hw=>by go_simp;try with_reducible rfl) ?_
     simp only[Act.put,StT,StZ,StS,Nat.reduceAdd];refine Zb _ (fun _=>rfl) (fun ρ wz hw=>by have q0:wz.cell? ⟨bx,0,none⟩=some (.string ⟨x.oth.toArray⟩):=(Y5.out.below hw).c 0;go_simp;try with_reducible rfl) ?_
     simp only[Act.put,StT,StZ,StS,Nat.reduceAdd];refine Zb (.bool false) (fun _=>rfl) (fun ρ w hw=>by go_simp;try with_reducible rfl) ?_
     simp only[Act.put,StT,StZ,StS,Nat.reduceAdd];refine Zb _ (fun _=>rfl) (fun ρ w hw=>by go_simp;try with_reducible rfl) ?_
     iterate 4
      simp only[Act.put,StT,StZ,StS,Nat.reduceAdd];refine Yb (fun _=>rfl) ?_
     iterate 2
      simp only[Act.put,StT,StZ,StS,Nat.reduceAdd];refine Zb _ (fun _=>rfl) (fun ρ w hw=>by go_simp;try with_reducible rfl) ?_
     simp only[Act.put,StT,StZ,StS,Nat.reduceAdd];refine Zu (fun ρ w9 hF=>?_)
     have Y6:=Lh (Y5.out.below hF.below);have HF6:=Lh (HF5.out.below hF.below);have hb6:=bto HB5.out hF.below;clear hF Y5 HF5 HB5;go_wp2;go_roundw
     case rel=>exact⟨k+1,by omega,by go_num,hb6,HF6.out⟩
     case measure=>simp[intOf];omega
    have e2:(x.rn.isEmpty&&x.rd.isEmpty)=true:=by cases hh:(x.rn.isEmpty&&x.rd.isEmpty) with|true=>rfl|false=>exact absurd hh h2
    clear h2;refine Zm (by kernel_rfl) (by kernel_rfl) ?_
    refine Zb _ (fun _=>rfl) (fun ρ w hw=>by go_simp;try with_reducible rfl) ?_
    simp only[Act.put,StT,StZ,StS,Nat.reduceAdd];refine Zb _ (fun _=>rfl) (fun ρ wz hw=>by have q0:wz.cell? ⟨bx,0,none⟩=some (.string ⟨x.oth.toArray⟩):=(Y5.out.below hw).c 0;go_simp;try with_reducible rfl) ?_
    simp only[Act.put,StT,StZ,StS,Nat.reduceAdd];refine Zb (.bool true) (fun _=>rfl) (fun ρ w hw=>by go_simp;try with_reducible rfl) ?_
    simp only[Act.put,StT,StZ,StS,Nat.reduceAdd];refine Zb _ (fun _=>rfl) (fun ρ w hw=>by go_simp;try with_reducible rfl) ?_
    simp only[Act.put,StT,StZ,StS,Nat.reduceAdd];refine Zb _ (fun _=>rfl) (fun ρ wz hw=>by have q1:wz.cell? ⟨bx,1,none⟩=some (.string ⟨x.rn.toArray⟩):=(Y5.out.below hw).c 1;have q2:wz.cell? ⟨bx,2,none⟩=some (.string ⟨x.rd.toArray⟩):=(Y5.out.below hw).c 2;go_simp;try with_reducible rfl) ?_
    simp only[Act.put,StT,StZ,StS,Nat.reduceAdd];refine Zb _ (fun _=>rfl) (fun ρ w hw=>by go_simp;try with_reducible rfl) ?_
    simp only[Act.put,StT,StZ,StS,Nat.reduceAdd];refine Zb (.bool false) (fun _=>rfl) (fun ρ wz hw=>(X6 _ _ rfl x.rn x.rd rfl rfl).trans (by rw[e2];rfl)) ?_
    simp only[Act.put,StT,StZ,StS,Nat.reduceAdd];refine Zb (.bool true) (fun _=>rfl) (fun ρ w hw=>by go_simp;try with_reducible rfl) ?_
    simp only[Act.put,StT,StZ,StS,Nat.reduceAdd];refine Zb _ (fun _=>rfl) (fun ρ w hw=>by go_simp;try with_reducible rfl) ?_
    iterate 9
     simp only[Act.put,StT,StZ,StS,Nat.reduceAdd];refine Yb (fun _=>rfl) ?_
    simp only[Act.put,StT,StZ,StS,Nat.reduceAdd];refine Zb _ (fun _=>rfl) (fun ρ w hw=>by go_simp;try with_reducible rfl) ?_
    simp only[Act.put,StT,StZ,StS,Nat.reduceAdd];refine Zu (fun ρ w9 hF=>?_)
    have hb6:=bto HB5.out hF.below;clear hF Y5 HF5 HB5;go_wp2;go_ret;exact⟨⟨_,rfl⟩,hb6⟩
def ZA (word:List UInt8) (cls:Int) (H:List Bool) (M:Option Nat) (code:Bool):Array Value:=(Value.string ⟨word.toArray⟩::.int .i64 cls::(H.map Value.bool++[.map M,.bool code])).toArray
theorem Xv {word:List UInt8} {cls:Int} {H:List Bool} {M:Option Nat} {code:Bool} (h:H.length=13):(ZA word cls H M code).size=17:=by simp[ZA,h]
theorem EL {word:List UInt8} {cls:Int} {H:List Bool} {M:Option Nat} {code:Bool} {k:Nat} (h:H.length=13) (hk:k<13):(ZA word cls H M code).setIfInBounds (2+k) (.bool true)=ZA word cls (H.set k true) M code:=by
 unfold ZA;rw[List.setIfInBounds_toArray,show 2+k=k+1+1 by omega,List.set_cons_succ,List.set_cons_succ,List.set_append_left _ _ (by rw[List.length_map];omega),List.map_set]
theorem UV {word:List UInt8} {cls:Int} {H:List Bool} {M:Option Nat} {code:Bool}:(ZA word cls H M code).all (·.oneCell')=true:=by
 refine all_oneCell_toArray (fun v hv=>?_)
 simp only[List.mem_cons,List.mem_append,List.mem_map,List.not_mem_nil,or_false] at hv;rcases hv with rfl|rfl|⟨b,-,rfl⟩|rfl|rfl<;>rfl
theorem To:(Tryz.prog.info? 270).map (·.size)=some 17:=by kernel_rfl
theorem Tq:(Tryz.prog.info? 4).map (·.size)=some 1:=by kernel_rfl
theorem QI {w:World} {r a b:Nat} {m:Option Nat} {s:Array Nat} (h:w.heap[r]?=some (.mapIter m a s b)):w.iterSeen r=s:=by
 unfold World.iterSeen;rw[h]
theorem Wn {w:World} {b:Nat} {o:Obj} (h:b<w.heap.size):(ChangeMaps.setBlock w b o).heap[b]?=some o:=by simp[ChangeMaps.setBlock,h]
theorem Yx {w:World} {b c:Nat} {o:Obj} (h:c≠b):(ChangeMaps.setBlock w b o).heap[c]?=w.heap[c]?:=by simp[ChangeMaps.setBlock,Ne.symm h]
theorem Vp {w w1:World} {B b:Nat} {o:Obj} (h:Below B w w1) (hb:B<=b):Below B w (ChangeMaps.setBlock w1 b o):=
 h.trans ⟨rfl,rfl,rfl,by simp[ChangeMaps.setBlock],fun k hk=>Yx (by omega)⟩
def Jl (w:World) (A:Option Addr) (ms:List Nat):Prop:=∀(i m:Nat),ms[i]?=some m->∃b o,A=some ⟨b,o,none⟩/\b<w.heap.size/\w.cell? ⟨b,o+i,none⟩=some (.int .i64 (m:Int))
theorem Jl.below {w w':World} {A:Option Addr} {ms:List Nat} (h:Jl w A ms) (hb:Below w.heap.size w w'):Jl w' A ms:=fun i m hm=>by
 obtain⟨b,o,e,hlt,hc⟩:=h i m hm;exact⟨b,o,e,Nat.lt_of_lt_of_le hlt hb.size,(World.cell?_of_block (hb.block _ hlt)).trans hc⟩
def QJ (H:List Bool) (K:Nat->Prop):Prop:=H.length=13/\∀i,H[i]?=some true->K i
def Qn (es:Array MapEntry) (i:Nat):Prop:=∃e∈es.toList,e.key=.int .i64 (i:Int)
theorem Ww {H:List Bool} {k i:Nat} (hl:H.length=13) (hk:k<13):(H.set k true)[i]?=some true↔i=k∨H[i]?=some true:=by
 rw[List.getElem?_set]
 by_cases h:k=i
 ·subst h;simp[hl,hk]
 ·rw[if_neg h];constructor
  ·exact .inr
  ·rintro (h2|h2)
   ·exact absurd h2.symm h
   ·exact h2
structure Sc (w:World) (word:List UInt8) (cls:Int) (M:Option Nat) (H:List Bool) (W:World):Prop where
 below:Below w.heap.size w W
 res:W.heap[w.heap.size]?=some (.cells #[.string ⟨#[]⟩,.int .i64 0,.bool false,.bool false,.bool false,.bool false,.bool false,.bool false,.bool false,.bool false,.bool false,.bool false,.bool false,.bool false,.bool false,.map none,.bool false] 270 (0,0))
 box:W.heap[w.heap.size+1]?=some (.cells (ZA word cls H M false) 270 (0,0))
 len:H.length=13
theorem Sc.there {w W:World} {word:List UInt8} {cls:Int} {M:Option Nat} {H:List Bool} (h:Sc w word cls M H W) {k:Nat} (hk:k<13):(W.cell? ⟨w.heap.size+1,2+k,none⟩).isSome=true/\W.frozen? ⟨w.heap.size+1,2+k,none⟩=false:=by
 refine⟨?_,Zq h.box _⟩;rw[Zh h.box,Array.getElem?_eq_getElem (by rw[Xv h.len];omega)]
 rfl
theorem Sc.set {w W:World} {word:List UInt8} {cls:Int} {M:Option Nat} {H:List Bool} (h:Sc w word cls M H W) {k:Nat} (hk:k<13):Sc w word cls M (H.set k true) (W.setCell ⟨w.heap.size+1,2+k,none⟩ (.bool true)):=by
 have hb:Below w.heap.size w (W.setCell ⟨w.heap.size+1,2+k,none⟩ (.bool true)):=Uw h.below (by omega) _ _
 refine⟨hb,hoth h.res (by omega),?_,by rw[List.length_set];exact h.len⟩
 have:=hset (o:=2+k) (.bool true) h.box
 rwa [EL h.len hk] at this
theorem Sc.other {w W W':World} {word:List UInt8} {cls:Int} {M:Option Nat} {H:List Bool} (h:Sc w word cls M H W) (hb:Below (w.heap.size+2) W W'):Sc w word cls M H W':=
 ⟨h.below.trans (hb.mono (by omega)),(hb.block _ (by omega)).trans h.res,(hb.block _ (by omega)).trans h.box,h.len⟩
theorem YM {P:Program} {w:World} {ops:Array Oper} {rest:List Oper} {op:Oper} {a:Act} {Q:Exit->Act->World->Prop} (hgd:op.guard=none) (ty:TypeId) (x y:Operand) (ho:op.op=.store ty x y)
  (b k:Nat) (v:Value) (hx:a.eval x=.pointer (some ⟨b,k,none⟩)) (hy:a.eval y=v)
  (hc:(w.cell? ⟨b,k,none⟩).isSome=true) (hf:w.frozen? ⟨b,k,none⟩=false) (hi:(P.info? ty).map (·.size)=some 1) (h1:v.oneCell'=true)
  (h:wpList P ops Q rest (a.put op.dst undef) (w.setCell ⟨b,k,none⟩ v)):wpList P ops Q (op::rest) a w:=
 wpList_plain hgd fun _ hK=>by
  unfold Oper.wp;rw[UD (P:=P) (e:=a.eval) (w:=w) ty x y ho b k v hx hy hc hf hi h1];exact hK _ _ h
theorem Zab (word:List UInt8) (cls:Int) {w:World} {bm clock:Nat} {es:Array MapEntry} (hb:w.heap[bm]?=some (.map es clock)) (hst:MapKept.Stamped es clock) (hk:∀e∈es.toList,∃k:Nat,e.key=.int .i64 (k:Int)/\k<13) {A:Option Addr} {ms:List Nat} {n c:Nat} (hms:Jl w A ms) (hn:ms.length=n) (hn2:n<=100) (hm:∀m∈ms,m<13) :
  Calls Tryz.prog 230 #[.string ⟨word.toArray⟩,.int .i64 cls,.map (some bm),.slice A n c] w fun e w'=>∃H,e=.returned (.agg (ZA word cls H (some bm) false))/\QJ H (fun i=>Qn es i∨i∈ms)/\(∀i,(fun i=>Qn es i∨i∈ms) i->H[i]?=some true)/\Below w.heap.size w w':=by
 have HMS:=Lh hms;have HN:=Lh hn;have HM:=Lh hm;have HZ:=Lh (List.length_replicate (n:=13) (a:=false));obtain⟨h1,h2,h3,h4⟩:=Vs w (.cells #[.string ⟨#[]⟩,.int .i64 0,.bool false,.bool false,.bool false,.bool false,.bool false,.bool false,.bool false,.bool false,.bool false,.bool false,.bool false,.bool false,.bool false,.map none,.bool false] 270) (.cells #[.string ⟨word.toArray⟩,.int .i64 cls,.bool false,.bool false,.bool false,.bool false,.bool false,.bool false,.bool false,.bool false,.bool false,.bool false,.bool false,.bool false,.bool false,.map (some bm),.bool false] 270);obtain⟨W0,hW0⟩:∃W0,W0=(w.alloc (.cells #[.string ⟨#[]⟩,.int .i64 0,.bool false,.bool false,.bool false,.bool false,.bool false,.bool false,.bool false,.bool false,.bool false,.bool false,.bool false,.bool false,.bool false,.map none,.bool false] 270)).alloc (.cells #[.string ⟨word.toArray⟩,.int .i64 cls,.bool false,.bool false,.bool false,.bool false,.bool false,.bool false,.bool false,.bool false,.bool false,.bool false,.bool false,.bool false,.bool false,.map (some bm),.bool false] 270):=⟨_,rfl⟩
 rw[<-hW0] at h1 h2 h3 h4;have HO0:Hid (Sc w word cls (some bm) (List.replicate 13 false) W0):=⟨h3,h1,h2,rfl⟩;have HW0:=Lh hW0;have HS0:=Lh h4;have HB:=Lh hb;have HST:=Lh hst;have HK:=Lh hk;have hb0:W0.heap[bm]?=some (.map es clock):=Zw hb h3;have hrg:=run_range_map (P:=Tryz.prog) W0 268 _ _ bm es clock Tryz.underlying268 hb0;have hbI:=Zd W0 (.mapIter (some bm) clock #[] clock);have hrI:(W0.alloc (.mapIter (some bm) clock #[] clock)).heap[w.heap.size+2]?=some (.mapIter (some bm) clock #[] clock):=by rw[<-h4];exact ZF W0 _
 rw[h4] at hrg hbI;have HO1:Hid (Sc w word cls (some bm) (List.replicate 13 false) (W0.alloc (.mapIter (some bm) clock #[] clock))):=HO0.out.other hbI;have HRI:=Lh hrI;rw[hW0] at hrg;clear hb hst hk hb0 hbI hrI;clear h1 h2 h3 h4 hW0 hms hn hm;go_enter Tryz.func230,Tryz.ntmps230;go_wp2_with fail;clear hrg
 go_loopw [10] (fun _ wr=>∃(H:List Bool) (seen:Array Nat),Hid (Sc w word cls (some bm) H wr)/\Hid (wr.heap[w.heap.size+2]?=some (.mapIter (some bm) clock seen clock))/\Hid ((∀i,H[i]?=some true->Qn es i)/\(∀e∈es.toList,seen.contains e.born=true->∀i:Nat,e.key=.int .i64 (i:Int)->H[i]?=some true))) (fun _ wr=>(leftOf es (wr.iterSeen (w.heap.size+2))).size)
 case atStart=>
  refine⟨List.replicate 13 false,#[],?_,?_,?_⟩
  ·rw[HW0.out] at HO1;exact HO1
  ·rw[HW0.out] at HRI;exact HRI
  ·exact⟨fun i hi=>(by rw[List.getElem?_replicate] at hi;split at hi<;>cases hi),fun e _ h=>(by simp at h)⟩
 case round=>
  clear HO1 HRI HW0 HS0 HO0;obtain⟨H,seen,HO,HR,HI⟩:=hrel;have hbm:=Zw HB.out HO.out.below;have law:=run_next_at (P:=Tryz.prog) wr 0 (w.heap.size+2) bm clock clock seen es clock HR.out hbm HST.out.1 (Nl _);rcases law with ⟨h0,hrun⟩|⟨e,he,w2,hal,hrun⟩
  rotate_left
  ·obtain⟨k,hk,hk13⟩:=HK.out e (mem_left he).1;have hrlt:=(Ag.1 HR.out).1;have hb2:Below (w.heap.size+2) wr (ChangeMaps.setBlock w2 (w.heap.size+2) (.mapIter (some bm) clock (seen.push e.born) clock)):=Vp (by rcases hal with rfl|rfl;exact Below.refl _ _;exact BO (Below.refl _ _)) (Nl _)
   have hO2:=HO.out.other hb2;have hr2:(ChangeMaps.setBlock w2 (w.heap.size+2) (.mapIter (some bm) clock (seen.push e.born) clock)).heap[w.heap.size+2]?=some (.mapIter (some bm) clock (seen.push e.born) clock):=Wn (by rcases hal with rfl|rfl<;>exact hrlt)
   have hen:=run_entry_at (P:=Tryz.prog) _ (w.heap.size+2) bm clock seen es clock e hr2 (Zw HB.out hO2.below) (mem_left he).1 HST.out.2.1;rw[hk] at hrun hen;obtain⟨W2,hW2⟩:∃W2,W2=ChangeMaps.setBlock w2 (w.heap.size+2) (.mapIter (some bm) clock (seen.push e.born) clock):=⟨_,rfl⟩
   rw[<-hW2] at hrun hen hO2 hr2;have hnx:∀ty,(Instr.next (.pointer (some ⟨w.heap.size+2,0,none⟩)) false ty).run Tryz.prog wr=_:=fun _=>hrun
   have hth:=hO2.there hk13;have HO3:=Lh (hO2.set hk13);have HR3:Hid ((W2.setCell ⟨w.heap.size+1,2+k,none⟩ (.bool true)).heap[w.heap.size+2]?=some (.mapIter (some bm) clock (seen.push e.born) clock)):=hoth hr2 (by omega)
   have hle:=HO.out.len;have HI3:Hid ((∀i,(H.set k true)[i]?=some true->Qn es i)/\(∀e'∈es.toList,(seen.push e.born).contains e'.born=true->∀i:Nat,e'.key=.int .i64 (i:Int)->(H.set k true)[i]?=some true)):=by
    refine⟨fun i hi=>?_,fun e' he' hs i hi=>?_⟩
    ·rcases (Ww hle hk13).1 hi with rfl|h
     ·exact⟨e,(mem_left he).1,hk⟩
     ·exact HI.out.1 i h
    ·refine (Ww hle hk13).2 ?_;rw[contains_push,Bool.or_eq_true] at hs;rcases hs with hs|hs
     ·exact .inr (HI.out.2 e' he' hs i hi)
     ·have:e'=e:=born_inj HST.out.2.1 he' (mem_left he).1 (by simpa using hs)
      subst this;rw[hk] at hi;injection hi with _ hi
      exact .inl (by omega)
   have HMS2:Hid ((leftOf es (seen.push e.born)).size<(leftOf es seen).size):=left_shrinks es seen e he;have HTH:=Lh hth;have HHR:=HR;clear hrun hO2 hr2 hW2 hb2 HI hbm hal hk he hrlt hle hth HO;go_wp2_with (refine YM rfl 4 (.tmp 25) (.const (.bool true)) rfl (w.heap.size+1) (2+k) (.bool true) rfl rfl HTH.out.1 HTH.out.2 Tq rfl ?_);simp only[Act.put];go_roundw
   case rel=>exact⟨H.set k true,seen.push e.born,HO3.out,HR3.out,HI3.out⟩
   case measure=>
    rw[QI HR3.out,QI HHR.out];exact HMS2.out
  have hnx:∀ty,(Instr.next (.pointer (some ⟨w.heap.size+2,0,none⟩)) false ty).run Tryz.prog wr=_:=fun _=>hrun
  have HKE:Hid ((∀i,H[i]?=some true->Qn es i)/\∀i,Qn es i->H[i]?=some true):=⟨HI.out.1,fun i ⟨e,he,hi⟩=>HI.out.2 e he (all_seen es seen h0 e he) i hi⟩
  clear hrun h0 HI HR hbm;go_wp2_with fail;clear hnx
  go_loopw [12,28] (fun _ iv wr=>∃(j:Nat) (H:List Bool),j<=n/\iv=.int .i64 (j:Int)/\Hid (Sc w word cls (some bm) H wr)/\Hid ((∀i,H[i]?=some true->Qn es i∨i∈ms)/\(∀i:Nat,Qn es i->H[i]?=some true)/\(∀i,i∈ms.take j->H[i]?=some true))) (fun _ iv _=>n-(intOf iv).toNat)
  case atStart=>exact⟨0,H,Nat.zero_le _,rfl,HO.out,⟨fun i hi=>.inl (HKE.out.1 i hi),HKE.out.2,fun i hi=>by simp at hi⟩⟩
  case round=>
   clear HO HKE;obtain⟨j,H,hj,rfl,HO,HI⟩:=hrel
   by_cases hlj:j<n
   ·have e1:decide (j<n)=true:=Dt hlj;have e2:decide ((j:Int)<(n:Int))=true:=Dt (by omega)
    obtain⟨m,hmj⟩:∃m,ms[j]?=some m:=⟨_,List.getElem?_eq_getElem (by have:=HN.out;omega)⟩
    obtain⟨b,o,rfl,hbs,hc⟩:=(HMS.out.below HO.out.below) j m hmj;have hm13:=HM.out m (Lm hmj);have HTH:=Lh (HO.out.there hm13);have HO3:=Lh (HO.out.set hm13);have hle:=HO.out.len;have HI3:Hid ((∀i,(H.set m true)[i]?=some true->Qn es i∨i∈ms)/\(∀i:Nat,Qn es i->(H.set m true)[i]?=some true)/\(∀i,i∈ms.take (j+1)->(H.set m true)[i]?=some true)):=by
     refine⟨fun i hi=>?_,fun i hi=>(Ww hle hm13).2 (.inr (HI.out.2.1 i hi)),fun i hi=>(Ww hle hm13).2 ?_⟩
     ·rcases (Ww hle hm13).1 hi with rfl|h
      ·exact .inr (Lm hmj)
      ·exact HI.out.1 i h
     ·obtain⟨hj2,rfl⟩:=Lg.1 hmj;rw[List.take_succ_eq_append_getElem hj2,List.mem_append,List.mem_singleton] at hi;rcases hi with hi|hi
      ·exact .inr (HI.out.2.2 i hi)
      ·exact .inl hi
    clear hmj hle HI HO;go_wp2_with (refine YM rfl 4 (.tmp 34) (.const (.bool true)) rfl (w.heap.size+1) (2+m) (.bool true) rfl rfl HTH.out.1 HTH.out.2 Tq rfl ?_)
    (try simp only[Act.put])
    go_roundw
    case rel=>exact⟨j+1,H.set m true,by omega,by go_num,HO3.out,HI3.out⟩
    case measure=>simp[intOf];omega
   have e1:decide (j<n)=false:=Df hlj;have e2:decide ((j:Int)<(n:Int))=false:=Df (by omega)
   have HQ:Hid (QJ H (fun i=>Qn es i∨i∈ms)/\∀i,(Qn es i∨i∈ms)->H[i]?=some true):=by
    have h3:=HI.out.2.2;rw[List.take_of_length_le (by have:=HN.out;omega)] at h3
    refine⟨⟨HO.out.len,fun i hi=>HI.out.1 i hi⟩,fun i hi=>hi.elim (HI.out.2.1 i) (h3 i)⟩
   have hsz:(ZA word cls H (some bm) false).size=17:=Xv HO.out.len;have HZ2:Hid ((Tryz.prog.info? 270).map (·.size)=some (ZA word cls H (some bm) false).size):=by show _=_;rw[hsz];exact To
   have HBX:Hid (Blk wr (w.heap.size+1) (ZA word cls H (some bm) false)):=⟨_,HO.out.box⟩;have HTH:Hid (wr.there w.heap.size 0 (ZA word cls H (some bm) false).size):=by
    have:=X5 HO.out.res
    show World.there _ _ _ _;rw[hsz];exact this
   have HBW:=Lh HO.out.below;obtain⟨W9,hW9⟩:∃W9,W9=wr.setCells w.heap.size 0 (ZA word cls H (some bm) false).toList:=⟨_,rfl⟩
   have HW9:=Lh hW9;have HB9:Hid (Below w.heap.size w W9):=by show Below _ _ _;rw[hW9];exact Lib.below_setCells _ (Nl _) _ _ HBW.out
   have HR9:Hid (W9.rangeAt w.heap.size 0 (ZA word cls H (some bm) false).toList):=by
    show World.rangeAt _ _ _ _;rw[hW9];exact World.rangeAt_setCells_same _ _ _ _ (by rw[Array.length_toList];exact HTH.out)
   clear hsz hW9 HI HO;go_wp2_with (first|(refine Zt rfl 270 (.tmp 9) rfl (w.heap.size+1) rfl (ZA word cls H (some bm) false) HBX.out Tryz.underlying270 rfl HZ2.out ?_)|(refine wpList_store_mid rfl 270 (.tmp 8) (.tmp 36) rfl w.heap.size 0 (ZA word cls H (some bm) false) rfl rfl HTH.out HZ2.out UV ?_;rw[<-HW9.out]))
   refine bodyPost_ret (v:=.agg (ZA word cls H (some bm) false)) ?_ rfl ?_
   ·exact ZS Tryz.f230 8 270 (ZA word cls H (some bm) false) rfl rfl HR9.out Tryz.underlying270 rfl HZ2.out
   exact⟨H,rfl,HQ.out.1,HQ.out.2,HB9.out⟩
theorem Zbu (word:List UInt8) (cls:Int) {w:World} {A:Option Addr} {ms:List Nat} {n c:Nat} (hms:Jl w A ms) (hn:ms.length=n) (hn2:n<=100) (hm:∀m∈ms,m<13) :
  Calls Tryz.prog 230 #[.string ⟨word.toArray⟩,.int .i64 cls,.map none,.slice A n c] w fun e w'=>∃H,e=.returned (.agg (ZA word cls H none false))/\QJ H (fun i=>i∈ms)/\(∀i,(fun i=>i∈ms) i->H[i]?=some true)/\Below w.heap.size w w':=by
 have HMS:=Lh hms;have HN:=Lh hn;have HM:=Lh hm;have HZ:=Lh (List.length_replicate (n:=13) (a:=false));obtain⟨h1,h2,h3,h4⟩:=Vs w (.cells #[.string ⟨#[]⟩,.int .i64 0,.bool false,.bool false,.bool false,.bool false,.bool false,.bool false,.bool false,.bool false,.bool false,.bool false,.bool false,.bool false,.bool false,.map none,.bool false] 270) (.cells #[.string ⟨word.toArray⟩,.int .i64 cls,.bool false,.bool false,.bool false,.bool false,.bool false,.bool false,.bool false,.bool false,.bool false,.bool false,.bool false,.bool false,.bool false,.map none,.bool false] 270);obtain⟨W0,hW0⟩:∃W0,W0=(w.alloc (.cells #[.string ⟨#[]⟩,.int .i64 0,.bool false,.bool false,.bool false,.bool false,.bool false,.bool false,.bool false,.bool false,.bool false,.bool false,.bool false,.bool false,.bool false,.map none,.bool false] 270)).alloc (.cells #[.string ⟨word.toArray⟩,.int .i64 cls,.bool false,.bool false,.bool false,.bool false,.bool false,.bool false,.bool false,.bool false,.bool false,.bool false,.bool false,.bool false,.bool false,.map none,.bool false] 270):=⟨_,rfl⟩
 rw[<-hW0] at h1 h2 h3 h4;have HO0:Hid (Sc w word cls none (List.replicate 13 false) W0):=⟨h3,h1,h2,rfl⟩;have HW0:=Lh hW0;have HS0:=Lh h4;have hrg:=run_range_nilMap (P:=Tryz.prog) W0 268 _ _ Tryz.underlying268;have hbI:=Zd W0 (.mapIter none 0 #[] 0);have hnx0:=fun ty=>run_next_nilMap (P:=Tryz.prog) W0 ty 0 0 #[]
 rw[h4] at hrg hbI;simp only[h4] at hnx0;have HO1:Hid (Sc w word cls none (List.replicate 13 false) (W0.alloc (.mapIter none 0 #[] 0))):=HO0.out.other hbI;rw[hW0] at hrg;have HNX:=Lh hnx0;clear hbI hnx0;clear h1 h2 h3 h4 hW0 hms hn hm;go_enter Tryz.func230,Tryz.ntmps230;go_wp2_with fail;clear hrg
 go_loopw [10] (fun _ wr=>wr=(W0.alloc (.mapIter none 0 #[] 0))) (fun _ _=>0)
 case atStart=>rw[HW0.out]
 case round=>
  subst hrel;have HO:=HO1;obtain⟨H,hH⟩:∃H,H=List.replicate 13 false:=⟨_,rfl⟩
  have HKE:Hid ((∀i,H[i]?=some true->False)/\∀i:Nat,False->H[i]?=some true):=⟨fun i hi=>(by rw[hH,List.getElem?_replicate] at hi;split at hi<;>cases hi),fun i h=>h.elim⟩
  rw[<-hH] at HO;have hnx:=HNX.out;obtain⟨wr,hwr⟩:∃wr,wr=W0.alloc (.mapIter none 0 #[] 0):=⟨_,rfl⟩
  rw[<-hwr] at hnx HO ⊢;clear HO1 HNX HW0 HS0 HO0 hH hwr HZ;go_wp2_with fail;clear hnx
  go_loopw [12,28] (fun _ iv wr=>∃(j:Nat) (H:List Bool),j<=n/\iv=.int .i64 (j:Int)/\Hid (Sc w word cls none H wr)/\Hid ((∀i,H[i]?=some true->False∨i∈ms)/\(∀i:Nat,False->H[i]?=some true)/\(∀i,i∈ms.take j->H[i]?=some true))) (fun _ iv _=>n-(intOf iv).toNat)
  case atStart=>exact⟨0,H,Nat.zero_le _,rfl,HO.out,⟨fun i hi=>.inl (HKE.out.1 i hi),HKE.out.2,fun i hi=>by simp at hi⟩⟩
  case round=>
   clear HO HKE;obtain⟨j,H,hj,rfl,HO,HI⟩:=hrel
   by_cases hlj:j<n
   ·have e1:decide (j<n)=true:=Dt hlj;have e2:decide ((j:Int)<(n:Int))=true:=Dt (by omega)
    obtain⟨m,hmj⟩:∃m,ms[j]?=some m:=⟨_,List.getElem?_eq_getElem (by have:=HN.out;omega)⟩
    obtain⟨b,o,rfl,hbs,hc⟩:=(HMS.out.below HO.out.below) j m hmj;have hm13:=HM.out m (Lm hmj);have HTH:=Lh (HO.out.there hm13);have HO3:=Lh (HO.out.set hm13);have hle:=HO.out.len;have HI3:Hid ((∀i,(H.set m true)[i]?=some true->False∨i∈ms)/\(∀i:Nat,False->(H.set m true)[i]?=some true)/\(∀i,i∈ms.take (j+1)->(H.set m true)[i]?=some true)):=by
     refine⟨fun i hi=>?_,fun i hi=>(Ww hle hm13).2 (.inr (HI.out.2.1 i hi)),fun i hi=>(Ww hle hm13).2 ?_⟩
     ·rcases (Ww hle hm13).1 hi with rfl|h
      ·exact .inr (Lm hmj)
      ·exact HI.out.1 i h
     ·obtain⟨hj2,rfl⟩:=Lg.1 hmj;rw[List.take_succ_eq_append_getElem hj2,List.mem_append,List.mem_singleton] at hi;rcases hi with hi|hi
      ·exact .inr (HI.out.2.2 i hi)
      ·exact .inl hi
    clear hmj hle HI HO;go_wp2_with (refine YM rfl 4 (.tmp 34) (.const (.bool true)) rfl (w.heap.size+1) (2+m) (.bool true) rfl rfl HTH.out.1 HTH.out.2 Tq rfl ?_)
    (try simp only[Act.put])
    go_roundw
    case rel=>exact⟨j+1,H.set m true,by omega,by go_num,HO3.out,HI3.out⟩
    case measure=>simp[intOf];omega
   have e1:decide (j<n)=false:=Df hlj;have e2:decide ((j:Int)<(n:Int))=false:=Df (by omega)
   have HQ:Hid (QJ H (fun i=>i∈ms)/\∀i,(i∈ms)->H[i]?=some true):=by
    have h3:=HI.out.2.2;rw[List.take_of_length_le (by have:=HN.out;omega)] at h3
    refine⟨⟨HO.out.len,fun i hi=>(HI.out.1 i hi).resolve_left id⟩,fun i hi=>h3 i hi⟩
   have hsz:(ZA word cls H none false).size=17:=Xv HO.out.len;have HZ2:Hid ((Tryz.prog.info? 270).map (·.size)=some (ZA word cls H none false).size):=by show _=_;rw[hsz];exact To
   have HBX:Hid (Blk wr (w.heap.size+1) (ZA word cls H none false)):=⟨_,HO.out.box⟩;have HTH:Hid (wr.there w.heap.size 0 (ZA word cls H none false).size):=by
    have:=X5 HO.out.res
    show World.there _ _ _ _;rw[hsz];exact this
   have HBW:=Lh HO.out.below;obtain⟨W9,hW9⟩:∃W9,W9=wr.setCells w.heap.size 0 (ZA word cls H none false).toList:=⟨_,rfl⟩
   have HW9:=Lh hW9;have HB9:Hid (Below w.heap.size w W9):=by show Below _ _ _;rw[hW9];exact Lib.below_setCells _ (Nl _) _ _ HBW.out
   have HR9:Hid (W9.rangeAt w.heap.size 0 (ZA word cls H none false).toList):=by
    show World.rangeAt _ _ _ _;rw[hW9];exact World.rangeAt_setCells_same _ _ _ _ (by rw[Array.length_toList];exact HTH.out)
   clear hsz hW9 HI HO;go_wp2_with (first|(refine Zt rfl 270 (.tmp 9) rfl (w.heap.size+1) rfl (ZA word cls H none false) HBX.out Tryz.underlying270 rfl HZ2.out ?_)|(refine wpList_store_mid rfl 270 (.tmp 8) (.tmp 36) rfl w.heap.size 0 (ZA word cls H none false) rfl rfl HTH.out HZ2.out UV ?_;rw[<-HW9.out]))
   refine bodyPost_ret (v:=.agg (ZA word cls H none false)) ?_ rfl ?_
   ·exact ZS Tryz.f230 8 270 (ZA word cls H none false) rfl rfl HR9.out Tryz.underlying270 rfl HZ2.out
   exact⟨H,rfl,HQ.out.1,HQ.out.2,HB9.out⟩
def YA:Nat->List (Nat×Value)->List MapEntry
 | _,[]=>[]
 | n,x::l=>{ key:=.int .i64 (x.1:Int),val:=x.2,born:=n }::YA (n+1) l
def YO (l:List (Nat×Value)):Array MapEntry:=(YA 0 l).toArray
theorem QK:∀(l:List (Nat×Value)) (x:Nat×Value) (n:Nat),YA n (l++[x])=YA n l++[{ key:=.int .i64 (x.1:Int),val:=x.2,born:=n+l.length }]
 | [],x,n=>by simp[YA]
 | y::l,x,n=>by
  rw[List.cons_append,YA,YA,QK l x (n+1),List.cons_append,List.length_cons,show n+1+l.length=n+(l.length+1) by omega]
theorem GA (l:List (Nat×Value)) (x:Nat×Value):(YO l).push { key:=.int .i64 (x.1:Int),val:=x.2,born:=l.length }=YO (l++[x]):=by
 unfold YO;rw[QK,List.push_toArray,Nat.zero_add]
theorem Xo:∀{l:List (Nat×Value)} {n:Nat} {e:MapEntry},e∈YA n l->∃x∈l,e.key=.int .i64 (x.1:Int)/\n<=e.born/\e.born<n+l.length
 | [],_,_,h=>by cases h
 | y::l,n,e,h=>by
  rcases List.mem_cons.1 h with rfl|h
  ·exact⟨y,List.mem_cons_self,rfl,Nl _,by simp⟩
  ·obtain⟨x,h1,h2,h3,h4⟩:=Xo h;exact⟨x,List.mem_cons_of_mem _ h1,h2,by omega,by rw[List.length_cons];omega⟩
theorem VG:∀{l:List (Nat×Value)} {n:Nat} {x:Nat×Value},x∈l->∃e∈YA n l,e.key=.int .i64 (x.1:Int)
 | y::l,n,x,h=>by
  rcases List.mem_cons.1 h with rfl|h
  ·exact⟨_,List.mem_cons_self,rfl⟩
  ·obtain⟨e,h1,h2⟩:=VG (n:=n+1) h;exact⟨e,List.mem_cons_of_mem _ h1,h2⟩
theorem It {a b:Nat} (h:(Value.int .i64 (a:Int))=.int .i64 (b:Int)):a=b:=by injection h with _ h;omega
theorem Iu {l:List (Nat×Value)} {i:Nat}:Qn (YO l) i↔i∈l.map (·.1):=by
 constructor
 ·rintro⟨e,he,hk⟩;obtain⟨x,hx,h2,-⟩:=Xo he;rw[h2] at hk;rw[<-It hk];exact List.mem_map.2 ⟨x,hx,rfl⟩
 ·intro h;obtain⟨x,hx,rfl⟩:=List.mem_map.1 h;exact VG hx
theorem SN:∀(l:List (Nat×Value)) (n:Nat),(l.map (·.1)).Nodup->((YA n l).map (·.born)).Nodup/\((YA n l).map (·.key)).Nodup
 | [],_,_=>by simp[YA]
 | x::l,n,h=>by
  rw[List.map_cons,List.nodup_cons] at h;obtain⟨h1,h2⟩:=SN l (n+1) h.2;constructor
  ·rw[YA,List.map_cons,List.nodup_cons];refine⟨fun hm=>?_,h1⟩
   obtain⟨e,he,hb⟩:=List.mem_map.1 hm;obtain⟨-,-,-,h3,-⟩:=Xo he;have hb:e.born=n:=hb;omega
  ·rw[YA,List.map_cons,List.nodup_cons];refine⟨fun hm=>?_,h2⟩
   obtain⟨e,he,hb⟩:=List.mem_map.1 hm;obtain⟨y,hy,h3,-⟩:=Xo he;have hb:e.key=.int .i64 (x.1:Int):=hb;rw[h3] at hb;exact h.1 (by rw[<-It hb];exact List.mem_map.2 ⟨y,hy,rfl⟩)
theorem Se {l:List (Nat×Value)} (h:(l.map (·.1)).Nodup):MapKept.Stamped (YO l) l.length:=by
 obtain⟨h1,h2⟩:=SN l 0 h;refine⟨fun e he=>?_,h1,h2⟩
 obtain⟨-,-,-,-,h4⟩:=Xo he;omega
theorem Nj {kd:IntKind}:∀(l:List (Nat×Value)) (n i:Nat) (k:Nat),i∉l.map (·.1)->Instr.findNow (.int kd) (.int .i64 (i:Int)) (YA n l) k=some none
 | [],_,_,_,_=>rfl
 | x::l,n,i,k,h=>by
  rw[List.map_cons,List.mem_cons,not_or] at h;rw[YA,Instr.findNow];have e1:Instr.sameNow (.int kd) (.int .i64 (i:Int)) (.int .i64 (x.1:Int))=some false:=by
   simp only[Instr.sameNow,if_true]
   have:((i:Int)==(x.1:Int))=false:=by rw[Bn];exact fun e=>h.1 (by omega)
   rw[this]
  rw[e1];exact Nj l (n+1) i (k+1) h.2
theorem SO {kd:IntKind}:∀(l:List (Nat×Value)) (n i:Nat) (u:Value) (k:Nat),(l.map (·.1)).Nodup->(i,u)∈l->∃j,Instr.findNow (.int kd) (.int .i64 (i:Int)) (YA n l) k=some (some (j,u))
 | x::l,n,i,u,k,hn,h=>by
  rw[List.map_cons,List.nodup_cons] at hn;rw[YA,Instr.findNow]
  by_cases hx:i=x.1
  ·have e1:Instr.sameNow (.int kd) (.int .i64 (i:Int)) (.int .i64 (x.1:Int))=some true:=by
    simp only[Instr.sameNow,if_true];rw[hx];simp
   rw[e1];rcases List.mem_cons.1 h with rfl|h
   ·exact⟨_,rfl⟩
   ·exact absurd (List.mem_map.2 ⟨_,h,hx⟩) hn.1
  ·have e1:Instr.sameNow (.int kd) (.int .i64 (i:Int)) (.int .i64 (x.1:Int))=some false:=by
    simp only[Instr.sameNow,if_true]
    have:((i:Int)==(x.1:Int))=false:=by rw[Bn];exact fun e=>hx (by omega)
    rw[this]
   rw[e1];rcases List.mem_cons.1 h with rfl|h
   ·exact absurd rfl hx
   ·exact SO l (n+1) i u (k+1) hn.2 h
structure Ux (w:World) (r:Nat) (u:Value) (p q:Bool):Prop where
 is:∃b1 b2,u=.func (.func 286) #[] #[.pointer (some ⟨b1,0,none⟩),.pointer (some ⟨b2,0,none⟩)]/\Blk w b1 #[.bool p]/\Blk w b2 #[.bool q]/\b1≠r/\b2≠r
theorem Blk.keepR {w w':World} {r b:Nat} {cs:Array Value} (h:Blk w b cs) (hb:Zr (fun k=>k=r) w w') (hn:b≠r):Blk w' b cs:=by
 obtain⟨t,h⟩:=h;exact⟨t,(hb.block _ (Ag.1 h).1 hn).trans h⟩
theorem Ux.keep {w w':World} {r:Nat} {u:Value} {p q:Bool} (h:Ux w r u p q) (hb:Zr (fun k=>k=r) w w'):Ux w' r u p q:=by
 obtain⟨b1,b2,e,h1,h2,n1,n2⟩:=h.is;exact⟨b1,b2,e,h1.keepR hb n1,h2.keepR hb n2,n1,n2⟩
structure ZaS (w:World) (r:Nat) (M:Option Nat) (nums:List (Nat×Bool×Bool)):Prop where
 is:∀i p q,(i,p,q)∈nums->∃bm es clock j u,M=some bm/\w.heap[bm]?=some (.map es clock)/\bm≠r/\Instr.findNow (.int .i64) (.int .i64 (i:Int)) es.toList 0=some (some (j,u))/\Ux w r u p q
structure KOk (w:World) (r:Nat) (v:Value) (nums:List (Nat×Bool×Bool)) (more:List Nat):Prop where
 is:∃word cls H M code,v=.agg (ZA word cls H M code)/\QJ H (fun i=>i∈nums.map (·.1)∨i∈more)/\(∀i,(i∈nums.map (·.1)∨i∈more)->H[i]?=some true)/\ZaS w r M nums
theorem CH {w:World} {r bm:Nat} {l:List (Nat×Value)} {nums:List (Nat×Bool×Bool)} (hb:w.heap[bm]?=some (.map (YO l) l.length)) (hr:bm≠r) (hn:(l.map (·.1)).Nodup) (h:∀i p q,(i,p,q)∈nums->∃u,(i,u)∈l/\Ux w r u p q):ZaS w r (some bm) nums:=⟨fun i p q hm=>by
 obtain⟨u,h1,h2⟩:=h i p q hm;obtain⟨j,h3⟩:=SO (kd:=.i64) l 0 i u 0 hn h1
 exact⟨bm,_,_,j,u,rfl,hb,hr,h3,h2⟩⟩
section
variable {P:Program} {ops:Array Oper} {rest:List Oper} {o:Oper} {a:Act} {Q:Exit->Act->World->Prop} {mty kt et:TypeId}
theorem XJ {w:World} (l:List (Nat×Value)) (i:Nat) (val:Value) (hg:o.guard=none) (m x v:Operand) (hop:o.op=Op.insert mty m x v) (hm:P.underlying mty=some (.map kt et)) (hk:P.underlying kt=some (.int .i64))
  (hmv:a.eval m=.map (some w.heap.size)) (hx:a.eval x=.int .i64 (i:Int)) (hv:a.eval v=val) (hf:i∉l.map (·.1))
  (hK:wpList P ops Q rest (a.put o.dst undef) (w.alloc (.map (YO (l++[(i,val)])) (l++[(i,val)]).length))):wpList P ops Q (o::rest) a (w.alloc (.map (YO l) l.length)):=by
 refine wpList_plain hg fun K' hK'=>?_
 have hrun:=UP (P:=P) (w:=w.alloc (.map (YO l) l.length)) (mty:=mty) (key:=.int .i64 (i:Int)) (val:=val) hm hk rfl (ZF w (.map (YO l) l.length)) (Nj l 0 i 0 hf);have e:({ w.alloc (.map (YO l) l.length) with heap:=(w.alloc (.map (YO l) l.length)).heap.setIfInBounds w.heap.size (.map ((YO l).push { key:=.int .i64 (i:Int),val,born:=l.length }) (l.length+1)) }:World)=w.alloc (.map (YO (l++[(i,val)])) (l++[(i,val)]).length):=by
  rw[GA l (i,val),List.length_append,List.length_singleton];have e2:∀(h:Array Obj) (x y:Obj),(h.push x).setIfInBounds h.size y=h.push y:=fun h x y=>by apply Array.toList_inj.1;simp
  simp[World.alloc,-World.alloc_eq,e2]
 rw[e] at hrun;unfold Oper.wp;simp[execOp,hop,hmv,hx,hv,hrun,Result.andThen];exact hK' _ _ (by simpa using hK)
end
theorem Zac {w:World} {word:List UInt8} {cls:Int} {H:List Bool} {M:Option Nat} {code:Bool} (h1:H.length=13) :
  Calls Tryz.prog 232 #[.agg (ZA word cls H M code)] w fun e w'=>e=.returned (.agg (ZA word cls H M true))/\Below w.heap.size w w':=by
 have hs2:=Xv (word:=word) (cls:=cls) (M:=M) (code:=true) h1;have hset:(ZA word cls H M code).setIfInBounds 16 (.bool true)=ZA word cls H M true:=by
  unfold ZA;rw[List.setIfInBounds_toArray,List.set_cons_succ,List.set_cons_succ,List.set_append_right _ _ (by rw[List.length_map,h1];decide),List.length_map,h1]
  rfl
 have hs:=Xv (word:=word) (cls:=cls) (M:=M) (code:=code) h1;obtain⟨g1,g2,g3,-⟩:=Vs w (.cells (ZA word cls H M code) 270) (.cells #[.string ⟨#[]⟩,.int .i64 0,.bool false,.bool false,.bool false,.bool false,.bool false,.bool false,.bool false,.bool false,.bool false,.bool false,.bool false,.bool false,.bool false,.map none,.bool false] 270);obtain⟨W1,hW1⟩:∃W1,W1=((w.alloc (.cells (ZA word cls H M code) 270)).alloc (.cells #[.string ⟨#[]⟩,.int .i64 0,.bool false,.bool false,.bool false,.bool false,.bool false,.bool false,.bool false,.bool false,.bool false,.bool false,.bool false,.bool false,.bool false,.map none,.bool false] 270)).setCell ⟨w.heap.size,16,none⟩ (.bool true):=⟨_,rfl⟩
 have k1:W1.heap[w.heap.size]?=some (.cells (ZA word cls H M true) 270 (0,0)):=by
  rw[hW1,<-hset];exact Go.Proofs.YtpieeldbamklkaaGreatDoor.hset (o:=16) (.bool true) g1
 have k2:W1.heap[w.heap.size+1]?=some (.cells #[.string ⟨#[]⟩,.int .i64 0,.bool false,.bool false,.bool false,.bool false,.bool false,.bool false,.bool false,.bool false,.bool false,.bool false,.bool false,.bool false,.bool false,.map none,.bool false] 270 (0,0)):=by rw[hW1];exact hoth g2 (by omega)
 have k3:Below w.heap.size w W1:=by rw[hW1];exact Uw g3 (Nl _) _ _
 have HC:Hid ((((w.alloc (.cells (ZA word cls H M code) 270)).alloc (.cells #[.string ⟨#[]⟩,.int .i64 0,.bool false,.bool false,.bool false,.bool false,.bool false,.bool false,.bool false,.bool false,.bool false,.bool false,.bool false,.bool false,.bool false,.map none,.bool false] 270)).cell? ⟨w.heap.size,16,none⟩).isSome=true):=by show _=_;rw[Zh g1,Array.getElem?_eq_getElem (by rw[hs];decide)];rfl
 have HF:Hid (((w.alloc (.cells (ZA word cls H M code) 270)).alloc (.cells #[.string ⟨#[]⟩,.int .i64 0,.bool false,.bool false,.bool false,.bool false,.bool false,.bool false,.bool false,.bool false,.bool false,.bool false,.bool false,.bool false,.bool false,.map none,.bool false] 270)).frozen? ⟨w.heap.size,16,none⟩=false):=Zq g1 _;have HBX:Hid (Blk W1 w.heap.size (ZA word cls H M true)):=⟨_,k1⟩;have HZ2:Hid ((Tryz.prog.info? 270).map (·.size)=some (ZA word cls H M true).size):=by show _=_;rw[hs2];exact To
 have HTH:Hid (W1.there (w.heap.size+1) 0 (ZA word cls H M true).size):=by
  have:=X5 k2
  show World.there _ _ _ _;rw[hs2];exact this
 obtain⟨W9,hW9⟩:∃W9,W9=W1.setCells (w.heap.size+1) 0 (ZA word cls H M true).toList:=⟨_,rfl⟩
 have HW9:=Lh hW9;have HB9:Hid (Below w.heap.size w W9):=by show Below _ _ _;rw[hW9];exact Lib.below_setCells _ (by omega) _ _ k3
 have HR9:Hid (W9.rangeAt (w.heap.size+1) 0 (ZA word cls H M true).toList):=by
  show World.rangeAt _ _ _ _;rw[hW9];exact World.rangeAt_setCells_same _ _ _ _ (by rw[Array.length_toList];exact HTH.out)
 have HW1:=Lh hW1;clear hW9 hW1 k1 k2 k3 g1 g2 g3 hs hs2 hset h1;go_enter Tryz.func232,Tryz.ntmps232;go_wp2_with (first|(refine YM rfl 4 (.tmp 3) (.const (.bool true)) rfl w.heap.size 16 (.bool true) rfl rfl HC.out HF.out Tq rfl ?_;rw[<-HW1.out])|(refine Zt rfl 270 (.tmp 1) rfl w.heap.size rfl (ZA word cls H M true) HBX.out Tryz.underlying270 rfl HZ2.out ?_)|(refine wpList_store_mid rfl 270 (.tmp 2) (.tmp 4) rfl (w.heap.size+1) 0 (ZA word cls H M true) rfl rfl HTH.out HZ2.out UV ?_;rw[<-HW9.out]))
 refine bodyPost_ret (v:=.agg (ZA word cls H M true)) ?_ rfl ?_
 ·exact ZS Tryz.f232 2 270 (ZA word cls H M true) rfl rfl HR9.out Tryz.underlying270 rfl HZ2.out
 exact⟨rfl,HB9.out⟩
theorem Pb {w:World} {b:Nat} {ms:List Nat} (h:Blk w b (ms.map (fun (m:Nat)=>Value.int .i64 (m:Int))).toArray):Jl w (some ⟨b,0,none⟩) ms:=fun i m hm=>by
 refine⟨b,0,rfl,h.ltB,?_⟩;rw[Nat.zero_add,h.c i,List.getElem?_toArray,List.getElem?_map,hm];rfl
theorem Zbv (word:List UInt8) {w:World} {r bo bp:Nat} {vp:Value} (hr:r<w.heap.size) (h1:Blk w bo #[.func (.func 230) #[] #[]]) (h2:Blk w bp #[vp]) (hL:Ux w r vp true false) :
  Calls Tryz.prog 231 #[.string ⟨word.toArray⟩,.pointer (some ⟨bo,0,none⟩),.pointer (some ⟨bp,0,none⟩)] w fun e w'=>∃v,e=.returned v/\KOk w' r v [(5,true,false)] [2]/\Below w.heap.size w w'/\∃H bm,v=.agg (ZA word 2 H (some bm) false)/\QJ H (fun i=>i=5∨i=2)/\w'.heap[bm]?=some (.map (YO [(5,vp)]) 1):=by
 obtain⟨g1,g2,g3,g4⟩:=Vs w (.cells #[.string ⟨#[]⟩,.int .i64 0,.bool false,.bool false,.bool false,.bool false,.bool false,.bool false,.bool false,.bool false,.bool false,.bool false,.bool false,.bool false,.bool false,.map none,.bool false] 270) (.map (YO []) 0);have q1:(w.alloc (.cells #[.string ⟨#[]⟩,.int .i64 0,.bool false,.bool false,.bool false,.bool false,.bool false,.bool false,.bool false,.bool false,.bool false,.bool false,.bool false,.bool false,.bool false,.map none,.bool false] 270)).cell? ⟨bo,0,none⟩=some (.func (.func 230) #[] #[]):=(h1.below (Zd _ _)).c 0;have q2:((w.alloc (.cells #[.string ⟨#[]⟩,.int .i64 0,.bool false,.bool false,.bool false,.bool false,.bool false,.bool false,.bool false,.bool false,.bool false,.bool false,.bool false,.bool false,.bool false,.map none,.bool false] 270)).alloc (.map (YO []) 0)).cell? ⟨bp,0,none⟩=some vp:=(h2.below g3).c 0;clear g1 g2 g3 g4;obtain⟨g1,g2,g3,g4⟩:=Vs w (.cells #[.string ⟨#[]⟩,.int .i64 0,.bool false,.bool false,.bool false,.bool false,.bool false,.bool false,.bool false,.bool false,.bool false,.bool false,.bool false,.bool false,.bool false,.map none,.bool false] 270) (.map (YO [(5,vp)]) 1);have g5:=Zd ((w.alloc (.cells #[.string ⟨#[]⟩,.int .i64 0,.bool false,.bool false,.bool false,.bool false,.bool false,.bool false,.bool false,.bool false,.bool false,.bool false,.bool false,.bool false,.bool false,.map none,.bool false] 270)).alloc (.map (YO [(5,vp)]) 1)) (.cells #[.int .i64 2] 3);have g6:=ZF ((w.alloc (.cells #[.string ⟨#[]⟩,.int .i64 0,.bool false,.bool false,.bool false,.bool false,.bool false,.bool false,.bool false,.bool false,.bool false,.bool false,.bool false,.bool false,.bool false,.map none,.bool false] 270)).alloc (.map (YO [(5,vp)]) 1)) (.cells #[.int .i64 2] 3);rw[g4] at g6;obtain⟨W2,hW2⟩:∃W2,W2=((w.alloc (.cells #[.string ⟨#[]⟩,.int .i64 0,.bool false,.bool false,.bool false,.bool false,.bool false,.bool false,.bool false,.bool false,.bool false,.bool false,.bool false,.bool false,.bool false,.map none,.bool false] 270)).alloc (.map (YO [(5,vp)]) 1)).alloc (.cells #[.int .i64 2] 3):=⟨_,rfl⟩
 rw[<-hW2] at g5 g6;have hb:=bto g3 g5;have k1:=Zw g1 g5;have k2:=Zw g2 g5;have hms:Jl W2 (some ⟨w.heap.size+2,0,none⟩) [2]:=Pb ⟨_,g6⟩
 have C1:=Zab (A:=some ⟨w.heap.size+2,0,none⟩) (ms:=[2]) (n:=1) (c:=1) word 2 k2 (Se (l:=[(5,vp)]) (by simp)) (fun e he=>⟨5,by
  obtain⟨x,hx,h2,-⟩:=Xo he;rw[List.mem_singleton] at hx
  rw[h2,hx],by decide⟩) hms rfl (by decide) (by simp)
 simp only[Iu] at C1;have HK2:=Lh k2;have HL:=Lh hL;have HR:=Lh hr;have HK1:=Lh k1;have HB:=Lh hb;rw[hW2] at C1;have HC:=Lh C1;have HW2:=Lh hW2;have hmk:=fun (w:World)=>show (Instr.makeMap 268 none).run Tryz.prog w=.ok (.map (some w.heap.size)) (w.alloc (.map (YO []) 0)) from run_makeMap (P:=Tryz.prog) 268 w
 clear C1 hW2 k1 k2 hb g1 g2 g3 g4 g5 g6 hms h1 h2 hL hr;go_enter Tryz.func231,Tryz.ntmps231;go_wp2_with (refine XJ [] 5 vp rfl (.tmp 7) (.const (.int .i64 5)) (.tmp 8) rfl Tryz.underlying268 Tryz.underlying3 (by rw[World.size_alloc];rfl) rfl rfl (by simp) ?_)
 refine HC.out.mono ?_;rintro e w3 ⟨H,rfl,j1,j2,hb3⟩;rw[<-HW2.out] at hb3;have hs2:=Xv (word:=word) (cls:=2) (M:=some (w.heap.size+1)) (code:=false) j1.1;have k1:=Zw HK1.out hb3;have k2:=Zw HK2.out hb3;have hb4:=bto HB.out hb3;have HZ2:Hid ((Tryz.prog.info? 270).map (·.size)=some (ZA word 2 H (some (w.heap.size+1)) false).size):=by show _=_;rw[hs2];exact To
 have HTH:Hid (w3.there w.heap.size 0 (ZA word 2 H (some (w.heap.size+1)) false).size):=by
  have:=X5 k1
  show World.there _ _ _ _;rw[hs2];exact this
 obtain⟨W9,hW9⟩:∃W9,W9=w3.setCells w.heap.size 0 (ZA word 2 H (some (w.heap.size+1)) false).toList:=⟨_,rfl⟩
 have HW9:=Lh hW9;have HB9:Hid (Below w.heap.size w W9):=by show Below _ _ _;rw[hW9];exact Lib.below_setCells _ (Nl _) _ _ hb4
 have HR9:Hid (W9.rangeAt w.heap.size 0 (ZA word 2 H (some (w.heap.size+1)) false).toList):=by
  show World.rangeAt _ _ _ _;rw[hW9];exact World.rangeAt_setCells_same _ _ _ _ (by rw[Array.length_toList];exact HTH.out)
 have k9:W9.heap[w.heap.size+1]?=some (.map (YO [(5,vp)]) 1):=by
  have hX:=ZR (X:=fun k=>k=w.heap.size) (g:=w.heap.size) rfl (ZA word 2 H (some (w.heap.size+1)) false).toList 0 w3
  rw[hW9];exact (hX.block _ (Ag.1 k2).1 (by omega)).trans k2
 have HEND:Hid (KOk W9 r (.agg (ZA word 2 H (some (w.heap.size+1)) false)) [(5,true,false)] [2]):=⟨word,2,H,_,false,rfl,j1,j2,CH (l:=[(5,vp)]) k9 (by have:=HR.out;omega) (by simp) (fun i p q hm=>by
  simp only[List.mem_singleton,Prod.mk.injEq] at hm;obtain⟨rfl,rfl,rfl⟩:=hm
  exact⟨vp,by simp,HL.out.keep (Zr.of_below HB9.out)⟩)⟩
 have HX:Hid (QJ H (fun i=>i=5∨i=2)/\W9.heap[w.heap.size+1]?=some (.map (YO [(5,vp)]) 1)):=⟨⟨j1.1,fun i hi=>by simpa using j1.2 i hi⟩,k9⟩
 clear hW9 k1 k2 k9 hb3 hb4 hs2 j1 j2 hmk q1 q2;go_wp2_with (refine wpList_store_mid rfl 270 (.tmp 4) (.tmp 11) rfl w.heap.size 0 (ZA word 2 H (some (w.heap.size+1)) false) rfl rfl HTH.out HZ2.out UV ?_;rw[<-HW9.out]);refine bodyPost_ret (v:=.agg (ZA word 2 H (some (w.heap.size+1)) false)) ?_ rfl ?_
 ·exact ZS Tryz.f231 4 270 (ZA word 2 H (some (w.heap.size+1)) false) rfl rfl HR9.out Tryz.underlying270 rfl HZ2.out
 exact⟨_,rfl,HEND.out,HB9.out,_,_,rfl,HX.out.1,HX.out.2⟩
end Go.Proofs.YtpieeldbamklkaaGreatDoor
