/- Texts put together: Kd Kf Kg Kh Bv Kj. -/
import Derived.Test.YtpieeldbamklkaaGreatDoorV11
import Derived.Maps.RangeRun
set_option maxHeartbeats 4000000
set_option maxRecDepth 100000
open Go.Proofs.Tryz
namespace Go.Proofs.YtpieeldbamklkaaGreatDoor
open Go.RowKit Go.Shelf Num
theorem Wr {e:Operand->Value} {o:Oper} {w:World} (x y:Operand) (ho:o.op=.binOp .neq 34 x y 34) (l l':List UInt8) (hx:e x=.agg #[Zg l,Zg l']) (hy:e y=.agg #[Zj,Zj]) :
  (execOp e o).run prog w=.ok (.value (.bool (!(l.isEmpty&&l'.isEmpty)))) w:=by
 unfold execOp;simp only[ho,hx,hy];go_simp
 by_cases h1:l=[]
 ·by_cases h2:l'=[]
  ·simp[h1,h2]
  ·simp[h1,h2]
 ·simp[h1]
structure Opn where
 oth:List UInt8
 rn:List UInt8
 rd:List UInt8
 pn:List UInt8
 pd:List UInt8
 vn:List UInt8
 vd:List UInt8
structure ZbX (w:World) (b o:Nat) (x:Opn):Prop where
 c0:w.cell? ⟨b,o,none⟩=some (Zg x.oth)
 c1:w.cell? ⟨b,o+1,none⟩=some (Zg x.rn)
 c2:w.cell? ⟨b,o+2,none⟩=some (Zg x.rd)
 c3:w.cell? ⟨b,o+3,none⟩=some (Zg x.pn)
 c4:w.cell? ⟨b,o+4,none⟩=some (Zg x.pd)
 c5:w.cell? ⟨b,o+5,none⟩=some (Zg x.vn)
 c6:w.cell? ⟨b,o+6,none⟩=some (Zg x.vd)
def Qa (w:World) (A:Option Addr) (os:List Opn):Prop:=∀(i:Nat) (r:Opn),os[i]?=some r->∃b o,A=some ⟨b,o,none⟩/\b<w.heap.size/\ZbX w b (o+i*7) r
theorem Qa.below {w w':World} {A:Option Addr} {os:List Opn} (h:Qa w A os) (hb:Below w.heap.size w w'):Qa w' A os:=fun i r hr=>by
 obtain⟨b,o,e,hlt,hc⟩:=h i r hr;have hk:∀j,w'.cell? ⟨b,j,none⟩=w.cell? ⟨b,j,none⟩:=fun j=>World.cell?_of_block (hb.block _ hlt)
 exact⟨b,o,e,Nat.lt_of_lt_of_le hlt hb.size,(hk _).trans hc.c0,(hk _).trans hc.c1,(hk _).trans hc.c2,(hk _).trans hc.c3,(hk _).trans hc.c4,(hk _).trans hc.c5,(hk _).trans hc.c6⟩
def Zax (x:Opn):Prop:=x.oth.length<=1000/\x.rn.length<=1000/\x.rd.length<=1000/\x.pn.length<=1000/\x.pd.length<=1000/\x.vn.length<=1000/\x.vd.length<=1000
def opF (x:Opn):List (List UInt8×List UInt8):=[(x.rn,x.rd),(x.pn,x.pd),(x.vn,x.vd)]
theorem Kv {x:Opn} {w:World} {b:Nat} (h:Blk w b #[Zg x.rn,Zg x.rd,Zg x.pn,Zg x.pd,Zg x.vn,Zg x.vd]) {i:Nat} {p:List UInt8×List UInt8} (hp:(opF x)[i]?=some p):w.cell? ⟨b,i*2,none⟩=some (.string ⟨List.toArray p.1⟩)/\w.cell? ⟨b,i*2+1,none⟩=some (.string ⟨List.toArray p.2⟩):=by
 have hi:i<3:=(Lg.1 hp).1
 match i,hi with
 | 0,_=>cases hp;exact⟨h.c 0,h.c 1⟩
 | 1,_=>cases hp;exact⟨h.c 2,h.c 3⟩
 | 2,_=>cases hp;exact⟨h.c 4,h.c 5⟩
theorem Ho {x:Opn} (h:Zax x) {i:Nat} {p:List UInt8×List UInt8} (hp:(opF x)[i]?=some p):p.1.length<=1000/\p.2.length<=1000:=by
 obtain⟨-,h1,h2,h3,h4,h5,h6⟩:=h;have hi:i<3:=(Lg.1 hp).1
 match i,hi with
 | 0,_=>cases hp;exact⟨h1,h2⟩
 | 1,_=>cases hp;exact⟨h3,h4⟩
 | 2,_=>cases hp;exact⟨h5,h6⟩
theorem Cx {f:Fct} {os:List Opn} {w:World} (hG:GE w) (hp:Qa w f.oA os) (hn:os.length=f.oN) (hps:∀p∈os,Zax p) :
  Calls prog 236 #[.agg (Zq f)] w fun e w'=>(∃E:Int,e=.returned (Zi E))/\Below w.heap.size w w':=by
 have hb0:=Zh w (.cells (Zq f) 48);have x0:Blk (w.alloc (.cells (Zq f) 48)) w.heap.size (Zq f):=Blk.new w _ 48;have q19:(w.alloc (.cells (Zq f) 48)).cell? ⟨w.heap.size,19,none⟩=some (.slice f.oA f.oN f.oC):=x0.c 19;obtain⟨n,hN⟩:∃n,n=f.oN:=⟨_,rfl⟩
 obtain⟨A,hAA⟩:∃A,A=f.oA:=⟨_,rfl⟩
 rw[<-hN] at hn q19;rw[<-hAA] at hp q19;have HPS:=Lh hps;have HN:=Lh hn;have HP:=Lh hp;clear hps hp hAA
 by_cases hz:n=0
 ·have e1:(n==0)=true:=by rw[beq_iff_eq];exact hz
  have e2:((n:Int)==0)=true:=by rw[beq_iff_eq];omega
  clear hn hN;go_enter func236,ntmps236;go_wp2;go_ret;exact⟨⟨_,rfl⟩,hb0⟩
 have z1:(n==0)=false:=by rw[Bn];exact hz
 have z2:((n:Int)==0)=false:=by rw[Bn];omega
 by_cases h64:8<n
 ·have e1:decide (8<n)=true:=Dt h64;have e2:decide (8<(n:Int))=true:=Dt (by omega)
  clear hn hN;go_enter func236,ntmps236;go_wp2;go_ret;exact⟨⟨_,rfl⟩,hb0⟩
 have e1:decide (8<n)=false:=Df h64;have e2:decide (8<(n:Int))=false:=Df (by omega)
 have HX0:=Lh x0;clear hn x0 hN;go_enter func236,ntmps236;go_wp2_with fail
 go_loopw [4,6,7,19,45] (fun _ _ _ iv _ wr=>∃(k:Nat),k<=n/\iv=Zi (k:Int)/\Hid (Below w.heap.size w wr)/\Hid (Blk wr w.heap.size (Zq f))) (fun _ _ _ iv _ _=>n-(intOf iv).toNat)
 case atStart=>exact⟨0,Nat.zero_le _,rfl,hb0,HX0.out⟩
 case round=>
  clear hb0 HX0 q19;obtain⟨k,hk,rfl,HB,HF⟩:=hrel
  by_cases hlk:k<n
  rotate_left
  ·have e3:decide (k<n)=false:=Df hlk;have e4:decide ((k:Int)<(n:Int))=false:=Df (by omega)
   have hbq:=HB.out;go_wp2;go_ret;exact⟨⟨_,rfl⟩,hbq⟩
  have e3:decide (k<n)=true:=Dt hlk;have e4:decide ((k:Int)<(n:Int))=true:=Dt (by omega)
  obtain⟨x,hx⟩:∃x,os[k]?=some x:=⟨_,List.getElem?_eq_getElem (by have:=HN.out;omega)⟩
  obtain⟨b,o,rfl,hbs,hcs⟩:=(HP.out.below HB.out) k x hx;have p0:=hcs.c0;have p1:=hcs.c1;have p2:=hcs.c2;have p3:=hcs.c3;have p4:=hcs.c4;have p5:=hcs.c5;have p6:=hcs.c6;have hxs:=HPS.out x (Lm hx);have hxo:=hxs.1;have HXS:=Lh hxs;have hbA:=Zh wr (.cells #[Zg x.oth,Zg x.rn,Zg x.rd,Zg x.pn,Zg x.pd,Zg x.vn,Zg x.vd] 197);have y1:Blk (wr.alloc (.cells #[Zg x.oth,Zg x.rn,Zg x.rd,Zg x.pn,Zg x.pd,Zg x.vn,Zg x.vd] 197)) wr.heap.size #[Zg x.oth,Zg x.rn,Zg x.rd,Zg x.pn,Zg x.pd,Zg x.vn,Zg x.vd]:=Blk.new wr _ 197;have C1:=Lh ((TH (l:=x.oth) (by omega)).e)
  have HBA:=Lh (bto HB.out hbA);have HFA:=Lh (HF.out.below hbA);have Y1:=Lh y1;clear hx hxs hxo HB HF hcs;have q0:(wr.alloc (.cells #[Zg x.oth,Zg x.rn,Zg x.rd,Zg x.pn,Zg x.pd,Zg x.vn,Zg x.vd] 197)).cell? ⟨wr.heap.size,0,none⟩=some (Zg x.oth):=y1.c 0;clear y1 hbA
  by_cases ho:x.oth=[]
  ·have o1:x.oth.isEmpty=true:=by rw[ho];rfl
   have Y2:=Y1;have HF2:=HFA;have HB2:=HBA;clear Y1 HFA HBA C1 q0 ho;have q0:(wr.alloc (.cells #[Zg x.oth,Zg x.rn,Zg x.rd,Zg x.pn,Zg x.pd,Zg x.vn,Zg x.vd] 197)).cell? ⟨wr.heap.size,0,none⟩=some (Zg x.oth):=Y2.out.c 0;have q5:(wr.alloc (.cells #[Zg x.oth,Zg x.rn,Zg x.rd,Zg x.pn,Zg x.pd,Zg x.vn,Zg x.vd] 197)).cell? ⟨w.heap.size,5,none⟩=some (Zg f.ins):=HF2.out.c 5
   by_cases hi:x.oth=f.ins
   ·have e5:(x.oth==f.ins)=true:=by rw[beq_iff_eq];exact hi
    have hbq:=HB2.out;clear hi;go_wp2;go_ret;exact⟨⟨_,rfl⟩,hbq⟩
   have e5:(x.oth==f.ins)=false:=by rw[Bn];exact hi
   have q1:(wr.alloc (.cells #[Zg x.oth,Zg x.rn,Zg x.rd,Zg x.pn,Zg x.pd,Zg x.vn,Zg x.vd] 197)).cell? ⟨wr.heap.size,1,none⟩=some (Zg x.rn):=Y2.out.c 1;have q2:(wr.alloc (.cells #[Zg x.oth,Zg x.rn,Zg x.rd,Zg x.pn,Zg x.pd,Zg x.vn,Zg x.vd] 197)).cell? ⟨wr.heap.size,2,none⟩=some (Zg x.rd):=Y2.out.c 2;have q3:(wr.alloc (.cells #[Zg x.oth,Zg x.rn,Zg x.rd,Zg x.pn,Zg x.pd,Zg x.vn,Zg x.vd] 197)).cell? ⟨wr.heap.size,3,none⟩=some (Zg x.pn):=Y2.out.c 3;have q4:(wr.alloc (.cells #[Zg x.oth,Zg x.rn,Zg x.rd,Zg x.pn,Zg x.pd,Zg x.vn,Zg x.vd] 197)).cell? ⟨wr.heap.size,4,none⟩=some (Zg x.pd):=Y2.out.c 4;have q6:(wr.alloc (.cells #[Zg x.oth,Zg x.rn,Zg x.rd,Zg x.pn,Zg x.pd,Zg x.vn,Zg x.vd] 197)).cell? ⟨wr.heap.size,5,none⟩=some (Zg x.vn):=Y2.out.c 5;have q7:(wr.alloc (.cells #[Zg x.oth,Zg x.rn,Zg x.rd,Zg x.pn,Zg x.pd,Zg x.vn,Zg x.vd] 197)).cell? ⟨wr.heap.size,6,none⟩=some (Zg x.vd):=Y2.out.c 6;have hbS:=Zh (wr.alloc (.cells #[Zg x.oth,Zg x.rn,Zg x.rd,Zg x.pn,Zg x.pd,Zg x.vn,Zg x.vd] 197)) (.cells #[Zg x.rn,Zg x.rd,Zg x.pn,Zg x.pd,Zg x.vn,Zg x.vd] 34);have z1:Blk ((wr.alloc (.cells #[Zg x.oth,Zg x.rn,Zg x.rd,Zg x.pn,Zg x.pd,Zg x.vn,Zg x.vd] 197)).alloc (.cells #[Zg x.rn,Zg x.rd,Zg x.pn,Zg x.pd,Zg x.vn,Zg x.vd] 34)) (wr.heap.size+1) #[Zg x.rn,Zg x.rd,Zg x.pn,Zg x.pd,Zg x.vn,Zg x.vd]:=by have h:=Blk.new (wr.alloc (.cells #[Zg x.oth,Zg x.rn,Zg x.rd,Zg x.pn,Zg x.pd,Zg x.vn,Zg x.vd] 197)) #[Zg x.rn,Zg x.rd,Zg x.pn,Zg x.pd,Zg x.vn,Zg x.vd] 34;rwa [World.size_alloc] at h
   have HS:=Lh (And.intro (bto HB2.out hbS) (And.intro (Y2.out.below hbS) (And.intro (HF2.out.below hbS) z1)));clear hi hbS z1 Y2 HF2 HB2;go_wp2_with fail;clear p0 p1 p2 p3 p4 p5 p6 q0 q5 q1 q2 q3 q4 q6 q7 e5;generalize wr.heap.size=bx at *
   go_loopw [6,7,45] (fun _ _ iv wi=>∃(j:Nat),j<=3/\iv=Zi (j:Int)/\Hid (Below w.heap.size w wi/\Blk wi bx #[Zg x.oth,Zg x.rn,Zg x.rd,Zg x.pn,Zg x.pd,Zg x.vn,Zg x.vd]/\Blk wi w.heap.size (Zq f)/\Blk wi (bx+1) #[Zg x.rn,Zg x.rd,Zg x.pn,Zg x.pd,Zg x.vn,Zg x.vd])) (fun _ _ iv _=>3-(intOf iv).toNat)
   case atStart=>exact⟨0,by omega,rfl,HS.out⟩
   case round=>
    clear HS;obtain⟨j,hj,rfl,HS⟩:=hrel
    by_cases hlj:j<3
    ·have f1:decide (j<3)=true:=Dt hlj;have f2:decide ((j:Int)<3)=true:=Dt (by omega)
     obtain⟨p,hp⟩:∃p,(opF x)[j]?=some p:=⟨_,List.getElem?_eq_getElem (show j<3 from hlj)⟩
     obtain⟨g1,g2⟩:=Kv HS.out.2.2.2 hp;obtain⟨hl1,hl2⟩:=Ho HXS.out hp;obtain⟨E2,hE2⟩:∃E2,E2=bwE false false p.1 p.2 (fv p.1 p.2):=⟨_,rfl⟩
     have CB:Hid (∀w' b1 b2,GE w'->Blk w' b1 #[.bool false]->Blk w' b2 #[.bool false]->Calls prog 286 #[.agg #[.string ⟨List.toArray p.1⟩,.string ⟨List.toArray p.2⟩],.pointer (some ⟨b1,0,none⟩),.pointer (some ⟨b2,0,none⟩)] w' fun e w''=>e=.returned (Zi E2)/\Below w'.heap.size w' w''):=fun w' b1 b2 hG' h1 h2=>by
      rw[hE2];exact Hl false false (PR (k:=1000) hl1 hl2 (by decide)) hG' h1 h2
     have hbF:=Zh wr (.cells #[.string ⟨List.toArray p.1⟩,.string ⟨List.toArray p.2⟩] 34);have y3:Blk (wr.alloc (.cells #[.string ⟨List.toArray p.1⟩,.string ⟨List.toArray p.2⟩] 34)) wr.heap.size #[.string ⟨List.toArray p.1⟩,.string ⟨List.toArray p.2⟩]:=Blk.new wr _ 34;have Y3:=Lh y3;have hb3:=bto HS.out.1 hbF;have HS3:=Lh (And.intro (HS.out.2.1.below hbF) (And.intro (HS.out.2.2.1.below hbF) (HS.out.2.2.2.below hbF)));clear hp hl1 hl2 hE2 y3 hbF HS;go_wp2_with fail;refine VI (by kernel_rfl) (by kernel_rfl) ?_
     refine O9 229 #[.bool false,.bool false] (fun w u=>∃b1 b2,u=.func (.func 286) #[] #[.pointer (some ⟨b1,0,none⟩),.pointer (some ⟨b2,0,none⟩)]/\Blk w b1 #[.bool false]/\Blk w b2 #[.bool false]) rfl (fun w w' u ⟨b1,b2,e,h1,h2⟩ hb=>⟨b1,b2,e,h1.below hb,h2.below hb⟩) (fun _=>rfl) (fun ρ wz hw=>by go_simp;try rfl) (fun wz hw=>Vu false false wz) ?_
     simp only[Act.put,StT,StZ,StS,Nat.reduceAdd];refine VJ _ (fun _=>rfl) (fun ρ wz hw=>by have q0:wz.cell? ⟨wr.heap.size,0,none⟩=some (.string ⟨List.toArray p.1⟩):=(Y3.out.below hw).c 0;have q1:wz.cell? ⟨wr.heap.size,1,none⟩=some (.string ⟨List.toArray p.2⟩):=(Y3.out.below hw).c 1;go_simp;try rfl) ?_
     simp only[Act.put,StT,StZ,StS,Nat.reduceAdd];refine Sb 0 _ _ _ 49 rfl rfl rfl (by decide) (fun _=>rfl) (fun ρ wz hw ⟨b1,b2,e,h1,h2⟩=>⟨286,#[.agg #[.string ⟨List.toArray p.1⟩,.string ⟨List.toArray p.2⟩],.pointer (some ⟨b1,0,none⟩),.pointer (some ⟨b2,0,none⟩)],by simp only[e];go_simp;try rfl,CB.out wz b1 b2 (hG.below (bto hb3 hw)) h1 h2⟩) ?_
     simp only[Act.put,StT,StZ,StS,Nat.reduceAdd];refine VJ _ (fun _=>rfl) (fun ρ wz hw=>by go_simp;try rfl) ?_
     simp only[Act.put,StT,StZ,StS,Nat.reduceAdd];intro ρ w4 hF;have HS4:=Lh (And.intro (bto hb3 hF.below) (And.intro (HS3.out.1.below hF.below) (And.intro (HS3.out.2.1.below hF.below) (HS3.out.2.2.below hF.below))));clear hF HS3 hb3 CB Y3 g1 g2
     by_cases h0:E2=0
     rotate_left
     ·have e5:decide (E2=0)=false:=Df h0;have e6:(E2==0)=false:=by rw[Bn];exact h0
      have hb4:=HS4.out.1;go_wp2;go_ret;exact⟨⟨_,rfl⟩,hb4⟩
     subst h0;go_wp2;go_roundw
     case rel=>exact⟨j+1,by omega,by go_num,HS4.out⟩
     case measure=>simp[intOf];omega
    have hj3:j=3:=by omega
    subst hj3;have f1:decide (3<3)=false:=rfl;have Y5:=Lh HS.out.2.1;have HF5:=Lh HS.out.2.2.1;have HB5:=Lh HS.out.1;clear HS;go_wp2_with fail
    by_cases h2:(x.rn.isEmpty&&x.rd.isEmpty)=false
    ·have e2:(x.rn.isEmpty&&x.rd.isEmpty)=false:=h2;clear h2;refine Zx (by kernel_rfl) (by kernel_rfl) ?_
     refine PeV ?_;refine PeW (fun ρ wz hw=>by have q0:wz.cell? ⟨bx,0,none⟩=some (Zg x.oth):=(Y5.out.below hw).c 0;go_simp;try rfl) ?_
     refine PeV (v:=.bool false) ?_;refine PeV ?_;refine PeW (fun ρ wz hw=>by have q1:wz.cell? ⟨bx,1,none⟩=some (Zg x.rn):=(Y5.out.below hw).c 1;have q2:wz.cell? ⟨bx,2,none⟩=some (Zg x.rd):=(Y5.out.below hw).c 2;go_simp;try rfl) ?_
     refine PeV ?_;refine PkV (.bool true) (fun _=>rfl) (fun ρ wz hw=>(Wr _ _ rfl x.rn x.rd rfl rfl).trans (by rw[e2];rfl)) ?_
     refine PeV (v:=.bool true) ?_;refine PeV ?_
     iterate 9 refine PeO ?_
     refine PeV ?_;refine ZY (fun ρ w9 hF=>?_)
     have hb6:=bto HB5.out hF.below;clear hF Y5 HF5 HB5;go_wp2;go_ret;exact⟨⟨_,rfl⟩,hb6⟩
    have e2:(x.rn.isEmpty&&x.rd.isEmpty)=true:=by cases hh:(x.rn.isEmpty&&x.rd.isEmpty) with|true=>rfl|false=>exact absurd hh h2
    clear h2;cases hv:(x.vn.isEmpty&&x.vd.isEmpty) with
    | false=>
     have e3:(x.vn.isEmpty&&x.vd.isEmpty)=false:=hv;clear hv;refine Zx (by kernel_rfl) (by kernel_rfl) ?_
     refine PeV ?_;refine PeW (fun ρ wz hw=>by have q0:wz.cell? ⟨bx,0,none⟩=some (Zg x.oth):=(Y5.out.below hw).c 0;go_simp;try rfl) ?_
     refine PeV (v:=.bool false) ?_;refine PeV ?_;refine PeW (fun ρ wz hw=>by have q1:wz.cell? ⟨bx,1,none⟩=some (Zg x.rn):=(Y5.out.below hw).c 1;have q2:wz.cell? ⟨bx,2,none⟩=some (Zg x.rd):=(Y5.out.below hw).c 2;go_simp;try rfl) ?_
     refine PeV ?_;refine PkV (.bool false) (fun _=>rfl) (fun ρ wz hw=>(Wr _ _ rfl x.rn x.rd rfl rfl).trans (by rw[e2];rfl)) ?_
     refine PeV (v:=.bool false) ?_
     iterate 2 refine PeV ?_
     refine PeW (fun ρ wz hw=>by have q0:wz.cell? ⟨bx,0,none⟩=some (Zg x.oth):=(Y5.out.below hw).c 0;go_simp;try rfl) ?_
     refine PeV (v:=.bool true) ?_
     iterate 2 refine PeV ?_
     refine PeW (fun ρ wz hw=>by have q5:wz.cell? ⟨bx,5,none⟩=some (Zg x.vn):=(Y5.out.below hw).c 5;have q6:wz.cell? ⟨bx,6,none⟩=some (Zg x.vd):=(Y5.out.below hw).c 6;go_simp;try rfl) ?_
     refine PeV ?_;refine PkV (.bool true) (fun _=>rfl) (fun ρ wz hw=>(Wr _ _ rfl x.vn x.vd rfl rfl).trans (by rw[e3];rfl)) ?_
     iterate 2 refine PeV ?_
     refine ZY (fun ρ w9 hF=>?_)
     have hb6:=bto HB5.out hF.below;clear hF Y5 HF5 HB5;go_wp2;go_ret;exact⟨⟨_,rfl⟩,hb6⟩
    | true=>
     have e3:(x.vn.isEmpty&&x.vd.isEmpty)=true:=hv;clear hv;refine Zx (by kernel_rfl) (by kernel_rfl) ?_
     refine PeV ?_;refine PeW (fun ρ wz hw=>by have q0:wz.cell? ⟨bx,0,none⟩=some (Zg x.oth):=(Y5.out.below hw).c 0;go_simp;try rfl) ?_
     refine PeV (v:=.bool false) ?_;refine PeV ?_;refine PeW (fun ρ wz hw=>by have q1:wz.cell? ⟨bx,1,none⟩=some (Zg x.rn):=(Y5.out.below hw).c 1;have q2:wz.cell? ⟨bx,2,none⟩=some (Zg x.rd):=(Y5.out.below hw).c 2;go_simp;try rfl) ?_
     refine PeV ?_;refine PkV (.bool false) (fun _=>rfl) (fun ρ wz hw=>(Wr _ _ rfl x.rn x.rd rfl rfl).trans (by rw[e2];rfl)) ?_
     refine PeV (v:=.bool false) ?_
     iterate 2 refine PeV ?_
     refine PeW (fun ρ wz hw=>by have q0:wz.cell? ⟨bx,0,none⟩=some (Zg x.oth):=(Y5.out.below hw).c 0;go_simp;try rfl) ?_
     refine PeV (v:=.bool true) ?_
     iterate 2 refine PeV ?_
     refine PeW (fun ρ wz hw=>by have q5:wz.cell? ⟨bx,5,none⟩=some (Zg x.vn):=(Y5.out.below hw).c 5;have q6:wz.cell? ⟨bx,6,none⟩=some (Zg x.vd):=(Y5.out.below hw).c 6;go_simp;try rfl) ?_
     refine PeV ?_;refine PkV (.bool false) (fun _=>rfl) (fun ρ wz hw=>(Wr _ _ rfl x.vn x.vd rfl rfl).trans (by rw[e3];rfl)) ?_
     iterate 2 refine PeV ?_
     refine ZY (fun ρ w9 hF=>?_)
     have Y6:=Lh (Y5.out.below hF.below);have HF6:=Lh (HF5.out.below hF.below);have hb6:=bto HB5.out hF.below;clear hF Y5 HF5 HB5;go_wp2;go_roundw
     case rel=>exact⟨k+1,by omega,by go_num,hb6,HF6.out⟩
     case measure=>simp[intOf];omega
  have o1:x.oth.isEmpty=false:=by cases h:x.oth with|nil=>exact absurd h ho|cons a r=>rfl
  go_wp2_with fail
  refine (C1.out.of hG HBA.out).mono ?_
  rintro e w2 ⟨rfl,hb2⟩;have Y2:=Lh (Y1.out.below hb2);have HF2:=Lh (HFA.out.below hb2);have HB2:=Lh (bto HBA.out hb2);obtain⟨bl,hbl⟩:∃bl,bl=YE x.oth:=⟨_,rfl⟩
  rw[<-hbl];clear hbl q0 hb2 Y1 HFA HBA C1 p0 p1 p2 p3 p4 p5 p6;cases bl with
  | false=>
   have hbq:=HB2.out;go_wp2;go_ret;exact⟨⟨_,rfl⟩,hbq⟩
  | true=>
   clear ho;have q0:w2.cell? ⟨wr.heap.size,0,none⟩=some (Zg x.oth):=Y2.out.c 0;have q5:w2.cell? ⟨w.heap.size,5,none⟩=some (Zg f.ins):=HF2.out.c 5
   by_cases hi:x.oth=f.ins
   ·have e5:(x.oth==f.ins)=true:=by rw[beq_iff_eq];exact hi
    have hbq:=HB2.out;clear hi;go_wp2;go_ret;exact⟨⟨_,rfl⟩,hbq⟩
   have e5:(x.oth==f.ins)=false:=by rw[Bn];exact hi
   have q1:w2.cell? ⟨wr.heap.size,1,none⟩=some (Zg x.rn):=Y2.out.c 1;have q2:w2.cell? ⟨wr.heap.size,2,none⟩=some (Zg x.rd):=Y2.out.c 2;have q3:w2.cell? ⟨wr.heap.size,3,none⟩=some (Zg x.pn):=Y2.out.c 3;have q4:w2.cell? ⟨wr.heap.size,4,none⟩=some (Zg x.pd):=Y2.out.c 4;have q6:w2.cell? ⟨wr.heap.size,5,none⟩=some (Zg x.vn):=Y2.out.c 5;have q7:w2.cell? ⟨wr.heap.size,6,none⟩=some (Zg x.vd):=Y2.out.c 6;have hbS:=Zh w2 (.cells #[Zg x.rn,Zg x.rd,Zg x.pn,Zg x.pd,Zg x.vn,Zg x.vd] 34);have z1:Blk (w2.alloc (.cells #[Zg x.rn,Zg x.rd,Zg x.pn,Zg x.pd,Zg x.vn,Zg x.vd] 34)) w2.heap.size #[Zg x.rn,Zg x.rd,Zg x.pn,Zg x.pd,Zg x.vn,Zg x.vd]:=Blk.new w2 _ 34;have HS:=Lh (And.intro (bto HB2.out hbS) (And.intro (Y2.out.below hbS) (And.intro (HF2.out.below hbS) z1)));clear hi hbS z1 Y2 HF2 HB2;go_wp2_with fail;clear q0 q5 q1 q2 q3 q4 q6 q7 e5;generalize wr.heap.size=bx at *
   go_loopw [6,7,45] (fun _ _ iv wi=>∃(j:Nat),j<=3/\iv=Zi (j:Int)/\Hid (Below w.heap.size w wi/\Blk wi bx #[Zg x.oth,Zg x.rn,Zg x.rd,Zg x.pn,Zg x.pd,Zg x.vn,Zg x.vd]/\Blk wi w.heap.size (Zq f)/\Blk wi w2.heap.size #[Zg x.rn,Zg x.rd,Zg x.pn,Zg x.pd,Zg x.vn,Zg x.vd])) (fun _ _ iv _=>3-(intOf iv).toNat)
   case atStart=>exact⟨0,by omega,rfl,HS.out⟩
   case round=>
    clear HS;obtain⟨j,hj,rfl,HS⟩:=hrel
    by_cases hlj:j<3
    ·have f1:decide (j<3)=true:=Dt hlj;have f2:decide ((j:Int)<3)=true:=Dt (by omega)
     obtain⟨p,hp⟩:∃p,(opF x)[j]?=some p:=⟨_,List.getElem?_eq_getElem (show j<3 from hlj)⟩
     obtain⟨g1,g2⟩:=Kv HS.out.2.2.2 hp;obtain⟨hl1,hl2⟩:=Ho HXS.out hp;obtain⟨E2,hE2⟩:∃E2,E2=bwE false false p.1 p.2 (fv p.1 p.2):=⟨_,rfl⟩
     have CB:Hid (∀w' b1 b2,GE w'->Blk w' b1 #[.bool false]->Blk w' b2 #[.bool false]->Calls prog 286 #[.agg #[.string ⟨List.toArray p.1⟩,.string ⟨List.toArray p.2⟩],.pointer (some ⟨b1,0,none⟩),.pointer (some ⟨b2,0,none⟩)] w' fun e w''=>e=.returned (Zi E2)/\Below w'.heap.size w' w''):=fun w' b1 b2 hG' h1 h2=>by
      rw[hE2];exact Hl false false (PR (k:=1000) hl1 hl2 (by decide)) hG' h1 h2
     have hbF:=Zh wr (.cells #[.string ⟨List.toArray p.1⟩,.string ⟨List.toArray p.2⟩] 34);have y3:Blk (wr.alloc (.cells #[.string ⟨List.toArray p.1⟩,.string ⟨List.toArray p.2⟩] 34)) wr.heap.size #[.string ⟨List.toArray p.1⟩,.string ⟨List.toArray p.2⟩]:=Blk.new wr _ 34;have Y3:=Lh y3;have hb3:=bto HS.out.1 hbF;have HS3:=Lh (And.intro (HS.out.2.1.below hbF) (And.intro (HS.out.2.2.1.below hbF) (HS.out.2.2.2.below hbF)));clear hp hl1 hl2 hE2 y3 hbF HS;go_wp2_with fail;refine VI (by kernel_rfl) (by kernel_rfl) ?_
     refine O9 229 #[.bool false,.bool false] (fun w u=>∃b1 b2,u=.func (.func 286) #[] #[.pointer (some ⟨b1,0,none⟩),.pointer (some ⟨b2,0,none⟩)]/\Blk w b1 #[.bool false]/\Blk w b2 #[.bool false]) rfl (fun w w' u ⟨b1,b2,e,h1,h2⟩ hb=>⟨b1,b2,e,h1.below hb,h2.below hb⟩) (fun _=>rfl) (fun ρ wz hw=>by go_simp;try rfl) (fun wz hw=>Vu false false wz) ?_
     simp only[Act.put,StT,StZ,StS,Nat.reduceAdd];refine VJ _ (fun _=>rfl) (fun ρ wz hw=>by have q0:wz.cell? ⟨wr.heap.size,0,none⟩=some (.string ⟨List.toArray p.1⟩):=(Y3.out.below hw).c 0;have q1:wz.cell? ⟨wr.heap.size,1,none⟩=some (.string ⟨List.toArray p.2⟩):=(Y3.out.below hw).c 1;go_simp;try rfl) ?_
     simp only[Act.put,StT,StZ,StS,Nat.reduceAdd];refine Sb 0 _ _ _ 49 rfl rfl rfl (by decide) (fun _=>rfl) (fun ρ wz hw ⟨b1,b2,e,h1,h2⟩=>⟨286,#[.agg #[.string ⟨List.toArray p.1⟩,.string ⟨List.toArray p.2⟩],.pointer (some ⟨b1,0,none⟩),.pointer (some ⟨b2,0,none⟩)],by simp only[e];go_simp;try rfl,CB.out wz b1 b2 (hG.below (bto hb3 hw)) h1 h2⟩) ?_
     simp only[Act.put,StT,StZ,StS,Nat.reduceAdd];refine VJ _ (fun _=>rfl) (fun ρ wz hw=>by go_simp;try rfl) ?_
     simp only[Act.put,StT,StZ,StS,Nat.reduceAdd];intro ρ w4 hF;have HS4:=Lh (And.intro (bto hb3 hF.below) (And.intro (HS3.out.1.below hF.below) (And.intro (HS3.out.2.1.below hF.below) (HS3.out.2.2.below hF.below))));clear hF HS3 hb3 CB Y3 g1 g2
     by_cases h0:E2=0
     rotate_left
     ·have e5:decide (E2=0)=false:=Df h0;have e6:(E2==0)=false:=by rw[Bn];exact h0
      have hb4:=HS4.out.1;go_wp2;go_ret;exact⟨⟨_,rfl⟩,hb4⟩
     subst h0;go_wp2;go_roundw
     case rel=>exact⟨j+1,by omega,by go_num,HS4.out⟩
     case measure=>simp[intOf];omega
    have hj3:j=3:=by omega
    subst hj3;have f1:decide (3<3)=false:=rfl;have Y5:=Lh HS.out.2.1;have HF5:=Lh HS.out.2.2.1;have HB5:=Lh HS.out.1;clear HS;go_wp2_with fail
    by_cases h2:(x.rn.isEmpty&&x.rd.isEmpty)=false
    ·have e2:(x.rn.isEmpty&&x.rd.isEmpty)=false:=h2;clear h2;refine Zx (by kernel_rfl) (by kernel_rfl) ?_
     refine PeV ?_;refine PeW (fun ρ wz hw=>by have q0:wz.cell? ⟨bx,0,none⟩=some (Zg x.oth):=(Y5.out.below hw).c 0;go_simp;try rfl) ?_
     refine PeV (v:=.bool true) ?_;refine PeV ?_;refine PeW (fun ρ wz hw=>by have q1:wz.cell? ⟨bx,1,none⟩=some (Zg x.rn):=(Y5.out.below hw).c 1;have q2:wz.cell? ⟨bx,2,none⟩=some (Zg x.rd):=(Y5.out.below hw).c 2;go_simp;try rfl) ?_
     refine PeV ?_;refine PkV (.bool true) (fun _=>rfl) (fun ρ wz hw=>(Wr _ _ rfl x.rn x.rd rfl rfl).trans (by rw[e2];rfl)) ?_
     refine PeV (v:=.bool false) ?_
     iterate 2 refine PeV ?_
     refine PeW (fun ρ wz hw=>by have q0:wz.cell? ⟨bx,0,none⟩=some (Zg x.oth):=(Y5.out.below hw).c 0;go_simp;try rfl) ?_
     refine PeV (v:=.bool false) ?_;refine PeV ?_
     iterate 2
      refine PeO ?_;refine PeO ?_
     iterate 2 refine PeV ?_
     refine ZY (fun ρ w9 hF=>?_)
     have Y6:=Lh (Y5.out.below hF.below);have HF6:=Lh (HF5.out.below hF.below);have hb6:=bto HB5.out hF.below;clear hF Y5 HF5 HB5;go_wp2;go_roundw
     case rel=>exact⟨k+1,by omega,by go_num,hb6,HF6.out⟩
     case measure=>simp[intOf];omega
    have e2:(x.rn.isEmpty&&x.rd.isEmpty)=true:=by cases hh:(x.rn.isEmpty&&x.rd.isEmpty) with|true=>rfl|false=>exact absurd hh h2
    clear h2;refine Zx (by kernel_rfl) (by kernel_rfl) ?_
    refine PeV ?_;refine PeW (fun ρ wz hw=>by have q0:wz.cell? ⟨bx,0,none⟩=some (Zg x.oth):=(Y5.out.below hw).c 0;go_simp;try rfl) ?_
    refine PeV (v:=.bool true) ?_;refine PeV ?_;refine PeW (fun ρ wz hw=>by have q1:wz.cell? ⟨bx,1,none⟩=some (Zg x.rn):=(Y5.out.below hw).c 1;have q2:wz.cell? ⟨bx,2,none⟩=some (Zg x.rd):=(Y5.out.below hw).c 2;go_simp;try rfl) ?_
    refine PeV ?_;refine PkV (.bool false) (fun _=>rfl) (fun ρ wz hw=>(Wr _ _ rfl x.rn x.rd rfl rfl).trans (by rw[e2];rfl)) ?_
    refine PeV (v:=.bool true) ?_;refine PeV ?_
    iterate 9 refine PeO ?_
    refine PeV ?_;refine ZY (fun ρ w9 hF=>?_)
    have hb6:=bto HB5.out hF.below;clear hF Y5 HF5 HB5;go_wp2;go_ret;exact⟨⟨_,rfl⟩,hb6⟩
def ZE (word:List UInt8) (cls:Int) (H:List Bool) (M:Option Nat) (code:Bool):Array Value:=(Zg word::Zi cls::(H.map Value.bool++[.map M,.bool code])).toArray
theorem XG {word:List UInt8} {cls:Int} {H:List Bool} {M:Option Nat} {code:Bool} (h:H.length=13):(ZE word cls H M code).size=17:=by simp[ZE,h]
theorem Cy {word:List UInt8} {cls:Int} {H:List Bool} {M:Option Nat} {code:Bool} {k:Nat} (h:H.length=13) (hk:k<13):(ZE word cls H M code).setIfInBounds (2+k) (.bool true)=ZE word cls (H.set k true) M code:=by
 unfold ZE;rw[List.setIfInBounds_toArray,show 2+k=k+1+1 by omega,List.set_cons_succ,List.set_cons_succ,List.set_append_left _ _ (by rw[List.length_map];omega),List.map_set]
theorem U6 {word:List UInt8} {cls:Int} {H:List Bool} {M:Option Nat} {code:Bool}:(ZE word cls H M code).all (·.oneCell')=true:=by
 refine all_oneCell_toArray (fun v hv=>?_)
 simp only[List.mem_cons,List.mem_append,List.mem_map,List.not_mem_nil,or_false] at hv;rcases hv with rfl|rfl|⟨b,-,rfl⟩|rfl|rfl<;>rfl
theorem Tt:(prog.info? 270).map (·.size)=some 17:=by kernel_rfl
theorem Tu:(prog.info? 4).map (·.size)=some 1:=by kernel_rfl
theorem Pq {w:World} {r a b:Nat} {m:Option Nat} {s:Array Nat} (h:w.heap[r]?=some (.mapIter m a s b)):w.iterSeen r=s:=by
 unfold World.iterSeen;rw[h]
theorem WG {w:World} {b:Nat} {o:Obj} (h:b<w.heap.size):(ChangeMaps.setBlock w b o).heap[b]?=some o:=by simp[ChangeMaps.setBlock,h]
theorem Yh {w:World} {b c:Nat} {o:Obj} (h:c≠b):(ChangeMaps.setBlock w b o).heap[c]?=w.heap[c]?:=by simp[ChangeMaps.setBlock,Ne.symm h]
theorem VK {w w1:World} {B b:Nat} {o:Obj} (h:Below B w w1) (hb:B<=b):Below B w (ChangeMaps.setBlock w1 b o):=
 h.trans ⟨rfl,rfl,rfl,by simp[ChangeMaps.setBlock],fun k hk=>Yh (by omega)⟩
def Ig (w:World) (A:Option Addr) (ms:List Nat):Prop:=∀(i m:Nat),ms[i]?=some m->∃b o,A=some ⟨b,o,none⟩/\b<w.heap.size/\w.cell? ⟨b,o+i,none⟩=some (Zi (m:Int))
theorem Ig.below {w w':World} {A:Option Addr} {ms:List Nat} (h:Ig w A ms) (hb:Below w.heap.size w w'):Ig w' A ms:=fun i m hm=>by
 obtain⟨b,o,e,hlt,hc⟩:=h i m hm;exact⟨b,o,e,Nat.lt_of_lt_of_le hlt hb.size,(World.cell?_of_block (hb.block _ hlt)).trans hc⟩
def TP (H:List Bool) (K:Nat->Prop):Prop:=H.length=13/\∀i,H[i]?=some true->K i
def QQ (es:Array MapEntry) (i:Nat):Prop:=∃e∈es.toList,e.key=Zi (i:Int)
theorem WM {H:List Bool} {k i:Nat} (hl:H.length=13) (hk:k<13):(H.set k true)[i]?=some true↔i=k∨H[i]?=some true:=by
 rw[List.getElem?_set]
 by_cases h:k=i
 ·subst h;simp[hl,hk]
 ·rw[if_neg h];constructor
  ·exact .inr
  ·rintro (h2|h2)
   ·exact absurd h2.symm h
   ·exact h2
structure Sc (w:World) (word:List UInt8) (cls:Int) (M:Option Nat) (H:List Bool) (W:World):Prop where
 below:Below w.heap.size w W
 res:W.heap[w.heap.size]?=some (.cells #[Zj,Zi 0,.bool false,.bool false,.bool false,.bool false,.bool false,.bool false,.bool false,.bool false,.bool false,.bool false,.bool false,.bool false,.bool false,.map none,.bool false] 270 (0,0))
 box:W.heap[w.heap.size+1]?=some (.cells (ZE word cls H M false) 270 (0,0))
 len:H.length=13
theorem Sc.there {w W:World} {word:List UInt8} {cls:Int} {M:Option Nat} {H:List Bool} (h:Sc w word cls M H W) {k:Nat} (hk:k<13):(W.cell? ⟨w.heap.size+1,2+k,none⟩).isSome=true/\W.frozen? ⟨w.heap.size+1,2+k,none⟩=false:=by
 refine⟨?_,Zt h.box _⟩;rw[Zk h.box,Array.getElem?_eq_getElem (by rw[XG h.len];omega)]
 rfl
theorem Sc.set {w W:World} {word:List UInt8} {cls:Int} {M:Option Nat} {H:List Bool} (h:Sc w word cls M H W) {k:Nat} (hk:k<13):Sc w word cls M (H.set k true) (W.setCell ⟨w.heap.size+1,2+k,none⟩ (.bool true)):=by
 have hb:Below w.heap.size w (W.setCell ⟨w.heap.size+1,2+k,none⟩ (.bool true)):=VF h.below (by omega) _ _
 refine⟨hb,hoth h.res (by omega),?_,by rw[List.length_set];exact h.len⟩
 have:=hset (o:=2+k) (.bool true) h.box
 rwa [Cy h.len hk] at this
theorem Sc.other {w W W':World} {word:List UInt8} {cls:Int} {M:Option Nat} {H:List Bool} (h:Sc w word cls M H W) (hb:Below (w.heap.size+2) W W'):Sc w word cls M H W':=
 ⟨h.below.trans (hb.mono (by omega)),(hb.block _ (by omega)).trans h.res,(hb.block _ (by omega)).trans h.box,h.len⟩
theorem YH {P:Program} {w:World} {ops:Array Oper} {rest:List Oper} {op:Oper} {a:Act} {Q:Exit->Act->World->Prop} (hgd:op.guard=none) (ty:TypeId) (x y:Operand) (ho:op.op=.store ty x y)
  (b k:Nat) (v:Value) (hx:a.eval x=.pointer (some ⟨b,k,none⟩)) (hy:a.eval y=v)
  (hc:(w.cell? ⟨b,k,none⟩).isSome=true) (hf:w.frozen? ⟨b,k,none⟩=false) (hi:(P.info? ty).map (·.size)=some 1) (h1:v.oneCell'=true)
  (h:wpList P ops Q rest (a.put op.dst undef) (w.setCell ⟨b,k,none⟩ v)):wpList P ops Q (op::rest) a w:=
 wpList_plain hgd fun _ hK=>by
  unfold Oper.wp;rw[UH (P:=P) (e:=a.eval) (w:=w) ty x y ho b k v hx hy hc hf hi h1];exact hK _ _ h
theorem ZbY (word:List UInt8) (cls:Int) {w:World} {bm clock:Nat} {es:Array MapEntry} (hb:w.heap[bm]?=some (.map es clock)) (hst:MapKept.Stamped es clock) (hk:∀e∈es.toList,∃k:Nat,e.key=Zi (k:Int)/\k<13) {A:Option Addr} {ms:List Nat} {n c:Nat} (hms:Ig w A ms) (hn:ms.length=n) (hn2:n<=100) (hm:∀m∈ms,m<13) :
  Calls prog 230 #[Zg word,Zi cls,.map (some bm),.slice A n c] w fun e w'=>∃H,e=.returned (.agg (ZE word cls H (some bm) false))/\TP H (fun i=>QQ es i∨i∈ms)/\(∀i,(fun i=>QQ es i∨i∈ms) i->H[i]?=some true)/\Below w.heap.size w w':=by
 have HMS:=Lh hms;have HN:=Lh hn;have HM:=Lh hm;have HZ:=Lh (List.length_replicate (n:=13) (a:=false));obtain⟨h1,h2,h3,h4⟩:=V9 w (.cells #[Zj,Zi 0,.bool false,.bool false,.bool false,.bool false,.bool false,.bool false,.bool false,.bool false,.bool false,.bool false,.bool false,.bool false,.bool false,.map none,.bool false] 270) (.cells #[Zg word,Zi cls,.bool false,.bool false,.bool false,.bool false,.bool false,.bool false,.bool false,.bool false,.bool false,.bool false,.bool false,.bool false,.bool false,.map (some bm),.bool false] 270);obtain⟨W0,hW0⟩:∃W0,W0=(w.alloc (.cells #[Zj,Zi 0,.bool false,.bool false,.bool false,.bool false,.bool false,.bool false,.bool false,.bool false,.bool false,.bool false,.bool false,.bool false,.bool false,.map none,.bool false] 270)).alloc (.cells #[Zg word,Zi cls,.bool false,.bool false,.bool false,.bool false,.bool false,.bool false,.bool false,.bool false,.bool false,.bool false,.bool false,.bool false,.bool false,.map (some bm),.bool false] 270):=⟨_,rfl⟩
 rw[<-hW0] at h1 h2 h3 h4;have HO0:Hid (Sc w word cls (some bm) (List.replicate 13 false) W0):=⟨h3,h1,h2,rfl⟩;have HW0:=Lh hW0;have HS0:=Lh h4;have HB:=Lh hb;have HST:=Lh hst;have HK:=Lh hk;have hb0:W0.heap[bm]?=some (.map es clock):=Zv hb h3;have hrg:=run_range_map (P:=prog) W0 268 _ _ bm es clock underlying268 hb0;have hbI:=Zh W0 (.mapIter (some bm) clock #[] clock);have hrI:(W0.alloc (.mapIter (some bm) clock #[] clock)).heap[w.heap.size+2]?=some (.mapIter (some bm) clock #[] clock):=by rw[<-h4];exact ZJ W0 _
 rw[h4] at hrg hbI;have HO1:Hid (Sc w word cls (some bm) (List.replicate 13 false) (W0.alloc (.mapIter (some bm) clock #[] clock))):=HO0.out.other hbI;have HRI:=Lh hrI;rw[hW0] at hrg;clear hb hst hk hb0 hbI hrI;clear h1 h2 h3 h4 hW0 hms hn hm;go_enter func230,ntmps230;go_wp2_with fail;clear hrg
 go_loopw [10] (fun _ wr=>∃(H:List Bool) (seen:Array Nat),Hid (Sc w word cls (some bm) H wr)/\Hid (wr.heap[w.heap.size+2]?=some (.mapIter (some bm) clock seen clock))/\Hid ((∀i,H[i]?=some true->QQ es i)/\(∀e∈es.toList,seen.contains e.born=true->∀i:Nat,e.key=Zi (i:Int)->H[i]?=some true))) (fun _ wr=>(leftOf es (wr.iterSeen (w.heap.size+2))).size)
 case atStart=>
  refine⟨List.replicate 13 false,#[],?_,?_,?_⟩
  ·rw[HW0.out] at HO1;exact HO1
  ·rw[HW0.out] at HRI;exact HRI
  ·exact⟨fun i hi=>(by rw[List.getElem?_replicate] at hi;split at hi<;>cases hi),fun e _ h=>(by simp at h)⟩
 case round=>
  clear HO1 HRI HW0 HS0 HO0;obtain⟨H,seen,HO,HR,HI⟩:=hrel;have hbm:=Zv HB.out HO.out.below;have law:=run_next_at (P:=prog) wr 0 (w.heap.size+2) bm clock clock seen es clock HR.out hbm HST.out.1 (Nl _);rcases law with ⟨h0,hrun⟩|⟨e,he,w2,hal,hrun⟩
  rotate_left
  ·obtain⟨k,hk,hk13⟩:=HK.out e (mem_left he).1;have hrlt:=(Ag.1 HR.out).1;have hb2:Below (w.heap.size+2) wr (ChangeMaps.setBlock w2 (w.heap.size+2) (.mapIter (some bm) clock (seen.push e.born) clock)):=VK (by rcases hal with rfl|rfl;exact Below.refl _ _;exact Dc (Below.refl _ _)) (Nl _)
   have hO2:=HO.out.other hb2;have hr2:(ChangeMaps.setBlock w2 (w.heap.size+2) (.mapIter (some bm) clock (seen.push e.born) clock)).heap[w.heap.size+2]?=some (.mapIter (some bm) clock (seen.push e.born) clock):=WG (by rcases hal with rfl|rfl<;>exact hrlt)
   have hen:=run_entry_at (P:=prog) _ (w.heap.size+2) bm clock seen es clock e hr2 (Zv HB.out hO2.below) (mem_left he).1 HST.out.2.1;rw[hk] at hrun hen;obtain⟨W2,hW2⟩:∃W2,W2=ChangeMaps.setBlock w2 (w.heap.size+2) (.mapIter (some bm) clock (seen.push e.born) clock):=⟨_,rfl⟩
   rw[<-hW2] at hrun hen hO2 hr2;have hnx:∀ty,(Instr.next (.pointer (some ⟨w.heap.size+2,0,none⟩)) false ty).run prog wr=_:=fun _=>hrun
   have hth:=hO2.there hk13;have HO3:=Lh (hO2.set hk13);have HR3:Hid ((W2.setCell ⟨w.heap.size+1,2+k,none⟩ (.bool true)).heap[w.heap.size+2]?=some (.mapIter (some bm) clock (seen.push e.born) clock)):=hoth hr2 (by omega)
   have hle:=HO.out.len;have HI3:Hid ((∀i,(H.set k true)[i]?=some true->QQ es i)/\(∀e'∈es.toList,(seen.push e.born).contains e'.born=true->∀i:Nat,e'.key=Zi (i:Int)->(H.set k true)[i]?=some true)):=by
    refine⟨fun i hi=>?_,fun e' he' hs i hi=>?_⟩
    ·rcases (WM hle hk13).1 hi with rfl|h
     ·exact⟨e,(mem_left he).1,hk⟩
     ·exact HI.out.1 i h
    ·refine (WM hle hk13).2 ?_;rw[contains_push,Bool.or_eq_true] at hs;rcases hs with hs|hs
     ·exact .inr (HI.out.2 e' he' hs i hi)
     ·have:e'=e:=born_inj HST.out.2.1 he' (mem_left he).1 (by simpa using hs)
      subst this;rw[hk] at hi;injection hi with _ hi
      exact .inl (by omega)
   have HMS2:Hid ((leftOf es (seen.push e.born)).size<(leftOf es seen).size):=left_shrinks es seen e he;have HTH:=Lh hth;have HHR:=HR;clear hrun hO2 hr2 hW2 hb2 HI hbm hal hk he hrlt hle hth HO;go_wp2_with (refine YH rfl 4 (.tmp 25) (.const (.bool true)) rfl (w.heap.size+1) (2+k) (.bool true) rfl rfl HTH.out.1 HTH.out.2 Tu rfl ?_);simp only[Act.put];go_roundw
   case rel=>exact⟨H.set k true,seen.push e.born,HO3.out,HR3.out,HI3.out⟩
   case measure=>
    rw[Pq HR3.out,Pq HHR.out];exact HMS2.out
  have hnx:∀ty,(Instr.next (.pointer (some ⟨w.heap.size+2,0,none⟩)) false ty).run prog wr=_:=fun _=>hrun
  have HKE:Hid ((∀i,H[i]?=some true->QQ es i)/\∀i,QQ es i->H[i]?=some true):=⟨HI.out.1,fun i ⟨e,he,hi⟩=>HI.out.2 e he (all_seen es seen h0 e he) i hi⟩
  clear hrun h0 HI HR hbm;go_wp2_with fail;clear hnx
  go_loopw [12,28] (fun _ iv wr=>∃(j:Nat) (H:List Bool),j<=n/\iv=Zi (j:Int)/\Hid (Sc w word cls (some bm) H wr)/\Hid ((∀i,H[i]?=some true->QQ es i∨i∈ms)/\(∀i:Nat,QQ es i->H[i]?=some true)/\(∀i,i∈ms.take j->H[i]?=some true))) (fun _ iv _=>n-(intOf iv).toNat)
  case atStart=>exact⟨0,H,Nat.zero_le _,rfl,HO.out,⟨fun i hi=>.inl (HKE.out.1 i hi),HKE.out.2,fun i hi=>by simp at hi⟩⟩
  case round=>
   clear HO HKE;obtain⟨j,H,hj,rfl,HO,HI⟩:=hrel
   by_cases hlj:j<n
   ·have e1:decide (j<n)=true:=Dt hlj;have e2:decide ((j:Int)<(n:Int))=true:=Dt (by omega)
    obtain⟨m,hmj⟩:∃m,ms[j]?=some m:=⟨_,List.getElem?_eq_getElem (by have:=HN.out;omega)⟩
    obtain⟨b,o,rfl,hbs,hc⟩:=(HMS.out.below HO.out.below) j m hmj;have hm13:=HM.out m (Lm hmj);have HTH:=Lh (HO.out.there hm13);have HO3:=Lh (HO.out.set hm13);have hle:=HO.out.len;have HI3:Hid ((∀i,(H.set m true)[i]?=some true->QQ es i∨i∈ms)/\(∀i:Nat,QQ es i->(H.set m true)[i]?=some true)/\(∀i,i∈ms.take (j+1)->(H.set m true)[i]?=some true)):=by
     refine⟨fun i hi=>?_,fun i hi=>(WM hle hm13).2 (.inr (HI.out.2.1 i hi)),fun i hi=>(WM hle hm13).2 ?_⟩
     ·rcases (WM hle hm13).1 hi with rfl|h
      ·exact .inr (Lm hmj)
      ·exact HI.out.1 i h
     ·obtain⟨hj2,rfl⟩:=Lg.1 hmj;rw[List.take_succ_eq_append_getElem hj2,List.mem_append,List.mem_singleton] at hi;rcases hi with hi|hi
      ·exact .inr (HI.out.2.2 i hi)
      ·exact .inl hi
    clear hmj hle HI HO;go_wp2_with (refine YH rfl 4 (.tmp 34) (.const (.bool true)) rfl (w.heap.size+1) (2+m) (.bool true) rfl rfl HTH.out.1 HTH.out.2 Tu rfl ?_)
    (try simp only[Act.put])
    go_roundw
    case rel=>exact⟨j+1,H.set m true,by omega,by go_num,HO3.out,HI3.out⟩
    case measure=>simp[intOf];omega
   have e1:decide (j<n)=false:=Df hlj;have e2:decide ((j:Int)<(n:Int))=false:=Df (by omega)
   have HQ:Hid (TP H (fun i=>QQ es i∨i∈ms)/\∀i,(QQ es i∨i∈ms)->H[i]?=some true):=by
    have h3:=HI.out.2.2;rw[List.take_of_length_le (by have:=HN.out;omega)] at h3
    refine⟨⟨HO.out.len,fun i hi=>HI.out.1 i hi⟩,fun i hi=>hi.elim (HI.out.2.1 i) (h3 i)⟩
   have hsz:(ZE word cls H (some bm) false).size=17:=XG HO.out.len;have HZ2:Hid ((prog.info? 270).map (·.size)=some (ZE word cls H (some bm) false).size):=by show _=_;rw[hsz];exact Tt
   have HBX:Hid (Blk wr (w.heap.size+1) (ZE word cls H (some bm) false)):=⟨_,HO.out.box⟩;have HTH:Hid (wr.there w.heap.size 0 (ZE word cls H (some bm) false).size):=by
    have:=Xp HO.out.res
    show World.there _ _ _ _;rw[hsz];exact this
   have HBW:=Lh HO.out.below;obtain⟨W9,hW9⟩:∃W9,W9=wr.setCells w.heap.size 0 (ZE word cls H (some bm) false).toList:=⟨_,rfl⟩
   have HW9:=Lh hW9;have HB9:Hid (Below w.heap.size w W9):=by show Below _ _ _;rw[hW9];exact Lib.below_setCells _ (Nl _) _ _ HBW.out
   have HR9:Hid (W9.rangeAt w.heap.size 0 (ZE word cls H (some bm) false).toList):=by
    show World.rangeAt _ _ _ _;rw[hW9];exact World.rangeAt_setCells_same _ _ _ _ (by rw[Array.length_toList];exact HTH.out)
   clear hsz hW9 HI HO;go_wp2_with (first|(refine Zy rfl 270 (.tmp 9) rfl (w.heap.size+1) rfl (ZE word cls H (some bm) false) HBX.out underlying270 rfl HZ2.out ?_)|(refine wpList_store_mid rfl 270 (.tmp 8) (.tmp 36) rfl w.heap.size 0 (ZE word cls H (some bm) false) rfl rfl HTH.out HZ2.out U6 ?_;rw[<-HW9.out]))
   refine bodyPost_ret (v:=.agg (ZE word cls H (some bm) false)) ?_ rfl ?_
   ·exact YX Tryz.f230 8 270 (ZE word cls H (some bm) false) rfl rfl HR9.out underlying270 rfl HZ2.out
   exact⟨H,rfl,HQ.out.1,HQ.out.2,HB9.out⟩
theorem Zdy (word:List UInt8) (cls:Int) {w:World} {A:Option Addr} {ms:List Nat} {n c:Nat} (hms:Ig w A ms) (hn:ms.length=n) (hn2:n<=100) (hm:∀m∈ms,m<13) :
  Calls prog 230 #[Zg word,Zi cls,.map none,.slice A n c] w fun e w'=>∃H,e=.returned (.agg (ZE word cls H none false))/\TP H (fun i=>i∈ms)/\(∀i,(fun i=>i∈ms) i->H[i]?=some true)/\Below w.heap.size w w':=by
 have HMS:=Lh hms;have HN:=Lh hn;have HM:=Lh hm;have HZ:=Lh (List.length_replicate (n:=13) (a:=false));obtain⟨h1,h2,h3,h4⟩:=V9 w (.cells #[Zj,Zi 0,.bool false,.bool false,.bool false,.bool false,.bool false,.bool false,.bool false,.bool false,.bool false,.bool false,.bool false,.bool false,.bool false,.map none,.bool false] 270) (.cells #[Zg word,Zi cls,.bool false,.bool false,.bool false,.bool false,.bool false,.bool false,.bool false,.bool false,.bool false,.bool false,.bool false,.bool false,.bool false,.map none,.bool false] 270);obtain⟨W0,hW0⟩:∃W0,W0=(w.alloc (.cells #[Zj,Zi 0,.bool false,.bool false,.bool false,.bool false,.bool false,.bool false,.bool false,.bool false,.bool false,.bool false,.bool false,.bool false,.bool false,.map none,.bool false] 270)).alloc (.cells #[Zg word,Zi cls,.bool false,.bool false,.bool false,.bool false,.bool false,.bool false,.bool false,.bool false,.bool false,.bool false,.bool false,.bool false,.bool false,.map none,.bool false] 270):=⟨_,rfl⟩
 rw[<-hW0] at h1 h2 h3 h4;have HO0:Hid (Sc w word cls none (List.replicate 13 false) W0):=⟨h3,h1,h2,rfl⟩;have HW0:=Lh hW0;have HS0:=Lh h4;have hrg:=run_range_nilMap (P:=prog) W0 268 _ _ underlying268;have hbI:=Zh W0 (.mapIter none 0 #[] 0);have hnx0:=fun ty=>run_next_nilMap (P:=prog) W0 ty 0 0 #[]
 rw[h4] at hrg hbI;simp only[h4] at hnx0;have HO1:Hid (Sc w word cls none (List.replicate 13 false) (W0.alloc (.mapIter none 0 #[] 0))):=HO0.out.other hbI;rw[hW0] at hrg;have HNX:=Lh hnx0;clear hbI hnx0;clear h1 h2 h3 h4 hW0 hms hn hm;go_enter func230,ntmps230;go_wp2_with fail;clear hrg
 go_loopw [10] (fun _ wr=>wr=(W0.alloc (.mapIter none 0 #[] 0))) (fun _ _=>0)
 case atStart=>rw[HW0.out]
 case round=>
  subst hrel;have HO:=HO1;obtain⟨H,hH⟩:∃H,H=List.replicate 13 false:=⟨_,rfl⟩
  have HKE:Hid ((∀i,H[i]?=some true->False)/\∀i:Nat,False->H[i]?=some true):=⟨fun i hi=>(by rw[hH,List.getElem?_replicate] at hi;split at hi<;>cases hi),fun i h=>h.elim⟩
  rw[<-hH] at HO;have hnx:=HNX.out;obtain⟨wr,hwr⟩:∃wr,wr=W0.alloc (.mapIter none 0 #[] 0):=⟨_,rfl⟩
  rw[<-hwr] at hnx HO ⊢;clear HO1 HNX HW0 HS0 HO0 hH hwr HZ;go_wp2_with fail;clear hnx
  go_loopw [12,28] (fun _ iv wr=>∃(j:Nat) (H:List Bool),j<=n/\iv=Zi (j:Int)/\Hid (Sc w word cls none H wr)/\Hid ((∀i,H[i]?=some true->False∨i∈ms)/\(∀i:Nat,False->H[i]?=some true)/\(∀i,i∈ms.take j->H[i]?=some true))) (fun _ iv _=>n-(intOf iv).toNat)
  case atStart=>exact⟨0,H,Nat.zero_le _,rfl,HO.out,⟨fun i hi=>.inl (HKE.out.1 i hi),HKE.out.2,fun i hi=>by simp at hi⟩⟩
  case round=>
   clear HO HKE;obtain⟨j,H,hj,rfl,HO,HI⟩:=hrel
   by_cases hlj:j<n
   ·have e1:decide (j<n)=true:=Dt hlj;have e2:decide ((j:Int)<(n:Int))=true:=Dt (by omega)
    obtain⟨m,hmj⟩:∃m,ms[j]?=some m:=⟨_,List.getElem?_eq_getElem (by have:=HN.out;omega)⟩
    obtain⟨b,o,rfl,hbs,hc⟩:=(HMS.out.below HO.out.below) j m hmj;have hm13:=HM.out m (Lm hmj);have HTH:=Lh (HO.out.there hm13);have HO3:=Lh (HO.out.set hm13);have hle:=HO.out.len;have HI3:Hid ((∀i,(H.set m true)[i]?=some true->False∨i∈ms)/\(∀i:Nat,False->(H.set m true)[i]?=some true)/\(∀i,i∈ms.take (j+1)->(H.set m true)[i]?=some true)):=by
     refine⟨fun i hi=>?_,fun i hi=>(WM hle hm13).2 (.inr (HI.out.2.1 i hi)),fun i hi=>(WM hle hm13).2 ?_⟩
     ·rcases (WM hle hm13).1 hi with rfl|h
      ·exact .inr (Lm hmj)
      ·exact HI.out.1 i h
     ·obtain⟨hj2,rfl⟩:=Lg.1 hmj;rw[List.take_succ_eq_append_getElem hj2,List.mem_append,List.mem_singleton] at hi;rcases hi with hi|hi
      ·exact .inr (HI.out.2.2 i hi)
      ·exact .inl hi
    clear hmj hle HI HO;go_wp2_with (refine YH rfl 4 (.tmp 34) (.const (.bool true)) rfl (w.heap.size+1) (2+m) (.bool true) rfl rfl HTH.out.1 HTH.out.2 Tu rfl ?_)
    (try simp only[Act.put])
    go_roundw
    case rel=>exact⟨j+1,H.set m true,by omega,by go_num,HO3.out,HI3.out⟩
    case measure=>simp[intOf];omega
   have e1:decide (j<n)=false:=Df hlj;have e2:decide ((j:Int)<(n:Int))=false:=Df (by omega)
   have HQ:Hid (TP H (fun i=>i∈ms)/\∀i,(i∈ms)->H[i]?=some true):=by
    have h3:=HI.out.2.2;rw[List.take_of_length_le (by have:=HN.out;omega)] at h3
    refine⟨⟨HO.out.len,fun i hi=>(HI.out.1 i hi).resolve_left id⟩,fun i hi=>h3 i hi⟩
   have hsz:(ZE word cls H none false).size=17:=XG HO.out.len;have HZ2:Hid ((prog.info? 270).map (·.size)=some (ZE word cls H none false).size):=by show _=_;rw[hsz];exact Tt
   have HBX:Hid (Blk wr (w.heap.size+1) (ZE word cls H none false)):=⟨_,HO.out.box⟩;have HTH:Hid (wr.there w.heap.size 0 (ZE word cls H none false).size):=by
    have:=Xp HO.out.res
    show World.there _ _ _ _;rw[hsz];exact this
   have HBW:=Lh HO.out.below;obtain⟨W9,hW9⟩:∃W9,W9=wr.setCells w.heap.size 0 (ZE word cls H none false).toList:=⟨_,rfl⟩
   have HW9:=Lh hW9;have HB9:Hid (Below w.heap.size w W9):=by show Below _ _ _;rw[hW9];exact Lib.below_setCells _ (Nl _) _ _ HBW.out
   have HR9:Hid (W9.rangeAt w.heap.size 0 (ZE word cls H none false).toList):=by
    show World.rangeAt _ _ _ _;rw[hW9];exact World.rangeAt_setCells_same _ _ _ _ (by rw[Array.length_toList];exact HTH.out)
   clear hsz hW9 HI HO;go_wp2_with (first|(refine Zy rfl 270 (.tmp 9) rfl (w.heap.size+1) rfl (ZE word cls H none false) HBX.out underlying270 rfl HZ2.out ?_)|(refine wpList_store_mid rfl 270 (.tmp 8) (.tmp 36) rfl w.heap.size 0 (ZE word cls H none false) rfl rfl HTH.out HZ2.out U6 ?_;rw[<-HW9.out]))
   refine bodyPost_ret (v:=.agg (ZE word cls H none false)) ?_ rfl ?_
   ·exact YX Tryz.f230 8 270 (ZE word cls H none false) rfl rfl HR9.out underlying270 rfl HZ2.out
   exact⟨H,rfl,HQ.out.1,HQ.out.2,HB9.out⟩
def YY:Nat->List (Nat×Value)->List MapEntry
 | _,[]=>[]
 | n,x::l=>{ key:=Zi (x.1:Int),val:=x.2,born:=n }::YY (n+1) l
def Xc (l:List (Nat×Value)):Array MapEntry:=(YY 0 l).toArray
theorem Ps:∀(l:List (Nat×Value)) (x:Nat×Value) (n:Nat),YY n (l++[x])=YY n l++[{ key:=Zi (x.1:Int),val:=x.2,born:=n+l.length }]
 | [],x,n=>by simp[YY]
 | y::l,x,n=>by
  rw[List.cons_append,YY,YY,Ps l x (n+1),List.cons_append,List.length_cons,show n+1+l.length=n+(l.length+1) by omega]
theorem FH (l:List (Nat×Value)) (x:Nat×Value):(Xc l).push { key:=Zi (x.1:Int),val:=x.2,born:=l.length }=Xc (l++[x]):=by
 unfold Xc;rw[Ps,List.push_toArray,Nat.zero_add]
theorem XA:∀{l:List (Nat×Value)} {n:Nat} {e:MapEntry},e∈YY n l->∃x∈l,e.key=Zi (x.1:Int)/\n<=e.born/\e.born<n+l.length
 | [],_,_,h=>by cases h
 | y::l,n,e,h=>by
  rcases List.mem_cons.1 h with rfl|h
  ·exact⟨y,List.mem_cons_self,rfl,Nl _,by simp⟩
  ·obtain⟨x,h1,h2,h3,h4⟩:=XA h;exact⟨x,List.mem_cons_of_mem _ h1,h2,by omega,by rw[List.length_cons];omega⟩
theorem VT:∀{l:List (Nat×Value)} {n:Nat} {x:Nat×Value},x∈l->∃e∈YY n l,e.key=Zi (x.1:Int)
 | y::l,n,x,h=>by
  rcases List.mem_cons.1 h with rfl|h
  ·exact⟨_,List.mem_cons_self,rfl⟩
  ·obtain⟨e,h1,h2⟩:=VT (n:=n+1) h;exact⟨e,List.mem_cons_of_mem _ h1,h2⟩
theorem Hp {a b:Nat} (h:(Zi (a:Int))=Zi (b:Int)):a=b:=by injection h with _ h;omega
theorem Hq {l:List (Nat×Value)} {i:Nat}:QQ (Xc l) i↔i∈l.map (·.1):=by
 constructor
 ·rintro⟨e,he,hk⟩;obtain⟨x,hx,h2,-⟩:=XA he;rw[h2] at hk;rw[<-Hp hk];exact List.mem_map.2 ⟨x,hx,rfl⟩
 ·intro h;obtain⟨x,hx,rfl⟩:=List.mem_map.1 h;exact VT hx
theorem Qc:∀(l:List (Nat×Value)) (n:Nat),(l.map (·.1)).Nodup->((YY n l).map (·.born)).Nodup/\((YY n l).map (·.key)).Nodup
 | [],_,_=>by simp[YY]
 | x::l,n,h=>by
  rw[List.map_cons,List.nodup_cons] at h;obtain⟨h1,h2⟩:=Qc l (n+1) h.2;constructor
  ·rw[YY,List.map_cons,List.nodup_cons];refine⟨fun hm=>?_,h1⟩
   obtain⟨e,he,hb⟩:=List.mem_map.1 hm;obtain⟨-,-,-,h3,-⟩:=XA he;have hb:e.born=n:=hb;omega
  ·rw[YY,List.map_cons,List.nodup_cons];refine⟨fun hm=>?_,h2⟩
   obtain⟨e,he,hb⟩:=List.mem_map.1 hm;obtain⟨y,hy,h3,-⟩:=XA he;have hb:e.key=Zi (x.1:Int):=hb;rw[h3] at hb;exact h.1 (by rw[<-Hp hb];exact List.mem_map.2 ⟨y,hy,rfl⟩)
theorem Se {l:List (Nat×Value)} (h:(l.map (·.1)).Nodup):MapKept.Stamped (Xc l) l.length:=by
 obtain⟨h1,h2⟩:=Qc l 0 h;refine⟨fun e he=>?_,h1,h2⟩
 obtain⟨-,-,-,-,h4⟩:=XA he;omega
theorem N9 {kd:IntKind}:∀(l:List (Nat×Value)) (n i:Nat) (k:Nat),i∉l.map (·.1)->Instr.findNow (.int kd) (Zi (i:Int)) (YY n l) k=some none
 | [],_,_,_,_=>rfl
 | x::l,n,i,k,h=>by
  rw[List.map_cons,List.mem_cons,not_or] at h;rw[YY,Instr.findNow];have e1:Instr.sameNow (.int kd) (Zi (i:Int)) (Zi (x.1:Int))=some false:=by
   simp only[Instr.sameNow,if_true]
   have:((i:Int)==(x.1:Int))=false:=by rw[Bn];exact fun e=>h.1 (by omega)
   rw[this]
  rw[e1];exact N9 l (n+1) i (k+1) h.2
theorem Qd {kd:IntKind}:∀(l:List (Nat×Value)) (n i:Nat) (u:Value) (k:Nat),(l.map (·.1)).Nodup->(i,u)∈l->∃j,Instr.findNow (.int kd) (Zi (i:Int)) (YY n l) k=some (some (j,u))
 | x::l,n,i,u,k,hn,h=>by
  rw[List.map_cons,List.nodup_cons] at hn;rw[YY,Instr.findNow]
  by_cases hx:i=x.1
  ·have e1:Instr.sameNow (.int kd) (Zi (i:Int)) (Zi (x.1:Int))=some true:=by
    simp only[Instr.sameNow,if_true];rw[hx];simp
   rw[e1];rcases List.mem_cons.1 h with rfl|h
   ·exact⟨_,rfl⟩
   ·exact absurd (List.mem_map.2 ⟨_,h,hx⟩) hn.1
  ·have e1:Instr.sameNow (.int kd) (Zi (i:Int)) (Zi (x.1:Int))=some false:=by
    simp only[Instr.sameNow,if_true]
    have:((i:Int)==(x.1:Int))=false:=by rw[Bn];exact fun e=>hx (by omega)
    rw[this]
   rw[e1];rcases List.mem_cons.1 h with rfl|h
   ·exact absurd rfl hx
   ·exact Qd l (n+1) i u (k+1) hn.2 h
structure Uz (w:World) (r:Nat) (u:Value) (p q:Bool):Prop where
 is:∃b1 b2,u=.func (.func 286) #[] #[.pointer (some ⟨b1,0,none⟩),.pointer (some ⟨b2,0,none⟩)]/\Blk w b1 #[.bool p]/\Blk w b2 #[.bool q]/\b1≠r/\b2≠r
theorem Blk.keepR {w w':World} {r b:Nat} {cs:Array Value} (h:Blk w b cs) (hb:Zz (fun k=>k=r) w w') (hn:b≠r):Blk w' b cs:=by
 obtain⟨t,h⟩:=h;exact⟨t,(hb.block _ (Ag.1 h).1 hn).trans h⟩
theorem Uz.keep {w w':World} {r:Nat} {u:Value} {p q:Bool} (h:Uz w r u p q) (hb:Zz (fun k=>k=r) w w'):Uz w' r u p q:=by
 obtain⟨b1,b2,e,h1,h2,n1,n2⟩:=h.is;exact⟨b1,b2,e,h1.keepR hb n1,h2.keepR hb n2,n1,n2⟩
structure ZcT (w:World) (r:Nat) (M:Option Nat) (nums:List (Nat×Bool×Bool)):Prop where
 is:∀i p q,(i,p,q)∈nums->∃bm es clock j u,M=some bm/\w.heap[bm]?=some (.map es clock)/\bm≠r/\Instr.findNow (.int .i64) (Zi (i:Int)) es.toList 0=some (some (j,u))/\Uz w r u p q
structure KOk (w:World) (r:Nat) (v:Value) (nums:List (Nat×Bool×Bool)) (more:List Nat):Prop where
 is:∃word cls H M code,v=.agg (ZE word cls H M code)/\TP H (fun i=>i∈nums.map (·.1)∨i∈more)/\(∀i,(i∈nums.map (·.1)∨i∈more)->H[i]?=some true)/\ZcT w r M nums
theorem Zay {w:World} {r bm:Nat} {l:List (Nat×Value)} {nums:List (Nat×Bool×Bool)} (hb:w.heap[bm]?=some (.map (Xc l) l.length)) (hr:bm≠r) (hn:(l.map (·.1)).Nodup) (h:∀i p q,(i,p,q)∈nums->∃u,(i,u)∈l/\Uz w r u p q):ZcT w r (some bm) nums:=⟨fun i p q hm=>by
 obtain⟨u,h1,h2⟩:=h i p q hm;obtain⟨j,h3⟩:=Qd (kd:=.i64) l 0 i u 0 hn h1
 exact⟨bm,_,_,j,u,rfl,hb,hr,h3,h2⟩⟩
section
variable {P:Program} {ops:Array Oper} {rest:List Oper} {o:Oper} {a:Act} {Q:Exit->Act->World->Prop} {mty kt et:TypeId}
theorem XV {w:World} (l:List (Nat×Value)) (i:Nat) (val:Value) (hg:o.guard=none) (m x v:Operand) (hop:o.op=Op.insert mty m x v) (hm:P.underlying mty=some (.map kt et)) (hk:P.underlying kt=some (.int .i64))
  (hmv:a.eval m=.map (some w.heap.size)) (hx:a.eval x=Zi (i:Int)) (hv:a.eval v=val) (hf:i∉l.map (·.1))
  (hK:wpList P ops Q rest (a.put o.dst undef) (w.alloc (.map (Xc (l++[(i,val)])) (l++[(i,val)]).length))):wpList P ops Q (o::rest) a (w.alloc (.map (Xc l) l.length)):=by
 refine wpList_plain hg fun K' hK'=>?_
 have hrun:=UX (P:=P) (w:=w.alloc (.map (Xc l) l.length)) (mty:=mty) (key:=Zi (i:Int)) (val:=val) hm hk rfl (ZJ w (.map (Xc l) l.length)) (N9 l 0 i 0 hf);have e:({ w.alloc (.map (Xc l) l.length) with heap:=(w.alloc (.map (Xc l) l.length)).heap.setIfInBounds w.heap.size (.map ((Xc l).push { key:=Zi (i:Int),val,born:=l.length }) (l.length+1)) }:World)=w.alloc (.map (Xc (l++[(i,val)])) (l++[(i,val)]).length):=by
  rw[FH l (i,val),List.length_append,List.length_singleton];have e2:∀(h:Array Obj) (x y:Obj),(h.push x).setIfInBounds h.size y=h.push y:=fun h x y=>by apply Array.toList_inj.1;simp
  simp[World.alloc,-World.alloc_eq,e2]
 rw[e] at hrun;unfold Oper.wp;simp[execOp,hop,hmv,hx,hv,hrun,Result.andThen];exact hK' _ _ (by simpa using hK)
end
theorem ZbZ {w:World} {word:List UInt8} {cls:Int} {H:List Bool} {M:Option Nat} {code:Bool} (h1:H.length=13) :
  Calls prog 232 #[.agg (ZE word cls H M code)] w fun e w'=>e=.returned (.agg (ZE word cls H M true))/\Below w.heap.size w w':=by
 have hs2:=XG (word:=word) (cls:=cls) (M:=M) (code:=true) h1;have hset:(ZE word cls H M code).setIfInBounds 16 (.bool true)=ZE word cls H M true:=by
  unfold ZE;rw[List.setIfInBounds_toArray,List.set_cons_succ,List.set_cons_succ,List.set_append_right _ _ (by rw[List.length_map,h1];decide),List.length_map,h1]
  rfl
 have hs:=XG (word:=word) (cls:=cls) (M:=M) (code:=code) h1;obtain⟨g1,g2,g3,-⟩:=V9 w (.cells (ZE word cls H M code) 270) (.cells #[Zj,Zi 0,.bool false,.bool false,.bool false,.bool false,.bool false,.bool false,.bool false,.bool false,.bool false,.bool false,.bool false,.bool false,.bool false,.map none,.bool false] 270);obtain⟨W1,hW1⟩:∃W1,W1=((w.alloc (.cells (ZE word cls H M code) 270)).alloc (.cells #[Zj,Zi 0,.bool false,.bool false,.bool false,.bool false,.bool false,.bool false,.bool false,.bool false,.bool false,.bool false,.bool false,.bool false,.bool false,.map none,.bool false] 270)).setCell ⟨w.heap.size,16,none⟩ (.bool true):=⟨_,rfl⟩
 have k1:W1.heap[w.heap.size]?=some (.cells (ZE word cls H M true) 270 (0,0)):=by
  rw[hW1,<-hset];exact Go.Proofs.YtpieeldbamklkaaGreatDoor.hset (o:=16) (.bool true) g1
 have k2:W1.heap[w.heap.size+1]?=some (.cells #[Zj,Zi 0,.bool false,.bool false,.bool false,.bool false,.bool false,.bool false,.bool false,.bool false,.bool false,.bool false,.bool false,.bool false,.bool false,.map none,.bool false] 270 (0,0)):=by rw[hW1];exact hoth g2 (by omega)
 have k3:Below w.heap.size w W1:=by rw[hW1];exact VF g3 (Nl _) _ _
 have HC:Hid ((((w.alloc (.cells (ZE word cls H M code) 270)).alloc (.cells #[Zj,Zi 0,.bool false,.bool false,.bool false,.bool false,.bool false,.bool false,.bool false,.bool false,.bool false,.bool false,.bool false,.bool false,.bool false,.map none,.bool false] 270)).cell? ⟨w.heap.size,16,none⟩).isSome=true):=by show _=_;rw[Zk g1,Array.getElem?_eq_getElem (by rw[hs];decide)];rfl
 have HF:Hid (((w.alloc (.cells (ZE word cls H M code) 270)).alloc (.cells #[Zj,Zi 0,.bool false,.bool false,.bool false,.bool false,.bool false,.bool false,.bool false,.bool false,.bool false,.bool false,.bool false,.bool false,.bool false,.map none,.bool false] 270)).frozen? ⟨w.heap.size,16,none⟩=false):=Zt g1 _;have HBX:Hid (Blk W1 w.heap.size (ZE word cls H M true)):=⟨_,k1⟩;have HZ2:Hid ((prog.info? 270).map (·.size)=some (ZE word cls H M true).size):=by show _=_;rw[hs2];exact Tt
 have HTH:Hid (W1.there (w.heap.size+1) 0 (ZE word cls H M true).size):=by
  have:=Xp k2
  show World.there _ _ _ _;rw[hs2];exact this
 obtain⟨W9,hW9⟩:∃W9,W9=W1.setCells (w.heap.size+1) 0 (ZE word cls H M true).toList:=⟨_,rfl⟩
 have HW9:=Lh hW9;have HB9:Hid (Below w.heap.size w W9):=by show Below _ _ _;rw[hW9];exact Lib.below_setCells _ (by omega) _ _ k3
 have HR9:Hid (W9.rangeAt (w.heap.size+1) 0 (ZE word cls H M true).toList):=by
  show World.rangeAt _ _ _ _;rw[hW9];exact World.rangeAt_setCells_same _ _ _ _ (by rw[Array.length_toList];exact HTH.out)
 have HW1:=Lh hW1;clear hW9 hW1 k1 k2 k3 g1 g2 g3 hs hs2 hset h1;go_enter func232,ntmps232;go_wp2_with (first|(refine YH rfl 4 (.tmp 3) (.const (.bool true)) rfl w.heap.size 16 (.bool true) rfl rfl HC.out HF.out Tu rfl ?_;rw[<-HW1.out])|(refine Zy rfl 270 (.tmp 1) rfl w.heap.size rfl (ZE word cls H M true) HBX.out underlying270 rfl HZ2.out ?_)|(refine wpList_store_mid rfl 270 (.tmp 2) (.tmp 4) rfl (w.heap.size+1) 0 (ZE word cls H M true) rfl rfl HTH.out HZ2.out U6 ?_;rw[<-HW9.out]))
 refine bodyPost_ret (v:=.agg (ZE word cls H M true)) ?_ rfl ?_
 ·exact YX Tryz.f232 2 270 (ZE word cls H M true) rfl rfl HR9.out underlying270 rfl HZ2.out
 exact⟨rfl,HB9.out⟩
theorem PW {w:World} {b:Nat} {ms:List Nat} (h:Blk w b (ms.map (fun (m:Nat)=>Zi (m:Int))).toArray):Ig w (some ⟨b,0,none⟩) ms:=fun i m hm=>by
 refine⟨b,0,rfl,h.ltB,?_⟩;rw[Nat.zero_add,h.c i,List.getElem?_toArray,List.getElem?_map,hm];rfl
theorem Zdz (word:List UInt8) {w:World} {r bo bp:Nat} {vp:Value} (hr:r<w.heap.size) (h1:Blk w bo #[.func (.func 230) #[] #[]]) (h2:Blk w bp #[vp]) (hL:Uz w r vp true false) :
  Calls prog 231 #[Zg word,.pointer (some ⟨bo,0,none⟩),.pointer (some ⟨bp,0,none⟩)] w fun e w'=>∃v,e=.returned v/\KOk w' r v [(5,true,false)] [2]/\Below w.heap.size w w'/\∃H bm,v=.agg (ZE word 2 H (some bm) false)/\TP H (fun i=>i=5∨i=2)/\w'.heap[bm]?=some (.map (Xc [(5,vp)]) 1):=by
 obtain⟨g1,g2,g3,g4⟩:=V9 w (.cells #[Zj,Zi 0,.bool false,.bool false,.bool false,.bool false,.bool false,.bool false,.bool false,.bool false,.bool false,.bool false,.bool false,.bool false,.bool false,.map none,.bool false] 270) (.map (Xc []) 0);have q1:(w.alloc (.cells #[Zj,Zi 0,.bool false,.bool false,.bool false,.bool false,.bool false,.bool false,.bool false,.bool false,.bool false,.bool false,.bool false,.bool false,.bool false,.map none,.bool false] 270)).cell? ⟨bo,0,none⟩=some (.func (.func 230) #[] #[]):=(h1.below (Zh _ _)).c 0;have q2:((w.alloc (.cells #[Zj,Zi 0,.bool false,.bool false,.bool false,.bool false,.bool false,.bool false,.bool false,.bool false,.bool false,.bool false,.bool false,.bool false,.bool false,.map none,.bool false] 270)).alloc (.map (Xc []) 0)).cell? ⟨bp,0,none⟩=some vp:=(h2.below g3).c 0;clear g1 g2 g3 g4;obtain⟨g1,g2,g3,g4⟩:=V9 w (.cells #[Zj,Zi 0,.bool false,.bool false,.bool false,.bool false,.bool false,.bool false,.bool false,.bool false,.bool false,.bool false,.bool false,.bool false,.bool false,.map none,.bool false] 270) (.map (Xc [(5,vp)]) 1);have g5:=Zh ((w.alloc (.cells #[Zj,Zi 0,.bool false,.bool false,.bool false,.bool false,.bool false,.bool false,.bool false,.bool false,.bool false,.bool false,.bool false,.bool false,.bool false,.map none,.bool false] 270)).alloc (.map (Xc [(5,vp)]) 1)) (.cells #[Zi 2] 3);have g6:=ZJ ((w.alloc (.cells #[Zj,Zi 0,.bool false,.bool false,.bool false,.bool false,.bool false,.bool false,.bool false,.bool false,.bool false,.bool false,.bool false,.bool false,.bool false,.map none,.bool false] 270)).alloc (.map (Xc [(5,vp)]) 1)) (.cells #[Zi 2] 3);rw[g4] at g6;obtain⟨W2,hW2⟩:∃W2,W2=((w.alloc (.cells #[Zj,Zi 0,.bool false,.bool false,.bool false,.bool false,.bool false,.bool false,.bool false,.bool false,.bool false,.bool false,.bool false,.bool false,.bool false,.map none,.bool false] 270)).alloc (.map (Xc [(5,vp)]) 1)).alloc (.cells #[Zi 2] 3):=⟨_,rfl⟩
 rw[<-hW2] at g5 g6;have hb:=bto g3 g5;have k1:=Zv g1 g5;have k2:=Zv g2 g5;have hms:Ig W2 (some ⟨w.heap.size+2,0,none⟩) [2]:=PW ⟨_,g6⟩
 have C1:=ZbY (A:=some ⟨w.heap.size+2,0,none⟩) (ms:=[2]) (n:=1) (c:=1) word 2 k2 (Se (l:=[(5,vp)]) (by simp)) (fun e he=>⟨5,by
  obtain⟨x,hx,h2,-⟩:=XA he;rw[List.mem_singleton] at hx
  rw[h2,hx],by decide⟩) hms rfl (by decide) (by simp)
 simp only[Hq] at C1;have HK2:=Lh k2;have HL:=Lh hL;have HR:=Lh hr;have HK1:=Lh k1;have HB:=Lh hb;rw[hW2] at C1;have HC:=Lh C1;have HW2:=Lh hW2;have hmk:=fun (w:World)=>show (Instr.makeMap 268 none).run prog w=.ok (.map (some w.heap.size)) (w.alloc (.map (Xc []) 0)) from run_makeMap (P:=prog) 268 w
 clear C1 hW2 k1 k2 hb g1 g2 g3 g4 g5 g6 hms h1 h2 hL hr;go_enter func231,ntmps231;go_wp2_with (refine XV [] 5 vp rfl (.tmp 7) (.const (Zi 5)) (.tmp 8) rfl underlying268 underlying3 (by rw[World.size_alloc];rfl) rfl rfl (by simp) ?_)
 refine HC.out.mono ?_;rintro e w3 ⟨H,rfl,j1,j2,hb3⟩;rw[<-HW2.out] at hb3;have hs2:=XG (word:=word) (cls:=2) (M:=some (w.heap.size+1)) (code:=false) j1.1;have k1:=Zv HK1.out hb3;have k2:=Zv HK2.out hb3;have hb4:=bto HB.out hb3;have HZ2:Hid ((prog.info? 270).map (·.size)=some (ZE word 2 H (some (w.heap.size+1)) false).size):=by show _=_;rw[hs2];exact Tt
 have HTH:Hid (w3.there w.heap.size 0 (ZE word 2 H (some (w.heap.size+1)) false).size):=by
  have:=Xp k1
  show World.there _ _ _ _;rw[hs2];exact this
 obtain⟨W9,hW9⟩:∃W9,W9=w3.setCells w.heap.size 0 (ZE word 2 H (some (w.heap.size+1)) false).toList:=⟨_,rfl⟩
 have HW9:=Lh hW9;have HB9:Hid (Below w.heap.size w W9):=by show Below _ _ _;rw[hW9];exact Lib.below_setCells _ (Nl _) _ _ hb4
 have HR9:Hid (W9.rangeAt w.heap.size 0 (ZE word 2 H (some (w.heap.size+1)) false).toList):=by
  show World.rangeAt _ _ _ _;rw[hW9];exact World.rangeAt_setCells_same _ _ _ _ (by rw[Array.length_toList];exact HTH.out)
 have k9:W9.heap[w.heap.size+1]?=some (.map (Xc [(5,vp)]) 1):=by
  have hX:=ZM (X:=fun k=>k=w.heap.size) (g:=w.heap.size) rfl (ZE word 2 H (some (w.heap.size+1)) false).toList 0 w3
  rw[hW9];exact (hX.block _ (Ag.1 k2).1 (by omega)).trans k2
 have HEND:Hid (KOk W9 r (.agg (ZE word 2 H (some (w.heap.size+1)) false)) [(5,true,false)] [2]):=⟨word,2,H,_,false,rfl,j1,j2,Zay (l:=[(5,vp)]) k9 (by have:=HR.out;omega) (by simp) (fun i p q hm=>by
  simp only[List.mem_singleton,Prod.mk.injEq] at hm;obtain⟨rfl,rfl,rfl⟩:=hm
  exact⟨vp,by simp,HL.out.keep (Zz.of_below HB9.out)⟩)⟩
 have HX:Hid (TP H (fun i=>i=5∨i=2)/\W9.heap[w.heap.size+1]?=some (.map (Xc [(5,vp)]) 1)):=⟨⟨j1.1,fun i hi=>by simpa using j1.2 i hi⟩,k9⟩
 clear hW9 k1 k2 k9 hb3 hb4 hs2 j1 j2 hmk q1 q2;go_wp2_with (refine wpList_store_mid rfl 270 (.tmp 4) (.tmp 11) rfl w.heap.size 0 (ZE word 2 H (some (w.heap.size+1)) false) rfl rfl HTH.out HZ2.out U6 ?_;rw[<-HW9.out]);refine bodyPost_ret (v:=.agg (ZE word 2 H (some (w.heap.size+1)) false)) ?_ rfl ?_
 ·exact YX Tryz.f231 4 270 (ZE word 2 H (some (w.heap.size+1)) false) rfl rfl HR9.out underlying270 rfl HZ2.out
 exact⟨_,rfl,HEND.out,HB9.out,_,_,rfl,HX.out.1,HX.out.2⟩
section
variable {P:Program} {md:Region.Mode} {ops:Array Oper} {Q:Exit->Act->World->Prop}
def cntF:List Bool->Nat
 | []=>0
 | b::l=>(if b then 0 else 1)+cntF l
theorem Kw:∀(l:List Bool) (i:Nat),l[i]?=some false->cntF (l.set i true)+1=cntF l
 | [],_,h=>by simp at h
 | b::l,0,h=>by
  have:b=false:=by simpa using h
  subst this;simp[cntF];omega
 | b::l,i+1,h=>by
  have h1:=Kw l i (by simpa using h)
  simp only[List.set_cons_succ,cntF];omega
theorem Ma:∀(l:List Bool),cntF l=0->∀i:Nat,i<l.length->l[i]?=some true
 | [],_,_,h=>by simp at h
 | b::l,h,0,_=>by
  cases b with
  | true=>rfl
  | false=>simp[cntF] at h
 | b::l,h,i+1,hi=>by
  rw[List.getElem?_cons_succ];exact Ma l (by simp only[cntF] at h;omega) i (by simpa using hi)
theorem Ih (hbk:∀(i:Nat) (o:Oper),ops[i]?=some o->∀e∈o.after,Region.binds md e=true->e.on<i) {listed:Array Bool} (hs:listed.size=ops.size) (h:Region.ready md ops listed=[]):∀i,i<ops.size->listed.getD i false=true:=by
 intro i
 induction i using Nat.strongRecOn with
 | _ i ih=>
  intro hi;cases hl:listed.getD i false with
  | true=>rfl
  | false=>
   exfalso
   have ho:ops[i]?=some ops[i]:=Array.getElem?_eq_getElem hi
   have hm:i∈Region.ready md ops listed:=mem_ready.2 ⟨by
    rw[Array.getD_eq_getD_getElem?,Array.getElem?_eq_getElem (by omega)] at hl ⊢
    exact hl,_,ho,fun e he hb=>ih e.on (hbk i _ ho e he hb) (by have:=hbk i _ ho e he hb;omega)⟩
   rw[h] at hm;cases hm
theorem QR {I:Array Bool->Act->World->Prop} (hbk:∀(i:Nat) (o:Oper),ops[i]?=some o->∀e∈o.after,Region.binds md e=true->e.on<i)
  (hend:∀listed a w,(∀i,i<ops.size->listed.getD i false=true)->I listed a w->Q .normal a w)
  (hstep:∀listed a w i o,I listed a w->ops[i]?=some o->listed.getD i true=false->(∀e∈o.after,Region.binds md e=true->listed.getD e.on false=true)->wpOp P ops Q i (I (listed.setIfInBounds i true)) a w) :
  ∀(fuel:Nat) (listed:Array Bool) (a:Act) (w:World),listed.size=ops.size->cntF listed.toList<=fuel->I listed a w->wpAny P md ops Q fuel listed a w
 | 0,listed,a,w,hs,hc,hI=>by
  have hall:∀i,i<ops.size->listed.getD i false=true:=fun i hi=>by
   have h1:=Ma listed.toList (by omega) i (by rw[Array.length_toList];omega)
   rw[Array.getElem?_toList] at h1;rw[Array.getD_eq_getD_getElem?,h1];rfl
  refine⟨?_,hend _ _ _ hall hI⟩;apply List.eq_nil_iff_forall_not_mem.2;intro j hj;obtain⟨h1,o,ho,-⟩:=mem_ready.1 hj;have hjs:=(Ag.1 ho).1;have h2:=hall j hjs;rw[Array.getD_eq_getD_getElem?,Array.getElem?_eq_getElem (by omega)] at h1 h2
  simp at h1 h2;rw[h1] at h2;cases h2
 | fuel+1,listed,a,w,hs,hc,hI=>by
  refine⟨fun h0=>hend _ _ _ (Ih hbk hs h0) hI,fun i hi=>?_⟩
  obtain⟨h1,o,ho,h2⟩:=mem_ready.1 hi;have hjs:=(Ag.1 ho).1;refine wpOp_mono (fun a' w' hI'=>?_) (hstep listed a w i o hI ho h1 h2)
  refine QR hbk hend hstep fuel _ a' w' (by simpa using hs) ?_ hI'
  have h3:listed.toList[i]?=some false:=by
   rw[Array.getElem?_toList];rw[Array.getD_eq_getD_getElem?,Array.getElem?_eq_getElem (by omega)] at h1
   rw[Array.getElem?_eq_getElem (by omega)]
   simpa using h1
  have h4:=Kw listed.toList i h3;rw[Array.toList_setIfInBounds];omega
theorem Na:∀n:Nat,cntF (List.replicate n false)=n
 | 0=>rfl
 | n+1=>by
  rw[List.replicate_succ,cntF,Na n];simp;omega
theorem Nu {id:Nat} {a:Act} {w:World} {I:Array Bool->Act->World->Prop} (hm:P.follows .mixedOrders=true) (hbk:∀(i:Nat) (o:Oper),ops[i]?=some o->∀e∈o.after,Region.binds .any e=true->e.on<i)
  (h0:I (Array.replicate ops.size false) a { w with drawn:=w.drawn+1 })
  (hend:∀listed a w,(∀i,i<ops.size->listed.getD i false=true)->I listed a w->Q .normal a w)
  (hstep:∀listed a w i o,I listed a w->ops[i]?=some o->listed.getD i true=false->(∀e∈o.after,Region.binds .any e=true->listed.getD e.on false=true)->wpOp P ops Q i (I (listed.setIfInBounds i true)) a w):(Code.region id ops true).wp P Q a w:=
 wp_region_any hm (QR hbk hend hstep ops.size _ a _ (by simp) (by rw[Array.toList_replicate,Na];exact Nl _) h0)
end
section
variable {P:Program} {w:World} {mty kt et:TypeId} {d:TypeDesc} {r clock:Nat} {es:Array MapEntry} {key val:Value}
theorem Hr (hm:P.underlying mty=some (.map kt et)) (hd:P.underlying kt=some d) (hb:w.heap[r]?=some (.map es clock)) (hs:MapKept.Stamped es clock) (hks:∀x∈es.toList,MapKept.IsKey d x.key) (hk:MapKept.IsKey d key) :
  ∃es' clock',(Instr.mapUpdate mty (.map (some r)) key val).run P w=.ok () (ChangeMaps.setBlock w r (.map es' clock'))/\MapKept.Stamped es' clock'/\(∀x∈es'.toList,(x.key=key/\x.val=val)∨x∈es.toList)/\(∀x∈es.toList,∃y∈es'.toList,y.key=x.key)/\∃y∈es'.toList,y.key=key:=by
 rcases MapKept.findNow_spec hk es.toList 0 hks with ⟨h1,h2⟩|⟨j,e,h1,h2,h3⟩
 ·refine⟨es.push { key,val,born:=clock },clock+1,UX hm hd hk hb h1,MapKept.stamped_push hs h2,fun x hx=>?_,fun x hx=>⟨x,by simp[Array.toList_push,hx],rfl⟩,⟨_,by rw[Array.toList_push];exact List.mem_append_right _ (List.mem_singleton.2 rfl),rfl⟩⟩
  rw[Array.toList_push,List.mem_append,List.mem_singleton] at hx;rcases hx with hx|rfl
  ·exact .inr hx
  ·exact .inl ⟨rfl,rfl⟩
 ·have hj:es[j]?=some e:=by simpa using h2
  have hjl:=(Ag.1 hj).1;have hrun:(Instr.mapUpdate mty (.map (some r)) key val).run P w=.ok () (ChangeMaps.setBlock w r (.map (es.modify j fun e=>{ e with key:=key,val:=val }) clock)):=by
   simp[Instr.mapUpdate,run_underlying hm,MapKept.run_getObj_map hb,MapKept.run_checkKey hd hk,MapKept.run_findKey hd h1,hj,h3,MapKept.run_keyThatStays hk,MapKept.run_setObj_map _ hb,Result.andThen,ChangeMaps.setBlock]
  have hat:∀i:Nat,(es.modify j fun e=>{ e with key:=key,val:=val })[i]?=if j=i then (es[i]?).map (fun e=>({ e with key:=key,val:=val }:MapEntry)) else es[i]?:=fun i=>Array.getElem?_modify
  have hkey:∀e',es[j]?=some e'->({ e' with key:=key,val:=val }:MapEntry).key=e'.key:=fun e' he'=>by rw[hj] at he';cases he';exact h3.symm
  refine⟨_,_,hrun,MapKept.stamped_modify hs _ _ (fun _ _=>rfl) (fun e' _ he'=>hkey e' he'),fun x hx=>?_,fun x hx=>?_,?_⟩
  ·obtain⟨i,hi⟩:=List.mem_iff_getElem?.1 hx;rw[Array.getElem?_toList,hat i] at hi
   by_cases hij:j=i
   ·rw[if_pos hij,<-hij,hj] at hi;cases hi;exact .inl ⟨rfl,rfl⟩
   ·rw[if_neg hij] at hi;exact .inr (by rw[<-Array.getElem?_toList] at hi;exact Lm hi)
  ·obtain⟨i,hi⟩:=List.mem_iff_getElem?.1 hx;rw[Array.getElem?_toList] at hi
   by_cases hij:j=i
   ·subst hij;rw[hj] at hi;cases hi;refine⟨{ e with key:=key,val:=val },?_,h3.symm⟩
    have:=hat j
    rw[if_pos rfl,hj] at this;rw[<-Array.getElem?_toList] at this;exact Lm this
   ·refine⟨x,?_,rfl⟩
    have:=hat i
    rw[if_neg hij,hi,<-Array.getElem?_toList] at this;exact Lm this
  ·refine⟨{ e with key:=key,val:=val },?_,rfl⟩
   have:=hat j
   rw[if_pos rfl,hj,<-Array.getElem?_toList] at this;exact Lm this
end
structure GrM (w w':World):Prop where
 size:w.heap.size<=w'.heap.size
 block:∀(b:Nat) (ob:Obj),w.heap[b]?=some ob->(∀es c,ob≠.map es c)->w'.heap[b]?=some ob
theorem GrM.of_below {w w':World} (h:Below w.heap.size w w'):GrM w w':=⟨h.size,fun _ _ hb _=>Zv hb h⟩
theorem GrM.upd {w:World} {b:Nat} {es:Array MapEntry} {c:Nat} (h:w.heap[b]?=some (.map es c)) (o:Obj):GrM w (ChangeMaps.setBlock w b o):=⟨by simp[ChangeMaps.setBlock],fun b' ob hb hn=>by
 have hne:b'≠b:=fun e=>by rw[e,h] at hb;exact hn es c (Option.some.inj hb).symm
 exact (Yh hne).trans hb⟩
theorem Blk.gr {w w':World} {b:Nat} {cs:Array Value} (h:Blk w b cs) (hg:GrM w w'):Blk w' b cs:=by
 obtain⟨t,h⟩:=h;exact⟨t,hg.block _ _ h (fun _ _ e=>by cases e)⟩
def YA (w:World) (u:Value):Prop:=∃p q b1 b2,u=.func (.func 286) #[] #[.pointer (some ⟨b1,0,none⟩),.pointer (some ⟨b2,0,none⟩)]/\Blk w b1 #[.bool p]/\Blk w b2 #[.bool q]
theorem YA.gr {w w':World} {u:Value} (h:YA w u) (hg:GrM w w'):YA w' u:=by
 obtain⟨p,q,b1,b2,e,h1,h2⟩:=h;exact⟨p,q,b1,b2,e,h1.gr hg,h2.gr hg⟩
theorem Uz.any {w:World} {r:Nat} {u:Value} {p q:Bool} (h:Uz w r u p q):YA w u:=by
 obtain⟨b1,b2,e,h1,h2,-,-⟩:=h.is;exact⟨p,q,b1,b2,e,h1,h2⟩
def Vn (w:World) (b:Nat):Prop:=∃es c,w.heap[b]?=some (.map es c)/\MapKept.Stamped es c/\∀e∈es.toList,(∃k:Nat,k<13/\e.key=Zi (k:Int))/\YA w e.val
def ZU (w:World) (b i:Nat):Prop:=∃es c,w.heap[b]?=some (.map es c)/\∃e∈es.toList,e.key=Zi (i:Int)
theorem Vn.below {w w':World} {b:Nat} (h:Vn w b) (hb:Below w.heap.size w w'):Vn w' b:=by
 obtain⟨es,c,h1,h2,h3⟩:=h;exact⟨es,c,Zv h1 hb,h2,fun e he=>⟨(h3 e he).1,(h3 e he).2.gr (GrM.of_below hb)⟩⟩
theorem Vn.other {w:World} {b b':Nat} {es:Array MapEntry} {c:Nat} {o:Obj} (h:Vn w b') (hb:w.heap[b]?=some (.map es c)) (hn:b'≠b):Vn (ChangeMaps.setBlock w b o) b':=by
 obtain⟨es',c',h1,h2,h3⟩:=h;exact⟨es',c',(Yh hn).trans h1,h2,fun e he=>⟨(h3 e he).1,(h3 e he).2.gr (GrM.upd hb o)⟩⟩
theorem ZU.below {w w':World} {b i:Nat} (h:ZU w b i) (hb:Below w.heap.size w w'):ZU w' b i:=by
 obtain⟨es,c,h1,h2⟩:=h;exact⟨es,c,Zv h1 hb,h2⟩
theorem ZU.upd {w:World} {b b' i:Nat} {es es':Array MapEntry} {c c':Nat} (h:ZU w b' i) (hb:w.heap[b]?=some (.map es c)) (hk:∀x∈es.toList,∃y∈es'.toList,y.key=x.key):ZU (ChangeMaps.setBlock w b (.map es' c')) b' i:=by
 obtain⟨es1,c1,h1,e,he,hk1⟩:=h
 by_cases hn:b'=b
 ·subst hn;rw[hb] at h1;cases h1;obtain⟨y,hy,hk2⟩:=hk e he;exact⟨es',c',WG (Ag.1 hb).1,y,hy,hk2.trans hk1⟩
 ·exact⟨es1,c1,(Yh hn).trans h1,e,he,hk1⟩
theorem ZU.other {w:World} {b b' i:Nat} {o:Obj} (h:ZU w b' i) (hn:b'≠b):ZU (ChangeMaps.setBlock w b o) b' i:=by
 obtain⟨es1,c1,h1,h2⟩:=h;exact⟨es1,c1,(Yh hn).trans h1,h2⟩
def Nv:List Nat:=[0,1,2,3,10,11,12]
def KPg (w:World) (v:Value):Prop:=∃word cls H M code,v=.agg (ZE word cls H M code)/\H.length=13/\∀i:Nat,H[i]?=some true->i∈Nv∨∃b,M=some b/\Vn w b/\ZU w b i
def KX (bt:Nat) (v:Value):Prop:=∃word cls H code,v=.agg (ZE word cls H (some bt) code)/\TP H (fun i=>i∈[4,5,6]∨i∈[0,10])/\∀i,(i∈[4,5,6]∨i∈[0,10])->H[i]?=some true
def Ud (vp:Value) (w:World) (b:Nat):Prop:=∃es c,w.heap[b]?=some (.map es c)/\∀e∈es.toList,e.key=Zi 7/\e.val=vp
def KY (X:Nat->Prop) (v:Value):Prop:=∃word cls H b code,v=.agg (ZE word cls H (some b) code)/\X b/\TP H (fun i=>i=7∨i=0)/\H[7]?=some true/\H[0]?=some true
structure KC where
 b:Nat
 v:Value
def KP (bt:KC) (X:Nat->Prop) (k:Nat) (w:World) (v:Value):Prop:=KPg w v/\(k=4->KX bt.b v)/\(k=5∨k=13->KY X v)
theorem KY.mono {X X':Nat->Prop} {v:Value} (h:KY X v) (hX:∀b,X b->X' b):KY X' v:=by
 obtain⟨word,cls,H,b,code,e,h1,h2⟩:=h;exact⟨word,cls,H,b,code,e,hX b h1,h2⟩
theorem Ud.below {vp:Value} {w w':World} {b:Nat} (h:Ud vp w b) (hb:Below w.heap.size w w'):Ud vp w' b:=by
 obtain⟨es,c,h1,h2⟩:=h;exact⟨es,c,Zv h1 hb,h2⟩
theorem Ud.other {vp:Value} {w:World} {b b':Nat} {o:Obj} (h:Ud vp w b') (hn:b'≠b):Ud vp (ChangeMaps.setBlock w b o) b':=by
 obtain⟨es',c',h1,h2⟩:=h;exact⟨es',c',(Yh hn).trans h1,h2⟩
theorem Ud.lt {vp:Value} {w:World} {b:Nat} (h:Ud vp w b):b<w.heap.size:=by
 obtain⟨es',c',h1,-⟩:=h;exact (Ag.1 h1).1
theorem KPg.below {w w':World} {v:Value} (h:KPg w v) (hb:Below w.heap.size w w'):KPg w' v:=by
 obtain⟨word,cls,H,M,code,e,h1,h2⟩:=h;refine⟨word,cls,H,M,code,e,h1,fun i hi=>(h2 i hi).imp id ?_⟩
 rintro⟨b,e2,h3,h4⟩;exact⟨b,e2,h3.below hb,h4.below hb⟩
def TB (bt:KC) (X:Nat->Prop) (w:World) (b:Nat):Prop:=∃es c,w.heap[b]?=some (.map es c)/\MapKept.Stamped es c/\∀e∈es.toList,∃k:Nat,e.key=Zi (k:Int)/\KP bt X k w e.val
theorem TB.mono {bt:KC} {X X':Nat->Prop} {w:World} {b:Nat} (h:TB bt X w b) (hX:∀b,X b->X' b):TB bt X' w b:=by
 obtain⟨es,c,h1,h2,h3⟩:=h;refine⟨es,c,h1,h2,fun e he=>?_⟩
 obtain⟨k,hk,h4,h5,h6⟩:=h3 e he;exact⟨k,hk,h4,h5,fun h=>(h6 h).mono hX⟩
theorem TB.below {bt:KC} {X:Nat->Prop} {w w':World} {b:Nat} (h:TB bt X w b) (hb:Below w.heap.size w w'):TB bt X w' b:=by
 obtain⟨es,c,h1,h2,h3⟩:=h;refine⟨es,c,Zv h1 hb,h2,fun e he=>?_⟩
 obtain⟨k,hk,h4,h5⟩:=h3 e he;exact⟨k,hk,h4.below hb,h5⟩
theorem KPg.agg {w:World} {v:Value} (h:KPg w v) (hl:YA w v):False:=by
 obtain⟨word,cls,H,M,code,e,-⟩:=h;obtain⟨p,q,b1,b2,e2,-⟩:=hl;rw[e] at e2;cases e2
theorem KPg.num {w:World} {v:Value} {b:Nat} {es es':Array MapEntry} {c c':Nat} (h:KPg w v) (hb:w.heap[b]?=some (.map es c)) (hk:∀x∈es.toList,∃y∈es'.toList,y.key=x.key) (hn:Vn (ChangeMaps.setBlock w b (.map es' c')) b):KPg (ChangeMaps.setBlock w b (.map es' c')) v:=by
 obtain⟨word,cls,H,M,code,e,h1,h2⟩:=h;refine⟨word,cls,H,M,code,e,h1,fun i hi=>(h2 i hi).imp id ?_⟩
 rintro⟨b',e2,h3,h4⟩;refine⟨b',e2,?_,h4.upd hb hk⟩
 by_cases hbb:b'=b
 ·rw[hbb];exact hn
 ·exact h3.other hb hbb
theorem KPg.out {bt:KC} {X:Nat->Prop} {w:World} {v:Value} {b:Nat} {es':Array MapEntry} {c':Nat} (h:KPg w v) (ho:TB bt X w b):KPg (ChangeMaps.setBlock w b (.map es' c')) v:=by
 obtain⟨es,c,hb,-,ho⟩:=ho;obtain⟨word,cls,H,M,code,e,h1,h2⟩:=h;refine⟨word,cls,H,M,code,e,h1,fun i hi=>(h2 i hi).imp id ?_⟩
 rintro⟨b',e2,h3,h4⟩;have hne:b'≠b:=fun e=>by
  subst e;obtain⟨es1,c1,g1,e1,he1,-⟩:=h4;rw[hb] at g1;cases g1;obtain⟨k,-,hp,-⟩:=ho e1 he1;obtain⟨es2,c2,g2,-,g3⟩:=h3;rw[hb] at g2;cases g2;exact hp.agg (g3 e1 he1).2
 obtain⟨es1,c1,g1,g2⟩:=h4;exact⟨b',e2,h3.other hb hne,es1,c1,(Yh hne).trans g1,g2⟩
theorem Vn.ins {P:Program} {mty kt et:TypeId} {w:World} {b i:Nat} {u:Value} (h:Vn w b) (hi:i<13) (hu:YA w u) (hm:P.underlying mty=some (.map kt et)) (hd:P.underlying kt=some (.int .i64)) :
  ∃es es' c c',w.heap[b]?=some (.map es c)/\(Instr.mapUpdate mty (.map (some b)) (Zi (i:Int)) u).run P w=.ok () (ChangeMaps.setBlock w b (.map es' c'))/\Vn (ChangeMaps.setBlock w b (.map es' c')) b/\(∀x∈es.toList,∃y∈es'.toList,y.key=x.key)/\ZU (ChangeMaps.setBlock w b (.map es' c')) b i/\(Ud u w b->i=7->Ud u (ChangeMaps.setBlock w b (.map es' c')) b):=by
 obtain⟨es,c,h1,h2,h3⟩:=h;obtain⟨es',c',hr,hs,ha,hb,y,hy,hyk⟩:=Hr (P:=P) (mty:=mty) (val:=u) (key:=Zi (i:Int)) hm hd h1 h2 (fun x hx=>by obtain⟨⟨k,-,hk⟩,-⟩:=h3 x hx;rw[hk];rfl) rfl
 have hsame:=WG (w:=w) (b:=b) (o:=.map es' c') (Ag.1 h1).1;refine⟨es,es',c,c',h1,hr,⟨es',c',hsame,hs,fun e he=>?_⟩,hb,⟨es',c',hsame,y,hy,hyk⟩,?_⟩
 ·rcases ha e he with ⟨e1,e2⟩|he
  ·exact⟨⟨i,hi,e1⟩,by rw[e2];exact hu.gr (GrM.upd h1 _)⟩
  ·exact⟨(h3 e he).1,(h3 e he).2.gr (GrM.upd h1 _)⟩
 ·rintro⟨es2,c2,k1,k2⟩ rfl;rw[h1] at k1;cases k1;refine⟨es',c',hsame,fun e he=>?_⟩
  rcases ha e he with ⟨e1,e2⟩|he
  ·exact⟨e1,e2⟩
  ·exact k2 e he
theorem TB.ins {P:Program} {mty kt et:TypeId} {bt:KC} {X:Nat->Prop} {w:World} {b k:Nat} {v:Value} (h:TB bt X w b) (hv:KP bt X k w v) (hm:P.underlying mty=some (.map kt et)) (hd:P.underlying kt=some (.int .i64)) :
  ∃es es' c c',w.heap[b]?=some (.map es c)/\(Instr.mapUpdate mty (.map (some b)) (Zi (k:Int)) v).run P w=.ok () (ChangeMaps.setBlock w b (.map es' c'))/\TB bt X (ChangeMaps.setBlock w b (.map es' c')) b/\(∀x∈es.toList,∃y∈es'.toList,y.key=x.key)/\ZU (ChangeMaps.setBlock w b (.map es' c')) b k:=by
 have ho:=h;obtain⟨es,c,h1,h2,h3⟩:=h;obtain⟨es',c',hr,hs,ha,hb,y,hy,hk⟩:=Hr (P:=P) (mty:=mty) (val:=v) (key:=Zi (k:Int)) hm hd h1 h2 (fun x hx=>by obtain⟨k,hk,-⟩:=h3 x hx;rw[hk];rfl) rfl
 have hsame:=WG (w:=w) (b:=b) (o:=.map es' c') (Ag.1 h1).1;refine⟨es,es',c,c',h1,hr,⟨es',c',hsame,hs,fun e he=>?_⟩,hb,es',c',hsame,y,hy,hk⟩
 rcases ha e he with ⟨e1,e2⟩|he
 ·exact⟨k,e1,by rw[e2];exact⟨hv.1.out ho,hv.2⟩⟩
 ·obtain⟨k',hk',h4,h5⟩:=h3 e he;exact⟨k',hk',h4.out ho,h5⟩
end Go.Proofs.YtpieeldbamklkaaGreatDoor
