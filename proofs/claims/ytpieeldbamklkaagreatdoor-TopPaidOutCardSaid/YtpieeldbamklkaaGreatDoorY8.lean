/- Texts put together: Kd Ro Uv Rp Rq Rs Rt Ru Rv Rw. -/
import Derived.Test.YtpieeldbamklkaaGreatDoorY7
import Derived.OwnWalkIn
set_option maxHeartbeats 8000000
set_option maxRecDepth 100000
open Go.Proofs.Tryz
namespace Go.Proofs.YtpieeldbamklkaaGreatDoor
open Go.RowKit Go.Shelf Num
theorem Wi {e:Operand->Value} {o:Oper} {w:World} (x y:Operand) (ho:o.op=.binOp .neq 34 x y 34) (l l':List UInt8) (hx:e x=.agg #[.string ⟨l.toArray⟩,.string ⟨l'.toArray⟩]) (hy:e y=.agg #[.string ⟨#[]⟩,.string ⟨#[]⟩]) :
  (execOp e o).run prog w=.ok (.value (.bool (!(l.isEmpty&&l'.isEmpty)))) w:=by
 unfold execOp;simp only[ho,hx,hy];go_simp
 by_cases h1:l=[]
 ·by_cases h2:l'=[]
  ·simp[h1,h2]
  ·simp[h1,h2]
 ·simp[h1]
structure Opn where
 oth:List UInt8
 rn:List UInt8
 rd:List UInt8
 pn:List UInt8
 pd:List UInt8
 vn:List UInt8
 vd:List UInt8
structure Za9 (w:World) (b o:Nat) (x:Opn):Prop where
 c0:w.cell? ⟨b,o,none⟩=some (.string ⟨x.oth.toArray⟩)
 c1:w.cell? ⟨b,o+1,none⟩=some (.string ⟨x.rn.toArray⟩)
 c2:w.cell? ⟨b,o+2,none⟩=some (.string ⟨x.rd.toArray⟩)
 c3:w.cell? ⟨b,o+3,none⟩=some (.string ⟨x.pn.toArray⟩)
 c4:w.cell? ⟨b,o+4,none⟩=some (.string ⟨x.pd.toArray⟩)
 c5:w.cell? ⟨b,o+5,none⟩=some (.string ⟨x.vn.toArray⟩)
 c6:w.cell? ⟨b,o+6,none⟩=some (.string ⟨x.vd.toArray⟩)
def QJ (w:World) (A:Option Addr) (os:List Opn):Prop:=∀(i:Nat) (r:Opn),os[i]?=some r->∃b o,A=some ⟨b,o,none⟩/\b<w.heap.size/\Za9 w b (o+i*7) r
theorem QJ.below {w w':World} {A:Option Addr} {os:List Opn} (h:QJ w A os) (hb:Below w.heap.size w w'):QJ w' A os:=fun i r hr=>by
 obtain⟨b,o,e,hlt,hc⟩:=h i r hr;have hk:∀j,w'.cell? ⟨b,j,none⟩=w.cell? ⟨b,j,none⟩:=fun j=>World.cell?_of_block (hb.block _ hlt)
 exact⟨b,o,e,Nat.lt_of_lt_of_le hlt hb.size,(hk _).trans hc.c0,(hk _).trans hc.c1,(hk _).trans hc.c2,(hk _).trans hc.c3,(hk _).trans hc.c4,(hk _).trans hc.c5,(hk _).trans hc.c6⟩
def Ax (x:Opn):Prop:=x.oth.length<=1000/\x.rn.length<=1000/\x.rd.length<=1000/\x.pn.length<=1000/\x.pd.length<=1000/\x.vn.length<=1000/\x.vd.length<=1000
def opF (x:Opn):List (List UInt8×List UInt8):=[(x.rn,x.rd),(x.pn,x.pd),(x.vn,x.vd)]
theorem LL {x:Opn} {w:World} {b:Nat} (h:Blk w b #[.string ⟨x.rn.toArray⟩,.string ⟨x.rd.toArray⟩,.string ⟨x.pn.toArray⟩,.string ⟨x.pd.toArray⟩,.string ⟨x.vn.toArray⟩,.string ⟨x.vd.toArray⟩]) {i:Nat} {p:List UInt8×List UInt8} (hp:(opF x)[i]?=some p):w.cell? ⟨b,i*2,none⟩=some (.string ⟨List.toArray p.1⟩)/\w.cell? ⟨b,i*2+1,none⟩=some (.string ⟨List.toArray p.2⟩):=by
 have hi:i<3:=(Lg.1 hp).1
 match i,hi with
 | 0,_=>cases hp;exact⟨h.c 0,h.c 1⟩
 | 1,_=>cases hp;exact⟨h.c 2,h.c 3⟩
 | 2,_=>cases hp;exact⟨h.c 4,h.c 5⟩
theorem I8 {x:Opn} (h:Ax x) {i:Nat} {p:List UInt8×List UInt8} (hp:(opF x)[i]?=some p):p.1.length<=1000/\p.2.length<=1000:=by
 obtain⟨-,h1,h2,h3,h4,h5,h6⟩:=h;have hi:i<3:=(Lg.1 hp).1
 match i,hi with
 | 0,_=>cases hp;exact⟨h1,h2⟩
 | 1,_=>cases hp;exact⟨h3,h4⟩
 | 2,_=>cases hp;exact⟨h5,h6⟩
theorem DD {f:Fct} {os:List Opn} {w:World} (hG:GE w) (hp:QJ w f.oA os) (hn:os.length=f.oN) (hps:∀p∈os,Ax p) :
  Calls prog 236 #[.agg (Zi f)] w fun e w'=>(∃E:Int,e=.returned (.int .i64 E))/\Below w.heap.size w w':=by
 have hb0:=Zb w (.cells (Zi f) 48);have x0:Blk (w.alloc (.cells (Zi f) 48)) w.heap.size (Zi f):=Blk.new w _ 48;have q19:(w.alloc (.cells (Zi f) 48)).cell? ⟨w.heap.size,19,none⟩=some (.slice f.oA f.oN f.oC):=x0.c 19;obtain⟨n,hN⟩:∃n,n=f.oN:=⟨_,rfl⟩
 obtain⟨A,hAA⟩:∃A,A=f.oA:=⟨_,rfl⟩
 rw[<-hN] at hn q19;rw[<-hAA] at hp q19;have HPS:=Lh hps;have HN:=Lh hn;have HP:=Lh hp;clear hps hp hAA
 by_cases hz:n=0
 ·have e1:(n==0)=true:=by rw[beq_iff_eq];exact hz
  have e2:((n:Int)==0)=true:=by rw[beq_iff_eq];omega
  clear hn hN;go_enter func236,ntmps236;go_wp2;go_ret;exact⟨⟨_,rfl⟩,hb0⟩
 have z1:(n==0)=false:=by rw[Bn];exact hz
 have z2:((n:Int)==0)=false:=by rw[Bn];omega
 by_cases h64:8<n
 ·have e1:decide (8<n)=true:=Dt h64;have e2:decide (8<(n:Int))=true:=Dt (by omega)
  clear hn hN;go_enter func236,ntmps236;go_wp2;go_ret;exact⟨⟨_,rfl⟩,hb0⟩
 have e1:decide (8<n)=false:=Df h64;have e2:decide (8<(n:Int))=false:=Df (by omega)
 have HX0:=Lh x0;clear hn x0 hN;go_enter func236,ntmps236;go_wp2_with fail
 go_loopw [4,6,7,19,45] (fun _ _ _ iv _ wr=>∃(k:Nat),k<=n/\iv=.int .i64 (k:Int)/\Hid (Below w.heap.size w wr)/\Hid (Blk wr w.heap.size (Zi f))) (fun _ _ _ iv _ _=>n-(intOf iv).toNat)
 case atStart=>exact⟨0,Nat.zero_le _,rfl,hb0,HX0.out⟩
 case round=>
  clear hb0 HX0 q19;obtain⟨k,hk,rfl,HB,HF⟩:=hrel
  by_cases hlk:k<n
  rotate_left
  ·have e3:decide (k<n)=false:=Df hlk;have e4:decide ((k:Int)<(n:Int))=false:=Df (by omega)
   have hbq:=HB.out;go_wp2;go_ret;exact⟨⟨_,rfl⟩,hbq⟩
  have e3:decide (k<n)=true:=Dt hlk;have e4:decide ((k:Int)<(n:Int))=true:=Dt (by omega)
  obtain⟨x,hx⟩:∃x,os[k]?=some x:=⟨_,List.getElem?_eq_getElem (by have:=HN.out;omega)⟩
  obtain⟨b,o,rfl,hbs,hcs⟩:=(HP.out.below HB.out) k x hx;have p0:=hcs.c0;have p1:=hcs.c1;have p2:=hcs.c2;have p3:=hcs.c3;have p4:=hcs.c4;have p5:=hcs.c5;have p6:=hcs.c6;have hxs:=HPS.out x (Lm hx);have hxo:=hxs.1;have HXS:=Lh hxs;have hbA:=Zb wr (.cells #[.string ⟨x.oth.toArray⟩,.string ⟨x.rn.toArray⟩,.string ⟨x.rd.toArray⟩,.string ⟨x.pn.toArray⟩,.string ⟨x.pd.toArray⟩,.string ⟨x.vn.toArray⟩,.string ⟨x.vd.toArray⟩] 197);have y1:Blk (wr.alloc (.cells #[.string ⟨x.oth.toArray⟩,.string ⟨x.rn.toArray⟩,.string ⟨x.rd.toArray⟩,.string ⟨x.pn.toArray⟩,.string ⟨x.pd.toArray⟩,.string ⟨x.vn.toArray⟩,.string ⟨x.vd.toArray⟩] 197)) wr.heap.size #[.string ⟨x.oth.toArray⟩,.string ⟨x.rn.toArray⟩,.string ⟨x.rd.toArray⟩,.string ⟨x.pn.toArray⟩,.string ⟨x.pd.toArray⟩,.string ⟨x.vn.toArray⟩,.string ⟨x.vd.toArray⟩]:=Blk.new wr _ 197;have C1:=Lh ((P4 (l:=x.oth) (by omega)).e)
  have HBA:=Lh (bto HB.out hbA);have HFA:=Lh (HF.out.below hbA);have Y1:=Lh y1;clear hx hxs hxo HB HF hcs;have q0:(wr.alloc (.cells #[.string ⟨x.oth.toArray⟩,.string ⟨x.rn.toArray⟩,.string ⟨x.rd.toArray⟩,.string ⟨x.pn.toArray⟩,.string ⟨x.pd.toArray⟩,.string ⟨x.vn.toArray⟩,.string ⟨x.vd.toArray⟩] 197)).cell? ⟨wr.heap.size,0,none⟩=some (.string ⟨x.oth.toArray⟩):=y1.c 0;clear y1 hbA
  by_cases ho:x.oth=[]
  ·have o1:x.oth.isEmpty=true:=by rw[ho];rfl
   have Y2:=Y1;have HF2:=HFA;have HB2:=HBA;clear Y1 HFA HBA C1 q0 ho;have q0:(wr.alloc (.cells #[.string ⟨x.oth.toArray⟩,.string ⟨x.rn.toArray⟩,.string ⟨x.rd.toArray⟩,.string ⟨x.pn.toArray⟩,.string ⟨x.pd.toArray⟩,.string ⟨x.vn.toArray⟩,.string ⟨x.vd.toArray⟩] 197)).cell? ⟨wr.heap.size,0,none⟩=some (.string ⟨x.oth.toArray⟩):=Y2.out.c 0;have q5:(wr.alloc (.cells #[.string ⟨x.oth.toArray⟩,.string ⟨x.rn.toArray⟩,.string ⟨x.rd.toArray⟩,.string ⟨x.pn.toArray⟩,.string ⟨x.pd.toArray⟩,.string ⟨x.vn.toArray⟩,.string ⟨x.vd.toArray⟩] 197)).cell? ⟨w.heap.size,5,none⟩=some (.string ⟨f.ins.toArray⟩):=HF2.out.c 5
   by_cases hi:x.oth=f.ins
   ·have e5:(x.oth==f.ins)=true:=by rw[beq_iff_eq];exact hi
    have hbq:=HB2.out;clear hi;go_wp2;go_ret;exact⟨⟨_,rfl⟩,hbq⟩
   have e5:(x.oth==f.ins)=false:=by rw[Bn];exact hi
   have q1:(wr.alloc (.cells #[.string ⟨x.oth.toArray⟩,.string ⟨x.rn.toArray⟩,.string ⟨x.rd.toArray⟩,.string ⟨x.pn.toArray⟩,.string ⟨x.pd.toArray⟩,.string ⟨x.vn.toArray⟩,.string ⟨x.vd.toArray⟩] 197)).cell? ⟨wr.heap.size,1,none⟩=some (.string ⟨x.rn.toArray⟩):=Y2.out.c 1;have q2:(wr.alloc (.cells #[.string ⟨x.oth.toArray⟩,.string ⟨x.rn.toArray⟩,.string ⟨x.rd.toArray⟩,.string ⟨x.pn.toArray⟩,.string ⟨x.pd.toArray⟩,.string ⟨x.vn.toArray⟩,.string ⟨x.vd.toArray⟩] 197)).cell? ⟨wr.heap.size,2,none⟩=some (.string ⟨x.rd.toArray⟩):=Y2.out.c 2;have q3:(wr.alloc (.cells #[.string ⟨x.oth.toArray⟩,.string ⟨x.rn.toArray⟩,.string ⟨x.rd.toArray⟩,.string ⟨x.pn.toArray⟩,.string ⟨x.pd.toArray⟩,.string ⟨x.vn.toArray⟩,.string ⟨x.vd.toArray⟩] 197)).cell? ⟨wr.heap.size,3,none⟩=some (.string ⟨x.pn.toArray⟩):=Y2.out.c 3;have q4:(wr.alloc (.cells #[.string ⟨x.oth.toArray⟩,.string ⟨x.rn.toArray⟩,.string ⟨x.rd.toArray⟩,.string ⟨x.pn.toArray⟩,.string ⟨x.pd.toArray⟩,.string ⟨x.vn.toArray⟩,.string ⟨x.vd.toArray⟩] 197)).cell? ⟨wr.heap.size,4,none⟩=some (.string ⟨x.pd.toArray⟩):=Y2.out.c 4;have q6:(wr.alloc (.cells #[.string ⟨x.oth.toArray⟩,.string ⟨x.rn.toArray⟩,.string ⟨x.rd.toArray⟩,.string ⟨x.pn.toArray⟩,.string ⟨x.pd.toArray⟩,.string ⟨x.vn.toArray⟩,.string ⟨x.vd.toArray⟩] 197)).cell? ⟨wr.heap.size,5,none⟩=some (.string ⟨x.vn.toArray⟩):=Y2.out.c 5;have q7:(wr.alloc (.cells #[.string ⟨x.oth.toArray⟩,.string ⟨x.rn.toArray⟩,.string ⟨x.rd.toArray⟩,.string ⟨x.pn.toArray⟩,.string ⟨x.pd.toArray⟩,.string ⟨x.vn.toArray⟩,.string ⟨x.vd.toArray⟩] 197)).cell? ⟨wr.heap.size,6,none⟩=some (.string ⟨x.vd.toArray⟩):=Y2.out.c 6;have hbS:=Zb (wr.alloc (.cells #[.string ⟨x.oth.toArray⟩,.string ⟨x.rn.toArray⟩,.string ⟨x.rd.toArray⟩,.string ⟨x.pn.toArray⟩,.string ⟨x.pd.toArray⟩,.string ⟨x.vn.toArray⟩,.string ⟨x.vd.toArray⟩] 197)) (.cells #[.string ⟨x.rn.toArray⟩,.string ⟨x.rd.toArray⟩,.string ⟨x.pn.toArray⟩,.string ⟨x.pd.toArray⟩,.string ⟨x.vn.toArray⟩,.string ⟨x.vd.toArray⟩] 34);have z1:Blk ((wr.alloc (.cells #[.string ⟨x.oth.toArray⟩,.string ⟨x.rn.toArray⟩,.string ⟨x.rd.toArray⟩,.string ⟨x.pn.toArray⟩,.string ⟨x.pd.toArray⟩,.string ⟨x.vn.toArray⟩,.string ⟨x.vd.toArray⟩] 197)).alloc (.cells #[.string ⟨x.rn.toArray⟩,.string ⟨x.rd.toArray⟩,.string ⟨x.pn.toArray⟩,.string ⟨x.pd.toArray⟩,.string ⟨x.vn.toArray⟩,.string ⟨x.vd.toArray⟩] 34)) (wr.heap.size+1) #[.string ⟨x.rn.toArray⟩,.string ⟨x.rd.toArray⟩,.string ⟨x.pn.toArray⟩,.string ⟨x.pd.toArray⟩,.string ⟨x.vn.toArray⟩,.string ⟨x.vd.toArray⟩]:=by have h:=Blk.new (wr.alloc (.cells #[.string ⟨x.oth.toArray⟩,.string ⟨x.rn.toArray⟩,.string ⟨x.rd.toArray⟩,.string ⟨x.pn.toArray⟩,.string ⟨x.pd.toArray⟩,.string ⟨x.vn.toArray⟩,.string ⟨x.vd.toArray⟩] 197)) #[.string ⟨x.rn.toArray⟩,.string ⟨x.rd.toArray⟩,.string ⟨x.pn.toArray⟩,.string ⟨x.pd.toArray⟩,.string ⟨x.vn.toArray⟩,.string ⟨x.vd.toArray⟩] 34;rwa [World.size_alloc] at h
   have HS:=Lh (And.intro (bto HB2.out hbS) (And.intro (Y2.out.below hbS) (And.intro (HF2.out.below hbS) z1)));clear hi hbS z1 Y2 HF2 HB2;go_wp2_with fail;clear p0 p1 p2 p3 p4 p5 p6 q0 q5 q1 q2 q3 q4 q6 q7 e5;generalize wr.heap.size=bx at *
   go_loopw [6,7,45] (fun _ _ iv wi=>∃(j:Nat),j<=3/\iv=.int .i64 (j:Int)/\Hid (Below w.heap.size w wi/\Blk wi bx #[.string ⟨x.oth.toArray⟩,.string ⟨x.rn.toArray⟩,.string ⟨x.rd.toArray⟩,.string ⟨x.pn.toArray⟩,.string ⟨x.pd.toArray⟩,.string ⟨x.vn.toArray⟩,.string ⟨x.vd.toArray⟩]/\Blk wi w.heap.size (Zi f)/\Blk wi (bx+1) #[.string ⟨x.rn.toArray⟩,.string ⟨x.rd.toArray⟩,.string ⟨x.pn.toArray⟩,.string ⟨x.pd.toArray⟩,.string ⟨x.vn.toArray⟩,.string ⟨x.vd.toArray⟩])) (fun _ _ iv _=>3-(intOf iv).toNat)
   case atStart=>exact⟨0,by omega,rfl,HS.out⟩
   case round=>
    clear HS;obtain⟨j,hj,rfl,HS⟩:=hrel
    by_cases hlj:j<3
    ·have f1:decide (j<3)=true:=Dt hlj;have f2:decide ((j:Int)<3)=true:=Dt (by omega)
     obtain⟨p,hp⟩:∃p,(opF x)[j]?=some p:=⟨_,List.getElem?_eq_getElem (show j<3 from hlj)⟩
     obtain⟨g1,g2⟩:=LL HS.out.2.2.2 hp;obtain⟨hl1,hl2⟩:=I8 HXS.out hp;obtain⟨E2,hE2⟩:∃E2,E2=bwE false false p.1 p.2 (fv p.1 p.2):=⟨_,rfl⟩
     have CB:Hid (∀w' b1 b2,GE w'->Blk w' b1 #[.bool false]->Blk w' b2 #[.bool false]->Calls prog 286 #[.agg #[.string ⟨List.toArray p.1⟩,.string ⟨List.toArray p.2⟩],.pointer (some ⟨b1,0,none⟩),.pointer (some ⟨b2,0,none⟩)] w' fun e w''=>e=.returned (.int .i64 E2)/\Below w'.heap.size w' w''):=fun w' b1 b2 hG' h1 h2=>by
      rw[hE2];exact I5 false false (SH (k:=1000) hl1 hl2 (by decide)) hG' h1 h2
     have hbF:=Zb wr (.cells #[.string ⟨List.toArray p.1⟩,.string ⟨List.toArray p.2⟩] 34);have y3:Blk (wr.alloc (.cells #[.string ⟨List.toArray p.1⟩,.string ⟨List.toArray p.2⟩] 34)) wr.heap.size #[.string ⟨List.toArray p.1⟩,.string ⟨List.toArray p.2⟩]:=Blk.new wr _ 34;have Y3:=Lh y3;have hb3:=bto HS.out.1 hbF;have HS3:=Lh (And.intro (HS.out.2.1.below hbF) (And.intro (HS.out.2.2.1.below hbF) (HS.out.2.2.2.below hbF)));clear hp hl1 hl2 hE2 y3 hbF HS;go_wp2_with fail;refine VA (by kernel_rfl) (by kernel_rfl) ?_
     refine OL 229 #[.bool false,.bool false] (fun w u=>∃b1 b2,u=.func (.func 286) #[] #[.pointer (some ⟨b1,0,none⟩),.pointer (some ⟨b2,0,none⟩)]/\Blk w b1 #[.bool false]/\Blk w b2 #[.bool false]) rfl (fun w w' u ⟨b1,b2,e,h1,h2⟩ hb=>⟨b1,b2,e,h1.below hb,h2.below hb⟩) (fun _=>rfl) (fun ρ wz hw=>by go_simp;try rfl) (fun wz hw=>Vl false false wz) ?_
     simp only[Act.put,StT,StZ,StS,Nat.reduceAdd];refine VB _ (fun _=>rfl) (fun ρ wz hw=>by have q0:wz.cell? ⟨wr.heap.size,0,none⟩=some (.string ⟨List.toArray p.1⟩):=(Y3.out.below hw).c 0;have q1:wz.cell? ⟨wr.heap.size,1,none⟩=some (.string ⟨List.toArray p.2⟩):=(Y3.out.below hw).c 1;go_simp;try rfl) ?_
     simp only[Act.put,StT,StZ,StS,Nat.reduceAdd];refine Sf 0 _ _ _ 49 rfl rfl rfl (by decide) (fun _=>rfl) (fun ρ wz hw ⟨b1,b2,e,h1,h2⟩=>⟨286,#[.agg #[.string ⟨List.toArray p.1⟩,.string ⟨List.toArray p.2⟩],.pointer (some ⟨b1,0,none⟩),.pointer (some ⟨b2,0,none⟩)],by simp only[e];go_simp;try rfl,CB.out wz b1 b2 (hG.below (bto hb3 hw)) h1 h2⟩) ?_
     simp only[Act.put,StT,StZ,StS,Nat.reduceAdd];refine VB _ (fun _=>rfl) (fun ρ wz hw=>by go_simp;try rfl) ?_
     simp only[Act.put,StT,StZ,StS,Nat.reduceAdd];intro ρ w4 hF;have HS4:=Lh (And.intro (bto hb3 hF.below) (And.intro (HS3.out.1.below hF.below) (And.intro (HS3.out.2.1.below hF.below) (HS3.out.2.2.below hF.below))));clear hF HS3 hb3 CB Y3 g1 g2
     by_cases h0:E2=0
     rotate_left
     ·have e5:decide (E2=0)=false:=Df h0;have e6:(E2==0)=false:=by rw[Bn];exact h0
      have hb4:=HS4.out.1;go_wp2;go_ret;exact⟨⟨_,rfl⟩,hb4⟩
     subst h0;go_wp2;go_roundw
     case rel=>exact⟨j+1,by omega,by go_num,HS4.out⟩
     case measure=>simp[intOf];omega
    have hj3:j=3:=by omega
    subst hj3;have f1:decide (3<3)=false:=rfl;have Y5:=Lh HS.out.2.1;have HF5:=Lh HS.out.2.2.1;have HB5:=Lh HS.out.1;clear HS;go_wp2_with fail
    by_cases h2:(x.rn.isEmpty&&x.rd.isEmpty)=false
    ·have e2:(x.rn.isEmpty&&x.rd.isEmpty)=false:=h2;clear h2;refine Zm (by kernel_rfl) (by kernel_rfl) ?_
     refine KeV ?_;simp only[Act.put,StT,StZ,StS,Nat.reduceAdd];refine KeW (fun ρ wz hw=>by have q0:wz.cell? ⟨bx,0,none⟩=some (.string ⟨x.oth.toArray⟩):=(Y5.out.below hw).c 0;go_simp;try rfl) ?_
     simp only[Act.put,StT,StZ,StS,Nat.reduceAdd];refine KeV (v:=.bool false) ?_;simp only[Act.put,StT,StZ,StS,Nat.reduceAdd];refine KeV ?_;simp only[Act.put,StT,StZ,StS,Nat.reduceAdd];refine KeW (fun ρ wz hw=>by have q1:wz.cell? ⟨bx,1,none⟩=some (.string ⟨x.rn.toArray⟩):=(Y5.out.below hw).c 1;have q2:wz.cell? ⟨bx,2,none⟩=some (.string ⟨x.rd.toArray⟩):=(Y5.out.below hw).c 2;go_simp;try rfl) ?_
     simp only[Act.put,StT,StZ,StS,Nat.reduceAdd];refine KeV ?_;simp only[Act.put,StT,StZ,StS,Nat.reduceAdd];refine Zw (.bool true) (fun _=>rfl) (fun ρ wz hw=>(Wi _ _ rfl x.rn x.rd rfl rfl).trans (by rw[e2];rfl)) ?_
     simp only[Act.put,StT,StZ,StS,Nat.reduceAdd];refine KeV (v:=.bool true) ?_;simp only[Act.put,StT,StZ,StS,Nat.reduceAdd];refine KeV ?_
     iterate 9
      simp only[Act.put,StT,StZ,StS,Nat.reduceAdd];refine Yn (fun _=>rfl) ?_
     simp only[Act.put,StT,StZ,StS,Nat.reduceAdd];refine KeV ?_;simp only[Act.put,StT,StZ,StS,Nat.reduceAdd];refine ZC (fun ρ w9 hF=>?_)
     have hb6:=bto HB5.out hF.below;clear hF Y5 HF5 HB5;go_wp2;go_ret;exact⟨⟨_,rfl⟩,hb6⟩
    have e2:(x.rn.isEmpty&&x.rd.isEmpty)=true:=by cases hh:(x.rn.isEmpty&&x.rd.isEmpty) with|true=>rfl|false=>exact absurd hh h2
    clear h2;cases hv:(x.vn.isEmpty&&x.vd.isEmpty) with
    | false=>
     have e3:(x.vn.isEmpty&&x.vd.isEmpty)=false:=hv;clear hv;refine Zm (by kernel_rfl) (by kernel_rfl) ?_
     refine KeV ?_;simp only[Act.put,StT,StZ,StS,Nat.reduceAdd];refine KeW (fun ρ wz hw=>by have q0:wz.cell? ⟨bx,0,none⟩=some (.string ⟨x.oth.toArray⟩):=(Y5.out.below hw).c 0;go_simp;try rfl) ?_
     simp only[Act.put,StT,StZ,StS,Nat.reduceAdd];refine KeV (v:=.bool false) ?_;simp only[Act.put,StT,StZ,StS,Nat.reduceAdd];refine KeV ?_;simp only[Act.put,StT,StZ,StS,Nat.reduceAdd];refine KeW (fun ρ wz hw=>by have q1:wz.cell? ⟨bx,1,none⟩=some (.string ⟨x.rn.toArray⟩):=(Y5.out.below hw).c 1;have q2:wz.cell? ⟨bx,2,none⟩=some (.string ⟨x.rd.toArray⟩):=(Y5.out.below hw).c 2;go_simp;try rfl) ?_
     simp only[Act.put,StT,StZ,StS,Nat.reduceAdd];refine KeV ?_;simp only[Act.put,StT,StZ,StS,Nat.reduceAdd];refine Zw (.bool false) (fun _=>rfl) (fun ρ wz hw=>(Wi _ _ rfl x.rn x.rd rfl rfl).trans (by rw[e2];rfl)) ?_
     simp only[Act.put,StT,StZ,StS,Nat.reduceAdd];refine KeV (v:=.bool false) ?_
     iterate 2
      simp only[Act.put,StT,StZ,StS,Nat.reduceAdd];refine KeV ?_
     simp only[Act.put,StT,StZ,StS,Nat.reduceAdd];refine KeW (fun ρ wz hw=>by have q0:wz.cell? ⟨bx,0,none⟩=some (.string ⟨x.oth.toArray⟩):=(Y5.out.below hw).c 0;go_simp;try rfl) ?_
     simp only[Act.put,StT,StZ,StS,Nat.reduceAdd];refine KeV (v:=.bool true) ?_
     iterate 2
      simp only[Act.put,StT,StZ,StS,Nat.reduceAdd];refine KeV ?_
     simp only[Act.put,StT,StZ,StS,Nat.reduceAdd];refine KeW (fun ρ wz hw=>by have q5:wz.cell? ⟨bx,5,none⟩=some (.string ⟨x.vn.toArray⟩):=(Y5.out.below hw).c 5;have q6:wz.cell? ⟨bx,6,none⟩=some (.string ⟨x.vd.toArray⟩):=(Y5.out.below hw).c 6;go_simp;try rfl) ?_
     simp only[Act.put,StT,StZ,StS,Nat.reduceAdd];refine KeV ?_;simp only[Act.put,StT,StZ,StS,Nat.reduceAdd];refine Zw (.bool true) (fun _=>rfl) (fun ρ wz hw=>(Wi _ _ rfl x.vn x.vd rfl rfl).trans (by rw[e3];rfl)) ?_
     iterate 2
      simp only[Act.put,StT,StZ,StS,Nat.reduceAdd];refine KeV ?_
     simp only[Act.put,StT,StZ,StS,Nat.reduceAdd];refine ZC (fun ρ w9 hF=>?_)
     have hb6:=bto HB5.out hF.below;clear hF Y5 HF5 HB5;go_wp2;go_ret;exact⟨⟨_,rfl⟩,hb6⟩
    | true=>
     have e3:(x.vn.isEmpty&&x.vd.isEmpty)=true:=hv;clear hv;refine Zm (by kernel_rfl) (by kernel_rfl) ?_
     refine KeV ?_;simp only[Act.put,StT,StZ,StS,Nat.reduceAdd];refine KeW (fun ρ wz hw=>by have q0:wz.cell? ⟨bx,0,none⟩=some (.string ⟨x.oth.toArray⟩):=(Y5.out.below hw).c 0;go_simp;try rfl) ?_
     simp only[Act.put,StT,StZ,StS,Nat.reduceAdd];refine KeV (v:=.bool false) ?_;simp only[Act.put,StT,StZ,StS,Nat.reduceAdd];refine KeV ?_;simp only[Act.put,StT,StZ,StS,Nat.reduceAdd];refine KeW (fun ρ wz hw=>by have q1:wz.cell? ⟨bx,1,none⟩=some (.string ⟨x.rn.toArray⟩):=(Y5.out.below hw).c 1;have q2:wz.cell? ⟨bx,2,none⟩=some (.string ⟨x.rd.toArray⟩):=(Y5.out.below hw).c 2;go_simp;try rfl) ?_
     simp only[Act.put,StT,StZ,StS,Nat.reduceAdd];refine KeV ?_;simp only[Act.put,StT,StZ,StS,Nat.reduceAdd];refine Zw (.bool false) (fun _=>rfl) (fun ρ wz hw=>(Wi _ _ rfl x.rn x.rd rfl rfl).trans (by rw[e2];rfl)) ?_
     simp only[Act.put,StT,StZ,StS,Nat.reduceAdd];refine KeV (v:=.bool false) ?_
     iterate 2
      simp only[Act.put,StT,StZ,StS,Nat.reduceAdd];refine KeV ?_
     simp only[Act.put,StT,StZ,StS,Nat.reduceAdd];refine KeW (fun ρ wz hw=>by have q0:wz.cell? ⟨bx,0,none⟩=some (.string ⟨x.oth.toArray⟩):=(Y5.out.below hw).c 0;go_simp;try rfl) ?_
     simp only[Act.put,StT,StZ,StS,Nat.reduceAdd];refine KeV (v:=.bool true) ?_
     iterate 2
      simp only[Act.put,StT,StZ,StS,Nat.reduceAdd];refine KeV ?_
     simp only[Act.put,StT,StZ,StS,Nat.reduceAdd];refine KeW (fun ρ wz hw=>by have q5:wz.cell? ⟨bx,5,none⟩=some (.string ⟨x.vn.toArray⟩):=(Y5.out.below hw).c 5;have q6:wz.cell? ⟨bx,6,none⟩=some (.string ⟨x.vd.toArray⟩):=(Y5.out.below hw).c 6;go_simp;try rfl) ?_
     simp only[Act.put,StT,StZ,StS,Nat.reduceAdd];refine KeV ?_;simp only[Act.put,StT,StZ,StS,Nat.reduceAdd];refine Zw (.bool false) (fun _=>rfl) (fun ρ wz hw=>(Wi _ _ rfl x.vn x.vd rfl rfl).trans (by rw[e3];rfl)) ?_
     iterate 2
      simp only[Act.put,StT,StZ,StS,Nat.reduceAdd];refine KeV ?_
     simp only[Act.put,StT,StZ,StS,Nat.reduceAdd];refine ZC (fun ρ w9 hF=>?_)
     have Y6:=Lh (Y5.out.below hF.below);have HF6:=Lh (HF5.out.below hF.below);have hb6:=bto HB5.out hF.below;clear hF Y5 HF5 HB5;go_wp2;go_roundw
     case rel=>exact⟨k+1,by omega,by go_num,hb6,HF6.out⟩
     case measure=>simp[intOf];omega
  have o1:x.oth.isEmpty=false:=by cases h:x.oth with|nil=>exact absurd h ho|cons a r=>rfl
  go_wp2_with fail
  refine (C1.out.of hG HBA.out).mono ?_
  rintro e w2 ⟨rfl,hb2⟩;have Y2:=Lh (Y1.out.below hb2);have HF2:=Lh (HFA.out.below hb2);have HB2:=Lh (bto HBA.out hb2);obtain⟨bl,hbl⟩:∃bl,bl=YL x.oth:=⟨_,rfl⟩
  rw[<-hbl];clear hbl q0 hb2 Y1 HFA HBA C1 p0 p1 p2 p3 p4 p5 p6;cases bl with
  | false=>
   have hbq:=HB2.out;go_wp2;go_ret;exact⟨⟨_,rfl⟩,hbq⟩
  | true=>
   clear ho;have q0:w2.cell? ⟨wr.heap.size,0,none⟩=some (.string ⟨x.oth.toArray⟩):=Y2.out.c 0;have q5:w2.cell? ⟨w.heap.size,5,none⟩=some (.string ⟨f.ins.toArray⟩):=HF2.out.c 5
   by_cases hi:x.oth=f.ins
   ·have e5:(x.oth==f.ins)=true:=by rw[beq_iff_eq];exact hi
    have hbq:=HB2.out;clear hi;go_wp2;go_ret;exact⟨⟨_,rfl⟩,hbq⟩
   have e5:(x.oth==f.ins)=false:=by rw[Bn];exact hi
   have q1:w2.cell? ⟨wr.heap.size,1,none⟩=some (.string ⟨x.rn.toArray⟩):=Y2.out.c 1;have q2:w2.cell? ⟨wr.heap.size,2,none⟩=some (.string ⟨x.rd.toArray⟩):=Y2.out.c 2;have q3:w2.cell? ⟨wr.heap.size,3,none⟩=some (.string ⟨x.pn.toArray⟩):=Y2.out.c 3;have q4:w2.cell? ⟨wr.heap.size,4,none⟩=some (.string ⟨x.pd.toArray⟩):=Y2.out.c 4;have q6:w2.cell? ⟨wr.heap.size,5,none⟩=some (.string ⟨x.vn.toArray⟩):=Y2.out.c 5;have q7:w2.cell? ⟨wr.heap.size,6,none⟩=some (.string ⟨x.vd.toArray⟩):=Y2.out.c 6;have hbS:=Zb w2 (.cells #[.string ⟨x.rn.toArray⟩,.string ⟨x.rd.toArray⟩,.string ⟨x.pn.toArray⟩,.string ⟨x.pd.toArray⟩,.string ⟨x.vn.toArray⟩,.string ⟨x.vd.toArray⟩] 34);have z1:Blk (w2.alloc (.cells #[.string ⟨x.rn.toArray⟩,.string ⟨x.rd.toArray⟩,.string ⟨x.pn.toArray⟩,.string ⟨x.pd.toArray⟩,.string ⟨x.vn.toArray⟩,.string ⟨x.vd.toArray⟩] 34)) w2.heap.size #[.string ⟨x.rn.toArray⟩,.string ⟨x.rd.toArray⟩,.string ⟨x.pn.toArray⟩,.string ⟨x.pd.toArray⟩,.string ⟨x.vn.toArray⟩,.string ⟨x.vd.toArray⟩]:=Blk.new w2 _ 34;have HS:=Lh (And.intro (bto HB2.out hbS) (And.intro (Y2.out.below hbS) (And.intro (HF2.out.below hbS) z1)));clear hi hbS z1 Y2 HF2 HB2;go_wp2_with fail;clear q0 q5 q1 q2 q3 q4 q6 q7 e5;generalize wr.heap.size=bx at *
   go_loopw [6,7,45] (fun _ _ iv wi=>∃(j:Nat),j<=3/\iv=.int .i64 (j:Int)/\Hid (Below w.heap.size w wi/\Blk wi bx #[.string ⟨x.oth.toArray⟩,.string ⟨x.rn.toArray⟩,.string ⟨x.rd.toArray⟩,.string ⟨x.pn.toArray⟩,.string ⟨x.pd.toArray⟩,.string ⟨x.vn.toArray⟩,.string ⟨x.vd.toArray⟩]/\Blk wi w.heap.size (Zi f)/\Blk wi w2.heap.size #[.string ⟨x.rn.toArray⟩,.string ⟨x.rd.toArray⟩,.string ⟨x.pn.toArray⟩,.string ⟨x.pd.toArray⟩,.string ⟨x.vn.toArray⟩,.string ⟨x.vd.toArray⟩])) (fun _ _ iv _=>3-(intOf iv).toNat)
   case atStart=>exact⟨0,by omega,rfl,HS.out⟩
   case round=>
    clear HS;obtain⟨j,hj,rfl,HS⟩:=hrel
    by_cases hlj:j<3
    ·have f1:decide (j<3)=true:=Dt hlj;have f2:decide ((j:Int)<3)=true:=Dt (by omega)
     obtain⟨p,hp⟩:∃p,(opF x)[j]?=some p:=⟨_,List.getElem?_eq_getElem (show j<3 from hlj)⟩
     obtain⟨g1,g2⟩:=LL HS.out.2.2.2 hp;obtain⟨hl1,hl2⟩:=I8 HXS.out hp;obtain⟨E2,hE2⟩:∃E2,E2=bwE false false p.1 p.2 (fv p.1 p.2):=⟨_,rfl⟩
     have CB:Hid (∀w' b1 b2,GE w'->Blk w' b1 #[.bool false]->Blk w' b2 #[.bool false]->Calls prog 286 #[.agg #[.string ⟨List.toArray p.1⟩,.string ⟨List.toArray p.2⟩],.pointer (some ⟨b1,0,none⟩),.pointer (some ⟨b2,0,none⟩)] w' fun e w''=>e=.returned (.int .i64 E2)/\Below w'.heap.size w' w''):=fun w' b1 b2 hG' h1 h2=>by
      rw[hE2];exact I5 false false (SH (k:=1000) hl1 hl2 (by decide)) hG' h1 h2
     have hbF:=Zb wr (.cells #[.string ⟨List.toArray p.1⟩,.string ⟨List.toArray p.2⟩] 34);have y3:Blk (wr.alloc (.cells #[.string ⟨List.toArray p.1⟩,.string ⟨List.toArray p.2⟩] 34)) wr.heap.size #[.string ⟨List.toArray p.1⟩,.string ⟨List.toArray p.2⟩]:=Blk.new wr _ 34;have Y3:=Lh y3;have hb3:=bto HS.out.1 hbF;have HS3:=Lh (And.intro (HS.out.2.1.below hbF) (And.intro (HS.out.2.2.1.below hbF) (HS.out.2.2.2.below hbF)));clear hp hl1 hl2 hE2 y3 hbF HS;go_wp2_with fail;refine VA (by kernel_rfl) (by kernel_rfl) ?_
     refine OL 229 #[.bool false,.bool false] (fun w u=>∃b1 b2,u=.func (.func 286) #[] #[.pointer (some ⟨b1,0,none⟩),.pointer (some ⟨b2,0,none⟩)]/\Blk w b1 #[.bool false]/\Blk w b2 #[.bool false]) rfl (fun w w' u ⟨b1,b2,e,h1,h2⟩ hb=>⟨b1,b2,e,h1.below hb,h2.below hb⟩) (fun _=>rfl) (fun ρ wz hw=>by go_simp;try rfl) (fun wz hw=>Vl false false wz) ?_
     simp only[Act.put,StT,StZ,StS,Nat.reduceAdd];refine VB _ (fun _=>rfl) (fun ρ wz hw=>by have q0:wz.cell? ⟨wr.heap.size,0,none⟩=some (.string ⟨List.toArray p.1⟩):=(Y3.out.below hw).c 0;have q1:wz.cell? ⟨wr.heap.size,1,none⟩=some (.string ⟨List.toArray p.2⟩):=(Y3.out.below hw).c 1;go_simp;try rfl) ?_
     simp only[Act.put,StT,StZ,StS,Nat.reduceAdd];refine Sf 0 _ _ _ 49 rfl rfl rfl (by decide) (fun _=>rfl) (fun ρ wz hw ⟨b1,b2,e,h1,h2⟩=>⟨286,#[.agg #[.string ⟨List.toArray p.1⟩,.string ⟨List.toArray p.2⟩],.pointer (some ⟨b1,0,none⟩),.pointer (some ⟨b2,0,none⟩)],by simp only[e];go_simp;try rfl,CB.out wz b1 b2 (hG.below (bto hb3 hw)) h1 h2⟩) ?_
     simp only[Act.put,StT,StZ,StS,Nat.reduceAdd];refine VB _ (fun _=>rfl) (fun ρ wz hw=>by go_simp;try rfl) ?_
     simp only[Act.put,StT,StZ,StS,Nat.reduceAdd];intro ρ w4 hF;have HS4:=Lh (And.intro (bto hb3 hF.below) (And.intro (HS3.out.1.below hF.below) (And.intro (HS3.out.2.1.below hF.below) (HS3.out.2.2.below hF.below))));clear hF HS3 hb3 CB Y3 g1 g2
     by_cases h0:E2=0
     rotate_left
     ·have e5:decide (E2=0)=false:=Df h0;have e6:(E2==0)=false:=by rw[Bn];exact h0
      have hb4:=HS4.out.1;go_wp2;go_ret;exact⟨⟨_,rfl⟩,hb4⟩
     subst h0;go_wp2;go_roundw
     case rel=>exact⟨j+1,by omega,by go_num,HS4.out⟩
     case measure=>simp[intOf];omega
    have hj3:j=3:=by omega
    subst hj3;have f1:decide (3<3)=false:=rfl;have Y5:=Lh HS.out.2.1;have HF5:=Lh HS.out.2.2.1;have HB5:=Lh HS.out.1;clear HS;go_wp2_with fail
    by_cases h2:(x.rn.isEmpty&&x.rd.isEmpty)=false
    ·have e2:(x.rn.isEmpty&&x.rd.isEmpty)=false:=h2;clear h2;refine Zm (by kernel_rfl) (by kernel_rfl) ?_
     refine KeV ?_;simp only[Act.put,StT,StZ,StS,Nat.reduceAdd];refine KeW (fun ρ wz hw=>by have q0:wz.cell? ⟨bx,0,none⟩=some (.string ⟨x.oth.toArray⟩):=(Y5.out.below hw).c 0;go_simp;try rfl) ?_
     simp only[Act.put,StT,StZ,StS,Nat.reduceAdd];refine KeV (v:=.bool true) ?_;simp only[Act.put,StT,StZ,StS,Nat.reduceAdd];refine KeV ?_;simp only[Act.put,StT,StZ,StS,Nat.reduceAdd];refine KeW (fun ρ wz hw=>by have q1:wz.cell? ⟨bx,1,none⟩=some (.string ⟨x.rn.toArray⟩):=(Y5.out.below hw).c 1;have q2:wz.cell? ⟨bx,2,none⟩=some (.string ⟨x.rd.toArray⟩):=(Y5.out.below hw).c 2;go_simp;try rfl) ?_
     simp only[Act.put,StT,StZ,StS,Nat.reduceAdd];refine KeV ?_;simp only[Act.put,StT,StZ,StS,Nat.reduceAdd];refine Zw (.bool true) (fun _=>rfl) (fun ρ wz hw=>(Wi _ _ rfl x.rn x.rd rfl rfl).trans (by rw[e2];rfl)) ?_
     simp only[Act.put,StT,StZ,StS,Nat.reduceAdd];refine KeV (v:=.bool false) ?_
     iterate 2
      simp only[Act.put,StT,StZ,StS,Nat.reduceAdd];refine KeV ?_
     simp only[Act.put,StT,StZ,StS,Nat.reduceAdd];refine KeW (fun ρ wz hw=>by have q0:wz.cell? ⟨bx,0,none⟩=some (.string ⟨x.oth.toArray⟩):=(Y5.out.below hw).c 0;go_simp;try rfl) ?_
     simp only[Act.put,StT,StZ,StS,Nat.reduceAdd];refine KeV (v:=.bool false) ?_;simp only[Act.put,StT,StZ,StS,Nat.reduceAdd];refine KeV ?_
     iterate 4
      simp only[Act.put,StT,StZ,StS,Nat.reduceAdd];refine Yn (fun _=>rfl) ?_
     iterate 2
      simp only[Act.put,StT,StZ,StS,Nat.reduceAdd];refine KeV ?_
     simp only[Act.put,StT,StZ,StS,Nat.reduceAdd];refine ZC (fun ρ w9 hF=>?_)
     have Y6:=Lh (Y5.out.below hF.below);have HF6:=Lh (HF5.out.below hF.below);have hb6:=bto HB5.out hF.below;clear hF Y5 HF5 HB5;go_wp2;go_roundw
     case rel=>exact⟨k+1,by omega,by go_num,hb6,HF6.out⟩
     case measure=>simp[intOf];omega
    have e2:(x.rn.isEmpty&&x.rd.isEmpty)=true:=by cases hh:(x.rn.isEmpty&&x.rd.isEmpty) with|true=>rfl|false=>exact absurd hh h2
    clear h2;refine Zm (by kernel_rfl) (by kernel_rfl) ?_
    refine KeV ?_;simp only[Act.put,StT,StZ,StS,Nat.reduceAdd];refine KeW (fun ρ wz hw=>by have q0:wz.cell? ⟨bx,0,none⟩=some (.string ⟨x.oth.toArray⟩):=(Y5.out.below hw).c 0;go_simp;try rfl) ?_
    simp only[Act.put,StT,StZ,StS,Nat.reduceAdd];refine KeV (v:=.bool true) ?_;simp only[Act.put,StT,StZ,StS,Nat.reduceAdd];refine KeV ?_;simp only[Act.put,StT,StZ,StS,Nat.reduceAdd];refine KeW (fun ρ wz hw=>by have q1:wz.cell? ⟨bx,1,none⟩=some (.string ⟨x.rn.toArray⟩):=(Y5.out.below hw).c 1;have q2:wz.cell? ⟨bx,2,none⟩=some (.string ⟨x.rd.toArray⟩):=(Y5.out.below hw).c 2;go_simp;try rfl) ?_
    simp only[Act.put,StT,StZ,StS,Nat.reduceAdd];refine KeV ?_;simp only[Act.put,StT,StZ,StS,Nat.reduceAdd];refine Zw (.bool false) (fun _=>rfl) (fun ρ wz hw=>(Wi _ _ rfl x.rn x.rd rfl rfl).trans (by rw[e2];rfl)) ?_
    simp only[Act.put,StT,StZ,StS,Nat.reduceAdd];refine KeV (v:=.bool true) ?_;simp only[Act.put,StT,StZ,StS,Nat.reduceAdd];refine KeV ?_
    iterate 9
     simp only[Act.put,StT,StZ,StS,Nat.reduceAdd];refine Yn (fun _=>rfl) ?_
    simp only[Act.put,StT,StZ,StS,Nat.reduceAdd];refine KeV ?_;simp only[Act.put,StT,StZ,StS,Nat.reduceAdd];refine ZC (fun ρ w9 hF=>?_)
    have hb6:=bto HB5.out hF.below;clear hF Y5 HF5 HB5;go_wp2;go_ret;exact⟨⟨_,rfl⟩,hb6⟩
def ofI (I:List UInt8) (xs:List Lot):List Lot:=xs.filter (fun x=>x.ins==I)
theorem Zba {xs:List Lot} (hn:(xs.map (·.id)).Nodup) {x y:Lot} (hx:x∈xs) (hy:y∈xs) (e:x.id=y.id):x=y:=by
 obtain⟨i,hi⟩:=List.getElem?_of_mem hx;obtain⟨j,hj⟩:=List.getElem?_of_mem hy;obtain⟨hi1,-⟩:=Lg.1 hi;have h1:(xs.map (·.id))[i]?=some x.id:=by simp[hi]
 have h2:(xs.map (·.id))[j]?=some x.id:=by simp[hj,e]
 have:i=j:=(List.getElem?_inj (by simpa using hi1) hn).1 (h1.trans h2.symm)
 subst this;rw[hi] at hj;exact Option.some.inj hj
theorem I9 (f:Lot->Int) (I:List UInt8):∀ys:List Lot,(∀y∈ys,y.ins=I)->(ys.map (fun x=>if x.ins==I then f x else 0)).sum=(ys.map f).sum
 | [],_=>rfl
 | a::t,h=>by
  have ih:=I9 f I t (fun y hy=>h y (List.mem_cons_of_mem _ hy))
  have ha:(a.ins==I)=true:=by simpa using h a List.mem_cons_self
  rw[List.map_cons,List.map_cons,List.sum_cons,List.sum_cons,ih,if_pos ha]
theorem G6 {xs:List Lot} {I:List UInt8} {Q:Int} {out:List Pk} {rem:List UInt8} (hn:(xs.map (·.id)).Nodup) (hc:∀x∈xs,x.q=canon (val x.q)) (hi:YC (ofI I xs) Q (out,rem)) (hr:val rem=0) (hp:VO xs [] out=0) :
  (((Yx (xs,[]) out).2).map (fun x=>val x.q)).sum=Q/\
  ((ofI I (Yx (xs,[]) out).1).map (fun x=>val x.q)).sum+(((Yx (xs,[]) out).2).map (fun x=>val x.q)).sum=((ofI I xs).map (fun x=>val x.q)).sum/\
  ((ofI I (Yx (xs,[]) out).1).map (fun x=>val x.cost)).sum+(((Yx (xs,[]) out).2).map (fun x=>val x.cost)).sum=((ofI I xs).map (fun x=>val x.cost)).sum/\
  (Yx (xs,[]) out).2.length=out.length/\(Yx (xs,[]) out).2.map (·.q)=out.map (·.q)/\(∀y∈(Yx (xs,[]) out).2,y.ins=I):=by
 obtain⟨a1,a2,-⟩:=OB hc out [] hp;obtain⟨r,h2,h3⟩:=LF out xs [] ⟨hn,a1,a2⟩;have hs:=hi.sum;have hsum:Y7 out=Q:=by
  have:Y7 out+val rem=Q:=hs
  omega
 have hins:∀y∈(Yx (xs,[]) out).2,y.ins=I:=fun y hy=>by
  rcases h2 y hy with hy|⟨p,hpm,x,hx,hid,hyx⟩
  ·cases hy
  ·obtain⟨z,hz,hzid⟩:=hi.mem p hpm;have hzx:=List.mem_filter.1 hz
   have:x=z:=Zba hn hx hzx.1 (hid.trans hzid.symm)
   subst this;have hI:x.ins=I:=by simpa using hzx.2
   rcases hyx with rfl|⟨-,-,rfl⟩
   ·exact hI
   ·exact hI
 have hqs:=r.qs;simp only[List.map_nil,List.nil_append] at hqs;have hQ:(((Yx (xs,[]) out).2).map (fun x=>val x.q)).sum=Q:=by
  have:((Yx (xs,[]) out).2).map (fun x=>val x.q)=(((Yx (xs,[]) out).2).map (·.q)).map val:=by rw[List.map_map];rfl
  rw[this,hqs,<-hsum];unfold Y7;rw[List.map_map];rfl
 have g1:=r.sum _ (I0 (fun x=>val x.q) ZbV I)
 have g2:=r.sum _ (I0 (fun x=>val x.cost) ZbW I)
 rw[I9 _ I _ hins] at g1 g2;simp only[List.map_nil,List.sum_nil,Int.add_zero] at g1 g2;rw[<-Sc,<-Sc] at g1 g2;refine⟨hQ,g1,g2,?_,hqs,hins⟩
 have:=congrArg List.length hqs
 simpa using this
def UI (ws:List (List UInt8)):List Value:=ws.map stV
theorem NH (ws:List (List UInt8)) (r:List UInt8):UI (ws++[r])=UI ws++[.string ⟨r.toArray⟩]:=by simp[UI,stV]
theorem Hb {w:World} {B n c:Nat} {A:Option Addr} {ws:List (List UInt8)} (h:w.ownsRow B 32 1 (.slice A n c) n (UI ws)) (hn:ws.length=n):Vy w A ws:=fun i r hr=>by
 have hi:=(Lg.1 hr).1;have hv:(UI ws)[i]?=some (.string ⟨r.toArray⟩):=by simp[UI,stV,hr]
 rcases h.2 with ⟨e,h0⟩|⟨g,cap,cur,e,hB,hg,h1,h2,h3,h4⟩
 ·omega
 ·injection e with e1 e2 e3
  refine⟨g,0,e1,(Ag.1 hg).1,?_⟩;rw[Zg hg,<-hv,<-h4,List.getElem?_take,if_pos (by omega),Array.getElem?_toList,Nat.zero_add]
def QZ (T:List UInt8) (ws ps:List (List UInt8)):Prop:=(TB T ws≠0/\ps=[])∨(TB T ws=0/\∃zs,ps=zs.map canon/\Se (val T) (ws.map val) zs)
theorem G7 {w:World} {A:Option Addr} {ws:List (List UInt8)} {n:Nat} (c:Nat) {T:List UInt8} (hG:GE w) (hI:WK w A ws n) (hT:T.length<=4900) :
  Calls prog 124 #[.string ⟨T.toArray⟩,.slice A n c] w fun e w'=>∃AP ps np cq err,e=.returned (.tuple #[.slice AP np cq,.int .i64 err])/\ps.length=np/\np<=1000/\Vy w' AP ps/\QZ T ws ps/\Below w.heap.size w w':=by
 by_cases h:TB T ws=0
 ·obtain⟨-,s2,-⟩:=Tq h;have hl:=hI.len;refine (Dg c hG hI hT h).mono ?_;rintro e w' ⟨bp,zs,rfl,hb,hh,hd,hbl⟩;have hz:zs.length=n:=by rw[hd.sum.2,List.length_map,hl]
  refine⟨_,zs.map canon,n,n,0,rfl,by rw[List.length_map,hz],by omega,?_,.inr ⟨h,zs,rfl,hd⟩,hbl⟩
  intro i r hr;refine⟨bp,0,rfl,(Ag.1 hh).1,?_⟩;rw[Zg hh,Nat.zero_add];exact SU hr
 ·refine (JO c hG hI hT h).mono ?_;rintro e w' ⟨rfl,hb⟩;exact⟨none,[],0,0,_,rfl,rfl,Nat.zero_le _,fun i r hr=>by simp at hr,.inl ⟨h,rfl⟩,hb⟩
attribute [local go_sem] Oper.semAt_some
theorem Zb5 (bl bt:Nat) (A:Option Addr) (xs:List Lot) (n c:Nat) (T:List UInt8) (hn:xs.length=n) (hT:T.length<=4900) (hq:∀x∈xs,x.q.length<=2000) (hS0:TB T (xs.map (·.q))=0)
  (m lw:Nat) (S0:World->Prop) (S:Nat->Obj->List (Lot×List UInt8)->World->Prop)
  (hK0:∀W,S0 W->GE W/\Yc W A xs/\Blk W bl #[.slice A n c]/\Blk W bt #[.string ⟨T.toArray⟩]) (hIn:∀b0 ob W W',S0 W->Below W.heap.size W W'->W.heap.size<=b0->W'.heap[b0]?=some ob->S b0 ob [] W')
  (hSB:∀b0 ob ys W,S b0 ob ys W->Yc W A xs/\W.heap[b0]?=some ob) (hSm:∀b0 ob ys W W',S b0 ob ys W->Below W.heap.size W W'->S b0 ob ys W')
  (hY:∀zs,Se (val T) (xs.map (fun x=>val x.q)) zs->∀b0 ob ys y W,S b0 ob ys W->(xs.zip (zs.map canon))[ys.length]?=some y->YieldAt Fence.wide (m-1) prog lw #[(Value.agg #[.string ⟨List.toArray y.1.id⟩,.string ⟨List.toArray y.1.ins⟩,.int .i64 y.1.acq,.int .i64 y.1.opn,.string ⟨List.toArray y.1.q⟩,.string ⟨List.toArray y.1.cost⟩,.string ⟨List.toArray y.1.used⟩]),.string ⟨y.2.toArray⟩] W fun e W'=>e=.returned (.bool true)/\S b0 ob (ys++[y]) W')
  (W:World) (hS:S0 W):CallsIn Fence.wide m prog 216 (#[.func (.yield lw) #[] #[],.pointer (some ⟨bl,0,none⟩),.pointer (some ⟨bt,0,none⟩)]) W fun e W'=>(∃v,e=.returned v)/\∃zs b0 ob,Se (val T) (xs.map (fun x=>val x.q)) zs/\S b0 ob (xs.zip (zs.map canon)) W':=by
 obtain⟨-,s2,-⟩:=Tq hS0;rw[List.length_map,hn] at s2;have HB:=Lh hSB;have HM:=Lh hSm;have HY:=Lh hY;have HX:=Lh hS;have HK0:=Lh hK0;have HIN:=Lh hIn;have HS0:=Lh hS0;have HQL:=Lh hq;have HN:=Lh hn;have hbl':=(hK0 _ hS).2.2.1;have q0:W.cell? ⟨bl,0,none⟩=some (.slice A n c):=hbl'.c 0;obtain⟨B,hB⟩:∃B,B=W.heap.size:=⟨_,rfl⟩
 have HBS:=Lh hB;have h0:Hid (W.ownsRow B 32 1 (.slice none 0 0) 0 (UI ((xs.map (·.q)).take 0))):=World.ownsRow_nil W B 32 1
 have HBe:Hid (Below W.heap.size W W):=Below.refl _ _;clear hSB hSm hY hS hn hbl' hS0 hq hB hK0 hIn;refine callsIn_of_wp func216 rfl trivial ?_ rfl;simp only[ntmps216,List.size_toArray,List.length_cons,List.length_nil,Nat.reduceAdd,Nat.reduceSub,Array.replicate_succ,Array.replicate_zero,List.push_toArray,List.append_toArray,List.nil_append,List.cons_append]
 gi_wp2_with fail
 clear q0
 gi_loopw [4,6,13] (fun qv _ iv wr=>∃(k:Nat) (v:Value),k<=n/\v=qv/\iv=.int .i64 (k:Int)/\Hid (wr.ownsRow B 32 1 v k (UI ((xs.map (·.q)).take k)))/\Hid (Below W.heap.size W wr)) (fun _ _ iv _=>n-(intOf iv).toNat)
 case atStart=>exact⟨0,_,Nat.zero_le _,rfl,rfl,h0.out,HBe.out⟩
 case round=>
  clear h0 HBe;obtain⟨k,v,hk,rfl,rfl,HO,HBL⟩:=hrel
  by_cases hlk:k<n
  ·have e1:decide (k<n)=true:=Dt hlk;have e2:decide ((k:Int)<(n:Int))=true:=Dt (by omega)
   obtain⟨x,hx⟩:∃x,xs[k]?=some x:=⟨_,List.getElem?_eq_getElem (by have:=HN.out;omega)⟩
   obtain⟨b,o,rfl,hbs,hcells⟩:=((HK0.out _ HX.out).2.1.below HBL.out) k x hx;have p0:=hcells.c0;have p1:=hcells.c1;have p2:=hcells.c2;have p3:=hcells.c3;have p4:=hcells.c4;have p5:=hcells.c5;have p6:=hcells.c6;have hbA:=Zb wr (.cells #[.string ⟨x.id.toArray⟩,.string ⟨x.ins.toArray⟩,.int .i64 x.acq,.int .i64 x.opn,.string ⟨x.q.toArray⟩,.string ⟨x.cost.toArray⟩,.string ⟨x.used.toArray⟩] 130);have Y1:=Lh (YS.new wr x 130);have q4:=Y1.out.c4;have hbq:=Zb (wr.alloc (.cells #[.string ⟨x.id.toArray⟩,.string ⟨x.ins.toArray⟩,.int .i64 x.acq,.int .i64 x.opn,.string ⟨x.q.toArray⟩,.string ⟨x.cost.toArray⟩,.string ⟨x.used.toArray⟩] 130)) (.cells #[.string ⟨x.q.toArray⟩] 32);obtain⟨i0,hi,hz0,hz1,hz2⟩:=info_parts QG;have HAN:Hid (((wr.alloc (.cells #[.string ⟨x.id.toArray⟩,.string ⟨x.ins.toArray⟩,.int .i64 x.acq,.int .i64 x.opn,.string ⟨x.q.toArray⟩,.string ⟨x.cost.toArray⟩,.string ⟨x.used.toArray⟩] 130)).alloc (.cells #[.string ⟨x.q.toArray⟩] 32)).heap[wr.heap.size+1]?=some (.cells #[.string ⟨x.q.toArray⟩] 32)):=by
    have h:=ZG (wr.alloc (.cells #[.string ⟨x.id.toArray⟩,.string ⟨x.ins.toArray⟩,.int .i64 x.acq,.int .i64 x.opn,.string ⟨x.q.toArray⟩,.string ⟨x.cost.toArray⟩,.string ⟨x.used.toArray⟩] 130)) (.cells #[.string ⟨x.q.toArray⟩] 32);rw[show (wr.alloc (.cells #[.string ⟨x.id.toArray⟩,.string ⟨x.ins.toArray⟩,.int .i64 x.acq,.int .i64 x.opn,.string ⟨x.q.toArray⟩,.string ⟨x.cost.toArray⟩,.string ⟨x.used.toArray⟩] 130)).heap.size=wr.heap.size+1 by simp] at h
    exact h
   have HAZ:Hid (((wr.alloc (.cells #[.string ⟨x.id.toArray⟩,.string ⟨x.ins.toArray⟩,.int .i64 x.acq,.int .i64 x.opn,.string ⟨x.q.toArray⟩,.string ⟨x.cost.toArray⟩,.string ⟨x.used.toArray⟩] 130)).alloc (.cells #[.string ⟨x.q.toArray⟩] 32)).heap.size=wr.heap.size+2):=by show _=_;simp
   have HCZ:Hid (B<=wr.heap.size):=by show _<=_;rw[HBS.out];exact HBL.out.size
   have HX5:=Lh hx;have HBQ:=Lh (bto hbA hbq);clear hbs hcells hx hbA hbq;refine wpIn_wide.2 ?_;go_wp2_with (at_builtin;refine ZN rfl _ _ 50 rfl B 32 i0 (.string ⟨#[]⟩) 1 16 underlying50 hi hz0 hz1 hz2 rfl (by decide) _ _ _ rfl (Z0 HO.out HBQ.out) ⟨wr.heap.size+1,0,none⟩ 1 1 [.string ⟨x.q.toArray⟩] rfl rfl ?c1 ?c2 ?c3 ?c4 ?c5 ?_)
   case c1=>
    intro j u hu;have hj:j<1:=VP hu
    match j,hj with
    | 0,_=>cases hu;exact Zg HAN.out 0
   case c2=>
    intro u hu;simp only[List.mem_cons,List.not_mem_nil,or_false] at hu;subst hu;rfl
   case c3=>unfold maxLen;omega
   case c4=>omega
   case c5=>have:=HCZ.out;have:=HAZ.out;omega
   intro v' w5 hown' hgrow hfresh;have HO':Hid (w5.ownsRow B 32 1 v' (k+1) (UI ((xs.map (·.q)).take (k+1)))):=by
    have hq:(xs.map (·.q))[k]?=some x.q:=by simp[HX5.out]
    obtain⟨hk2,hxe⟩:=Lg.1 hq;show w5.ownsRow _ _ _ _ _ _;rw[List.take_succ_eq_append_getElem hk2,hxe,NH];exact hown'
   have HBL':Hid (Below W.heap.size W w5):=by
    have h1:=bto HBL.out HBQ.out
    exact h1.grown hgrow h1.size (fun g hg=>by
     have:=(World.ownsRow.lt HO.out g hg).1
     have:=HBS.out
     omega)
   clear hown' hgrow hfresh HO HBL HBQ HAN HAZ HCZ p0 p1 p2 p3 p4 p5 p6 q4 e1 e2 HX5 Y1 hi hz0 hz1 hz2;go_wp2;go_roundw
   case rel=>exact⟨k+1,v',by omega,rfl,by go_num,HO'.out,HBL'.out⟩
   case measure=>simp[intOf];omega
  ·have hkm:k=n:=by omega
   subst hkm;have e1:decide (k<k)=false:=Df (by omega)
   have e2:decide ((k:Int)<(k:Int))=false:=Df (by omega)
   have hfm:Hid ((xs.map (·.q)).take k=xs.map (·.q)):=by show _=_;rw[List.take_of_length_le (by rw[List.length_map];have:=HN.out;omega)]
   obtain⟨A3,c3,rfl⟩:∃A3 c3,v=.slice A3 k c3:=by
    rcases HO.out.2 with ⟨e,h0⟩|⟨g,cap,cur,e,-⟩
    ·exact⟨none,0,by rw[e,h0]⟩
    ·exact⟨_,_,e⟩
   have HI:Hid (WK wr A3 (xs.map (·.q)) k):=by
    refine⟨by rw[List.length_map,HN.out],by omega,fun r hr=>?_,?_⟩
    ·obtain⟨y,hy,rfl⟩:=List.mem_map.1 hr;exact HQL.out y hy
    ·have h:=HO.out;rw[hfm.out] at h;exact Hb h (by rw[List.length_map,HN.out])
   obtain⟨hG0,hL0,hbl0,hbt0⟩:=HK0.out _ HX.out;have q0:wr.cell? ⟨bt,0,none⟩=some (.string ⟨T.toArray⟩):=(hbt0.below HBL.out).c 0;have KS:=Lh (Dg (T:=T) c3 (hG0.below HBL.out) HI.out hT HS0.out);have HBL0:=Lh (hbl0.below HBL.out);clear HO hfm HI hG0 hL0 hbl0 hbt0
   gi_wp2_with fail
   refine⟨trivial,fun h=>(by cases h),?_⟩
   (refine (callsIn_wide.2 KS.out).mono ?_)
   rintro e w6 ⟨bp,zs,rfl,hgp,hcp,hsp,hb6⟩;rw[List.map_map] at hsp;have hsp:Se (val T) (xs.map (fun x=>val x.q)) zs:=hsp
   have HSI:Hid (S bp (.cells (zsC zs) 32 (0,0)) [] w6):=HIN.out _ _ _ _ HX.out (bto HBL.out hb6) (Nt HBL.out.size hgp) hcp;have hzl:zs.length=k:=by rw[hsp.sum.2,List.length_map,HN.out]
   have HZL:=Lh hzl;have HYY:=Lh (HY.out zs hsp);have HSP:=Lh hsp;have q1:w6.cell? ⟨bl,0,none⟩=some (.slice A k c):=(HBL0.out.below hb6).c 0;clear q0 KS HBL0 hcp hgp hb6 hzl hsp HY HIN HX HBL HK0 e1 e2
   gi_wp2_with fail
   clear q1
   gi_loopw [9,10,31] (fun _ _ iv wr=>∃(j:Nat) (ys:List (Lot×List UInt8)),j<=k/\iv=.int .i64 (j:Int)/\Hid (ys=(xs.zip (zs.map canon)).take j)/\Hid (S bp (.cells (zsC zs) 32 (0,0)) ys wr)) (fun _ _ iv _=>k-(intOf iv).toNat)
   case atStart=>exact⟨0,[],Nat.zero_le _,rfl,rfl,HSI.out⟩
   case round=>
    clear HSI;obtain⟨j,ys,hj,rfl,HYS,HS⟩:=hrel
    by_cases hlj:j<k
    rotate_left
    ·have HE:Hid (S bp (.cells (zsC zs) 32 (0,0)) (xs.zip (zs.map canon)) wr):=by
      have h:=HS.out;rw[HYS.out,List.take_of_length_le (by rw[List.length_zip];have:=HN.out;omega)] at h
      exact h
     have e1:decide (j<k)=false:=Df hlj;have e2:decide ((j:Int)<(k:Int))=false:=Df (by omega)
     clear HYS HS HYY
     gi_wp2
     go_end0
     exact⟨⟨_,rfl⟩,zs,_,_,HSP.out,HE.out⟩
    have e1:decide (j<k)=true:=Dt hlj;have e2:decide ((j:Int)<(k:Int))=true:=Dt (by omega)
    obtain⟨x,hx⟩:∃x,xs[j]?=some x:=⟨_,List.getElem?_eq_getElem (by have:=HN.out;omega)⟩
    obtain⟨z,hz⟩:∃z,zs[j]?=some z:=⟨_,List.getElem?_eq_getElem (by have:=HZL.out;omega)⟩
    obtain⟨hLA,hbp⟩:=HB.out _ _ _ _ HS.out;obtain⟨b,o,rfl,hbs,hcells⟩:=hLA j x hx;have p0:=hcells.c0;have p1:=hcells.c1;have p2:=hcells.c2;have p3:=hcells.c3;have p4:=hcells.c4;have p5:=hcells.c5;have p6:=hcells.c6;have hbA:=Zb wr (.cells #[.string ⟨x.id.toArray⟩,.string ⟨x.ins.toArray⟩,.int .i64 x.acq,.int .i64 x.opn,.string ⟨x.q.toArray⟩,.string ⟨x.cost.toArray⟩,.string ⟨x.used.toArray⟩] 130);have Y1:=Lh (YS.new wr x 130);have HBP:=Lh (Zt hbp hbA);have HZC:Hid ((zsC zs)[j]?=some (.string ⟨(canon z).toArray⟩)):=SU (by rw[List.getElem?_map,hz];rfl)
    have HZ:=Lh Tt;have hzip:(xs.zip (zs.map canon))[j]?=some (x,canon z):=by
     rw[List.getElem?_zip_eq_some];exact⟨hx,by rw[List.getElem?_map,hz];rfl⟩
    have hyl:ys.length=j:=by
     rw[HYS.out,List.length_take,List.length_zip,List.length_map,HN.out,HZL.out];omega
    have HSA:=Lh (HM.out _ _ _ _ _ HS.out hbA);have HYD:Hid (∀W',S bp (.cells (zsC zs) 32 (0,0)) ys W'->YieldAt Fence.wide (m-1) prog lw #[(Value.agg #[.string ⟨x.id.toArray⟩,.string ⟨x.ins.toArray⟩,.int .i64 x.acq,.int .i64 x.opn,.string ⟨x.q.toArray⟩,.string ⟨x.cost.toArray⟩,.string ⟨x.used.toArray⟩]),.string ⟨(canon z).toArray⟩] W' fun e W''=>e=.returned (.bool true)/\S bp (.cells (zsC zs) 32 (0,0)) (ys++[(x,canon z)]) W''):=fun W' h=>HYY.out bp _ ys (x,canon z) W' h (by rw[hyl];exact hzip)
    have HYS2:Hid (ys++[(x,canon z)]=(xs.zip (zs.map canon)).take (j+1)):=by
     show _=_;obtain⟨h1,h2⟩:=Lg.1 hzip;rw[List.take_succ_eq_append_getElem h1,h2,<-HYS.out]
    clear hx hz hLA hbp hbs hcells hbA hzip hyl HYS HS HYY
    gi_wp2_with fail
    refine Vw (by simp) (by simp) (by kernel_rfl) (by kernel_rfl) (by kernel_rfl) (by kernel_rfl) (by kernel_rfl) ?_
    simp only[List.dropLast_cons_cons,List.dropLast_singleton,List.getLast_cons_cons,List.getLast_singleton];refine KeV ?_;simp only[Act.put,StT,StZ,StS,Nat.reduceAdd];refine Zw (.agg #[.string ⟨x.id.toArray⟩,.string ⟨x.ins.toArray⟩,.int .i64 x.acq,.int .i64 x.opn,.string ⟨x.q.toArray⟩,.string ⟨x.cost.toArray⟩,.string ⟨x.used.toArray⟩]) (fun _=>rfl) (fun ρ wz hw=>ZH 130 _ rfl wr.heap.size 0 rfl (lcs x) _ (Vk (Y1.out.below hw)).out underlying130 rfl (by rw[HZ.out];rfl)) ?_
    iterate 2
     simp only[Act.put,StT,StZ,StS,Nat.reduceAdd];refine KeV ?_
    simp only[Act.put,StT,StZ,StS,Nat.reduceAdd];refine KeV (v:=.pointer (some ⟨bp,j,none⟩)) ?_;simp only[Act.put,StT,StZ,StS,Nat.reduceAdd];refine KeW (fun ρ wz hw=>by have q0:wz.cell? ⟨bp,j,none⟩=some (.string ⟨(canon z).toArray⟩):=(Zg (Zt HBP.out hw) j).trans HZC.out;go_simp;try rfl) ?_
    simp only[Act.put,StT,StZ,StS,Nat.reduceAdd];intro ρ w21 hF;dsimp only;have HX3:=Lh (HM.out _ _ _ _ _ HSA.out hF.below);clear hF HSA p0 p1 p2 p3 p4 p5 p6 Y1 HBP;obtain⟨fn,tmps,assign,body,hyr,hR⟩:=HYD.out w21 HX3.out
    gi_wp2
    refine⟨fun h=>(by cases h),hR.mono ?_⟩
    rintro e W3 ⟨rfl,hS3⟩;have HX4:=Lh hS3;clear hS3 hR hyr e1 e2
    gi_wp2
    go_roundw
    case rel=>exact⟨j+1,_,by omega,by go_num,HYS2.out,HX4.out⟩
    case measure=>simp[intOf];omega
end Go.Proofs.YtpieeldbamklkaaGreatDoor
namespace Go.Proofs.YtpieeldbamklkaaGreatDoor
open Go.RowKit Go.Shelf Num
theorem DF (A:Option Addr) (n c:Nat) (T:List UInt8) (w:World) :
  Calls prog 169 #[.slice A n c,.string ⟨T.toArray⟩] w fun e w'=>e=.returned (.func (.func 216) #[] #[.pointer (some ⟨w.heap.size,0,none⟩),.pointer (some ⟨w.heap.size+1,0,none⟩)])/\w'=(w.alloc (.cells #[.slice A n c] 44)).alloc (.cells #[.string ⟨T.toArray⟩] 32):=by
 go_enter func169,ntmps169;go_wp2_with fail;go_ret;exact⟨rfl,rfl⟩
theorem LM (args:Array Value) (w:World):(callFunc 216 args).run prog w=.ok (.enter 216 args) w:=by kernel_rfl
theorem G8 {w:World} {bf:Nat} {P Fe:List UInt8} (v:Value) (hG:GE w) (h0:w.cell? ⟨bf,10,none⟩=some (.string ⟨P.toArray⟩)) (h1:w.cell? ⟨bf,11,none⟩=some (.string ⟨Fe.toArray⟩)) (hP:P.length<=2000) (hF:Fe.length<=2000) :
  Calls prog 95 #[v,.pointer (some ⟨bf,0,none⟩)] w fun e w'=>e=.returned (.string ⟨(canon (val P-val Fe)).toArray⟩)/\Below w.heap.size w w':=by
 have K:=Lh (W7 (l:=P) (l':=Fe) (z:=val P-val Fe) (by omega) (by omega) rfl)
 go_enter func95,ntmps95;go_wp2_with fail
 refine (K.out.e.of hG (Below.refl _ _)).mono ?_
 rintro e w1 ⟨rfl,hb1⟩;go_wp2;go_ret;exact⟨rfl,hb1⟩
theorem Zbb {w:World} {bl bf bm:Nat} {A Ap:Option Addr} {n c np cp:Nat} {ins q:List UInt8} {mt:Int} {R:Value->Int->World->Prop} (h0:w.cell? ⟨bl,0,none⟩=some (.slice A n c)) (h1:w.cell? ⟨bf,5,none⟩=some (.string ⟨ins.toArray⟩)) (h2:w.cell? ⟨bf,9,none⟩=some (.string ⟨q.toArray⟩)) (h3:w.cell? ⟨bm,0,none⟩=some (.int .i64 mt)) (h4:w.cell? ⟨bf,18,none⟩=some (.slice Ap np cp))
  (hK:Calls prog 93 #[.slice A n c,.string ⟨ins.toArray⟩,.string ⟨q.toArray⟩,.int .i64 mt,.slice Ap np cp] w fun e w'=>∃v err,e=.returned (.tuple #[v,.int .i64 err])/\R v err w') :
  Calls prog 92 #[.pointer (some ⟨bl,0,none⟩),.pointer (some ⟨bf,0,none⟩),.pointer (some ⟨bm,0,none⟩)] w fun e w'=>∃v err,e=.returned (.tuple #[v,.int .i64 err])/\R v err w':=by
 have HK:=Lh hK;clear hK;go_enter func92,ntmps92;go_wp2_with fail
 refine HK.out.mono ?_
 rintro e w1 ⟨v,err,rfl,hR⟩;have HR:=Lh hR;clear hR;go_wp2;refine bodyPost_ret (v:=.tuple #[v,.int .i64 err]) (by simp[results,results92,go_sem]) rfl ?_
 exact⟨v,err,rfl,HR.out⟩
structure Gn where
 fact:List UInt8
 lot:List UInt8
 ins:List UInt8
 acq:Int
 day:Int
 q:List UInt8
 pro:List UInt8
 cost:List UInt8
def LN (x:Gn):List Value:=[.string ⟨x.fact.toArray⟩,.string ⟨x.lot.toArray⟩,.string ⟨x.ins.toArray⟩,.int .i64 x.acq,.int .i64 x.day,.string ⟨x.q.toArray⟩,.string ⟨x.pro.toArray⟩,.string ⟨x.cost.toArray⟩,.string ⟨#[]⟩,.string ⟨#[]⟩]
def WN (xs:List Gn):List Value:=xs.flatMap LN
theorem JU (xs ys:List Gn):WN (xs++ys)=WN xs++WN ys:=List.flatMap_append
theorem DG (x:Gn):∀u∈LN x,u.oneCell'=true:=by
 intro u hu;simp only[LN,List.mem_cons,List.not_mem_nil,or_false] at hu;rcases hu with rfl|rfl|rfl|rfl|rfl|rfl|rfl|rfl|rfl|rfl<;>rfl
theorem NI:(prog.info? 89).map (fun i=>(i.zero,i.size,i.bytes))=some (some (.agg #[.string ⟨#[]⟩,.string ⟨#[]⟩,.string ⟨#[]⟩,.int .i64 0,.int .i64 0,.string ⟨#[]⟩,.string ⟨#[]⟩,.string ⟨#[]⟩,.string ⟨#[]⟩,.string ⟨#[]⟩]),10,144):=by kernel_rfl
structure Sp where
 fact:List UInt8
 lot:List UInt8
 q:List UInt8
 cost:List UInt8
def LO (x:Sp):List Value:=[.string ⟨x.fact.toArray⟩,.string ⟨x.lot.toArray⟩,.string ⟨#[]⟩,.string ⟨x.q.toArray⟩,.string ⟨#[]⟩,.string ⟨x.cost.toArray⟩]
def Uy (xs:List Sp):List Value:=xs.flatMap LO
theorem JV (xs ys:List Sp):Uy (xs++ys)=Uy xs++Uy ys:=List.flatMap_append
theorem DI (x:Sp):∀u∈LO x,u.oneCell'=true:=by
 intro u hu;simp only[LO,List.mem_cons,List.not_mem_nil,or_false] at hu;rcases hu with rfl|rfl|rfl|rfl|rfl|rfl<;>rfl
theorem NJ:(prog.info? 136).map (fun i=>(i.zero,i.size,i.bytes))=some (some (.agg #[.string ⟨#[]⟩,.string ⟨#[]⟩,.string ⟨#[]⟩,.string ⟨#[]⟩,.string ⟨#[]⟩,.string ⟨#[]⟩]),6,96):=by kernel_rfl
theorem XN {P:Program} {F:Fence} {n0:Nat} {w:World} {ops:Array Oper} {rest:List Oper} {o:Oper} {a:Act} {Q:Exit->Act->World->Prop} (hgd:o.guard=none) (s x:Operand) (t:TypeId)
  (ho:o.op=.call { callee:=.builtin .append,args:=#[s,x],argTypes:=#[t,t] })
  (base:Nat) (e:TypeId) (i:TypeInfo) (z:Value) (size bytes:Nat) (ht:P.underlying t=some (.slice e)) (hi:P.info? e=some i) (hz:i.zero=some z)
  (hsize:i.size=size) (hby:i.bytes=bytes) (hzs:z.cells.size=size) (hsz:0<size)
  (v:Value) (n:Nat) (xs:List Value) (hs:a.eval s=v) (hown:w.ownsRow base e size v n xs)
  (ad:Addr) (m c:Nat) (news:List Value) (hx:a.eval x=.slice (some ad) m c) (hl:news.length=m*size) (hnews:∀j u,news[j]?=some u->w.cell? (ad.add j)=some u) (h1:∀u∈news,u.oneCell'=true)
  (h63:n+m<=maxLen) (hbytes:(n+m)*bytes<=140737488355328) (hbase:base<=w.heap.size)
  (h:∀v' w',w'.ownsRow base e size v' (n+m) (xs++news)->w.grownBy w' v.ownBlock->(∀g,v'.ownBlock=some g->v.ownBlock=some g∨w.heap.size<=g)->wpListIn F n0 P ops Q rest (a.put o.dst v') w'):wpListIn F n0 P ops Q (o::rest) a w:=by
 refine wpListIn_plain hgd fun K hK=>?_
 obtain⟨v',w',hr,h2,h3,-⟩:=run_append_own (P:=P) w base t o.type e i z size bytes ht hi hz hsize hby hzs hsz v n xs hown ad m c news hl hnews h1 h63 hbytes hbase;have h5:=Ub (P:=P) base t o.type e i z size bytes ht hi hz hsize hby hzs hsz v n xs hown ad m c news hl hnews h1 h63 hbytes hr;unfold Oper.wpIn;refine⟨?_,?_⟩
 ·simp[Oper.about,ho,resolve,Target.leads,Sem.run_pure]
 ·rw[Oper.semAt_plain F _ _ (by rw[ho];intro c hc';cases hc')]
  simp[execOp,ho,resolve,invoke,builtin,hs,hx,hr,Result.andThen];exact hK _ _ (h v' w' h2 h3 h5)
theorem Qa {P:Program} {F:Fence} {n0:Nat} {w:World} {ops:Array Oper} {rest:List Oper} {op:Oper} {a:Act} {Q:Exit->Act->World->Prop} (hgd:op.guard=none) (ty:TypeId) (x:Operand) (ho:op.op=.load ty x) (b k:Nat) (hx:a.eval x=.pointer (some ⟨b,k,none⟩)) (cs:List Value) {d:TypeDesc} (hc:w.rangeAt b k cs)
  (hu:P.underlying ty=some d) (hd:d.isRow=true) (hi:(P.info? ty).map (·.size)=some cs.length) (h:wpListIn F n0 P ops Q rest (a.put op.dst (.agg cs.toArray)) w):wpListIn F n0 P ops Q (op::rest) a w:=by
 refine wpListIn_plain hgd fun K hK=>?_
 have hr:=ZH (P:=P) (e:=a.eval) ty x ho b k hx cs d hc hu hd hi;unfold Oper.wpIn;refine⟨?_,?_⟩
 ·simp[Oper.about,ho]
 ·rw[Oper.semAt_plain F _ _ (by rw[ho];intro c hc';cases hc'),hr]
  exact hK _ _ h
theorem VC {P:Program} {F:Fence} {n0:Nat} {w:World} {ops:Array Oper} {rest:List Oper} {op:Oper} {a:Act} {Q:Exit->Act->World->Prop} (hgd:op.guard=none) (ty:TypeId) (x y:Operand) (ho:op.op=.store ty x y)
  (b k:Nat) (cells:Array Value) (hx:a.eval x=.pointer (some ⟨b,k,none⟩)) (hy:a.eval y=.agg cells)
  (ht:w.there b k cells.size) (hi:(P.info? ty).map (·.size)=some cells.size) (h1:cells.all (·.oneCell')=true)
  (h:wpListIn F n0 P ops Q rest (a.put op.dst undef) (w.setCells b k cells.toList)):wpListIn F n0 P ops Q (op::rest) a w:=by
 refine wpListIn_plain hgd fun K hK=>?_
 have hr:=ZZ (P:=P) (e:=a.eval) (w:=w) ty x y ho b k cells hx hy ht hi h1;unfold Oper.wpIn;refine⟨?_,?_⟩
 ·simp[Oper.about,ho]
 ·rw[Oper.semAt_plain F _ _ (by rw[ho];intro c hc';cases hc'),hr]
  exact hK _ _ h
theorem Qb {P:Program} (w:World) (b o:Nat) (ty:TypeId) (v:Value) (hc:(w.cell? ⟨b,o,none⟩).isSome=true) (hf:w.frozen? ⟨b,o,none⟩=false) (hi:(P.info? ty).map (·.size)=some 1) (h1:v.oneCell'=true) :
  (storeVar ty ⟨b,o,none⟩ v).run P w=.ok () (w.setCell ⟨b,o,none⟩ v):=by
 have:=run_storeCells_cells (P:=P) b o [v] 0 w (fun j hj=>by
  have:j=0:=by simpa using hj
  subst this;simpa using hc) (fun j hj=>by
  have:j=0:=by simpa using hj
  subst this;simpa using hf) (fun u hu=>by
  simp only[List.mem_cons,List.not_mem_nil,or_false] at hu
  subst hu;exact h1)
 have hcs:v.cells=#[v]:=by cases v<;>first|rfl|cases h1
 cases hq:P.info? ty with
 | none=>simp[hq] at hi
 | some i=>
  have hs:i.size=1:=by simp[hq] at hi;omega
  simp only[Nat.add_zero] at this;simp[storeVar,sizeOf,typeInfo,hq,hcs,hs,this,World.setCells]
theorem UJ {P:Program} {e:Operand->Value} {o:Oper} {w:World} (ty:TypeId) (x y:Operand) (ho:o.op=.store ty x y) (b k:Nat) (v:Value) (hx:e x=.pointer (some ⟨b,k,none⟩)) (hy:e y=v)
  (hc:(w.cell? ⟨b,k,none⟩).isSome=true) (hf:w.frozen? ⟨b,k,none⟩=false) (hi:(P.info? ty).map (·.size)=some 1) (h1:v.oneCell'=true):(execOp e o).run P w=.ok .skip (w.setCell ⟨b,k,none⟩ v):=by
 unfold execOp;simp only[ho,hx,hy,Instr.storeAt,Instr.sureAddr,Sem.run_bind,Sem.run_pure,Result.andThen_ok,Qb w b k ty v hc hf hi h1]
theorem WR {P:Program} {F:Fence} {n0:Nat} {w:World} {ops:Array Oper} {rest:List Oper} {op:Oper} {a:Act} {Q:Exit->Act->World->Prop} (hgd:op.guard=none) (ty:TypeId) (x y:Operand) (ho:op.op=.store ty x y)
  (b k:Nat) (v:Value) (hx:a.eval x=.pointer (some ⟨b,k,none⟩)) (hy:a.eval y=v)
  (hc:(w.cell? ⟨b,k,none⟩).isSome=true) (hf:w.frozen? ⟨b,k,none⟩=false) (hi:(P.info? ty).map (·.size)=some 1) (h1:v.oneCell'=true)
  (h:wpListIn F n0 P ops Q rest (a.put op.dst undef) (w.setCell ⟨b,k,none⟩ v)):wpListIn F n0 P ops Q (op::rest) a w:=by
 refine wpListIn_plain hgd fun K hK=>?_
 have hr:=UJ (P:=P) (e:=a.eval) (w:=w) ty x y ho b k v hx hy hc hf hi h1;unfold Oper.wpIn;refine⟨?_,?_⟩
 ·simp[Oper.about,ho]
 ·rw[Oper.semAt_plain F _ _ (by rw[ho];intro c hc';cases hc'),hr]
  exact hK _ _ h
def MB (fid fins:List UInt8) (day:Int) (y:Lot×List UInt8):Gn:=⟨fid,y.1.id,fins,y.1.acq,day,y.1.q,y.2,y.1.cost⟩
def LP (fid:List UInt8) (y:Lot×List UInt8):Sp:=⟨fid,y.1.id,y.1.q,y.1.cost⟩
def Sj (g nr cr:Nat) (v1 v2:Value):Array Value:=#[.slice (some ⟨g,0,none⟩) nr cr,v1,v2,.slice none 0 0]
structure Vf (w:World) (R:Loop) (Bx d l g nr cr b0:Nat) (ob:Obj) (v1 v2:Value) (gs:List Gn) (ss:List Sp) (W:World):Prop where
 below:Below w.heap.size w W
 loop:W.heap[l]?=some (.loop R)
 dfr:W.heap[d]?=some (.deferred (some []))
 par:W.heap[b0]?=some ob
 lo:Bx<=b0/\Bx<=W.heap.size
 res:W.heap[w.heap.size]?=some (.cells (Sj g nr cr v1 v2) 60 (0,0))
 o1:W.ownsRow Bx 89 10 v1 gs.length (WN gs)
 o2:W.ownsRow Bx 136 6 v2 ss.length (Uy ss)
 dis:Dis v1 v2
 n1:v1.ownBlock≠some b0
 n2:v2.ownBlock≠some b0
section
variable {w:World} {R:Loop} {Bx d l g nr cr b0:Nat} {ob:Obj} {v1 v2:Value} {gs:List Gn} {ss:List Sp} {W W':World}
theorem Yv {w w':World} {B:Nat} (h:Below B w w') {b:Nat} (hb:B<=b) (o:Nat) (y:Value):Below B w (w'.setCell ⟨b,o,none⟩ y):=h.setCell (p:=⟨b,o,none⟩) hb y
theorem Vf.mono (h:Vf w R Bx d l g nr cr b0 ob v1 v2 gs ss W) (hb:Below W.heap.size W W'):Vf w R Bx d l g nr cr b0 ob v1 v2 gs ss W':=
 ⟨bto h.below hb,Zt h.loop hb,Zt h.dfr hb,Zt h.par hb,⟨h.lo.1,Nt h.lo.2 hb.size⟩,Zt h.res hb,Z0 h.o1 hb,Z0 h.o2 hb,h.dis,h.n1,h.n2⟩
theorem Xs {w w':World} {B k sz:Nat} {ty:TypeId} {v:Value} {cs:List Value} (h:w.ownsRow B ty sz v k cs) (hb:∀b,B<=b->b<w.heap.size->w'.heap[b]?=w.heap[b]?):w'.ownsRow B ty sz v k cs:=by
 refine⟨h.1,?_⟩;rcases h.2 with h2|⟨g,cap,cur,e,hB,hg,r⟩
 ·exact .inl h2
 ·exact .inr ⟨g,cap,cur,e,hB,(hb g hB (Ag.1 hg).1).trans hg,r⟩
theorem Vf.done {R1 R2:Loop} (hR:R2=R) (hl:l≠d/\w.heap.size<l/\l<Bx) (h:Vf w R1 Bx d l g nr cr b0 ob v1 v2 gs ss W):Vf w R Bx d l g nr cr b0 ob v1 v2 gs ss (W.putObj l (.loop R2)):=by
 subst hR;have hlo:=h.lo.1;have ho:∀b,b≠l->(W.putObj l (.loop R2)).heap[b]?=W.heap[b]?:=fun b hb=>World.putObj_heap_other (by omega)
 exact⟨Xr h.below (by omega),World.putObj_heap_same (Ag.1 h.loop).1,(ho _ (by omega)).trans h.dfr,(ho _ (by omega)).trans h.par,⟨h.lo.1,by simpa using h.lo.2⟩,(ho _ (by omega)).trans h.res,Xs h.o1 (fun b hb _=>ho b (by omega)),Xs h.o2 (fun b hb _=>ho b (by omega)),h.dis,h.n1,h.n2⟩
theorem Vf.grown (h:Vf w R Bx d l g nr cr b0 ob v1 v2 gs ss W) (hl:w.heap.size<l/\w.heap.size<d/\l<Bx/\d<Bx) {row:Option Nat} (hr:∀k,row=some k->Bx<=k/\k≠b0) (hg:W.grownBy W' row) :
  Below w.heap.size w W'/\W'.heap[l]?=some (.loop R)/\W'.heap[d]?=some (.deferred (some []))/\W'.heap[b0]?=some ob/\W'.heap[w.heap.size]?=some (.cells (Sj g nr cr v1 v2) 60 (0,0))/\Bx<=W'.heap.size:=by
 have hk:∀k o,W.heap[k]?=some o->(∀x,row=some x->x≠k)->W'.heap[k]?=some o:=fun k o h1 h2=>(hg.block k (Ag.1 h1).1 (fun e=>h2 k e.symm rfl)).trans h1
 have hs:=h.below.size;refine⟨h.below.grown hg hs (fun k hk=>?_),hk _ _ h.loop (fun x e=>?_),hk _ _ h.dfr (fun x e=>?_),hk _ _ h.par (fun x e=>?_),hk _ _ h.res (fun x e=>?_),Nt h.lo.2 hg.size⟩
 ·have:=(hr k hk).1;omega
 ·have:=(hr x e).1;omega
 ·have:=(hr x e).1;omega
 ·exact (hr x e).2
 ·have:=(hr x e).1;omega
theorem Vf.r1 (h:Vf w R Bx d l g nr cr b0 ob v1 v2 gs ss W):∀k,v1.ownBlock=some k->Bx<=k/\k≠b0:=fun k hk=>⟨(World.ownsRow.lt h.o1 k hk).1,fun e=>h.n1 (by rw[hk,e])⟩
theorem Vf.r2 (h:Vf w R Bx d l g nr cr b0 ob v1 v2 gs ss W):∀k,v2.ownBlock=some k->Bx<=k/\k≠b0:=fun k hk=>⟨(World.ownsRow.lt h.o2 k hk).1,fun e=>h.n2 (by rw[hk,e])⟩
theorem Vf.gain (h:Vf w R Bx d l g nr cr b0 ob v1 v2 gs ss W) (hl:w.heap.size<l/\w.heap.size<d/\l<Bx/\d<Bx) {x:Gn} {v1':Value} (ho:W'.ownsRow Bx 89 10 v1' (gs.length+1) (WN gs++LN x)) (hg:W.grownBy W' v1.ownBlock) (hf:∀k,v1'.ownBlock=some k->v1.ownBlock=some k∨W.heap.size<=k) :
  Vf w R Bx d l g nr cr b0 ob v1' v2 (gs++[x]) ss (W'.setCell ⟨w.heap.size,1,none⟩ v1'):=by
 obtain⟨a1,a2,a3,a4,a5,a6⟩:=h.grown hl h.r1 hg;have hlo:=h.lo.1
 have h2:=h.o2.kept hg (by
  cases hv:v2.ownBlock with
  | none=>exact .inl rfl
  | some k=>exact .inr (fun e=>h.dis k e.symm hv))
 have hb0:=(Ag.1 h.par).1;have hoth:∀b,b≠w.heap.size->(W'.setCell ⟨w.heap.size,1,none⟩ v1').heap[b]?=W'.heap[b]?:=fun b hb=>Below.heap_setCell W' ⟨w.heap.size,1,none⟩ v1' b hb
 refine⟨Yv a1 (Nl _) 1 v1',(hoth _ (by omega)).trans a2,(hoth _ (by omega)).trans a3,(hoth _ (by omega)).trans a4,⟨hlo,by simpa using a6⟩,?_,?_,Xs h2 (fun b hb _=>hoth b (by omega)),h.dis.fresh hf (fun k hk=>(World.ownsRow.lt h.o2 k hk).2),LJ h.n1 hf hb0,h.n2⟩
 ·exact hset (o:=1) v1' a5
 ·rw[List.length_append,List.length_singleton,JU,show WN [x]=LN x by simp[WN]]
  exact Xs ho (fun b hb _=>hoth b (by omega))
theorem Vf.step (h:Vf w R Bx d l g nr cr b0 ob v1 v2 gs ss W) (hl:w.heap.size<l/\w.heap.size<d/\l<Bx/\d<Bx) {x:Sp} {v2':Value} (ho:W'.ownsRow Bx 136 6 v2' (ss.length+1) (Uy ss++LO x)) (hg:W.grownBy W' v2.ownBlock) (hf:∀k,v2'.ownBlock=some k->v2.ownBlock=some k∨W.heap.size<=k) :
  Vf w R Bx d l g nr cr b0 ob v1 v2' gs (ss++[x]) (W'.setCell ⟨w.heap.size,2,none⟩ v2'):=by
 obtain⟨a1,a2,a3,a4,a5,a6⟩:=h.grown hl h.r2 hg;have hlo:=h.lo.1
 have h2:=h.o1.kept hg (by
  cases hv:v1.ownBlock with
  | none=>exact .inl rfl
  | some k=>exact .inr (fun e=>h.dis k hv e.symm))
 have hb0:=(Ag.1 h.par).1;have hoth:∀b,b≠w.heap.size->(W'.setCell ⟨w.heap.size,2,none⟩ v2').heap[b]?=W'.heap[b]?:=fun b hb=>Below.heap_setCell W' ⟨w.heap.size,2,none⟩ v2' b hb
 refine⟨Yv a1 (Nl _) 2 v2',(hoth _ (by omega)).trans a2,(hoth _ (by omega)).trans a3,(hoth _ (by omega)).trans a4,⟨hlo,by simpa using a6⟩,?_,Xs h2 (fun b hb _=>hoth b (by omega)),?_,(h.dis.symm.fresh hf (fun k hk=>(World.ownsRow.lt h.o1 k hk).2)).symm,h.n1,LJ h.n2 hf hb0⟩
 ·exact hset (o:=2) v2' a5
 ·rw[List.length_append,List.length_singleton,JV,show Uy [x]=LO x by simp[Uy]]
  exact Xs ho (fun b hb _=>hoth b (by omega))
end
def Hc (w:World) (R:Loop) (Bx d l g nr cr:Nat) (fid fins:List UInt8) (day:Int) (b0:Nat) (ob:Obj) (ys:List (Lot×List UInt8)) (W:World):Prop:=
 ∃v1 v2,Vf w R Bx d l g nr cr b0 ob v1 v2 (ys.map (MB fid fins day)) (ys.map (LP fid)) W
structure Ay (w:World) (R:Loop) (Bx d l g nr cr bl bt:Nat) (v:Value) (T:List UInt8) (W:World):Prop where
 below:Below w.heap.size w W
 loop:W.heap[l]?=some (.loop R)
 dfr:W.heap[d]?=some (.deferred (some []))
 lo:Bx<=W.heap.size
 res:W.heap[w.heap.size]?=some (.cells (Sj g nr cr (.slice none 0 0) (.slice none 0 0)) 60 (0,0))
 lots:Blk W bl #[v]
 txt:Blk W bt #[.string ⟨T.toArray⟩]
theorem Ay.go {w:World} {R:Loop} {Bx d l g nr cr bl bt:Nat} {v:Value} {T:List UInt8} {W W':World} (h:Ay w R Bx d l g nr cr bl bt v T W) (fid fins:List UInt8) (day:Int) {b0:Nat} {ob:Obj} (hb:Below W.heap.size W W') (h0:W.heap.size<=b0) (h1:W'.heap[b0]?=some ob):Hc w R Bx d l g nr cr fid fins day b0 ob [] W':=
 ⟨.slice none 0 0,.slice none 0 0,{ below:=bto h.below hb,loop:=Zt h.loop hb,dfr:=Zt h.dfr hb,par:=h1,lo:=⟨Nt h.lo h0,Nt h.lo hb.size⟩,res:=Zt h.res hb,o1:=World.ownsRow_nil _ _ _ _,o2:=World.ownsRow_nil _ _ _ _,dis:=(fun g hg=>(by cases hg)),n1:=(fun e=>(by cases e)),n2:=(fun e=>(by cases e)) }⟩
end Go.Proofs.YtpieeldbamklkaaGreatDoor
