/- Texts put together: Kn Bo Ko Kq Zc Kr Ks Ku Za Ac Ad Ze. -/
import Derived.Test.YtpieeldbamklkaaGreatDoorW11
set_option maxHeartbeats 8000000
set_option maxRecDepth 100000
namespace Go.Proofs.YtpieeldbamklkaaGreatDoor
open Go.RowKit Go.Shelf Num
theorem Iy {word:List UInt8} {cls:Int} {H:List Bool} {M:Option Nat} {code:Bool} (h:H.length=13):(ZA word cls H M code)[15]?=some (.map M)/\(ZA word cls H M code)[16]?=some (.bool code):=by
 unfold ZA;rw[List.getElem?_toArray,List.getElem?_toArray,List.getElem?_cons_succ,List.getElem?_cons_succ,List.getElem?_cons_succ,List.getElem?_cons_succ,List.getElem?_append_right (by rw[List.length_map,h];decide),List.getElem?_append_right (by rw[List.length_map,h];decide),List.length_map,h]
 exact⟨rfl,rfl⟩
structure EP (w:World) (M:Option Nat) (k:Nat) (p q:Bool):Prop where
 is:∃bm es c j u b1 b2,M=some bm/\w.heap[bm]?=some (.map es c)/\Instr.findNow (.int .i64) (.int .i64 (k:Int)) es.toList 0=some (some (j,u))/\u=.func (.func 286) #[] #[.pointer (some ⟨b1,0,none⟩),.pointer (some ⟨b2,0,none⟩)]/\Blk w b1 #[.bool p]/\Blk w b2 #[.bool q]
theorem CX {w:World} {b k:Nat} (hN:Vt w b) (hk:YL w b k):∃p q,EP w (some b) k p q:=by
 obtain⟨es,c,h1,h2,h3⟩:=hN;obtain⟨es2,c2,g1,e,he,hke⟩:=hk;rw[h1] at g1;cases g1;rcases MapKept.findNow_spec (d:=.int .i64) (k:=.int .i64 (k:Int)) rfl es.toList 0 (fun x hx=>by obtain⟨⟨k,-,hk⟩,-⟩:=h3 x hx;rw[hk];rfl) with ⟨-,h5⟩|⟨j,e',h4,h5,h6⟩
 ·exact absurd hke (h5 e he)
 ·obtain⟨-,p,q,b1,b2,hu,hb1,hb2⟩:=h3 e' (Lm h5);exact⟨p,q,⟨b,es,c,_,_,b1,b2,rfl,h1,h4,hu,hb1,hb2⟩⟩
theorem Uz {f:Fct} {w:World} {word:List UInt8} {cls:Int} {H:List Bool} {M:Option Nat} {code:Bool} {k:Nat} {p q:Bool} {l l':List UInt8} (hG:GE w) (hs:Ez f) (hl:H.length=13) (hk:Ll f k=some (l,l')) (hX:EP w M k p q) :
  Calls Tryz.prog 184 #[.agg (Zs f),.agg (ZA word cls H M code),.int .i64 (k:Int)] w fun e w'=>e=.returned (.int .i64 (bwE p q l l' (fv l l')))/\Below w.heap.size w w':=by
 obtain⟨g1,g2,g3,g4⟩:=Vs w (.cells (Zs f) 48) (.cells (ZA word cls H M code) 270);obtain⟨bm,es,c,j,u,b1,b2,rfl,h1,h2,h3,h4,h5⟩:=hX.is;obtain⟨hl1,hl2⟩:=Cx hs hk;have CV:=Lh (EG (f:=f) hk);obtain⟨E,hE⟩:∃E,E=bwE p q l l' (fv l l'):=⟨_,rfl⟩
 rw[<-hE];obtain⟨W0,hW0⟩:∃W0,W0=(w.alloc (.cells (Zs f) 48)).alloc (.cells (ZA word cls H (some bm) code) 270):=⟨_,rfl⟩
 rw[<-hW0] at g1 g2 g3;have X0:Hid (Blk W0 w.heap.size (Zs f)):=⟨_,g1⟩;have X1:Hid (W0.cell? ⟨w.heap.size+1,15,none⟩=some (.map (some bm))):=(Zh g2 15).trans (Iy hl).1;have HM:=Lh (Zw h1 g3);have HF:=Lh h2;have H4:=Lh (h4.below g3);have H5:=Lh (h5.below g3);have HB:=Lh g3;have HU:=Lh h3;have CB:Hid (∀w',GE w'->Blk w' b1 #[.bool p]->Blk w' b2 #[.bool q]->Calls Tryz.prog 286 #[.agg #[.string ⟨l.toArray⟩,.string ⟨l'.toArray⟩],.pointer (some ⟨b1,0,none⟩),.pointer (some ⟨b2,0,none⟩)] w' fun e w''=>e=.returned (.int .i64 E)/\Below w'.heap.size w' w''):=fun w' hG' k1 k2=>by
  rw[hE];exact Ip p q (Q2 (k:=1000) hl1 hl2 (by decide)) hG' k1 k2
 have HW0:=Lh hW0;have HK:Hid (4<=k/\k<=9):=by
  show _/\_;unfold Ll at hk
  split at hk<;>first|(cases hk;omega)|cases hk
 clear g1 g2 g3 g4 h1 h2 h3 h4 h5 hl1 hl2 hE hW0 hX hs hk hl;have k0:((k:Int)==0)=false:=by rw[Bn];have:=HK.out;omega
 have k1:((k:Int)==1)=false:=by rw[Bn];have:=HK.out;omega
 have k2:((k:Int)==2)=false:=by rw[Bn];have:=HK.out;omega
 have k3:((k:Int)==3)=false:=by rw[Bn];have:=HK.out;omega
 have k10:((k:Int)==10)=false:=by rw[Bn];have:=HK.out;omega
 have k11:((k:Int)==11)=false:=by rw[Bn];have:=HK.out;omega
 have k12:((k:Int)==12)=false:=by rw[Bn];have:=HK.out;omega
 have e0:¬(k:Int)=0:=by have:=HK.out;omega
 have e1:¬(k:Int)=1:=by have:=HK.out;omega
 have e2:¬(k:Int)=2:=by have:=HK.out;omega
 have e3:¬(k:Int)=3:=by have:=HK.out;omega
 have e10:¬(k:Int)=10:=by have:=HK.out;omega
 have e11:¬(k:Int)=11:=by have:=HK.out;omega
 have e12:¬(k:Int)=12:=by have:=HK.out;omega
 go_enter Tryz.func184,Tryz.ntmps184;go_wp2_with fail;rw[<-HW0.out];refine Zm (by kernel_rfl) (by kernel_rfl) ?_
 refine Zb _ (fun _=>rfl) (fun ρ wz hw=>by go_simp;try with_reducible rfl) ?_
 simp only[Act.put,StT,StZ,StS,Nat.reduceAdd];refine Zb _ (fun _=>rfl) (fun ρ wz hw=>by have q0:wz.cell? ⟨w.heap.size+1,15,none⟩=some (.map (some bm)):=(World.cell?_of_block (hw.block _ (World.block_lt_of_cell? _ _ X1.out))).trans X1.out;go_simp;try with_reducible rfl) ?_
 simp only[Act.put,StT,StZ,StS,Nat.reduceAdd];refine Zb _ (fun _=>rfl) (fun ρ wz hw=>by go_simp;try with_reducible rfl) ?_
 simp only[Act.put,StT,StZ,StS,Nat.reduceAdd];refine Zb u (fun _=>rfl) (fun ρ wz hw=>by have q0:=Uj (P:=Tryz.prog) (mty:=268) (key:=.int .i64 (k:Int)) Tryz.underlying268 Tryz.underlying3 rfl (Zw HM.out hw) HF.out false;go_simp;try with_reducible rfl) ?_
 simp only[Act.put,StT,StZ,StS,Nat.reduceAdd];refine Zb (.agg (Zs f)) (fun _=>rfl) (fun ρ wz hw=>YI 48 _ rfl w.heap.size rfl (Zs f) (X0.out.below hw) Tryz.underlying48 rfl ZU) ?_
 simp only[Act.put,StT,StZ,StS,Nat.reduceAdd];refine Zb _ (fun _=>rfl) (fun ρ wz hw=>by go_simp;try with_reducible rfl) ?_
 simp only[Act.put,StT,StZ,StS,Nat.reduceAdd];refine Zl _ _ _ (fun _=>rfl) (fun ρ wz hw=>by go_simp;try with_reducible rfl) (fun wz hw=>CV.out.of hG (bto HB.out hw)) ?_
 simp only[Act.put,StT,StZ,StS,Nat.reduceAdd];refine Zl 286 #[.agg #[.string ⟨l.toArray⟩,.string ⟨l'.toArray⟩],.pointer (some ⟨b1,0,none⟩),.pointer (some ⟨b2,0,none⟩)] _ (fun _=>rfl) (fun ρ wz hw=>by rw[HU.out];go_simp;try with_reducible rfl) (fun wz hw=>CB.out wz (hG.below (bto HB.out hw)) (H4.out.below hw) (H5.out.below hw)) ?_
 simp only[Act.put,StT,StZ,StS,Nat.reduceAdd];refine Zb _ (fun _=>rfl) (fun ρ wz hw=>by go_simp;try with_reducible rfl) ?_
 simp only[Act.put,StT,StZ,StS,Nat.reduceAdd];refine Zu (fun ρ w9 hF=>?_)
 have hb9:=bto HB.out hF.below;clear hF;go_wp2;go_ret;exact⟨rfl,hb9⟩
def EQ (f:Fct) (ps:List Pk):Nat->Prop
 | 0=>nmE f.ins=0
 | 10=>ps=[]/\0<=val f.q
 | _=>False
structure Lq (w:World) (f:Fct) (ps:List Pk) (os:List Opn):Prop where
 sm:Ez f
 pk:UG w f.pA ps
 pn:ps.length=f.pN
 pc:f.pN<=f.pC
 ps:∀p∈ps,p.lot.length<=1000/\p.q.length<=100
 op:EJ w f.oA os
 on:os.length=f.oN
 os:∀p∈os,Zaa p
theorem Lq.below {w w':World} {f:Fct} {ps:List Pk} {os:List Opn} (h:Lq w f ps os) (hb:Below w.heap.size w w'):Lq w' f ps os:=⟨h.sm,h.pk.below hb,h.pn,h.pc,h.ps,h.op.below hb,h.on,h.os⟩
theorem Zag {f:Fct} {ps:List Pk} {os:List Opn} {w:World} {word:List UInt8} {cls:Int} {H:List Bool} {M:Option Nat} {code:Bool} {k:Nat} (hG:GE w) (hA:Lq w f ps os) (hl:H.length=13) (hk:k∈Qp) :
  Calls Tryz.prog 184 #[.agg (Zs f),.agg (ZA word cls H M code),.int .i64 (k:Int)] w fun e w'=>(∃E:Int,e=.returned (.int .i64 E)/\(EQ f ps k->E=0))/\Below w.heap.size w w':=by
 obtain⟨g1,g2,g3,g4⟩:=Vs w (.cells (Zs f) 48) (.cells (ZA word cls H M code) 270);have X0:Hid (Blk ((w.alloc (.cells (Zs f) 48)).alloc (.cells (ZA word cls H M code) 270)) w.heap.size (Zs f)):=⟨_,g1⟩;have X1:Hid (((w.alloc (.cells (Zs f) 48)).alloc (.cells (ZA word cls H M code) 270)).cell? ⟨w.heap.size+1,16,none⟩=some (.bool code)):=(Zh g2 16).trans (Iy hl).2;have HB:=Lh g3;have HA:=Lh (hA.below g3);have hsi:=hA.sm.ins;have hst:=hA.sm.tgt;have hso:=hA.sm.oth;have hsc:=hA.sm.cur;clear g1 g2 g3 g4 hA;simp only[Qp,List.mem_cons,List.not_mem_nil,or_false] at hk;rcases hk with rfl|rfl|rfl|rfl|rfl|rfl|rfl
 ·have q0:((w.alloc (.cells (Zs f) 48)).alloc (.cells (ZA word cls H M code) 270)).cell? ⟨w.heap.size,5,none⟩=some (.string ⟨f.ins.toArray⟩):=X0.out.c 5;have C1:=Lh (N3 (l:=f.ins) (by omega))
  go_enter Tryz.func184,Tryz.ntmps184;go_wp2_with fail
  with_reducible refine (C1.out.of hG HB.out).mono ?_
  rintro e w1 ⟨rfl,hb1⟩;go_wp2;go_ret;exact⟨⟨_,rfl,fun h=>h⟩,bto HB.out hb1⟩
 ·have q0:((w.alloc (.cells (Zs f) 48)).alloc (.cells (ZA word cls H M code) 270)).cell? ⟨w.heap.size,5,none⟩=some (.string ⟨f.ins.toArray⟩):=X0.out.c 5;have q1:((w.alloc (.cells (Zs f) 48)).alloc (.cells (ZA word cls H M code) 270)).cell? ⟨w.heap.size,6,none⟩=some (.string ⟨f.oth.toArray⟩):=X0.out.c 6;have q2:((w.alloc (.cells (Zs f) 48)).alloc (.cells (ZA word cls H M code) 270)).cell? ⟨w.heap.size,7,none⟩=some (.string ⟨f.cur.toArray⟩):=X0.out.c 7;have q3:=X1.out;cases code with
  | true=>
   have C1:=Lh (fun w=>Iq (l:=f.oth) (by omega) w)
   go_enter Tryz.func184,Tryz.ntmps184;go_wp2_with fail;refine (C1.out _).mono ?_;rintro e w1 ⟨⟨b,rfl⟩,hb1⟩;have hbw:=bto HB.out hb1;have q4:w1.cell? ⟨w.heap.size,6,none⟩=some (.string ⟨f.oth.toArray⟩):=(X0.out.below hb1).c 6;cases b with
   | false=>
    go_wp2;go_ret;exact⟨⟨_,rfl,fun h=>h.elim⟩,hbw⟩
   | true=>
    by_cases ho:f.oth=f.cur
    ·have e5:(f.oth==f.cur)=true:=by rw[beq_iff_eq];exact ho
     clear ho;go_wp2;go_ret;exact⟨⟨_,rfl,fun h=>h.elim⟩,hbw⟩
    ·have e5:(f.oth==f.cur)=false:=by rw[Bn];exact ho
     clear ho;go_wp2;go_ret;exact⟨⟨_,rfl,fun h=>h.elim⟩,hbw⟩
  | false=>
   have C1:=Lh (N3 (l:=f.oth) (by omega))
   generalize nmE f.oth=z at *;go_enter Tryz.func184,Tryz.ntmps184;go_wp2_with fail
   with_reducible refine (C1.out.of hG HB.out).mono ?_
   rintro e w1 ⟨rfl,hb1⟩;have hbw:=bto HB.out hb1;have q4:w1.cell? ⟨w.heap.size,6,none⟩=some (.string ⟨f.oth.toArray⟩):=(X0.out.below hb1).c 6
   by_cases hz:z=0
   rotate_left
   ·have e6:(z==0)=false:=by rw[Bn];exact hz
    have e7:decide (z=0)=false:=Df hz;go_wp2;go_ret;exact⟨⟨_,rfl,fun h=>h.elim⟩,hbw⟩
   subst hz
   by_cases ho:f.oth=f.ins
   ·have e5:(f.oth==f.ins)=true:=by rw[beq_iff_eq];exact ho
    clear ho;go_wp2;go_ret;exact⟨⟨_,rfl,fun h=>h.elim⟩,hbw⟩
   ·have e5:(f.oth==f.ins)=false:=by rw[Bn];exact ho
    clear ho;go_wp2;go_ret;exact⟨⟨_,rfl,fun h=>h.elim⟩,hbw⟩
 ·have q0:((w.alloc (.cells (Zs f) 48)).alloc (.cells (ZA word cls H M code) 270)).cell? ⟨w.heap.size,7,none⟩=some (.string ⟨f.cur.toArray⟩):=X0.out.c 7;have C1:=Lh (Iq (l:=f.cur) (by omega) ((w.alloc (.cells (Zs f) 48)).alloc (.cells (ZA word cls H M code) 270)))
  go_enter Tryz.func184,Tryz.ntmps184;go_wp2_with fail;refine C1.out.mono ?_;rintro e w1 ⟨⟨b,rfl⟩,hb1⟩;have hbw:=bto HB.out hb1;cases b with
  | false=>
   go_wp2;go_ret;exact⟨⟨_,rfl,fun h=>h.elim⟩,hbw⟩
  | true=>
   go_wp2;go_ret;exact⟨⟨_,rfl,fun h=>h.elim⟩,hbw⟩
 ·have q0:((w.alloc (.cells (Zs f) 48)).alloc (.cells (ZA word cls H M code) 270)).cell? ⟨w.heap.size,8,none⟩=some (.string ⟨f.tgt.toArray⟩):=X0.out.c 8;have C1:=Lh (N3 (l:=f.tgt) (by omega))
  go_enter Tryz.func184,Tryz.ntmps184;go_wp2_with fail
  with_reducible refine (C1.out.of hG HB.out).mono ?_
  rintro e w1 ⟨rfl,hb1⟩;go_wp2;go_ret;exact⟨⟨_,rfl,fun h=>h.elim⟩,bto HB.out hb1⟩
 ·have C1:=Lh (A8 (hG.below HB.out) HA.out.sm HA.out.pk HA.out.pn HA.out.pc HA.out.ps);go_enter Tryz.func184,Tryz.ntmps184;go_wp2_with (refine Zt rfl 48 (.tmp 3) rfl w.heap.size rfl (Zs f) X0.out Tryz.underlying48 rfl ZU ?_);refine C1.out.mono ?_;rintro e w1 ⟨⟨E,rfl,hE⟩,hb1⟩;have HE:=Lh hE;clear hE;go_wp2;go_ret;exact⟨⟨_,rfl,fun h=>HE.out h.1 h.2⟩,bto HB.out hb1⟩
 ·have C1:=Lh (EK (hG.below HB.out) HA.out.op HA.out.on HA.out.os);go_enter Tryz.func184,Tryz.ntmps184;go_wp2_with (refine Zt rfl 48 (.tmp 3) rfl w.heap.size rfl (Zs f) X0.out Tryz.underlying48 rfl ZU ?_);refine C1.out.mono ?_;rintro e w1 ⟨⟨E,rfl⟩,hb1⟩;go_wp2;go_ret;exact⟨⟨_,rfl,fun h=>h.elim⟩,bto HB.out hb1⟩
 ·have q0:((w.alloc (.cells (Zs f) 48)).alloc (.cells (ZA word cls H M code) 270)).cell? ⟨w.heap.size,20,none⟩=some (.int .i64 f.choice):=X0.out.c 20
  by_cases hc:f.choice<0
  ·have e5:decide (f.choice<0)=true:=Dt hc;go_enter Tryz.func184,Tryz.ntmps184;go_wp2;go_ret;exact⟨⟨_,rfl,fun h=>h.elim⟩,HB.out⟩
  ·have e5:decide (f.choice<0)=false:=Df hc;go_enter Tryz.func184,Tryz.ntmps184;go_wp2;go_ret;exact⟨⟨_,rfl,fun h=>h.elim⟩,HB.out⟩
def QU (w:World) (u:Value) (p q:Bool):Prop:=∃b1 b2,u=.func (.func 286) #[] #[.pointer (some ⟨b1,0,none⟩),.pointer (some ⟨b2,0,none⟩)]/\Blk w b1 #[.bool p]/\Blk w b2 #[.bool q]
theorem QU.below {w w':World} {u:Value} {p q:Bool} (h:QU w u p q) (hb:Below w.heap.size w w'):QU w' u p q:=by
 obtain⟨b1,b2,e,h1,h2⟩:=h;exact⟨b1,b2,e,h1.below hb,h2.below hb⟩
def KXF (w:World) (v:Value):Prop:=∃bt vp vl,KX bt v/\w.heap[bt]?=some (.map (YO [(4,vp),(5,vl),(6,vl)]) 3)/\QU w vp true false/\QU w vl false false
theorem KXF.below {w w':World} {v:Value} (h:KXF w v) (hb:Below w.heap.size w w'):KXF w' v:=by
 obtain⟨bt,vp,vl,h1,h2,h3,h4⟩:=h;exact⟨bt,vp,vl,h1,Zw h2 hb,h3.below hb,h4.below hb⟩
theorem Ox {w:World} {bt:Nat} {vp vl:Value} (h:w.heap[bt]?=some (.map (YO [(4,vp),(5,vl),(6,vl)]) 3)) (h1:QU w vp true false) (h2:QU w vl false false):EP w (some bt) 4 true false/\EP w (some bt) 5 false false/\EP w (some bt) 6 false false:=by
 obtain⟨b1,b2,e1,k1,k2⟩:=h1;obtain⟨b3,b4,e2,k3,k4⟩:=h2;obtain⟨j4,f4⟩:=SO (kd:=.i64) [(4,vp),(5,vl),(6,vl)] 0 4 vp 0 (by simp) (by simp)
 obtain⟨j5,f5⟩:=SO (kd:=.i64) [(4,vp),(5,vl),(6,vl)] 0 5 vl 0 (by simp) (by simp)
 obtain⟨j6,f6⟩:=SO (kd:=.i64) [(4,vp),(5,vl),(6,vl)] 0 6 vl 0 (by simp) (by simp)
 exact⟨⟨bt,_,_,j4,vp,b1,b2,rfl,h,f4,e1,k1,k2⟩,⟨bt,_,_,j5,vl,b3,b4,rfl,h,f5,e2,k3,k4⟩,⟨bt,_,_,j6,vl,b3,b4,rfl,h,f6,e2,k3,k4⟩⟩
def GB (w:World) (u:Value):Prop:=∃r bt vp vl es c,u=.map (some r)/\w.heap[r]?=some (.map es c)/\Qq bt w r/\YL w r 4/\w.heap[bt]?=some (.map (YO [(4,vp),(5,vl),(6,vl)]) 3)/\QU w vp true false/\QU w vl false false
theorem GB.below {w w':World} {u:Value} (h:GB w u) (hb:Below w.heap.size w w'):GB w' u:=by
 obtain⟨r,bt,vp,vl,es,c,e,h1,h2,h3,h4,h5,h6⟩:=h;exact⟨r,bt,vp,vl,es,c,e,Zw h1 hb,h2.below hb,h3.below hb,Zw h4 hb,h5.below hb,h6.below hb⟩
def KQ (kd:Int) (w:World) (v:Value):Prop:=KPg w v/\(kd=4->KXF w v)
theorem KQ.below {kd:Int} {w w':World} {v:Value} (h:KQ kd w v) (hb:Below w.heap.size w w'):KQ kd w' v:=⟨h.1.below hb,fun e=>(h.2 e).below hb⟩
theorem ZaT {w:World} {u:Value} (kd:Int) (h:GB w u):∃v b,(Instr.lookup 272 u (.int .i64 kd) true).run Tryz.prog w=.ok (.tuple #[v,.bool b]) w/\KQ kd w v/\(kd=4->b=true):=by
 obtain⟨r,bt,vp,vl,es,c,rfl,h1,ho,hk,h4,h5,h6⟩:=h;obtain⟨es2,c2,g1,g2,g3⟩:=ho;rw[h1] at g1;cases g1;rcases MapKept.findNow_spec (d:=.int .i64) (k:=.int .i64 kd) rfl es.toList 0 (fun x hx=>by obtain⟨k,hk,-⟩:=g3 x hx;rw[hk];rfl) with ⟨h7,h8⟩|⟨j,e,h7,h8,h9⟩
 ·have hr:=TH (P:=Tryz.prog) (mty:=272) (key:=.int .i64 kd) Tryz.underlying272 Tryz.underlying3 rfl h1 (Tryz.zeroValue270 w) h7 true;refine⟨_,_,by rw[if_pos rfl] at hr;exact hr,⟨⟨[],0,List.replicate 13 false,none,false,rfl,rfl,fun i hi=>?_⟩,fun e=>?_⟩,fun e=>?_⟩
  ·rw[List.getElem?_replicate] at hi
   split at hi<;>cases hi
  all_goals
   obtain⟨es3,c3,k1,e3,k2,k3⟩:=hk;rw[h1] at k1;cases k1;exact absurd k3 (by rw[e] at h8;exact h8 e3 k2)
 ·have hr:=Uj (P:=Tryz.prog) (mty:=272) (key:=.int .i64 kd) Tryz.underlying272 Tryz.underlying3 rfl h1 h7 true;obtain⟨k,k1,k2,k3⟩:=g3 e (Lm h8);refine⟨_,_,by rw[if_pos rfl] at hr;exact hr,⟨k2,fun e4=>⟨bt,vp,vl,k3 ?_,h4,h5,h6⟩⟩,fun _=>rfl⟩
  rw[h9,e4] at k1;injection k1 with _ k1
  omega
structure GoodS (f:Fct) (ps:List Pk):Prop where
 key:YS f.key=true
 stamp:0<=f.stamp
 day : -25567<=f.day/\f.day<=84005
 kind:f.kind=4
 g0:EQ f ps 0
 g10:EQ f ps 10
 q:bwE true false f.q [] (fv f.q [])=0
 amt:bwE false false f.amt [] (fv f.amt [])=0
 fee:bwE false false f.fee [] (fv f.fee [])=0
 em:∀k∈[1,2,3,7,8,9,11,12],emB f k=true
theorem CY (w:World):Calls Tryz.prog 183 #[] w fun e w'=>∃u,e=.returned u/\Below w.heap.size w w'/\GB w' u:=by
 refine (Zaf w).mono ?_;rintro e w' ⟨r,bt,vp,vl,es,c,rfl,h1,h2,h3,h4,h5,h6,h7⟩;obtain⟨b1,b2,e1,k1,k2,-,-⟩:=h5.is;obtain⟨b3,b4,e2,k3,k4,-,-⟩:=h6.is;exact⟨_,rfl,h7,r,bt,vp,vl,es,c,rfl,h1,h2,h3,h4,⟨b1,b2,e1,k1,k2⟩,⟨b3,b4,e2,k3,k4⟩⟩
theorem ER {word:List UInt8} {cls:Int} {H:List Bool} {M:Option Nat} {code:Bool} {k:Nat} {h:Bool} (hk:H[k]?=some h):(ZA word cls H M code)[2+k]?=some (.bool h):=by
 have hlt:=(Lg.1 hk).1;unfold ZA;rw[List.getElem?_toArray,show 2+k=k+1+1 by omega,List.getElem?_cons_succ,List.getElem?_cons_succ,List.getElem?_append_left (by rw[List.length_map];exact hlt),List.getElem?_map,hk]
 rfl
theorem GC (f:Fct) {k:Nat} (hk:k<13) (hn:k∉Qp):∃l l',Ll f k=some (l,l'):=by
 match k,hk with
 | 0,_|1,_|2,_|3,_|10,_|11,_|12,_=>exact absurd (by decide) hn
 | 4,_|5,_|6,_|7,_|8,_|9,_=>exact⟨_,_,rfl⟩
theorem ZbF {f:Fct} {ps:List Pk} {os:List Opn} {w:World} {word:List UInt8} {cls:Int} {H:List Bool} {M:Option Nat} {code:Bool} {k:Nat} (hG:GE w) (hA:Lq w f ps os) (hl:H.length=13) (hk:k<13) (hH:H[k]?=some true) (hQ:KQ f.kind w (.agg (ZA word cls H M code))) :
  Calls Tryz.prog 184 #[.agg (Zs f),.agg (ZA word cls H M code),.int .i64 (k:Int)] w fun e w'=>(∃E:Int,e=.returned (.int .i64 E)/\(GoodS f ps->E=0))/\Below w.heap.size w w':=by
 by_cases hn:k∈Qp
 ·refine (Zag hG hA hl hn).mono ?_;rintro e w' ⟨⟨E,rfl,hE⟩,hb⟩;refine⟨⟨E,rfl,fun hg=>hE ?_⟩,hb⟩
  obtain⟨bt,vp,vl,⟨word2,cls2,H2,code2,e2,⟨k1,k2⟩,-⟩,-⟩:=hQ.2 hg.kind;obtain⟨-,-,rfl,-⟩:=V3 hl k1 e2;rcases k2 k hH with h|h
  ·simp only[Qp,List.mem_cons,List.not_mem_nil,or_false] at hn h;omega
  ·simp only[List.mem_cons,List.not_mem_nil,or_false] at h;rcases h with rfl|rfl
   ·exact hg.g0
   ·exact hg.g10
 ·obtain⟨l,l',hf⟩:=GC f hk hn
  by_cases hk4:f.kind=4
  ·obtain⟨bt,vp,vl,⟨word2,cls2,H2,code2,e2,⟨k1,k2⟩,-⟩,h3,h4,h5⟩:=hQ.2 hk4;obtain⟨-,-,rfl,rfl⟩:=V3 hl k1 e2;obtain⟨x4,x5,x6⟩:=Ox h3 h4 h5;rcases k2 k hH with h|h
   ·simp only[List.mem_cons,List.not_mem_nil,or_false] at h;rcases h with rfl|rfl|rfl
    ·cases hf;refine (Uz hG hA.sm hl (k:=4) rfl x4).mono ?_;rintro e w' ⟨rfl,hb⟩;exact⟨⟨_,rfl,fun hg=>hg.q⟩,hb⟩
    ·cases hf;refine (Uz hG hA.sm hl (k:=5) rfl x5).mono ?_;rintro e w' ⟨rfl,hb⟩;exact⟨⟨_,rfl,fun hg=>hg.amt⟩,hb⟩
    ·cases hf;refine (Uz hG hA.sm hl (k:=6) rfl x6).mono ?_;rintro e w' ⟨rfl,hb⟩;exact⟨⟨_,rfl,fun hg=>hg.fee⟩,hb⟩
   ·exfalso
    simp only[Qp,List.mem_cons,List.not_mem_nil,or_false] at hn h;omega
  ·obtain⟨word2,cls2,H2,M2,code2,e2,k1,k2⟩:=hQ.1;obtain⟨-,-,rfl,rfl⟩:=V3 hl k1 e2;rcases k2 k hH with h|⟨b,rfl,hN,hK⟩
   ·exact absurd h hn
   ·obtain⟨p,q,hX⟩:=CX hN hK;refine (Uz hG hA.sm hl hf hX).mono ?_;rintro e w' ⟨rfl,hb⟩;exact⟨⟨_,rfl,fun hg=>absurd hg.kind hk4⟩,hb⟩
theorem Zah {f:Fct} {ps:List Pk} {w:World} {word:List UInt8} {cls:Int} {H:List Bool} {M:Option Nat} {code:Bool} {k:Nat} (hl:H.length=13) (hk:k<13) (hH:H[k]?=some false) (hQ:KQ f.kind w (.agg (ZA word cls H M code))) (hg:GoodS f ps):emB f k=true:=by
 obtain⟨bt,vp,vl,⟨word2,cls2,H2,code2,e2,⟨k1,-⟩,k3⟩,-⟩:=hQ.2 hg.kind;obtain⟨-,-,rfl,-⟩:=V3 hl k1 e2;refine hg.em k ?_;have hno:¬(k∈[4,5,6]∨k∈[0,10]):=fun h=>by
  have:=k3 k h
  rw[hH] at this;cases this
 simp only[List.mem_cons,List.not_mem_nil,or_false] at hno ⊢;omega
def xsA:List Lot:=[⟨[97,47,49],[97,98,99],5,5,[49,48],[49,48,48],[]⟩,⟨[98,47,49],[97,98,99],6,6,[53],[56,48],[]⟩]
def fA:Fct:={ key:=[115],ins:=[97,98,99],oth:=[],cur:=[],tgt:=[],q:=[49,50],amt:=[51,48,48],fee:=[55],pn:=[],pd:=[],rn:=[],rd:=[],sn:=[],sd:=[],stamp:=0,day:=9,kind:=4,choice:=0,canc:=false,pA:=none,pN:=0,pC:=0,oA:=none,oN:=0,oC:=0 }
def pkA:List Pk:=[⟨[97,47,49],[49,48]⟩,⟨[98,47,49],[50]⟩]
def tkA:List Lot:=[⟨[97,47,49],[97,98,99],5,5,[49,48],[49,48,48],[]⟩,⟨[98,47,49],[97,98,99],6,6,[50],[51,50],[]⟩]
theorem N6:Vj xsA=0:=by decide +kernel
theorem Pd:GoodS fA []:=by
 refine⟨by decide +kernel,by decide,by decide,rfl,(by show nmE fA.ins=0;decide +kernel),⟨rfl,by decide +kernel⟩,by decide +kernel,by decide +kernel,by decide +kernel,?_⟩
 decide +kernel
theorem ES:chE xsA fA.ins fA.q 1 []=0:=by decide +kernel
theorem Zai:OI cfF (ofL fA.ins xsA):=by
 intro i x y hx hy;have e:ofL fA.ins xsA=xsA:=by decide +kernel
 rw[e] at hx hy;have hi:=(Lg.1 hy).1;have hi:i=0:=by simp[xsA] at hi;omega
 subst hi;simp[xsA] at hx hy;subst hx;subst hy;decide +kernel
theorem ZaU {pk:List Pk} (h:AY xsA fA.ins fA.q 1 [] pk):pk=pkA:=by
 obtain⟨zs,-,h20,rfl⟩:=h;rw[h20 rfl (by decide +kernel) Zai]
 decide +kernel
theorem Iz:VA xsA [] pkA=0:=by decide +kernel
theorem CZ:(Yr (xsA,[]) pkA).2=tkA:=by decide +kernel
theorem Jo:canon (val fA.amt-val fA.fee)=[50,57,51]:=by decide +kernel
theorem ET:val [50,57,51]=293/\tkA.map (fun x=>val x.q)=[10,2]:=by decide +kernel
theorem EU {zs:List Int} (h:Qk 293 [10,2] zs):zs=[244,49]:=by
 rcases h with ⟨-,h⟩|⟨h,-⟩
 rotate_left
 ·omega
 have hl:=h.len;have hs:=h.sum
 match zs,hl with
 | [a,b],_=>
  have e1:WO 293 ([10,2]:List Int).sum [10,2]=[244,48]:=by decide +kernel
  have e2:VF 293 ([10,2]:List Int).sum [10,2]=[2,10]:=by decide +kernel
  have h0:=h.at' 0;have h1:=h.at' 1;have ho:=h.ord 0 1 (by decide) (by decide)
  rw[e1] at h0 h1;rw[e1,e2] at ho;simp at h0 h1 ho hs;have hab:¬(a=245/\b=48):=fun ⟨ha,hb⟩=>by have:=ho ha hb;omega
  rcases h0 with rfl|rfl<;>rcases h1 with rfl|rfl<;>first|rfl|omega
def gnA:List Gn:=[⟨[115],[97,47,49],[97,98,99],5,9,[49,48],[50,52,52],[49,48,48]⟩,⟨[115],[98,47,49],[97,98,99],6,9,[50],[52,57],[51,50]⟩]
theorem EV:(tkA.zip (([244,49]:List Int).map canon)).map (NY fA.key fA.ins fA.day)=gnA:=by
 have e:([244,49]:List Int).map canon=[[50,52,52],[52,57]]:=by decide +kernel
 rw[e];rfl
def GaQ (w:World) (v:Value):Prop:=∃g cap cur,v=.slice (some ⟨g,0,none⟩) 2 cap/\w.heap[g]?=some (.cells cur 89 (0,0))/\20<=cur.size/\cur.toList.take 20=WB gnA
theorem GaQ.below {w w':World} {v:Value} (h:GaQ w v) (hb:Below w.heap.size w w'):GaQ w' v:=by
 obtain⟨g,cap,cur,e,h1,h2⟩:=h;exact⟨g,cap,cur,e,Zw h1 hb,h2⟩
theorem Zaj {w:World} {B:Nat} {v:Value} (h:w.ownsRow B 89 10 v 2 (WB gnA)):GaQ w v:=by
 rcases h.2 with ⟨-,h0⟩|⟨g,cap,cur,e,-,h1,h2,-,h3,h4⟩
 ·cases h0
 ·exact⟨g,cap,cur,e,h1,by omega,h4⟩
theorem GaQ.at {w:World} {v:Value} (h:GaQ w v):∃g cap,v=.slice (some ⟨g,0,none⟩) 2 cap/\w.cell? ⟨g,6,none⟩=some (.string ⟨#[50,52,52]⟩)/\w.cell? ⟨g,16,none⟩=some (.string ⟨#[52,57]⟩)/\w.cell? ⟨g,17,none⟩=some (.string ⟨#[51,50]⟩):=by
 obtain⟨g,cap,cur,e,h1,h2,h3⟩:=h;have key:∀j u,j<20->(WB gnA)[j]?=some u->w.cell? ⟨g,j,none⟩=some u:=fun j u hj hu=>by
  rw[Zh h1,<-Array.getElem?_toList,<-hu,<-h3,List.getElem?_take,if_pos hj]
 exact⟨g,cap,e,key 6 _ (by decide) rfl,key 16 _ (by decide) rfl,key 17 _ (by decide) rfl⟩
def TQA (w:World) (u:Value):Prop:=∃r v1 v2,u=.tuple #[.agg #[r,v1,v2,.slice none 0 0],.int .i64 0]/\r.oneCell'=true/\v2.oneCell'=true/\GaQ w v1
structure QV (b:Nat) (w w':World):Prop where
 old:∃cs t,w.heap[b]?=some (.cells cs t (0,0))/\cs.size=17
 size:w.heap.size<=w'.heap.size
 block:∀c,c≠b->c<w.heap.size->w'.heap[c]?=w.heap[c]?
section
variable {b:Nat} {w w':World}
theorem Blk.row {c:Nat} {cs:Array Value} (h:Blk w c cs) (hs:cs.size=1) (hr:QV b w w'):Blk w' c cs:=by
 obtain⟨t,h⟩:=h;obtain⟨cs2,t2,h2,h3⟩:=hr.old;have hne:c≠b:=fun e=>by
  subst e;rw[h] at h2;cases h2;omega
 exact⟨t,(hr.block c hne (Ag.1 h).1).trans h⟩
theorem QV.map (hr:QV b w w') {c:Nat} {es:Array MapEntry} {k:Nat} (h:w.heap[c]?=some (.map es k)):w'.heap[c]?=some (.map es k):=by
 obtain⟨cs2,t2,h2,h3⟩:=hr.old;have hne:c≠b:=fun e=>by
  subst e;rw[h] at h2;cases h2
 exact (hr.block c hne (Ag.1 h).1).trans h
theorem QU.row {u:Value} {p q:Bool} (h:QU w u p q) (hr:QV b w w'):QU w' u p q:=by
 obtain⟨b1,b2,e,h1,h2⟩:=h;exact⟨b1,b2,e,h1.row rfl hr,h2.row rfl hr⟩
theorem Yh.row {u:Value} (h:Yh w u) (hr:QV b w w'):Yh w' u:=by
 obtain⟨p,q,b1,b2,e,h1,h2⟩:=h;exact⟨p,q,b1,b2,e,h1.row rfl hr,h2.row rfl hr⟩
theorem Vt.row {c:Nat} (h:Vt w c) (hr:QV b w w'):Vt w' c:=by
 obtain⟨es,k,h1,h2,h3⟩:=h;exact⟨es,k,hr.map h1,h2,fun e he=>⟨(h3 e he).1,(h3 e he).2.row hr⟩⟩
theorem YL.row {c i:Nat} (h:YL w c i) (hr:QV b w w'):YL w' c i:=by
 obtain⟨es,k,h1,h2⟩:=h;exact⟨es,k,hr.map h1,h2⟩
theorem KPg.row {v:Value} (h:KPg w v) (hr:QV b w w'):KPg w' v:=by
 obtain⟨word,cls,H,M,code,e,h1,h2⟩:=h;refine⟨word,cls,H,M,code,e,h1,fun i hi=>(h2 i hi).imp id ?_⟩
 rintro⟨c,e2,h3,h4⟩;exact⟨c,e2,h3.row hr,h4.row hr⟩
theorem KXF.row {v:Value} (h:KXF w v) (hr:QV b w w'):KXF w' v:=by
 obtain⟨bt,vp,vl,h1,h2,h3,h4⟩:=h;exact⟨bt,vp,vl,h1,hr.map h2,h3.row hr,h4.row hr⟩
theorem KQ.row {kd:Int} {v:Value} (h:KQ kd w v) (hr:QV b w w'):KQ kd w' v:=⟨h.1.row hr,fun e=>(h.2 e).row hr⟩
end
theorem Vq {P:Program} {Q:Exit->Act->World->Prop} {id:Nat} {a:Act} {w:World} {I:Array Bool->Act->World->Prop} {L:List Oper} (hm:P.follows .mixedOrders=true) (hg:L.all (fun o=>o.guard.isNone)=true)
  (hbk:((List.range L.length).all fun i=>(L.getD i default).after.toList.all fun e=>!Region.binds .any e||decide (e.on<i))=true)
  (h0:I (Array.replicate L.length false) a { w with drawn:=w.drawn+1 })
  (hend:∀listed a w,(∀i,i<L.length->listed.getD i false=true)->I listed a w->Q .normal a w)
  (hstep:WU (fun o i=>∀listed a w,I listed a w->listed.getD i true=false->(∀j,ZH o j->listed.getD j false=true)->o.wp P a w (I (listed.setIfInBounds i true)) (UB fun _ _=>False)) L 0):(Code.region id L.toArray true).wp P Q a w:=by
 refine OO (I:=I) hm (fun i o ho e he hb=>?_) (by simpa using h0) (fun listed a w h=>hend listed a w (by simpa using h)) (fun listed a w i o hI ho hi hl=>?_)
 ·have ho':L[i]?=some o:=by simpa using ho
  have hlt:=(Lg.1 ho').1;rw[List.all_eq_true] at hbk;have h1:=hbk i (List.mem_range.2 hlt);rw[List.all_eq_true] at h1;have h2:L.getD i default=o:=by rw[List.getD_eq_getElem?_getD,ho'];rfl
  rw[h2] at h1;have h3:=h1 e (Array.mem_toList_iff.2 he);rw[hb] at h3;simpa using h3
 ·have ho':L[i]?=some o:=by simpa using ho
  have hgo:o.guard=none:=by
   have:=(List.all_eq_true.1 hg) o (Lm ho')
   simpa using this
  have h:=Sf hstep i o ho';rw[Nat.zero_add] at h;have h2:=h listed a w hI hi (fun j hj=>by obtain⟨e,he,rfl,hb⟩:=hj;exact hl e he hb)
  unfold wpOp;simp only[ho,Yl hgo,if_true];exact .inl (QM h2)
def TQ (kd:Int) (w:World) (u:Value):Prop:=∃v b,u=.tuple #[v,.bool b]/\KQ kd w v/\(kd=4->b=true)
theorem TQ.below {kd:Int} {w w':World} {u:Value} (h:TQ kd w u) (hb:Below w.heap.size w w'):TQ kd w' u:=by
 obtain⟨v,b,e,h1,h2⟩:=h;exact⟨v,b,e,h1.below hb,h2⟩
theorem TQ.row {kd:Int} {b:Nat} {w w':World} {u:Value} (h:TQ kd w u) (hb:QV b w w'):TQ kd w' u:=by
 obtain⟨v,b,e,h1,h2⟩:=h;exact⟨v,b,e,h1.row hb,h2⟩
theorem KQ.agg {kd:Int} {w:World} {v:Value} (h:KQ kd w v):∃cs,v=.agg cs/\cs.size=17/\cs.all (·.oneCell')=true:=by
 obtain⟨word,cls,H,M,code,e,h1,-⟩:=h.1;exact⟨_,e,Xv h1,UV⟩
def FRc (f:Fct) (w:World) (u3 u4 u32 u33 u34 u35 u36 u37 u38:Value):Act:=⟨#[.agg (Zs f),.pointer (some ⟨w.heap.size,0,none⟩),.int .i64 0,u3,u4,undef,undef,.pointer (some ⟨w.heap.size,0,none⟩),.string ⟨f.key.toArray⟩,.bool true,.bool false,.pointer (some ⟨w.heap.size,1,none⟩),.int .i64 f.stamp,.bool false,.pointer (some ⟨w.heap.size,2,none⟩),.bool false,undef,undef,undef,undef,undef,undef,undef,undef,.pointer (some ⟨w.heap.size,3,none⟩),.int .i64 f.day,.bool false,.bool false,.pointer (some ⟨w.heap.size,3,none⟩),.int .i64 f.day,.bool false,.bool false,u32,u33,u34,u35,u36,u37,u38,undef,undef,undef,undef,undef,undef,undef,undef,undef,undef,undef,undef,undef,undef,undef,undef,undef,undef,undef,undef,undef],[]⟩
structure CF (f:Fct) (w w1:World) (L:Array Bool) (w':World) (u3 u4 u32 u33 u34 u35 u36 u37 u38:Value):Prop where
 b:Below w1.heap.size w1 w'
 f0:L.getD 0 false=true->L.getD 8 false=false->GB w' u33
 f1:L.getD 1 false=true->u34=.pointer (some ⟨w.heap.size,4,none⟩)
 f2:L.getD 2 false=true->u35=.int .i64 f.kind
 f3:L.getD 3 false=true->L.getD 8 false=false->TQ f.kind w' u36
 f4:L.getD 4 false=true->TQ f.kind w' u32
 f5:L.getD 5 false=true->KQ f.kind w' u37
 f6:L.getD 6 false=true->∃b,u38=.bool b/\(f.kind=4->b=true)
 f7:L.getD 7 false=true->∃b cs,u3=.pointer (some ⟨b,0,none⟩)/\w1.heap.size<=b/\w'.heap[b]?=some (.cells cs 270 (0,0))/\cs.size=17/\(L.getD 8 false=true->u37=.agg cs)
 f8:L.getD 8 false=true->L.getD 0 false=true/\L.getD 3 false=true/\L.getD 4 false=true/\L.getD 5 false=true/\L.getD 7 false=true
 f9:L.getD 9 false=true->u4=u38
 f10:L.getD 9 false=true->L.getD 6 false=true
def CI (f:Fct) (w w1:World) (L:Array Bool) (a:Act) (w':World):Prop:=∃u3 u4 u32 u33 u34 u35 u36 u37 u38:Value,a=FRc f w u3 u4 u32 u33 u34 u35 u36 u37 u38/\CF f w w1 L w' u3 u4 u32 u33 u34 u35 u36 u37 u38
def UW (f:Fct) (w w1:World) (o:Oper) (i:Nat):Prop:=∀listed a w',CI f w w1 listed a w'->listed.getD i true=false->(∀j,ZH o j->listed.getD j false=true)->o.wp Tryz.prog a w' (CI f w w1 (listed.setIfInBounds i true)) (UB fun _ _=>False)
theorem EW (f:Fct) (w w1:World) (n:Nat):CI f w w1 (Array.replicate n false) (FRc f w undef undef undef undef undef undef undef undef undef) { w1 with drawn:=w1.drawn+1 }:=by
 have h:∀j,(Array.replicate n false).getD j false=false:=fun j=>by
  rw[Array.getD_eq_getD_getElem?,Array.getElem?_replicate]
  split<;>rfl
 refine⟨undef,undef,undef,undef,undef,undef,undef,undef,undef,rfl,⟨⟨rfl,rfl,rfl,Nl _,fun _ _=>rfl⟩,fun e=>?_,fun e=>?_,fun e=>?_,fun e=>?_,fun e=>?_,fun e=>?_,fun e=>?_,fun e=>?_,fun e=>?_,fun e=>?_,fun e=>?_⟩⟩<;>exact absurd e (by rw[h];decide)
theorem Ye {L:Array Bool} {i:Nat} (h:L.getD i true=false):L.getD i false=false:=by
 rw[Array.getD_eq_getD_getElem?] at h ⊢;cases hx:L[i]? with
 | none=>rfl
 | some x=>rw[hx] at h;exact h
section
variable {f:Fct} {w w1:World} {o:Oper}
theorem cs0 (hrun:∀(a:Act) (w':World),(execOp a.eval o).run Tryz.prog w'=.ok (.enter 183 #[]) w') (hd:o.dst=some 33):UW f w w1 o 0:=by
 intro L a w' hI hi hl;obtain⟨u3,u4,u32,u33,u34,u35,u36,u37,u38,rfl,hc⟩:=hI;have e:∀j,j≠0->(L.setIfInBounds 0 true).getD j false=L.getD j false:=fun j hj=>getD_set_ne false (Ne.symm hj)
 have k8:∀j,L.getD j false=true->(L.setIfInBounds 0 true).getD j false=true:=fun j hj=>getD_set_true hj
 refine ZV (hrun _ w') ?_;refine (CY w').mono ?_;rintro ex w2 ⟨u,rfl,hB,hM⟩;refine⟨u,rfl,?_⟩;rw[hd];exact⟨u3,u4,u32,u,u34,u35,u36,u37,u38,rfl,⟨bto hc.b hB,fun _ _=>hM,fun h=>hc.f1 (by rwa [e 1 (by decide)] at h),fun h=>hc.f2 (by rwa [e 2 (by decide)] at h),fun h h8=>(hc.f3 (by rwa [e 3 (by decide)] at h) (by rwa [e 8 (by decide)] at h8)).below hB,fun h=>(hc.f4 (by rwa [e 4 (by decide)] at h)).below hB,fun h=>(hc.f5 (by rwa [e 5 (by decide)] at h)).below hB,fun h=>hc.f6 (by rwa [e 6 (by decide)] at h),fun h=>by obtain⟨b,cs,q1,q2,q3,q4,q5⟩:=hc.f7 (by rwa [e 7 (by decide)] at h);exact⟨b,cs,q1,q2,Zw q3 hB,q4,fun h8=>q5 (by rwa [e 8 (by decide)] at h8)⟩,fun h=>by obtain⟨k0,k3,k4,k5,k7⟩:=hc.f8 (by rwa [e 8 (by decide)] at h);exact⟨k8 0 k0,k8 3 k3,k8 4 k4,k8 5 k5,k8 7 k7⟩,fun h=>hc.f9 (by rwa [e 9 (by decide)] at h),fun h=>k8 6 (hc.f10 (by rwa [e 9 (by decide)] at h))⟩⟩
theorem cs1 (hrun:∀(a:Act) (w':World),a.eval (.tmp 1)=.pointer (some ⟨w.heap.size,0,none⟩)->(execOp a.eval o).run Tryz.prog w'=.ok (.value (.pointer (some ⟨w.heap.size,4,none⟩))) w') (hd:o.dst=some 34):UW f w w1 o 1:=by
 intro L a w' hI hi hl;obtain⟨u3,u4,u32,u33,u34,u35,u36,u37,u38,rfl,hc⟩:=hI;have e:∀j,j≠1->(L.setIfInBounds 1 true).getD j false=L.getD j false:=fun j hj=>getD_set_ne false (Ne.symm hj)
 have k8:∀j,L.getD j false=true->(L.setIfInBounds 1 true).getD j false=true:=fun j hj=>getD_set_true hj
 refine ZB (hrun _ w' rfl) ?_;rw[hd];exact⟨u3,u4,u32,u33,.pointer (some ⟨w.heap.size,4,none⟩),u35,u36,u37,u38,rfl,⟨hc.b,fun h h8=>hc.f0 (by rwa [e 0 (by decide)] at h) (by rwa [e 8 (by decide)] at h8),fun _=>rfl,fun h=>hc.f2 (by rwa [e 2 (by decide)] at h),fun h h8=>hc.f3 (by rwa [e 3 (by decide)] at h) (by rwa [e 8 (by decide)] at h8),fun h=>hc.f4 (by rwa [e 4 (by decide)] at h),fun h=>hc.f5 (by rwa [e 5 (by decide)] at h),fun h=>hc.f6 (by rwa [e 6 (by decide)] at h),fun h=>by obtain⟨b,cs,q1,q2,q3,q4,q5⟩:=hc.f7 (by rwa [e 7 (by decide)] at h);exact⟨b,cs,q1,q2,q3,q4,fun h8=>q5 (by rwa [e 8 (by decide)] at h8)⟩,fun h=>by obtain⟨k0,k3,k4,k5,k7⟩:=hc.f8 (by rwa [e 8 (by decide)] at h);exact⟨k8 0 k0,k8 3 k3,k8 4 k4,k8 5 k5,k8 7 k7⟩,fun h=>hc.f9 (by rwa [e 9 (by decide)] at h),fun h=>k8 6 (hc.f10 (by rwa [e 9 (by decide)] at h))⟩⟩
theorem cs2 (hX:Blk w1 w.heap.size (Zs f)) (hw1:ZH o 1) (hrun:∀(a:Act) (w':World),a.eval (.tmp 34)=.pointer (some ⟨w.heap.size,4,none⟩)->w'.cell? ⟨w.heap.size,4,none⟩=some (.int .i64 f.kind)->(execOp a.eval o).run Tryz.prog w'=.ok (.value (.int .i64 f.kind)) w') (hd:o.dst=some 35):UW f w w1 o 2:=by
 intro L a w' hI hi hl;obtain⟨u3,u4,u32,u33,u34,u35,u36,u37,u38,rfl,hc⟩:=hI;have e:∀j,j≠2->(L.setIfInBounds 2 true).getD j false=L.getD j false:=fun j hj=>getD_set_ne false (Ne.symm hj)
 have k8:∀j,L.getD j false=true->(L.setIfInBounds 2 true).getD j false=true:=fun j hj=>getD_set_true hj
 refine ZB (hrun _ w' (hc.f1 (hl 1 hw1)) ((hX.below hc.b).c 4)) ?_;rw[hd];exact⟨u3,u4,u32,u33,u34,.int .i64 f.kind,u36,u37,u38,rfl,⟨hc.b,fun h h8=>hc.f0 (by rwa [e 0 (by decide)] at h) (by rwa [e 8 (by decide)] at h8),fun h=>hc.f1 (by rwa [e 1 (by decide)] at h),fun _=>rfl,fun h h8=>hc.f3 (by rwa [e 3 (by decide)] at h) (by rwa [e 8 (by decide)] at h8),fun h=>hc.f4 (by rwa [e 4 (by decide)] at h),fun h=>hc.f5 (by rwa [e 5 (by decide)] at h),fun h=>hc.f6 (by rwa [e 6 (by decide)] at h),fun h=>by obtain⟨b,cs,q1,q2,q3,q4,q5⟩:=hc.f7 (by rwa [e 7 (by decide)] at h);exact⟨b,cs,q1,q2,q3,q4,fun h8=>q5 (by rwa [e 8 (by decide)] at h8)⟩,fun h=>by obtain⟨k0,k3,k4,k5,k7⟩:=hc.f8 (by rwa [e 8 (by decide)] at h);exact⟨k8 0 k0,k8 3 k3,k8 4 k4,k8 5 k5,k8 7 k7⟩,fun h=>hc.f9 (by rwa [e 9 (by decide)] at h),fun h=>k8 6 (hc.f10 (by rwa [e 9 (by decide)] at h))⟩⟩
theorem cs3 (hw0:ZH o 0) (hw2:ZH o 2) (hrun:∀(a:Act) (w':World) (u v:Value),a.eval (.tmp 33)=u->a.eval (.tmp 35)=.int .i64 f.kind->(Instr.lookup 272 u (.int .i64 f.kind) true).run Tryz.prog w'=.ok v w'->(execOp a.eval o).run Tryz.prog w'=.ok (.value v) w') (hd:o.dst=some 36):UW f w w1 o 3:=by
 intro L a w' hI hi hl;obtain⟨u3,u4,u32,u33,u34,u35,u36,u37,u38,rfl,hc⟩:=hI;have e:∀j,j≠3->(L.setIfInBounds 3 true).getD j false=L.getD j false:=fun j hj=>getD_set_ne false (Ne.symm hj)
 have k8:∀j,L.getD j false=true->(L.setIfInBounds 3 true).getD j false=true:=fun j hj=>getD_set_true hj
 have h8:L.getD 8 false=false:=by
  cases hx:L.getD 8 false with
  | false=>rfl
  | true=>have:=(hc.f8 hx).2.1;rw[Ye hi] at this;cases this
 obtain⟨v,b,q1,q2,q3⟩:=ZaT f.kind (hc.f0 (hl 0 hw0) h8);refine ZB (hrun _ w' _ _ rfl (hc.f2 (hl 2 hw2)) q1) ?_;rw[hd];exact⟨u3,u4,u32,u33,u34,u35,.tuple #[v,.bool b],u37,u38,rfl,⟨hc.b,fun h h8=>hc.f0 (by rwa [e 0 (by decide)] at h) (by rwa [e 8 (by decide)] at h8),fun h=>hc.f1 (by rwa [e 1 (by decide)] at h),fun h=>hc.f2 (by rwa [e 2 (by decide)] at h),fun _ _=>⟨v,b,rfl,q2,q3⟩,fun h=>hc.f4 (by rwa [e 4 (by decide)] at h),fun h=>hc.f5 (by rwa [e 5 (by decide)] at h),fun h=>hc.f6 (by rwa [e 6 (by decide)] at h),fun h=>by obtain⟨b,cs,q1,q2,q3,q4,q5⟩:=hc.f7 (by rwa [e 7 (by decide)] at h);exact⟨b,cs,q1,q2,q3,q4,fun h8=>q5 (by rwa [e 8 (by decide)] at h8)⟩,fun h=>by obtain⟨k0,k3,k4,k5,k7⟩:=hc.f8 (by rwa [e 8 (by decide)] at h);exact⟨k8 0 k0,k8 3 k3,k8 4 k4,k8 5 k5,k8 7 k7⟩,fun h=>hc.f9 (by rwa [e 9 (by decide)] at h),fun h=>k8 6 (hc.f10 (by rwa [e 9 (by decide)] at h))⟩⟩
theorem cs4 (hw3:ZH o 3) (hrun:∀(a:Act) (w':World) (v:Value),a.eval (.tmp 36)=v->(execOp a.eval o).run Tryz.prog w'=.ok (.value v) w') (hd:o.dst=some 32):UW f w w1 o 4:=by
 intro L a w' hI hi hl;obtain⟨u3,u4,u32,u33,u34,u35,u36,u37,u38,rfl,hc⟩:=hI;have e:∀j,j≠4->(L.setIfInBounds 4 true).getD j false=L.getD j false:=fun j hj=>getD_set_ne false (Ne.symm hj)
 have k8:∀j,L.getD j false=true->(L.setIfInBounds 4 true).getD j false=true:=fun j hj=>getD_set_true hj
 have h8:L.getD 8 false=false:=by
  cases hx:L.getD 8 false with
  | false=>rfl
  | true=>have:=(hc.f8 hx).2.2.1;rw[Ye hi] at this;cases this
 refine ZB (hrun _ w' _ rfl) ?_;rw[hd];exact⟨u3,u4,u36,u33,u34,u35,u36,u37,u38,rfl,⟨hc.b,fun h h8=>hc.f0 (by rwa [e 0 (by decide)] at h) (by rwa [e 8 (by decide)] at h8),fun h=>hc.f1 (by rwa [e 1 (by decide)] at h),fun h=>hc.f2 (by rwa [e 2 (by decide)] at h),fun h h8=>hc.f3 (by rwa [e 3 (by decide)] at h) (by rwa [e 8 (by decide)] at h8),fun _=>hc.f3 (hl 3 hw3) h8,fun h=>hc.f5 (by rwa [e 5 (by decide)] at h),fun h=>hc.f6 (by rwa [e 6 (by decide)] at h),fun h=>by obtain⟨b,cs,q1,q2,q3,q4,q5⟩:=hc.f7 (by rwa [e 7 (by decide)] at h);exact⟨b,cs,q1,q2,q3,q4,fun h8=>q5 (by rwa [e 8 (by decide)] at h8)⟩,fun h=>by obtain⟨k0,k3,k4,k5,k7⟩:=hc.f8 (by rwa [e 8 (by decide)] at h);exact⟨k8 0 k0,k8 3 k3,k8 4 k4,k8 5 k5,k8 7 k7⟩,fun h=>hc.f9 (by rwa [e 9 (by decide)] at h),fun h=>k8 6 (hc.f10 (by rwa [e 9 (by decide)] at h))⟩⟩
theorem cs5 (hw4:ZH o 4) (hrun:∀(a:Act) (w':World) (v b:Value),a.eval (.tmp 32)=.tuple #[v,b]->(execOp a.eval o).run Tryz.prog w'=.ok (.value v) w') (hd:o.dst=some 37):UW f w w1 o 5:=by
 intro L a w' hI hi hl;obtain⟨u3,u4,u32,u33,u34,u35,u36,u37,u38,rfl,hc⟩:=hI;have e:∀j,j≠5->(L.setIfInBounds 5 true).getD j false=L.getD j false:=fun j hj=>getD_set_ne false (Ne.symm hj)
 have k8:∀j,L.getD j false=true->(L.setIfInBounds 5 true).getD j false=true:=fun j hj=>getD_set_true hj
 have h8:L.getD 8 false=false:=by
  cases hx:L.getD 8 false with
  | false=>rfl
  | true=>have:=(hc.f8 hx).2.2.2.1;rw[Ye hi] at this;cases this
 obtain⟨v,b,q1,q2,q3⟩:=hc.f4 (hl 4 hw4);refine ZB (hrun _ w' v _ q1) ?_;rw[hd];exact⟨u3,u4,u32,u33,u34,u35,u36,v,u38,rfl,⟨hc.b,fun h h8=>hc.f0 (by rwa [e 0 (by decide)] at h) (by rwa [e 8 (by decide)] at h8),fun h=>hc.f1 (by rwa [e 1 (by decide)] at h),fun h=>hc.f2 (by rwa [e 2 (by decide)] at h),fun h h8=>hc.f3 (by rwa [e 3 (by decide)] at h) (by rwa [e 8 (by decide)] at h8),fun h=>hc.f4 (by rwa [e 4 (by decide)] at h),fun _=>q2,fun h=>hc.f6 (by rwa [e 6 (by decide)] at h),fun h=>by obtain⟨b,cs,r1,r2,r3,r4,r5⟩:=hc.f7 (by rwa [e 7 (by decide)] at h);exact⟨b,cs,r1,r2,r3,r4,fun h9=>by rw[e 8 (by decide),h8] at h9;cases h9⟩,fun h=>by obtain⟨k0,k3,k4,k5,k7⟩:=hc.f8 (by rwa [e 8 (by decide)] at h);exact⟨k8 0 k0,k8 3 k3,k8 4 k4,k8 5 k5,k8 7 k7⟩,fun h=>hc.f9 (by rwa [e 9 (by decide)] at h),fun h=>k8 6 (hc.f10 (by rwa [e 9 (by decide)] at h))⟩⟩
theorem cs6 (hw4:ZH o 4) (hrun:∀(a:Act) (w':World) (v b:Value),a.eval (.tmp 32)=.tuple #[v,b]->(execOp a.eval o).run Tryz.prog w'=.ok (.value b) w') (hd:o.dst=some 38):UW f w w1 o 6:=by
 intro L a w' hI hi hl;obtain⟨u3,u4,u32,u33,u34,u35,u36,u37,u38,rfl,hc⟩:=hI;have e:∀j,j≠6->(L.setIfInBounds 6 true).getD j false=L.getD j false:=fun j hj=>getD_set_ne false (Ne.symm hj)
 have k8:∀j,L.getD j false=true->(L.setIfInBounds 6 true).getD j false=true:=fun j hj=>getD_set_true hj
 obtain⟨v,b,q1,q2,q3⟩:=hc.f4 (hl 4 hw4);refine ZB (hrun _ w' v _ q1) ?_;rw[hd];exact⟨u3,u4,u32,u33,u34,u35,u36,u37,.bool b,rfl,⟨hc.b,fun h h8=>hc.f0 (by rwa [e 0 (by decide)] at h) (by rwa [e 8 (by decide)] at h8),fun h=>hc.f1 (by rwa [e 1 (by decide)] at h),fun h=>hc.f2 (by rwa [e 2 (by decide)] at h),fun h h8=>hc.f3 (by rwa [e 3 (by decide)] at h) (by rwa [e 8 (by decide)] at h8),fun h=>hc.f4 (by rwa [e 4 (by decide)] at h),fun h=>hc.f5 (by rwa [e 5 (by decide)] at h),fun _=>⟨b,rfl,q3⟩,fun h=>by obtain⟨b,cs,q1,q2,q3,q4,q5⟩:=hc.f7 (by rwa [e 7 (by decide)] at h);exact⟨b,cs,q1,q2,q3,q4,fun h8=>q5 (by rwa [e 8 (by decide)] at h8)⟩,fun h=>by obtain⟨k0,k3,k4,k5,k7⟩:=hc.f8 (by rwa [e 8 (by decide)] at h);exact⟨k8 0 k0,k8 3 k3,k8 4 k4,k8 5 k5,k8 7 k7⟩,fun h=>(by have h9:=hc.f10 (by rwa [e 9 (by decide)] at h);rw[Ye hi] at h9;cases h9),fun h=>k8 6 (hc.f10 (by rwa [e 9 (by decide)] at h))⟩⟩
theorem cs7 (hrun:∀(a:Act) (w':World),(execOp a.eval o).run Tryz.prog w'=.ok (.value (.pointer (some ⟨w'.heap.size,0,none⟩))) (w'.alloc (.cells #[.string ⟨#[]⟩,.int .i64 0,.bool false,.bool false,.bool false,.bool false,.bool false,.bool false,.bool false,.bool false,.bool false,.bool false,.bool false,.bool false,.bool false,.map none,.bool false] 270))) (hd:o.dst=some 3):UW f w w1 o 7:=by
 intro L a w' hI hi hl;obtain⟨u3,u4,u32,u33,u34,u35,u36,u37,u38,rfl,hc⟩:=hI;have e:∀j,j≠7->(L.setIfInBounds 7 true).getD j false=L.getD j false:=fun j hj=>getD_set_ne false (Ne.symm hj)
 have k8:∀j,L.getD j false=true->(L.setIfInBounds 7 true).getD j false=true:=fun j hj=>getD_set_true hj
 have hB:=Zd w' (.cells #[.string ⟨#[]⟩,.int .i64 0,.bool false,.bool false,.bool false,.bool false,.bool false,.bool false,.bool false,.bool false,.bool false,.bool false,.bool false,.bool false,.bool false,.map none,.bool false] 270);have h8:L.getD 8 false=false:=by
  cases hx:L.getD 8 false with
  | false=>rfl
  | true=>have:=(hc.f8 hx).2.2.2.2;rw[Ye hi] at this;cases this
 refine ZB (hrun _ w') ?_;rw[hd];exact⟨.pointer (some ⟨w'.heap.size,0,none⟩),u4,u32,u33,u34,u35,u36,u37,u38,rfl,⟨bto hc.b hB,fun h h8=>(hc.f0 (by rwa [e 0 (by decide)] at h) (by rwa [e 8 (by decide)] at h8)).below hB,fun h=>hc.f1 (by rwa [e 1 (by decide)] at h),fun h=>hc.f2 (by rwa [e 2 (by decide)] at h),fun h h8=>(hc.f3 (by rwa [e 3 (by decide)] at h) (by rwa [e 8 (by decide)] at h8)).below hB,fun h=>(hc.f4 (by rwa [e 4 (by decide)] at h)).below hB,fun h=>(hc.f5 (by rwa [e 5 (by decide)] at h)).below hB,fun h=>hc.f6 (by rwa [e 6 (by decide)] at h),fun _=>⟨w'.heap.size,_,rfl,hc.b.size,ZF w' _,rfl,fun h9=>by rw[e 8 (by decide),h8] at h9;cases h9⟩,fun h=>by obtain⟨k0,k3,k4,k5,k7⟩:=hc.f8 (by rwa [e 8 (by decide)] at h);exact⟨k8 0 k0,k8 3 k3,k8 4 k4,k8 5 k5,k8 7 k7⟩,fun h=>hc.f9 (by rwa [e 9 (by decide)] at h),fun h=>k8 6 (hc.f10 (by rwa [e 9 (by decide)] at h))⟩⟩
theorem cs8 (hw0:ZH o 0) (hw3:ZH o 3) (hw4:ZH o 4) (hw5:ZH o 5) (hw7:ZH o 7) (hop:o.op=.store 270 (.tmp 3) (.tmp 37)) (hd:o.dst=none) (hI:(Tryz.prog.info? 270).map (·.size)=some 17):UW f w w1 o 8:=by
 intro L a w' hI hi hl;obtain⟨u3,u4,u32,u33,u34,u35,u36,u37,u38,rfl,hc⟩:=hI;have e:∀j,j≠8->(L.setIfInBounds 8 true).getD j false=L.getD j false:=fun j hj=>getD_set_ne false (Ne.symm hj)
 have k8:∀j,L.getD j false=true->(L.setIfInBounds 8 true).getD j false=true:=fun j hj=>getD_set_true hj
 obtain⟨b,cs,q1,q2,q3,q4,-⟩:=hc.f7 (hl 7 hw7);have hq:=hc.f5 (hl 5 hw5);obtain⟨cs2,r1,r2,r3⟩:=hq.agg;have hrun:=run_storeVar_row (P:=Tryz.prog) w' b 270 270 cs cs2 q3 (by rw[r2];exact hI) (by rw[q4,r2]) r3
 have hR:QV b w' (w'.setRow b cs2):=⟨⟨cs,_,q3,q4⟩,by simp[World.setRow],fun c hc _=>setRow_other w' b c cs2 hc⟩
 have hB:Below w1.heap.size w1 (w'.setRow b cs2):=⟨hc.b.os,hc.b.tape,hc.b.output,Nt hc.b.size hR.size,fun c hlt=>(setRow_other w' b c cs2 (by omega)).trans (hc.b.block c hlt)⟩
 have hself:(L.setIfInBounds 8 true).getD 8 false=true:=by
  have h8:=Ye hi
  by_cases hlt:8<L.size
  ·rw[Array.getD_eq_getD_getElem?,Array.getElem?_setIfInBounds,if_pos rfl,if_pos hlt];rfl
  ·rw[Array.getD_eq_getD_getElem?,Array.getElem?_eq_none (by omega)] at hi
   cases hi
 refine Uy (w':=w'.setRow b cs2) ?_ ?_
 ·have hx:(FRc f w u3 u4 u32 u33 u34 u35 u36 u37 u38).eval (.tmp 3)=.pointer (some ⟨b,0,none⟩):=q1;have hy:(FRc f w u3 u4 u32 u33 u34 u35 u36 u37 u38).eval (.tmp 37)=.agg cs2:=r1;unfold execOp;simp only[hop,hx,hy,Instr.storeAt,Instr.sureAddr,Sem.run_bind,Sem.run_pure,Result.andThen_ok,hrun]
 rw[hd];exact⟨u3,u4,u32,u33,u34,u35,u36,u37,u38,rfl,⟨hB,fun _ h8=>(by rw[hself] at h8;cases h8),fun h=>hc.f1 (by rwa [e 1 (by decide)] at h),fun h=>hc.f2 (by rwa [e 2 (by decide)] at h),fun _ h8=>(by rw[hself] at h8;cases h8),fun h=>(hc.f4 (by rwa [e 4 (by decide)] at h)).row hR,fun h=>(hc.f5 (by rwa [e 5 (by decide)] at h)).row hR,fun h=>hc.f6 (by rwa [e 6 (by decide)] at h),fun _=>⟨b,cs2,q1,q2,setRow_heap w' b cs cs2 270 (0,0) q3,r2,fun _=>r1⟩,fun _=>⟨k8 0 (hl 0 hw0),k8 3 (hl 3 hw3),k8 4 (hl 4 hw4),k8 5 (hl 5 hw5),k8 7 (hl 7 hw7)⟩,fun h=>hc.f9 (by rwa [e 9 (by decide)] at h),fun h=>k8 6 (hc.f10 (by rwa [e 9 (by decide)] at h))⟩⟩
theorem cs9 (hw6:ZH o 6) (hrun:∀(a:Act) (w':World) (v:Value),a.eval (.tmp 38)=v->(execOp a.eval o).run Tryz.prog w'=.ok (.value v) w') (hd:o.dst=some 4):UW f w w1 o 9:=by
 intro L a w' hI hi hl;obtain⟨u3,u4,u32,u33,u34,u35,u36,u37,u38,rfl,hc⟩:=hI;have e:∀j,j≠9->(L.setIfInBounds 9 true).getD j false=L.getD j false:=fun j hj=>getD_set_ne false (Ne.symm hj)
 have k8:∀j,L.getD j false=true->(L.setIfInBounds 9 true).getD j false=true:=fun j hj=>getD_set_true hj
 refine ZB (hrun _ w' _ rfl) ?_;rw[hd];exact⟨u3,u38,u32,u33,u34,u35,u36,u37,u38,rfl,⟨hc.b,fun h h8=>hc.f0 (by rwa [e 0 (by decide)] at h) (by rwa [e 8 (by decide)] at h8),fun h=>hc.f1 (by rwa [e 1 (by decide)] at h),fun h=>hc.f2 (by rwa [e 2 (by decide)] at h),fun h h8=>hc.f3 (by rwa [e 3 (by decide)] at h) (by rwa [e 8 (by decide)] at h8),fun h=>hc.f4 (by rwa [e 4 (by decide)] at h),fun h=>hc.f5 (by rwa [e 5 (by decide)] at h),fun h=>hc.f6 (by rwa [e 6 (by decide)] at h),fun h=>by obtain⟨b,cs,q1,q2,q3,q4,q5⟩:=hc.f7 (by rwa [e 7 (by decide)] at h);exact⟨b,cs,q1,q2,q3,q4,fun h8=>q5 (by rwa [e 8 (by decide)] at h8)⟩,fun h=>by obtain⟨k0,k3,k4,k5,k7⟩:=hc.f8 (by rwa [e 8 (by decide)] at h);exact⟨k8 0 k0,k8 3 k3,k8 4 k4,k8 5 k5,k8 7 k7⟩,fun _=>rfl,fun _=>k8 6 (hl 6 hw6)⟩⟩
end
theorem N7 {id:Nat} {Q:Exit->Act->World->Prop} {f:Fct} {w w1:World} {a:Act} {L:List Oper} (hm:Tryz.prog.follows .mixedOrders=true) (hg:L.all (fun o=>o.guard.isNone)=true)
  (hbk:((List.range L.length).all fun i=>(L.getD i default).after.toList.all fun e=>!Region.binds .any e||decide (e.on<i))=true) (hl:L.length=10) (ha:a=FRc f w undef undef undef undef undef undef undef undef undef)
  (hstep:WU (UW f w w1) L 0)
  (hend:∀(u3 u4 u32 u33 u34 u35 u36 u37 u38:Value) (w':World),CF f w w1 (Array.replicate 10 true) w' u3 u4 u32 u33 u34 u35 u36 u37 u38->Q .normal (FRc f w u3 u4 u32 u33 u34 u35 u36 u37 u38) w'):(Code.region id L.toArray true).wp Tryz.prog Q a w1:=by
 refine Vq (I:=CI f w w1) hm hg hbk (by rw[ha];exact EW f w w1 _) (fun listed a' w' hall hI=>?_) hstep
 obtain⟨u3,u4,u32,u33,u34,u35,u36,u37,u38,rfl,hc⟩:=hI;have h:∀j,j<10->listed.getD j false=true:=fun j hj=>hall j (by omega)
 refine hend u3 u4 u32 u33 u34 u35 u36 u37 u38 w' ⟨hc.b,fun _ h8=>(by cases h8),fun _=>hc.f1 (h 1 (by decide)),fun _=>hc.f2 (h 2 (by decide)),fun _ h8=>(by cases h8),fun _=>hc.f4 (h 4 (by decide)),fun _=>hc.f5 (h 5 (by decide)),fun _=>hc.f6 (h 6 (by decide)),fun _=>?_,fun _=>⟨rfl,rfl,rfl,rfl,rfl⟩,fun _=>hc.f9 (h 9 (by decide)),fun _=>rfl⟩
 obtain⟨b,cs,q1,q2,q3,q4,q5⟩:=hc.f7 (h 7 (by decide))
 exact⟨b,cs,q1,q2,q3,q4,fun _=>q5 (h 8 (by decide))⟩
theorem Qr {P:Program} {ops:Array Oper} {rest:List Oper} {op:Oper} {a:Act} {w:World} {Q:Exit->Act->World->Prop} (hw:Region.wanted op (yielded ops a.tmps)=true) (ty:TypeId) (x:Operand) (ho:op.op=.load ty x)
  (b:Nat) (hx:a.eval x=.pointer (some ⟨b,0,none⟩)) (cs:Array Value) {d:TypeDesc} (hc:Blk w b cs)
  (hu:P.underlying ty=some d) (hd:d.isRow=true) (hi:(P.info? ty).map (·.size)=some cs.size)
  (h:wpList P ops Q rest (a.put op.dst (.agg cs)) w):wpList P ops Q (op::rest) a w:=by
 unfold wpList;rw[hw];refine .inl ?_;unfold Oper.wp;rw[YI (P:=P) (e:=a.eval) ty x ho b hx cs hc hu hd hi];exact h
def Zbw (w:World) (f:Fct) (ps:List Pk):Prop:=∀w',Below w.heap.size w w'->Calls Tryz.prog 121 #[.agg (Zs f)] w' fun e w''=>(∃E:Int,e=.returned (.int .i64 E)/\(GoodS f ps->E=0))/\Below w'.heap.size w' w''
theorem Zak {f:Fct} {ps:List Pk} {xs:List Lot} {A:Option Addr} {n:Nat} {w:World} (c:Nat) (kd:Int) (hG:GE w) (hL:Xl w A xs n) (hC:Zbw w f ps) :
  Calls Tryz.prog 89 #[.slice A n c,.agg (Zs f),.int .i64 kd] w fun e w'=>(∃E:Int,e=.returned (.int .i64 E)/\(Vj xs=0->GoodS f ps->f.kind=kd->E=0)/\(E=0->Vj xs=0/\f.kind=kd))/\Below w.heap.size w w':=by
 have hb0:=Zd w (.cells (Zs f) 48);have X0:Hid (Blk (w.alloc (.cells (Zs f) 48)) w.heap.size (Zs f)):=Blk.new w _ 48;have K1:=Lh (Qb c (hG.below hb0) (hL.below hb0));have HC:=Lh hC;obtain⟨E1,hE1⟩:∃E1,E1=Vj xs:=⟨_,rfl⟩
 rw[<-hE1] at K1;have HE1:=Lh hE1;rw[<-hE1];clear hE1 hC;go_enter Tryz.func89,Tryz.ntmps89;go_wp2_with fail
 with_reducible refine K1.out.mono ?_
 rintro e w1 ⟨rfl,hb1⟩;have X1:=Lh (X0.out.below hb1);have HB1:=Lh (bto hb0 hb1);clear hb0 hb1 X0 K1
 by_cases h0:E1=0
 rotate_left
 ·have e5:decide (E1=0)=false:=Df h0;have e6:(E1==0)=false:=by rw[Bn];exact h0
  have H0:=Lh h0;go_wp2;go_ret;exact⟨⟨_,rfl,fun h=>absurd h H0.out,fun h=>by cases h⟩,HB1.out⟩
 subst h0;have C2:=Lh (HC.out w1 HB1.out);go_wp2_with (refine Qr rfl 48 (.tmp 4) rfl w.heap.size rfl (Zs f) X1.out Tryz.underlying48 rfl ZU ?_)
 with_reducible refine C2.out.mono ?_
 rintro e w2 ⟨⟨E2,rfl,hE2⟩,hb2⟩;have q4:w2.cell? ⟨w.heap.size,4,none⟩=some (.int .i64 f.kind):=(X1.out.below hb2).c 4;have HB2:=Lh (bto HB1.out hb2);have HE2:=Lh hE2;clear hE2 hb2 C2 HB1 X1
 by_cases h0:E2=0
 rotate_left
 ·have e5:decide (E2=0)=false:=Df h0;have e6:(E2==0)=false:=by rw[Bn];exact h0
  have H0:=Lh h0;go_wp2;go_ret;exact⟨⟨_,rfl,fun hg _=>absurd (HE2.out hg) H0.out,fun h=>by cases h⟩,HB2.out⟩
 subst h0
 by_cases hk:f.kind=kd
 ·have e5:decide (f.kind=kd)=true:=Dt hk;have e6:(f.kind==kd)=true:=by rw[beq_iff_eq];exact hk
  have HK:=Lh hk;clear hk;go_wp2;go_ret;exact⟨⟨_,rfl,fun _ _=>rfl,fun _=>HK.out⟩,HB2.out⟩
 ·have e5:decide (f.kind=kd)=false:=Df hk;have e6:(f.kind==kd)=false:=by rw[Bn];exact hk
  have HK:=Lh hk;clear hk;go_wp2;go_ret;exact⟨⟨_,rfl,fun _ h=>absurd h HK.out,fun h=>by cases h⟩,HB2.out⟩
theorem Jp:Ez fA:=⟨by decide,by decide,by decide,by decide,by decide,by decide,by decide,by decide,by decide,by decide,by decide,by decide,by decide,by decide⟩
theorem C7 {w:World} (hG:GE w):Calls Tryz.prog 235 #[.agg (Zs fA)] w fun e w'=>e=.returned (.int .i64 0)/\Below w.heap.size w w':=by
 have hb0:=Zd w (.cells (Zs fA) 48);have HX0:Hid (Blk (w.alloc (.cells (Zs fA) 48)) w.heap.size (Zs fA)):=Blk.new w _ 48;have q18:(w.alloc (.cells (Zs fA) 48)).cell? ⟨w.heap.size,18,none⟩=some (.slice none 0 0):=HX0.out.c 18;go_enter Tryz.func235,Tryz.ntmps235;go_wp2_with fail
 go_loopw [3,4,5,6,14] (fun sv _ _ _ iv wr=>sv=.string ⟨#[]⟩/\iv=.int .i64 0/\Hid (Below w.heap.size w wr)/\Hid (Blk wr w.heap.size (Zs fA))) (fun _ _ _ _ _ _=>0)
 case atStart=>exact⟨rfl,rfl,hb0,HX0.out⟩
 case round=>
  clear hb0 HX0 q18;obtain⟨rfl,rfl,HB,HF⟩:=hrel;have q9:wr.cell? ⟨w.heap.size,9,none⟩=some (.string ⟨fA.q.toArray⟩):=HF.out.c 9;have CC:=Lh ((Zv (l:=[]) (l':=fA.q) (c:=-1) (by decide) (by decide) (by decide +kernel)).e)
  have hbq:=HB.out;go_wp2_with fail
  with_reducible refine (CC.out.of hG hbq).mono ?_
  rintro e w9 ⟨rfl,hb9⟩;go_wp2;go_ret;exact⟨rfl,bto hbq hb9⟩
theorem ZaV:∀k,k∈Qp->(k∈[4,5,6]∨k∈[0,10])->k=0∨k=10:=by decide
theorem ZaW {w:World} {word:List UInt8} {cls:Int} {H:List Bool} {M:Option Nat} {code:Bool} {k:Nat} (hG:GE w) (hl:H.length=13) (hH:H[k]?=some true) (hQ:KQ 4 w (.agg (ZA word cls H M code))) :
  Calls Tryz.prog 184 #[.agg (Zs fA),.agg (ZA word cls H M code),.int .i64 (k:Int)] w fun e w'=>e=.returned (.int .i64 0)/\Below w.heap.size w w':=by
 obtain⟨bt,vp,vl,⟨word2,cls2,H2,code2,e2,⟨k1,k2⟩,-⟩,h3,h4,h5⟩:=hQ.2 rfl;obtain⟨-,-,rfl,rfl⟩:=V3 hl k1 e2;obtain⟨x4,x5,x6⟩:=Ox h3 h4 h5;have hg:=Pd
 by_cases hn:k∈Qp
 ·have HKK:=ZaV k hn (k2 k hH);obtain⟨g1,g2,g3,g4⟩:=Vs w (.cells (Zs fA) 48) (.cells (ZA word cls H (some bt) code) 270);have X0:Hid (Blk ((w.alloc (.cells (Zs fA) 48)).alloc (.cells (ZA word cls H (some bt) code) 270)) w.heap.size (Zs fA)):=⟨_,g1⟩;have HB:=Lh g3;clear g1 g2 g3 g4 h3 h4 h5 x4 x5 x6 e2 hQ hH hn k2 k1;rcases HKK with rfl|rfl
  ·have q0:((w.alloc (.cells (Zs fA) 48)).alloc (.cells (ZA word cls H (some bt) code) 270)).cell? ⟨w.heap.size,5,none⟩=some (.string ⟨fA.ins.toArray⟩):=X0.out.c 5;have C1:=N3 (l:=fA.ins) (by decide)
   have e0:nmE fA.ins=0:=hg.g0;rw[e0] at C1;have C2:=Lh C1;clear C1 e0 hg;go_enter Tryz.func184,Tryz.ntmps184;go_wp2_with fail
   with_reducible refine (C2.out.of hG HB.out).mono ?_
   rintro e w1 ⟨rfl,hb1⟩;go_wp2;go_ret;exact⟨rfl,bto HB.out hb1⟩
  ·have C1:=Lh (C7 (hG.below HB.out));go_enter Tryz.func184,Tryz.ntmps184;go_wp2_with (refine Zt rfl 48 (.tmp 3) rfl w.heap.size rfl (Zs fA) X0.out Tryz.underlying48 rfl ZU ?_);refine C1.out.mono ?_;rintro e w1 ⟨rfl,hb1⟩;go_wp2;go_ret;exact⟨rfl,bto HB.out hb1⟩
 ·rcases k2 k hH with h|h
  ·simp only[List.mem_cons,List.not_mem_nil,or_false] at h;rcases h with rfl|rfl|rfl
   ·refine (Uz hG Jp hl (k:=4) rfl x4).mono ?_;rintro e w' ⟨rfl,hb⟩;exact⟨by rw[hg.q],hb⟩
   ·refine (Uz hG Jp hl (k:=5) rfl x5).mono ?_;rintro e w' ⟨rfl,hb⟩;exact⟨by rw[hg.amt],hb⟩
   ·refine (Uz hG Jp hl (k:=6) rfl x6).mono ?_;rintro e w' ⟨rfl,hb⟩;exact⟨by rw[hg.fee],hb⟩
  ·exfalso
   simp only[Qp,List.mem_cons,List.not_mem_nil,or_false] at hn h;omega
theorem C8 {w:World} (hG:GE w) :
  Calls Tryz.prog 121 #[.agg (Zs fA)] w fun e w'=>e=.returned (.int .i64 0)/\Below w.heap.size w w':=by
 have hb0:=Zd w (.cells (Zs fA) 48);have x0:Blk (w.alloc (.cells (Zs fA) 48)) w.heap.size (Zs fA):=Blk.new w _ 48;have q0:(w.alloc (.cells (Zs fA) 48)).cell? ⟨w.heap.size,0,none⟩=some (.string ⟨fA.key.toArray⟩):=x0.c 0;have hnk:YS fA.key=true:=Pd.key;have C1:=((OV (l:=fA.key) (by decide)).e)
 rw[hnk] at C1;have X0:=Lh x0;clear x0;go_enter Tryz.func121,Tryz.ntmps121;go_wp2_with fail
 with_reducible refine (C1.of hG hb0).mono ?_
 rintro e w1 ⟨rfl,hb1⟩;have X1:=Lh (X0.out.below hb1);have HB1:=Lh (bto hb0 hb1);clear hb0 hb1 q0 X0 C1 hnk;have q1:w1.cell? ⟨w.heap.size,1,none⟩=some (.int .i64 fA.stamp):=X1.out.c 1;have q2:w1.cell? ⟨w.heap.size,2,none⟩=some (.bool false):=X1.out.c 2;have q3:w1.cell? ⟨w.heap.size,3,none⟩=some (.int .i64 fA.day):=X1.out.c 3;have e1:decide (fA.stamp<0)=false:=by decide
 have e2:decide (fA.day < -25567)=false:=by decide
 have e3:decide (84005<fA.day)=false:=by decide
 go_wp2_with fail;refine N7 (f:=fA) (w:=w) (by kernel_rfl) (by kernel_rfl) (by kernel_rfl) rfl rfl ?_ ?_
 ·clear e1 e2 e3 q1 q2 q3;refine⟨cs0 (fun a w'=>by go_simp;first|done|rfl) rfl,?_⟩
  refine⟨cs1 (fun a w' h1=>by have g1:=toD h1;clear h1;go_simp;first|done|rfl) rfl,?_⟩
  refine⟨cs2 X1.out (Zi rfl) (fun a w' h1 h2=>by have g1:=toD h1;clear h1;go_simp;first|done|rfl) rfl,?_⟩
  refine⟨cs3 (Zi rfl) (Zi rfl) (fun a w' u v h1 h2 h3=>by have g1:=toD h1;have g2:=toD h2;have g3:(Instr.lookup 272 u (.int .i64 fA.kind) true).run Tryz.prog w'=.ok v w':=h3;clear h1 h2 h3;simp[execOp,Act.eval,g1,g2,g3,Result.andThen]) rfl,?_⟩
  refine⟨cs4 (Zi rfl) (fun a w' v h1=>by have g1:=toD h1;clear h1;go_simp;first|done|rfl) rfl,?_⟩
  refine⟨cs5 (Zi rfl) (fun a w' v b h1=>by have g1:=toD h1;clear h1;go_simp;first|done|rfl) rfl,?_⟩
  refine⟨cs6 (Zi rfl) (fun a w' v b h1=>by have g1:=toD h1;clear h1;go_simp;first|done|rfl) rfl,?_⟩
  refine⟨cs7 (fun a w'=>by go_simp;first|done|rfl) rfl,?_⟩
  refine⟨cs8 (Zi rfl) (Zi rfl) (Zi rfl) (Zi rfl) (Zi rfl) rfl rfl (by kernel_rfl),?_⟩
  exact⟨cs9 (Zi rfl) (fun a w' v h1=>by have g1:=toD h1;clear h1;go_simp;first|done|rfl) rfl,trivial⟩
 intro u3 u4 u32 u33 u34 u35 u36 u37 u38 w2 hc;clear q1 q2 q3 e1 e2 e3;obtain⟨b,cs,rfl,hbb,hbx,hsz,h37⟩:=hc.f7 rfl;obtain⟨bo,rfl,hbo⟩:=hc.f6 rfl;have h4:=hc.f9 rfl;subst h4;have hq:=hc.f5 rfl;have hu:=h37 rfl;subst hu;obtain⟨word,cls,H,M,code,e,hl13,-⟩:=hq.1;injection e with e
 subst e;have hb2:=bto HB1.out hc.b;have X2:=Lh (X1.out.below hc.b);have HB2:=Lh hb2;have HBX:=Lh hbx;have HQ:=Lh hq;have HL:=Lh hl13;have HBO:=Lh hbo;have HBB:=Lh hbb;clear hc h37 hbb hbx hsz hbo hq hl13 hb2 X1 HB1;unfold FRc;have hbt:bo=true:=HBO.out rfl;subst hbt;go_wp2_with fail
 go_loopw [5,6,41] (fun _ _ iv wr=>∃k:Nat,k<=13/\iv=.int .i64 (k:Int)/\Hid (Below w2.heap.size w2 wr)) (fun _ _ iv _=>13-(intOf iv).toNat)
 case atStart=>exact⟨0,by decide,rfl,Below.refl _ _⟩
 case round=>
  obtain⟨k,hk,rfl,HB⟩:=hrel
  by_cases hlk:k<13
  rotate_left
  ·have e3:decide (k<13)=false:=Df hlk;have e4:decide ((k:Int)<13)=false:=Df (by omega)
   go_wp2;go_ret;exact⟨rfl,bto HB2.out HB.out⟩
  have e3:decide (k<13)=true:=Dt hlk;have e4:decide ((k:Int)<13)=true:=Dt (by omega)
  obtain⟨h,hH⟩:∃h,H[k]?=some h:=⟨_,List.getElem?_eq_getElem (by rw[HL.out];exact hlk)⟩
  have hbx:=Zw HBX.out HB.out;have q5:wr.cell? ⟨b,2+k,none⟩=some (.bool h):=(Zh hbx (2+k)).trans (ER hH);have XR:=Lh (X2.out.below HB.out);have HBR:=Lh (bto HB2.out HB.out);have HXR:=Lh hbx;have HHH:=Lh hH;clear hbx hH;have HXB:Hid (Blk wr b (ZA word cls H M code)):=⟨_,HXR.out⟩;have HKI:Hid ((Tryz.prog.info? 270).map (·.size)=some (ZA word cls H M code).size):=by
   show _=_;rw[Xv HL.out]
   kernel_rfl
  cases h with
  | true=>
   have C5:=Lh (ZaW (hG.below HBR.out) HL.out HHH.out (HQ.out.below HB.out));clear HHH;go_wp2_with (first|(refine Zt rfl 48 (.tmp 1) rfl w.heap.size rfl (Zs fA) XR.out Tryz.underlying48 rfl ZU ?_)|(refine Zt rfl 270 (.tmp 3) rfl b rfl (ZA word cls H M code) HXB.out Tryz.underlying270 rfl HKI.out ?_))
   with_reducible refine C5.out.mono ?_
   rintro e w5 ⟨rfl,hb5⟩;have HB5:=Lh hb5;clear hb5 C5 q5;go_wp2;go_roundw
   case rel=>exact⟨k+1,by omega,by go_num,bto HB.out HB5.out⟩
   case measure=>simp[intOf];omega
  | false=>
   have C6:=Lh (A7 fA hlk wr (hG.below HBR.out));go_wp2_with (refine Zt rfl 48 (.tmp 1) rfl w.heap.size rfl (Zs fA) XR.out Tryz.underlying48 rfl ZU ?_)
   with_reducible refine C6.out.mono ?_
   rintro e w5 ⟨rfl,hb5⟩;have heb:emB fA k=true:=Zah HL.out hlk HHH.out HQ.out Pd;rw[heb];have HB5:=Lh hb5;clear heb hb5 C6 q5;go_wp2;go_roundw
   case rel=>exact⟨k+1,by omega,by go_num,bto HB.out HB5.out⟩
   case measure=>simp[intOf];omega
theorem EX (args:Array Value) (w:World):(callFunc 92 args).run Tryz.prog w=.ok (.enter 92 args) w:=by kernel_rfl
theorem EY (args:Array Value) (w:World):(callFunc 95 args).run Tryz.prog w=.ok (.enter 95 args) w:=by kernel_rfl
theorem Ys.cap {w:World} {B:Nat} {v:Value} {xs:List Pk} (h:Ys w B v xs):∃A c,v=.slice A xs.length c/\xs.length<=c:=by
 rcases h.2 with ⟨e,hn⟩|⟨g,cap,cur,e,-,-,hc,-⟩
 ·exact⟨none,0,by rw[e,hn],by rw[hn];exact Nl _⟩
 ·exact⟨_,_,e,hc⟩
theorem SU (K:Nat) {a b:Int} (h1:a.natAbs<10 ^ K) (h2:b.natAbs<10 ^ K):(a-b).natAbs<10 ^ (K+1):=by rw[Nat.pow_succ];omega
theorem Zbx {W:World} {b:Nat} {o1 o2 o3 o4 a1 a2 a3 a4:Value} (h:W.heap[b]?=some (.cells #[o1,o2,o3,o4] 60 (0,0))) :
  W.there b 0 4/\(W.setCells b 0 [a1,a2,a3,a4]).heap[b]?=some (.cells #[a1,a2,a3,a4] 60 (0,0))/\∀k,k≠b->(W.setCells b 0 [a1,a2,a3,a4]).heap[k]?=W.heap[k]?:=by
 refine⟨fun j hj=>⟨by rw[Zh h,Array.getElem?_eq_getElem (by show 0+j<4;omega)];rfl,Zq h _⟩,hset (o:=3) _ (hset (o:=2) _ (hset (o:=1) _ (hset (o:=0) _ h))),fun k hk=>?_⟩
 show ((((W.setCell ⟨b,0,none⟩ _).setCell ⟨b,1,none⟩ _).setCell ⟨b,2,none⟩ _).setCell ⟨b,3,none⟩ _).heap[k]?=_;exact (Below.heap_setCell _ _ _ k hk).trans ((Below.heap_setCell _ _ _ k hk).trans ((Below.heap_setCell _ _ _ k hk).trans (Below.heap_setCell _ _ _ k hk)))
theorem TQA.of {w W:World} {g cr:Nat} {rest:List Lot} {v1 v2:Value} (hD:ZaR w g cr rest tkA fA.key fA.ins fA.day (canon (val fA.amt-val fA.fee)) v1 v2 W):TQA W (.tuple #[.agg (T9 g rest.length cr v1 v2),.int .i64 0]):=by
 obtain⟨zs,hz,B,ho1,ho2⟩:=hD.sold;rw[Jo,ET.1,ET.2] at hz;rw[EU hz,EV] at ho1;exact⟨_,v1,v2,rfl,rfl,UU ho2,Zaj ho1⟩
theorem GD {w:World} {A:Option Addr} {bl bf bm:Nat} (hG:GE w) (hL:Xl w A xsA 2) (hbl:Blk w bl #[.slice A 2 2]) (hbf:Blk w bf (Zs fA)) (hbm:Blk w bm #[.int .i64 1]) :
  Calls Tryz.prog 94 #[.slice A 2 2,.agg (Zs fA),.func (.func 92) #[] #[.pointer (some ⟨bl,0,none⟩),.pointer (some ⟨bf,0,none⟩),.pointer (some ⟨bm,0,none⟩)],.func (.func 95) #[] #[.pointer (some ⟨bf,0,none⟩)]] w fun e w'=>∃u,e=.returned u/\Below w.heap.size w w'/\TQA w' u:=by
 have hP:∀w:World,UG w none []:=fun w i r h=>by simp at h
 refine (Ex (A:=A) (n:=2) (c:=2) (FC:=Zs fA) (Q:=fun v W=>∃A3 c3,v=.slice A3 pkA.length c3/\pkA.length<=c3/\UG W A3 pkA) (TK:=fun _ taken=>taken=tkA) (BD:=False) (T:=canon (val fA.amt-val fA.fee)) (fid:=fA.key) (fins:=fA.ins) (day:=fA.day) hG EX EY (fun w' hb=>?_) (fun v w' hb hq=>?_) (fun v w' hb=>?_) rfl rfl rfl (by rw[Jo];decide) (fun rest taken h=>?_)).mono ?_
 ·refine (AW (R:=fun v err w''=>err=0/\Below w'.heap.size w' w''/\∃A3 c3,v=.slice A3 pkA.length c3/\pkA.length<=c3/\UG w'' A3 pkA) ((hbl.below hb).c 0) ((hbf.below hb).c 5) ((hbf.below hb).c 9) ((hbm.below hb).c 0) ((hbf.below hb).c 18)
    ((Eo 2 0 (hG.below hb) (hL.below hb) (hP w') rfl (by decide) (fun p hp=>(by cases hp)) (by decide) ES (by decide)).mono ?_)).mono ?_
  ·rintro e w2 ⟨v,zs,rfl,hb2,hz,h20,hk⟩;rw[ZaU ⟨zs,hz,h20,rfl⟩] at hk;obtain⟨A3,c3,e3,hc3⟩:=hk.cap;exact⟨_,_,rfl,rfl,hb2,A3,c3,e3,hc3,hk.pkAt e3⟩
  ·rintro e w2 ⟨v,err,rfl,rfl,hb2,hq⟩;exact⟨v,rfl,hb2,hq⟩
 ·obtain⟨A3,c3,rfl,hc3,hk⟩:=hq;have hcq:AY xsA fA.ins fA.q 1 [] pkA:=⟨ofL fA.ins xsA,List.Perm.refl _,fun _ _ _=>rfl,by decide +kernel⟩
  have hpq:=AZ ES hL.sm (by decide) hcq
  refine (ZaP 2 c3 (hG.below hb) (hL.below hb) (by decide) N6 hk rfl hc3 (by decide) hpq.sm Iz (A4 N6 hpq Iz).1).mono ?_
  rintro e w2 ⟨g,cr,v,B,rfl,hT⟩;exact .inr ⟨_,_,g,cr,v,B,CZ,rfl,hT⟩
 ·exact Gu v (hG.below hb) ((hbf.below hb).c 10) ((hbf.below hb).c 11) (by decide) (by decide)
 ·subst h;rw[Jo];exact⟨by decide,by decide +kernel⟩
 ·rintro e w2 (⟨err,-,h2,-⟩|⟨rest,taken,rfl,g,cr,v1,v2,rfl,h2⟩)
  ·exact h2.elim
  ·exact⟨_,rfl,h2.below,.of h2⟩
theorem ZaX {w:World} {A:Option Addr} (hG:GE w) (hL:Xl w A xsA 2):Calls Tryz.prog 35 #[.slice A 2 2,.agg (Zs fA),.int .i64 1] w fun e w'=>∃u,e=.returned u/\Below w.heap.size w w'/\TQA w' u:=by
 obtain⟨g1,g2,g3,g4⟩:=Vs w (.cells #[.slice A 2 2] 44) (.cells (Zs fA) 48);obtain⟨k1,k2,k3,k4⟩:=Vs ((w.alloc (.cells #[.slice A 2 2] 44)).alloc (.cells (Zs fA) 48)) (.cells #[.int .i64 1] 3) (.cells RZ 60);rw[g4] at k1 k2 k4;have hb0:=bto g3 k3;have XL:Hid (Blk ((((w.alloc (.cells #[.slice A 2 2] 44)).alloc (.cells (Zs fA) 48)).alloc (.cells #[.int .i64 1] 3)).alloc (.cells RZ 60)) w.heap.size #[.slice A 2 2]):=⟨_,Zw g1 k3⟩;have XFF:Hid (Blk ((((w.alloc (.cells #[.slice A 2 2] 44)).alloc (.cells (Zs fA) 48)).alloc (.cells #[.int .i64 1] 3)).alloc (.cells RZ 60)) (w.heap.size+1) (Zs fA)):=⟨_,Zw g2 k3⟩;have XM:Hid (Blk ((((w.alloc (.cells #[.slice A 2 2] 44)).alloc (.cells (Zs fA) 48)).alloc (.cells #[.int .i64 1] 3)).alloc (.cells RZ 60)) (w.heap.size+1+1) #[.int .i64 1]):=⟨_,k1⟩;have HR:=Lh k2;have K1:=Lh (Zak (f:=fA) (ps:=[]) 2 4 (hG.below hb0) (hL.below hb0) (fun w' hb'=>(C8 (hG.below (bto hb0 hb'))).mono fun _ _ ⟨h1,h2⟩=>⟨⟨0,h1,fun _=>rfl⟩,h2⟩))
 have HL:=Lh hL;have HB0:=Lh hb0;have HI:Hid ((Tryz.prog.info? 60).map (·.size)=some RZ.size):=QH
 have q0:((((w.alloc (.cells #[.slice A 2 2] 44)).alloc (.cells (Zs fA) 48)).alloc (.cells #[.int .i64 1] 3)).alloc (.cells RZ 60)).cell? ⟨w.heap.size,0,none⟩=some (.slice A 2 2):=XL.out.c 0;clear g1 g2 g3 g4 k1 k2 k3 k4 hb0 hL;go_enter Tryz.func35,Tryz.ntmps35;go_wp2_with (refine Zt rfl 48 (.tmp 4) rfl (w.heap.size+1) rfl (Zs fA) XFF.out Tryz.underlying48 rfl ZU ?_)
 (refine K1.out.mono ?_;rintro e w1 ⟨⟨E1,rfl,hE1,hE2⟩,hb1⟩)
 have hz:=hE1 N6 Pd rfl;subst hz;have CN:=Lh (AS w1);have q2:w1.cell? ⟨w.heap.size+1+1,0,none⟩=some (.int .i64 1):=(XM.out.below hb1).c 0;have HBw1:=Lh (bto HB0.out hb1);have HRw1:=Lh (Zw HR.out hb1);have XL1:=Lh (XL.out.below hb1);have XF1:=Lh (XFF.out.below hb1);have XM1:=Lh (XM.out.below hb1);clear hb1 hE1 hE2 q0 K1 HR XL XFF XM HB0;go_wp2_with fail
 with_reducible refine CN.out.mono ?_
 rintro e w4 ⟨⟨s,rfl⟩,hb2⟩;have HBw4:=Lh (bto HBw1.out hb2);have HRw4:=Lh (Zw HRw1.out hb2);have XL4:=Lh (XL1.out.below hb2);have XF4:=Lh (XF1.out.below hb2);have XM4:=Lh (XM1.out.below hb2);have q3:w4.cell? ⟨w.heap.size+1+1,0,none⟩=some (.int .i64 1):=XM4.out.c 0;have q0:w4.cell? ⟨w.heap.size,0,none⟩=some (.slice A 2 2):=XL4.out.c 0;have CD:=Lh (GD (bl:=w.heap.size) (bf:=w.heap.size+1) (bm:=w.heap.size+1+1) (hG.below HBw4.out) (HL.out.below HBw4.out) XL4.out XF4.out XM4.out);clear hb2 CN HRw1 XL1 XF1 XM1 HBw1 q2;go_wp2_with (refine Zt rfl 48 (.tmp 4) rfl (w.heap.size+1) rfl (Zs fA) XF4.out Tryz.underlying48 rfl ZU ?_)
 with_reducible refine CD.out.mono ?_
 rintro e w5 ⟨u,rfl,hb5,a1,a2,a3,rfl,o1,o3,hga⟩;have HGA:=Lh hga;have HO1:=Lh o1;have HO3:=Lh o3;have HR5:=Zw HRw4.out hb5;obtain⟨r1,r2,r3⟩:=Zbx (a1:=a1) (a2:=a2) (a3:=a3) (a4:=.slice none 0 0) HR5;have HTH:Hid (w5.there (w.heap.size+1+1+1) 0 4):=r1;obtain⟨wE,hwE⟩:∃wE,wE=w5.setCells (w.heap.size+1+1+1) 0 [a1,a2,a3,.slice none 0 0]:=⟨_,rfl⟩
 have HWE:=Lh hwE;rw[<-hwE] at r2 r3;have HRR:Hid (wE.rangeAt (w.heap.size+1+1+1) 0 [a1,a2,a3,.slice none 0 0]):=ZD r2;have HGE:Hid (GaQ wE a2):=by
  obtain⟨g,cap,cur,e,h1,h2⟩:=hga;refine⟨g,cap,cur,e,(r3 g (fun e=>?_)).trans h1,h2⟩
  rw[e,HR5] at h1;injection h1 with h1
  injection h1 with _ h1 _
  exact absurd h1 (by decide)
 have HBE:Hid (Below w.heap.size w wE):=by rw[hwE];exact Lib.below_setCells _ (by omega) _ _ (bto HBw4.out hb5)
 have HONE:Hid ((#[a1,a2,a3,.slice none 0 0]:Array Value).all (·.oneCell')=true):=all_oneCell_toArray (cs:=[a1,a2,a3,.slice none 0 0]) (fun v hv=>by
  simp only[List.mem_cons,List.not_mem_nil,or_false] at hv;rcases hv with rfl|rfl|rfl|rfl
  ·exact HO1.out
  ·obtain⟨g,cap,cur,rfl,-⟩:=HGA.out;rfl
  ·exact HO3.out
  ·rfl)
 clear hwE r1 r2 r3 hga o1 o3 hb5 HR5 CD q0 q3;go_wp2_with (refine wpList_store_mid rfl 60 (.tmp 6) (.tmp 39) rfl (w.heap.size+1+1+1) 0 #[a1,a2,a3,.slice none 0 0] rfl rfl HTH.out HI.out HONE.out ?_;rw[<-HWE.out]);refine bodyPost_ret (v:=.tuple #[.agg #[a1,a2,a3,.slice none 0 0],.int .i64 0]) ?_ rfl ?_
 ·exact results_cell_tmp Tryz.f35 6 7 60 #[a1,a2,a3,.slice none 0 0] (.int .i64 0) rfl rfl rfl HRR.out Tryz.underlying60 rfl HI.out
 exact⟨_,rfl,HBE.out,a1,a2,a3,rfl,HO1.out,HO3.out,HGE.out⟩
theorem ZaY (w:World):Calls Tryz.prog 41 #[] w fun e w'=>∃b,e=.returned (.slice (some ⟨b,0,none⟩) 2 2)/\Below w.heap.size w w'/\Xl w' (some ⟨b,0,none⟩) xsA 2:=by
 have hb:=Zd w (.cells #[.string ⟨#[97,47,49]⟩,.string ⟨#[97,98,99]⟩,.int .i64 5,.int .i64 5,.string ⟨#[49,48]⟩,.string ⟨#[49,48,48]⟩,.string ⟨#[]⟩,.string ⟨#[98,47,49]⟩,.string ⟨#[97,98,99]⟩,.int .i64 6,.int .i64 6,.string ⟨#[53]⟩,.string ⟨#[56,48]⟩,.string ⟨#[]⟩] 130);have hn:=ZF w (.cells #[.string ⟨#[97,47,49]⟩,.string ⟨#[97,98,99]⟩,.int .i64 5,.int .i64 5,.string ⟨#[49,48]⟩,.string ⟨#[49,48,48]⟩,.string ⟨#[]⟩,.string ⟨#[98,47,49]⟩,.string ⟨#[97,98,99]⟩,.int .i64 6,.int .i64 6,.string ⟨#[53]⟩,.string ⟨#[56,48]⟩,.string ⟨#[]⟩] 130);obtain⟨W,hW⟩:∃W,W=w.alloc (.cells #[.string ⟨#[97,47,49]⟩,.string ⟨#[97,98,99]⟩,.int .i64 5,.int .i64 5,.string ⟨#[49,48]⟩,.string ⟨#[49,48,48]⟩,.string ⟨#[]⟩,.string ⟨#[98,47,49]⟩,.string ⟨#[97,98,99]⟩,.int .i64 6,.int .i64 6,.string ⟨#[53]⟩,.string ⟨#[56,48]⟩,.string ⟨#[]⟩] 130):=⟨_,rfl⟩
 rw[<-hW] at hb hn;have HB:=Lh hb;have HN:=Lh hn;have HW:=Lh hW;clear hb hn hW;go_enter Tryz.func41,Tryz.ntmps41;go_wp2_with fail;rw[<-HW.out];go_ret;refine⟨w.heap.size,rfl,HB.out,⟨rfl,by decide,fun x hx=>?_,fun i x hx=>⟨w.heap.size,0,rfl,(Ag.1 HN.out).1,?_⟩⟩⟩
 ·simp[xsA] at hx;rcases hx with rfl|rfl<;>exact⟨by decide,by decide,by decide,by decide,by decide⟩
 ·have hi:=(Lg.1 hx).1;have hi:i=0∨i=1:=by simp[xsA] at hi;omega
  rcases hi with rfl|rfl
  ·simp[xsA] at hx;subst hx;exact⟨Zh HN.out 0,Zh HN.out 1,Zh HN.out 2,Zh HN.out 3,Zh HN.out 4,Zh HN.out 5,Zh HN.out 6⟩
  ·simp[xsA] at hx;subst hx;exact⟨Zh HN.out 7,Zh HN.out 8,Zh HN.out 9,Zh HN.out 10,Zh HN.out 11,Zh HN.out 12,Zh HN.out 13⟩
def LtQ (w:World) (u:Value):Prop:=∃b,u=.slice (some ⟨b,0,none⟩) 2 2/\Xl w (some ⟨b,0,none⟩) xsA 2
theorem LtQ.below {w w':World} {u:Value} (h:LtQ w u) (hb:Below w.heap.size w w'):LtQ w' u:=by
 obtain⟨b,e,h⟩:=h;exact⟨b,e,h.below hb⟩
theorem TQA.below {w w':World} {u:Value} (h:TQA w u) (hb:Below w.heap.size w w'):TQA w' u:=by
 obtain⟨r,v1,v2,e,h1,h2,h3⟩:=h;exact⟨r,v1,v2,e,h1,h2,h3.below hb⟩
def AQA (w:World) (u:Value):Prop:=∃r v1 v2,u=.agg #[r,v1,v2,.slice none 0 0]/\r.oneCell'=true/\v2.oneCell'=true/\GaQ w v1
theorem AQA.below {w w':World} {u:Value} (h:AQA w u) (hb:Below w.heap.size w w'):AQA w' u:=by
 obtain⟨r,v1,v2,e,h1,h2,h3⟩:=h;exact⟨r,v1,v2,e,h1,h2,h3.below hb⟩
theorem GaQ.oth {w w':World} {b:Nat} {cs:Array Value} {v:Value} (h:GaQ w v) (hb:w.heap[b]?=some (.cells cs 60 (0,0))) (hx:∀k,k≠b->w'.heap[k]?=w.heap[k]?):GaQ w' v:=by
 obtain⟨g,cap,cur,e,h1,h2⟩:=h;refine⟨g,cap,cur,e,(hx g (fun e=>?_)).trans h1,h2⟩
 subst e;rw[hb] at h1;injection h1 with h1
 injection h1 with _ h1 _
 exact absurd h1 (by decide)
theorem TQA.oth {w w':World} {b:Nat} {cs:Array Value} {v:Value} (h:TQA w v) (hb:w.heap[b]?=some (.cells cs 60 (0,0))) (hx:∀k,k≠b->w'.heap[k]?=w.heap[k]?):TQA w' v:=by
 obtain⟨r,v1,v2,e,h1,h2,h3⟩:=h;exact⟨r,v1,v2,e,h1,h2,h3.oth hb hx⟩
theorem AQA.oth {w w':World} {b:Nat} {cs:Array Value} {v:Value} (h:AQA w v) (hb:w.heap[b]?=some (.cells cs 60 (0,0))) (hx:∀k,k≠b->w'.heap[k]?=w.heap[k]?):AQA w' v:=by
 obtain⟨r,v1,v2,e,h1,h2,h3⟩:=h;exact⟨r,v1,v2,e,h1,h2,h3.oth hb hx⟩
def FRa (w:World) (u2 u3 u7 u8 u9 u10 u11 u12:Value):Act:=⟨#[.bool false,.pointer (some ⟨w.heap.size,0,none⟩),u2,u3,undef,undef,.agg (Zs fA),u7,u8,u9,u10,u11,u12,undef,undef,undef,undef,undef,undef,undef,undef,undef,undef,undef,undef,undef,undef,undef,undef,undef,undef,undef,undef,undef,undef,undef,undef,undef,undef,undef,undef,undef,undef,undef,undef,undef,undef,undef,undef,undef,undef,undef,undef,undef,undef,undef,undef,undef,undef,undef,undef],[]⟩
structure AF (w w1:World) (L:Array Bool) (w':World) (u2 u3 u7 u8 u9 u10 u11 u12:Value):Prop where
 b:Below w1.heap.size w1 w'
 f0:L.getD 0 false=true->L.getD 7 false=false->LtQ w' u8
 f1:L.getD 1 false=true->u9=.agg (Zs fA)
 f2:L.getD 2 false=true->L.getD 7 false=false->TQA w' u10
 f3:L.getD 3 false=true->TQA w' u7
 f4:L.getD 4 false=true->AQA w' u11
 f5:L.getD 5 false=true->u12=.int .i64 0
 f6:L.getD 6 false=true->∃b cs,u2=.pointer (some ⟨b,0,none⟩)/\w1.heap.size<=b/\w'.heap[b]?=some (.cells cs 60 (0,0))/\cs.size=4/\(L.getD 7 false=true->u11=.agg cs)
 f7:L.getD 7 false=true->L.getD 0 false=true/\L.getD 2 false=true/\L.getD 3 false=true/\L.getD 4 false=true/\L.getD 6 false=true
 f8:L.getD 8 false=true->u3=u12
 f9:L.getD 8 false=true->L.getD 5 false=true
def AI (w w1:World) (L:Array Bool) (a:Act) (w':World):Prop:=∃u2 u3 u7 u8 u9 u10 u11 u12:Value,a=FRa w u2 u3 u7 u8 u9 u10 u11 u12/\AF w w1 L w' u2 u3 u7 u8 u9 u10 u11 u12
def TP (w w1:World) (o:Oper) (i:Nat):Prop:=∀listed a w',AI w w1 listed a w'->listed.getD i true=false->(∀j,ZH o j->listed.getD j false=true)->o.wp Tryz.prog a w' (AI w w1 (listed.setIfInBounds i true)) (UB fun _ _=>False)
theorem EZ (w w1:World) (n:Nat):AI w w1 (Array.replicate n false) (FRa w undef undef undef undef undef undef undef undef) { w1 with drawn:=w1.drawn+1 }:=by
 have h:∀j,(Array.replicate n false).getD j false=false:=fun j=>by
  rw[Array.getD_eq_getD_getElem?,Array.getElem?_replicate]
  split<;>rfl
 refine⟨undef,undef,undef,undef,undef,undef,undef,undef,rfl,⟨⟨rfl,rfl,rfl,Nl _,fun _ _=>rfl⟩,fun e=>?_,fun e=>?_,fun e=>?_,fun e=>?_,fun e=>?_,fun e=>?_,fun e=>?_,fun e=>?_,fun e=>?_,fun e=>?_⟩⟩<;>exact absurd e (by rw[h];decide)
section
variable {w w1:World} {o:Oper}
theorem as0 (hrun:∀(a:Act) (w':World),(execOp a.eval o).run Tryz.prog w'=.ok (.enter 41 #[]) w') (hd:o.dst=some 8):TP w w1 o 0:=by
 intro L a w' hI hi hl;obtain⟨u2,u3,u7,u8,u9,u10,u11,u12,rfl,hc⟩:=hI;have e:∀j,j≠0->(L.setIfInBounds 0 true).getD j false=L.getD j false:=fun j hj=>getD_set_ne false (Ne.symm hj)
 have k8:∀j,L.getD j false=true->(L.setIfInBounds 0 true).getD j false=true:=fun j hj=>getD_set_true hj
 refine ZV (hrun _ w') ?_;refine (ZaY w').mono ?_;rintro ex w2 ⟨b,rfl,hB,hM⟩;refine⟨_,rfl,?_⟩;rw[hd];exact⟨u2,u3,u7,.slice (some ⟨b,0,none⟩) 2 2,u9,u10,u11,u12,rfl,⟨bto hc.b hB,fun _ _=>⟨b,rfl,hM⟩,fun h=>hc.f1 (by rwa [e 1 (by decide)] at h),fun h h7=>(hc.f2 (by rwa [e 2 (by decide)] at h) (by rwa [e 7 (by decide)] at h7)).below hB,fun h=>(hc.f3 (by rwa [e 3 (by decide)] at h)).below hB,fun h=>(hc.f4 (by rwa [e 4 (by decide)] at h)).below hB,fun h=>hc.f5 (by rwa [e 5 (by decide)] at h),fun h=>by obtain⟨b,cs,q1,q2,q3,q4,q5⟩:=hc.f6 (by rwa [e 6 (by decide)] at h);exact⟨b,cs,q1,q2,Zw q3 hB,q4,fun h7=>q5 (by rwa [e 7 (by decide)] at h7)⟩,fun h=>by obtain⟨k0,k2,k3,k4,k6⟩:=hc.f7 (by rwa [e 7 (by decide)] at h);exact⟨k8 0 k0,k8 2 k2,k8 3 k3,k8 4 k4,k8 6 k6⟩,fun h=>hc.f8 (by rwa [e 8 (by decide)] at h),fun h=>k8 5 (hc.f9 (by rwa [e 8 (by decide)] at h))⟩⟩
theorem as1 (hX:Blk w1 w.heap.size (Zs fA)) (hop:o.op=.load 48 (.tmp 1)) (hd:o.dst=some 9):TP w w1 o 1:=by
 intro L a w' hI hi hl;obtain⟨u2,u3,u7,u8,u9,u10,u11,u12,rfl,hc⟩:=hI;have e:∀j,j≠1->(L.setIfInBounds 1 true).getD j false=L.getD j false:=fun j hj=>getD_set_ne false (Ne.symm hj)
 have k8:∀j,L.getD j false=true->(L.setIfInBounds 1 true).getD j false=true:=fun j hj=>getD_set_true hj
 refine ZB (YI (P:=Tryz.prog) 48 (.tmp 1) hop w.heap.size rfl (Zs fA) (hX.below hc.b) Tryz.underlying48 rfl ZU) ?_;rw[hd];exact⟨u2,u3,u7,u8,.agg (Zs fA),u10,u11,u12,rfl,⟨hc.b,fun h h7=>hc.f0 (by rwa [e 0 (by decide)] at h) (by rwa [e 7 (by decide)] at h7),fun _=>rfl,fun h h7=>hc.f2 (by rwa [e 2 (by decide)] at h) (by rwa [e 7 (by decide)] at h7),fun h=>hc.f3 (by rwa [e 3 (by decide)] at h),fun h=>hc.f4 (by rwa [e 4 (by decide)] at h),fun h=>hc.f5 (by rwa [e 5 (by decide)] at h),fun h=>by obtain⟨b,cs,q1,q2,q3,q4,q5⟩:=hc.f6 (by rwa [e 6 (by decide)] at h);exact⟨b,cs,q1,q2,q3,q4,fun h7=>q5 (by rwa [e 7 (by decide)] at h7)⟩,fun h=>by obtain⟨k0,k2,k3,k4,k6⟩:=hc.f7 (by rwa [e 7 (by decide)] at h);exact⟨k8 0 k0,k8 2 k2,k8 3 k3,k8 4 k4,k8 6 k6⟩,fun h=>hc.f8 (by rwa [e 8 (by decide)] at h),fun h=>k8 5 (hc.f9 (by rwa [e 8 (by decide)] at h))⟩⟩
theorem as2 (hG:GE w1) (hw0:ZH o 0) (hw1:ZH o 1) (hrun:∀(a:Act) (w':World) (u v:Value),a.eval (.tmp 8)=u->a.eval (.tmp 9)=v->(execOp a.eval o).run Tryz.prog w'=.ok (.enter 35 #[u,v,.int .i64 1]) w') (hd:o.dst=some 10):TP w w1 o 2:=by
 intro L a w' hI hi hl;obtain⟨u2,u3,u7,u8,u9,u10,u11,u12,rfl,hc⟩:=hI;have e:∀j,j≠2->(L.setIfInBounds 2 true).getD j false=L.getD j false:=fun j hj=>getD_set_ne false (Ne.symm hj)
 have k8:∀j,L.getD j false=true->(L.setIfInBounds 2 true).getD j false=true:=fun j hj=>getD_set_true hj
 have h7:L.getD 7 false=false:=by
  cases hx:L.getD 7 false with
  | false=>rfl
  | true=>have:=(hc.f7 hx).2.1;rw[Ye hi] at this;cases this
 obtain⟨b,q1,q2⟩:=hc.f0 (hl 0 hw0) h7;have hr:=hrun (FRa w u2 u3 u7 u8 u9 u10 u11 u12) w' _ _ q1 (hc.f1 (hl 1 hw1));refine ZV hr ?_;refine (ZaX (hG.below hc.b) q2).mono ?_;rintro ex w2 ⟨u,rfl,hB,hM⟩;refine⟨u,rfl,?_⟩;rw[hd];exact⟨u2,u3,u7,u8,u9,u,u11,u12,rfl,⟨bto hc.b hB,fun h h7=>(hc.f0 (by rwa [e 0 (by decide)] at h) (by rwa [e 7 (by decide)] at h7)).below hB,fun h=>hc.f1 (by rwa [e 1 (by decide)] at h),fun _ _=>hM,fun h=>(hc.f3 (by rwa [e 3 (by decide)] at h)).below hB,fun h=>(hc.f4 (by rwa [e 4 (by decide)] at h)).below hB,fun h=>hc.f5 (by rwa [e 5 (by decide)] at h),fun h=>by obtain⟨b,cs,q1,q2,q3,q4,q5⟩:=hc.f6 (by rwa [e 6 (by decide)] at h);exact⟨b,cs,q1,q2,Zw q3 hB,q4,fun h7=>q5 (by rwa [e 7 (by decide)] at h7)⟩,fun h=>by obtain⟨k0,k2,k3,k4,k6⟩:=hc.f7 (by rwa [e 7 (by decide)] at h);exact⟨k8 0 k0,k8 2 k2,k8 3 k3,k8 4 k4,k8 6 k6⟩,fun h=>hc.f8 (by rwa [e 8 (by decide)] at h),fun h=>k8 5 (hc.f9 (by rwa [e 8 (by decide)] at h))⟩⟩
theorem as3 (hw2:ZH o 2) (hrun:∀(a:Act) (w':World) (v:Value),a.eval (.tmp 10)=v->(execOp a.eval o).run Tryz.prog w'=.ok (.value v) w') (hd:o.dst=some 7):TP w w1 o 3:=by
 intro L a w' hI hi hl;obtain⟨u2,u3,u7,u8,u9,u10,u11,u12,rfl,hc⟩:=hI;have e:∀j,j≠3->(L.setIfInBounds 3 true).getD j false=L.getD j false:=fun j hj=>getD_set_ne false (Ne.symm hj)
 have k8:∀j,L.getD j false=true->(L.setIfInBounds 3 true).getD j false=true:=fun j hj=>getD_set_true hj
 have h7:L.getD 7 false=false:=by
  cases hx:L.getD 7 false with
  | false=>rfl
  | true=>have:=(hc.f7 hx).2.2.1;rw[Ye hi] at this;cases this
 refine ZB (hrun _ w' _ rfl) ?_;rw[hd];exact⟨u2,u3,u10,u8,u9,u10,u11,u12,rfl,⟨hc.b,fun h h7=>hc.f0 (by rwa [e 0 (by decide)] at h) (by rwa [e 7 (by decide)] at h7),fun h=>hc.f1 (by rwa [e 1 (by decide)] at h),fun h h7=>hc.f2 (by rwa [e 2 (by decide)] at h) (by rwa [e 7 (by decide)] at h7),fun _=>hc.f2 (hl 2 hw2) h7,fun h=>hc.f4 (by rwa [e 4 (by decide)] at h),fun h=>hc.f5 (by rwa [e 5 (by decide)] at h),fun h=>by obtain⟨b,cs,q1,q2,q3,q4,q5⟩:=hc.f6 (by rwa [e 6 (by decide)] at h);exact⟨b,cs,q1,q2,q3,q4,fun h7=>q5 (by rwa [e 7 (by decide)] at h7)⟩,fun h=>by obtain⟨k0,k2,k3,k4,k6⟩:=hc.f7 (by rwa [e 7 (by decide)] at h);exact⟨k8 0 k0,k8 2 k2,k8 3 k3,k8 4 k4,k8 6 k6⟩,fun h=>hc.f8 (by rwa [e 8 (by decide)] at h),fun h=>k8 5 (hc.f9 (by rwa [e 8 (by decide)] at h))⟩⟩
theorem as4 (hw3:ZH o 3) (hrun:∀(a:Act) (w':World) (v b:Value),a.eval (.tmp 7)=.tuple #[v,b]->(execOp a.eval o).run Tryz.prog w'=.ok (.value v) w') (hd:o.dst=some 11):TP w w1 o 4:=by
 intro L a w' hI hi hl;obtain⟨u2,u3,u7,u8,u9,u10,u11,u12,rfl,hc⟩:=hI;have e:∀j,j≠4->(L.setIfInBounds 4 true).getD j false=L.getD j false:=fun j hj=>getD_set_ne false (Ne.symm hj)
 have k8:∀j,L.getD j false=true->(L.setIfInBounds 4 true).getD j false=true:=fun j hj=>getD_set_true hj
 have h7:L.getD 7 false=false:=by
  cases hx:L.getD 7 false with
  | false=>rfl
  | true=>have:=(hc.f7 hx).2.2.2.1;rw[Ye hi] at this;cases this
 obtain⟨r,v1,v2,q1,q2,q3,q4⟩:=hc.f3 (hl 3 hw3);refine ZB (hrun _ w' _ _ q1) ?_;rw[hd];exact⟨u2,u3,u7,u8,u9,u10,.agg #[r,v1,v2,.slice none 0 0],u12,rfl,⟨hc.b,fun h h7=>hc.f0 (by rwa [e 0 (by decide)] at h) (by rwa [e 7 (by decide)] at h7),fun h=>hc.f1 (by rwa [e 1 (by decide)] at h),fun h h7=>hc.f2 (by rwa [e 2 (by decide)] at h) (by rwa [e 7 (by decide)] at h7),fun h=>hc.f3 (by rwa [e 3 (by decide)] at h),fun _=>⟨r,v1,v2,rfl,q2,q3,q4⟩,fun h=>hc.f5 (by rwa [e 5 (by decide)] at h),fun h=>by obtain⟨b,cs,r1,r2,r3,r4,r5⟩:=hc.f6 (by rwa [e 6 (by decide)] at h);exact⟨b,cs,r1,r2,r3,r4,fun h9=>(by rw[e 7 (by decide),h7] at h9;cases h9)⟩,fun h=>by obtain⟨k0,k2,k3,k4,k6⟩:=hc.f7 (by rwa [e 7 (by decide)] at h);exact⟨k8 0 k0,k8 2 k2,k8 3 k3,k8 4 k4,k8 6 k6⟩,fun h=>hc.f8 (by rwa [e 8 (by decide)] at h),fun h=>k8 5 (hc.f9 (by rwa [e 8 (by decide)] at h))⟩⟩
theorem as5 (hw3:ZH o 3) (hrun:∀(a:Act) (w':World) (v b:Value),a.eval (.tmp 7)=.tuple #[v,b]->(execOp a.eval o).run Tryz.prog w'=.ok (.value b) w') (hd:o.dst=some 12):TP w w1 o 5:=by
 intro L a w' hI hi hl;obtain⟨u2,u3,u7,u8,u9,u10,u11,u12,rfl,hc⟩:=hI;have e:∀j,j≠5->(L.setIfInBounds 5 true).getD j false=L.getD j false:=fun j hj=>getD_set_ne false (Ne.symm hj)
 have k8:∀j,L.getD j false=true->(L.setIfInBounds 5 true).getD j false=true:=fun j hj=>getD_set_true hj
 obtain⟨r,v1,v2,q1,q2,q3,q4⟩:=hc.f3 (hl 3 hw3);refine ZB (hrun _ w' _ _ q1) ?_;rw[hd];exact⟨u2,u3,u7,u8,u9,u10,u11,.int .i64 0,rfl,⟨hc.b,fun h h7=>hc.f0 (by rwa [e 0 (by decide)] at h) (by rwa [e 7 (by decide)] at h7),fun h=>hc.f1 (by rwa [e 1 (by decide)] at h),fun h h7=>hc.f2 (by rwa [e 2 (by decide)] at h) (by rwa [e 7 (by decide)] at h7),fun h=>hc.f3 (by rwa [e 3 (by decide)] at h),fun h=>hc.f4 (by rwa [e 4 (by decide)] at h),fun _=>rfl,fun h=>by obtain⟨b,cs,q1,q2,q3,q4,q5⟩:=hc.f6 (by rwa [e 6 (by decide)] at h);exact⟨b,cs,q1,q2,q3,q4,fun h7=>q5 (by rwa [e 7 (by decide)] at h7)⟩,fun h=>by obtain⟨k0,k2,k3,k4,k6⟩:=hc.f7 (by rwa [e 7 (by decide)] at h);exact⟨k8 0 k0,k8 2 k2,k8 3 k3,k8 4 k4,k8 6 k6⟩,fun h=>(by have h9:=hc.f9 (by rwa [e 8 (by decide)] at h);rw[Ye hi] at h9;cases h9),fun h=>k8 5 (hc.f9 (by rwa [e 8 (by decide)] at h))⟩⟩
theorem as6 (hrun:∀(a:Act) (w':World),(execOp a.eval o).run Tryz.prog w'=.ok (.value (.pointer (some ⟨w'.heap.size,0,none⟩))) (w'.alloc (.cells #[.slice none 0 0,.slice none 0 0,.slice none 0 0,.slice none 0 0] 60))) (hd:o.dst=some 2):TP w w1 o 6:=by
 intro L a w' hI hi hl;obtain⟨u2,u3,u7,u8,u9,u10,u11,u12,rfl,hc⟩:=hI;have e:∀j,j≠6->(L.setIfInBounds 6 true).getD j false=L.getD j false:=fun j hj=>getD_set_ne false (Ne.symm hj)
 have k8:∀j,L.getD j false=true->(L.setIfInBounds 6 true).getD j false=true:=fun j hj=>getD_set_true hj
 have hB:=Zd w' (.cells #[.slice none 0 0,.slice none 0 0,.slice none 0 0,.slice none 0 0] 60);have h7:L.getD 7 false=false:=by
  cases hx:L.getD 7 false with
  | false=>rfl
  | true=>have:=(hc.f7 hx).2.2.2.2;rw[Ye hi] at this;cases this
 refine ZB (hrun _ w') ?_;rw[hd];exact⟨.pointer (some ⟨w'.heap.size,0,none⟩),u3,u7,u8,u9,u10,u11,u12,rfl,⟨bto hc.b hB,fun h h7=>(hc.f0 (by rwa [e 0 (by decide)] at h) (by rwa [e 7 (by decide)] at h7)).below hB,fun h=>hc.f1 (by rwa [e 1 (by decide)] at h),fun h h7=>(hc.f2 (by rwa [e 2 (by decide)] at h) (by rwa [e 7 (by decide)] at h7)).below hB,fun h=>(hc.f3 (by rwa [e 3 (by decide)] at h)).below hB,fun h=>(hc.f4 (by rwa [e 4 (by decide)] at h)).below hB,fun h=>hc.f5 (by rwa [e 5 (by decide)] at h),fun _=>⟨w'.heap.size,_,rfl,hc.b.size,ZF w' _,rfl,fun h9=>by rw[e 7 (by decide),h7] at h9;cases h9⟩,fun h=>by obtain⟨k0,k2,k3,k4,k6⟩:=hc.f7 (by rwa [e 7 (by decide)] at h);exact⟨k8 0 k0,k8 2 k2,k8 3 k3,k8 4 k4,k8 6 k6⟩,fun h=>hc.f8 (by rwa [e 8 (by decide)] at h),fun h=>k8 5 (hc.f9 (by rwa [e 8 (by decide)] at h))⟩⟩
theorem as7 (hw0:ZH o 0) (hw2:ZH o 2) (hw3:ZH o 3) (hw4:ZH o 4) (hw6:ZH o 6) (hop:o.op=.store 60 (.tmp 2) (.tmp 11)) (hd:o.dst=none) (hI:(Tryz.prog.info? 60).map (·.size)=some 4):TP w w1 o 7:=by
 intro L a w' hI hi hl;obtain⟨u2,u3,u7,u8,u9,u10,u11,u12,rfl,hc⟩:=hI;have e:∀j,j≠7->(L.setIfInBounds 7 true).getD j false=L.getD j false:=fun j hj=>getD_set_ne false (Ne.symm hj)
 have k8:∀j,L.getD j false=true->(L.setIfInBounds 7 true).getD j false=true:=fun j hj=>getD_set_true hj
 obtain⟨b,cs,q1,q2,q3,q4,-⟩:=hc.f6 (hl 6 hw6);obtain⟨r,v1,v2,r1,r2,r3,r4⟩:=hc.f4 (hl 4 hw4)
 have hone:(#[r,v1,v2,.slice none 0 0]:Array Value).all (·.oneCell')=true:=all_oneCell_toArray (cs:=[r,v1,v2,.slice none 0 0]) (fun v hv=>by
  simp only[List.mem_cons,List.not_mem_nil,or_false] at hv;rcases hv with rfl|rfl|rfl|rfl
  ·exact r2
  ·obtain⟨g,cap,cur,rfl,-⟩:=r4;rfl
  ·exact r3
  ·rfl)
 have hrun:=run_storeVar_row (P:=Tryz.prog) w' b 60 60 cs #[r,v1,v2,.slice none 0 0] q3 hI q4 hone;have hx:∀k,k≠b->(w'.setRow b #[r,v1,v2,.slice none 0 0]).heap[k]?=w'.heap[k]?:=fun k hk=>setRow_other w' b k _ hk
 have hB:Below w1.heap.size w1 (w'.setRow b #[r,v1,v2,.slice none 0 0]):=⟨hc.b.os,hc.b.tape,hc.b.output,Nt hc.b.size (by simp[World.setRow]),fun c hlt=>(hx c (by omega)).trans (hc.b.block c hlt)⟩
 have hself:(L.setIfInBounds 7 true).getD 7 false=true:=by
  by_cases hlt:7<L.size
  ·rw[Array.getD_eq_getD_getElem?,Array.getElem?_setIfInBounds,if_pos rfl,if_pos hlt];rfl
  ·rw[Array.getD_eq_getD_getElem?,Array.getElem?_eq_none (by omega)] at hi
   cases hi
 refine Uy (w':=w'.setRow b #[r,v1,v2,.slice none 0 0]) ?_ ?_
 ·have hx2:(FRa w u2 u3 u7 u8 u9 u10 u11 u12).eval (.tmp 2)=.pointer (some ⟨b,0,none⟩):=q1;have hy:(FRa w u2 u3 u7 u8 u9 u10 u11 u12).eval (.tmp 11)=.agg #[r,v1,v2,.slice none 0 0]:=r1;unfold execOp;simp only[hop,hx2,hy,Instr.storeAt,Instr.sureAddr,Sem.run_bind,Sem.run_pure,Result.andThen_ok,hrun]
 rw[hd];exact⟨u2,u3,u7,u8,u9,u10,u11,u12,rfl,⟨hB,fun _ h7=>(by rw[hself] at h7;cases h7),fun h=>hc.f1 (by rwa [e 1 (by decide)] at h),fun _ h7=>(by rw[hself] at h7;cases h7),fun h=>(hc.f3 (by rwa [e 3 (by decide)] at h)).oth q3 hx,fun h=>(hc.f4 (by rwa [e 4 (by decide)] at h)).oth q3 hx,fun h=>hc.f5 (by rwa [e 5 (by decide)] at h),fun _=>⟨b,_,q1,q2,setRow_heap w' b cs _ 60 (0,0) q3,rfl,fun _=>r1⟩,fun _=>⟨k8 0 (hl 0 hw0),k8 2 (hl 2 hw2),k8 3 (hl 3 hw3),k8 4 (hl 4 hw4),k8 6 (hl 6 hw6)⟩,fun h=>hc.f8 (by rwa [e 8 (by decide)] at h),fun h=>k8 5 (hc.f9 (by rwa [e 8 (by decide)] at h))⟩⟩
theorem as8 (hw5:ZH o 5) (hrun:∀(a:Act) (w':World) (v:Value),a.eval (.tmp 12)=v->(execOp a.eval o).run Tryz.prog w'=.ok (.value v) w') (hd:o.dst=some 3):TP w w1 o 8:=by
 intro L a w' hI hi hl;obtain⟨u2,u3,u7,u8,u9,u10,u11,u12,rfl,hc⟩:=hI;have e:∀j,j≠8->(L.setIfInBounds 8 true).getD j false=L.getD j false:=fun j hj=>getD_set_ne false (Ne.symm hj)
 have k8:∀j,L.getD j false=true->(L.setIfInBounds 8 true).getD j false=true:=fun j hj=>getD_set_true hj
 refine ZB (hrun _ w' _ rfl) ?_;rw[hd];exact⟨u2,u12,u7,u8,u9,u10,u11,u12,rfl,⟨hc.b,fun h h7=>hc.f0 (by rwa [e 0 (by decide)] at h) (by rwa [e 7 (by decide)] at h7),fun h=>hc.f1 (by rwa [e 1 (by decide)] at h),fun h h7=>hc.f2 (by rwa [e 2 (by decide)] at h) (by rwa [e 7 (by decide)] at h7),fun h=>hc.f3 (by rwa [e 3 (by decide)] at h),fun h=>hc.f4 (by rwa [e 4 (by decide)] at h),fun h=>hc.f5 (by rwa [e 5 (by decide)] at h),fun h=>by obtain⟨b,cs,q1,q2,q3,q4,q5⟩:=hc.f6 (by rwa [e 6 (by decide)] at h);exact⟨b,cs,q1,q2,q3,q4,fun h7=>q5 (by rwa [e 7 (by decide)] at h7)⟩,fun h=>by obtain⟨k0,k2,k3,k4,k6⟩:=hc.f7 (by rwa [e 7 (by decide)] at h);exact⟨k8 0 k0,k8 2 k2,k8 3 k3,k8 4 k4,k8 6 k6⟩,fun _=>rfl,fun _=>k8 5 (hl 5 hw5)⟩⟩
end
theorem N8 {id:Nat} {Q:Exit->Act->World->Prop} {w w1:World} {a:Act} {L:List Oper} (hm:Tryz.prog.follows .mixedOrders=true) (hg:L.all (fun o=>o.guard.isNone)=true)
  (hbk:((List.range L.length).all fun i=>(L.getD i default).after.toList.all fun e=>!Region.binds .any e||decide (e.on<i))=true) (hl:L.length=9) (ha:a=FRa w undef undef undef undef undef undef undef undef)
  (hstep:WU (TP w w1) L 0)
  (hend:∀(u2 u3 u7 u8 u9 u10 u11 u12:Value) (w':World),Below w1.heap.size w1 w'->(∃b r v1 v2,u2=.pointer (some ⟨b,0,none⟩)/\w1.heap.size<=b/\w'.heap[b]?=some (.cells #[r,v1,v2,.slice none 0 0] 60 (0,0))/\GaQ w' v1)->u3=.int .i64 0->Q .normal (FRa w u2 u3 u7 u8 u9 u10 u11 u12) w'):(Code.region id L.toArray true).wp Tryz.prog Q a w1:=by
 refine Vq (I:=AI w w1) hm hg hbk (by rw[ha];exact EZ w w1 _) (fun listed a' w' hall hI=>?_) hstep
 obtain⟨u2,u3,u7,u8,u9,u10,u11,u12,rfl,hc⟩:=hI;have h:∀j,j<9->listed.getD j false=true:=fun j hj=>hall j (by omega)
 obtain⟨b,cs,q1,q2,q3,q4,q5⟩:=hc.f6 (h 6 (by decide))
 obtain⟨r,v1,v2,r1,r2,r3,r4⟩:=hc.f4 (h 4 (by decide))
 have hu:=q5 (h 7 (by decide))
 rw[r1] at hu;injection hu with hu
 subst hu;exact hend u2 u3 u7 u8 u9 u10 u11 u12 w' hc.b ⟨b,r,v1,v2,q1,q2,q3,r4⟩ ((hc.f8 (h 8 (by decide))).trans (hc.f5 (h 5 (by decide))))
end Go.Proofs.YtpieeldbamklkaaGreatDoor
