/- Texts put together: Ad Ze Zf Ha Pb Pc Wg. -/
import Derived.Test.YtpieeldbamklkaaGreatDoorY13
import Derived.Test.YtpieeldbamklkaaGreatDoorYWf
import Derived.Stop.LaidErr
set_option maxHeartbeats 8000000
set_option maxRecDepth 100000
open Go.Proofs.Tryz
namespace Go.Proofs.YtpieeldbamklkaaGreatDoor
open Go.RowKit Go.Shelf Num
theorem Zbx:OG fA:=⟨by decide,by decide,by decide,by decide,by decide,by decide,by decide,by decide,by decide,by decide,by decide,by decide,by decide,by decide⟩
theorem Zcg (w:World):Qj w fA [] []:=⟨Zbx,fun i r h=>by simp at h,rfl,Nl _,fun p h=>by simp at h,fun i r h=>by simp at h,rfl,fun p h=>by simp at h⟩
theorem Cl (args:Array Value) (w:World):(callFunc 92 args).run prog w=.ok (.enter 92 args) w:=by kernel_rfl
theorem Cm (args:Array Value) (w:World):(callFunc 95 args).run prog w=.ok (.enter 95 args) w:=by kernel_rfl
theorem Yy.cap {w:World} {B:Nat} {v:Value} {xs:List Pk} (h:Yy w B v xs):∃A c,v=.slice A xs.length c/\xs.length<=c:=by
 rcases h.2 with ⟨e,hn⟩|⟨g,cap,cur,e,-,-,hc,-⟩
 ·exact⟨none,0,by rw[e,hn],by rw[hn];exact Nl _⟩
 ·exact⟨_,_,e,hc⟩
theorem ZcQ {W:World} {b:Nat} {o1 o2 o3 o4 a1 a2 a3 a4:Value} (h:W.heap[b]?=some (.cells #[o1,o2,o3,o4] 60 (0,0))) :
  W.there b 0 4/\(W.setCells b 0 [a1,a2,a3,a4]).heap[b]?=some (.cells #[a1,a2,a3,a4] 60 (0,0))/\∀k,k≠b->(W.setCells b 0 [a1,a2,a3,a4]).heap[k]?=W.heap[k]?:=by
 refine⟨fun j hj=>⟨by rw[Zg h,Array.getElem?_eq_getElem (by show 0+j<4;omega)];rfl,Zn h _⟩,hset (o:=3) _ (hset (o:=2) _ (hset (o:=1) _ (hset (o:=0) _ h))),fun k hk=>?_⟩
 show ((((W.setCell ⟨b,0,none⟩ _).setCell ⟨b,1,none⟩ _).setCell ⟨b,2,none⟩ _).setCell ⟨b,3,none⟩ _).heap[k]?=_;exact (Below.heap_setCell _ _ _ k hk).trans ((Below.heap_setCell _ _ _ k hk).trans ((Below.heap_setCell _ _ _ k hk).trans (Below.heap_setCell _ _ _ k hk)))
theorem TQA.of {w W:World} {g cr:Nat} {rest:List Lot} {v1 v2:Value} (hD:Zce w g cr rest tkA fA.key fA.ins fA.day (canon (val fA.amt-val fA.fee)) v1 v2 W):TQA W (.tuple #[.agg (Sj g rest.length cr v1 v2),.int .i64 0]):=by
 obtain⟨zs,hz,B,ho1,ho2⟩:=hD.sold;rw[J7,Ci.1,Ci.2] at hz;rw[Cj hz,Ck] at ho1;exact⟨_,v1,v2,rfl,rfl,U7 ho2,Zbw ho1⟩
theorem Fo {w:World} {A:Option Addr} {bl bf bm:Nat} (hG:GE w) (hL:Yf w A xsA 2) (hbl:Blk w bl #[.slice A 2 2]) (hbf:Blk w bf (Zi fA)) (hbm:Blk w bm #[.int .i64 1]) :
  Calls prog 94 #[.slice A 2 2,.agg (Zi fA),.func (.func 92) #[] #[.pointer (some ⟨bl,0,none⟩),.pointer (some ⟨bf,0,none⟩),.pointer (some ⟨bm,0,none⟩)],.func (.func 95) #[] #[.pointer (some ⟨bf,0,none⟩)]] w fun e w'=>∃u,e=.returned u/\Below w.heap.size w w'/\TQA w' u:=by
 have hP:∀w:World,WB w none []:=fun w i r h=>by simp at h
 refine (Cg (A:=A) (n:=2) (c:=2) (FC:=Zi fA) (Q:=fun v W=>∃A3 c3,v=.slice A3 pkA.length c3/\pkA.length<=c3/\WB W A3 pkA) (TK:=fun _ taken=>taken=tkA) (BD:=False) (T:=canon (val fA.amt-val fA.fee)) (fid:=fA.key) (fins:=fA.ins) (day:=fA.day) hG Cl Cm (fun w' hb=>?_) (fun v w' hb hq=>?_) (fun v w' hb=>?_) rfl rfl rfl (by rw[J7];decide) (fun rest taken h=>?_)).mono ?_
 ·refine (Zbb (R:=fun v err w''=>err=0/\Below w'.heap.size w' w''/\∃A3 c3,v=.slice A3 pkA.length c3/\pkA.length<=c3/\WB w'' A3 pkA) ((hbl.below hb).c 0) ((hbf.below hb).c 5) ((hbf.below hb).c 9) ((hbm.below hb).c 0) ((hbf.below hb).c 18)
    ((Ce 2 0 (hG.below hb) (hL.below hb) (hP w') rfl (by decide) (fun p hp=>(by cases hp)) (by decide) Ch (by decide)).mono ?_)).mono ?_
  ·rintro e w2 ⟨v,zs,rfl,hb2,hz,h20,hk⟩;rw[Zcf ⟨zs,hz,h20,rfl⟩] at hk;obtain⟨A3,c3,e3,hc3⟩:=hk.cap;exact⟨_,_,rfl,rfl,hb2,A3,c3,e3,hc3,hk.pkAt e3⟩
  ·rintro e w2 ⟨v,err,rfl,rfl,hb2,hq⟩;exact⟨v,rfl,hb2,hq⟩
 ·obtain⟨A3,c3,rfl,hc3,hk⟩:=hq;have hcq:Zbs xsA fA.ins fA.q 1 [] pkA:=⟨ofL fA.ins xsA,List.Perm.refl _,fun _ _ _=>rfl,by decide +kernel⟩
  have hpq:=Zbt Ch hL.sm (by decide) hcq
  refine (Zb4 2 c3 (hG.below hb) (hL.below hb) (by decide) MJ hk rfl hc3 (by decide) hpq.sm Hp (Zbu MJ hpq Hp).1).mono ?_
  rintro e w2 ⟨g,cr,v,B,rfl,hT⟩;exact .inr ⟨_,_,g,cr,v,B,A8,rfl,hT⟩
 ·exact G8 v (hG.below hb) ((hbf.below hb).c 10) ((hbf.below hb).c 11) (by decide) (by decide)
 ·subst h;rw[J7];exact⟨by decide,by decide +kernel⟩
 ·rintro e w2 (⟨err,-,h2,-⟩|⟨rest,taken,rfl,g,cr,v1,v2,rfl,h2⟩)
  ·exact h2.elim
  ·exact⟨_,rfl,h2.below,.of h2⟩
theorem Zch {w:World} {A:Option Addr} (hG:GE w) (hL:Yf w A xsA 2):Calls prog 35 #[.slice A 2 2,.agg (Zi fA),.int .i64 1] w fun e w'=>∃u,e=.returned u/\Below w.heap.size w w'/\TQA w' u:=by
 obtain⟨g1,g2,g3,g4⟩:=VH w (.cells #[.slice A 2 2] 44) (.cells (Zi fA) 48);obtain⟨k1,k2,k3,k4⟩:=VH ((w.alloc (.cells #[.slice A 2 2] 44)).alloc (.cells (Zi fA) 48)) (.cells #[.int .i64 1] 3) (.cells RZ 60);rw[g4] at k1 k2 k4;have hb0:=bto g3 k3;have XL:Hid (Blk ((((w.alloc (.cells #[.slice A 2 2] 44)).alloc (.cells (Zi fA) 48)).alloc (.cells #[.int .i64 1] 3)).alloc (.cells RZ 60)) w.heap.size #[.slice A 2 2]):=⟨_,Zt g1 k3⟩;have XFF:Hid (Blk ((((w.alloc (.cells #[.slice A 2 2] 44)).alloc (.cells (Zi fA) 48)).alloc (.cells #[.int .i64 1] 3)).alloc (.cells RZ 60)) (w.heap.size+1) (Zi fA)):=⟨_,Zt g2 k3⟩;have XM:Hid (Blk ((((w.alloc (.cells #[.slice A 2 2] 44)).alloc (.cells (Zi fA) 48)).alloc (.cells #[.int .i64 1] 3)).alloc (.cells RZ 60)) (w.heap.size+1+1) #[.int .i64 1]):=⟨_,k1⟩;have HR:=Lh k2;have K1:=Lh (Zbk (f:=fA) (ps:=[]) 2 4 (hG.below hb0) (hL.below hb0) (fun w' hb'=>(DY (hG.below (bto hb0 hb')) (Zcg _) rfl).mono fun _ _ ⟨⟨E,h1,h3,_⟩,h2⟩=>⟨⟨E,h1,h3⟩,h2⟩))
 have HL:=Lh hL;have HB0:=Lh hb0;have HI:Hid ((prog.info? 60).map (·.size)=some RZ.size):=Xu
 have q0:((((w.alloc (.cells #[.slice A 2 2] 44)).alloc (.cells (Zi fA) 48)).alloc (.cells #[.int .i64 1] 3)).alloc (.cells RZ 60)).cell? ⟨w.heap.size,0,none⟩=some (.slice A 2 2):=XL.out.c 0;clear g1 g2 g3 g4 k1 k2 k3 k4 hb0 hL;go_enter func35,ntmps35;go_wp2_with (refine Zj rfl 48 (.tmp 4) rfl (w.heap.size+1) rfl (Zi fA) XFF.out underlying48 rfl Zs ?_)
 (refine K1.out.mono ?_;rintro e w1 ⟨⟨E1,rfl,hE1,hE2⟩,hb1⟩)
 have hz:=hE1 MJ A7 rfl;subst hz;have CN:=Lh (Zbn w1);have q2:w1.cell? ⟨w.heap.size+1+1,0,none⟩=some (.int .i64 1):=(XM.out.below hb1).c 0;have HBw1:=Lh (bto HB0.out hb1);have HRw1:=Lh (Zt HR.out hb1);have XL1:=Lh (XL.out.below hb1);have XF1:=Lh (XFF.out.below hb1);have XM1:=Lh (XM.out.below hb1);clear hb1 hE1 hE2 q0 K1 HR XL XFF XM HB0;go_wp2_with fail
 refine CN.out.mono ?_
 rintro e w4 ⟨⟨s,rfl⟩,hb2⟩;have HBw4:=Lh (bto HBw1.out hb2);have HRw4:=Lh (Zt HRw1.out hb2);have XL4:=Lh (XL1.out.below hb2);have XF4:=Lh (XF1.out.below hb2);have XM4:=Lh (XM1.out.below hb2);have q3:w4.cell? ⟨w.heap.size+1+1,0,none⟩=some (.int .i64 1):=XM4.out.c 0;have q0:w4.cell? ⟨w.heap.size,0,none⟩=some (.slice A 2 2):=XL4.out.c 0;have CD:=Lh (Fo (bl:=w.heap.size) (bf:=w.heap.size+1) (bm:=w.heap.size+1+1) (hG.below HBw4.out) (HL.out.below HBw4.out) XL4.out XF4.out XM4.out);clear hb2 CN HRw1 XL1 XF1 XM1 HBw1 q2;go_wp2_with (refine Zj rfl 48 (.tmp 4) rfl (w.heap.size+1) rfl (Zi fA) XF4.out underlying48 rfl Zs ?_)
 refine CD.out.mono ?_
 rintro e w5 ⟨u,rfl,hb5,a1,a2,a3,rfl,o1,o3,hga⟩;have HGA:=Lh hga;have HO1:=Lh o1;have HO3:=Lh o3;have HR5:=Zt HRw4.out hb5;obtain⟨r1,r2,r3⟩:=ZcQ (a1:=a1) (a2:=a2) (a3:=a3) (a4:=.slice none 0 0) HR5;have HTH:Hid (w5.there (w.heap.size+1+1+1) 0 4):=r1;obtain⟨wE,hwE⟩:∃wE,wE=w5.setCells (w.heap.size+1+1+1) 0 [a1,a2,a3,.slice none 0 0]:=⟨_,rfl⟩
 have HWE:=Lh hwE;rw[<-hwE] at r2 r3;have HRR:Hid (wE.rangeAt (w.heap.size+1+1+1) 0 [a1,a2,a3,.slice none 0 0]):=Z9 r2;have HGE:Hid (GaQ wE a2):=by
  obtain⟨g,cap,cur,e,h1,h2⟩:=hga;refine⟨g,cap,cur,e,(r3 g (fun e=>?_)).trans h1,h2⟩
  rw[e,HR5] at h1;injection h1 with h1
  injection h1 with _ h1 _
  exact absurd h1 (by decide)
 have HBE:Hid (Below w.heap.size w wE):=by rw[hwE];exact Lib.below_setCells _ (by omega) _ _ (bto HBw4.out hb5)
 have HONE:Hid ((#[a1,a2,a3,.slice none 0 0]:Array Value).all (·.oneCell')=true):=all_oneCell_toArray (cs:=[a1,a2,a3,.slice none 0 0]) (fun v hv=>by
  simp only[List.mem_cons,List.not_mem_nil,or_false] at hv;rcases hv with rfl|rfl|rfl|rfl
  ·exact HO1.out
  ·obtain⟨g,cap,cur,rfl,-⟩:=HGA.out;rfl
  ·exact HO3.out
  ·rfl)
 clear hwE r1 r2 r3 hga o1 o3 hb5 HR5 CD q0 q3;go_wp2_with (refine wpList_store_mid rfl 60 (.tmp 6) (.tmp 39) rfl (w.heap.size+1+1+1) 0 #[a1,a2,a3,.slice none 0 0] rfl rfl HTH.out HI.out HONE.out ?_;rw[<-HWE.out]);refine bodyPost_ret (v:=.tuple #[.agg #[a1,a2,a3,.slice none 0 0],.int .i64 0]) ?_ rfl ?_
 ·exact results_cell_tmp Tryz.f35 6 7 60 #[a1,a2,a3,.slice none 0 0] (.int .i64 0) rfl rfl rfl HRR.out underlying60 rfl HI.out
 exact⟨_,rfl,HBE.out,a1,a2,a3,rfl,HO1.out,HO3.out,HGE.out⟩
theorem Zci (w:World):Calls prog 41 #[] w fun e w'=>∃b,e=.returned (.slice (some ⟨b,0,none⟩) 2 2)/\Below w.heap.size w w'/\Yf w' (some ⟨b,0,none⟩) xsA 2:=by
 have hb:=Zb w (.cells #[.string ⟨#[97,47,49]⟩,.string ⟨#[97,98,99]⟩,.int .i64 5,.int .i64 5,.string ⟨#[49,48]⟩,.string ⟨#[49,48,48]⟩,.string ⟨#[]⟩,.string ⟨#[98,47,49]⟩,.string ⟨#[97,98,99]⟩,.int .i64 6,.int .i64 6,.string ⟨#[53]⟩,.string ⟨#[56,48]⟩,.string ⟨#[]⟩] 130);have hn:=ZG w (.cells #[.string ⟨#[97,47,49]⟩,.string ⟨#[97,98,99]⟩,.int .i64 5,.int .i64 5,.string ⟨#[49,48]⟩,.string ⟨#[49,48,48]⟩,.string ⟨#[]⟩,.string ⟨#[98,47,49]⟩,.string ⟨#[97,98,99]⟩,.int .i64 6,.int .i64 6,.string ⟨#[53]⟩,.string ⟨#[56,48]⟩,.string ⟨#[]⟩] 130);obtain⟨W,hW⟩:∃W,W=w.alloc (.cells #[.string ⟨#[97,47,49]⟩,.string ⟨#[97,98,99]⟩,.int .i64 5,.int .i64 5,.string ⟨#[49,48]⟩,.string ⟨#[49,48,48]⟩,.string ⟨#[]⟩,.string ⟨#[98,47,49]⟩,.string ⟨#[97,98,99]⟩,.int .i64 6,.int .i64 6,.string ⟨#[53]⟩,.string ⟨#[56,48]⟩,.string ⟨#[]⟩] 130):=⟨_,rfl⟩
 rw[<-hW] at hb hn;have HB:=Lh hb;have HN:=Lh hn;have HW:=Lh hW;clear hb hn hW;go_enter func41,ntmps41;go_wp2_with fail;rw[<-HW.out];go_ret;refine⟨w.heap.size,rfl,HB.out,⟨rfl,by decide,fun x hx=>?_,fun i x hx=>⟨w.heap.size,0,rfl,(Ag.1 HN.out).1,?_⟩⟩⟩
 ·simp[xsA] at hx;rcases hx with rfl|rfl<;>exact⟨by decide,by decide,by decide,by decide,by decide⟩
 ·have hi:=(Lg.1 hx).1;have hi:i=0∨i=1:=by simp[xsA] at hi;omega
  rcases hi with rfl|rfl
  ·simp[xsA] at hx;subst hx;exact⟨Zg HN.out 0,Zg HN.out 1,Zg HN.out 2,Zg HN.out 3,Zg HN.out 4,Zg HN.out 5,Zg HN.out 6⟩
  ·simp[xsA] at hx;subst hx;exact⟨Zg HN.out 7,Zg HN.out 8,Zg HN.out 9,Zg HN.out 10,Zg HN.out 11,Zg HN.out 12,Zg HN.out 13⟩
def LtQ (w:World) (u:Value):Prop:=∃b,u=.slice (some ⟨b,0,none⟩) 2 2/\Yf w (some ⟨b,0,none⟩) xsA 2
theorem LtQ.below {w w':World} {u:Value} (h:LtQ w u) (hb:Below w.heap.size w w'):LtQ w' u:=by
 obtain⟨b,e,h⟩:=h;exact⟨b,e,h.below hb⟩
theorem TQA.below {w w':World} {u:Value} (h:TQA w u) (hb:Below w.heap.size w w'):TQA w' u:=by
 obtain⟨r,v1,v2,e,h1,h2,h3⟩:=h;exact⟨r,v1,v2,e,h1,h2,h3.below hb⟩
def AQA (w:World) (u:Value):Prop:=∃r v1 v2,u=.agg #[r,v1,v2,.slice none 0 0]/\r.oneCell'=true/\v2.oneCell'=true/\GaQ w v1
theorem AQA.below {w w':World} {u:Value} (h:AQA w u) (hb:Below w.heap.size w w'):AQA w' u:=by
 obtain⟨r,v1,v2,e,h1,h2,h3⟩:=h;exact⟨r,v1,v2,e,h1,h2,h3.below hb⟩
theorem GaQ.oth {w w':World} {b:Nat} {cs:Array Value} {v:Value} (h:GaQ w v) (hb:w.heap[b]?=some (.cells cs 60 (0,0))) (hx:∀k,k≠b->w'.heap[k]?=w.heap[k]?):GaQ w' v:=by
 obtain⟨g,cap,cur,e,h1,h2⟩:=h;refine⟨g,cap,cur,e,(hx g (fun e=>?_)).trans h1,h2⟩
 subst e;rw[hb] at h1;injection h1 with h1
 injection h1 with _ h1 _
 exact absurd h1 (by decide)
theorem TQA.oth {w w':World} {b:Nat} {cs:Array Value} {v:Value} (h:TQA w v) (hb:w.heap[b]?=some (.cells cs 60 (0,0))) (hx:∀k,k≠b->w'.heap[k]?=w.heap[k]?):TQA w' v:=by
 obtain⟨r,v1,v2,e,h1,h2,h3⟩:=h;exact⟨r,v1,v2,e,h1,h2,h3.oth hb hx⟩
theorem AQA.oth {w w':World} {b:Nat} {cs:Array Value} {v:Value} (h:AQA w v) (hb:w.heap[b]?=some (.cells cs 60 (0,0))) (hx:∀k,k≠b->w'.heap[k]?=w.heap[k]?):AQA w' v:=by
 obtain⟨r,v1,v2,e,h1,h2,h3⟩:=h;exact⟨r,v1,v2,e,h1,h2,h3.oth hb hx⟩
def FRa (w:World) (u2 u3 u7 u8 u9 u10 u11 u12:Value):Act:=⟨#[.bool false,.pointer (some ⟨w.heap.size,0,none⟩),u2,u3,undef,undef,.agg (Zi fA),u7,u8,u9,u10,u11,u12,undef,undef,undef,undef,undef,undef,undef,undef,undef,undef,undef,undef,undef,undef,undef,undef,undef,undef,undef,undef,undef,undef,undef,undef,undef,undef,undef,undef,undef,undef,undef,undef,undef,undef,undef,undef,undef,undef,undef,undef,undef,undef,undef,undef,undef,undef,undef,undef],[]⟩
structure AF (w w1:World) (L:Array Bool) (w':World) (u2 u3 u7 u8 u9 u10 u11 u12:Value):Prop where
 b:Below w1.heap.size w1 w'
 f0:L.getD 0 false=true->L.getD 7 false=false->LtQ w' u8
 f1:L.getD 1 false=true->u9=.agg (Zi fA)
 f2:L.getD 2 false=true->L.getD 7 false=false->TQA w' u10
 f3:L.getD 3 false=true->TQA w' u7
 f4:L.getD 4 false=true->AQA w' u11
 f5:L.getD 5 false=true->u12=.int .i64 0
 f6:L.getD 6 false=true->∃b cs,u2=.pointer (some ⟨b,0,none⟩)/\w1.heap.size<=b/\w'.heap[b]?=some (.cells cs 60 (0,0))/\cs.size=4/\(L.getD 7 false=true->u11=.agg cs)
 f7:L.getD 7 false=true->L.getD 0 false=true/\L.getD 2 false=true/\L.getD 3 false=true/\L.getD 4 false=true/\L.getD 6 false=true
 f8:L.getD 8 false=true->u3=u12
 f9:L.getD 8 false=true->L.getD 5 false=true
def AI (w w1:World) (L:Array Bool) (a:Act) (w':World):Prop:=∃u2 u3 u7 u8 u9 u10 u11 u12:Value,a=FRa w u2 u3 u7 u8 u9 u10 u11 u12/\AF w w1 L w' u2 u3 u7 u8 u9 u10 u11 u12
def TS (w w1:World) (o:Oper) (i:Nat):Prop:=∀listed a w',AI w w1 listed a w'->listed.getD i true=false->(∀j,ZM o j->listed.getD j false=true)->o.wp prog a w' (AI w w1 (listed.setIfInBounds i true)) (YY fun _ _=>False)
theorem Cn (w w1:World) (n:Nat):AI w w1 (Array.replicate n false) (FRa w undef undef undef undef undef undef undef undef) { w1 with drawn:=w1.drawn+1 }:=by
 have h:∀j,(Array.replicate n false).getD j false=false:=fun j=>by
  rw[Array.getD_eq_getD_getElem?,Array.getElem?_replicate]
  split<;>rfl
 refine⟨undef,undef,undef,undef,undef,undef,undef,undef,rfl,⟨⟨rfl,rfl,rfl,Nl _,fun _ _=>rfl⟩,fun e=>?_,fun e=>?_,fun e=>?_,fun e=>?_,fun e=>?_,fun e=>?_,fun e=>?_,fun e=>?_,fun e=>?_,fun e=>?_⟩⟩<;>exact absurd e (by rw[h];decide)
section
variable {w w1:World} {o:Oper}
theorem as0 (hrun:∀(a:Act) (w':World),(execOp a.eval o).run prog w'=.ok (.enter 41 #[]) w') (hd:o.dst=some 8):TS w w1 o 0:=by
 intro L a w' hI hi hl;obtain⟨u2,u3,u7,u8,u9,u10,u11,u12,rfl,hc⟩:=hI;have e:∀j,j≠0->(L.setIfInBounds 0 true).getD j false=L.getD j false:=fun j hj=>getD_set_ne false (Ne.symm hj)
 have k8:∀j,L.getD j false=true->(L.setIfInBounds 0 true).getD j false=true:=fun j hj=>getD_set_true hj
 refine Ys (hrun _ w') ?_;refine (Zci w').mono ?_;rintro ex w2 ⟨b,rfl,hB,hM⟩;refine⟨_,rfl,?_⟩;rw[hd];exact⟨u2,u3,u7,.slice (some ⟨b,0,none⟩) 2 2,u9,u10,u11,u12,rfl,⟨bto hc.b hB,fun _ _=>⟨b,rfl,hM⟩,fun h=>hc.f1 (by rwa [e 1 (by decide)] at h),fun h h7=>(hc.f2 (by rwa [e 2 (by decide)] at h) (by rwa [e 7 (by decide)] at h7)).below hB,fun h=>(hc.f3 (by rwa [e 3 (by decide)] at h)).below hB,fun h=>(hc.f4 (by rwa [e 4 (by decide)] at h)).below hB,fun h=>hc.f5 (by rwa [e 5 (by decide)] at h),fun h=>by obtain⟨b,cs,q1,q2,q3,q4,q5⟩:=hc.f6 (by rwa [e 6 (by decide)] at h);exact⟨b,cs,q1,q2,Zt q3 hB,q4,fun h7=>q5 (by rwa [e 7 (by decide)] at h7)⟩,fun h=>by obtain⟨k0,k2,k3,k4,k6⟩:=hc.f7 (by rwa [e 7 (by decide)] at h);exact⟨k8 0 k0,k8 2 k2,k8 3 k3,k8 4 k4,k8 6 k6⟩,fun h=>hc.f8 (by rwa [e 8 (by decide)] at h),fun h=>k8 5 (hc.f9 (by rwa [e 8 (by decide)] at h))⟩⟩
theorem as1 (hX:Blk w1 w.heap.size (Zi fA)) (hop:o.op=.load 48 (.tmp 1)) (hd:o.dst=some 9):TS w w1 o 1:=by
 intro L a w' hI hi hl;obtain⟨u2,u3,u7,u8,u9,u10,u11,u12,rfl,hc⟩:=hI;have e:∀j,j≠1->(L.setIfInBounds 1 true).getD j false=L.getD j false:=fun j hj=>getD_set_ne false (Ne.symm hj)
 have k8:∀j,L.getD j false=true->(L.setIfInBounds 1 true).getD j false=true:=fun j hj=>getD_set_true hj
 refine Zz (Wv (P:=prog) 48 (.tmp 1) hop w.heap.size rfl (Zi fA) (hX.below hc.b) underlying48 rfl Zs) ?_;rw[hd];exact⟨u2,u3,u7,u8,.agg (Zi fA),u10,u11,u12,rfl,⟨hc.b,fun h h7=>hc.f0 (by rwa [e 0 (by decide)] at h) (by rwa [e 7 (by decide)] at h7),fun _=>rfl,fun h h7=>hc.f2 (by rwa [e 2 (by decide)] at h) (by rwa [e 7 (by decide)] at h7),fun h=>hc.f3 (by rwa [e 3 (by decide)] at h),fun h=>hc.f4 (by rwa [e 4 (by decide)] at h),fun h=>hc.f5 (by rwa [e 5 (by decide)] at h),fun h=>by obtain⟨b,cs,q1,q2,q3,q4,q5⟩:=hc.f6 (by rwa [e 6 (by decide)] at h);exact⟨b,cs,q1,q2,q3,q4,fun h7=>q5 (by rwa [e 7 (by decide)] at h7)⟩,fun h=>by obtain⟨k0,k2,k3,k4,k6⟩:=hc.f7 (by rwa [e 7 (by decide)] at h);exact⟨k8 0 k0,k8 2 k2,k8 3 k3,k8 4 k4,k8 6 k6⟩,fun h=>hc.f8 (by rwa [e 8 (by decide)] at h),fun h=>k8 5 (hc.f9 (by rwa [e 8 (by decide)] at h))⟩⟩
theorem as2 (hG:GE w1) (hw0:ZM o 0) (hw1:ZM o 1) (hrun:∀(a:Act) (w':World) (u v:Value),a.eval (.tmp 8)=u->a.eval (.tmp 9)=v->(execOp a.eval o).run prog w'=.ok (.enter 35 #[u,v,.int .i64 1]) w') (hd:o.dst=some 10):TS w w1 o 2:=by
 intro L a w' hI hi hl;obtain⟨u2,u3,u7,u8,u9,u10,u11,u12,rfl,hc⟩:=hI;have e:∀j,j≠2->(L.setIfInBounds 2 true).getD j false=L.getD j false:=fun j hj=>getD_set_ne false (Ne.symm hj)
 have k8:∀j,L.getD j false=true->(L.setIfInBounds 2 true).getD j false=true:=fun j hj=>getD_set_true hj
 have h7:L.getD 7 false=false:=by
  cases hx:L.getD 7 false with
  | false=>rfl
  | true=>have:=(hc.f7 hx).2.1;rw[Yj hi] at this;cases this
 obtain⟨b,q1,q2⟩:=hc.f0 (hl 0 hw0) h7;have hr:=hrun (FRa w u2 u3 u7 u8 u9 u10 u11 u12) w' _ _ q1 (hc.f1 (hl 1 hw1));refine Ys hr ?_;refine (Zch (hG.below hc.b) q2).mono ?_;rintro ex w2 ⟨u,rfl,hB,hM⟩;refine⟨u,rfl,?_⟩;rw[hd];exact⟨u2,u3,u7,u8,u9,u,u11,u12,rfl,⟨bto hc.b hB,fun h h7=>(hc.f0 (by rwa [e 0 (by decide)] at h) (by rwa [e 7 (by decide)] at h7)).below hB,fun h=>hc.f1 (by rwa [e 1 (by decide)] at h),fun _ _=>hM,fun h=>(hc.f3 (by rwa [e 3 (by decide)] at h)).below hB,fun h=>(hc.f4 (by rwa [e 4 (by decide)] at h)).below hB,fun h=>hc.f5 (by rwa [e 5 (by decide)] at h),fun h=>by obtain⟨b,cs,q1,q2,q3,q4,q5⟩:=hc.f6 (by rwa [e 6 (by decide)] at h);exact⟨b,cs,q1,q2,Zt q3 hB,q4,fun h7=>q5 (by rwa [e 7 (by decide)] at h7)⟩,fun h=>by obtain⟨k0,k2,k3,k4,k6⟩:=hc.f7 (by rwa [e 7 (by decide)] at h);exact⟨k8 0 k0,k8 2 k2,k8 3 k3,k8 4 k4,k8 6 k6⟩,fun h=>hc.f8 (by rwa [e 8 (by decide)] at h),fun h=>k8 5 (hc.f9 (by rwa [e 8 (by decide)] at h))⟩⟩
theorem as3 (hw2:ZM o 2) (hrun:∀(a:Act) (w':World) (v:Value),a.eval (.tmp 10)=v->(execOp a.eval o).run prog w'=.ok (.value v) w') (hd:o.dst=some 7):TS w w1 o 3:=by
 intro L a w' hI hi hl;obtain⟨u2,u3,u7,u8,u9,u10,u11,u12,rfl,hc⟩:=hI;have e:∀j,j≠3->(L.setIfInBounds 3 true).getD j false=L.getD j false:=fun j hj=>getD_set_ne false (Ne.symm hj)
 have k8:∀j,L.getD j false=true->(L.setIfInBounds 3 true).getD j false=true:=fun j hj=>getD_set_true hj
 have h7:L.getD 7 false=false:=by
  cases hx:L.getD 7 false with
  | false=>rfl
  | true=>have:=(hc.f7 hx).2.2.1;rw[Yj hi] at this;cases this
 refine Zz (hrun _ w' _ rfl) ?_;rw[hd];exact⟨u2,u3,u10,u8,u9,u10,u11,u12,rfl,⟨hc.b,fun h h7=>hc.f0 (by rwa [e 0 (by decide)] at h) (by rwa [e 7 (by decide)] at h7),fun h=>hc.f1 (by rwa [e 1 (by decide)] at h),fun h h7=>hc.f2 (by rwa [e 2 (by decide)] at h) (by rwa [e 7 (by decide)] at h7),fun _=>hc.f2 (hl 2 hw2) h7,fun h=>hc.f4 (by rwa [e 4 (by decide)] at h),fun h=>hc.f5 (by rwa [e 5 (by decide)] at h),fun h=>by obtain⟨b,cs,q1,q2,q3,q4,q5⟩:=hc.f6 (by rwa [e 6 (by decide)] at h);exact⟨b,cs,q1,q2,q3,q4,fun h7=>q5 (by rwa [e 7 (by decide)] at h7)⟩,fun h=>by obtain⟨k0,k2,k3,k4,k6⟩:=hc.f7 (by rwa [e 7 (by decide)] at h);exact⟨k8 0 k0,k8 2 k2,k8 3 k3,k8 4 k4,k8 6 k6⟩,fun h=>hc.f8 (by rwa [e 8 (by decide)] at h),fun h=>k8 5 (hc.f9 (by rwa [e 8 (by decide)] at h))⟩⟩
theorem as4 (hw3:ZM o 3) (hrun:∀(a:Act) (w':World) (v b:Value),a.eval (.tmp 7)=.tuple #[v,b]->(execOp a.eval o).run prog w'=.ok (.value v) w') (hd:o.dst=some 11):TS w w1 o 4:=by
 intro L a w' hI hi hl;obtain⟨u2,u3,u7,u8,u9,u10,u11,u12,rfl,hc⟩:=hI;have e:∀j,j≠4->(L.setIfInBounds 4 true).getD j false=L.getD j false:=fun j hj=>getD_set_ne false (Ne.symm hj)
 have k8:∀j,L.getD j false=true->(L.setIfInBounds 4 true).getD j false=true:=fun j hj=>getD_set_true hj
 have h7:L.getD 7 false=false:=by
  cases hx:L.getD 7 false with
  | false=>rfl
  | true=>have:=(hc.f7 hx).2.2.2.1;rw[Yj hi] at this;cases this
 obtain⟨r,v1,v2,q1,q2,q3,q4⟩:=hc.f3 (hl 3 hw3);refine Zz (hrun _ w' _ _ q1) ?_;rw[hd];exact⟨u2,u3,u7,u8,u9,u10,.agg #[r,v1,v2,.slice none 0 0],u12,rfl,⟨hc.b,fun h h7=>hc.f0 (by rwa [e 0 (by decide)] at h) (by rwa [e 7 (by decide)] at h7),fun h=>hc.f1 (by rwa [e 1 (by decide)] at h),fun h h7=>hc.f2 (by rwa [e 2 (by decide)] at h) (by rwa [e 7 (by decide)] at h7),fun h=>hc.f3 (by rwa [e 3 (by decide)] at h),fun _=>⟨r,v1,v2,rfl,q2,q3,q4⟩,fun h=>hc.f5 (by rwa [e 5 (by decide)] at h),fun h=>by obtain⟨b,cs,r1,r2,r3,r4,r5⟩:=hc.f6 (by rwa [e 6 (by decide)] at h);exact⟨b,cs,r1,r2,r3,r4,fun h9=>(by rw[e 7 (by decide),h7] at h9;cases h9)⟩,fun h=>by obtain⟨k0,k2,k3,k4,k6⟩:=hc.f7 (by rwa [e 7 (by decide)] at h);exact⟨k8 0 k0,k8 2 k2,k8 3 k3,k8 4 k4,k8 6 k6⟩,fun h=>hc.f8 (by rwa [e 8 (by decide)] at h),fun h=>k8 5 (hc.f9 (by rwa [e 8 (by decide)] at h))⟩⟩
theorem as5 (hw3:ZM o 3) (hrun:∀(a:Act) (w':World) (v b:Value),a.eval (.tmp 7)=.tuple #[v,b]->(execOp a.eval o).run prog w'=.ok (.value b) w') (hd:o.dst=some 12):TS w w1 o 5:=by
 intro L a w' hI hi hl;obtain⟨u2,u3,u7,u8,u9,u10,u11,u12,rfl,hc⟩:=hI;have e:∀j,j≠5->(L.setIfInBounds 5 true).getD j false=L.getD j false:=fun j hj=>getD_set_ne false (Ne.symm hj)
 have k8:∀j,L.getD j false=true->(L.setIfInBounds 5 true).getD j false=true:=fun j hj=>getD_set_true hj
 obtain⟨r,v1,v2,q1,q2,q3,q4⟩:=hc.f3 (hl 3 hw3);refine Zz (hrun _ w' _ _ q1) ?_;rw[hd];exact⟨u2,u3,u7,u8,u9,u10,u11,.int .i64 0,rfl,⟨hc.b,fun h h7=>hc.f0 (by rwa [e 0 (by decide)] at h) (by rwa [e 7 (by decide)] at h7),fun h=>hc.f1 (by rwa [e 1 (by decide)] at h),fun h h7=>hc.f2 (by rwa [e 2 (by decide)] at h) (by rwa [e 7 (by decide)] at h7),fun h=>hc.f3 (by rwa [e 3 (by decide)] at h),fun h=>hc.f4 (by rwa [e 4 (by decide)] at h),fun _=>rfl,fun h=>by obtain⟨b,cs,q1,q2,q3,q4,q5⟩:=hc.f6 (by rwa [e 6 (by decide)] at h);exact⟨b,cs,q1,q2,q3,q4,fun h7=>q5 (by rwa [e 7 (by decide)] at h7)⟩,fun h=>by obtain⟨k0,k2,k3,k4,k6⟩:=hc.f7 (by rwa [e 7 (by decide)] at h);exact⟨k8 0 k0,k8 2 k2,k8 3 k3,k8 4 k4,k8 6 k6⟩,fun h=>(by have h9:=hc.f9 (by rwa [e 8 (by decide)] at h);rw[Yj hi] at h9;cases h9),fun h=>k8 5 (hc.f9 (by rwa [e 8 (by decide)] at h))⟩⟩
theorem as6 (hrun:∀(a:Act) (w':World),(execOp a.eval o).run prog w'=.ok (.value (.pointer (some ⟨w'.heap.size,0,none⟩))) (w'.alloc (.cells #[.slice none 0 0,.slice none 0 0,.slice none 0 0,.slice none 0 0] 60))) (hd:o.dst=some 2):TS w w1 o 6:=by
 intro L a w' hI hi hl;obtain⟨u2,u3,u7,u8,u9,u10,u11,u12,rfl,hc⟩:=hI;have e:∀j,j≠6->(L.setIfInBounds 6 true).getD j false=L.getD j false:=fun j hj=>getD_set_ne false (Ne.symm hj)
 have k8:∀j,L.getD j false=true->(L.setIfInBounds 6 true).getD j false=true:=fun j hj=>getD_set_true hj
 have hB:=Zb w' (.cells #[.slice none 0 0,.slice none 0 0,.slice none 0 0,.slice none 0 0] 60);have h7:L.getD 7 false=false:=by
  cases hx:L.getD 7 false with
  | false=>rfl
  | true=>have:=(hc.f7 hx).2.2.2.2;rw[Yj hi] at this;cases this
 refine Zz (hrun _ w') ?_;rw[hd];exact⟨.pointer (some ⟨w'.heap.size,0,none⟩),u3,u7,u8,u9,u10,u11,u12,rfl,⟨bto hc.b hB,fun h h7=>(hc.f0 (by rwa [e 0 (by decide)] at h) (by rwa [e 7 (by decide)] at h7)).below hB,fun h=>hc.f1 (by rwa [e 1 (by decide)] at h),fun h h7=>(hc.f2 (by rwa [e 2 (by decide)] at h) (by rwa [e 7 (by decide)] at h7)).below hB,fun h=>(hc.f3 (by rwa [e 3 (by decide)] at h)).below hB,fun h=>(hc.f4 (by rwa [e 4 (by decide)] at h)).below hB,fun h=>hc.f5 (by rwa [e 5 (by decide)] at h),fun _=>⟨w'.heap.size,_,rfl,hc.b.size,ZG w' _,rfl,fun h9=>by rw[e 7 (by decide),h7] at h9;cases h9⟩,fun h=>by obtain⟨k0,k2,k3,k4,k6⟩:=hc.f7 (by rwa [e 7 (by decide)] at h);exact⟨k8 0 k0,k8 2 k2,k8 3 k3,k8 4 k4,k8 6 k6⟩,fun h=>hc.f8 (by rwa [e 8 (by decide)] at h),fun h=>k8 5 (hc.f9 (by rwa [e 8 (by decide)] at h))⟩⟩
theorem as7 (hw0:ZM o 0) (hw2:ZM o 2) (hw3:ZM o 3) (hw4:ZM o 4) (hw6:ZM o 6) (hop:o.op=.store 60 (.tmp 2) (.tmp 11)) (hd:o.dst=none) (hI:(prog.info? 60).map (·.size)=some 4):TS w w1 o 7:=by
 intro L a w' hI hi hl;obtain⟨u2,u3,u7,u8,u9,u10,u11,u12,rfl,hc⟩:=hI;have e:∀j,j≠7->(L.setIfInBounds 7 true).getD j false=L.getD j false:=fun j hj=>getD_set_ne false (Ne.symm hj)
 have k8:∀j,L.getD j false=true->(L.setIfInBounds 7 true).getD j false=true:=fun j hj=>getD_set_true hj
 obtain⟨b,cs,q1,q2,q3,q4,-⟩:=hc.f6 (hl 6 hw6);obtain⟨r,v1,v2,r1,r2,r3,r4⟩:=hc.f4 (hl 4 hw4)
 have hone:(#[r,v1,v2,.slice none 0 0]:Array Value).all (·.oneCell')=true:=all_oneCell_toArray (cs:=[r,v1,v2,.slice none 0 0]) (fun v hv=>by
  simp only[List.mem_cons,List.not_mem_nil,or_false] at hv;rcases hv with rfl|rfl|rfl|rfl
  ·exact r2
  ·obtain⟨g,cap,cur,rfl,-⟩:=r4;rfl
  ·exact r3
  ·rfl)
 have hrun:=run_storeVar_row (P:=prog) w' b 60 60 cs #[r,v1,v2,.slice none 0 0] q3 hI q4 hone;have hx:∀k,k≠b->(w'.setRow b #[r,v1,v2,.slice none 0 0]).heap[k]?=w'.heap[k]?:=fun k hk=>setRow_other w' b k _ hk
 have hB:Below w1.heap.size w1 (w'.setRow b #[r,v1,v2,.slice none 0 0]):=⟨hc.b.os,hc.b.tape,hc.b.output,Nt hc.b.size (by simp[World.setRow]),fun c hlt=>(hx c (by omega)).trans (hc.b.block c hlt)⟩
 have hself:(L.setIfInBounds 7 true).getD 7 false=true:=by
  by_cases hlt:7<L.size
  ·rw[Array.getD_eq_getD_getElem?,Array.getElem?_setIfInBounds,if_pos rfl,if_pos hlt];rfl
  ·rw[Array.getD_eq_getD_getElem?,Array.getElem?_eq_none (by omega)] at hi
   cases hi
 refine UA (w':=w'.setRow b #[r,v1,v2,.slice none 0 0]) ?_ ?_
 ·have hx2:(FRa w u2 u3 u7 u8 u9 u10 u11 u12).eval (.tmp 2)=.pointer (some ⟨b,0,none⟩):=q1;have hy:(FRa w u2 u3 u7 u8 u9 u10 u11 u12).eval (.tmp 11)=.agg #[r,v1,v2,.slice none 0 0]:=r1;unfold execOp;simp only[hop,hx2,hy,Instr.storeAt,Instr.sureAddr,Sem.run_bind,Sem.run_pure,Result.andThen_ok,hrun]
 rw[hd];exact⟨u2,u3,u7,u8,u9,u10,u11,u12,rfl,⟨hB,fun _ h7=>(by rw[hself] at h7;cases h7),fun h=>hc.f1 (by rwa [e 1 (by decide)] at h),fun _ h7=>(by rw[hself] at h7;cases h7),fun h=>(hc.f3 (by rwa [e 3 (by decide)] at h)).oth q3 hx,fun h=>(hc.f4 (by rwa [e 4 (by decide)] at h)).oth q3 hx,fun h=>hc.f5 (by rwa [e 5 (by decide)] at h),fun _=>⟨b,_,q1,q2,setRow_heap w' b cs _ 60 (0,0) q3,rfl,fun _=>r1⟩,fun _=>⟨k8 0 (hl 0 hw0),k8 2 (hl 2 hw2),k8 3 (hl 3 hw3),k8 4 (hl 4 hw4),k8 6 (hl 6 hw6)⟩,fun h=>hc.f8 (by rwa [e 8 (by decide)] at h),fun h=>k8 5 (hc.f9 (by rwa [e 8 (by decide)] at h))⟩⟩
theorem as8 (hw5:ZM o 5) (hrun:∀(a:Act) (w':World) (v:Value),a.eval (.tmp 12)=v->(execOp a.eval o).run prog w'=.ok (.value v) w') (hd:o.dst=some 3):TS w w1 o 8:=by
 intro L a w' hI hi hl;obtain⟨u2,u3,u7,u8,u9,u10,u11,u12,rfl,hc⟩:=hI;have e:∀j,j≠8->(L.setIfInBounds 8 true).getD j false=L.getD j false:=fun j hj=>getD_set_ne false (Ne.symm hj)
 have k8:∀j,L.getD j false=true->(L.setIfInBounds 8 true).getD j false=true:=fun j hj=>getD_set_true hj
 refine Zz (hrun _ w' _ rfl) ?_;rw[hd];exact⟨u2,u12,u7,u8,u9,u10,u11,u12,rfl,⟨hc.b,fun h h7=>hc.f0 (by rwa [e 0 (by decide)] at h) (by rwa [e 7 (by decide)] at h7),fun h=>hc.f1 (by rwa [e 1 (by decide)] at h),fun h h7=>hc.f2 (by rwa [e 2 (by decide)] at h) (by rwa [e 7 (by decide)] at h7),fun h=>hc.f3 (by rwa [e 3 (by decide)] at h),fun h=>hc.f4 (by rwa [e 4 (by decide)] at h),fun h=>hc.f5 (by rwa [e 5 (by decide)] at h),fun h=>by obtain⟨b,cs,q1,q2,q3,q4,q5⟩:=hc.f6 (by rwa [e 6 (by decide)] at h);exact⟨b,cs,q1,q2,q3,q4,fun h7=>q5 (by rwa [e 7 (by decide)] at h7)⟩,fun h=>by obtain⟨k0,k2,k3,k4,k6⟩:=hc.f7 (by rwa [e 7 (by decide)] at h);exact⟨k8 0 k0,k8 2 k2,k8 3 k3,k8 4 k4,k8 6 k6⟩,fun _=>rfl,fun _=>k8 5 (hl 5 hw5)⟩⟩
end
theorem MK {id:Nat} {Q:Exit->Act->World->Prop} {w w1:World} {a:Act} {L:List Oper} (hm:prog.follows .mixedOrders=true) (hg:L.all (fun o=>o.guard.isNone)=true)
  (hbk:((List.range L.length).all fun i=>(L.getD i default).after.toList.all fun e=>!Region.binds .any e||decide (e.on<i))=true) (hl:L.length=9) (ha:a=FRa w undef undef undef undef undef undef undef undef)
  (hstep:VQ (TS w w1) L 0)
  (hend:∀(u2 u3 u7 u8 u9 u10 u11 u12:Value) (w':World),Below w1.heap.size w1 w'->(∃b r v1 v2,u2=.pointer (some ⟨b,0,none⟩)/\w1.heap.size<=b/\w'.heap[b]?=some (.cells #[r,v1,v2,.slice none 0 0] 60 (0,0))/\GaQ w' v1)->u3=.int .i64 0->Q .normal (FRa w u2 u3 u7 u8 u9 u10 u11 u12) w'):(Code.region id L.toArray true).wp prog Q a w1:=by
 refine U5 (I:=AI w w1) hm hg hbk (by rw[ha];exact Cn w w1 _) (fun listed a' w' hall hI=>?_) hstep
 obtain⟨u2,u3,u7,u8,u9,u10,u11,u12,rfl,hc⟩:=hI;have h:∀j,j<9->listed.getD j false=true:=fun j hj=>hall j (by omega)
 obtain⟨b,cs,q1,q2,q3,q4,q5⟩:=hc.f6 (h 6 (by decide))
 obtain⟨r,v1,v2,r1,r2,r3,r4⟩:=hc.f4 (h 4 (by decide))
 have hu:=q5 (h 7 (by decide))
 rw[r1] at hu;injection hu with hu
 subst hu;exact hend u2 u3 u7 u8 u9 u10 u11 u12 w' hc.b ⟨b,r,v1,v2,q1,q2,q3,r4⟩ ((hc.f8 (h 8 (by decide))).trans (hc.f5 (h 5 (by decide))))
def awP:List Pnt:=[⟨1,[49,48,48],[]⟩,⟨2,[49,49,48],[]⟩]
theorem Zby:XZ awP=0:=by decide +kernel
theorem A9:EH awP=.tuple #[.agg #[.string ⟨#[49]⟩,.string ⟨#[49,48]⟩],.int .i64 0]:=by
 have e1:Yw 1 (Wd (pts awP))-1=Rat.divInt 1 10:=by decide +kernel
 have e2:fN (Rat.divInt 1 10)=[49]:=by decide +kernel
 have e3:fD (Rat.divInt 1 10)=[49,48]:=by decide +kernel
 unfold EH;rw[if_neg (fun h=>h Zby),e1,e2,e3]
theorem Tz:Vt 9 #[] (.bool true):=fun w hG=>by
 have hb1:=Zb w (.cells #[.string ⟨#[]⟩,.int .i64 0,.bool false,.int .i64 0,.int .i64 0,.string ⟨#[]⟩,.string ⟨#[]⟩,.string ⟨#[]⟩,.string ⟨#[]⟩,.string ⟨#[]⟩,.string ⟨#[]⟩,.string ⟨#[]⟩,.string ⟨#[]⟩,.string ⟨#[]⟩,.string ⟨#[]⟩,.string ⟨#[]⟩,.string ⟨#[]⟩,.string ⟨#[]⟩,.slice none 0 0,.slice none 0 0,.int .i64 0] 48);have h1:=ZG w (.cells #[.string ⟨#[]⟩,.int .i64 0,.bool false,.int .i64 0,.int .i64 0,.string ⟨#[]⟩,.string ⟨#[]⟩,.string ⟨#[]⟩,.string ⟨#[]⟩,.string ⟨#[]⟩,.string ⟨#[]⟩,.string ⟨#[]⟩,.string ⟨#[]⟩,.string ⟨#[]⟩,.string ⟨#[]⟩,.string ⟨#[]⟩,.string ⟨#[]⟩,.string ⟨#[]⟩,.slice none 0 0,.slice none 0 0,.int .i64 0] 48);obtain⟨h2,hT⟩:=VF (cs:=Zi fA) h1 rfl;have HTH:=Lh h2;have HI:Hid ((prog.info? 48).map (·.size)=some (Zi fA).size):=Zs
 have HM:Hid ((Zi fA).all (·.oneCell')=true):=by
  show _=_;decide +kernel
 obtain⟨W1,hW1⟩:∃W1,W1=(w.alloc (.cells #[.string ⟨#[]⟩,.int .i64 0,.bool false,.int .i64 0,.int .i64 0,.string ⟨#[]⟩,.string ⟨#[]⟩,.string ⟨#[]⟩,.string ⟨#[]⟩,.string ⟨#[]⟩,.string ⟨#[]⟩,.string ⟨#[]⟩,.string ⟨#[]⟩,.string ⟨#[]⟩,.string ⟨#[]⟩,.string ⟨#[]⟩,.string ⟨#[]⟩,.string ⟨#[]⟩,.slice none 0 0,.slice none 0 0,.int .i64 0] 48)).setCells w.heap.size 0 (Zi fA).toList:=⟨_,rfl⟩
 rw[<-hW1] at hT;have HW1:=Lh hW1;have HB1:Hid (Below w.heap.size w W1):=by rw[hW1];exact Lib.below_setCells _ (Nl _) _ _ hb1
 have HX1:Hid (Blk W1 w.heap.size (Zi fA)):=⟨_,hT.new⟩;clear hb1 h1 h2 hT hW1;go_enter func9,ntmps9
 go_wp2_with (first
  | (refine OE rfl 48 _ rfl (.agg (Zi fA)) (by go_simp;first|done|rfl|rfl) ?_)
  | (refine wpList_store_mid rfl 48 (.tmp 1) (.tmp 6) rfl w.heap.size 0 (Zi fA) rfl rfl HTH.out HI.out HM.out ?_;rw[<-HW1.out]))
 refine MK (w:=w) (by kernel_rfl) (by kernel_rfl) (by kernel_rfl) rfl rfl ?_ ?_
 ·refine⟨as0 (fun a w'=>by go_simp;first|done|rfl) rfl,?_⟩
  refine⟨as1 HX1.out rfl rfl,?_⟩;refine⟨as2 (hG.below HB1.out) (Zd rfl) (Zd rfl) (fun a w' u v h1 h2=>by have g1:=toD h1;have g2:=toD h2;clear h1 h2;go_simp;first|done|rfl) rfl,?_⟩
  refine⟨as3 (Zd rfl) (fun a w' v h1=>by have g1:=toD h1;clear h1;go_simp;first|done|rfl) rfl,?_⟩
  refine⟨as4 (Zd rfl) (fun a w' v b h1=>by have g1:=toD h1;clear h1;go_simp;first|done|rfl) rfl,?_⟩
  refine⟨as5 (Zd rfl) (fun a w' v b h1=>by have g1:=toD h1;clear h1;go_simp;first|done|rfl) rfl,?_⟩
  refine⟨as6 (fun a w'=>by go_simp;first|done|rfl) rfl,?_⟩
  refine⟨as7 (Zd rfl) (Zd rfl) (Zd rfl) (Zd rfl) (Zd rfl) rfl rfl (by kernel_rfl),?_⟩
  exact⟨as8 (Zd rfl) (fun a w' v h1=>by have g1:=toD h1;clear h1;go_simp;first|done|rfl) rfl,trivial⟩
 intro u2 u3 u7 u8 u9 u10 u11 u12 w2 hb2 hres hu3;obtain⟨b,r,v1,v2,rfl,hbb,hrb,hga⟩:=hres;subst hu3;have HB2:=Lh (bto HB1.out hb2);have HRB:=Lh hrb;have HGA:=Lh hga;clear hb2 hbb hrb hga HB1 HX1 HTH HW1;unfold FRa;have hb3:=Zb w2 (.cells #[.int .i64 1,.string ⟨#[49,48,48]⟩,.string ⟨#[]⟩,.int .i64 2,.string ⟨#[49,49,48]⟩,.string ⟨#[]⟩] 98);have h3:=ZG w2 (.cells #[.int .i64 1,.string ⟨#[49,48,48]⟩,.string ⟨#[]⟩,.int .i64 2,.string ⟨#[49,49,48]⟩,.string ⟨#[]⟩] 98);obtain⟨w3,hw3⟩:∃w3,w3=w2.alloc (.cells #[.int .i64 1,.string ⟨#[49,48,48]⟩,.string ⟨#[]⟩,.int .i64 2,.string ⟨#[49,49,48]⟩,.string ⟨#[]⟩] 98):=⟨_,rfl⟩
 rw[<-hw3] at hb3 h3;have HQ:QL w3 (some ⟨w2.heap.size,0,none⟩) awP 2:=by
  refine⟨rfl,by decide,.inl (by decide),by decide,fun i t ht=>?_⟩
  have hi:=(Lg.1 ht).1;have hi:i=0∨i=1:=by simp[awP] at hi;omega
  rcases hi with rfl|rfl
  ·simp[awP] at ht;subst ht;exact⟨w2.heap.size,0,rfl,(Ag.1 h3).1,Zg h3 0,Zg h3 1,Zg h3 2⟩
  ·simp[awP] at ht;subst ht;exact⟨w2.heap.size,0,rfl,(Ag.1 h3).1,Zg h3 3,Zg h3 4,Zg h3 5⟩
 have HB3:=Lh (bto HB2.out hb3);have CR0:=EI (hG.below HB3.out).g HQ 2;rw[A9] at CR0;have CR:=Lh (CR0 w3 (Below.refl _ _));clear CR0;have HW3:=Lh hw3;have HRB3:=Lh (Zt HRB.out hb3);have HGA3:=Lh (HGA.out.below hb3);clear hb3 h3 hw3 HQ HRB HGA HB2;go_wp2_with fail;rw[<-HW3.out]
 refine CR.out.mono ?_
 rintro e w4 ⟨rfl,hb4⟩;have hga4:=HGA3.out.below hb4;have hrb4:=Zt HRB3.out hb4;have HB4:=Lh (bto HB3.out hb4);have hb5:=Zb w4 (.cells #[.string ⟨#[]⟩,.string ⟨#[]⟩] 34);have h5:=ZG w4 (.cells #[.string ⟨#[]⟩,.string ⟨#[]⟩] 34);obtain⟨t5,hT5⟩:=VF (cs:=#[.string ⟨#[49]⟩,.string ⟨#[49,48]⟩]) h5 rfl;have HTF:=Lh t5;have HIF:Hid ((prog.info? 34).map (·.size)=some (#[.string ⟨#[49]⟩,.string ⟨#[49,48]⟩]:Array Value).size):=by
  show _=_
  kernel_rfl
 have HMF:Hid ((#[.string ⟨#[49]⟩,.string ⟨#[49,48]⟩]:Array Value).all (·.oneCell')=true):=by
  show _=_;decide +kernel
 obtain⟨W5,hW5⟩:∃W5,W5=(w4.alloc (.cells #[.string ⟨#[]⟩,.string ⟨#[]⟩] 34)).setCells w4.heap.size 0 (#[.string ⟨#[49]⟩,.string ⟨#[49,48]⟩]:Array Value).toList:=⟨_,rfl⟩
 rw[<-hW5] at hT5;have HW5:=Lh hW5;have HB5:Hid (Below w.heap.size w W5):=by rw[hW5];exact Lib.below_setCells _ (by have:=HB4.out.size;omega) _ _ (bto HB4.out hb5)
 have hrb5:W5.heap[b]?=some (.cells #[r,v1,v2,.slice none 0 0] 60 (0,0)):=(hT5.old b (by have:=(Ag.1 hrb4).1;omega)).trans (Zt hrb4 hb5)
 have hga5:GaQ W5 v1:=by
  obtain⟨g,cap,cur,e1,e2,e3⟩:=hga4;exact⟨g,cap,cur,e1,(hT5.old g (by have:=(Ag.1 e2).1;omega)).trans (Zt e2 hb5),e3⟩
 obtain⟨g,cap,rfl,qb,qc,qd⟩:=hga5.at;have qa:W5.cell? ⟨b,1,none⟩=some (.slice (some ⟨g,0,none⟩) 2 cap):=Zg hrb5 1;have qe:W5.cell? ⟨w4.heap.size,0,none⟩=some (.string ⟨#[49]⟩):=Zg hT5.new 0;have qf:W5.cell? ⟨w4.heap.size,1,none⟩=some (.string ⟨#[49,48]⟩):=Zg hT5.new 1;clear hb5 h5 t5 hT5 hW5 hrb4 hga4 hrb5 hga5 CR HW3 HRB3 HGA3 HB3 HB4 hb4;go_wp2_with (refine wpList_store_mid rfl 34 (.tmp 4) (.tmp 18) rfl w4.heap.size 0 #[.string ⟨#[49]⟩,.string ⟨#[49,48]⟩] rfl rfl HTF.out HIF.out HMF.out ?_;rw[<-HW5.out]);go_ret;exact⟨rfl,HB5.out⟩
abbrev Fp2:=List UInt8×List UInt8
def Co (w:World) (A:Option Addr) (rs:List Fp2):Prop:=∀(i:Nat) (r:Fp2),rs[i]?=some r->∃b o,A=some ⟨b,o,none⟩/\b<w.heap.size/\w.cell? ⟨b,o+i*2,none⟩=some (.string ⟨List.toArray r.1⟩)/\w.cell? ⟨b,o+i*2+1,none⟩=some (.string ⟨List.toArray r.2⟩)
theorem Co.below {w w':World} {A:Option Addr} {rs:List Fp2} (h:Co w A rs) (hb:Below w.heap.size w w'):Co w' A rs:=fun i t ht=>by
 obtain⟨b,o,hA,hl,h0,h1⟩:=h i t ht;exact⟨b,o,hA,Nat.lt_of_lt_of_le hl hb.size,(hb.cell (p:=⟨b,_,none⟩) hl).trans h0,(hb.cell (p:=⟨b,_,none⟩) hl).trans h1⟩
def Vh (l l':List UInt8):Bool:=decide ((13:Int)<(l.length:Int))||decide ((13:Int)<(l'.length:Int))
theorem Zbz {A:Option Addr} {rs:List Fp2} {n:Nat} (c:Nat) {w:World} (hn:rs.length=n) (hn2:n<=1000000000) (h:Co w A rs) :
  Calls prog 180 #[.slice A n c] w fun e w'=>e=.returned (.bool (rs.any fun r=>Vh r.1 r.2))/\Below w.heap.size w w':=by
 have HV:Hid ((rs.any fun r=>Vh r.1 r.2)=((rs.drop 0).any fun r=>Vh r.1 r.2)):=rfl
 generalize (rs.any fun r=>Vh r.1 r.2)=R at *
 have HX:=Lh h;have HN:=Lh hn;clear h hn;go_enter func180,ntmps180;go_wp2_with fail
 go_loopw [3] (fun iv wr=>∃k:Nat,k<=n/\iv=.int .i64 (k:Int)/\Hid (R=((rs.drop k).any fun r=>Vh r.1 r.2))/\Below w.heap.size w wr) (fun iv _=>n-(intOf iv).toNat)
 case atStart=>exact⟨0,Nat.zero_le _,rfl,HV,Below.refl _ _⟩
 case round=>
  clear HV;obtain⟨k,hk,rfl,HK,hbk⟩:=hrel
  by_cases hlt:k<n
  ·obtain⟨x,hx⟩:∃x,rs[k]?=some x:=⟨_,List.getElem?_eq_getElem (by rw[HN.out];omega)⟩
   obtain⟨b,o,rfl,hbs,p0,p1⟩:=(HX.out.below hbk) k x hx;have HD:Hid (((rs.drop k).any fun r=>Vh r.1 r.2)=(Vh x.1 x.2||(rs.drop (k+1)).any fun r=>Vh r.1 r.2)):=by
    obtain⟨hk',rfl⟩:=Lg.1 hx;show _=_;rw[List.drop_eq_getElem_cons hk',List.any_cons]
   have e1:decide ((k:Int)<(n:Int))=true:=Dt (by omega)
   clear hx;cases a1:decide ((13:Int)<(x.1.length:Int)) with
   | true=>
    have HV3:Hid (R=true):=by show _=_;rw[HK.out,HD.out];unfold Vh;rw[a1,Bool.true_or,Bool.true_or]
    clear HK HD;go_wp2;go_ret;exact⟨ZV HV3.out.symm,hbk⟩
   | false=>
   cases a2:decide ((13:Int)<(x.2.length:Int)) with
   | true=>
    have HV3:Hid (R=true):=by show _=_;rw[HK.out,HD.out];unfold Vh;rw[a1,a2,Bool.false_or,Bool.true_or]
    clear HK HD;go_wp2;go_ret;exact⟨ZV HV3.out.symm,hbk⟩
   | false=>
    have HV3:Hid (R=((rs.drop (k+1)).any fun r=>Vh r.1 r.2)):=by
     show _=_;rw[HK.out,HD.out];have e:Vh x.1 x.2=false:=by unfold Vh;rw[a1,a2];rfl
     rw[e,Bool.false_or]
    clear HK HD;go_wp2;go_roundw
    case rel=>exact⟨k+1,by omega,by go_num,HV3,hbk⟩
    case measure=>simp[intOf];omega
  ·have HV3:Hid (R=false):=by show _=_;rw[HK.out,List.drop_of_length_le (by rw[HN.out];omega)];rfl
   have e1:decide ((k:Int)<(n:Int))=false:=Df (by omega)
   clear HK;go_wp2;go_ret;exact⟨ZV HV3.out.symm,hbk⟩
theorem Zcj (l l':List UInt8) (w:World):Calls prog 119 #[.agg #[.string ⟨l.toArray⟩,.string ⟨l'.toArray⟩]] w fun e w'=>e=.returned (.bool (Vh l l'))/\Below w.heap.size w w':=by
 obtain⟨g1,g2,g3,g4⟩:=VH w (.cells #[.string ⟨l.toArray⟩,.string ⟨l'.toArray⟩] 34) (.cells #[.string ⟨l.toArray⟩,.string ⟨l'.toArray⟩] 34);have hb1:=Zb w (.cells #[.string ⟨l.toArray⟩,.string ⟨l'.toArray⟩] 34);have x1:=YQ.new w (.string ⟨l.toArray⟩) (.string ⟨l'.toArray⟩) 34;have q0:=x1.c0;have q1:=x1.c1;obtain⟨W,hW⟩:∃W,W=(w.alloc (.cells #[.string ⟨l.toArray⟩,.string ⟨l'.toArray⟩] 34)).alloc (.cells #[.string ⟨l.toArray⟩,.string ⟨l'.toArray⟩] 34):=⟨_,rfl⟩
 rw[<-hW] at g1 g2 g3 g4;have hat:Co W (some ⟨w.heap.size+1,0,none⟩) [(l,l')]:=fun i r hr=>by
  refine⟨_,_,rfl,(Ag.1 g2).1,?_⟩
  match i,hr with
  | 0,hr=>cases hr;exact⟨Zg g2 0,Zg g2 1⟩
  | i+1,hr=>cases hr
 have C1:=Zbz (n:=1) 1 rfl (by decide) hat
 have e:([(l,l')].any fun r=>Vh r.1 r.2)=Vh l l':=by simp
 rw[e] at C1;have CC:=Lh C1;have HW:=Lh hW;clear g1 g2 g4 hW hat C1 e x1 hb1;go_enter func119,ntmps119;go_wp2_with fail;rw[<-HW.out]
 refine CC.out.mono ?_
 rintro e w2 ⟨rfl,hb2⟩;clear CC q0 q1 HW;go_wp2;go_ret;exact⟨rfl,bto g3 hb2⟩
structure J8 (f:Fct) (ps:List Pk) (os:List Opn):Prop where
 key:f.key.length<=24
 ins:f.ins.length<=24
 oth:f.oth.length<=24
 cur:f.cur.length<=24
 tgt:f.tgt.length<=24
 q:f.q.length<=13
 amt:f.amt.length<=13
 fee:f.fee.length<=13
 pn:f.pn.length<=13
 pd:f.pd.length<=13
 rn:f.rn.length<=13
 rd:f.rd.length<=13
 sn:f.sn.length<=13
 sd:f.sd.length<=13
 p:f.pN<=66
 o:f.oN<=10
 ps:∀p∈ps,p.lot.length<=30/\p.q.length<=13
 os:∀x∈os,x.oth.length<=24/\x.rn.length<=13/\x.rd.length<=13/\x.pn.length<=13/\x.pd.length<=13/\x.vn.length<=13/\x.vd.length<=13
theorem TA {l l':List UInt8} (h:Vh l l'=false):l.length<=13/\l'.length<=13:=by
 unfold Vh at h;rw[Bool.or_eq_false_iff] at h
 have:=of_decide_eq_false h.1
 have:=of_decide_eq_false h.2
 omega
theorem Cp {f:Fct} {ps:List Pk} {os:List Opn} {w:World} (hn:ps.length=f.pN) (hn2:f.pN<=9223372036854775807) (hp:WB w f.pA ps) (hm:os.length=f.oN) (hm2:f.oN<=9223372036854775807) (ho:QJ w f.oA os) :
  Calls prog 51 #[.agg (Zi f)] w fun e w'=>(∃R:Bool,e=.returned (.bool R)/\(R=false->J8 f ps os))/\Below w.heap.size w w':=by
 have hb:=Zb w (.cells (Zi f) 48);have x0:Blk (w.alloc (.cells (Zi f) 48)) w.heap.size (Zi f):=Blk.new w (Zi f) 48;have X0:=Lh x0;have q0:(w.alloc (.cells (Zi f) 48)).cell? ⟨w.heap.size,0,none⟩=some (.string ⟨f.key.toArray⟩):=x0.c 0;have q5:(w.alloc (.cells (Zi f) 48)).cell? ⟨w.heap.size,5,none⟩=some (.string ⟨f.ins.toArray⟩):=x0.c 5;have q6:(w.alloc (.cells (Zi f) 48)).cell? ⟨w.heap.size,6,none⟩=some (.string ⟨f.oth.toArray⟩):=x0.c 6;have q7:(w.alloc (.cells (Zi f) 48)).cell? ⟨w.heap.size,7,none⟩=some (.string ⟨f.cur.toArray⟩):=x0.c 7;have q8:(w.alloc (.cells (Zi f) 48)).cell? ⟨w.heap.size,8,none⟩=some (.string ⟨f.tgt.toArray⟩):=x0.c 8;have q9:(w.alloc (.cells (Zi f) 48)).cell? ⟨w.heap.size,9,none⟩=some (.string ⟨f.q.toArray⟩):=x0.c 9;have q10:(w.alloc (.cells (Zi f) 48)).cell? ⟨w.heap.size,10,none⟩=some (.string ⟨f.amt.toArray⟩):=x0.c 10;have q11:(w.alloc (.cells (Zi f) 48)).cell? ⟨w.heap.size,11,none⟩=some (.string ⟨f.fee.toArray⟩):=x0.c 11;have q12:(w.alloc (.cells (Zi f) 48)).cell? ⟨w.heap.size,12,none⟩=some (.string ⟨f.pn.toArray⟩):=x0.c 12;have q13:(w.alloc (.cells (Zi f) 48)).cell? ⟨w.heap.size,13,none⟩=some (.string ⟨f.pd.toArray⟩):=x0.c 13;have q14:(w.alloc (.cells (Zi f) 48)).cell? ⟨w.heap.size,14,none⟩=some (.string ⟨f.rn.toArray⟩):=x0.c 14;have q15:(w.alloc (.cells (Zi f) 48)).cell? ⟨w.heap.size,15,none⟩=some (.string ⟨f.rd.toArray⟩):=x0.c 15;have q16:(w.alloc (.cells (Zi f) 48)).cell? ⟨w.heap.size,16,none⟩=some (.string ⟨f.sn.toArray⟩):=x0.c 16;have q17:(w.alloc (.cells (Zi f) 48)).cell? ⟨w.heap.size,17,none⟩=some (.string ⟨f.sd.toArray⟩):=x0.c 17;have HL:=Lh D6;have HQ:=Lh Zcj;have HP:=Lh hp;have HO:=Lh ho;have HN:=Lh hn;have HM:=Lh hm;clear x0 hp ho hn hm;cases e0:decide ((24:Int)<(f.key.length:Int)) with
 | true=>
  go_enter func51,ntmps51;go_wp2;go_ret;exact⟨⟨true,rfl,fun h=>(by cases h)⟩,hb⟩
 | false=>
 cases e1:decide ((24:Int)<(f.ins.length:Int)) with
 | true=>
  go_enter func51,ntmps51;go_wp2;go_ret;exact⟨⟨true,rfl,fun h=>(by cases h)⟩,hb⟩
 | false=>
 cases e2:decide ((24:Int)<(f.oth.length:Int)) with
 | true=>
  go_enter func51,ntmps51;go_wp2;go_ret;exact⟨⟨true,rfl,fun h=>(by cases h)⟩,hb⟩
 | false=>
 cases e3:decide ((24:Int)<(f.cur.length:Int)) with
 | true=>
  go_enter func51,ntmps51;go_wp2;go_ret;exact⟨⟨true,rfl,fun h=>(by cases h)⟩,hb⟩
 | false=>
 cases e4:decide ((24:Int)<(f.tgt.length:Int)) with
 | true=>
  go_enter func51,ntmps51;go_wp2;go_ret;exact⟨⟨true,rfl,fun h=>(by cases h)⟩,hb⟩
 | false=>
 cases e5:decide ((13:Int)<(f.q.length:Int)) with
 | true=>
  go_enter func51,ntmps51;go_wp2_with fail
  refine (HL.out _ _).mono ?_
  rintro e w5 ⟨rfl,rfl⟩;go_wp2;go_ret;exact⟨⟨true,rfl,fun h=>(by cases h)⟩,hb⟩
 | false=>
 cases e6:decide ((13:Int)<(f.amt.length:Int)) with
 | true=>
  go_enter func51,ntmps51;go_wp2_with fail
  refine (HL.out _ _).mono ?_
  rintro e w5 ⟨rfl,rfl⟩;go_wp2_with fail
  refine (HL.out _ _).mono ?_
  rintro e w6 ⟨rfl,rfl⟩;go_wp2;go_ret;exact⟨⟨true,rfl,fun h=>(by cases h)⟩,hb⟩
 | false=>
 cases e7:decide ((13:Int)<(f.fee.length:Int)) with
 | true=>
  go_enter func51,ntmps51;go_wp2_with fail
  refine (HL.out _ _).mono ?_
  rintro e w5 ⟨rfl,rfl⟩;go_wp2_with fail
  refine (HL.out _ _).mono ?_
  rintro e w6 ⟨rfl,rfl⟩;go_wp2_with fail
  refine (HL.out _ _).mono ?_
  rintro e w7 ⟨rfl,rfl⟩;go_wp2;go_ret;exact⟨⟨true,rfl,fun h=>(by cases h)⟩,hb⟩
 | false=>
 cases e8:Vh f.pn f.pd with
 | true=>
  go_enter func51,ntmps51;go_wp2_with fail
  refine (HL.out _ _).mono ?_
  rintro e w5 ⟨rfl,rfl⟩;go_wp2_with fail
  refine (HL.out _ _).mono ?_
  rintro e w6 ⟨rfl,rfl⟩;go_wp2_with fail
  refine (HL.out _ _).mono ?_
  rintro e w7 ⟨rfl,rfl⟩;go_wp2_with fail
  refine (HQ.out f.pn f.pd _).mono ?_
  rintro e w8 ⟨rfl,hb8⟩;replace X0:=Lh (X0.out.below hb8);replace hb:=bto hb hb8;clear hb8;replace q12:w8.cell? ⟨w.heap.size,12,none⟩=some (.string ⟨f.pn.toArray⟩):=X0.out.c 12;replace q13:w8.cell? ⟨w.heap.size,13,none⟩=some (.string ⟨f.pd.toArray⟩):=X0.out.c 13;replace q14:w8.cell? ⟨w.heap.size,14,none⟩=some (.string ⟨f.rn.toArray⟩):=X0.out.c 14;replace q15:w8.cell? ⟨w.heap.size,15,none⟩=some (.string ⟨f.rd.toArray⟩):=X0.out.c 15;replace q16:w8.cell? ⟨w.heap.size,16,none⟩=some (.string ⟨f.sn.toArray⟩):=X0.out.c 16;replace q17:w8.cell? ⟨w.heap.size,17,none⟩=some (.string ⟨f.sd.toArray⟩):=X0.out.c 17;go_wp2;go_ret;exact⟨⟨true,rfl,fun h=>(by cases h)⟩,hb⟩
 | false=>
 cases e9:Vh f.rn f.rd with
 | true=>
  go_enter func51,ntmps51;go_wp2_with fail
  refine (HL.out _ _).mono ?_
  rintro e w5 ⟨rfl,rfl⟩;go_wp2_with fail
  refine (HL.out _ _).mono ?_
  rintro e w6 ⟨rfl,rfl⟩;go_wp2_with fail
  refine (HL.out _ _).mono ?_
  rintro e w7 ⟨rfl,rfl⟩;go_wp2_with fail
  refine (HQ.out f.pn f.pd _).mono ?_
  rintro e w8 ⟨rfl,hb8⟩;replace X0:=Lh (X0.out.below hb8);replace hb:=bto hb hb8;clear hb8;replace q12:w8.cell? ⟨w.heap.size,12,none⟩=some (.string ⟨f.pn.toArray⟩):=X0.out.c 12;replace q13:w8.cell? ⟨w.heap.size,13,none⟩=some (.string ⟨f.pd.toArray⟩):=X0.out.c 13;replace q14:w8.cell? ⟨w.heap.size,14,none⟩=some (.string ⟨f.rn.toArray⟩):=X0.out.c 14;replace q15:w8.cell? ⟨w.heap.size,15,none⟩=some (.string ⟨f.rd.toArray⟩):=X0.out.c 15;replace q16:w8.cell? ⟨w.heap.size,16,none⟩=some (.string ⟨f.sn.toArray⟩):=X0.out.c 16;replace q17:w8.cell? ⟨w.heap.size,17,none⟩=some (.string ⟨f.sd.toArray⟩):=X0.out.c 17;go_wp2_with fail
  refine (HQ.out f.rn f.rd _).mono ?_
  rintro e w9 ⟨rfl,hb9⟩;replace X0:=Lh (X0.out.below hb9);replace hb:=bto hb hb9;clear hb9;replace q12:w9.cell? ⟨w.heap.size,12,none⟩=some (.string ⟨f.pn.toArray⟩):=X0.out.c 12;replace q13:w9.cell? ⟨w.heap.size,13,none⟩=some (.string ⟨f.pd.toArray⟩):=X0.out.c 13;replace q14:w9.cell? ⟨w.heap.size,14,none⟩=some (.string ⟨f.rn.toArray⟩):=X0.out.c 14;replace q15:w9.cell? ⟨w.heap.size,15,none⟩=some (.string ⟨f.rd.toArray⟩):=X0.out.c 15;replace q16:w9.cell? ⟨w.heap.size,16,none⟩=some (.string ⟨f.sn.toArray⟩):=X0.out.c 16;replace q17:w9.cell? ⟨w.heap.size,17,none⟩=some (.string ⟨f.sd.toArray⟩):=X0.out.c 17;go_wp2;go_ret;exact⟨⟨true,rfl,fun h=>(by cases h)⟩,hb⟩
 | false=>
 cases e10:Vh f.sn f.sd with
 | true=>
  go_enter func51,ntmps51;go_wp2_with fail
  refine (HL.out _ _).mono ?_
  rintro e w5 ⟨rfl,rfl⟩;go_wp2_with fail
  refine (HL.out _ _).mono ?_
  rintro e w6 ⟨rfl,rfl⟩;go_wp2_with fail
  refine (HL.out _ _).mono ?_
  rintro e w7 ⟨rfl,rfl⟩;go_wp2_with fail
  refine (HQ.out f.pn f.pd _).mono ?_
  rintro e w8 ⟨rfl,hb8⟩;replace X0:=Lh (X0.out.below hb8);replace hb:=bto hb hb8;clear hb8;replace q12:w8.cell? ⟨w.heap.size,12,none⟩=some (.string ⟨f.pn.toArray⟩):=X0.out.c 12;replace q13:w8.cell? ⟨w.heap.size,13,none⟩=some (.string ⟨f.pd.toArray⟩):=X0.out.c 13;replace q14:w8.cell? ⟨w.heap.size,14,none⟩=some (.string ⟨f.rn.toArray⟩):=X0.out.c 14;replace q15:w8.cell? ⟨w.heap.size,15,none⟩=some (.string ⟨f.rd.toArray⟩):=X0.out.c 15;replace q16:w8.cell? ⟨w.heap.size,16,none⟩=some (.string ⟨f.sn.toArray⟩):=X0.out.c 16;replace q17:w8.cell? ⟨w.heap.size,17,none⟩=some (.string ⟨f.sd.toArray⟩):=X0.out.c 17;go_wp2_with fail
  refine (HQ.out f.rn f.rd _).mono ?_
  rintro e w9 ⟨rfl,hb9⟩;replace X0:=Lh (X0.out.below hb9);replace hb:=bto hb hb9;clear hb9;replace q12:w9.cell? ⟨w.heap.size,12,none⟩=some (.string ⟨f.pn.toArray⟩):=X0.out.c 12;replace q13:w9.cell? ⟨w.heap.size,13,none⟩=some (.string ⟨f.pd.toArray⟩):=X0.out.c 13;replace q14:w9.cell? ⟨w.heap.size,14,none⟩=some (.string ⟨f.rn.toArray⟩):=X0.out.c 14;replace q15:w9.cell? ⟨w.heap.size,15,none⟩=some (.string ⟨f.rd.toArray⟩):=X0.out.c 15;replace q16:w9.cell? ⟨w.heap.size,16,none⟩=some (.string ⟨f.sn.toArray⟩):=X0.out.c 16;replace q17:w9.cell? ⟨w.heap.size,17,none⟩=some (.string ⟨f.sd.toArray⟩):=X0.out.c 17;go_wp2_with fail
  refine (HQ.out f.sn f.sd _).mono ?_
  rintro e w10 ⟨rfl,hb10⟩;replace X0:=Lh (X0.out.below hb10);replace hb:=bto hb hb10;clear hb10;replace q12:w10.cell? ⟨w.heap.size,12,none⟩=some (.string ⟨f.pn.toArray⟩):=X0.out.c 12;replace q13:w10.cell? ⟨w.heap.size,13,none⟩=some (.string ⟨f.pd.toArray⟩):=X0.out.c 13;replace q14:w10.cell? ⟨w.heap.size,14,none⟩=some (.string ⟨f.rn.toArray⟩):=X0.out.c 14;replace q15:w10.cell? ⟨w.heap.size,15,none⟩=some (.string ⟨f.rd.toArray⟩):=X0.out.c 15;replace q16:w10.cell? ⟨w.heap.size,16,none⟩=some (.string ⟨f.sn.toArray⟩):=X0.out.c 16;replace q17:w10.cell? ⟨w.heap.size,17,none⟩=some (.string ⟨f.sd.toArray⟩):=X0.out.c 17;go_wp2;go_ret;exact⟨⟨true,rfl,fun h=>(by cases h)⟩,hb⟩
 | false=>
 by_cases hcont:(f.pN<=4∨(64<f.pN/\f.pN<=66))/\(f.oN<=3∨(8<f.oN/\f.oN<=10))
 rotate_left
 ·have kn:(decide ((4:Int)<(f.pN:Int))=true/\decide ((f.pN:Int)<=64)=true)∨(decide ((4:Int)<(f.pN:Int))=true/\decide ((f.pN:Int)<=64)=false/\decide ((66:Int)<(f.pN:Int))=true)∨(decide ((4:Int)<(f.pN:Int))=false/\decide ((66:Int)<(f.pN:Int))=false/\decide ((3:Int)<(f.oN:Int))=true/\decide ((f.oN:Int)<=8)=true)∨(decide ((4:Int)<(f.pN:Int))=false/\decide ((66:Int)<(f.pN:Int))=false/\decide ((3:Int)<(f.oN:Int))=true/\decide ((f.oN:Int)<=8)=false/\decide ((10:Int)<(f.oN:Int))=true)∨(decide ((4:Int)<(f.pN:Int))=true/\decide ((f.pN:Int)<=64)=false/\decide ((66:Int)<(f.pN:Int))=false/\decide ((3:Int)<(f.oN:Int))=true/\decide ((f.oN:Int)<=8)=true)∨(decide ((4:Int)<(f.pN:Int))=true/\decide ((f.pN:Int)<=64)=false/\decide ((66:Int)<(f.pN:Int))=false/\decide ((3:Int)<(f.oN:Int))=true/\decide ((f.oN:Int)<=8)=false/\decide ((10:Int)<(f.oN:Int))=true):=by
   simp only[decide_eq_true_eq,decide_eq_false_iff_not];omega
  have q15:(w.alloc (.cells (Zi f) 48)).cell? ⟨w.heap.size,18,none⟩=some (.slice f.pA f.pN f.pC):=X0.out.c 18;have q16:(w.alloc (.cells (Zi f) 48)).cell? ⟨w.heap.size,19,none⟩=some (.slice f.oA f.oN f.oC):=X0.out.c 19;obtain⟨z,hz⟩:∃z:Nat,z=0:=⟨_,rfl⟩
  clear hcont hz z;rcases kn with ⟨a1,a2⟩|⟨a1,a2,a3⟩|⟨a1,a3,b1,b2⟩|⟨a1,a3,b1,b2,b3⟩|⟨a1,a2,a3,b1,b2⟩|⟨a1,a2,a3,b1,b2,b3⟩
  all_goals
   go_enter func51,ntmps51;go_wp2_with fail
   refine (HL.out _ _).mono ?_
   rintro e w5 ⟨rfl,rfl⟩;go_wp2_with fail
   refine (HL.out _ _).mono ?_
   rintro e w6 ⟨rfl,rfl⟩;go_wp2_with fail
   refine (HL.out _ _).mono ?_
   rintro e w7 ⟨rfl,rfl⟩;go_wp2_with fail
   refine (HQ.out f.pn f.pd _).mono ?_
   rintro e w8 ⟨rfl,hb8⟩;replace X0:=Lh (X0.out.below hb8);replace hb:=bto hb hb8;clear hb8;replace q12:w8.cell? ⟨w.heap.size,12,none⟩=some (.string ⟨f.pn.toArray⟩):=X0.out.c 12;replace q13:w8.cell? ⟨w.heap.size,13,none⟩=some (.string ⟨f.pd.toArray⟩):=X0.out.c 13;replace q14:w8.cell? ⟨w.heap.size,14,none⟩=some (.string ⟨f.rn.toArray⟩):=X0.out.c 14;replace q15:w8.cell? ⟨w.heap.size,15,none⟩=some (.string ⟨f.rd.toArray⟩):=X0.out.c 15;replace q16:w8.cell? ⟨w.heap.size,16,none⟩=some (.string ⟨f.sn.toArray⟩):=X0.out.c 16;replace q17:w8.cell? ⟨w.heap.size,17,none⟩=some (.string ⟨f.sd.toArray⟩):=X0.out.c 17;go_wp2_with fail
   refine (HQ.out f.rn f.rd _).mono ?_
   rintro e w9 ⟨rfl,hb9⟩;replace X0:=Lh (X0.out.below hb9);replace hb:=bto hb hb9;clear hb9;replace q12:w9.cell? ⟨w.heap.size,12,none⟩=some (.string ⟨f.pn.toArray⟩):=X0.out.c 12;replace q13:w9.cell? ⟨w.heap.size,13,none⟩=some (.string ⟨f.pd.toArray⟩):=X0.out.c 13;replace q14:w9.cell? ⟨w.heap.size,14,none⟩=some (.string ⟨f.rn.toArray⟩):=X0.out.c 14;replace q15:w9.cell? ⟨w.heap.size,15,none⟩=some (.string ⟨f.rd.toArray⟩):=X0.out.c 15;replace q16:w9.cell? ⟨w.heap.size,16,none⟩=some (.string ⟨f.sn.toArray⟩):=X0.out.c 16;replace q17:w9.cell? ⟨w.heap.size,17,none⟩=some (.string ⟨f.sd.toArray⟩):=X0.out.c 17;go_wp2_with fail
   refine (HQ.out f.sn f.sd _).mono ?_
   rintro e w10 ⟨rfl,hb10⟩;replace X0:=Lh (X0.out.below hb10);replace hb:=bto hb hb10;clear hb10;replace q12:w10.cell? ⟨w.heap.size,12,none⟩=some (.string ⟨f.pn.toArray⟩):=X0.out.c 12;replace q13:w10.cell? ⟨w.heap.size,13,none⟩=some (.string ⟨f.pd.toArray⟩):=X0.out.c 13;replace q14:w10.cell? ⟨w.heap.size,14,none⟩=some (.string ⟨f.rn.toArray⟩):=X0.out.c 14;replace q15:w10.cell? ⟨w.heap.size,15,none⟩=some (.string ⟨f.rd.toArray⟩):=X0.out.c 15;replace q16:w10.cell? ⟨w.heap.size,16,none⟩=some (.string ⟨f.sn.toArray⟩):=X0.out.c 16;replace q17:w10.cell? ⟨w.heap.size,17,none⟩=some (.string ⟨f.sd.toArray⟩):=X0.out.c 17;have r15:w10.cell? ⟨w.heap.size,18,none⟩=some (.slice f.pA f.pN f.pC):=X0.out.c 18;have r16:w10.cell? ⟨w.heap.size,19,none⟩=some (.slice f.oA f.oN f.oC):=X0.out.c 19;go_wp2;go_ret;exact⟨⟨true,rfl,fun h=>(by cases h)⟩,hb⟩
 have kp:(decide ((4:Int)<(f.pN:Int))=false/\decide ((66:Int)<(f.pN:Int))=false)∨(decide ((4:Int)<(f.pN:Int))=true/\decide ((f.pN:Int)<=64)=false/\decide ((66:Int)<(f.pN:Int))=false):=by
  simp only[decide_eq_true_eq,decide_eq_false_iff_not];omega
 have ko:(decide ((3:Int)<(f.oN:Int))=false/\decide ((10:Int)<(f.oN:Int))=false)∨(decide ((3:Int)<(f.oN:Int))=true/\decide ((f.oN:Int)<=8)=false/\decide ((10:Int)<(f.oN:Int))=false):=by
  simp only[decide_eq_true_eq,decide_eq_false_iff_not];omega
 have hp66:f.pN<=66:=by omega
 have ho10:f.oN<=10:=by omega
 clear hcont;have HE:=Lh (And.intro e0 (And.intro e1 (And.intro e2 (And.intro e3 (And.intro e4 (And.intro e5 (And.intro e6 (And.intro e7 (And.intro e8 (And.intro e9 e10))))))))));rcases kp with ⟨a1,a3⟩|⟨a1,a2,a3⟩
 all_goals rcases ko with ⟨b1,b3⟩|⟨b1,b2,b3⟩
 all_goals
  go_enter func51,ntmps51;go_wp2_with fail
  refine (HL.out _ _).mono ?_
  rintro e w5 ⟨rfl,rfl⟩;go_wp2_with fail
  refine (HL.out _ _).mono ?_
  rintro e w6 ⟨rfl,rfl⟩;go_wp2_with fail
  refine (HL.out _ _).mono ?_
  rintro e w7 ⟨rfl,rfl⟩;go_wp2_with fail
  refine (HQ.out f.pn f.pd _).mono ?_
  rintro e w8 ⟨rfl,hb8⟩;replace X0:=Lh (X0.out.below hb8);replace hb:=bto hb hb8;clear hb8;replace q12:w8.cell? ⟨w.heap.size,12,none⟩=some (.string ⟨f.pn.toArray⟩):=X0.out.c 12;replace q13:w8.cell? ⟨w.heap.size,13,none⟩=some (.string ⟨f.pd.toArray⟩):=X0.out.c 13;replace q14:w8.cell? ⟨w.heap.size,14,none⟩=some (.string ⟨f.rn.toArray⟩):=X0.out.c 14;replace q15:w8.cell? ⟨w.heap.size,15,none⟩=some (.string ⟨f.rd.toArray⟩):=X0.out.c 15;replace q16:w8.cell? ⟨w.heap.size,16,none⟩=some (.string ⟨f.sn.toArray⟩):=X0.out.c 16;replace q17:w8.cell? ⟨w.heap.size,17,none⟩=some (.string ⟨f.sd.toArray⟩):=X0.out.c 17;go_wp2_with fail
  refine (HQ.out f.rn f.rd _).mono ?_
  rintro e w9 ⟨rfl,hb9⟩;replace X0:=Lh (X0.out.below hb9);replace hb:=bto hb hb9;clear hb9;replace q12:w9.cell? ⟨w.heap.size,12,none⟩=some (.string ⟨f.pn.toArray⟩):=X0.out.c 12;replace q13:w9.cell? ⟨w.heap.size,13,none⟩=some (.string ⟨f.pd.toArray⟩):=X0.out.c 13;replace q14:w9.cell? ⟨w.heap.size,14,none⟩=some (.string ⟨f.rn.toArray⟩):=X0.out.c 14;replace q15:w9.cell? ⟨w.heap.size,15,none⟩=some (.string ⟨f.rd.toArray⟩):=X0.out.c 15;replace q16:w9.cell? ⟨w.heap.size,16,none⟩=some (.string ⟨f.sn.toArray⟩):=X0.out.c 16;replace q17:w9.cell? ⟨w.heap.size,17,none⟩=some (.string ⟨f.sd.toArray⟩):=X0.out.c 17;go_wp2_with fail
  refine (HQ.out f.sn f.sd _).mono ?_
  rintro e w10 ⟨rfl,hb10⟩;replace X0:=Lh (X0.out.below hb10);replace hb:=bto hb hb10;clear hb10;replace q12:w10.cell? ⟨w.heap.size,12,none⟩=some (.string ⟨f.pn.toArray⟩):=X0.out.c 12;replace q13:w10.cell? ⟨w.heap.size,13,none⟩=some (.string ⟨f.pd.toArray⟩):=X0.out.c 13;replace q14:w10.cell? ⟨w.heap.size,14,none⟩=some (.string ⟨f.rn.toArray⟩):=X0.out.c 14;replace q15:w10.cell? ⟨w.heap.size,15,none⟩=some (.string ⟨f.rd.toArray⟩):=X0.out.c 15;replace q16:w10.cell? ⟨w.heap.size,16,none⟩=some (.string ⟨f.sn.toArray⟩):=X0.out.c 16;replace q17:w10.cell? ⟨w.heap.size,17,none⟩=some (.string ⟨f.sd.toArray⟩):=X0.out.c 17;have r15:w10.cell? ⟨w.heap.size,18,none⟩=some (.slice f.pA f.pN f.pC):=X0.out.c 18;have r16:w10.cell? ⟨w.heap.size,19,none⟩=some (.slice f.oA f.oN f.oC):=X0.out.c 19;go_wp2_with fail;clear e0 e1 e2 e3 e4 e5 e6 e7 e8 e9 e10 r15 r16 q12 q13 q14 q15 q16 q17 a1 a3 b1 b3
  (try clear a2)
  (try clear b2)
  go_loopw [3] (fun iv wr=>∃k:Nat,k<=f.pN/\iv=.int .i64 (k:Int)/\Hid (∀p∈ps.take k,p.lot.length<=30/\p.q.length<=13)/\Hid (Blk wr w.heap.size (Zi f))/\Below w.heap.size w wr) (fun iv _=>f.pN-(intOf iv).toNat)
  case atStart=>exact⟨0,Nat.zero_le _,rfl,(by intro p hp;simp at hp),X0.out,hb⟩
  case round=>
   clear X0 hb;obtain⟨k,hk,rfl,HS,HF,hbk⟩:=hrel;have q15:wr.cell? ⟨w.heap.size,18,none⟩=some (.slice f.pA f.pN f.pC):=HF.out.c 18
   by_cases hlt:k<f.pN
   ·have e1:decide ((k:Int)<(f.pN:Int))=true:=Dt (by omega)
    obtain⟨p,hpk⟩:∃p,ps[k]?=some p:=⟨_,List.getElem?_eq_getElem (by rw[HN.out];omega)⟩
    obtain⟨b,o,hA,hbs,p0,p1⟩:=(HP.out.below hbk) k p hpk;rw[hA] at q15;cases c1:decide ((30:Int)<(p.lot.length:Int)) with
    | true=>
     go_wp2;go_ret;exact⟨⟨true,rfl,fun h=>(by cases h)⟩,hbk⟩
    | false=>
    cases c2:decide ((13:Int)<(p.q.length:Int)) with
    | true=>
     go_wp2_with fail
     refine (HL.out _ _).mono ?_
     rintro e w2 ⟨rfl,rfl⟩;go_wp2;go_ret;exact⟨⟨true,rfl,fun h=>(by cases h)⟩,hbk⟩
    | false=>
     have HS2:Hid (∀p∈ps.take (k+1),p.lot.length<=30/\p.q.length<=13):=fun y hy=>by
      rw[No hpk] at hy;rcases List.mem_append.1 hy with hy|hy
      ·exact HS.out y hy
      ·rw[List.mem_singleton.1 hy];have h1:=of_decide_eq_false c1;have h2:=of_decide_eq_false c2;omega
     clear hpk hA;go_wp2_with fail
     refine (HL.out _ _).mono ?_
     rintro e w2 ⟨rfl,rfl⟩;go_wp2;go_roundw
     case rel=>exact⟨k+1,by omega,by go_num,HS2,HF.out,hbk⟩
     case measure=>simp[intOf];omega
   have e1:decide ((k:Int)<(f.pN:Int))=false:=Df (by omega)
   have HPS:Hid (∀p∈ps,p.lot.length<=30/\p.q.length<=13):=by
    have h1:=HS.out
    rwa [List.take_of_length_le (by rw[HN.out];omega)] at h1
   clear HS;go_wp2_with fail;clear e1 q15 hlt hk;have HF0:=Lh HF.out;have hbk0:=hbk;clear HF hbk
   go_loopw [4] (fun iv wr=>∃k:Nat,k<=f.oN/\iv=.int .i64 (k:Int)/\Hid (∀x∈os.take k,x.oth.length<=24/\x.rn.length<=13/\x.rd.length<=13/\x.pn.length<=13/\x.pd.length<=13/\x.vn.length<=13/\x.vd.length<=13)/\Hid (Blk wr w.heap.size (Zi f))/\Below w.heap.size w wr) (fun iv _=>f.oN-(intOf iv).toNat)
   case atStart=>exact⟨0,Nat.zero_le _,rfl,(by intro p hp;simp at hp),HF0.out,hbk0⟩
   case round=>
    clear HF0 hbk0;obtain⟨k,hk,rfl,HS,HF,hbk⟩:=hrel;have q16:wr.cell? ⟨w.heap.size,19,none⟩=some (.slice f.oA f.oN f.oC):=HF.out.c 19
    by_cases hlt:k<f.oN
    ·have e1:decide ((k:Int)<(f.oN:Int))=true:=Dt (by omega)
     obtain⟨x,hxk⟩:∃x,os[k]?=some x:=⟨_,List.getElem?_eq_getElem (by rw[HM.out];omega)⟩
     obtain⟨b,o,hA,hbs,hoc⟩:=(HO.out.below hbk) k x hxk;rw[hA] at q16;have p0:=hoc.c0;have p1:=hoc.c1;have p2:=hoc.c2;have p3:=hoc.c3;have p4:=hoc.c4;have p5:=hoc.c5;have p6:=hoc.c6;have hbA:=Zb wr (.cells #[.string ⟨x.oth.toArray⟩,.string ⟨x.rn.toArray⟩,.string ⟨x.rd.toArray⟩,.string ⟨x.pn.toArray⟩,.string ⟨x.pd.toArray⟩,.string ⟨x.vn.toArray⟩,.string ⟨x.vd.toArray⟩] 197);have X5:=Lh (Blk.new wr #[.string ⟨x.oth.toArray⟩,.string ⟨x.rn.toArray⟩,.string ⟨x.rd.toArray⟩,.string ⟨x.pn.toArray⟩,.string ⟨x.pd.toArray⟩,.string ⟨x.vn.toArray⟩,.string ⟨x.vd.toArray⟩] 197);have r0:(wr.alloc (.cells #[.string ⟨x.oth.toArray⟩,.string ⟨x.rn.toArray⟩,.string ⟨x.rd.toArray⟩,.string ⟨x.pn.toArray⟩,.string ⟨x.pd.toArray⟩,.string ⟨x.vn.toArray⟩,.string ⟨x.vd.toArray⟩] 197)).cell? ⟨wr.heap.size,0,none⟩=some (.string ⟨x.oth.toArray⟩):=X5.out.c 0;have r1:(wr.alloc (.cells #[.string ⟨x.oth.toArray⟩,.string ⟨x.rn.toArray⟩,.string ⟨x.rd.toArray⟩,.string ⟨x.pn.toArray⟩,.string ⟨x.pd.toArray⟩,.string ⟨x.vn.toArray⟩,.string ⟨x.vd.toArray⟩] 197)).cell? ⟨wr.heap.size,1,none⟩=some (.string ⟨x.rn.toArray⟩):=X5.out.c 1;have r2:(wr.alloc (.cells #[.string ⟨x.oth.toArray⟩,.string ⟨x.rn.toArray⟩,.string ⟨x.rd.toArray⟩,.string ⟨x.pn.toArray⟩,.string ⟨x.pd.toArray⟩,.string ⟨x.vn.toArray⟩,.string ⟨x.vd.toArray⟩] 197)).cell? ⟨wr.heap.size,2,none⟩=some (.string ⟨x.rd.toArray⟩):=X5.out.c 2;have r3:(wr.alloc (.cells #[.string ⟨x.oth.toArray⟩,.string ⟨x.rn.toArray⟩,.string ⟨x.rd.toArray⟩,.string ⟨x.pn.toArray⟩,.string ⟨x.pd.toArray⟩,.string ⟨x.vn.toArray⟩,.string ⟨x.vd.toArray⟩] 197)).cell? ⟨wr.heap.size,3,none⟩=some (.string ⟨x.pn.toArray⟩):=X5.out.c 3;have r4:(wr.alloc (.cells #[.string ⟨x.oth.toArray⟩,.string ⟨x.rn.toArray⟩,.string ⟨x.rd.toArray⟩,.string ⟨x.pn.toArray⟩,.string ⟨x.pd.toArray⟩,.string ⟨x.vn.toArray⟩,.string ⟨x.vd.toArray⟩] 197)).cell? ⟨wr.heap.size,4,none⟩=some (.string ⟨x.pd.toArray⟩):=X5.out.c 4;have r5:(wr.alloc (.cells #[.string ⟨x.oth.toArray⟩,.string ⟨x.rn.toArray⟩,.string ⟨x.rd.toArray⟩,.string ⟨x.pn.toArray⟩,.string ⟨x.pd.toArray⟩,.string ⟨x.vn.toArray⟩,.string ⟨x.vd.toArray⟩] 197)).cell? ⟨wr.heap.size,5,none⟩=some (.string ⟨x.vn.toArray⟩):=X5.out.c 5;have r6:(wr.alloc (.cells #[.string ⟨x.oth.toArray⟩,.string ⟨x.rn.toArray⟩,.string ⟨x.rd.toArray⟩,.string ⟨x.pn.toArray⟩,.string ⟨x.pd.toArray⟩,.string ⟨x.vn.toArray⟩,.string ⟨x.vd.toArray⟩] 197)).cell? ⟨wr.heap.size,6,none⟩=some (.string ⟨x.vd.toArray⟩):=X5.out.c 6;have HF2:=Lh (HF.out.below hbA);replace hbk:=bto hbk hbA;clear hbA hoc;cases c0:decide ((24:Int)<(x.oth.length:Int)) with
     | true=>
      go_wp2;go_ret;exact⟨⟨true,rfl,fun h=>(by cases h)⟩,hbk⟩
     | false=>
     cases c1:Vh x.rn x.rd with
     | true=>
      go_wp2_with fail
      refine (HQ.out x.rn x.rd _).mono ?_
      rintro e v0 ⟨rfl,hv0⟩;replace hbk:=bto hbk hv0;replace X5:=Lh (X5.out.below hv0);replace HF2:=Lh (HF2.out.below hv0);have s03:v0.cell? ⟨wr.heap.size,3,none⟩=some (.string ⟨x.pn.toArray⟩):=X5.out.c 3;have s04:v0.cell? ⟨wr.heap.size,4,none⟩=some (.string ⟨x.pd.toArray⟩):=X5.out.c 4;have s05:v0.cell? ⟨wr.heap.size,5,none⟩=some (.string ⟨x.vn.toArray⟩):=X5.out.c 5;have s06:v0.cell? ⟨wr.heap.size,6,none⟩=some (.string ⟨x.vd.toArray⟩):=X5.out.c 6;go_wp2;go_ret;exact⟨⟨true,rfl,fun h=>(by cases h)⟩,hbk⟩
     | false=>
     cases c2:Vh x.pn x.pd with
     | true=>
      go_wp2_with fail
      refine (HQ.out x.rn x.rd _).mono ?_
      rintro e v0 ⟨rfl,hv0⟩;replace hbk:=bto hbk hv0;replace X5:=Lh (X5.out.below hv0);replace HF2:=Lh (HF2.out.below hv0);have s03:v0.cell? ⟨wr.heap.size,3,none⟩=some (.string ⟨x.pn.toArray⟩):=X5.out.c 3;have s04:v0.cell? ⟨wr.heap.size,4,none⟩=some (.string ⟨x.pd.toArray⟩):=X5.out.c 4;have s05:v0.cell? ⟨wr.heap.size,5,none⟩=some (.string ⟨x.vn.toArray⟩):=X5.out.c 5;have s06:v0.cell? ⟨wr.heap.size,6,none⟩=some (.string ⟨x.vd.toArray⟩):=X5.out.c 6;go_wp2_with fail
      refine (HQ.out x.pn x.pd _).mono ?_
      rintro e v1 ⟨rfl,hv1⟩;replace hbk:=bto hbk hv1;replace X5:=Lh (X5.out.below hv1);replace HF2:=Lh (HF2.out.below hv1);have s15:v1.cell? ⟨wr.heap.size,5,none⟩=some (.string ⟨x.vn.toArray⟩):=X5.out.c 5;have s16:v1.cell? ⟨wr.heap.size,6,none⟩=some (.string ⟨x.vd.toArray⟩):=X5.out.c 6;go_wp2;go_ret;exact⟨⟨true,rfl,fun h=>(by cases h)⟩,hbk⟩
     | false=>
     cases c3:Vh x.vn x.vd with
     | true=>
      go_wp2_with fail
      refine (HQ.out x.rn x.rd _).mono ?_
      rintro e v0 ⟨rfl,hv0⟩;replace hbk:=bto hbk hv0;replace X5:=Lh (X5.out.below hv0);replace HF2:=Lh (HF2.out.below hv0);have s03:v0.cell? ⟨wr.heap.size,3,none⟩=some (.string ⟨x.pn.toArray⟩):=X5.out.c 3;have s04:v0.cell? ⟨wr.heap.size,4,none⟩=some (.string ⟨x.pd.toArray⟩):=X5.out.c 4;have s05:v0.cell? ⟨wr.heap.size,5,none⟩=some (.string ⟨x.vn.toArray⟩):=X5.out.c 5;have s06:v0.cell? ⟨wr.heap.size,6,none⟩=some (.string ⟨x.vd.toArray⟩):=X5.out.c 6;go_wp2_with fail
      refine (HQ.out x.pn x.pd _).mono ?_
      rintro e v1 ⟨rfl,hv1⟩;replace hbk:=bto hbk hv1;replace X5:=Lh (X5.out.below hv1);replace HF2:=Lh (HF2.out.below hv1);have s15:v1.cell? ⟨wr.heap.size,5,none⟩=some (.string ⟨x.vn.toArray⟩):=X5.out.c 5;have s16:v1.cell? ⟨wr.heap.size,6,none⟩=some (.string ⟨x.vd.toArray⟩):=X5.out.c 6;go_wp2_with fail
      refine (HQ.out x.vn x.vd _).mono ?_
      rintro e v2 ⟨rfl,hv2⟩;replace hbk:=bto hbk hv2;replace X5:=Lh (X5.out.below hv2);replace HF2:=Lh (HF2.out.below hv2);go_wp2;go_ret;exact⟨⟨true,rfl,fun h=>(by cases h)⟩,hbk⟩
     | false=>
      have HS2:Hid (∀x∈os.take (k+1),x.oth.length<=24/\x.rn.length<=13/\x.rd.length<=13/\x.pn.length<=13/\x.pd.length<=13/\x.vn.length<=13/\x.vd.length<=13):=fun y hy=>by
       rw[No hxk] at hy;rcases List.mem_append.1 hy with hy|hy
       ·exact HS.out y hy
       ·rw[List.mem_singleton.1 hy];have h1:=of_decide_eq_false c0;have h2:=TA c1;have h3:=TA c2;have h4:=TA c3;exact⟨by omega,h2.1,h2.2,h3.1,h3.2,h4.1,h4.2⟩
      clear hxk hA;go_wp2_with fail
      refine (HQ.out x.rn x.rd _).mono ?_
      rintro e v0 ⟨rfl,hv0⟩;replace hbk:=bto hbk hv0;replace X5:=Lh (X5.out.below hv0);replace HF2:=Lh (HF2.out.below hv0);have s03:v0.cell? ⟨wr.heap.size,3,none⟩=some (.string ⟨x.pn.toArray⟩):=X5.out.c 3;have s04:v0.cell? ⟨wr.heap.size,4,none⟩=some (.string ⟨x.pd.toArray⟩):=X5.out.c 4;have s05:v0.cell? ⟨wr.heap.size,5,none⟩=some (.string ⟨x.vn.toArray⟩):=X5.out.c 5;have s06:v0.cell? ⟨wr.heap.size,6,none⟩=some (.string ⟨x.vd.toArray⟩):=X5.out.c 6;go_wp2_with fail
      refine (HQ.out x.pn x.pd _).mono ?_
      rintro e v1 ⟨rfl,hv1⟩;replace hbk:=bto hbk hv1;replace X5:=Lh (X5.out.below hv1);replace HF2:=Lh (HF2.out.below hv1);have s15:v1.cell? ⟨wr.heap.size,5,none⟩=some (.string ⟨x.vn.toArray⟩):=X5.out.c 5;have s16:v1.cell? ⟨wr.heap.size,6,none⟩=some (.string ⟨x.vd.toArray⟩):=X5.out.c 6;go_wp2_with fail
      refine (HQ.out x.vn x.vd _).mono ?_
      rintro e v2 ⟨rfl,hv2⟩;replace hbk:=bto hbk hv2;replace X5:=Lh (X5.out.below hv2);replace HF2:=Lh (HF2.out.below hv2);go_wp2;go_roundw
      case rel=>exact⟨k+1,by omega,by go_num,HS2,HF2.out,hbk⟩
      case measure=>simp[intOf];omega
    have e1:decide ((k:Int)<(f.oN:Int))=false:=Df (by omega)
    have HOS:Hid (∀x∈os,x.oth.length<=24/\x.rn.length<=13/\x.rd.length<=13/\x.pn.length<=13/\x.pd.length<=13/\x.vn.length<=13/\x.vd.length<=13):=by
     have h1:=HS.out
     rwa [List.take_of_length_le (by rw[HM.out];omega)] at h1
    clear HS;go_wp2;go_ret;refine⟨⟨false,rfl,fun _=>?_⟩,hbk⟩
    obtain⟨g0,g1,g2,g3,g4,g5,g6,g7,g8,g9,g10⟩:=HE.out;have i8:=TA g8;have i9:=TA g9;have i10:=TA g10;have i0:=of_decide_eq_false g0;have i1:=of_decide_eq_false g1;have i2:=of_decide_eq_false g2;have i3:=of_decide_eq_false g3;have i4:=of_decide_eq_false g4;have i5:=of_decide_eq_false g5;have i6:=of_decide_eq_false g6;have i7:=of_decide_eq_false g7;exact⟨by omega,by omega,by omega,by omega,by omega,by omega,by omega,by omega,i8.1,i8.2,i9.1,i9.2,i10.1,i10.2,hp66,ho10,HPS.out,HOS.out⟩
theorem Zaa {f:Fct} {ps:List Pk} {os:List Opn} {b c:Nat} {w:World} (hB:Blk w b (Zi f)) (hn:ps.length=f.pN) (hn2:f.pN<=9223372036854775807) (hp:WB w f.pA ps) (hm:os.length=f.oN) (hm2:f.oN<=9223372036854775807) (ho:QJ w f.oA os) :
  Calls prog 117 #[.slice (some ⟨b,0,none⟩) 1 c,.func (Fn.func 51) #[] #[]] w fun e w'=>(∃z:Int,e=.returned (.int .i64 z)/\(z<0->J8 f ps os))/\Below w.heap.size w w':=by
 have X:=Lh hB;have hlt:=hB.lt;have HC:=Lh (fun w' (hb:Below w.heap.size w w')=>Cp (f:=f) (ps:=ps) (os:=os) hn hn2 (hp.below hb) hm hm2 (ho.below hb))
 clear hB hn hp hm ho;go_enter func117,ntmps117;go_wp2_with fail
 go_loopw [8] (fun iv wr=>(iv=.int .i64 0∨(iv=.int .i64 1/\Hid (J8 f ps os)))/\Below w.heap.size w wr) (fun iv _=>1-(intOf iv).toNat)
 case atStart=>exact⟨.inl rfl,Below.refl _ _⟩
 case round=>
  obtain⟨hiv,hb⟩:=hrel;rcases hiv with rfl|⟨rfl,HS⟩
  ·have X1:=Lh (X.out.below hb);have hbs:b<wr.heap.size:=X1.out.lt;go_wp2_with (refine Zj rfl 48 (.tmp 14) rfl b rfl (Zi f) X1.out underlying48 rfl Zs ?_);refine (HC.out wr hb).mono ?_;rintro e w2 ⟨⟨R,rfl,hR⟩,hb2⟩;have hbb:=bto hb hb2;cases R with
   | true=>
    clear hR X1 hb hb2;go_wp2;go_ret;exact⟨⟨_,rfl,fun h=>absurd h (by decide)⟩,hbb⟩
   | false=>
    have HS:=Lh (hR rfl);clear hR X1 hb hb2;go_wp2;go_roundw
    case rel=>exact⟨.inr ⟨by go_num,HS⟩,hbb⟩
    case measure=>simp[intOf]
  ·go_wp2;go_ret;exact⟨⟨_,rfl,fun _=>HS.out⟩,hb⟩
theorem Zab {f:Fct} {ps:List Pk} {os:List Opn} {b c:Nat} {w:World} (hB:Blk w b (Zi f)) (hn:ps.length=f.pN) (hn2:f.pN<=9223372036854775807) (hp:WB w f.pA ps) (hm:os.length=f.oN) (hm2:f.oN<=9223372036854775807) (ho:QJ w f.oA os) :
  Calls prog 50 #[.slice (some ⟨b,0,none⟩) 1 c,.func (Fn.func 51) #[] #[]] w fun e w'=>(∃R:Bool,e=.returned (.bool R)/\(R=false->J8 f ps os))/\Below w.heap.size w w':=by
 have HC:=Lh (Zaa (c:=c) hB hn hn2 hp hm hm2 ho);clear hB hn hp hm ho;go_enter func50,ntmps50;go_wp2_with fail;refine HC.out.mono ?_;rintro e w2 ⟨⟨z,rfl,hz⟩,hb⟩;clear HC
 by_cases h:0<=z
 ·have e1:decide (0<=z)=true:=Dt h;clear hz;go_wp2;go_ret;exact⟨⟨true,rfl,fun h=>(by cases h)⟩,hb⟩
 ·have e1:decide (0<=z)=false:=Df h;have HZ:=Lh (hz (by omega))
  clear hz;go_wp2;go_ret;exact⟨⟨false,rfl,fun _=>HZ.out⟩,hb⟩
theorem ZbA {A:Option Addr} {xs:List Lot} {n:Nat} (c:Nat) {f:Fct} {ps:List Pk} {os:List Opn} {b d:Nat} {w:World} (hx:xs.length=n) (hx2:n<=9223372036854775807) (hl:Yc w A xs) (hB:Blk w b (Zi f)) (hn:ps.length=f.pN) (hn2:f.pN<=9223372036854775807) (hp:WB w f.pA ps) (hm:os.length=f.oN) (hm2:f.oN<=9223372036854775807) (ho:QJ w f.oA os) :
  Calls prog 13 #[.slice A n c,.slice (some ⟨b,0,none⟩) 1 d] w fun e w'=>(∃R:Bool,e=.returned (.bool R)/\(R=false->LX xs=false/\J8 f ps os))/\Below w.heap.size w w':=by
 have C1:=Lh (D8 c hx hx2 hl);have C2:=Lh (fun w' (hb:Below w.heap.size w w')=>Zab (f:=f) (ps:=ps) (os:=os) (b:=b) (c:=d) (hB.below hb) hn hn2 (hp.below hb) hm hm2 (ho.below hb))
 clear hx hl hB hn hp hm ho;cases hg:LX xs with
 | true=>
  rw[hg] at C1;clear hg;go_enter func13,ntmps13;go_wp2_with fail
  refine C1.out.mono ?_
  rintro e w2 ⟨rfl,hb⟩;clear C1 C2;go_wp2;go_ret;exact⟨⟨true,rfl,fun h=>(by cases h)⟩,hb⟩
 | false=>
  rw[hg] at C1;clear hg;go_enter func13,ntmps13;go_wp2_with fail
  refine C1.out.mono ?_
  rintro e w2 ⟨rfl,hb⟩;have K2:=Lh (C2.out w2 hb);clear C1 C2;go_wp2_with fail;refine K2.out.mono ?_;rintro e w3 ⟨⟨R,rfl,hR⟩,hb3⟩;have hbb:=bto hb hb3;have HR:=Lh hR;clear K2 hR;go_wp2;go_ret;exact⟨⟨R,rfl,fun h=>⟨(by first|rfl|trivial),HR.out h⟩⟩,hbb⟩
open Go.ChangeShapes Go.WideShapes Go.ChangeAt
theorem Cq : "*"++ "errors.errorString" = "*errors.errorString":=by decide
theorem ZaB (u:TypeId) (h:prog.typeName? 3 u=some "*errors.errorString"):u=392:=
 typeName_ptr_named (nm:= "errors.errorString") (by rw[Cq];kernel_rfl) (by kernel_rfl) (by decide) u (by rw[Cq];exact h)
theorem Zck:prog.cellsOf 394=1:=by kernel_rfl
theorem Zcl:prog.cellsOf 9=1:=by kernel_rfl
theorem Zcm:prog.globalNamed "strconv.ErrRange" = some 1:=by kernel_rfl
theorem Zcn:prog.globalNamed "strconv.ErrSyntax" = some 0:=by kernel_rfl
theorem ZcR:(prog.globals[1]?).map (·.type)=some 209:=by kernel_rfl
theorem ZcS:(prog.globals[0]?).map (·.type)=some 209:=by kernel_rfl
theorem Zco {W:World} (h1:laidMet prog Li W) (hs:W.ShapedOpen prog):GE W:=by
 refine⟨⟨?_,Go.Proofs.cell_of_shapedOpen_int (zero:=#[.int .i64 0]) (t:=3) hs (of_decide_eq_true (by kernel_rfl)) (by kernel_rfl) rfl (by kernel_rfl) (by kernel_rfl) underlying3⟩,?_,?_⟩
 ·exact Lib.tabIs_of_head (g:=2) (by kernel_rfl) (by kernel_rfl) underlying378 underlying207 (by kernel_rfl) (by kernel_rfl) h1.tail.tail
 ·obtain⟨a,s,hv,-⟩:=laid_sentinel h1.tail.tail.tail.tail.tail Zcn ZcS underlying209 ZaB underlying392 underlying394 rfl rfl underlying9 Zck Zcl;exact⟨_,_,World.var?_cell Zcn hv 0⟩
 ·obtain⟨a,s,hv,-⟩:=laid_sentinel h1.tail.tail.tail.tail Zcm ZcR underlying209 ZaB underlying392 underlying394 rfl rfl underlying9 Zck Zcl;exact⟨_,_,World.var?_cell Zcm hv 0⟩
end Go.Proofs.YtpieeldbamklkaaGreatDoor
