/- Texts put together: Rz Zp Ka Kb Bg Kc Kd. -/
import Derived.Test.YtpieeldbamklkaaGreatDoorA7
import Derived.Laws.Tables
set_option maxHeartbeats 8000000
set_option maxRecDepth 100000
namespace Go.Proofs.YtpieeldbamklkaaGreatDoor
open Go.RowKit Go.Shelf Num
attribute [local go_sem] Oper.semAt_some
theorem DZ:(Tryz.prog.info? 60).map (·.size)=some 4:=by kernel_rfl
theorem A9:(Tryz.prog.info? 56).map (·.size)=some 1:=by kernel_rfl
theorem Zaa:(Tryz.prog.info? 57).map (·.size)=some 1:=by kernel_rfl
theorem U8 {w:World} {B k sz:Nat} {ty:TypeId} {v:Value} {cs:List Value} (h:w.ownsRow B ty sz v k cs):v.oneCell'=true:=by
 rcases h.2 with ⟨e,-⟩|⟨g,cap,cur,e,-⟩
 ·rw[e];rfl
 ·rw[e];rfl
structure Zct (w:World) (g cr:Nat) (rest taken:List Lot) (fid fins:List UInt8) (day:Int) (T:List UInt8) (v1 v2:Value) (W:World):Prop where
 sold:∃zs,Qy (val T) (taken.map (fun x=>val x.q)) zs/\∃B,W.ownsRow B 89 10 v1 taken.length (WJ ((taken.zip (zs.map canon)).map (ML fid fins day)))/\W.ownsRow B 136 6 v2 taken.length (Uy ((taken.zip (zs.map canon)).map (L4 fid)))
 row:YL W g rest
 cap:rest.length<=cr
 below:Below w.heap.size w W
theorem D3 {w:World} {A:Option Addr} {n c:Nat} {FC capv capw:Array Value} {fv fw:Nat} {Q:Value->World->Prop} {TK:List Lot->List Lot->Prop} {BD:Prop} {T fid fins:List UInt8} {day:Int} (hG:GE w) (hen:∀(args:Array Value) w,(callFunc fv args).run Tryz.prog w=.ok (.enter fv args) w) (hew:∀(args:Array Value) w,(callFunc fw args).run Tryz.prog w=.ok (.enter fw args) w)
  (hK:∀w',Below w.heap.size w w'->Calls Tryz.prog fv capv w' fun e w''=>∃v,e=.returned (.tuple #[v,.int .i64 0])/\Below w'.heap.size w' w''/\Q v w'')
  (hT:∀v w',Below w.heap.size w w'->Q v w'->Calls Tryz.prog 168 #[.slice A n c,v] w' fun e w''=>(∃err:Int,err≠0/\BD/\e=.returned (.tuple #[.slice none 0 0,.slice none 0 0,.int .i64 err])/\Below w'.heap.size w' w'')∨∃rest taken g cr v2 B,TK rest taken/\e=.returned (.tuple #[.slice (some ⟨g,0,none⟩) rest.length cr,v2,.int .i64 0])/\Sk w' B g cr (rest,taken) v2 w'')
  (hP:∀v w',Below w.heap.size w w'->Calls Tryz.prog fw (#[v]++capw) w' fun e w''=>e=.returned (.string ⟨T.toArray⟩)/\Below w'.heap.size w' w'')
  (c0:FC[0]?=some (.string ⟨fid.toArray⟩)) (c3:FC[3]?=some (.int .i64 day)) (c5:FC[5]?=some (.string ⟨fins.toArray⟩)) (hT2:T.length<=4900) (hTK:∀rest taken,TK rest taken->(∀x∈taken,x.q.length<=2000)/\LE T (taken.map (·.q))=0) :
  Calls Tryz.prog 94 #[.slice A n c,.agg FC,.func (.func fv) #[] capv,.func (.func fw) #[] capw] w fun e w'=>(∃err:Int,err≠0/\BD/\e=.returned (.tuple #[.agg RZ,.int .i64 err])/\Below w.heap.size w w')∨∃rest taken,TK rest taken/\∃g cr v1 v2,e=.returned (.tuple #[.agg (Sl g rest.length cr v1 v2),.int .i64 0])/\Zct w g cr rest taken fid fins day T v1 v2 w':=by
 have HK:=Lh hK;have HEN:=Lh hen;have HEW:=Lh hew;have HT:=Lh hT;have HP:=Lh hP;have HTA:=Lh hTK;have HC0:=Lh c0;have HC3:=Lh c3;have HC5:=Lh c5;clear hK hen hT hew hP hTK c0 c3 c5;obtain⟨hA,hH,hb,-⟩:=Xi w (.cells FC 48) (.cells RZ 60);have HA:=Lh hA;have HH:=Lh hH;have HB:=Lh hb;have HI:Hid ((Tryz.prog.info? 60).map (·.size)=some RZ.size):=QX
 clear hH hb hA;refine (callsIn_wide (n:=5)).1 ?_;refine callsIn_of_wp_marks Tryz.func94 rfl trivial ?_ rfl;simp only[Tryz.ntmps94,List.size_toArray,List.length_cons,List.length_nil,Nat.reduceAdd,Nat.reduceSub,Array.replicate_succ,Array.replicate_zero,List.push_toArray,List.append_toArray,List.nil_append,List.cons_append]
 gi_wp2_with fail
 rw[HEN.out];refine⟨trivial,fun h=>(by cases h),?_⟩
 refine (callsIn_wide.2 (HK.out _ HB.out)).mono ?_;rintro e w0 ⟨v,rfl,hb0,hq⟩;have KT:=Lh (HT.out v w0 (bto HB.out hb0) hq);clear hq HT
 gi_wp2_with fail
 refine⟨trivial,?_⟩
 (with_reducible refine (callsIn_wide.2 KT.out).mono ?_)
 rintro e w1 (⟨err,hE,hBD,rfl,hb1⟩|⟨rest,taken,g,cr,v2,B,hTK2,rfl,hTk⟩)
 ·clear KT;have g1:decide (err=0)=false:=Df hE;have HBD:=Lh hBD;have HM:Hid (RZ.all (·.oneCell')=true):=all_oneCell_toArray (cs:=[.slice none 0 0,.slice none 0 0,.slice none 0 0,.slice none 0 0]) (fun v hv=>by simp only[List.mem_cons,List.not_mem_nil,or_false] at hv;rcases hv with rfl|rfl|rfl|rfl<;>rfl)
  replace hb1:=bto hb0 hb1;have hH1:=Zk HH.out hb1;have HTH:Hid (w1.there (w.heap.size+1) 0 RZ.size):=fun j hj=>⟨by rw[Zg hH1,Array.getElem?_eq_getElem (by have:j<4:=hj;show 0+j<4;omega)];rfl,Zm hH1 _⟩
  have hb2:=bto HB.out hb1;obtain⟨w2,hw2⟩:∃w2,w2=w1.setCells (w.heap.size+1) 0 RZ.toList:=⟨_,rfl⟩
  have HW2:=Lh hw2;have hbf:Below w.heap.size w w2:=by rw[hw2];exact Lib.below_setCells _ (by omega) _ _ hb2
  have HR:Hid (w2.rangeAt (w.heap.size+1) 0 RZ.toList):=by
   have h1:w2.heap[w.heap.size+1]?=some (.cells RZ 60 (0,0)):=by
    rw[hw2];exact hset (o:=3) _ (hset (o:=2) _ (hset (o:=1) _ (hset (o:=0) _ hH1)))
   exact fun j v hv=>by
    rw[Zg h1,Nat.zero_add,<-hv,Array.getElem?_toList]
  clear hH1 hw2 HK HEN HH HB hb1 hb2
  gi_wp2_with (refine Vr rfl 60 (.tmp 8) (.tmp 35) rfl (w.heap.size+1) 0 RZ rfl rfl HTH.out HI.out HM.out ?_;rw[<-HW2.out])
  refine⟨.tuple #[.agg RZ,.int .i64 err],results_cell_tmp Tryz.f94 8 9 60 RZ (.int .i64 err) rfl rfl rfl HR.out Tryz.underlying60 rfl HI.out,?_⟩;exact .inl ⟨err,hE,HBD.out,rfl,hbf⟩
 obtain⟨hq2,hS0⟩:=HTA.out _ _ hTK2;obtain⟨-,hs2,-⟩:=MA hS0;rw[List.length_map] at hs2;have HS0:=Lh hS0;have HQL:=Lh hq2;have HSZ:=Lh hs2;have HTK:=Lh hTK2;clear KT hq2 hS0 hs2 hTK2 HTA;have hL2:w.heap.size+2<=w0.heap.size:=by have:=hb0.size;simpa using this
 have hwB:=hTk.le;have hlo:=hTk.lo;have hgb:=hTk.gb;obtain⟨A2,c2,hv2⟩:=hTk.tak.formN rfl;have hLT:=hTk.tak.lotAt hv2;subst hv2;have hB1:Below w.heap.size w w1:=bto (bto HB.out hb0) hTk.below;have hF1:w1.heap[w.heap.size]?=some (.cells FC 48 (0,0)):=Zk (Zk HA.out hb0) hTk.below;have hR1:w1.heap[w.heap.size+1]?=some (.cells RZ 60 (0,0)):=Zk (Zk HH.out hb0) hTk.below;have HLK:Hid (YL w1 g rest/\rest.length<=cr):=⟨hTk.row,hTk.cap⟩;have hb2:=Zb w1 (.cells (Sl g rest.length cr (.slice none 0 0) (.slice none 0 0)) 60);have h14:=ZJ w1 (.cells (Sl g rest.length cr (.slice none 0 0) (.slice none 0 0)) 60);have hs2:(w1.alloc (.cells (Sl g rest.length cr (.slice none 0 0) (.slice none 0 0)) 60)).heap.size=w1.heap.size+1:=by simp
 obtain⟨W2,hW2⟩:∃W2,W2=w1.alloc (.cells (Sl g rest.length cr (.slice none 0 0) (.slice none 0 0)) 60):=⟨_,rfl⟩
 rw[<-hW2] at hb2 h14 hs2;unfold Sl at hW2;have HW2:=Lh hW2;have KP:=Lh (HP.out (.slice A2 taken.length c2) W2 (bto hB1 hb2));have HR1:=Lh hR1;have HF1:=Lh hF1;have HLT:=Lh hLT;have H14:=Lh h14;have HB1:=Lh hB1;have HB2:=Lh hb2;clear hTk hb0 HA HH HB HK HEN HP hR1 hF1 hLT h14 hB1 hb2 hW2
 gi_wp2_with fail
 rw[<-HW2.out,HEW.out];refine⟨trivial,fun h=>(by cases h),?_⟩
 refine (callsIn_wide.2 KP.out).mono ?_;rintro e w3 ⟨rfl,hb3⟩;have KS:=Lh (DV A2 taken.length c2 T w3);have hs3:=hb3.size;obtain⟨hz1,hz2,hz3,hz4⟩:=Xi w3 (.cells #[.slice A2 taken.length c2] 44) (.cells #[.string ⟨T.toArray⟩] 32);obtain⟨W0,hW0⟩:∃W0,W0=(w3.alloc (.cells #[.slice A2 taken.length c2] 44)).alloc (.cells #[.string ⟨T.toArray⟩] 32):=⟨_,rfl⟩
 rw[<-hW0] at KS hz1 hz2 hz3 hz4;have H30:Hid (Below w1.heap.size w1 W0/\W0.heap[w1.heap.size]?=some (.cells (Sl g rest.length cr (.slice none 0 0) (.slice none 0 0)) 60 (0,0))/\Blk W0 w3.heap.size #[.slice A2 taken.length c2]/\Blk W0 (w3.heap.size+1) #[.string ⟨T.toArray⟩]):=
  ⟨bto (bto HB2.out hb3) hz3,Zk (Zk H14.out hb3) hz3,⟨_,hz1⟩,⟨_,hz2⟩⟩
 clear KP hb3 hz1 hz2 hz3 hW0 HB2 H14 HW2 HEW
 gi_wp2_with fail
 refine⟨trivial,?_⟩
 (with_reducible refine (callsIn_wide.2 KS.out).mono ?_)
 rintro e W0 ⟨rfl,rfl⟩;clear KS
 gi_wp2_with fail
 refine XW (gf:=216) (lb:=#[.pointer (some ⟨w3.heap.size,0,none⟩),.pointer (some ⟨w3.heap.size+1,0,none⟩)]) rfl LY ?_;intro fn R hR;obtain⟨W1,hW1⟩:∃W1,W1=(W0.alloc (.deferred (some []))).alloc (.loop R):=⟨_,rfl⟩
 obtain⟨hD,hL,hbB,hsz1⟩:=Xi W0 (.deferred (some [])) (.loop R);rw[<-hW1] at hD hL hbB hsz1;rw[<-hW1];obtain⟨l,hl⟩:∃l,l=W0.heap.size+1:=⟨_,rfl⟩
 obtain⟨d,hd⟩:∃d,d=W0.heap.size:=⟨_,rfl⟩
 obtain⟨Bx,hBx⟩:∃Bx,Bx=W1.heap.size:=⟨_,rfl⟩
 rw[<-hl] at hL ⊢;rw[<-hd] at hD hR ⊢;have hS0:A8 w1 R Bx d l g rest.length cr w3.heap.size (w3.heap.size+1) (.slice A2 taken.length c2) T W1:=⟨bto H30.out.1 hbB,hL,hD,Nat.le_of_eq hBx,Zk H30.out.2.1 hbB,H30.out.2.2.1.below hbB,H30.out.2.2.2.below hbB⟩;have n1:l≠d/\w1.heap.size<l/\l<Bx:=by omega
 have n2:w1.heap.size<l/\w1.heap.size<d/\l<Bx/\d<Bx:=by omega
 have n4:w.heap.size+2<=g/\g<w1.heap.size:=by omega
 have n3:w.heap.size+1<w1.heap.size/\w.heap.size+1<d/\w.heap.size<=d/\w1.heap.size<=d:=by omega
 clear hW1 hbB hD hL hl hd hs2 hs3 hz4 hsz1 hBx H30 hL2 hwB hlo hgb;have hY:∀zs,Qy (val T) (taken.map (fun x=>val x.q)) zs->∀b0 ob ys y W,I5 w1 R Bx d l g rest.length cr fid fins day b0 ob ys W->(taken.zip (zs.map canon))[ys.length]?=some y->YieldAt Fence.wide (5-1-1) Tryz.prog l #[(Value.agg #[Value.string ⟨List.toArray y.1.id⟩,Value.string ⟨List.toArray y.1.ins⟩,Value.int .i64 y.1.acq,Value.int .i64 y.1.opn,Value.string ⟨List.toArray y.1.q⟩,Value.string ⟨List.toArray y.1.cost⟩,Value.string ⟨List.toArray y.1.used⟩]),.string ⟨y.2.toArray⟩] W fun e W'=>e=.returned (.bool true)/\I5 w1 R Bx d l g rest.length cr fid fins day b0 ob (ys++[y]) W':=by
  intro zs _ b0 ob ys y W hS hyb;obtain⟨v1,v2,hS⟩:=hS;have hlen:ys.length<1000:=by
   have h1:=(Lg.1 hyb).1;rw[List.length_zip] at h1
   have:=HSZ.out
   omega
  have hy:=run_yield (P:=Tryz.prog) (args:=#[(Value.agg #[Value.string ⟨List.toArray y.1.id⟩,Value.string ⟨List.toArray y.1.ins⟩,Value.int .i64 y.1.acq,Value.int .i64 y.1.opn,Value.string ⟨List.toArray y.1.q⟩,Value.string ⟨List.toArray y.1.cost⟩,Value.string ⟨List.toArray y.1.used⟩]),.string ⟨y.2.toArray⟩]) hS.loop (by rw[hR];rfl)
  refine⟨R.fn,_,R.assign,R.body,hy,roundIn_of_wpIn trivial ?_⟩;have hlW:=(Ag.1 hS.loop).1;have hSa:=hS.mono (Zb W (.cells #[Value.string ⟨List.toArray y.1.id⟩,Value.string ⟨List.toArray y.1.ins⟩,Value.int .i64 y.1.acq,Value.int .i64 y.1.opn,Value.string ⟨List.toArray y.1.q⟩,Value.string ⟨List.toArray y.1.cost⟩,Value.string ⟨List.toArray y.1.used⟩] 130));have hbr:=run_beginRound (P:=Tryz.prog) hSa.loop (by rw[hR])
  have hS1:Vb w1 { R with state:=.busy } Bx d l g rest.length cr b0 ob v1 v2 (ys.map (ML fid fins day)) (ys.map (L4 fid)) ((W.alloc (.cells #[Value.string ⟨List.toArray y.1.id⟩,Value.string ⟨List.toArray y.1.ins⟩,Value.int .i64 y.1.acq,Value.int .i64 y.1.opn,Value.string ⟨List.toArray y.1.q⟩,Value.string ⟨List.toArray y.1.cost⟩,Value.string ⟨List.toArray y.1.used⟩] 130)).putObj l (.loop { R with state:=.busy })):=Vb.done rfl n1 hSa
  have x4:Blk ((W.alloc (.cells #[Value.string ⟨List.toArray y.1.id⟩,Value.string ⟨List.toArray y.1.ins⟩,Value.int .i64 y.1.acq,Value.int .i64 y.1.opn,Value.string ⟨List.toArray y.1.q⟩,Value.string ⟨List.toArray y.1.cost⟩,Value.string ⟨List.toArray y.1.used⟩] 130)).putObj l (.loop { R with state:=.busy })) W.heap.size #[Value.string ⟨List.toArray y.1.id⟩,Value.string ⟨List.toArray y.1.ins⟩,Value.int .i64 y.1.acq,Value.int .i64 y.1.opn,Value.string ⟨List.toArray y.1.q⟩,Value.string ⟨List.toArray y.1.cost⟩,Value.string ⟨List.toArray y.1.used⟩]:=(Blk.new W _ 130).putO (by omega)
  obtain⟨Wb,hWb⟩:∃Wb,Wb=(W.alloc (.cells #[Value.string ⟨List.toArray y.1.id⟩,Value.string ⟨List.toArray y.1.ins⟩,Value.int .i64 y.1.acq,Value.int .i64 y.1.opn,Value.string ⟨List.toArray y.1.q⟩,Value.string ⟨List.toArray y.1.cost⟩,Value.string ⟨List.toArray y.1.used⟩] 130)).putObj l (.loop { R with state:=.busy }):=⟨_,rfl⟩
  rw[<-hWb] at hbr hS1 x4;have hRe:({ { R with state:=.busy } with state:=.ready,pending:=none }:Loop)=R:=by rw[hR]
  obtain⟨R1,hR1⟩:∃R1,R1={ R with state:=.busy }:=⟨_,rfl⟩
  rw[<-hR1] at hS1 hRe;have hw1W:w1.heap.size<W.heap.size:=by omega
  have hk1:∀k,v1.ownBlock=some k->k<W.heap.size:=fun k hk=>(World.ownsRow.lt hS.o1 k hk).2
  have hk2:∀k,v2.ownBlock=some k->k<W.heap.size:=fun k hk=>(World.ownsRow.lt hS.o2 k hk).2
  have q0:Wb.cell? ⟨w.heap.size,0,none⟩=some (.string ⟨fid.toArray⟩):=(Zg (Zk HF1.out hS1.below) 0).trans HC0.out;have q3:Wb.cell? ⟨w.heap.size,3,none⟩=some (.int .i64 day):=(Zg (Zk HF1.out hS1.below) 3).trans HC3.out;have q5:Wb.cell? ⟨w.heap.size,5,none⟩=some (.string ⟨fins.toArray⟩):=(Zg (Zk HF1.out hS1.below) 5).trans HC5.out;have r1:Wb.cell? ⟨w1.heap.size,1,none⟩=some v1:=Zg hS1.res 1;have p0:Wb.cell? ⟨W.heap.size,0,none⟩=some (.string ⟨List.toArray y.1.id⟩):=x4.c 0;have p2:Wb.cell? ⟨W.heap.size,2,none⟩=some (.int .i64 y.1.acq):=x4.c 2;have p4:Wb.cell? ⟨W.heap.size,4,none⟩=some (.string ⟨List.toArray y.1.q⟩):=x4.c 4;have p5:Wb.cell? ⟨W.heap.size,5,none⟩=some (.string ⟨List.toArray y.1.cost⟩):=x4.c 5;have hG1:=hS1.mono (Zb Wb (.cells #[.string ⟨fid.toArray⟩,.string ⟨List.toArray y.1.id⟩,.string ⟨fins.toArray⟩,.int .i64 y.1.acq,.int .i64 day,.string ⟨List.toArray y.1.q⟩,.string ⟨List.toArray y.2⟩,.string ⟨List.toArray y.1.cost⟩,.string ⟨#[]⟩,.string ⟨#[]⟩] 89));have HNW:Hid ((Wb.alloc (.cells #[.string ⟨fid.toArray⟩,.string ⟨List.toArray y.1.id⟩,.string ⟨fins.toArray⟩,.int .i64 y.1.acq,.int .i64 day,.string ⟨List.toArray y.1.q⟩,.string ⟨List.toArray y.2⟩,.string ⟨List.toArray y.1.cost⟩,.string ⟨#[]⟩,.string ⟨#[]⟩] 89)).heap[Wb.heap.size]?=some (.cells #[.string ⟨fid.toArray⟩,.string ⟨List.toArray y.1.id⟩,.string ⟨fins.toArray⟩,.int .i64 y.1.acq,.int .i64 day,.string ⟨List.toArray y.1.q⟩,.string ⟨List.toArray y.2⟩,.string ⟨List.toArray y.1.cost⟩,.string ⟨#[]⟩,.string ⟨#[]⟩] 89 (0,0))):=ZJ Wb (.cells #[.string ⟨fid.toArray⟩,.string ⟨List.toArray y.1.id⟩,.string ⟨fins.toArray⟩,.int .i64 y.1.acq,.int .i64 day,.string ⟨List.toArray y.1.q⟩,.string ⟨List.toArray y.2⟩,.string ⟨List.toArray y.1.cost⟩,.string ⟨#[]⟩,.string ⟨#[]⟩] 89);have HO1:=Lh hG1.o1;rw[List.length_map] at HO1;have HLO:Hid (Bx<=(Wb.alloc (.cells #[.string ⟨fid.toArray⟩,.string ⟨List.toArray y.1.id⟩,.string ⟨fins.toArray⟩,.int .i64 y.1.acq,.int .i64 day,.string ⟨List.toArray y.1.q⟩,.string ⟨List.toArray y.2⟩,.string ⟨List.toArray y.1.cost⟩,.string ⟨#[]⟩,.string ⟨#[]⟩] 89)).heap.size):=hG1.lo.2;have HG1:=Lh hG1;have HX4:Hid (Blk (Wb.alloc (.cells #[.string ⟨fid.toArray⟩,.string ⟨List.toArray y.1.id⟩,.string ⟨fins.toArray⟩,.int .i64 y.1.acq,.int .i64 day,.string ⟨List.toArray y.1.q⟩,.string ⟨List.toArray y.2⟩,.string ⟨List.toArray y.1.cost⟩,.string ⟨#[]⟩,.string ⟨#[]⟩] 89)) W.heap.size #[Value.string ⟨List.toArray y.1.id⟩,Value.string ⟨List.toArray y.1.ins⟩,Value.int .i64 y.1.acq,Value.int .i64 y.1.opn,Value.string ⟨List.toArray y.1.q⟩,Value.string ⟨List.toArray y.1.cost⟩,Value.string ⟨List.toArray y.1.used⟩]):=x4.below (Zb Wb (.cells #[.string ⟨fid.toArray⟩,.string ⟨List.toArray y.1.id⟩,.string ⟨fins.toArray⟩,.int .i64 y.1.acq,.int .i64 day,.string ⟨List.toArray y.1.q⟩,.string ⟨List.toArray y.2⟩,.string ⟨List.toArray y.1.cost⟩,.string ⟨#[]⟩,.string ⟨#[]⟩] 89));obtain⟨i0,hi,hz0,hz1,hz2⟩:=info_parts Ft;obtain⟨j0,hj,hj0,hj1,hj2⟩:=info_parts Fu;have HII:=Lh (And.intro hi (And.intro hz0 (And.intro hz1 hz2)));have HJJ:=Lh (And.intro hj (And.intro hj0 (And.intro hj1 hj2)));have HBr:=Lh hbr;have HRe:=Lh hRe;have HK1:=Lh hk1;have HK2:=Lh hk2;clear hWb hbr hy hS hSa hlW hS1 hRe hR1 hyb hG1 x4 hi hz0 hz1 hz2 hj hj0 hj1 hj2 hk1 hk2 hS0;rw[hR]
  gi_wp2
  refine⟨_,HBr.out,?_⟩
  gi_wp2_with (gi_at_builtin;refine XP rfl _ _ 56 rfl Bx 89 i0 (.agg #[.string ⟨#[]⟩,.string ⟨#[]⟩,.string ⟨#[]⟩,.int .i64 0,.int .i64 0,.string ⟨#[]⟩,.string ⟨#[]⟩,.string ⟨#[]⟩,.string ⟨#[]⟩,.string ⟨#[]⟩]) 10 144 Tryz.underlying56 HII.out.1 HII.out.2.1 HII.out.2.2.1 HII.out.2.2.2 rfl (by decide) _ _ _ rfl HO1.out ⟨Wb.heap.size,0,none⟩ 1 1 (LZ (ML fid fins day y)) rfl rfl ?c1 ?c2 ?c3 ?c4 ?c5 ?_)
  case c1=>
   intro j u hu;rw[Lib.add_plain];have hj:j<10:=VZ hu;show (Wb.alloc (.cells #[.string ⟨fid.toArray⟩,.string ⟨List.toArray y.1.id⟩,.string ⟨fins.toArray⟩,.int .i64 y.1.acq,.int .i64 day,.string ⟨List.toArray y.1.q⟩,.string ⟨List.toArray y.2⟩,.string ⟨List.toArray y.1.cost⟩,.string ⟨#[]⟩,.string ⟨#[]⟩] 89)).cell? ⟨Wb.heap.size,0+j,none⟩=some u;rw[Nat.zero_add,Zg HNW.out j,<-hu];show (List.toArray (LZ (ML fid fins day y)))[j]?=_;rw[List.getElem?_toArray]
  case c2=>exact DX _
  case c3=>unfold maxLen;omega
  case c4=>omega
  case c5=>exact HLO.out
  intro v1' w5 hown hgrow hfresh;replace hown:w5.ownsRow Bx 89 10 v1' ((ys.map (ML fid fins day)).length+1) (WJ (ys.map (ML fid fins day))++LZ (ML fid fins day y)):=by rw[List.length_map];exact hown
  have hg6:=HG1.out.grown n2 HG1.out.r1 hgrow;have HG6:=Lh (HG1.out.gain n2 hown hgrow (fun k hk=>(hfresh k hk).imp id (fun h=>by rw[World.size_alloc];exact h)))
  have HC6:Hid ((w5.cell? ⟨w1.heap.size,1,none⟩).isSome=true):=by show _=_;rw[Zg hg6.2.2.2.2.1 1];rfl
  have HF6:Hid (w5.frozen? ⟨w1.heap.size,1,none⟩=false):=Zm hg6.2.2.2.2.1 1;have HV6:=Lh (U8 hown);obtain⟨tx,hx4⟩:=HX4.out;have hx5:w5.heap[W.heap.size]?=some (.cells #[Value.string ⟨List.toArray y.1.id⟩,Value.string ⟨List.toArray y.1.ins⟩,Value.int .i64 y.1.acq,Value.int .i64 y.1.opn,Value.string ⟨List.toArray y.1.q⟩,Value.string ⟨List.toArray y.1.cost⟩,Value.string ⟨List.toArray y.1.used⟩] tx (0,0)):=(hgrow.block _ (Ag.1 hx4).1 (fun e=>by have:=HK1.out _ e.symm;omega)).trans hx4
  have hx6:(w5.setCell ⟨w1.heap.size,1,none⟩ v1').heap[W.heap.size]?=some (.cells #[Value.string ⟨List.toArray y.1.id⟩,Value.string ⟨List.toArray y.1.ins⟩,Value.int .i64 y.1.acq,Value.int .i64 y.1.opn,Value.string ⟨List.toArray y.1.q⟩,Value.string ⟨List.toArray y.1.cost⟩,Value.string ⟨List.toArray y.1.used⟩] tx (0,0)):=hoth hx5 (by omega)
  obtain⟨W6,hW6⟩:∃W6,W6=w5.setCell ⟨w1.heap.size,1,none⟩ v1':=⟨_,rfl⟩
  have HW6:=Lh hW6;rw[<-hW6] at HG6 hx6;have HX6:=Lh hx6;clear hown hgrow hfresh hg6 hx4 hx5 hx6 hW6 q0 q3 q5 r1 p0 p2 p4 p5 HG1 HO1 HNW HLO HX4;have q0:W6.cell? ⟨w.heap.size,0,none⟩=some (.string ⟨fid.toArray⟩):=(Zg (Zk HF1.out HG6.out.below) 0).trans HC0.out;have r2:W6.cell? ⟨w1.heap.size,2,none⟩=some v2:=Zg HG6.out.res 2;have p0:W6.cell? ⟨W.heap.size,0,none⟩=some (.string ⟨List.toArray y.1.id⟩):=Zg HX6.out 0;have p4:W6.cell? ⟨W.heap.size,4,none⟩=some (.string ⟨List.toArray y.1.q⟩):=Zg HX6.out 4;have p5:W6.cell? ⟨W.heap.size,5,none⟩=some (.string ⟨List.toArray y.1.cost⟩):=Zg HX6.out 5;have hG1:=HG6.out.mono (Zb W6 (.cells #[.string ⟨fid.toArray⟩,.string ⟨List.toArray y.1.id⟩,.string ⟨#[]⟩,.string ⟨List.toArray y.1.q⟩,.string ⟨#[]⟩,.string ⟨List.toArray y.1.cost⟩] 136));have HNW:Hid ((W6.alloc (.cells #[.string ⟨fid.toArray⟩,.string ⟨List.toArray y.1.id⟩,.string ⟨#[]⟩,.string ⟨List.toArray y.1.q⟩,.string ⟨#[]⟩,.string ⟨List.toArray y.1.cost⟩] 136)).heap[W6.heap.size]?=some (.cells #[.string ⟨fid.toArray⟩,.string ⟨List.toArray y.1.id⟩,.string ⟨#[]⟩,.string ⟨List.toArray y.1.q⟩,.string ⟨#[]⟩,.string ⟨List.toArray y.1.cost⟩] 136 (0,0))):=ZJ W6 (.cells #[.string ⟨fid.toArray⟩,.string ⟨List.toArray y.1.id⟩,.string ⟨#[]⟩,.string ⟨List.toArray y.1.q⟩,.string ⟨#[]⟩,.string ⟨List.toArray y.1.cost⟩] 136);have HO2:=Lh hG1.o2;rw[List.length_map] at HO2;have HLO:Hid (Bx<=(W6.alloc (.cells #[.string ⟨fid.toArray⟩,.string ⟨List.toArray y.1.id⟩,.string ⟨#[]⟩,.string ⟨List.toArray y.1.q⟩,.string ⟨#[]⟩,.string ⟨List.toArray y.1.cost⟩] 136)).heap.size):=hG1.lo.2;have HG1:=Lh hG1;clear hG1 HX6
  gi_wp2_with (first|(refine WP rfl 56 (.tmp 66) (.tmp 65) rfl w1.heap.size 1 v1' rfl rfl HC6.out HF6.out A9 HV6.out ?_;rw[<-HW6.out])|(gi_at_builtin;refine XP rfl _ _ 57 rfl Bx 136 j0 (.agg #[.string ⟨#[]⟩,.string ⟨#[]⟩,.string ⟨#[]⟩,.string ⟨#[]⟩,.string ⟨#[]⟩,.string ⟨#[]⟩]) 6 96 Tryz.underlying57 HJJ.out.1 HJJ.out.2.1 HJJ.out.2.2.1 HJJ.out.2.2.2 rfl (by decide) _ _ _ rfl HO2.out ⟨W6.heap.size,0,none⟩ 1 1 (L0 (L4 fid y)) rfl rfl ?d1 ?d2 ?d3 ?d4 ?d5 ?_))
  case d1=>
   intro j u hu;rw[Lib.add_plain];show (W6.alloc (.cells #[.string ⟨fid.toArray⟩,.string ⟨List.toArray y.1.id⟩,.string ⟨#[]⟩,.string ⟨List.toArray y.1.q⟩,.string ⟨#[]⟩,.string ⟨List.toArray y.1.cost⟩] 136)).cell? ⟨W6.heap.size,0+j,none⟩=some u;rw[Nat.zero_add,Zg HNW.out j,<-hu];show (List.toArray (L0 (L4 fid y)))[j]?=_;rw[List.getElem?_toArray]
  case d2=>exact DY _
  case d3=>unfold maxLen;omega
  case d4=>omega
  case d5=>exact HLO.out
  intro v2' w7 hown hgrow hfresh;replace hown:w7.ownsRow Bx 136 6 v2' ((ys.map (L4 fid)).length+1) (Uy (ys.map (L4 fid))++L0 (L4 fid y)):=by rw[List.length_map];exact hown
  have hg8:=HG1.out.grown n2 HG1.out.r2 hgrow;have HG8:=Lh (HG1.out.step n2 hown hgrow (fun k hk=>(hfresh k hk).imp id (fun h=>by rw[World.size_alloc];exact h)))
  have HC8:Hid ((w7.cell? ⟨w1.heap.size,2,none⟩).isSome=true):=by show _=_;rw[Zg hg8.2.2.2.2.1 2];rfl
  have HF8:Hid (w7.frozen? ⟨w1.heap.size,2,none⟩=false):=Zm hg8.2.2.2.2.1 2;have HV8:=Lh (U8 hown);obtain⟨W8,hW8⟩:∃W8,W8=w7.setCell ⟨w1.heap.size,2,none⟩ v2':=⟨_,rfl⟩
  have HW8:=Lh hW8;rw[<-hW8] at HG8;clear hown hgrow hfresh hg8 hW8 q0 r2 p0 p4 p5 HG1 HO2 HNW HLO HC6 HF6 HV6 HW6
  gi_wp2_with (refine WP rfl 57 (.tmp 80) (.tmp 79) rfl w1.heap.size 2 v2' rfl rfl HC8.out HF8.out Zaa HV8.out ?_;rw[<-HW8.out])
  refine⟨_,_,run_endRound (P:=Tryz.prog) none HG8.out.loop,rfl,v1',v2',?_⟩;rw[List.map_append,List.map_append];exact Vb.done (HRe.out.trans hR) n1 HG8.out
 have key:=Zcs w3.heap.size (w3.heap.size+1) A2 taken taken.length c2 T rfl hT2 HQL.out HS0.out (5-1) l (A8 w1 R Bx d l g rest.length cr w3.heap.size (w3.heap.size+1) (.slice A2 taken.length c2) T) (I5 w1 R Bx d l g rest.length cr fid fins day)
  (fun W h=>⟨hG.below (bto HB1.out h.below),HLT.out.below h.below,h.lots,h.txt⟩) (fun b0 ob W W' h hb h0 h1=>h.go fid fins day hb h0 h1) (fun b0 ob ys W h=>by obtain⟨v1,v2,h⟩:=h;exact⟨HLT.out.below h.below,h.par⟩) (fun b0 ob ys W W' h hb=>by obtain⟨v1,v2,h⟩:=h;exact⟨v1,v2,h.mono hb⟩) hY W1 hS0
 refine key.mono ?_;rintro e Wz ⟨hv,zs,b0,ob,hzs,v1,v2,hS2⟩;refine⟨hv,hS2.loop,?_⟩;have hS3:Vb w1 { R with state:=.exhausted } Bx d l g rest.length cr b0 ob v1 v2 _ _ (Wz.putObj l (.loop { R with state:=.exhausted })):=Vb.done rfl n1 hS2
 obtain⟨W3,hW3⟩:∃W3,W3=Wz.putObj l (.loop { R with state:=.exhausted }):=⟨_,rfl⟩
 rw[<-hW3] at hS3 ⊢;have hrv:=Zk HR1.out hS3.below;obtain⟨W4,hW4⟩:∃W4,W4=W3.setCells (w.heap.size+1) 0 [.slice (some ⟨g,0,none⟩) rest.length cr,v1,v2,.slice none 0 0]:=⟨_,rfl⟩
 have HW4:=Lh hW4;have HLD:Hid (W3.rangeAt w1.heap.size 0 [.slice (some ⟨g,0,none⟩) rest.length cr,v1,v2,.slice none 0 0]):=Yk hS3.res;have HTH:Hid (W3.there (w.heap.size+1) 0 4):=Wh hrv;have HM:Hid ((#[.slice (some ⟨g,0,none⟩) rest.length cr,v1,v2,.slice none 0 0]:Array Value).all (·.oneCell')=true):=all_oneCell_toArray (cs:=[.slice (some ⟨g,0,none⟩) rest.length cr,v1,v2,.slice none 0 0]) (fun v hv=>by simp only[List.mem_cons,List.not_mem_nil,or_false] at hv;rcases hv with rfl|rfl|rfl|rfl;rfl;exact U8 hS3.o1;exact U8 hS3.o2;rfl)
 have h4:W4.heap[w.heap.size+1]?=some (.cells (Sl g rest.length cr v1 v2) 60 (0,0)):=by
  rw[hW4];exact hset (o:=3) _ (hset (o:=2) _ (hset (o:=1) _ (hset (o:=0) _ hrv)))
 have h4o:∀b,b≠w.heap.size+1->W4.heap[b]?=W3.heap[b]?:=fun b hb=>by
  rw[hW4];show ((((W3.setCell ⟨w.heap.size+1,0,none⟩ _).setCell ⟨w.heap.size+1,1,none⟩ _).setCell ⟨w.heap.size+1,2,none⟩ _).setCell ⟨w.heap.size+1,3,none⟩ _).heap[b]?=_;exact (Below.heap_setCell _ _ _ b hb).trans ((Below.heap_setCell _ _ _ b hb).trans ((Below.heap_setCell _ _ _ b hb).trans (Below.heap_setCell _ _ _ b hb)))
 have h4b:Below w.heap.size w W4:=by rw[hW4];exact Lib.below_setCells _ (by omega) _ _ (bto HB1.out hS3.below)
 have hD4:W4.heap[d]?=some (.deferred (some [])):=(h4o d (by omega)).trans hS3.dfr
 have HS3:=Lh hS3;have HZS:=Lh hzs;have H4:=Lh h4;have H4O:=Lh h4o;have H4B:=Lh h4b;have HD4:=Lh hD4;have HI4:Hid ((Tryz.prog.info? 60).map (·.size)=some 4):=DZ
 clear hW3 hW4 hS3 hzs h4 h4o h4b hD4 hrv key hY hS2 hS0 hv
 gi_wp2_with (first|(refine S4 rfl 60 (.tmp 14) rfl w1.heap.size 0 rfl [.slice (some ⟨g,0,none⟩) rest.length cr,v1,v2,.slice none 0 0] HLD.out Tryz.underlying60 rfl HI4.out ?_)|(refine Vr rfl 60 (.tmp 8) (.tmp 81) rfl (w.heap.size+1) 0 #[.slice (some ⟨g,0,none⟩) rest.length cr,v1,v2,.slice none 0 0] rfl rfl HTH.out HI4.out HM.out ?_;rw[<-HW4.out]))
 refine⟨by simp,.inl ⟨_,_,rfl,run_takeDeferred HD4.out,?_⟩⟩
 have h5:(W4.putObj d (.deferred none)).heap[w.heap.size+1]?=some (.cells (Sl g rest.length cr v1 v2) 60 (0,0)):=(World.putObj_heap_other (by omega)).trans H4.out
 have h5o:∀b,b≠w.heap.size+1->b≠d->(W4.putObj d (.deferred none)).heap[b]?=W3.heap[b]?:=fun b hb hb2=>(World.putObj_heap_other (by omega)).trans (H4O.out b hb)
 have hln:(taken.zip (zs.map canon)).length=taken.length:=by rw[List.length_zip,List.length_map,HZS.out.sum.2,List.length_map];omega
 refine⟨.tuple #[.agg (Sl g rest.length cr v1 v2),.int .i64 0],results_cell_tmp Tryz.f94 8 9 60 (Sl g rest.length cr v1 v2) (.int .i64 0) rfl rfl rfl (Yk h5) Tryz.underlying60 rfl HI4.out,?_⟩;have ho1:=HS3.out.o1;have ho2:=HS3.out.o2;rw[List.length_map,hln] at ho1 ho2;refine .inr ⟨rest,taken,HTK.out,g,cr,v1,v2,rfl,⟨zs,HZS.out,Bx,Xw ho1 (fun b hb _=>h5o b (by omega) (by omega)),Xw ho2 (fun b hb _=>h5o b (by omega) (by omega))⟩,?_,HLK.out.2,Xb H4B.out n3.2.2.1⟩
 obtain⟨cur,hc,hr⟩:=HLK.out.1.below HS3.out.below;exact⟨cur,(h5o g (by omega) (by omega)).trans hc,hr⟩
end Go.Proofs.YtpieeldbamklkaaGreatDoor
namespace Go.Proofs.YtpieeldbamklkaaGreatDoor
open Go.RowKit Go.Shelf Num
theorem L5 {α:Type} [BEq α] [LawfulBEq α]:∀(l m:List α),l.Nodup->(∀x∈l,x∈m)->l.length<=m.length
 | [],_,_,_=>Nat.zero_le _
 | x::t,m,hn,hs=>by
  rw[List.nodup_cons] at hn;have hx:=hs x List.mem_cons_self;have h1:=L5 t (m.erase x) hn.2 (fun y hy=>(List.mem_erase_of_ne (fun e=>hn.1 (by rw[<-e];exact hy))).2 (hs y (List.mem_cons_of_mem _ hy)))
  have h2:=List.length_erase_of_mem hx;have h3:=List.length_pos_of_mem hx;rw[List.length_cons];omega
theorem Zab {xs zs:List Lot} {I q:List UInt8} {m:Int} {ps:List Pk} (hE:chE xs I q m ps=0) (hz:zs.Perm (ofL I xs)) :
  YC (ofI I xs) (val q) (YN zs (Nw (ofL I xs) q m ps))/\val (YN zs (Nw (ofL I xs) q m ps)).2=0/\Y3 (YN zs (Nw (ofL I xs) q m ps)).1=val q:=by
 obtain⟨c1,c2,-,-,-,c6,c7⟩:=JN hE;obtain⟨-,-,l3⟩:=OF c1;have hn:((ofI I xs).map (·.id)).Nodup:=l3.sublist ((List.filter_sublist).map _)
 have h0:YC (ofI I xs) (val q) (Nw (ofL I xs) q m ps):=by
  have h1:YC (ofI I xs) (val q) (([],q):List Pk×List UInt8):=⟨by simp[Y3],Int.le_of_lt c6,c2,fun p hp=>(by cases hp),by simp,fun p hp=>(by cases hp)⟩
  unfold Nw
  split
  ·exact Qu ps h1
  ·exact h1
 exact Dn hz hn c7 h0
def ZbC (xs:List Lot) (I q:List UInt8) (m:Int) (ps pk:List Pk):Prop:=∃zs,zs.Perm (ofL I xs)/\(m=1->(ofL I xs).length<=20->Nr cfF (ofL I xs)->zs=ofL I xs)/\pk=(YN zs (Nw (ofL I xs) q m ps)).1
structure PkQ (xs:List Lot) (I q:List UInt8) (pk:List Pk):Prop where
 inv:∃rem,YC (ofI I xs) (val q) (pk,rem)/\val rem=0
 sm:∀p∈pk,p.lot.length<=1000/\p.q.length<=1000
 len:pk.length<=1000
 pos:0<pk.length
 sum:Y3 pk=val q
theorem ZbD {xs:List Lot} {I q:List UInt8} {m:Int} {ps pk:List Pk} (hE:chE xs I q m ps=0) (hs:∀x∈xs,OD x) (hql:q.length<=900) (h:ZbC xs I q m ps pk):PkQ xs I q pk:=by
 obtain⟨zs,hz,-,rfl⟩:=h;obtain⟨h1,h2,h3⟩:=Zab (m:=m) (ps:=ps) hE hz;obtain⟨c1,c2,-,-,-,c6,c7⟩:=JN hE;obtain⟨l1,-,-⟩:=OF c1;generalize YN zs (Nw (ofL I xs) q m ps)=s at *;obtain⟨pk,rem⟩:=s;have hmem:=h1.mem;have hp:=Tu pk (fun p hp=>(h1.pos p hp).1)
 refine⟨⟨rem,h1,h2⟩,fun p hpm=>?_,?_,?_,h3⟩
 ·obtain⟨x,hx,e⟩:=hmem p hpm;have hx2:=hs x (List.mem_filter.1 hx).1;obtain⟨p1,p2⟩:=h1.pos p hpm;refine⟨by rw[<-e];exact hx2.id,?_⟩
  have h4:val p.q<=val q:=by have:=hp.2 p hpm;have h3':Y3 pk=val q:=h3;omega
  have h5:=Zz (l:=q) (k:=900) hql;rw[p2];exact Nt (Zo _ 900 (by omega)) (by decide)
 ·have h5:=L5 (pk.map (·.lot)) ((ofI I xs).map (·.id)) h1.nd (fun y hy=>by
   obtain⟨p,hpm,rfl⟩:=List.mem_map.1 hy;obtain⟨x,hx,e⟩:=hmem p hpm
   exact List.mem_map.2 ⟨x,hx,e⟩)
  rw[List.length_map,List.length_map] at h5;have h6:(ofI I xs).length<=xs.length:=List.length_filter_le _ _;show pk.length<=1000;omega
 ·cases pk with
  | nil=>have h3':(0:Int)=val q:=h3;omega
  | cons a t=>simp
theorem ZbE {xs:List Lot} {I q:List UInt8} {pk:List Pk} (hV:Vp xs=0) (hk:PkQ xs I q pk) (hp:VB xs [] pk=0) :
  OS xs pk/\((Yw (xs,[]) pk).2).map (·.q)=pk.map (·.q):=by
 obtain⟨l1,l2,l3⟩:=OF hV;have hc:∀x∈xs,x.q=canon (val x.q):=fun x hx=>(IJ (l2 x hx)).2.2.2.2.2.1
 obtain⟨rem,hi,hr⟩:=hk.inv;obtain⟨a1,a2,-⟩:=OT hc pk [] hp;exact⟨⟨l3,a1,a2⟩,(Fo l3 hc hi hr hp).2.2.2.2.1⟩
theorem OW:(Tryz.prog.info? 34).map (·.size)=some 2:=by kernel_rfl
def dgN (l:List UInt8):Int:=((Lib.trimPrefix l [45]).length:Int)
theorem I6 (l:List UInt8):Vu 287 #[.string ⟨l.toArray⟩] (.int .i64 (dgN l)):=fun w hG=>by
 have C1:=Lh (Lz l [45]);have HV:Hid (((Lib.trimPrefix l [45]).length:Int)=dgN l):=rfl;generalize Lib.trimPrefix l [45]=t at *;generalize dgN l=z at *;go_enter Tryz.func287,Tryz.ntmps287;go_wp2_with fail
 with_reducible refine (C1.out.of hG (Below.refl _ _)).mono ?_
 rintro e w1 ⟨rfl,hb1⟩;go_wp2;go_ret;exact⟨ZH HV.out,hb1⟩
theorem JS (l:List UInt8):Vu 290 #[.string ⟨l.toArray⟩] (.agg #[.string ⟨l.toArray⟩,.string ⟨#[]⟩]):=fun w hG=>by
 have hb:=Zb w (.cells #[.string ⟨l.toArray⟩,.string ⟨#[]⟩] 34);have HZ:=Lh OW;have HN:=Lh (ZJ w (.cells #[.string ⟨l.toArray⟩,.string ⟨#[]⟩] 34));go_enter Tryz.func290,Tryz.ntmps290;go_wp2;refine bodyPost_ret (v:=.agg #[.string ⟨l.toArray⟩,.string ⟨#[]⟩]) ?_ rfl ?_
 ·exact Z9 Tryz.f290 2 34 #[.string ⟨l.toArray⟩,.string ⟨#[]⟩] rfl rfl (Yk HN.out) Tryz.underlying34 rfl HZ.out
 exact⟨rfl,hb⟩
theorem D4 (p q:Bool) (w:World):Calls Tryz.prog 229 #[.bool p,.bool q] w fun e w'=>e=.returned (.func (.func 286) #[] #[.pointer (some ⟨w.heap.size,0,none⟩),.pointer (some ⟨w.heap.size+1,0,none⟩)])/\w'=(w.alloc (.cells #[.bool p] 4)).alloc (.cells #[.bool q] 4):=by
 go_enter Tryz.func229,Tryz.ntmps229;go_wp2_with fail;go_ret;exact⟨rfl,rfl⟩
def bwE (p pt:Bool) (l l':List UInt8) (q:Rat):Int:=if ¬(l=fN q/\l'=fD q) then 1 else if 40<dgN l then 4 else if 40<dgN l' then 4 else if Mt q 0<0 then 2 else if p=true/\Mt q 0=0 then 2 else if pt=true/\0<Mt q ((1:Int):Rat) then 2 else 0
theorem Zcu (p pt:Bool) {l l':List UInt8} {q:Rat} (h:IsQ l l' q) {b1 b2:Nat} {w:World} (hG:GE w) (hP:Blk w b1 #[.bool p]) (hPT:Blk w b2 #[.bool pt]) :
  Calls Tryz.prog 286 #[(Value.agg #[Value.string ⟨l.toArray⟩,Value.string ⟨l'.toArray⟩]),.pointer (some ⟨b1,0,none⟩),.pointer (some ⟨b2,0,none⟩)] w fun e w'=>e=.returned (.int .i64 (bwE p pt l l' q))/\Below w.heap.size w w':=by
 have hb0:=Zb w (.cells #[.string ⟨l.toArray⟩,.string ⟨l'.toArray⟩] 34);have x0:=Z0.ofB (ZJ w (.cells #[.string ⟨l.toArray⟩,.string ⟨l'.toArray⟩] 34));obtain⟨V,hV⟩:∃V,V=bwE p pt l l' q:=⟨_,rfl⟩
 rw[<-hV];unfold bwE at hV;obtain⟨c,hc⟩:∃c,c=Mt q 0:=⟨_,rfl⟩
 obtain⟨c2,hc2⟩:∃c,c=Mt q ((1:Int):Rat):=⟨_,rfl⟩
 have C1:=Lh ((Lv h ED hc.symm).e);have hone:IsQ (fN ((1:Int):Rat)) (fD ((1:Int):Rat)) ((1:Int):Rat):=Zs (k:=2) (Za7 (a:=1) (by decide) (by decide)) (by decide)
 have C5:=Lh ((Lv h hone hc2.symm).e);have C4:=Lh ((rOf (l:=[49]) (by decide) (z:=1) (by decide +kernel)).e)
 have C3:=Lh (fun cc hcc=>(OA h (c:=cc) hcc).e)
 rw[<-hc,<-hc2] at hV;clear hc hc2 hone;have D1:=Lh (I6 l);have D2:=Lh (I6 l');have HVV:=Lh hV;generalize dgN l=d1 at *;generalize dgN l'=d2 at *;clear hV;have q0:=x0.c0;have q1:=x0.c1;go_enter Tryz.func286,Tryz.ntmps286;go_wp2_with fail
 with_reducible refine (C1.out.of hG hb0).mono ?_
 rintro e w1 ⟨rfl,hb1⟩;have x1:=x0.below hb1;replace hb1:=bto hb0 hb1;clear x0 q0 q1 hb0 C1;have q0:=x1.c0;have q1:=x1.c1
 by_cases hcn:l=fN q/\l'=fD q
 rotate_left
 ·have C2:=Lh (C3.out 1 (if_neg hcn));have HV:Hid ((1:Int)=V):=by show _=_;rw[HVV.out,if_pos hcn]
  clear hcn;go_wp2_with fail
  with_reducible refine (C2.out.of hG hb1).mono ?_
  rintro e w2 ⟨rfl,hb2⟩;replace hb2:=bto hb1 hb2;go_wp2;go_ret;exact⟨ZH HV.out,hb2⟩
 have C2:=Lh (C3.out 0 (if_pos hcn));have HVV:Hid (V=_):=HVV.out.trans (if_neg (fun h=>h hcn))
 clear hcn C3;go_wp2_with fail
 with_reducible refine (C2.out.of hG hb1).mono ?_
 rintro e w2 ⟨rfl,hb2⟩;have x2:=x1.below hb2;replace hb2:=bto hb1 hb2;clear x1 q0 q1 hb1 C2;have q0:=x2.c0;go_wp2_with fail
 with_reducible refine (D1.out.of hG hb2).mono ?_
 rintro e w3 ⟨rfl,hb3⟩;have x3:=x2.below hb3;replace hb3:=bto hb2 hb3;clear x2 q0 hb2 D1
 by_cases g1:40<d1
 ·have e1:decide (40<d1)=true:=Dt g1;have HV:Hid ((4:Int)=V):=by show _=_;rw[HVV.out,if_pos g1]
  go_wp2;go_ret;exact⟨ZH HV.out,hb3⟩
 have e1:decide (40<d1)=false:=Df g1;have HVV:Hid (V=_):=HVV.out.trans (if_neg g1);have q1:=x3.c1;go_wp2_with fail
 with_reducible refine (D2.out.of hG hb3).mono ?_
 rintro e w5 ⟨rfl,hb5⟩;have x5:=x3.below hb5;replace hb5:=bto hb3 hb5;clear x3 q1 hb3 D2
 by_cases g2:40<d2
 ·have e2:decide (40<d2)=true:=Dt g2;have HV:Hid ((4:Int)=V):=by show _=_;rw[HVV.out,if_pos g2]
  go_wp2;go_ret;exact⟨ZH HV.out,hb5⟩
 have e2:decide (40<d2)=false:=Df g2;have HVV:Hid (V=_):=HVV.out.trans (if_neg g2);have HP:=Lh (hP.below hb5);have HPT:=Lh (hPT.below hb5);go_wp2_with fail;clear g1 g2 e1 e2 hP hPT;refine Zt (by kernel_rfl) (by kernel_rfl) ?_
 by_cases s1:c<0
 ·have e1:decide (c<0)=true:=Dt s1;refine Zd _ (fun _=>rfl) (fun ρ w hw=>by go_simp;try with_reducible rfl) ?_
  simp only[Act.put,StT,StZ,StS,Nat.reduceAdd];refine Zd (.bool true) (fun _=>rfl) (fun ρ w hw=>by go_simp;try with_reducible rfl) ?_
  simp only[Act.put,StT,StZ,StS,Nat.reduceAdd];refine Zd _ (fun _=>rfl) (fun ρ w hw=>by go_simp;try with_reducible rfl) ?_
  iterate 5
   simp only[Act.put,StT,StZ,StS,Nat.reduceAdd];refine YY (fun _=>rfl) ?_
  iterate 2
   simp only[Act.put,StT,StZ,StS,Nat.reduceAdd];refine Zd _ (fun _=>rfl) (fun ρ w hw=>by go_simp;try with_reducible rfl) ?_
  iterate 7
   simp only[Act.put,StT,StZ,StS,Nat.reduceAdd];refine YY (fun _=>rfl) ?_
  iterate 2
   simp only[Act.put,StT,StZ,StS,Nat.reduceAdd];refine Zd _ (fun _=>rfl) (fun ρ w hw=>by go_simp;try with_reducible rfl) ?_
  simp only[Act.put,StT,StZ,StS,Nat.reduceAdd];refine Ye (fun ρ w9 hF=>?_)
  have hb9:=bto hb5 hF.below;have HV:Hid ((2:Int)=V):=by show _=_;rw[HVV.out,if_pos s1]
  clear hF;go_wp2;go_ret;exact⟨ZH HV.out,hb9⟩
 have e1:decide (c<0)=false:=Df s1;have HVV:Hid (V=_):=HVV.out.trans (if_neg s1);cases p with
 | false=>
  have HVV:Hid (V=_):=HVV.out.trans (if_neg (fun h=>by cases h.1))
  cases pt with
  | false=>
   refine Zd _ (fun _=>rfl) (fun ρ w hw=>by go_simp;try with_reducible rfl) ?_
   simp only[Act.put,StT,StZ,StS,Nat.reduceAdd];refine Zd (.bool false) (fun _=>rfl) (fun ρ w hw=>by go_simp;try with_reducible rfl) ?_
   simp only[Act.put,StT,StZ,StS,Nat.reduceAdd];refine Zd _ (fun _=>rfl) (fun ρ w hw=>by go_simp;try with_reducible rfl) ?_
   simp only[Act.put,StT,StZ,StS,Nat.reduceAdd];refine Zd (.bool false) (fun _=>rfl) (fun ρ w hw=>by have q0:=(HP.out.below hw).c 0;go_simp;try with_reducible rfl) ?_
   simp only[Act.put,StT,StZ,StS,Nat.reduceAdd];refine Zd (.bool false) (fun _=>rfl) (fun ρ w hw=>by go_simp;try with_reducible rfl) ?_
   iterate 2
    simp only[Act.put,StT,StZ,StS,Nat.reduceAdd];refine YY (fun _=>rfl) ?_
   iterate 3
    simp only[Act.put,StT,StZ,StS,Nat.reduceAdd];refine Zd _ (fun _=>rfl) (fun ρ w hw=>by go_simp;try with_reducible rfl) ?_
   simp only[Act.put,StT,StZ,StS,Nat.reduceAdd];refine Zd (.bool false) (fun _=>rfl) (fun ρ w hw=>by have q0:=(HPT.out.below hw).c 0;go_simp;try with_reducible rfl) ?_
   simp only[Act.put,StT,StZ,StS,Nat.reduceAdd];refine Zd (.bool false) (fun _=>rfl) (fun ρ w hw=>by go_simp;try with_reducible rfl) ?_
   iterate 4
    simp only[Act.put,StT,StZ,StS,Nat.reduceAdd];refine YY (fun _=>rfl) ?_
   iterate 3
    simp only[Act.put,StT,StZ,StS,Nat.reduceAdd];refine Zd _ (fun _=>rfl) (fun ρ w hw=>by go_simp;try with_reducible rfl) ?_
   simp only[Act.put,StT,StZ,StS,Nat.reduceAdd];refine Ye (fun ρ w9 hF=>?_)
   have hb9:=bto hb5 hF.below;have HV:Hid ((0:Int)=V):=by show _=_;rw[HVV.out,if_neg (fun h=>by cases h.1)]
   clear hF;go_wp2;go_ret;exact⟨ZH HV.out,hb9⟩
  | true=>
   by_cases s3:0<c2
   ·have e3:decide (0<c2)=true:=Dt s3;refine Zd _ (fun _=>rfl) (fun ρ w hw=>by go_simp;try with_reducible rfl) ?_
    simp only[Act.put,StT,StZ,StS,Nat.reduceAdd];refine Zd (.bool false) (fun _=>rfl) (fun ρ w hw=>by go_simp;try with_reducible rfl) ?_
    simp only[Act.put,StT,StZ,StS,Nat.reduceAdd];refine Zd _ (fun _=>rfl) (fun ρ w hw=>by go_simp;try with_reducible rfl) ?_
    simp only[Act.put,StT,StZ,StS,Nat.reduceAdd];refine Zd (.bool false) (fun _=>rfl) (fun ρ w hw=>by have q0:=(HP.out.below hw).c 0;go_simp;try with_reducible rfl) ?_
    simp only[Act.put,StT,StZ,StS,Nat.reduceAdd];refine Zd (.bool false) (fun _=>rfl) (fun ρ w hw=>by go_simp;try with_reducible rfl) ?_
    iterate 2
     simp only[Act.put,StT,StZ,StS,Nat.reduceAdd];refine YY (fun _=>rfl) ?_
    iterate 3
     simp only[Act.put,StT,StZ,StS,Nat.reduceAdd];refine Zd _ (fun _=>rfl) (fun ρ w hw=>by go_simp;try with_reducible rfl) ?_
    simp only[Act.put,StT,StZ,StS,Nat.reduceAdd];refine Zd (.bool true) (fun _=>rfl) (fun ρ w hw=>by have q0:=(HPT.out.below hw).c 0;go_simp;try with_reducible rfl) ?_
    simp only[Act.put,StT,StZ,StS,Nat.reduceAdd];refine Zd (.bool true) (fun _=>rfl) (fun ρ w hw=>by go_simp;try with_reducible rfl) ?_
    simp only[Act.put,StT,StZ,StS,Nat.reduceAdd];refine Zd _ (fun _=>rfl) (fun ρ w hw=>by have q0:=(x5.below hw).c0;have q1:=(x5.below hw).c1;go_simp;try with_reducible rfl) ?_
    simp only[Act.put,StT,StZ,StS,Nat.reduceAdd];refine Zr _ _ _ (fun _=>rfl) (fun ρ w hw=>by go_simp;try with_reducible rfl) (fun w hw=>C4.out.of hG (bto hb5 hw)) ?_
    simp only[Act.put,StT,StZ,StS,Nat.reduceAdd];refine Zr _ _ _ (fun _=>rfl) (fun ρ w hw=>by go_simp;try with_reducible rfl) (fun w hw=>C5.out.of hG (bto hb5 hw)) ?_
    simp only[Act.put,StT,StZ,StS,Nat.reduceAdd];refine Zd (.bool true) (fun _=>rfl) (fun ρ w hw=>by go_simp;try with_reducible rfl) ?_
    iterate 3
     simp only[Act.put,StT,StZ,StS,Nat.reduceAdd];refine Zd _ (fun _=>rfl) (fun ρ w hw=>by go_simp;try with_reducible rfl) ?_
    simp only[Act.put,StT,StZ,StS,Nat.reduceAdd];refine Ye (fun ρ w9 hF=>?_)
    have hb9:=bto hb5 hF.below;have HV:Hid ((2:Int)=V):=by show _=_;rw[HVV.out,if_pos ⟨rfl,s3⟩]
    clear hF;go_wp2;go_ret;exact⟨ZH HV.out,hb9⟩
   have e3:decide (0<c2)=false:=Df s3;refine Zd _ (fun _=>rfl) (fun ρ w hw=>by go_simp;try with_reducible rfl) ?_
   simp only[Act.put,StT,StZ,StS,Nat.reduceAdd];refine Zd (.bool false) (fun _=>rfl) (fun ρ w hw=>by go_simp;try with_reducible rfl) ?_
   simp only[Act.put,StT,StZ,StS,Nat.reduceAdd];refine Zd _ (fun _=>rfl) (fun ρ w hw=>by go_simp;try with_reducible rfl) ?_
   simp only[Act.put,StT,StZ,StS,Nat.reduceAdd];refine Zd (.bool false) (fun _=>rfl) (fun ρ w hw=>by have q0:=(HP.out.below hw).c 0;go_simp;try with_reducible rfl) ?_
   simp only[Act.put,StT,StZ,StS,Nat.reduceAdd];refine Zd (.bool false) (fun _=>rfl) (fun ρ w hw=>by go_simp;try with_reducible rfl) ?_
   iterate 2
    simp only[Act.put,StT,StZ,StS,Nat.reduceAdd];refine YY (fun _=>rfl) ?_
   iterate 3
    simp only[Act.put,StT,StZ,StS,Nat.reduceAdd];refine Zd _ (fun _=>rfl) (fun ρ w hw=>by go_simp;try with_reducible rfl) ?_
   simp only[Act.put,StT,StZ,StS,Nat.reduceAdd];refine Zd (.bool true) (fun _=>rfl) (fun ρ w hw=>by have q0:=(HPT.out.below hw).c 0;go_simp;try with_reducible rfl) ?_
   simp only[Act.put,StT,StZ,StS,Nat.reduceAdd];refine Zd (.bool true) (fun _=>rfl) (fun ρ w hw=>by go_simp;try with_reducible rfl) ?_
   simp only[Act.put,StT,StZ,StS,Nat.reduceAdd];refine Zd _ (fun _=>rfl) (fun ρ w hw=>by have q0:=(x5.below hw).c0;have q1:=(x5.below hw).c1;go_simp;try with_reducible rfl) ?_
   simp only[Act.put,StT,StZ,StS,Nat.reduceAdd];refine Zr _ _ _ (fun _=>rfl) (fun ρ w hw=>by go_simp;try with_reducible rfl) (fun w hw=>C4.out.of hG (bto hb5 hw)) ?_
   simp only[Act.put,StT,StZ,StS,Nat.reduceAdd];refine Zr _ _ _ (fun _=>rfl) (fun ρ w hw=>by go_simp;try with_reducible rfl) (fun w hw=>C5.out.of hG (bto hb5 hw)) ?_
   simp only[Act.put,StT,StZ,StS,Nat.reduceAdd];refine Zd (.bool false) (fun _=>rfl) (fun ρ w hw=>by go_simp;try with_reducible rfl) ?_
   iterate 3
    simp only[Act.put,StT,StZ,StS,Nat.reduceAdd];refine Zd _ (fun _=>rfl) (fun ρ w hw=>by go_simp;try with_reducible rfl) ?_
   simp only[Act.put,StT,StZ,StS,Nat.reduceAdd];refine Ye (fun ρ w9 hF=>?_)
   have hb9:=bto hb5 hF.below;have HV:Hid ((0:Int)=V):=by show _=_;rw[HVV.out,if_neg (fun h=>s3 h.2)]
   clear hF;go_wp2;go_ret;exact⟨ZH HV.out,hb9⟩
 | true=>
  by_cases s2:c=0
  ·have e2:(c==0)=true:=by rw[beq_iff_eq];exact s2
   refine Zd _ (fun _=>rfl) (fun ρ w hw=>by go_simp;try with_reducible rfl) ?_
   simp only[Act.put,StT,StZ,StS,Nat.reduceAdd];refine Zd (.bool false) (fun _=>rfl) (fun ρ w hw=>by go_simp;try with_reducible rfl) ?_
   simp only[Act.put,StT,StZ,StS,Nat.reduceAdd];refine Zd _ (fun _=>rfl) (fun ρ w hw=>by go_simp;try with_reducible rfl) ?_
   simp only[Act.put,StT,StZ,StS,Nat.reduceAdd];refine Zd (.bool true) (fun _=>rfl) (fun ρ w hw=>by have q0:=(HP.out.below hw).c 0;go_simp;try with_reducible rfl) ?_
   iterate 2
    simp only[Act.put,StT,StZ,StS,Nat.reduceAdd];refine Zd (.bool true) (fun _=>rfl) (fun ρ w hw=>by go_simp;try with_reducible rfl) ?_
    simp only[Act.put,StT,StZ,StS,Nat.reduceAdd];refine Zd _ (fun _=>rfl) (fun ρ w hw=>by go_simp;try with_reducible rfl) ?_
   iterate 2
    simp only[Act.put,StT,StZ,StS,Nat.reduceAdd];refine Zd _ (fun _=>rfl) (fun ρ w hw=>by go_simp;try with_reducible rfl) ?_
   iterate 7
    simp only[Act.put,StT,StZ,StS,Nat.reduceAdd];refine YY (fun _=>rfl) ?_
   iterate 2
    simp only[Act.put,StT,StZ,StS,Nat.reduceAdd];refine Zd _ (fun _=>rfl) (fun ρ w hw=>by go_simp;try with_reducible rfl) ?_
   simp only[Act.put,StT,StZ,StS,Nat.reduceAdd];refine Ye (fun ρ w9 hF=>?_)
   have hb9:=bto hb5 hF.below;have HV:Hid ((2:Int)=V):=by show _=_;rw[HVV.out,if_pos ⟨rfl,s2⟩]
   clear hF;go_wp2;go_ret;exact⟨ZH HV.out,hb9⟩
  have e2:(c==0)=false:=by rw[Bn];exact s2
  have HVV:Hid (V=_):=HVV.out.trans (if_neg (fun h=>s2 h.2))
  cases pt with
  | false=>
   refine Zd _ (fun _=>rfl) (fun ρ w hw=>by go_simp;try with_reducible rfl) ?_
   simp only[Act.put,StT,StZ,StS,Nat.reduceAdd];refine Zd (.bool false) (fun _=>rfl) (fun ρ w hw=>by go_simp;try with_reducible rfl) ?_
   simp only[Act.put,StT,StZ,StS,Nat.reduceAdd];refine Zd _ (fun _=>rfl) (fun ρ w hw=>by go_simp;try with_reducible rfl) ?_
   simp only[Act.put,StT,StZ,StS,Nat.reduceAdd];refine Zd (.bool true) (fun _=>rfl) (fun ρ w hw=>by have q0:=(HP.out.below hw).c 0;go_simp;try with_reducible rfl) ?_
   simp only[Act.put,StT,StZ,StS,Nat.reduceAdd];refine Zd (.bool true) (fun _=>rfl) (fun ρ w hw=>by go_simp;try with_reducible rfl) ?_
   simp only[Act.put,StT,StZ,StS,Nat.reduceAdd];refine Zd _ (fun _=>rfl) (fun ρ w hw=>by go_simp;try with_reducible rfl) ?_
   simp only[Act.put,StT,StZ,StS,Nat.reduceAdd];refine Zd (.bool false) (fun _=>rfl) (fun ρ w hw=>by go_simp;try with_reducible rfl) ?_
   iterate 3
    simp only[Act.put,StT,StZ,StS,Nat.reduceAdd];refine Zd _ (fun _=>rfl) (fun ρ w hw=>by go_simp;try with_reducible rfl) ?_
   simp only[Act.put,StT,StZ,StS,Nat.reduceAdd];refine Zd (.bool false) (fun _=>rfl) (fun ρ w hw=>by have q0:=(HPT.out.below hw).c 0;go_simp;try with_reducible rfl) ?_
   simp only[Act.put,StT,StZ,StS,Nat.reduceAdd];refine Zd (.bool false) (fun _=>rfl) (fun ρ w hw=>by go_simp;try with_reducible rfl) ?_
   iterate 4
    simp only[Act.put,StT,StZ,StS,Nat.reduceAdd];refine YY (fun _=>rfl) ?_
   iterate 3
    simp only[Act.put,StT,StZ,StS,Nat.reduceAdd];refine Zd _ (fun _=>rfl) (fun ρ w hw=>by go_simp;try with_reducible rfl) ?_
   simp only[Act.put,StT,StZ,StS,Nat.reduceAdd];refine Ye (fun ρ w9 hF=>?_)
   have hb9:=bto hb5 hF.below;have HV:Hid ((0:Int)=V):=by show _=_;rw[HVV.out,if_neg (fun h=>by cases h.1)]
   clear hF;go_wp2;go_ret;exact⟨ZH HV.out,hb9⟩
  | true=>
   by_cases s3:0<c2
   ·have e3:decide (0<c2)=true:=Dt s3;refine Zd _ (fun _=>rfl) (fun ρ w hw=>by go_simp;try with_reducible rfl) ?_
    simp only[Act.put,StT,StZ,StS,Nat.reduceAdd];refine Zd (.bool false) (fun _=>rfl) (fun ρ w hw=>by go_simp;try with_reducible rfl) ?_
    simp only[Act.put,StT,StZ,StS,Nat.reduceAdd];refine Zd _ (fun _=>rfl) (fun ρ w hw=>by go_simp;try with_reducible rfl) ?_
    simp only[Act.put,StT,StZ,StS,Nat.reduceAdd];refine Zd (.bool true) (fun _=>rfl) (fun ρ w hw=>by have q0:=(HP.out.below hw).c 0;go_simp;try with_reducible rfl) ?_
    simp only[Act.put,StT,StZ,StS,Nat.reduceAdd];refine Zd (.bool true) (fun _=>rfl) (fun ρ w hw=>by go_simp;try with_reducible rfl) ?_
    simp only[Act.put,StT,StZ,StS,Nat.reduceAdd];refine Zd _ (fun _=>rfl) (fun ρ w hw=>by go_simp;try with_reducible rfl) ?_
    simp only[Act.put,StT,StZ,StS,Nat.reduceAdd];refine Zd (.bool false) (fun _=>rfl) (fun ρ w hw=>by go_simp;try with_reducible rfl) ?_
    iterate 3
     simp only[Act.put,StT,StZ,StS,Nat.reduceAdd];refine Zd _ (fun _=>rfl) (fun ρ w hw=>by go_simp;try with_reducible rfl) ?_
    simp only[Act.put,StT,StZ,StS,Nat.reduceAdd];refine Zd (.bool true) (fun _=>rfl) (fun ρ w hw=>by have q0:=(HPT.out.below hw).c 0;go_simp;try with_reducible rfl) ?_
    simp only[Act.put,StT,StZ,StS,Nat.reduceAdd];refine Zd (.bool true) (fun _=>rfl) (fun ρ w hw=>by go_simp;try with_reducible rfl) ?_
    simp only[Act.put,StT,StZ,StS,Nat.reduceAdd];refine Zd _ (fun _=>rfl) (fun ρ w hw=>by have q0:=(x5.below hw).c0;have q1:=(x5.below hw).c1;go_simp;try with_reducible rfl) ?_
    simp only[Act.put,StT,StZ,StS,Nat.reduceAdd];refine Zr _ _ _ (fun _=>rfl) (fun ρ w hw=>by go_simp;try with_reducible rfl) (fun w hw=>C4.out.of hG (bto hb5 hw)) ?_
    simp only[Act.put,StT,StZ,StS,Nat.reduceAdd];refine Zr _ _ _ (fun _=>rfl) (fun ρ w hw=>by go_simp;try with_reducible rfl) (fun w hw=>C5.out.of hG (bto hb5 hw)) ?_
    simp only[Act.put,StT,StZ,StS,Nat.reduceAdd];refine Zd (.bool true) (fun _=>rfl) (fun ρ w hw=>by go_simp;try with_reducible rfl) ?_
    iterate 3
     simp only[Act.put,StT,StZ,StS,Nat.reduceAdd];refine Zd _ (fun _=>rfl) (fun ρ w hw=>by go_simp;try with_reducible rfl) ?_
    simp only[Act.put,StT,StZ,StS,Nat.reduceAdd];refine Ye (fun ρ w9 hF=>?_)
    have hb9:=bto hb5 hF.below;have HV:Hid ((2:Int)=V):=by show _=_;rw[HVV.out,if_pos ⟨rfl,s3⟩]
    clear hF;go_wp2;go_ret;exact⟨ZH HV.out,hb9⟩
   have e3:decide (0<c2)=false:=Df s3;refine Zd _ (fun _=>rfl) (fun ρ w hw=>by go_simp;try with_reducible rfl) ?_
   simp only[Act.put,StT,StZ,StS,Nat.reduceAdd];refine Zd (.bool false) (fun _=>rfl) (fun ρ w hw=>by go_simp;try with_reducible rfl) ?_
   simp only[Act.put,StT,StZ,StS,Nat.reduceAdd];refine Zd _ (fun _=>rfl) (fun ρ w hw=>by go_simp;try with_reducible rfl) ?_
   simp only[Act.put,StT,StZ,StS,Nat.reduceAdd];refine Zd (.bool true) (fun _=>rfl) (fun ρ w hw=>by have q0:=(HP.out.below hw).c 0;go_simp;try with_reducible rfl) ?_
   simp only[Act.put,StT,StZ,StS,Nat.reduceAdd];refine Zd (.bool true) (fun _=>rfl) (fun ρ w hw=>by go_simp;try with_reducible rfl) ?_
   simp only[Act.put,StT,StZ,StS,Nat.reduceAdd];refine Zd _ (fun _=>rfl) (fun ρ w hw=>by go_simp;try with_reducible rfl) ?_
   simp only[Act.put,StT,StZ,StS,Nat.reduceAdd];refine Zd (.bool false) (fun _=>rfl) (fun ρ w hw=>by go_simp;try with_reducible rfl) ?_
   iterate 3
    simp only[Act.put,StT,StZ,StS,Nat.reduceAdd];refine Zd _ (fun _=>rfl) (fun ρ w hw=>by go_simp;try with_reducible rfl) ?_
   simp only[Act.put,StT,StZ,StS,Nat.reduceAdd];refine Zd (.bool true) (fun _=>rfl) (fun ρ w hw=>by have q0:=(HPT.out.below hw).c 0;go_simp;try with_reducible rfl) ?_
   simp only[Act.put,StT,StZ,StS,Nat.reduceAdd];refine Zd (.bool true) (fun _=>rfl) (fun ρ w hw=>by go_simp;try with_reducible rfl) ?_
   simp only[Act.put,StT,StZ,StS,Nat.reduceAdd];refine Zd _ (fun _=>rfl) (fun ρ w hw=>by have q0:=(x5.below hw).c0;have q1:=(x5.below hw).c1;go_simp;try with_reducible rfl) ?_
   simp only[Act.put,StT,StZ,StS,Nat.reduceAdd];refine Zr _ _ _ (fun _=>rfl) (fun ρ w hw=>by go_simp;try with_reducible rfl) (fun w hw=>C4.out.of hG (bto hb5 hw)) ?_
   simp only[Act.put,StT,StZ,StS,Nat.reduceAdd];refine Zr _ _ _ (fun _=>rfl) (fun ρ w hw=>by go_simp;try with_reducible rfl) (fun w hw=>C5.out.of hG (bto hb5 hw)) ?_
   simp only[Act.put,StT,StZ,StS,Nat.reduceAdd];refine Zd (.bool false) (fun _=>rfl) (fun ρ w hw=>by go_simp;try with_reducible rfl) ?_
   iterate 3
    simp only[Act.put,StT,StZ,StS,Nat.reduceAdd];refine Zd _ (fun _=>rfl) (fun ρ w hw=>by go_simp;try with_reducible rfl) ?_
   simp only[Act.put,StT,StZ,StS,Nat.reduceAdd];refine Ye (fun ρ w9 hF=>?_)
   have hb9:=bto hb5 hF.below;have HV:Hid ((0:Int)=V):=by show _=_;rw[HVV.out,if_neg (fun h=>s3 h.2)]
   clear hF;go_wp2;go_ret;exact⟨ZH HV.out,hb9⟩
def nmE (l:List UInt8):Int:=if Yv l=true then 0 else 23
theorem ZbF {l:List UInt8} (hl:l.length<=1000000):Vu 233 #[.string ⟨l.toArray⟩] (.int .i64 (nmE l)):=fun w hG=>by
 have C1:=Lh ((NG hl).e);have HV:Hid (nmE l=if Yv l=true then 0 else 23):=rfl
 generalize nmE l=z at *;generalize Yv l=b at *;go_enter Tryz.func233,Tryz.ntmps233;go_wp2_with fail
 with_reducible refine (C1.out.of hG (Below.refl _ _)).mono ?_
 rintro e w1 ⟨rfl,hb1⟩;cases b with
 | true=>
  go_wp2;go_ret;exact⟨ZH (by rw[HV.out];rfl),hb1⟩
 | false=>
  go_wp2;go_ret;exact⟨ZH (by rw[HV.out];rfl),hb1⟩
structure Fct where
 key:List UInt8
 ins:List UInt8
 oth:List UInt8
 cur:List UInt8
 tgt:List UInt8
 q:List UInt8
 amt:List UInt8
 fee:List UInt8
 pn:List UInt8
 pd:List UInt8
 rn:List UInt8
 rd:List UInt8
 sn:List UInt8
 sd:List UInt8
 stamp:Int
 day:Int
 kind:Int
 choice:Int
 canc:Bool
 pA:Option Addr
 pN:Nat
 pC:Nat
 oA:Option Addr
 oN:Nat
 oC:Nat
def ZB (f:Fct):Array Value:=#[.string ⟨f.key.toArray⟩,.int .i64 f.stamp,.bool f.canc,.int .i64 f.day,.int .i64 f.kind,.string ⟨f.ins.toArray⟩,.string ⟨f.oth.toArray⟩,.string ⟨f.cur.toArray⟩,.string ⟨f.tgt.toArray⟩,.string ⟨f.q.toArray⟩,.string ⟨f.amt.toArray⟩,.string ⟨f.fee.toArray⟩,.string ⟨f.pn.toArray⟩,.string ⟨f.pd.toArray⟩,.string ⟨f.rn.toArray⟩,.string ⟨f.rd.toArray⟩,.string ⟨f.sn.toArray⟩,.string ⟨f.sd.toArray⟩,.slice f.pA f.pN f.pC,.slice f.oA f.oN f.oC,.int .i64 f.choice]
structure ZbG (f:Fct):Prop where
 key:f.key.length<=1000
 ins:f.ins.length<=1000
 oth:f.oth.length<=1000
 cur:f.cur.length<=1000
 tgt:f.tgt.length<=1000
 q:f.q.length<=1000
 amt:f.amt.length<=1000
 fee:f.fee.length<=1000
 pn:f.pn.length<=1000
 pd:f.pd.length<=1000
 rn:f.rn.length<=1000
 rd:f.rd.length<=1000
 sn:f.sn.length<=1000
 sd:f.sd.length<=1000
def JU (f:Fct):Nat->Option (List UInt8×List UInt8)
 | 4=>some (f.q,[])
 | 5=>some (f.amt,[])
 | 6=>some (f.fee,[])
 | 7=>some (f.pn,f.pd)
 | 8=>some (f.rn,f.rd)
 | 9=>some (f.sn,f.sd)
 | _=>none
theorem Z8:(Tryz.prog.info? 48).map (·.size)=some 21:=by kernel_rfl
theorem Wu {P:Program} {e:Operand->Value} {o:Oper} {w:World} (ty:TypeId) (x:Operand) (ho:o.op=.load ty x) (b:Nat) (hx:e x=.pointer (some ⟨b,0,none⟩)) (cs:Array Value) {d:TypeDesc} (hc:Blk w b cs)
  (hu:P.underlying ty=some d) (hd:d.isRow=true) (hi:(P.info? ty).map (·.size)=some cs.size):(execOp e o).run P w=.ok (.value (.agg cs)) w:=by
 obtain⟨t,h⟩:=hc
 have:=ZP (P:=P) (e:=e) (w:=w) ty x ho b 0 hx cs.toList d (Yk h) hu hd (by simpa using hi)
 simpa using this
theorem Zx {P:Program} {ops:Array Oper} {rest:List Oper} {op:Oper} {a:Act} {w:World} {Q:Exit->Act->World->Prop} (hgd:op.guard=none) (ty:TypeId) (x:Operand) (ho:op.op=.load ty x)
  (b:Nat) (hx:a.eval x=.pointer (some ⟨b,0,none⟩)) (cs:Array Value) {d:TypeDesc} (hc:Blk w b cs)
  (hu:P.underlying ty=some d) (hd:d.isRow=true) (hi:(P.info? ty).map (·.size)=some cs.size)
  (h:wpList P ops Q rest (a.put op.dst (.agg cs)) w):wpList P ops Q (op::rest) a w:=
 wpList_plain hgd fun _ hK=>by
  unfold Oper.wp;rw[Wu (P:=P) (e:=a.eval) ty x ho b hx cs hc hu hd hi];exact hK _ _ h
theorem Zac {f:Fct} (hs:ZbG f) {k:Nat} {l l':List UInt8} (h:JU f k=some (l,l')):l.length<=1000/\l'.length<=1000:=by
 unfold JU at h
 split at h<;>first|(cases h;first|exact⟨hs.q,by decide⟩|exact⟨hs.amt,by decide⟩|exact⟨hs.fee,by decide⟩|exact⟨hs.pn,hs.pd⟩|exact⟨hs.rn,hs.rd⟩|exact⟨hs.sn,hs.sd⟩)|cases h
theorem D5 (f:Fct) (w:World):(Instr.index 365 (.agg #[.string ⟨#[]⟩,.string ⟨#[]⟩,.string ⟨#[]⟩,.string ⟨#[]⟩,.string ⟨#[]⟩,.string ⟨#[]⟩,.string ⟨#[]⟩,.string ⟨#[]⟩,.string ⟨f.q.toArray⟩,.string ⟨#[]⟩,.string ⟨f.amt.toArray⟩,.string ⟨#[]⟩,.string ⟨f.fee.toArray⟩,.string ⟨#[]⟩,.string ⟨f.pn.toArray⟩,.string ⟨f.pd.toArray⟩,.string ⟨f.rn.toArray⟩,.string ⟨f.rd.toArray⟩,.string ⟨f.sn.toArray⟩,.string ⟨f.sd.toArray⟩,.string ⟨#[]⟩,.string ⟨#[]⟩,.string ⟨#[]⟩,.string ⟨#[]⟩,.string ⟨#[]⟩,.string ⟨#[]⟩]) (.int .i64 4)).run Tryz.prog w=.ok (.agg #[.string ⟨f.q.toArray⟩,.string ⟨#[]⟩]) w:=by kernel_rfl
theorem D6 (f:Fct) (w:World):(Instr.index 365 (.agg #[.string ⟨#[]⟩,.string ⟨#[]⟩,.string ⟨#[]⟩,.string ⟨#[]⟩,.string ⟨#[]⟩,.string ⟨#[]⟩,.string ⟨#[]⟩,.string ⟨#[]⟩,.string ⟨f.q.toArray⟩,.string ⟨#[]⟩,.string ⟨f.amt.toArray⟩,.string ⟨#[]⟩,.string ⟨f.fee.toArray⟩,.string ⟨#[]⟩,.string ⟨f.pn.toArray⟩,.string ⟨f.pd.toArray⟩,.string ⟨f.rn.toArray⟩,.string ⟨f.rd.toArray⟩,.string ⟨f.sn.toArray⟩,.string ⟨f.sd.toArray⟩,.string ⟨#[]⟩,.string ⟨#[]⟩,.string ⟨#[]⟩,.string ⟨#[]⟩,.string ⟨#[]⟩,.string ⟨#[]⟩]) (.int .i64 5)).run Tryz.prog w=.ok (.agg #[.string ⟨f.amt.toArray⟩,.string ⟨#[]⟩]) w:=by kernel_rfl
theorem D7 (f:Fct) (w:World):(Instr.index 365 (.agg #[.string ⟨#[]⟩,.string ⟨#[]⟩,.string ⟨#[]⟩,.string ⟨#[]⟩,.string ⟨#[]⟩,.string ⟨#[]⟩,.string ⟨#[]⟩,.string ⟨#[]⟩,.string ⟨f.q.toArray⟩,.string ⟨#[]⟩,.string ⟨f.amt.toArray⟩,.string ⟨#[]⟩,.string ⟨f.fee.toArray⟩,.string ⟨#[]⟩,.string ⟨f.pn.toArray⟩,.string ⟨f.pd.toArray⟩,.string ⟨f.rn.toArray⟩,.string ⟨f.rd.toArray⟩,.string ⟨f.sn.toArray⟩,.string ⟨f.sd.toArray⟩,.string ⟨#[]⟩,.string ⟨#[]⟩,.string ⟨#[]⟩,.string ⟨#[]⟩,.string ⟨#[]⟩,.string ⟨#[]⟩]) (.int .i64 6)).run Tryz.prog w=.ok (.agg #[.string ⟨f.fee.toArray⟩,.string ⟨#[]⟩]) w:=by kernel_rfl
theorem D8 (f:Fct) (w:World):(Instr.index 365 (.agg #[.string ⟨#[]⟩,.string ⟨#[]⟩,.string ⟨#[]⟩,.string ⟨#[]⟩,.string ⟨#[]⟩,.string ⟨#[]⟩,.string ⟨#[]⟩,.string ⟨#[]⟩,.string ⟨f.q.toArray⟩,.string ⟨#[]⟩,.string ⟨f.amt.toArray⟩,.string ⟨#[]⟩,.string ⟨f.fee.toArray⟩,.string ⟨#[]⟩,.string ⟨f.pn.toArray⟩,.string ⟨f.pd.toArray⟩,.string ⟨f.rn.toArray⟩,.string ⟨f.rd.toArray⟩,.string ⟨f.sn.toArray⟩,.string ⟨f.sd.toArray⟩,.string ⟨#[]⟩,.string ⟨#[]⟩,.string ⟨#[]⟩,.string ⟨#[]⟩,.string ⟨#[]⟩,.string ⟨#[]⟩]) (.int .i64 7)).run Tryz.prog w=.ok (.agg #[.string ⟨f.pn.toArray⟩,.string ⟨f.pd.toArray⟩]) w:=by kernel_rfl
theorem Ce (f:Fct) (w:World):(Instr.index 365 (.agg #[.string ⟨#[]⟩,.string ⟨#[]⟩,.string ⟨#[]⟩,.string ⟨#[]⟩,.string ⟨#[]⟩,.string ⟨#[]⟩,.string ⟨#[]⟩,.string ⟨#[]⟩,.string ⟨f.q.toArray⟩,.string ⟨#[]⟩,.string ⟨f.amt.toArray⟩,.string ⟨#[]⟩,.string ⟨f.fee.toArray⟩,.string ⟨#[]⟩,.string ⟨f.pn.toArray⟩,.string ⟨f.pd.toArray⟩,.string ⟨f.rn.toArray⟩,.string ⟨f.rd.toArray⟩,.string ⟨f.sn.toArray⟩,.string ⟨f.sd.toArray⟩,.string ⟨#[]⟩,.string ⟨#[]⟩,.string ⟨#[]⟩,.string ⟨#[]⟩,.string ⟨#[]⟩,.string ⟨#[]⟩]) (.int .i64 8)).run Tryz.prog w=.ok (.agg #[.string ⟨f.rn.toArray⟩,.string ⟨f.rd.toArray⟩]) w:=by kernel_rfl
theorem Cf (f:Fct) (w:World):(Instr.index 365 (.agg #[.string ⟨#[]⟩,.string ⟨#[]⟩,.string ⟨#[]⟩,.string ⟨#[]⟩,.string ⟨#[]⟩,.string ⟨#[]⟩,.string ⟨#[]⟩,.string ⟨#[]⟩,.string ⟨f.q.toArray⟩,.string ⟨#[]⟩,.string ⟨f.amt.toArray⟩,.string ⟨#[]⟩,.string ⟨f.fee.toArray⟩,.string ⟨#[]⟩,.string ⟨f.pn.toArray⟩,.string ⟨f.pd.toArray⟩,.string ⟨f.rn.toArray⟩,.string ⟨f.rd.toArray⟩,.string ⟨f.sn.toArray⟩,.string ⟨f.sd.toArray⟩,.string ⟨#[]⟩,.string ⟨#[]⟩,.string ⟨#[]⟩,.string ⟨#[]⟩,.string ⟨#[]⟩,.string ⟨#[]⟩]) (.int .i64 9)).run Tryz.prog w=.ok (.agg #[.string ⟨f.sn.toArray⟩,.string ⟨f.sd.toArray⟩]) w:=by kernel_rfl
theorem Cg {f:Fct} {k:Nat} {l l':List UInt8} (hk:JU f k=some (l,l')):Vu 237 #[.agg (ZB f),.int .i64 (k:Int)] (.agg #[.string ⟨l.toArray⟩,.string ⟨l'.toArray⟩]):=fun w hG=>by
 have hb1:=Zb w (.cells (ZB f) 48);have x0:Blk (w.alloc (.cells (ZB f) 48)) w.heap.size (ZB f):=Blk.new w _ 48;obtain⟨w0,hw0⟩:∃w0,w0=w.alloc (.cells (ZB f) 48):=⟨_,rfl⟩
 have hsz0:w.heap.size+1=w0.heap.size:=by rw[hw0];exact (World.size_alloc _ _).symm
 rw[<-hw0] at hb1 x0;have hbz:=Zb w0 (.cells #[.string ⟨#[]⟩,.string ⟨#[]⟩] 34);have hbx:=heap_alloc_new w0 (.cells #[.string ⟨#[]⟩,.string ⟨#[]⟩] 34);have X:=Lh x0;have HW0:=Lh hw0;have HZ:Hid ((Tryz.prog.info? 34).map (·.size)=some 2):=OW
 have C1:=Lh (JS f.q);have C2:=Lh (JS f.amt);have C3:=Lh (JS f.fee);clear hw0 x0;unfold JU at hk
 split at hk<;>cases hk
 all_goals
  go_enter Tryz.func237,Tryz.ntmps237;go_wp2_with fail;rw[<-HW0.out]
  (try rw[hsz0])
  refine SI 20 w0.heap.size 4 _ (by kernel_rfl) (by kernel_rfl) (by decide) hbz (Nl _) hbx rfl ?_
  simp only[Act.put,List.setIfInBounds_toArray,List.set_cons_zero,List.set_cons_succ];clear hbx hsz0;refine Zd _ (fun _=>rfl) (fun ρ w hw=>by go_simp;try with_reducible rfl) ?_
  simp only[Act.put,StT,StZ,StS,Nat.reduceAdd];refine Zd _ (fun _=>rfl) (fun ρ wz hw=>by have q0:wz.cell? ⟨w.heap.size,9,none⟩=some (.string ⟨f.q.toArray⟩):=(X.out.below hw).c 9;go_simp;try with_reducible rfl) ?_
  simp only[Act.put,StT,StZ,StS,Nat.reduceAdd];refine Zr _ _ _ (fun _=>rfl) (fun ρ w hw=>by go_simp;try with_reducible rfl) (fun w hw=>C1.out.of hG (bto hb1 hw)) ?_
  simp only[Act.put,StT,StZ,StS,Nat.reduceAdd];refine Zd _ (fun _=>rfl) (fun ρ w hw=>by go_simp;try with_reducible rfl) ?_
  simp only[Act.put,StT,StZ,StS,Nat.reduceAdd];refine Zd _ (fun _=>rfl) (fun ρ wz hw=>by have q0:wz.cell? ⟨w.heap.size,10,none⟩=some (.string ⟨f.amt.toArray⟩):=(X.out.below hw).c 10;go_simp;try with_reducible rfl) ?_
  simp only[Act.put,StT,StZ,StS,Nat.reduceAdd];refine Zr _ _ _ (fun _=>rfl) (fun ρ w hw=>by go_simp;try with_reducible rfl) (fun w hw=>C2.out.of hG (bto hb1 hw)) ?_
  simp only[Act.put,StT,StZ,StS,Nat.reduceAdd];refine Zd _ (fun _=>rfl) (fun ρ w hw=>by go_simp;try with_reducible rfl) ?_
  simp only[Act.put,StT,StZ,StS,Nat.reduceAdd];refine Zd _ (fun _=>rfl) (fun ρ wz hw=>by have q0:wz.cell? ⟨w.heap.size,11,none⟩=some (.string ⟨f.fee.toArray⟩):=(X.out.below hw).c 11;go_simp;try with_reducible rfl) ?_
  simp only[Act.put,StT,StZ,StS,Nat.reduceAdd];refine Zr _ _ _ (fun _=>rfl) (fun ρ w hw=>by go_simp;try with_reducible rfl) (fun w hw=>C3.out.of hG (bto hb1 hw)) ?_
  simp only[Act.put,StT,StZ,StS,Nat.reduceAdd];refine Zd _ (fun _=>rfl) (fun ρ w hw=>by go_simp;try with_reducible rfl) ?_
  simp only[Act.put,StT,StZ,StS,Nat.reduceAdd];refine Zd _ (fun _=>rfl) (fun ρ wz hw=>by have q0:wz.cell? ⟨w.heap.size,12,none⟩=some (.string ⟨f.pn.toArray⟩):=(X.out.below hw).c 12;have q1:wz.cell? ⟨w.heap.size,13,none⟩=some (.string ⟨f.pd.toArray⟩):=(X.out.below hw).c 13;go_simp;try with_reducible rfl) ?_
  simp only[Act.put,StT,StZ,StS,Nat.reduceAdd];refine Zd _ (fun _=>rfl) (fun ρ w hw=>by go_simp;try with_reducible rfl) ?_
  simp only[Act.put,StT,StZ,StS,Nat.reduceAdd];refine Zd _ (fun _=>rfl) (fun ρ wz hw=>by have q0:wz.cell? ⟨w.heap.size,14,none⟩=some (.string ⟨f.rn.toArray⟩):=(X.out.below hw).c 14;have q1:wz.cell? ⟨w.heap.size,15,none⟩=some (.string ⟨f.rd.toArray⟩):=(X.out.below hw).c 15;go_simp;try with_reducible rfl) ?_
  simp only[Act.put,StT,StZ,StS,Nat.reduceAdd];refine Zd _ (fun _=>rfl) (fun ρ w hw=>by go_simp;try with_reducible rfl) ?_
  simp only[Act.put,StT,StZ,StS,Nat.reduceAdd];refine Zd _ (fun _=>rfl) (fun ρ wz hw=>by have q0:wz.cell? ⟨w.heap.size,16,none⟩=some (.string ⟨f.sn.toArray⟩):=(X.out.below hw).c 16;have q1:wz.cell? ⟨w.heap.size,17,none⟩=some (.string ⟨f.sd.toArray⟩):=(X.out.below hw).c 17;go_simp;try with_reducible rfl) ?_
  iterate 2
   simp only[Act.put,StT,StZ,StS,Nat.reduceAdd];refine Zd _ (fun _=>rfl) (fun ρ w hw=>by go_simp;try with_reducible rfl) ?_
  simp only[Act.put,StT,StZ,StS,Nat.reduceAdd];refine Zd _ (fun _=>rfl) (fun ρ wz hw=>by have q4:=D5 f wz;have q5:=D6 f wz;have q6:=D7 f wz;have q7:=D8 f wz;have q8:=Ce f wz;have q9:=Cf f wz;go_simp;try with_reducible rfl) ?_
  simp only[Act.put,StT,StZ,StS,Nat.reduceAdd];refine Gu 20 _ _ _ _ _ rfl rfl (fun _=>rfl) (fun ρ w hw q0 q1 q2 q3=>by go_simp;try with_reducible rfl) ?_
  simp only[Act.put,Nat.reduceAdd];refine Ye (fun ρ w3 hF=>?_)
  have hb3:=bto hb1 hF.below;have hR:=(hF.box 20 _ _ rfl).2;generalize ρ 20=b6 at *;clear hF;go_wp2;refine bodyPost_ret (Z9 Tryz.f237 4 34 _ rfl rfl (Yk hR) Tryz.underlying34 rfl HZ.out) rfl ?_;exact⟨rfl,hb3⟩
def emB (f:Fct):Nat->Bool
 | 0=>f.ins.isEmpty
 | 1=>f.oth.isEmpty
 | 2=>f.cur.isEmpty
 | 3=>f.tgt.isEmpty
 | 4=>f.q.isEmpty
 | 5=>f.amt.isEmpty
 | 6=>f.fee.isEmpty
 | 7=>f.pn.isEmpty&&f.pd.isEmpty
 | 8=>f.rn.isEmpty&&f.rd.isEmpty
 | 9=>f.sn.isEmpty&&f.sd.isEmpty
 | 10=>(f.pN:Int)==0
 | 11=>(f.oN:Int)==0
 | _=>f.choice==0
theorem ZbH (f:Fct) {k:Nat} (hk:k<13):Vu 185 #[.agg (ZB f),.int .i64 (k:Int)] (.bool (emB f k)):=fun w hG=>by
 have hb1:=Zb w (.cells (ZB f) 48);have x0:Blk (w.alloc (.cells (ZB f) 48)) w.heap.size (ZB f):=Blk.new w _ 48;have HV:=Lh (fun (k:Nat) l l' (h:JU f k=some (l,l'))=>Cg h)
 by_cases k0:k=0
 ·subst k0;have q0:(w.alloc (.cells (ZB f) 48)).cell? ⟨w.heap.size,5,none⟩=some (.string ⟨f.ins.toArray⟩):=x0.c 5;go_enter Tryz.func185,Tryz.ntmps185;go_wp2;go_ret;exact⟨Ya (by show _=_;rfl),hb1⟩
 by_cases k1:k=1
 ·subst k1;have q0:(w.alloc (.cells (ZB f) 48)).cell? ⟨w.heap.size,6,none⟩=some (.string ⟨f.oth.toArray⟩):=x0.c 6;go_enter Tryz.func185,Tryz.ntmps185;go_wp2;go_ret;exact⟨Ya (by show _=_;rfl),hb1⟩
 by_cases k2:k=2
 ·subst k2;have q0:(w.alloc (.cells (ZB f) 48)).cell? ⟨w.heap.size,7,none⟩=some (.string ⟨f.cur.toArray⟩):=x0.c 7;go_enter Tryz.func185,Tryz.ntmps185;go_wp2;go_ret;exact⟨Ya (by show _=_;rfl),hb1⟩
 by_cases k3:k=3
 ·subst k3;have q0:(w.alloc (.cells (ZB f) 48)).cell? ⟨w.heap.size,8,none⟩=some (.string ⟨f.tgt.toArray⟩):=x0.c 8;go_enter Tryz.func185,Tryz.ntmps185;go_wp2;go_ret;exact⟨Ya (by show _=_;rfl),hb1⟩
 by_cases k4:k=4
 ·subst k4;have C1:Hid (Vu 237 #[.agg (ZB f),.int .i64 4] (.agg #[.string ⟨f.q.toArray⟩,.string ⟨#[]⟩])):=HV.out 4 f.q [] rfl;go_enter Tryz.func185,Tryz.ntmps185;go_wp2_with (refine Zx rfl 48 (.tmp 2) rfl w.heap.size rfl (ZB f) x0 Tryz.underlying48 rfl Z8 ?_)
  with_reducible refine (C1.out.of hG hb1).mono ?_
  rintro e w1 ⟨rfl,hb2⟩;go_wp2
  all_goals (go_ret;refine⟨Ya ?_,bto hb1 hb2⟩;simp[emB, *])
 by_cases k5:k=5
 ·subst k5;have C1:Hid (Vu 237 #[.agg (ZB f),.int .i64 5] (.agg #[.string ⟨f.amt.toArray⟩,.string ⟨#[]⟩])):=HV.out 5 f.amt [] rfl;go_enter Tryz.func185,Tryz.ntmps185;go_wp2_with (refine Zx rfl 48 (.tmp 2) rfl w.heap.size rfl (ZB f) x0 Tryz.underlying48 rfl Z8 ?_)
  with_reducible refine (C1.out.of hG hb1).mono ?_
  rintro e w1 ⟨rfl,hb2⟩;go_wp2
  all_goals (go_ret;refine⟨Ya ?_,bto hb1 hb2⟩;simp[emB, *])
 by_cases k6:k=6
 ·subst k6;have C1:Hid (Vu 237 #[.agg (ZB f),.int .i64 6] (.agg #[.string ⟨f.fee.toArray⟩,.string ⟨#[]⟩])):=HV.out 6 f.fee [] rfl;go_enter Tryz.func185,Tryz.ntmps185;go_wp2_with (refine Zx rfl 48 (.tmp 2) rfl w.heap.size rfl (ZB f) x0 Tryz.underlying48 rfl Z8 ?_)
  with_reducible refine (C1.out.of hG hb1).mono ?_
  rintro e w1 ⟨rfl,hb2⟩;go_wp2
  all_goals (go_ret;refine⟨Ya ?_,bto hb1 hb2⟩;simp[emB, *])
 by_cases k7:k=7
 ·subst k7;have C1:Hid (Vu 237 #[.agg (ZB f),.int .i64 7] (.agg #[.string ⟨f.pn.toArray⟩,.string ⟨f.pd.toArray⟩])):=HV.out 7 f.pn f.pd rfl;go_enter Tryz.func185,Tryz.ntmps185;go_wp2_with (refine Zx rfl 48 (.tmp 2) rfl w.heap.size rfl (ZB f) x0 Tryz.underlying48 rfl Z8 ?_)
  with_reducible refine (C1.out.of hG hb1).mono ?_
  rintro e w1 ⟨rfl,hb2⟩;go_wp2
  all_goals (go_ret;refine⟨Ya ?_,bto hb1 hb2⟩;simp[emB, *])
 by_cases k8:k=8
 ·subst k8;have C1:Hid (Vu 237 #[.agg (ZB f),.int .i64 8] (.agg #[.string ⟨f.rn.toArray⟩,.string ⟨f.rd.toArray⟩])):=HV.out 8 f.rn f.rd rfl;go_enter Tryz.func185,Tryz.ntmps185;go_wp2_with (refine Zx rfl 48 (.tmp 2) rfl w.heap.size rfl (ZB f) x0 Tryz.underlying48 rfl Z8 ?_)
  with_reducible refine (C1.out.of hG hb1).mono ?_
  rintro e w1 ⟨rfl,hb2⟩;go_wp2
  all_goals (go_ret;refine⟨Ya ?_,bto hb1 hb2⟩;simp[emB, *])
 by_cases k9:k=9
 ·subst k9;have C1:Hid (Vu 237 #[.agg (ZB f),.int .i64 9] (.agg #[.string ⟨f.sn.toArray⟩,.string ⟨f.sd.toArray⟩])):=HV.out 9 f.sn f.sd rfl;go_enter Tryz.func185,Tryz.ntmps185;go_wp2_with (refine Zx rfl 48 (.tmp 2) rfl w.heap.size rfl (ZB f) x0 Tryz.underlying48 rfl Z8 ?_)
  with_reducible refine (C1.out.of hG hb1).mono ?_
  rintro e w1 ⟨rfl,hb2⟩;go_wp2
  all_goals (go_ret;refine⟨Ya ?_,bto hb1 hb2⟩;simp[emB, *])
 by_cases k10:k=10
 ·subst k10;have q0:(w.alloc (.cells (ZB f) 48)).cell? ⟨w.heap.size,18,none⟩=some (.slice f.pA f.pN f.pC):=x0.c 18;go_enter Tryz.func185,Tryz.ntmps185;go_wp2;go_ret;exact⟨Ya (by show _=_;rfl),hb1⟩
 by_cases k11:k=11
 ·subst k11;have q0:(w.alloc (.cells (ZB f) 48)).cell? ⟨w.heap.size,19,none⟩=some (.slice f.oA f.oN f.oC):=x0.c 19;go_enter Tryz.func185,Tryz.ntmps185;go_wp2;go_ret;exact⟨Ya (by show _=_;rfl),hb1⟩
 by_cases k12:k=12
 ·subst k12;have q0:(w.alloc (.cells (ZB f) 48)).cell? ⟨w.heap.size,20,none⟩=some (.int .i64 f.choice):=x0.c 20;go_enter Tryz.func185,Tryz.ntmps185;go_wp2;go_ret;exact⟨Ya (by show _=_;rfl),hb1⟩
 omega
abbrev SG:=(Nat->Value)->Act
abbrev BG':=Nat->Option (World->Value->Prop)
section
variable {P:Program} {ops:Array Oper} {md:Region.Mode} {C:World->Prop}
variable {Q:SG->BG'->Prop} {o:Oper} {rest:List Oper} {i:Nat} {a:SG} {B:BG'}
end
section
variable {P:Program} {ops:Array Oper} {C:World->Prop} {Q:St->Bx->Prop} {o:Oper} {rest:List Oper} {i:Nat} {a:St} {B:Bx}
end
theorem QB (p q:Bool) (w:World):Calls Tryz.prog 229 #[.bool p,.bool q] w fun e w'=>∃u,e=.returned u/\Below w.heap.size w w'/\∃b1 b2,u=.func (.func 286) #[] #[.pointer (some ⟨b1,0,none⟩),.pointer (some ⟨b2,0,none⟩)]/\Blk w' b1 #[.bool p]/\Blk w' b2 #[.bool q]:=by
 refine (D4 p q w).mono ?_;rintro e w' ⟨rfl,rfl⟩;obtain⟨h1,h2,h3,-⟩:=Xi w (.cells #[.bool p] 4) (.cells #[.bool q] 4);exact⟨_,rfl,h3,_,_,rfl,⟨_,h1⟩,⟨_,h2⟩⟩
end Go.Proofs.YtpieeldbamklkaaGreatDoor
