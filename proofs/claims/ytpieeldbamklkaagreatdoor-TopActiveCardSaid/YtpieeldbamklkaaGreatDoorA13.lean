/- Texts put together: Hg Hk Hi Bm. -/
import Derived.Test.YtpieeldbamklkaaGreatDoorA12
set_option maxHeartbeats 8000000
set_option maxRecDepth 100000
namespace Go.Proofs.YtpieeldbamklkaaGreatDoor
open Go.RowKit Go.Shelf Num
def ZcL (Kp:World->Prop) (gf:Nat) (lb:Array Value) (cs:List (List UInt8×Yx)):Prop:=
 ∀(m lw:Nat) (S0:World->Prop) (S:Nat->Obj->Nat->World->Prop),
  (∀W,S0 W->Kp W)->
  (∀W W1 b ob,S0 W->Below W.heap.size W W1->W.heap.size<=b->W1.heap[b]?=some ob->S b ob 0 W1)->
  (∀b ob k W,S b ob k W->Kp W/\W.heap[b]?=some ob)->
  (∀b ob k W W',S b ob k W->Below W.heap.size W W'->S b ob k W')->
  (∀b ob k c W,S b ob k W->cs[k]?=some c->YieldAt Fence.wide (m-1) Tryz.prog lw #[.int .i64 (k:Int),.agg (ptC c.1 c.2)] W fun e W'=>e=.returned (.bool true)/\S b ob (k+1) W')->
  ∀W,S0 W->CallsIn Fence.wide m Tryz.prog gf (#[.func (.yield lw) #[] #[]]++lb) W fun e W'=>(∃v,e=.returned v)/\∃b ob,S b ob cs.length W'
def TH (xs:List O5):List (List UInt8×Yx):=xs.map fun x=>(x.n,MV (Yd (xs.map (·.q))) x.q)
theorem J8 {A:Option Addr} {xs:List O5} {n:Nat} (c bl:Nat) {M K:Nat} (hn:xs.length=n) (hn2:n<=1000) (hs:∀x∈xs,BdS M x.q) (hM:(M+M+1)*n+(M+M)+1<=90000) (hK:Bd K (Yd (xs.map (·.q)))) (hKM:M+M+M+K+3<=90000) :
  ZcL (fun W=>ZQ W/\Y7 W A (xs.map raw)/\Blk W bl #[.slice A n c]) 153 #[.pointer (some ⟨bl,0,none⟩)] (TH xs):=by
 intro m lw S0 S hS0 hIN hSB hSm hY W hS;obtain⟨hGW,hSW,hBW⟩:=hS0 W hS;have K1:=Lh (O8 c hGW hn hn2 hSW hs hM);obtain⟨be,hbe⟩:∃be,be=Yd (xs.map (·.q)):=⟨_,rfl⟩
 have hCL:(TH xs).length=n:=by unfold TH;rw[List.length_map];exact hn
 have hcl:∀(k:Nat) (x:O5),xs[k]?=some x->(TH xs)[k]?=some (x.n,MV be x.q):=fun k x hx=>by unfold TH;rw[List.getElem?_map,hx,<-hbe];rfl
 rw[<-hbe] at K1 hK;have q0:W.cell? ⟨bl,0,none⟩=some (.slice A n c):=hBW.c 0;have HS:=Lh hs;have HN:=Lh hn;have HIN:=Lh hIN;have HB0:=Lh hS0;have HB:=Lh hSB;have HM:=Lh hSm;have HY:=Lh hY;have HX0:=Lh hS;have HCL:=Lh hcl;have HLN:=Lh hCL;have HK:=Lh hK;have HKM:=Lh hKM;generalize Xj (xs.map (·.q))=ow at *
 generalize fN ow=O1 at *;generalize fD ow=O2 at *;have hf1:=(rfl:fN be=fN be);have hf2:=(rfl:fD be=fD be);obtain⟨T1,hT1⟩:∃T1,T1=fN be:=⟨_,rfl⟩
 obtain⟨T2,hT2⟩:∃T2,T2=fD be:=⟨_,rfl⟩
 rw[<-hT1,<-hT2] at K1;have HT1:=Lh hT1;have HT2:=Lh hT2;clear hs hn hIN hS0 hSB hSm hY hS hcl hCL hK hKM hbe hf1 hf2 hT1 hT2 hM hGW hSW hBW;show CallsIn Fence.wide m Tryz.prog 153 #[.func (.yield lw) #[] #[],.pointer (some ⟨bl,0,none⟩)] W _;refine callsIn_of_wp Tryz.func153 rfl trivial ?_ rfl;simp only[Tryz.ntmps153,List.size_toArray,List.length_cons,List.length_nil,Nat.reduceAdd,Nat.reduceSub,Array.replicate_succ,Array.replicate_zero,List.push_toArray,List.append_toArray,List.nil_append,List.cons_append]
 gi_wp2_with fail
 refine⟨trivial,fun h=>(by cases h),?_⟩
 (with_reducible refine (callsIn_wide.2 K1.out).mono ?_)
 rintro e w1 ⟨rfl,hb1⟩;obtain⟨a1,a2,a3,a4⟩:=Xi w1 (.cells (#[.string ⟨O1.toArray⟩,.string ⟨O2.toArray⟩]) 34) (.cells (#[.string ⟨T1.toArray⟩,.string ⟨T2.toArray⟩]) 34);have q1:=((bto hb1 a3).cell (p:=⟨bl,0,none⟩) (block_lt_of_cell q0)).trans q0;obtain⟨W1,hW1⟩:∃W1,W1=(w1.alloc (.cells (#[.string ⟨O1.toArray⟩,.string ⟨O2.toArray⟩]) 34)).alloc (.cells (#[.string ⟨T1.toArray⟩,.string ⟨T2.toArray⟩]) 34):=⟨_,rfl⟩
 rw[<-hW1] at a1 a2 a3 a4;obtain⟨b4,hb4⟩:∃b4,b4=w1.heap.size+1:=⟨_,rfl⟩
 rw[<-hb4] at a2;obtain⟨ob,hob⟩:∃ob:Obj,ob=.cells (#[.string ⟨T1.toArray⟩,.string ⟨T2.toArray⟩]) 34 (0,0):=⟨_,rfl⟩
 have HOB:=Lh hob;have HW1:=Lh hW1;have HB4:=Lh hb4;have hbW:=bto hb1 a3;have HS1:Hid (S b4 ob 0 W1):=HIN.out W W1 b4 ob HX0.out hbW (by have:=hb1.size;omega) (by rw[hob];exact a2)
 clear hb1 a1 a2 a3 a4 hW1 hb4 hob hbW q0 K1 HIN HX0 HB0
 gi_wp2_with fail
 rw[<-HW1.out,<-HB4.out];clear q1 HW1 HB4
 gi_loopw [17] (fun iv wr=>∃k:Nat,k<=n/\iv=.int .i64 (k:Int)/\Hid (S b4 ob k wr)) (fun iv _=>n-(intOf iv).toNat)
 case atStart=>exact⟨0,Nat.zero_le _,rfl,HS1.out⟩
 case round=>
  clear HS1;obtain⟨k,hk,rfl,HST⟩:=hrel
  by_cases hlt:k<n
  rotate_left
  ·have hkn:k=n:=by omega
   have HE:Hid (S b4 ob (TH xs).length wr):=by show S _ _ _ _;rw[HLN.out,<-hkn];exact HST.out
   have e1:decide ((k:Int)<(n:Int))=false:=Df (by omega)
   clear HST
   gi_wp2
   go_end0
   exact⟨⟨_,rfl⟩,_,_,HE.out⟩
  have e1:decide ((k:Int)<(n:Int))=true:=Dt (by omega)
  obtain⟨x,hx⟩:∃x,xs[k]?=some x:=⟨_,List.getElem?_eq_getElem (by rw[HN.out];omega)⟩
  obtain⟨⟨hGr0,hSe,-⟩,hob⟩:=HB.out _ _ _ _ HST.out;obtain⟨b,o,rfl,hbs,z0,z1,z2,z3,z4,z5,z6,z7,z8⟩:=hSe k (raw x) (by rw[List.getElem?_map,hx];rfl)
  obtain⟨sw,sr,sb,sc⟩:=HS.out x (Lm hx);have hkm:=HKM.out;have hbe:=HK.out;have CW:=Lh (EE (Zs sw (by omega)) (Zs sb (by omega)) (rfl:x.q.w-x.q.wb=_))
  have CR:=Lh (EE (Zs sr (by omega)) (Zs sc (by omega)) (rfl:x.q.r-x.q.rb=_))
  have C1:=Lh (EE (Zs sc (by omega)) (Zs hbe (by omega)) (rfl:x.q.rb-be=_))
  have C2:=Lh (Nm (Zs (Vm sw sb) (by omega)) (Zs (Vm sc hbe) (by omega)) (rfl:(x.q.w-x.q.wb)*(x.q.rb-be)=_))
  have C3:=Lh (Nm (Zs sb (by omega)) (Zs (Vm sr sc) (by omega)) (rfl:x.q.wb*(x.q.r-x.q.rb)=_))
  have C4:=Lh (Nm (Zs (Vm sw sb) (by omega)) (Zs (Vm sr sc) (by omega)) (rfl:(x.q.w-x.q.wb)*(x.q.r-x.q.rb)=_))
  have hyy:=fun W (h1:S b4 ob k W)=>HY.out b4 ob k (x.n,MV be x.q) W h1 (HCL.out k x hx)
  unfold ptC MV at hyy;dsimp only at hyy;rw[<-HT1.out,<-HT2.out] at C1;have p0:wr.cell? ⟨b,o+k*9,none⟩=some (.string ⟨x.n.toArray⟩):=z0;have p1:wr.cell? ⟨b,o+k*9+1,none⟩=some (.string ⟨List.toArray (fN x.q.w)⟩):=z1;have p2:wr.cell? ⟨b,o+k*9+2,none⟩=some (.string ⟨List.toArray (fD x.q.w)⟩):=z2;have p3:wr.cell? ⟨b,o+k*9+3,none⟩=some (.string ⟨List.toArray (fN x.q.r)⟩):=z3;have p4:wr.cell? ⟨b,o+k*9+4,none⟩=some (.string ⟨List.toArray (fD x.q.r)⟩):=z4;have p5:wr.cell? ⟨b,o+k*9+5,none⟩=some (.string ⟨List.toArray (fN x.q.wb)⟩):=z5;have p6:wr.cell? ⟨b,o+k*9+6,none⟩=some (.string ⟨List.toArray (fD x.q.wb)⟩):=z6;have p7:wr.cell? ⟨b,o+k*9+7,none⟩=some (.string ⟨List.toArray (fN x.q.rb)⟩):=z7;have p8:wr.cell? ⟨b,o+k*9+8,none⟩=some (.string ⟨List.toArray (fD x.q.rb)⟩):=z8;clear z0 z1 z2 z3 z4 z5 z6 z7 z8;generalize fN ((x.q.w-x.q.wb)*(x.q.rb-be))=P1 at *;generalize fD ((x.q.w-x.q.wb)*(x.q.rb-be))=P2 at *;generalize fN (x.q.wb*(x.q.r-x.q.rb))=Q1 at *;generalize fD (x.q.wb*(x.q.r-x.q.rb))=Q2 at *;generalize fN ((x.q.w-x.q.wb)*(x.q.r-x.q.rb))=V1 at *;generalize fD ((x.q.w-x.q.wb)*(x.q.r-x.q.rb))=V2 at *;generalize fN (x.q.w-x.q.wb)=E1 at *;generalize fD (x.q.w-x.q.wb)=E2 at *;generalize fN (x.q.r-x.q.rb)=G1 at *;generalize fD (x.q.r-x.q.rb)=G2 at *;generalize fN (x.q.rb-be)=H1 at *;generalize fD (x.q.rb-be)=H2 at *;generalize fN x.q.w=W1 at *;generalize fD x.q.w=W2 at *;generalize fN x.q.r=R1 at *;generalize fD x.q.r=R2 at *;generalize fN x.q.wb=B1 at *;generalize fD x.q.wb=B2 at *;generalize fN x.q.rb=D1 at *;generalize fD x.q.rb=D2 at *;have HYY:=Lh hyy;have hbA:=Zb wr (.cells #[.string ⟨x.n.toArray⟩,.string ⟨W1.toArray⟩,.string ⟨W2.toArray⟩,.string ⟨R1.toArray⟩,.string ⟨R2.toArray⟩,.string ⟨B1.toArray⟩,.string ⟨B2.toArray⟩,.string ⟨D1.toArray⟩,.string ⟨D2.toArray⟩] 231);have X6:=Lh (Blk.new wr #[.string ⟨x.n.toArray⟩,.string ⟨W1.toArray⟩,.string ⟨W2.toArray⟩,.string ⟨R1.toArray⟩,.string ⟨R2.toArray⟩,.string ⟨B1.toArray⟩,.string ⟨B2.toArray⟩,.string ⟨D1.toArray⟩,.string ⟨D2.toArray⟩] 231);have HO4:Hid (wr.heap[b4]?=some (.cells (#[.string ⟨T1.toArray⟩,.string ⟨T2.toArray⟩]) 34 (0,0))):=by show _=_;rw[hob,HOB.out]
  have HO5:=Lh (Zk HO4.out hbA);have HST2:=Lh (HM.out _ _ _ _ _ HST.out hbA);have hGr:=hGr0.below hbA;have HI:Hid ((Tryz.prog.info? 156).map (·.size)=some 7):=by
   show _=_
   kernel_rfl
  clear hx hSe hob hGr0 sw sr sb sc hkm hbe hyy HST HO4 hbA
  gi_wp2_with fail
  refine wpIn_wide.2 ?_;refine Zt (by kernel_rfl) (by kernel_rfl) ?_
  refine Zd _ (fun _=>rfl) (fun ρ wz hw=>by go_simp;try with_reducible rfl) ?_
  simp only[Act.put,StT,StZ,StS,Nat.reduceAdd];refine Zd _ (fun _=>rfl) (fun ρ wz hw=>by have q0:wz.cell? ⟨wr.heap.size,1,none⟩=some (.string ⟨W1.toArray⟩):=(X6.out.below hw).c 1;have q1:wz.cell? ⟨wr.heap.size,2,none⟩=some (.string ⟨W2.toArray⟩):=(X6.out.below hw).c 2;go_simp;try with_reducible rfl) ?_
  simp only[Act.put,StT,StZ,StS,Nat.reduceAdd];refine Zd _ (fun _=>rfl) (fun ρ wz hw=>by go_simp;try with_reducible rfl) ?_
  simp only[Act.put,StT,StZ,StS,Nat.reduceAdd];refine Zd _ (fun _=>rfl) (fun ρ wz hw=>by have q0:wz.cell? ⟨wr.heap.size,5,none⟩=some (.string ⟨B1.toArray⟩):=(X6.out.below hw).c 5;have q1:wz.cell? ⟨wr.heap.size,6,none⟩=some (.string ⟨B2.toArray⟩):=(X6.out.below hw).c 6;go_simp;try with_reducible rfl) ?_
  simp only[Act.put,StT,StZ,StS,Nat.reduceAdd];refine Zr _ _ _ (fun _=>rfl) (fun ρ wz hw=>by go_simp;try with_reducible rfl) (fun wz hw=>CW.out.of hGr hw) ?_
  simp only[Act.put,StT,StZ,StS,Nat.reduceAdd];refine Zd _ (fun _=>rfl) (fun ρ wz hw=>by go_simp;try with_reducible rfl) ?_
  simp only[Act.put,StT,StZ,StS,Nat.reduceAdd];refine Zd _ (fun _=>rfl) (fun ρ wz hw=>by have q0:wz.cell? ⟨wr.heap.size,3,none⟩=some (.string ⟨R1.toArray⟩):=(X6.out.below hw).c 3;have q1:wz.cell? ⟨wr.heap.size,4,none⟩=some (.string ⟨R2.toArray⟩):=(X6.out.below hw).c 4;go_simp;try with_reducible rfl) ?_
  simp only[Act.put,StT,StZ,StS,Nat.reduceAdd];refine Zd _ (fun _=>rfl) (fun ρ wz hw=>by go_simp;try with_reducible rfl) ?_
  simp only[Act.put,StT,StZ,StS,Nat.reduceAdd];refine Zd _ (fun _=>rfl) (fun ρ wz hw=>by have q0:wz.cell? ⟨wr.heap.size,7,none⟩=some (.string ⟨D1.toArray⟩):=(X6.out.below hw).c 7;have q1:wz.cell? ⟨wr.heap.size,8,none⟩=some (.string ⟨D2.toArray⟩):=(X6.out.below hw).c 8;go_simp;try with_reducible rfl) ?_
  simp only[Act.put,StT,StZ,StS,Nat.reduceAdd];refine Zr _ _ _ (fun _=>rfl) (fun ρ wz hw=>by go_simp;try with_reducible rfl) (fun wz hw=>CR.out.of hGr hw) ?_
  iterate 2
   simp only[Act.put,StT,StZ,StS,Nat.reduceAdd];refine SH (fun b=>.pointer (some ⟨b,0,none⟩)) _ rfl (fun _=>rfl) (fun ρ wz hw=>by go_simp;try with_reducible rfl) ?_
  simp only[Act.put,StT,StZ,StS,Nat.reduceAdd];refine ND 10 _ 7 _ _ _ _ _ rfl rfl rfl (by decide) (fun _=>rfl) (fun ρ wz hw q0 q1 q2 q3=>by go_simp;try with_reducible rfl) ?_
  simp only[Act.put,Nat.reduceAdd];refine ND 11 _ 8 _ _ _ _ _ rfl rfl rfl (by decide) (fun _=>rfl) (fun ρ wz hw q0 q1 q2 q3=>by go_simp;try with_reducible rfl) ?_
  simp only[Act.put,Nat.reduceAdd];intro ρ w4 hF;dsimp only;have X7:Hid (Blk w4 (ρ 10) (#[.string ⟨E1.toArray⟩,.string ⟨E2.toArray⟩])):=⟨_,(hF.box 10 _ _ rfl).2⟩;have X8:Hid (Blk w4 (ρ 11) (#[.string ⟨G1.toArray⟩,.string ⟨G2.toArray⟩])):=⟨_,(hF.box 11 _ _ rfl).2⟩;generalize ρ 10=b7 at *;generalize ρ 11=b8 at *;have hbF:=hF.below;have Y6:=Lh (X6.out.below hbF);have X4:Hid (Blk w4 b4 (#[.string ⟨T1.toArray⟩,.string ⟨T2.toArray⟩])):=⟨_,Zk HO5.out hbF⟩;have HST3:=Lh (HM.out _ _ _ _ _ HST2.out hbF);have hGs:=hGr.below hbF;clear hF hbF X6 HO5 HST2 CW CR hGr p0 p1 p2 p3 p4 p5 p6 p7 p8
  gi_wp2_with fail
  refine wpIn_wide.2 ?_;refine Zt (by kernel_rfl) (by kernel_rfl) ?_
  refine Zd _ (fun _=>rfl) (fun ρ wz hw=>by go_simp;try with_reducible rfl) ?_
  simp only[Act.put,StT,StZ,StS,Nat.reduceAdd];refine Zd _ (fun _=>rfl) (fun ρ wz hw=>by have q0:wz.cell? ⟨wr.heap.size,0,none⟩=some (.string ⟨x.n.toArray⟩):=(Y6.out.below hw).c 0;go_simp;try with_reducible rfl) ?_
  simp only[Act.put,StT,StZ,StS,Nat.reduceAdd];refine Zd _ (fun _=>rfl) (fun ρ wz hw=>by have q0:wz.cell? ⟨b7,0,none⟩=some (.string ⟨E1.toArray⟩):=(X7.out.below hw).c 0;have q1:wz.cell? ⟨b7,1,none⟩=some (.string ⟨E2.toArray⟩):=(X7.out.below hw).c 1;go_simp;try with_reducible rfl) ?_
  simp only[Act.put,StT,StZ,StS,Nat.reduceAdd];refine Zd _ (fun _=>rfl) (fun ρ wz hw=>by go_simp;try with_reducible rfl) ?_
  simp only[Act.put,StT,StZ,StS,Nat.reduceAdd];refine Zd _ (fun _=>rfl) (fun ρ wz hw=>by have q0:wz.cell? ⟨wr.heap.size,7,none⟩=some (.string ⟨D1.toArray⟩):=(Y6.out.below hw).c 7;have q1:wz.cell? ⟨wr.heap.size,8,none⟩=some (.string ⟨D2.toArray⟩):=(Y6.out.below hw).c 8;go_simp;try with_reducible rfl) ?_
  simp only[Act.put,StT,StZ,StS,Nat.reduceAdd];refine Zd _ (fun _=>rfl) (fun ρ wz hw=>by have q0:wz.cell? ⟨b4,0,none⟩=some (.string ⟨T1.toArray⟩):=(X4.out.below hw).c 0;have q1:wz.cell? ⟨b4,1,none⟩=some (.string ⟨T2.toArray⟩):=(X4.out.below hw).c 1;go_simp;try with_reducible rfl) ?_
  simp only[Act.put,StT,StZ,StS,Nat.reduceAdd];refine Zr _ _ _ (fun _=>rfl) (fun ρ wz hw=>by go_simp;try with_reducible rfl) (fun wz hw=>C1.out.of hGs hw) ?_
  simp only[Act.put,StT,StZ,StS,Nat.reduceAdd];refine Zr _ _ _ (fun _=>rfl) (fun ρ wz hw=>by go_simp;try with_reducible rfl) (fun wz hw=>C2.out.of hGs hw) ?_
  simp only[Act.put,StT,StZ,StS,Nat.reduceAdd];refine Zd _ (fun _=>rfl) (fun ρ wz hw=>by go_simp;try with_reducible rfl) ?_
  simp only[Act.put,StT,StZ,StS,Nat.reduceAdd];refine Zd _ (fun _=>rfl) (fun ρ wz hw=>by have q0:wz.cell? ⟨wr.heap.size,5,none⟩=some (.string ⟨B1.toArray⟩):=(Y6.out.below hw).c 5;have q1:wz.cell? ⟨wr.heap.size,6,none⟩=some (.string ⟨B2.toArray⟩):=(Y6.out.below hw).c 6;go_simp;try with_reducible rfl) ?_
  simp only[Act.put,StT,StZ,StS,Nat.reduceAdd];refine Zd _ (fun _=>rfl) (fun ρ wz hw=>by have q0:wz.cell? ⟨b8,0,none⟩=some (.string ⟨G1.toArray⟩):=(X8.out.below hw).c 0;have q1:wz.cell? ⟨b8,1,none⟩=some (.string ⟨G2.toArray⟩):=(X8.out.below hw).c 1;go_simp;try with_reducible rfl) ?_
  simp only[Act.put,StT,StZ,StS,Nat.reduceAdd];refine Zr _ _ _ (fun _=>rfl) (fun ρ wz hw=>by go_simp;try with_reducible rfl) (fun wz hw=>C3.out.of hGs hw) ?_
  simp only[Act.put,StT,StZ,StS,Nat.reduceAdd];refine Zd _ (fun _=>rfl) (fun ρ wz hw=>by have q0:wz.cell? ⟨b7,0,none⟩=some (.string ⟨E1.toArray⟩):=(X7.out.below hw).c 0;have q1:wz.cell? ⟨b7,1,none⟩=some (.string ⟨E2.toArray⟩):=(X7.out.below hw).c 1;go_simp;try with_reducible rfl) ?_
  simp only[Act.put,StT,StZ,StS,Nat.reduceAdd];refine Zd _ (fun _=>rfl) (fun ρ wz hw=>by have q0:wz.cell? ⟨b8,0,none⟩=some (.string ⟨G1.toArray⟩):=(X8.out.below hw).c 0;have q1:wz.cell? ⟨b8,1,none⟩=some (.string ⟨G2.toArray⟩):=(X8.out.below hw).c 1;go_simp;try with_reducible rfl) ?_
  simp only[Act.put,StT,StZ,StS,Nat.reduceAdd];refine Zr _ _ _ (fun _=>rfl) (fun ρ wz hw=>by go_simp;try with_reducible rfl) (fun wz hw=>C4.out.of hGs hw) ?_
  simp only[Act.put,StT,StZ,StS,Nat.reduceAdd];refine Zd _ (fun _=>rfl) (fun ρ wz hw=>by go_simp;try with_reducible rfl) ?_
  simp only[Act.put,StT,StZ,StS,Nat.reduceAdd];refine SH (fun b=>.pointer (some ⟨b,0,none⟩)) _ rfl (fun _=>rfl) (fun ρ wz hw=>by go_simp;try with_reducible rfl) ?_
  simp only[Act.put,StT,StZ,StS,Nat.reduceAdd];refine Qz 16 0 _ 9 #[.string ⟨#[]⟩,.string ⟨#[]⟩,.string ⟨#[]⟩,.string ⟨#[]⟩,.string ⟨#[]⟩,.string ⟨#[]⟩,.string ⟨#[]⟩] [.string ⟨x.n.toArray⟩,.string ⟨P1.toArray⟩,.string ⟨P2.toArray⟩,.string ⟨Q1.toArray⟩,.string ⟨Q2.toArray⟩,.string ⟨V1.toArray⟩,.string ⟨V2.toArray⟩] 156 rfl rfl rfl (by decide) (fun _=>rfl) (fun ρ wz hw hc hf=>Zn 156 _ _ rfl (ρ 16) 0 #[.string ⟨x.n.toArray⟩,.string ⟨P1.toArray⟩,.string ⟨P2.toArray⟩,.string ⟨Q1.toArray⟩,.string ⟨Q2.toArray⟩,.string ⟨V1.toArray⟩,.string ⟨V2.toArray⟩] rfl rfl (fun j hj=>⟨by have hj:j<7:=hj;rw[hc,Array.getElem?_eq_getElem (by show 0+j<7;omega)];rfl,hf _⟩) HI.out (Zax _ _ _ _ _ _ _)) ?_
  simp only[Act.put,Nat.reduceAdd];intro ρ2 w5 hF;dsimp only;have X9:Hid (Blk w5 (ρ2 16) #[.string ⟨x.n.toArray⟩,.string ⟨P1.toArray⟩,.string ⟨P2.toArray⟩,.string ⟨Q1.toArray⟩,.string ⟨Q2.toArray⟩,.string ⟨V1.toArray⟩,.string ⟨V2.toArray⟩]):=⟨_,(hF.box 16 _ _ rfl).2⟩;generalize ρ2 16=b9 at *;have HST4:=Lh (HM.out _ _ _ _ _ HST3.out hF.below);have g0:w5.cell? ⟨b9,0,none⟩=some (.string ⟨x.n.toArray⟩):=X9.out.c 0;have g1:w5.cell? ⟨b9,1,none⟩=some (.string ⟨P1.toArray⟩):=X9.out.c 1;have g2:w5.cell? ⟨b9,2,none⟩=some (.string ⟨P2.toArray⟩):=X9.out.c 2;have g3:w5.cell? ⟨b9,3,none⟩=some (.string ⟨Q1.toArray⟩):=X9.out.c 3;have g4:w5.cell? ⟨b9,4,none⟩=some (.string ⟨Q2.toArray⟩):=X9.out.c 4;have g5:w5.cell? ⟨b9,5,none⟩=some (.string ⟨V1.toArray⟩):=X9.out.c 5;have g6:w5.cell? ⟨b9,6,none⟩=some (.string ⟨V2.toArray⟩):=X9.out.c 6;clear hF X7 X8 X4 Y6 HST3 C1 C2 C3 C4 hGs X9;obtain⟨fn,tmps,assign,body,hyr,hR⟩:=HYY.out w5 HST4.out
  gi_wp2
  refine⟨fun h=>(by cases h),hR.mono ?_⟩
  rintro e W3 ⟨rfl,hS3⟩;have HST5:=Lh hS3;clear hS3 hR hyr HST4
  gi_wp2
  go_roundw
  case rel=>exact⟨k+1,by omega,by go_num,HST5.out⟩
  case measure=>simp[intOf];omega
theorem L8 (A:Option Addr) (n c:Nat) (w:World) :
  Calls Tryz.prog 77 #[.slice A n c] w fun e w'=>e=.returned (.func (.func 153) #[] #[.pointer (some ⟨w.heap.size,0,none⟩)])/\w'=w.alloc (.cells #[.slice A n c] 76):=by
 go_enter Tryz.func77,Tryz.ntmps77;go_wp2_with fail;go_ret;exact⟨rfl,rfl⟩
def qL (xs:List Sec):List Pq:=xs.map fun x=>(WK x).q
theorem Ss (xs:List Sec):(xs.map WK).map (·.q)=qL xs:=by unfold qL;rw[List.map_map];rfl
def O9 (n0:List (List UInt8)):List (List Sec)->Int
 | []=>0
 | x::r=>if Sr x≠0 then Sr x else if (nmS x==n0)=false then 9 else O9 n0 r
theorem FL {n0:List (List UInt8)} {ps:List (List Sec)} {k:Nat} {x:List Sec} (h:ps[k]?=some x):O9 n0 (ps.drop k)=if Sr x≠0 then Sr x else if (nmS x==n0)=false then 9 else O9 n0 (ps.drop (k+1)):=by
 obtain⟨h1,rfl⟩:=Lg.1 h;rw[List.drop_eq_getElem_cons h1,O9]
theorem MY {n0:List (List UInt8)}:∀{ps:List (List Sec)},O9 n0 ps=0->∀x∈ps,Sr x=0/\nmS x=n0
 | [],_,x,hx=>by simp at hx
 | y::r,h,x,hx=>by
  rw[O9] at h
  by_cases h1:Sr y≠0
  ·rw[if_pos h1] at h;exact absurd h h1
  rw[if_neg h1] at h
  by_cases h2:(nmS y==n0)=false
  ·rw[if_pos h2] at h;cases h
  rw[if_neg h2] at h;rcases List.mem_cons.1 hx with rfl|hx
  ·exact⟨by omega,eq_of_beq (by simpa using h2)⟩
  ·exact MY h x hx
structure Ht (x:List Sec):Prop where
 len:x.length≠0/\x.length<=32
 raw:x=(x.map WK).map raw
 nm:∀s∈x,Yv s.n=true
 w:ZV (fun q=>q.w) (qL x)=1
 b:ZV (fun q=>q.wb) (qL x)=1
theorem MZ {x:List Sec} (h:Sr x=0):Ht x:=by
 unfold Sr at h
 by_cases h1:x.length=0
 ·rw[if_pos h1] at h;cases h
 rw[if_neg h1] at h
 by_cases h2:32<x.length
 ·rw[if_pos h2] at h;cases h
 rw[if_neg h2] at h
 by_cases h3:Qf [] x≠0
 ·rw[if_pos h3] at h;exact absurd h h3
 rw[if_neg h3] at h
 by_cases h4:J7 x=true
 ·obtain⟨r1,r2⟩:=MW x [] (by omega)
  unfold J7 at h4;rw[Bool.and_eq_true] at h4;refine⟨⟨h1,by omega⟩,r1,r2,?_,?_⟩
  ·unfold qL;rw[WH];exact of_decide_eq_true h4.1
  ·unfold qL;rw[WH];exact of_decide_eq_true h4.2
 ·rw[if_neg h4] at h;cases h
abbrev YF:=List (List UInt8×Yx)
def Ud (g:Rat) (x:List Sec) (o:YF):YF:=List.zipWith (fun o c=>(c.1,Vt (ZC o.2 (1+Yd (qL x))) (ZC c.2 g))) o (TH (x.map WK))
def Vv (o:YF) (g:Rat):List (List Sec)->YF
 | []=>o
 | x::r=>Vv (Ud g x o) (g*(1+Xj (qL x))) r
theorem FM {o:YF} {g:Rat} {ps:List (List Sec)} {k:Nat} {x:List Sec} (h:ps[k]?=some x):Vv o g (ps.drop k)=Vv (Ud g x o) (g*(1+Xj (qL x))) (ps.drop (k+1)):=by
 obtain⟨h1,rfl⟩:=Lg.1 h;rw[List.drop_eq_getElem_cons h1,Vv]
theorem Na (xs:List O5):(TH xs).length=xs.length:=by unfold TH;rw[List.length_map]
theorem TB (g:Rat) {x:List Sec} {o:YF} (h:o.length=x.length):(Ud g x o).length=x.length:=by
 unfold Ud;rw[List.length_zipWith,Na,List.length_map,h,Nat.min_self]
theorem CX {g:Rat} {x:List Sec} {o:YF} {k:Nat} {p c:List UInt8×Yx} (h:o[k]?=some p) (h2:(TH (x.map WK))[k]?=some c):(Ud g x o)[k]?=some (c.1,Vt (ZC p.2 (1+Yd (qL x))) (ZC c.2 g)):=by
 unfold Ud;rw[List.getElem?_zipWith,h,h2]
def UL (k:Nat) (o z:YF):YF:=z.take k++o.drop k
theorem CY {k:Nat} {o z:YF} (h:o.length=k) (h2:z.length=k):UL k o z=z:=by
 unfold UL;rw[List.take_of_length_le (by omega),List.drop_of_length_le (by omega),List.append_nil]
theorem CZ {k:Nat} {o z:YF} (h:z.length=o.length):(UL k o z).length=o.length:=by
 unfold UL;rw[List.length_append,List.length_take,List.length_drop];omega
theorem C7 {k:Nat} {o z:YF} (h:z.length=o.length) (hk:k<o.length):(UL k o z)[k]?=o[k]?:=by
 unfold UL;rw[List.getElem?_append_right (by rw[List.length_take];omega),List.getElem?_drop,List.length_take]
 congr 1;omega
theorem C8 {k:Nat} {o z:YF} {y:List UInt8×Yx} (h:z.length=o.length) (hy:z[k]?=some y):(UL k o z).set k y=UL (k+1) o z:=by
 have hk:=(Lg.1 hy).1;unfold UL;rw[List.set_append_right _ _ (by rw[List.length_take];omega),Xu hy,List.length_take,List.append_assoc,Nat.min_eq_left (by omega),Nat.sub_self,List.drop_eq_getElem_cons (by omega),List.set_cons_zero]
 rfl
theorem FN (g:Rat) (x:List Sec) (o:YF):(Ud g x o).map (·.2)=Hp (o.map (·.2)) g (qL x):=by
 unfold Ud Hp TH;rw[Ss];generalize Yd (qL x)=b;unfold qL
 induction x generalizing o with
 | nil=>simp
 | cons s r ih=>
  cases o with
  | nil=>simp
  | cons p o=>
   simp only[List.map_cons,List.zipWith_cons_cons,List.cons.injEq,true_and];exact ih o
theorem Hu {m:Nat}:∀(ps:List (List Sec)) (o:YF) (G B:Rat),(∀x∈ps,Ht x/\x.length=m)->o.length=m->ZV Vd (o.map (·.2))=G-B->
  ZV Vd ((Vv o G ps).map (·.2))=ZD G (ps.map fun x=>Xj (qL x)+1)-ZD B (ps.map fun x=>Yd (qL x)+1)
 | [],o,G,B,_,_,h=>h
 | x::r,o,G,B,hs,hm,h=>by
  obtain⟨h1,h2⟩:=hs x (by simp)
  have hq:(qL x).length=m:=by unfold qL;rw[List.length_map];exact h2
  have hl:=Cw (out:=o.map (·.2)) (l:=qL x) (G:=G) (B:=B) (by rw[List.length_map,hm,hq]) h1.w h1.b h
  rw[Vv,List.map_cons,List.map_cons,ZD,ZD];have e:G*(1+Xj (qL x))=G*(Xj (qL x)+1):=by rw[Rat.add_comm]
  rw[e];exact Hu r _ _ _ (fun y hy=>hs y (by simp[hy])) (by rw[TB G (by omega)];exact h2) (by rw[FN];exact hl)
def Xe (m:Nat):YF:=List.replicate m ([],⟨0,0,0⟩)
theorem N8:∀m,ZV Vd ((Xe m).map (·.2))=(1:Rat)-1
 | 0=>by show (0:Rat)=_;grind
 | m+1=>by
  have ih:=N8 m;unfold Xe at ih ⊢;rw[List.replicate_succ,List.map_cons,ZV,ih];unfold Vd
  grind
theorem L9 (m:Nat):∀p∈Xe m,BdP 1 p.2:=fun p hp=>by
 obtain⟨-,rfl⟩:=List.mem_replicate.1 hp;exact⟨PD,PD,PD⟩
structure SmP (x:List Sec):Prop where
 len:x.length<=5
 bd:∀y∈x.map WK,BdS 12 y.q
theorem SmP.own {x:List Sec} (h:SmP x):Bd 126 (Xj (qL x)):=by
 refine YQ (Qe (fun q:Pq=>q.w*q.r) 24 (qL x) fun q hq=>?_) ?_
 ·rw[<-Ss] at hq;obtain⟨y,hy,rfl⟩:=List.mem_map.1 hq;exact Yn (h.bd y hy).1 (h.bd y hy).2.1
 ·have:=h.len
  unfold qL;rw[List.length_map];omega
theorem SmP.ben {x:List Sec} (h:SmP x):Bd 126 (Yd (qL x)):=by
 refine YQ (Qe (fun q:Pq=>q.wb*q.rb) 24 (qL x) fun q hq=>?_) ?_
 ·rw[<-Ss] at hq;obtain⟨y,hy,rfl⟩:=List.mem_map.1 hq;exact Yn (h.bd y hy).2.2.1 (h.bd y hy).2.2.2
 ·have:=h.len
  unfold qL;rw[List.length_map];omega
theorem SmP.con {x:List Sec} (h:SmP x):∀c∈TH (x.map WK),BdP 200 c.2:=fun c hc=>by
 unfold TH at hc;rw[Ss] at hc;obtain⟨y,hy,rfl⟩:=List.mem_map.1 hc;obtain⟨h1,h2,h3,h4⟩:=h.bd y hy;exact⟨YQ (Yn (Vm h1 h3) (Vm h4 h.ben)) (by decide),YQ (Yn h3 (Vm h2 h4)) (by decide),YQ (Yn (Vm h1 h3) (Vm h2 h4)) (by decide)⟩
theorem Ke {g:Rat} {x:List Sec} {o:YF} {M P:Nat} (hx:SmP x) (ho:∀p∈o,BdP M p.2) (hg:Bd P g):∀p∈Ud g x o,BdP (M+128+(200+P)+1) p.2:=fun p hp=>by
 obtain⟨k,hk⟩:=List.getElem?_of_mem hp;unfold Ud at hk;rw[List.getElem?_zipWith] at hk;cases h1:o[k]? with
 | none=>rw[h1] at hk;cases hk
 | some a=>
  cases h2:(TH (x.map WK))[k]? with
  | none=>rw[h1,h2] at hk;cases hk
  | some c=>
   rw[h1,h2] at hk;injection hk with hk
   subst hk;have ha:=ho a (Lm h1);have hc:=hx.con c (Lm h2);have hf:Bd 128 (1+Yd (qL x)):=Xn YP hx.ben;exact⟨Xn (Yn ha.1 hf) (Yn hc.1 hg),Xn (Yn ha.2.1 hf) (Yn hc.2.1 hg),Xn (Yn ha.2.2 hf) (Yn hc.2.2 hg)⟩
theorem C9 {n0:List (List UInt8)} {g:Rat} {x:List Sec} {o:YF} (h:o.length=x.length) (hx:nmS x=n0):(Ud g x o).map (·.1)=n0:=by
 rw[<-hx];clear hx;unfold Ud TH nmS;generalize Yd ((x.map WK).map (·.q))=b
 generalize Yd (qL x)=b2
 induction x generalizing o with
 | nil=>simp
 | cons s r ih=>
  cases o with
  | nil=>cases h
  | cons p o=>
   simp only[List.map_cons,List.zipWith_cons_cons,List.cons.injEq];exact⟨rfl,ih (by simpa using h)⟩
section
attribute [local go_sem] Oper.semAt_some
theorem Bi (args:Array Value) (w:World):(callFunc 156 args).run Tryz.prog w=.ok (.enter 156 args) w:=by kernel_rfl
theorem Bl (bl:Nat) (A:Option Addr) (qs:List Rat) (n c M:Nat) (w:World) (hn:qs.length=n) (hn3:n<=1000) (hq:∀q∈qs,Bd M q) (h:AC w A (frs qs)) (hbl:Blk w bl #[.slice A n c]) :
  OB w 156 #[.pointer (some ⟨bl,0,none⟩)] qs M:=by
 intro m lw S hSB hSm hY W hS;have HI:=Lh h;have HB:=Lh hSB;have HM:=Lh hSm;have HY:=Lh hY;have HX:=Lh hS;have HN:=Lh hn;have HQq:=Lh hq;have q0:W.cell? ⟨bl,0,none⟩=some (.slice A n c):=(hbl.below (HB.out _ _ HX.out)).c 0;clear h hSB hSm hY hS hn hq;show CallsIn Fence.wide m Tryz.prog 156 #[.func (.yield lw) #[] #[],.pointer (some ⟨bl,0,none⟩)] W _;refine callsIn_of_wp Tryz.func156 rfl trivial ?_ rfl;simp only[Tryz.ntmps156,List.size_toArray,List.length_cons,List.length_nil,Nat.reduceAdd,Nat.reduceSub,Array.replicate_succ,Array.replicate_zero,List.push_toArray,List.append_toArray,List.nil_append,List.cons_append]
 gi_wp2_with fail
 clear q0
 gi_loopw [7] (fun iv wr=>∃k:Nat,k<=n/\iv=.int .i64 (k:Int)/\Hid (S (qs.take k) wr)) (fun iv _=>n-(intOf iv).toNat)
 case atStart=>exact⟨0,Nat.zero_le _,rfl,HX.out⟩
 case round=>
  clear HX;obtain⟨k,hk,rfl,HX⟩:=hrel
  by_cases hlk:k<n
  rotate_left
  ·have HE:Hid (S qs wr):=by
    show S _ _;have h1:=HX.out
    rwa [List.take_of_length_le (by rw[HN.out];omega)] at h1
   have e1:decide ((k:Int)<n)=false:=Df (by omega)
   clear HX
   gi_wp2
   go_end0
   exact⟨⟨_,rfl⟩,HE.out⟩
  have e1:decide ((k:Int)<n)=true:=Dt (by omega)
  obtain⟨y,hy⟩:∃y,qs[k]?=some y:=⟨_,List.getElem?_eq_getElem (by rw[HN.out];omega)⟩
  obtain⟨b,o,rfl,hbs,p0,p1⟩:=(HI.out.below (HB.out _ _ HX.out)) k (fN y,fD y) (by unfold frs;rw[List.getElem?_map,hy];rfl)
  have HS2:Hid (qs.take k++[y]=qs.take (k+1)):=(Xu hy).symm;have HYY:Hid (∀W,S (qs.take k) W->YieldAt Fence.wide (m-1) Tryz.prog lw #[(Value.agg #[Value.string ⟨List.toArray (fN y)⟩,Value.string ⟨List.toArray (fD y)⟩])] W fun e W'=>e=.returned (.bool true)/\S (qs.take (k+1)) W'):=fun W h1=>by
   rw[<-HS2.out];exact HY.out _ y W h1 (HQq.out y (Lm hy)) (by rw[List.length_take,HN.out];omega)
  have x4:=Z0.new wr (.string ⟨(fN y).toArray⟩) (.string ⟨(fD y).toArray⟩) 34;have HX3:=Lh (HM.out _ _ _ HX.out (Zb wr (.cells #[.string ⟨(fN (y)).toArray⟩,.string ⟨(fD (y)).toArray⟩] 34)));have g0:=x4.c0;have g1:=x4.c1;obtain⟨fn,tmps,assign,body,hyr,hR⟩:=HYY.out _ HX3.out;clear hy x4 HX
  gi_wp2
  refine⟨fun h=>(by cases h),hR.mono ?_⟩
  rintro e W3 ⟨rfl,hS3⟩;have HX4:=Lh hS3;clear hS3 hR hyr
  gi_wp2
  go_roundw
  case rel=>exact⟨k+1,by omega,by go_num,HX4.out⟩
  case measure=>simp[intOf];omega
theorem BA (A:Option Addr) (n c:Nat) (w:World) :
  Calls Tryz.prog 85 #[.slice A n c] w fun e w'=>e=.returned (.func (.func 156) #[] #[.pointer (some ⟨w.heap.size,0,none⟩)])/\w'=w.alloc (.cells #[.slice A n c] 28):=by
 go_enter Tryz.func85,Tryz.ntmps85;go_wp2_with fail;go_ret;exact⟨rfl,rfl⟩
end
theorem FO (args:Array Value) (w:World):(callFunc 82 args).run Tryz.prog w=.ok (.enter 82 args) w:=by kernel_rfl
theorem lk1 (x:Fp2) (h1:x.1.length<=99999) (h2:x.2.length<=99999):Ret 82 (#[.agg #[.string ⟨List.toArray x.1⟩,.string ⟨List.toArray x.2⟩]]++#[]) (.bool (!Wj x)):=fun w hG=>by
 have hb:=Zb w (.cells #[.string ⟨List.toArray x.1⟩,.string ⟨List.toArray x.2⟩] 34);have x1:=Z0.new w (.string ⟨List.toArray x.1⟩) (.string ⟨List.toArray x.2⟩) 34;have q0:=x1.c0;have q1:=x1.c1;show Calls Tryz.prog 82 #[.agg #[.string ⟨List.toArray x.1⟩,.string ⟨List.toArray x.2⟩]] w _
 by_cases g:x.1=fN (fv x.1 x.2)/\x.2=fD (fv x.1 x.2)
 ·have C1:=Lh (OA (l:=x.1) (l':=x.2) ⟨by omega,by omega,rfl⟩ (if_pos g))
  have HV:Hid ((!Wj x)=false):=by unfold Wj;show _=_;rw[Dt g];rfl
  generalize (!Wj x)=R at *;clear g h1 h2 x1;go_enter Tryz.func82,Tryz.ntmps82;go_wp2_with fail
  with_reducible refine (C1.out.of hG hb).mono ?_
  rintro e w2 ⟨rfl,hb2⟩;go_wp2;go_ret;exact⟨Ya HV.out.symm,bto hb hb2⟩
 ·have C1:=Lh (OA (l:=x.1) (l':=x.2) ⟨by omega,by omega,rfl⟩ (if_neg g))
  have HV:Hid ((!Wj x)=true):=by unfold Wj;show _=_;rw[Df g];rfl
  generalize (!Wj x)=R at *;clear g h1 h2 x1;go_enter Tryz.func82,Tryz.ntmps82;go_wp2_with fail
  with_reducible refine (C1.out.of hG hb).mono ?_
  rintro e w2 ⟨rfl,hb2⟩;go_wp2;go_ret;exact⟨Ya HV.out.symm,bto hb hb2⟩
theorem BB (q:Rat):Wj (fN q,fD q)=true:=by
 unfold Wj;dsimp only;rw[PC];exact Dt ⟨rfl,rfl⟩
theorem Hv {A:Option Addr} {qs:List Rat} {n:Nat} (c:Nat) {w:World} {M:Nat} (hG:ZQ w) (hn:qs.length=n) (hn2:n<=400) (h:Po w A (frs qs)) (hq:∀q∈qs,Bd M q) (hM:1+M*n+M<=90000) :
  Calls Tryz.prog 32 #[.slice A n c] w fun e w'=>e=.returned (.tuple #[(Value.agg #[Value.string ⟨List.toArray (fN (ZD 1 qs))⟩,Value.string ⟨List.toArray (fD (ZD 1 qs))⟩]),.int .i64 0])/\Below w.heap.size w w':=by
 have x2:=Z0.new w (.string ⟨#[]⟩) (.string ⟨#[]⟩) 34;have hb:=Zb w (.cells #[.string ⟨#[]⟩,.string ⟨#[]⟩] 34);have e1:decide (400<n)=false:=Df (by omega)
 have hln:(frs qs).length=n:=by unfold frs;rw[List.length_map];exact hn
 have hM1:M<=90000:=by omega
 have hlq:∀x∈frs qs,x.1.length<=99999/\x.2.length<=99999:=fun x hx=>by
  obtain⟨q,h1,rfl⟩:=List.mem_map.1 hx;obtain⟨a,b⟩:=Vl (hq q h1);exact⟨by dsimp only;omega,by dsimp only;omega⟩
 have hA:((frs qs).any fun x=>!Wj x)=false:=by
  rw[List.any_eq_false];intro x hx;obtain⟨q,h1,rfl⟩:=List.mem_map.1 hx;rw[BB];decide
 have C1:Hid (∀w1,Below w.heap.size w w1->Calls Tryz.prog 81 #[.slice A n c,.func (Fn.func 82) #[] #[]] w1 fun e w'=>e=.returned (.bool false)/\Below w1.heap.size w1 w'):=fun w1 hb1=>by
  have h1:=Cv _ FO (fun x=>!Wj x) #[] A (frs qs) n c w1 hln (by omega) (h.below hb1) (fun x hx w' hb'=>lk1 x (hlq x hx).1 (hlq x hx).2 w' (hG.below (bto hb1 hb')))
  rwa [hA] at h1
 have CI:Hid (∀w1,Below w.heap.size w w1->OB (w1.alloc (.cells #[.slice A n c] 28)) 156 #[.pointer (some ⟨w1.heap.size,0,none⟩)] qs M):=fun w1 hb1=>
  Bl w1.heap.size A qs n c M _ hn (by omega) hq (h.below (bto hb1 (Zb _ _))) (Blk.new _ _ _)
 obtain⟨N1,hN1⟩:∃N1,N1=fN (ZD 1 qs):=⟨_,rfl⟩
 obtain⟨D1,hD1⟩:∃D1,D1=fD (ZD 1 qs):=⟨_,rfl⟩
 rw[<-hN1,<-hD1];have HN1:=Lh hN1;have HD1:=Lh hD1;clear h hln hlq hA hq hN1 hD1;go_enter Tryz.func32,Tryz.ntmps32;go_wp2_with fail;refine (C1.out _ hb).mono ?_;rintro e w1 ⟨rfl,hb1⟩;replace x2:=x2.below hb1;replace hb:=bto hb hb1;clear hb1 C1;go_wp2_with fail;refine (BA A n c _).mono ?_;rintro e w2 ⟨rfl,rfl⟩;have C2:=Lh (NJ 156 #[.pointer (some ⟨w1.heap.size,0,none⟩)] qs M (w1.alloc (.cells #[.slice A n c] 28)) (hG.below (bto hb (Zb _ _))) Bi (CI.out w1 hb) (by rw[hn];exact hM))
 rw[<-HN1.out,<-HD1.out] at C2;replace x2:=x2.below (Zb _ (.cells #[.slice A n c] 28));replace hb:=bto hb (Zb _ (.cells #[.slice A n c] 28));go_wp2_with fail;refine C2.out.mono ?_;rintro e w3 ⟨rfl,hb3⟩;replace x2:=x2.below hb3;replace hb:=bto hb hb3;clear hb3 C2 CI;have g0:=x2.c0;have g1:=x2.c1;have g2:=x2.f0;have g3:=x2.f1;go_wp2;have hy:=x2.set (.string ⟨N1.toArray⟩) (.string ⟨D1.toArray⟩);have d0:=hy.c0;have d1:=hy.c1;refine bodyPost_ret (v:=.tuple #[.agg #[.string ⟨N1.toArray⟩,.string ⟨D1.toArray⟩],.int .i64 0]) (by simp[results,Tryz.results32,go_sem,d0,d1]) rfl ?_
 exact⟨rfl,Zv hb (Nl _) _ _⟩
theorem atReturn {A:Option Addr} {xs:List Sec} {n:Nat} (c:Nat) {w:World} (hG:ZQ w) (hn:xs.length=n) (hn2:n<=5) (hc:n<=c) (h:Y7 w A xs) (hs:∀x∈xs,SmS x) (hE:Sr xs=0) :
  Calls Tryz.prog 29 #[.slice A n c] w fun e w'=>e=.returned (.tuple #[(Value.agg #[Value.string ⟨List.toArray (fN (Xj (qL xs)))⟩,Value.string ⟨List.toArray (fD (Xj (qL xs)))⟩]),(Value.agg #[Value.string ⟨List.toArray (fN (Yd (qL xs)))⟩,Value.string ⟨List.toArray (fD (Yd (qL xs)))⟩]),.int .i64 0])/\Below w.heap.size w w':=by
 have K1:=Lh (fun w' (hb:Below w.heap.size w w')=>Hr c (hG.below hb) hn (by omega) hc (h.below hb) hs)
 rw[hE] at K1;have hr:=(MZ hE).raw;have hbd:∀y∈xs.map WK,BdS 12 y.q:=fun y hy=>by
  obtain⟨x,hx,rfl⟩:=List.mem_map.1 hy;exact MX (hs x hx)
 have K2:=Lh (fun w' (hb:Below w.heap.size w w')=>O8 (xs:=xs.map WK) (n:=n) c (hG.below hb) (by rw[List.length_map];exact hn) (by omega) (by rw[<-hr];exact h.below hb) hbd (by omega))
 rw[Ss] at K2;clear h hs hn hE hr hbd;generalize Xj (qL xs)=s1 at *;generalize Yd (qL xs)=s2 at *;generalize fN s1=N1 at *;generalize fD s1=D1 at *;generalize fN s2=N2 at *;generalize fD s2=D2 at *;obtain⟨g1,g2,g3,g4⟩:=Xi w (.cells #[.string ⟨#[]⟩,.string ⟨#[]⟩] 34) (.cells #[.string ⟨#[]⟩,.string ⟨#[]⟩] 34);obtain⟨W,hW⟩:∃W,W=(w.alloc (.cells #[.string ⟨#[]⟩,.string ⟨#[]⟩] 34)).alloc (.cells #[.string ⟨#[]⟩,.string ⟨#[]⟩] 34):=⟨_,rfl⟩
 rw[<-hW] at g1 g2 g3 g4;have HW:=Lh hW;have HB:=Lh g3;have H1:=Lh g1;have H2:=Lh g2;have HI:Hid ((Tryz.prog.info? 34).map (·.size)=some 2):=by
  show _=_
  kernel_rfl
 clear hW g1 g2 g3 g4 hc hn2;go_enter Tryz.func29,Tryz.ntmps29;go_wp2_with fail;rw[<-HW.out]
 with_reducible refine (K1.out W HB.out).mono ?_
 rintro e w0 ⟨rfl,hb0⟩;have HB1:=Lh (bto HB.out hb0);have H3:=Lh (Zk H1.out hb0);have H4:=Lh (Zk H2.out hb0);clear hb0 H1 H2 HB HW K1;go_wp2_with fail
 with_reducible refine (K2.out w0 HB1.out).mono ?_
 rintro e w1 ⟨rfl,hb1⟩;obtain⟨k1,k2,k3,k4⟩:=Xi w1 (.cells #[.string ⟨N1.toArray⟩,.string ⟨D1.toArray⟩] 34) (.cells #[.string ⟨N2.toArray⟩,.string ⟨D2.toArray⟩] 34);have HB3:=Lh (bto (bto HB1.out hb1) k3);have H5:=Lh (Zk (Zk H3.out hb1) k3);have H6:=Lh (Zk (Zk H4.out hb1) k3);have HL4:Hid (w.heap.size+1<w1.heap.size):=(Ag.1 (Zk H4.out hb1)).1;obtain⟨W3,hW3⟩:∃W3,W3=(w1.alloc (.cells #[.string ⟨N1.toArray⟩,.string ⟨D1.toArray⟩] 34)).alloc (.cells #[.string ⟨N2.toArray⟩,.string ⟨D2.toArray⟩] 34):=⟨_,rfl⟩
 rw[<-hW3] at k1 k2 HB3 H5 H6;have HW3:=Lh hW3;have X6:Hid (Blk W3 w1.heap.size #[.string ⟨N1.toArray⟩,.string ⟨D1.toArray⟩]):=⟨_,k1⟩;have X5:Hid (Blk W3 (w1.heap.size+1) #[.string ⟨N2.toArray⟩,.string ⟨D2.toArray⟩]):=⟨_,k2⟩;clear hb1 k1 k2 k3 k4 hW3 H3 H4 HB1 K2;obtain⟨F,hO⟩:=ZcJ w.heap.size (w.heap.size+1) (.cells #[.string ⟨#[]⟩,.string ⟨#[]⟩] 34 (0,0)) (.cells #[.string ⟨#[]⟩,.string ⟨#[]⟩] 34 (0,0)) (by omega)
 obtain⟨tch,ht1,ht2⟩:∃tch:Nat->List Nat,tch w.heap.size=[2]/\tch (w.heap.size+1)=[3]:=⟨fun k=>if k=w.heap.size then [2] else [3],if_pos rfl,if_neg (by omega)⟩
 have hl4:=HL4.out;have hn4:=hO.no (k:=w1.heap.size) (by omega) (by omega)
 have hn5:=hO.no (k:=w1.heap.size+1) (by omega) (by omega)
 have HO:=Lh hO;have HT1:=Lh ht1;have HT2:=Lh ht2;clear hO ht1 ht2 hl4;go_wp2_with fail;rw[<-HW3.out];clear HW3;refine Zw tch F (by kernel_rfl) (by kernel_rfl) (by kernel_rfl) (HO.out.heap H5.out H6.out) ?_
 refine Zi _ rfl (fun wz hw=>by have q0:wz.cell? ⟨w1.heap.size,0,none⟩=some (.string ⟨N1.toArray⟩):=(X6.out.keepX hw hn4).c 0;have q1:wz.cell? ⟨w1.heap.size,1,none⟩=some (.string ⟨D1.toArray⟩):=(X6.out.keepX hw hn4).c 1;go_simp;try with_reducible rfl) ?_
 simp only[Act.put,StT,StZ,StS,Nat.reduceAdd];refine Zi _ rfl (fun wz hw=>by have q0:wz.cell? ⟨(w1.heap.size+1),0,none⟩=some (.string ⟨N2.toArray⟩):=(X5.out.keepX hw hn5).c 0;have q1:wz.cell? ⟨(w1.heap.size+1),1,none⟩=some (.string ⟨D2.toArray⟩):=(X5.out.keepX hw hn5).c 1;go_simp;try with_reducible rfl) ?_
 simp only[Act.put,StT,StZ,StS,Nat.reduceAdd];refine ZO w.heap.size 0 #[.string ⟨#[]⟩,.string ⟨#[]⟩] [.string ⟨N1.toArray⟩,.string ⟨D1.toArray⟩] 34 HO.out.a1 (by rw[HT1.out];decide) (fun j oj hj=>Zq (l:=[2]) (by kernel_rfl) j oj (by rw[HT1.out] at hj;exact hj)) rfl (fun wz hw hc hf=>Zn 34 _ _ rfl w.heap.size 0 #[.string ⟨N1.toArray⟩,.string ⟨D1.toArray⟩] rfl rfl (fun j hj=>⟨by have hj:j<2:=hj;rw[hc,Array.getElem?_eq_getElem (by show 0+j<2;omega)];rfl,hf _⟩) HI.out (VK _ _)) ?_
 simp only[Act.put,Nat.reduceAdd];refine ZO (w.heap.size+1) 0 #[.string ⟨#[]⟩,.string ⟨#[]⟩] [.string ⟨N2.toArray⟩,.string ⟨D2.toArray⟩] 34 (by show (if w.heap.size+1=w.heap.size then _ else F (w.heap.size+1))=_;rw[if_neg (by omega),HO.out.a2]) (by rw[HT2.out];decide) (fun j oj hj=>Zq (l:=[3]) (by kernel_rfl) j oj (by rw[HT2.out] at hj;exact hj)) rfl (fun wz hw hc hf=>Zn 34 _ _ rfl (w.heap.size+1) 0 #[.string ⟨N2.toArray⟩,.string ⟨D2.toArray⟩] rfl rfl (fun j hj=>⟨by have hj:j<2:=hj;rw[hc,Array.getElem?_eq_getElem (by show 0+j<2;omega)];rfl,hf _⟩) HI.out (VK _ _)) ?_
 simp only[Act.put,Nat.reduceAdd];refine Zi _ rfl (fun wz hw=>by go_simp;try with_reducible rfl) ?_
 simp only[Act.put,StT,StZ,StS,Nat.reduceAdd];refine ZY (fun w4 hF4=>?_)
 have h4:w4.heap[w.heap.size]?=some (.cells #[.string ⟨N1.toArray⟩,.string ⟨D1.toArray⟩] 34 (0,0)):=hF4.box w.heap.size _ (by show (if w.heap.size=w.heap.size+1 then _ else if w.heap.size=w.heap.size then _ else _)=_;rw[if_neg (by omega),if_pos rfl];rfl)
 have h5:w4.heap[w.heap.size+1]?=some (.cells #[.string ⟨N2.toArray⟩,.string ⟨D2.toArray⟩] 34 (0,0)):=hF4.box (w.heap.size+1) _ (if_pos rfl);have HB4:=Lh (hF4.below.lower HB3.out (HO.out.low (B:=w.heap.size) (by omega) (by omega)))
 have x4:=Z0.ofB h4;have x5:=Z0.ofB h5;have d0:=x4.c0;have d1:=x4.c1;have d2:=x5.c0;have d3:=x5.c1;clear hF4 h4 h5 x4 x5 X5 X6 HO H5 H6 HB3 hn4 hn5;go_wp2;refine bodyPost_ret (v:=.tuple #[.agg #[.string ⟨N1.toArray⟩,.string ⟨D1.toArray⟩],.agg #[.string ⟨N2.toArray⟩,.string ⟨D2.toArray⟩],.int .i64 0]) (by simp[results,Tryz.results29,go_sem,d0,d1,d2,d3]) rfl ?_
 exact⟨rfl,HB4.out⟩
def ptL (r:List UInt8×Yx):List Value:=[.string ⟨List.toArray r.1⟩,.string ⟨List.toArray (fN r.2.a)⟩,.string ⟨List.toArray (fD r.2.a)⟩,.string ⟨List.toArray (fN r.2.s)⟩,.string ⟨List.toArray (fD r.2.s)⟩,.string ⟨List.toArray (fN r.2.i)⟩,.string ⟨List.toArray (fD r.2.i)⟩]
def YO (rs:YF):List Value:=rs.flatMap ptL
theorem TC:∀rs:YF,(YO rs).length=rs.length*7
 | []=>rfl
 | r::rs=>by
  show ((ptL r)++YO rs).length=_;rw[List.length_append,TC rs,List.length_cons,Nat.succ_mul,Nat.add_comm];rfl
def WL (w:World) (g:Nat) (rs:YF):Prop:=w.heap[g]?=some (.cells (YO rs).toArray 156 (0,0))
theorem WL.lt {w:World} {g:Nat} {rs:YF} (h:WL w g rs):g<w.heap.size:=(Ag.1 h).1
theorem WL.below {w w':World} {g:Nat} {rs:YF} (h:WL w g rs) (hb:Below w.heap.size w w'):WL w' g rs:=Zk h hb
theorem WL.c {w:World} {g:Nat} {rs:YF} (h:WL w g rs) {k:Nat} {r:List UInt8×Yx} (hk:rs[k]?=some r) (j:Nat) (hj:j<7):w.cell? ⟨g,k*7+j,none⟩=(ptL r)[j]?:=by
 rw[Zg h,List.getElem?_toArray];exact PM ptL 7 (fun _=>rfl) hk j hj
theorem Zay {g n:Nat} {rs:YF} (c:Nat) {w:World} {M:Nat} (hG:ZQ w) (hn:rs.length=n) (hn2:n<=5) (h:WL w g rs) (hs:∀r∈rs,BdP M r.2/\Yv r.1=true/\r.1.length<=20) (hM:18*M+20<=90000) :
  Calls Tryz.prog 33 #[.slice (some ⟨g,0,none⟩) n c] w fun e w'=>e=.returned (.tuple #[(Value.agg #[Value.string ⟨List.toArray (fN (ZV Vd (rs.map (·.2))))⟩,Value.string ⟨List.toArray (fD (ZV Vd (rs.map (·.2))))⟩]),.int .i64 0])/\Below w.heap.size w w':=by
 obtain⟨sm,hsm⟩:∃sm:YF->Rat,sm=ZV fun r=>Vd r.2:=⟨_,rfl⟩
 have he:ZV Vd (rs.map (·.2))=sm rs:=by rw[hsm,WH]
 rw[he];have hst1:∀(l:YF) x,sm (l++[x])=sm l+Vd x.2:=fun l x=>by rw[hsm];exact O6 _ _ _
 have hall:∀r∈rs,Bd (3*M+2) (Vd r.2):=fun r hr=>by
  obtain⟨h1,h2,h3⟩:=(hs r hr).1;exact YQ (Xn (Xn h1 h2) h3) (by omega)
 have hsb1:∀k≤n,Bd ((3*M+2+1)*k+1) (sm (rs.take k)):=fun k hk=>by
  have h1:=Qe (fun r:List UInt8×Yx=>Vd r.2) (3*M+2) (rs.take k) (fun r hr=>hall r (List.mem_of_mem_take hr))
  rw[List.length_take,Nat.min_eq_left (by omega)] at h1
  rw[hsm];exact h1
 have hs0:sm []=0:=by rw[hsm];rfl
 clear hsm he;have HS0:=Lh hs0;have HS1:=Lh hst1;have HSB:=Lh hsb1;obtain⟨g1,g2,g3,g4⟩:=Xi w (.cells #[.string ⟨#[]⟩,.string ⟨#[]⟩] 34) (.cells #[.string ⟨#[]⟩,.string ⟨#[]⟩] 34);obtain⟨t3,T3⟩:=SY (cs:=#[.string ⟨#[]⟩,.string ⟨#[]⟩]) g2 rfl;obtain⟨W,hW⟩:∃W,W=((w.alloc (.cells #[.string ⟨#[]⟩,.string ⟨#[]⟩] 34)).alloc (.cells #[.string ⟨#[]⟩,.string ⟨#[]⟩] 34)).setCells (w.heap.size+1) 0 (#[.string ⟨#[]⟩,.string ⟨#[]⟩]:Array Value).toList:=⟨_,rfl⟩
 rw[<-hW] at T3;have HR0:Hid (W.heap[w.heap.size]?=some (.cells #[.string ⟨#[]⟩,.string ⟨#[]⟩] 34 (0,0))):=(T3.old _ (by omega)).trans g1
 have HR1:Hid (W.heap[w.heap.size+1]?=some (.cells #[.string ⟨#[]⟩,.string ⟨#[]⟩] 34 (0,0))):=T3.new;have HB0:Hid (Below w.heap.size w W):=by rw[hW];exact Lib.below_setCells _ (show w.heap.size<=w.heap.size+1 by omega) _ _ g3
 have HW:=Lh hW;have HTH:=Lh t3;have HI:Hid ((Tryz.prog.info? 34).map (·.size)=some 2):=by
  show _=_
  kernel_rfl
 have HX:=Lh h;have HF:=Lh hs;have HN:=Lh hn;have HAL:=Lh hall;obtain⟨N9,hN9⟩:∃N9,N9=fN (sm rs):=⟨_,rfl⟩
 obtain⟨D9,hD9⟩:∃D9,D9=fD (sm rs):=⟨_,rfl⟩
 rw[<-hN9,<-hD9];have HN9:=Lh hN9;have HD9:=Lh hD9;have e0:decide (32<n)=false:=Df (by omega)
 have e00:decide ((32:Int)<(n:Int))=false:=Df (by omega)
 clear hW g1 g2 g3 g4 t3 T3 h hs hn hs0 hst1 hall hsb1 hN9 hD9;go_enter Tryz.func33,Tryz.ntmps33;go_wp2_with (refine wpList_store_mid rfl 34 (.tmp 4) (.tmp 11) rfl (w.heap.size+1) 0 #[.string ⟨#[]⟩,.string ⟨#[]⟩] rfl rfl HTH.out HI.out (VK _ _) ?_;rw[<-HW.out]);clear HTH e0 e00
 go_loopw [14] (fun iv wr=>∃k:Nat,k<=n/\iv=.int .i64 (k:Int)/\Hid (wr.heap[w.heap.size]?=some (.cells #[.string ⟨#[]⟩,.string ⟨#[]⟩] 34 (0,0)))/\Hid (wr.heap[w.heap.size+1]?=some (.cells #[.string ⟨(fN (sm (rs.take k))).toArray⟩,.string ⟨(fD (sm (rs.take k))).toArray⟩] 34 (0,0)))/\Hid (Below w.heap.size w wr)) (fun iv _=>n-(intOf iv).toNat)
 case atStart=>exact⟨0,Nat.zero_le _,rfl,HR0,(by show _=_;rw[List.take_zero,HS0.out];exact HR1.out),HB0⟩
 case round=>
  clear HR0 HR1 HB0 HW;obtain⟨k,hk,rfl,HR0,HR1,HB⟩:=hrel
  by_cases hlt:k<n
  rotate_left
  ·have e1:decide ((k:Int)<(n:Int))=false:=Df (by omega)
   have hkn:rs.take k=rs:=List.take_of_length_le (by rw[HN.out];omega)
   rw[hkn,<-HN9.out,<-HD9.out] at HR1;have x3:=Z0.ofB HR0.out;have x5:=Z0.ofB HR1.out;have g0:=x3.c0;have g1:=x3.c1;have g2:=x3.f0;have g3:=x3.f1;have p0:=x5.c0;have p1:=x5.c1;have hb3:=HB.out;clear hkn HN9 HD9 HR0 HR1 HX HF x5 HAL HS0 HS1 HSB;go_wp2;have hy:=x3.set (.string ⟨N9.toArray⟩) (.string ⟨D9.toArray⟩);have d0:=hy.c0;have d1:=hy.c1;refine bodyPost_ret (v:=.tuple #[.agg #[.string ⟨N9.toArray⟩,.string ⟨D9.toArray⟩],.int .i64 0]) (by simp[results,Tryz.results33,go_sem,d0,d1]) rfl ?_
   exact⟨rfl,Zv hb3 (Nl _) _ _⟩
  have e1:decide ((k:Int)<(n:Int))=true:=Dt (by omega)
  obtain⟨r,hr⟩:∃r,rs[k]?=some r:=⟨_,List.getElem?_eq_getElem (by rw[HN.out];omega)⟩
  have hrl:=HX.out.below HB.out;have hbs:=hrl.lt;have p0:wr.cell? ⟨g,k*7,none⟩=some (.string ⟨List.toArray r.1⟩):=hrl.c hr 0 (by decide)
  have p1:wr.cell? ⟨g,k*7+1,none⟩=some (.string ⟨List.toArray (fN r.2.a)⟩):=hrl.c hr 1 (by decide)
  have p2:wr.cell? ⟨g,k*7+2,none⟩=some (.string ⟨List.toArray (fD r.2.a)⟩):=hrl.c hr 2 (by decide)
  have p3:wr.cell? ⟨g,k*7+3,none⟩=some (.string ⟨List.toArray (fN r.2.s)⟩):=hrl.c hr 3 (by decide)
  have p4:wr.cell? ⟨g,k*7+4,none⟩=some (.string ⟨List.toArray (fD r.2.s)⟩):=hrl.c hr 4 (by decide)
  have p5:wr.cell? ⟨g,k*7+5,none⟩=some (.string ⟨List.toArray (fN r.2.i)⟩):=hrl.c hr 5 (by decide)
  have p6:wr.cell? ⟨g,k*7+6,none⟩=some (.string ⟨List.toArray (fD r.2.i)⟩):=hrl.c hr 6 (by decide)
  obtain⟨hbd,hnm,hnl⟩:=HF.out r (Lm hr);have hst:sm (rs.take (k+1))=sm (rs.take k)+Vd r.2:=by rw[Xu hr,HS1.out]
  have hsb:=HSB.out k hk;have hga:=HAL.out r (Lm hr);have hle:(3*M+2+1)*k<=(3*M+2+1)*5:=Nat.mul_le_mul_left _ (by omega)
  have CN:=Lh (NG (l:=r.1) (by omega))
  rw[hnm] at CN;have CG:=Lh (Zdf r.1 hbd (by omega))
  have CA:=Lh (Oz (Zs hsb (by omega)) (Zs hga (by omega)) hst.symm)
  obtain⟨b1,b2,b3⟩:=hbd;obtain⟨l1,l2⟩:=Vl b1;obtain⟨l3,l4⟩:=Vl b2;obtain⟨l5,l6⟩:=Vl b3;have hcan:(!([(fN r.2.a,fD r.2.a),(fN r.2.s,fD r.2.s),(fN r.2.i,fD r.2.i)].any fun z=>!Wj z))=true:=by
   simp only[List.any_cons,List.any_nil,BB];rfl
  obtain⟨N2,hN2⟩:∃N2,N2=fN (sm (rs.take (k+1))):=⟨_,rfl⟩
  obtain⟨D2,hD2⟩:∃D2,D2=fD (sm (rs.take (k+1))):=⟨_,rfl⟩
  rw[<-hN2,<-hD2] at CA;have HN2:=Lh hN2;have HD2:=Lh hD2;have HCN:=Lh hcan;have HL12:=Lh (And.intro l1 (And.intro l2 (And.intro l3 (And.intro l4 (And.intro l5 l6)))));have HM9:=Lh hM;unfold ptC at CG;clear hst hsb hga hle hr hN2 hD2 b1 b2 b3 l1 l2 l3 l4 l5 l6 hcan hnm hnl hrl hM;generalize fN (sm (rs.take k))=N1 at *;generalize fD (sm (rs.take k))=D1 at *;generalize fN (Vd r.2)=N0 at *;generalize fD (Vd r.2)=D0 at *;generalize fN r.2.a=P1 at *;generalize fD r.2.a=P2 at *;generalize fN r.2.s=P3 at *;generalize fD r.2.s=P4 at *;generalize fN r.2.i=P5 at *;generalize fD r.2.i=P6 at *;have hbA:=Zb wr (.cells #[.string ⟨List.toArray r.1⟩,.string ⟨P1.toArray⟩,.string ⟨P2.toArray⟩,.string ⟨P3.toArray⟩,.string ⟨P4.toArray⟩,.string ⟨P5.toArray⟩,.string ⟨P6.toArray⟩] 156);have X1:=Lh (Blk.new wr #[.string ⟨List.toArray r.1⟩,.string ⟨P1.toArray⟩,.string ⟨P2.toArray⟩,.string ⟨P3.toArray⟩,.string ⟨P4.toArray⟩,.string ⟨P5.toArray⟩,.string ⟨P6.toArray⟩] 156);have q0:(wr.alloc (.cells #[.string ⟨List.toArray r.1⟩,.string ⟨P1.toArray⟩,.string ⟨P2.toArray⟩,.string ⟨P3.toArray⟩,.string ⟨P4.toArray⟩,.string ⟨P5.toArray⟩,.string ⟨P6.toArray⟩] 156)).cell? ⟨wr.heap.size,0,none⟩=some (.string ⟨List.toArray r.1⟩):=X1.out.c 0;obtain⟨bx,hbx⟩:∃bx,bx=wr.heap.size:=⟨_,rfl⟩
  rw[<-hbx] at X1 q0;have HBX:=Lh hbx;have hbl:w.heap.size+1<bx:=by rw[hbx];exact (Ag.1 HR1.out).1
  have HBL:=Lh hbl;have hB2:=bto HB.out hbA;have HRA:=Lh (Zk HR1.out hbA);have HRZ:=Lh (Zk HR0.out hbA);clear hbA hbx hbl HR0 HR1 HB;go_wp2_with fail;rw[<-HBX.out]
  with_reducible refine (CN.out.of hG hB2).mono ?_
  rintro e w1 ⟨rfl,hb1⟩;clear p0 p1 p2 p3 p4 p5 p6 q0 CN HBX;replace X1:=Lh (X1.out.below hb1);have hB3:=bto hB2 hb1;replace HRA:=Lh (Zk HRA.out hb1);replace HRZ:=Lh (Zk HRZ.out hb1);clear hb1 hB2;have Q1:=X1.out.c 1;have Q2:=X1.out.c 2;have Q3:=X1.out.c 3;have Q4:=X1.out.c 4;have Q5:=X1.out.c 5;have Q6:=X1.out.c 6;have hbA:=Zb w1 (.cells #[.string ⟨P1.toArray⟩,.string ⟨P2.toArray⟩,.string ⟨P3.toArray⟩,.string ⟨P4.toArray⟩,.string ⟨P5.toArray⟩,.string ⟨P6.toArray⟩] 34);have h2:=ZJ w1 (.cells #[.string ⟨P1.toArray⟩,.string ⟨P2.toArray⟩,.string ⟨P3.toArray⟩,.string ⟨P4.toArray⟩,.string ⟨P5.toArray⟩,.string ⟨P6.toArray⟩] 34);obtain⟨w4,hw4⟩:∃w4,w4=w1.alloc (.cells #[.string ⟨P1.toArray⟩,.string ⟨P2.toArray⟩,.string ⟨P3.toArray⟩,.string ⟨P4.toArray⟩,.string ⟨P5.toArray⟩,.string ⟨P6.toArray⟩] 34):=⟨_,rfl⟩
  rw[<-hw4] at hbA h2;have hat:Po w4 (some ⟨w1.heap.size,0,none⟩) [(P1,P2),(P3,P4),(P5,P6)]:=fun i r hr=>by
   refine⟨_,_,rfl,(Ag.1 h2).1,?_⟩
   match i,hr with
   | 0,hr=>cases hr;exact⟨Zg h2 0,Zg h2 1⟩
   | 1,hr=>cases hr;exact⟨Zg h2 2,Zg h2 3⟩
   | 2,hr=>cases hr;exact⟨Zg h2 4,Zg h2 5⟩
   | i+3,hr=>cases hr
  have KC:=Lh (Cz (n:=3) 3 (hG.below (bto hB3 hbA)) rfl (by decide) hat (fun z hz=>by
   obtain⟨l1,l2,l3,l4,l5,l6⟩:=HL12.out
   have:=HM9.out
   simp only[List.mem_cons,List.not_mem_nil,or_false] at hz
   rcases hz with rfl|rfl|rfl<;>exact⟨by dsimp only;omega,by dsimp only;omega⟩))
  rw[HCN.out] at KC;have HW4:=Lh hw4;have hB4:=bto hB3 hbA;replace X1:=Lh (X1.out.below hbA);replace HRA:=Lh (Zk HRA.out hbA);replace HRZ:=Lh (Zk HRZ.out hbA);clear hbA h2 hw4 hat hB3 HL12 HM9 HCN;go_wp2_with fail;rw[<-HW4.out]
  with_reducible refine KC.out.mono ?_
  rintro e w5 ⟨rfl,hb5⟩;replace X1:=Lh (X1.out.below hb5);have HB2:=Lh (bto hB4 hb5);replace HRA:=Lh (Zk HRA.out hb5);replace HRZ:=Lh (Zk HRZ.out hb5);clear hb5 KC HW4 Q1 Q2 Q3 Q4 Q5 Q6 hB4;obtain⟨F,hO⟩:=J5 (w.heap.size+1) (.cells #[.string ⟨N1.toArray⟩,.string ⟨D1.toArray⟩] 34 (0,0));have HO:=Lh hO;have hbl:=HBL.out;have hn7:=hO.no (k:=bx) (by omega)
  clear hO hbl;go_wp2_with fail;refine Zw (fun _=>[0,4]) F (by kernel_rfl) (by kernel_rfl) (by kernel_rfl) (HO.out.heap HRA.out) ?_
  refine Yp (w.heap.size+1) #[.string ⟨N1.toArray⟩,.string ⟨D1.toArray⟩] 34 _ HO.out.at_ (by decide) rfl (fun wz hw hc=>by have q0:=hc 0;have q1:=hc 1;go_simp;try with_reducible rfl) ?_
  simp only[Act.put,StT,StZ,StS,Nat.reduceAdd];refine Zi _ rfl (fun wz hw=>by have q0:wz.cell? ⟨bx,0,none⟩=some (.string ⟨List.toArray r.1⟩):=(X1.out.keepX hw hn7).c 0;have q1:wz.cell? ⟨bx,1,none⟩=some (.string ⟨P1.toArray⟩):=(X1.out.keepX hw hn7).c 1;have q2:wz.cell? ⟨bx,2,none⟩=some (.string ⟨P2.toArray⟩):=(X1.out.keepX hw hn7).c 2;have q3:wz.cell? ⟨bx,3,none⟩=some (.string ⟨P3.toArray⟩):=(X1.out.keepX hw hn7).c 3;have q4:wz.cell? ⟨bx,4,none⟩=some (.string ⟨P4.toArray⟩):=(X1.out.keepX hw hn7).c 4;have q5:wz.cell? ⟨bx,5,none⟩=some (.string ⟨P5.toArray⟩):=(X1.out.keepX hw hn7).c 5;have q6:wz.cell? ⟨bx,6,none⟩=some (.string ⟨P6.toArray⟩):=(X1.out.keepX hw hn7).c 6;go_simp;try with_reducible rfl) ?_
  simp only[Act.put,StT,StZ,StS,Nat.reduceAdd];refine Zu _ _ _ rfl (fun wz hw=>by go_simp;try with_reducible rfl) (fun wz hw=>CG.out.of hG (hw.lower HB2.out (HO.out.low (B:=w.heap.size) (by omega)))) ?_
  simp only[Act.put,StT,StZ,StS,Nat.reduceAdd];refine Zu _ _ _ rfl (fun wz hw=>by go_simp;try with_reducible rfl) (fun wz hw=>CA.out.of hG (hw.lower HB2.out (HO.out.low (B:=w.heap.size) (by omega)))) ?_
  simp only[Act.put,StT,StZ,StS,Nat.reduceAdd];refine ZO (w.heap.size+1) 0 #[.string ⟨N1.toArray⟩,.string ⟨D1.toArray⟩] [.string ⟨N2.toArray⟩,.string ⟨D2.toArray⟩] 34 HO.out.at_ (by decide) (fun j oj hj=>Zq (l:=[0,4]) (by kernel_rfl) j oj hj) rfl (fun wz hw hc hf=>Zn 34 _ _ rfl (w.heap.size+1) 0 #[.string ⟨N2.toArray⟩,.string ⟨D2.toArray⟩] rfl rfl (fun j hj=>⟨by have hj:j<2:=hj;rw[hc,Array.getElem?_eq_getElem (by show 0+j<2;omega)];rfl,hf _⟩) HI.out (VK _ _)) ?_
  simp only[Act.put,Nat.reduceAdd];refine ZY (fun w4 hF4=>?_)
  have h4:=hF4.box (w.heap.size+1) _ (if_pos rfl);have H4:Hid (w4.heap[w.heap.size+1]?=some (.cells #[.string ⟨N2.toArray⟩,.string ⟨D2.toArray⟩] 34 (0,0))):=h4;have HB4:=Lh (hF4.below.lower HB2.out (HO.out.low (B:=w.heap.size) (by omega)))
  have H5:Hid (w4.heap[w.heap.size]?=some (.cells #[.string ⟨#[]⟩,.string ⟨#[]⟩] 34 (0,0))):=(hF4.below.block _ (Ag.1 HRZ.out).1 (HO.out.no (by omega))).trans HRZ.out
  clear hF4 h4 X1 HRA HRZ HO HB2 CG CA hn7;go_wp2;go_roundw
  case rel=>exact⟨k+1,by omega,by go_num,H5,(by show _=_;rw[<-HN2.out,<-HD2.out];exact H4.out),HB4⟩
  case measure=>simp[intOf];omega
def ZcM (w:World) (v:Value):Result Next->Prop
 | .ok (.value u) w'=>w'=w/\u=v
 | _=>False
section
variable {P:Program} {ops:Array Oper} {md:Region.Mode} {C:World->Prop} {K:Act->World->Prop}
def Wk (P:Program) (md:Region.Mode) (ops:Array Oper) (C:World->Prop) (K:Act->World->Prop):Nat->Array Bool->Act->World->Prop
 | 0,listed,a,w=>C w/\Region.ready md ops listed=[]/\K a w
 | fuel+1,listed,a,w=>C w/\(Region.ready md ops listed=[]->K a w)/\
  ∀i∈Region.ready md ops listed,∃o,ops[i]?=some o/\o.guard=none/\o.wp P a w (Wk P md ops C K fuel (listed.setIfInBounds i true)) (WB fun _ _=>False)
theorem BC:∀{fuel:Nat} {listed:Array Bool} {a:Act} {w:World},Wk P md ops C K fuel listed a w->C w
 | 0,_,_,_,h=>h.1
 | _+1,_,_,_,h=>h.1
theorem Nb {Q:Exit->Act->World->Prop} (hQ:∀a w,K a w->Q .normal a w):∀(fuel:Nat) (listed:Array Bool) (a:Act) (w:World),Wk P md ops C K fuel listed a w->wpAny P md ops Q fuel listed a w
 | 0,listed,a,w,h=>⟨h.2.1,hQ _ _ h.2.2⟩
 | fuel+1,listed,a,w,h=>⟨fun h0=>hQ _ _ (h.2.1 h0),fun i hi=>by
  obtain⟨o,ho,hg,hw⟩:=h.2.2 i hi;unfold wpOp;simp only[ho,Z5 hg,if_true]
  exact .inl (Tg (Oper.wp_mono (fun a' w' h'=>Nb hQ fuel _ a' w' h') hw))⟩
theorem put_defers (a:Act) (x:Option Tmp) (v:Value) (q:Deferred):({ a.put x v with defers:=q::(a.put x v).defers }:Act)=({ a with defers:=q::a.defers }:Act).put x v:=by
 cases x<;>rfl
theorem Zaz {oi oj:Oper} {a:Act} {w:World} {v:Value} {K:Act->World->Prop} (hap:oi.apart ops oj=true) (hsi:∀cs b,oi.op≠.select cs b) (hsj:∀cs b,oj.op≠.select cs b)
  (h:oj.wp P (a.put oi.dst v) w K (WB fun _ _=>False)):oj.wp P a w (fun a' w'=>K (a'.put oi.dst v) w'/\execOp a'.eval oi=execOp a.eval oi) (WB fun _ _=>False):=by
 obtain⟨h1,h2,h3⟩:=Oper.apart_spec hap;unfold Oper.wp at *;rw[execOp_put oj hsj a oi.dst v h1] at h;have key:∀u w',K ((a.put oi.dst v).put oj.dst u) w'->K ((a.put oj.dst u).put oi.dst v) w'/\execOp (a.put oj.dst u).eval oi=execOp a.eval oi:=fun u w' h=>⟨by rw[<-Act.put_comm a v u h2];exact h,execOp_put oi hsi a oj.dst u h3⟩
 generalize (execOp a.eval oj).run P w=r at *;cases r with
 | ok n w'=>
  cases n with
  | value u=>exact key u w' h
  | skip=>exact key undef w' h
  | defer d=>
   have h':K (({ a.put oi.dst v with defers:=d::(a.put oi.dst v).defers }:Act).put oj.dst undef) w':=h
   rw[put_defers] at h';show K ((({ a with defers:=d::a.defers }:Act).put oj.dst undef).put oi.dst v) w'/\execOp (({ a with defers:=d::a.defers }:Act).put oj.dst undef).eval oi=execOp a.eval oi
   refine⟨by rw[<-Act.put_comm _ v undef h2];exact h',?_⟩
   rw[execOp_put oi hsi _ oj.dst undef h3];rfl
  | enter f args=>
   refine Calls.mono h (fun e w'' he=>?_)
   cases e with
   | returned u=>exact key u w'' he
   | panicked c=>exact he
   | outgrown=>exact he
  | row r args=>exact Rows.mono h (fun u w'' he=>key u w'' he)
  | _=>exact h
 | halt x w'=>cases x<;>exact h
theorem gdB {listed:Array Bool} {i:Nat} (h:listed.getD i true=false):listed.getD i false=false:=by
 rcases Nat.lt_or_ge i listed.size with h'|h'
 ·simp[h'] at h ⊢;exact h
 ·simp[Array.getElem?_eq_none h'] at h
theorem M0 {i:Nat} {oi:Oper} {v:Value} (hi:ops[i]?=some oi) (hg:oi.guard=none) (hsel:∀(j:Nat) (o:Oper) cs b,ops[j]?=some o->o.op≠.select cs b) :
  ∀(fuel:Nat) (listed:Array Bool) (a:Act) (w:World),
   (∀j oj,ops[j]?=some oj->j≠i->listed.getD j true=false->(∀e∈oj.after,Region.binds md e=true->e.on≠i)->oi.apart ops oj=true)->
   i∈Region.ready md ops listed->C w->(∀w',C w'->ZcM w' v ((execOp a.eval oi).run P w'))->
   Wk P md ops C K fuel (listed.setIfInBounds i true) (a.put oi.dst v) w->Wk P md ops C K (fuel+1) listed a w:=by
 have hself:∀(fuel:Nat) (listed:Array Bool) (a:Act) (w:World),C w->(∀w',C w'->ZcM w' v ((execOp a.eval oi).run P w'))->
   Wk P md ops C K fuel (listed.setIfInBounds i true) (a.put oi.dst v) w->∃o,ops[i]?=some o/\o.guard=none/\o.wp P a w (Wk P md ops C K fuel (listed.setIfInBounds i true)) (WB fun _ _=>False):=by
  intro fuel listed a w hC hy H;refine⟨oi,hi,hg,?_⟩;have h1:=hy w hC;unfold Oper.wp;generalize (execOp a.eval oi).run P w=r at *;cases r with
  | ok n w'=>
   cases n with
   | value u=>
    obtain⟨rfl,rfl⟩:=h1;exact H
   | _=>exact h1.elim
  | halt x w'=>exact h1.elim
 intro fuel
 induction fuel with
 | zero=>
  intro listed a w _ hr hC hy H;refine⟨hC,fun h=>(by rw[h] at hr;cases hr),fun j hj=>?_⟩
  by_cases hji:j=i
  ·subst hji;exact hself 0 listed a w hC hy H
  ·have:=ready_mono hj hji
   rw[H.2.1] at this;cases this
 | succ fuel ih=>
  intro listed a w hfree hr hC hy H;refine⟨hC,fun h=>(by rw[h] at hr;cases hr),fun j hj=>?_⟩
  by_cases hji:j=i
  ·subst hji;exact hself (fuel+1) listed a w hC hy H
  ·obtain⟨oj,hoj,hgj,h1⟩:=H.2.2 j (ready_mono hj hji);obtain⟨hjun,oj',hoj',hall⟩:=mem_ready.1 hj;have e:oj'=oj:=by rw[hoj] at hoj';injection hoj' with h;exact h.symm
   subst e;have hnot:∀e∈oj'.after,Region.binds md e=true->e.on≠i:=fun e he hb heq=>by
    have h1:=hall e he hb;have h0:=(mem_ready.1 hr).1;rw[heq] at h1;rw[gdB h0] at h1;cases h1
   have hap:=hfree j oj' hoj hji hjun hnot;refine⟨oj',hoj,hgj,Oper.wp_mono (fun a' w' h2=>?_) (Zaz hap (fun cs b=>hsel i oi cs b hi) (fun cs b=>hsel j oj' cs b hoj) h1)⟩
   obtain⟨h2,h3⟩:=h2;have hfree':∀k ok,ops[k]?=some ok->k≠i->(listed.setIfInBounds j true).getD k true=false->
     (∀e∈ok.after,Region.binds md e=true->e.on≠i)->oi.apart ops ok=true:=fun k ok hk hki hun hno=>by
    refine hfree k ok hk hki ?_ hno
    by_cases hjk:j=k
    ·subst hjk;exact hjun
    ·rw[getD_set_ne true hjk] at hun;exact hun
   rw[Array.setIfInBounds_comm _ _ (Ne.symm hji)] at h2;exact ih _ a' w' hfree' (ready_mono hr (Ne.symm hji)) (BC h2) (fun w' hw=>by rw[h3];exact hy w' hw) h2
theorem Xy (i:Nat) {oi:Oper} {v:Value} {fuel:Nat} {listed:Array Bool} {a:Act} {w:World} (hs:Region.noSelect ops=true) (hi:ops.toList[i]?=some oi) (hg:oi.guard=none) (hb:(Region.free md ops listed i&&(Region.ready md ops listed).contains i)=true)
  (hC:C w) (hy:∀w',C w'->(execOp a.eval oi).run P w'=.ok (.value v) w') (h:Wk P md ops C K fuel (listed.setIfInBounds i true) (a.put oi.dst v) w):Wk P md ops C K (fuel+1) listed a w:=by
 rw[Bool.and_eq_true] at hb;rw[Array.getElem?_toList] at hi;exact M0 hi hg (Region.noSelect_spec hs) fuel listed a w (Region.free_spec hi hb.1) (by simpa using hb.2) hC (fun w' hw=>by rw[hy w' hw];exact⟨rfl,rfl⟩) h
theorem ZU (i:Nat) {o:Oper} {fuel:Nat} {listed:Array Bool} {a:Act} {w:World} (hr:Region.ready md ops listed=[i]) (ho:ops.toList[i]?=some o) (hg:o.guard=none) (hC:C w)
  (h:∀K2:Act->World->Prop,(∀a' w',Wk P md ops C K fuel (listed.setIfInBounds i true) a' w'->K2 a' w')->wpList P ops (WB K2) [o] a w):Wk P md ops C K (fuel+1) listed a w:=by
 rw[Array.getElem?_toList] at ho;refine⟨hC,fun h0=>(by rw[hr] at h0;cases h0),fun j hj=>?_⟩
 rw[hr] at hj;have hji:j=i:=by simpa using hj
 subst hji;refine⟨o,ho,hg,?_⟩;replace h:=h _ (fun _ _ h=>h)
 unfold wpList at h;simp only[Z5 hg,if_true] at h;rcases h with h|⟨-,a',w',h,-⟩
 ·exact Oper.wp_mono2 (fun a' w' h=>h.2) (fun _ _ _ h=>(by cases h.1)) (fun h=>(by obtain⟨_,_,h,_⟩:=h;cases h)) h
 ·cases h
theorem Nc {listed:Array Bool} {a:Act} {w:World} (hr:Region.ready md ops listed=[]) (hC:C w) (h:K a w):Wk P md ops C K 0 listed a w:=⟨hC,hr,h⟩
theorem Pb {Q:Exit->Act->World->Prop} {id n:Nat} {a:Act} {w:World} (C:World->Prop) (hm:P.follows .mixedOrders=true) (hn:ops.size=n)
  (h:∀wd,Below w.heap.size w wd->Wk P .any ops C (fun a w=>Q .normal a w) n (Array.replicate n false) a wd):(Code.region id ops true).wp P Q a w:=by
 subst hn;exact wp_region_any hm (Nb (fun _ _ h=>h) _ _ _ _ (h _ ⟨rfl,rfl,rfl,Nl _,fun _ _=>rfl⟩))
theorem YT {K:Act->World->Prop} {a:Act} {w:World} (h:K a w):WB K .normal a w:=⟨rfl,h⟩
end
end Go.Proofs.YtpieeldbamklkaaGreatDoor
