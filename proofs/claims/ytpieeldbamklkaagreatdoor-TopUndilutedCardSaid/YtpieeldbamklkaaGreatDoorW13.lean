/- Texts put together: Ub Uc Ud Ue Uf Zf Up Wg Opd. -/
import Derived.Test.YtpieeldbamklkaaGreatDoorW12
import Derived.Test.YtpieeldbamklkaaGreatDoorWWf
import Derived.Stop.LaidErr
import Derived.Deep.Slices
import Derived.Deep.Fields
import Derived.OpenShut
import Derived.Lib.SmallJoins
import Derived.ChangeSame
set_option maxHeartbeats 8000000
set_option maxRecDepth 100000
namespace Go.Proofs.YtpieeldbamklkaaGreatDoor
open Go.RowKit Go.Shelf Num
structure Dlt where
 iss:List UInt8
 out:List UInt8
 un:List UInt8
 vl:List UInt8
def dlC (x:Dlt):Array Value:=#[.string ⟨x.iss.toArray⟩,.string ⟨x.out.toArray⟩,.string ⟨x.un.toArray⟩,.string ⟨x.vl.toArray⟩]
def dlS (u v p b:List UInt8):Dlt×Int:=
 if (isS v u p).2≠0 then (⟨[],[],[],[]⟩,(isS v u p).2) else if (caS v u b).2≠0 then (⟨[],[],[],[]⟩,(caS v u b).2) else
  (⟨(isS v u p).1,(caS v u b).1,canon (val u+val (isS v u p).1-val b),canon (val v+val p-val (caS v u b).1)⟩,0)
theorem Zal (a b c d:ByteArray):(#[.string a,.string b,.string c,.string d]:Array Value).all (·.oneCell')=true:=all_oneCell_toArray (cs:=[.string a,.string b,.string c,.string d]) (fun v hv=>by simp only[List.mem_cons,List.not_mem_nil,or_false] at hv;rcases hv with rfl|rfl|rfl|rfl<;>rfl)
theorem SX (K:Nat) {a b:Int} (h1:a.natAbs<10 ^ K) (h2:b.natAbs<10 ^ K):(a+b).natAbs<10 ^ (K+1):=by rw[Nat.pow_succ];omega
theorem IA (u i:List UInt8) (h1:u.length<=100000) (h2:i.length<=100000):(canon (val u+val i)).length<=100000000:=by
 have a1:=Zo (l:=u) (k:=100000) h1;have a2:=Zo (l:=i) (k:=100000) h2;exact Nt (Zn _ (100000+1) (SX 100000 a1 a2)) (by decide)
theorem E0 {v0 u v p b:List UInt8} (d:Int) (hu:u.length<=1000) (hv:v.length<=1000) (hp:p.length<=1000) (hb:b.length<=1000) (hi:(isS v u p).1.length<=100000) (ho:(caS v u b).1.length<=100000):WN 101 #[.agg #[.string ⟨v0.toArray⟩,.string ⟨u.toArray⟩],.agg #[.int .i64 d,.string ⟨v.toArray⟩,.string ⟨p.toArray⟩,.string ⟨b.toArray⟩]] (.tuple #[.agg (dlC (dlS u v p b).1),.int .i64 (dlS u v p b).2]):=fun w hG=>by
 obtain⟨g1,g2,g3,g4⟩:=Vs w (.cells #[.string ⟨v.toArray⟩,.string ⟨u.toArray⟩] 183) (.cells #[.int .i64 d,.string ⟨v.toArray⟩,.string ⟨p.toArray⟩,.string ⟨b.toArray⟩] 41);have k1:=ZF ((w.alloc (.cells #[.string ⟨v.toArray⟩,.string ⟨u.toArray⟩] 183)).alloc (.cells #[.int .i64 d,.string ⟨v.toArray⟩,.string ⟨p.toArray⟩,.string ⟨b.toArray⟩] 41)) (.cells #[.string ⟨#[]⟩,.string ⟨#[]⟩,.string ⟨#[]⟩,.string ⟨#[]⟩] 36);have k3:=Zd ((w.alloc (.cells #[.string ⟨v.toArray⟩,.string ⟨u.toArray⟩] 183)).alloc (.cells #[.int .i64 d,.string ⟨v.toArray⟩,.string ⟨p.toArray⟩,.string ⟨b.toArray⟩] 41)) (.cells #[.string ⟨#[]⟩,.string ⟨#[]⟩,.string ⟨#[]⟩,.string ⟨#[]⟩] 36);rw[g4] at k1;obtain⟨W1,hW1⟩:∃W1,W1=((w.alloc (.cells #[.string ⟨v.toArray⟩,.string ⟨u.toArray⟩] 183)).alloc (.cells #[.int .i64 d,.string ⟨v.toArray⟩,.string ⟨p.toArray⟩,.string ⟨b.toArray⟩] 41)).alloc (.cells #[.string ⟨#[]⟩,.string ⟨#[]⟩,.string ⟨#[]⟩,.string ⟨#[]⟩] 36):=⟨_,rfl⟩
 rw[<-hW1] at k1 k3;have HB1:Hid (Below w.heap.size w W1):=bto g3 k3;have XF:Hid (Blk W1 w.heap.size #[.string ⟨v.toArray⟩,.string ⟨u.toArray⟩]):=⟨_,Zw g1 k3⟩;have XD:Hid (Blk W1 (w.heap.size+1) #[.int .i64 d,.string ⟨v.toArray⟩,.string ⟨p.toArray⟩,.string ⟨b.toArray⟩]):=⟨_,Zw g2 k3⟩;have HRW1:Hid (W1.heap[w.heap.size+1+1]?=some (.cells #[.string ⟨#[]⟩,.string ⟨#[]⟩,.string ⟨#[]⟩,.string ⟨#[]⟩] 36 (0,0))):=k1;have HI:Hid ((Tryz.prog.info? 36).map (·.size)=some 4):=by
  show _=_
  kernel_rfl
 have HW1:=Lh hW1;have CI:=Lh (Cf (v:=v) (u:=u) (p:=p) (by omega) (by omega) (by omega))
 have CC:=Lh (FX (v:=v) (u:=u) (b:=b) (by omega) (by omega) (by omega))
 have HV:Hid (dlS u v p b=if (isS v u p).2≠0 then (⟨[],[],[],[]⟩,(isS v u p).2) else if (caS v u b).2≠0 then (⟨[],[],[],[]⟩,(caS v u b).2) else
  (⟨(isS v u p).1,(caS v u b).1,canon (val u+val (isS v u p).1-val b),canon (val v+val p-val (caS v u b).1)⟩,0)):=rfl
 obtain⟨⟨i,ei⟩,hIS⟩:∃s,s=isS v u p:=⟨_,rfl⟩
 obtain⟨⟨o,eo⟩,hCA⟩:∃s,s=caS v u b:=⟨_,rfl⟩
 rw[<-hIS] at CI HV hi;rw[<-hCA] at CC HV ho;generalize dlS u v p b=D at *;clear hIS hCA g1 g2 g3 g4 k1 k3 hW1;go_enter Tryz.func101,Tryz.ntmps101;go_wp2_with fail;rw[<-HW1.out]
 with_reducible refine (CI.out.of hG.g HB1.out).mono ?_
 rintro e w2 ⟨rfl,hb2⟩;have XF2:=Lh (XF.out.below hb2);have XD2:=Lh (XD.out.below hb2);have HBw2:=Lh (bto HB1.out hb2);have HRw2:=Lh (Zw HRW1.out hb2);clear hb2 XF XD HRW1 HB1 HW1 CI
 by_cases h1:ei=0
 rotate_left
 ·have e5:decide (ei=0)=false:=Df h1;have e6:(ei==0)=false:=by rw[Bn];exact h1
  have HV2:Hid (D=(⟨[],[],[],[]⟩,ei)):=HV.out.trans (if_pos h1);obtain⟨r1,r2⟩:=YX (cs:=#[.string ⟨#[]⟩,.string ⟨#[]⟩,.string ⟨#[]⟩,.string ⟨#[]⟩]) HRw2.out rfl;have HTH:=Lh r1;obtain⟨wE,hwE⟩:∃wE,wE=w2.setCells (w.heap.size+1+1) 0 (#[.string ⟨#[]⟩,.string ⟨#[]⟩,.string ⟨#[]⟩,.string ⟨#[]⟩]:Array Value).toList:=⟨_,rfl⟩
  have HWE:=Lh hwE;rw[<-hwE] at r2;have HRR:=Lh r2.new;have HBE:Hid (Below w.heap.size w wE):=by rw[hwE];exact Lib.below_setCells _ (by omega) _ _ HBw2.out
  have HM:Hid ((#[.string ⟨#[]⟩,.string ⟨#[]⟩,.string ⟨#[]⟩,.string ⟨#[]⟩]:Array Value).all (·.oneCell')=true):=Zal _ _ _ _
  clear hwE r1 r2;go_wp2_with (refine wpList_store_mid rfl 36 (.tmp 4) (.tmp 21) rfl (w.heap.size+1+1) 0 #[.string ⟨#[]⟩,.string ⟨#[]⟩,.string ⟨#[]⟩,.string ⟨#[]⟩] rfl rfl HTH.out HI.out HM.out ?_;rw[<-HWE.out]);refine bodyPost_ret (v:=.tuple #[.agg #[.string ⟨#[]⟩,.string ⟨#[]⟩,.string ⟨#[]⟩,.string ⟨#[]⟩],.int .i64 ei]) ?_ rfl ?_
  ·exact results_cell_tmp Tryz.f101 4 5 36 #[.string ⟨#[]⟩,.string ⟨#[]⟩,.string ⟨#[]⟩,.string ⟨#[]⟩] (.int .i64 ei) rfl rfl rfl (ZD HRR.out) Tryz.underlying36 rfl HI.out
  exact⟨by rw[HV2.out];rfl,HBE.out⟩
 subst h1;have r1:w2.cell? ⟨w.heap.size,0,none⟩=some (.string ⟨v.toArray⟩):=XF2.out.c 0;have r2:w2.cell? ⟨w.heap.size,1,none⟩=some (.string ⟨u.toArray⟩):=XF2.out.c 1;have r3:w2.cell? ⟨w.heap.size+1,3,none⟩=some (.string ⟨b.toArray⟩):=XD2.out.c 3;go_wp2_with fail
 with_reducible refine (CC.out.of hG.g HBw2.out).mono ?_
 rintro e w3 ⟨rfl,hb3⟩;have XF:=Lh (XF2.out.below hb3);have XD:=Lh (XD2.out.below hb3);have HBw3:=Lh (bto HBw2.out hb3);have HRw3:=Lh (Zw HRw2.out hb3);clear r1 r2 r3 hb3 XF2 XD2 HRw2 HBw2 CC
 by_cases h1:eo=0
 rotate_left
 ·have e5:decide (eo=0)=false:=Df h1;have e6:(eo==0)=false:=by rw[Bn];exact h1
  have HV2:Hid (D=(⟨[],[],[],[]⟩,eo)):=HV.out.trans ((if_neg (fun h=>h rfl)).trans (if_pos h1))
  obtain⟨r1,r2⟩:=YX (cs:=#[.string ⟨#[]⟩,.string ⟨#[]⟩,.string ⟨#[]⟩,.string ⟨#[]⟩]) HRw3.out rfl;have HTH:=Lh r1;obtain⟨wE,hwE⟩:∃wE,wE=w3.setCells (w.heap.size+1+1) 0 (#[.string ⟨#[]⟩,.string ⟨#[]⟩,.string ⟨#[]⟩,.string ⟨#[]⟩]:Array Value).toList:=⟨_,rfl⟩
  have HWE:=Lh hwE;rw[<-hwE] at r2;have HRR:=Lh r2.new;have HBE:Hid (Below w.heap.size w wE):=by rw[hwE];exact Lib.below_setCells _ (by omega) _ _ HBw3.out
  have HM:Hid ((#[.string ⟨#[]⟩,.string ⟨#[]⟩,.string ⟨#[]⟩,.string ⟨#[]⟩]:Array Value).all (·.oneCell')=true):=Zal _ _ _ _
  clear hwE r1 r2;go_wp2_with (refine wpList_store_mid rfl 36 (.tmp 4) (.tmp 32) rfl (w.heap.size+1+1) 0 #[.string ⟨#[]⟩,.string ⟨#[]⟩,.string ⟨#[]⟩,.string ⟨#[]⟩] rfl rfl HTH.out HI.out HM.out ?_;rw[<-HWE.out]);refine bodyPost_ret (v:=.tuple #[.agg #[.string ⟨#[]⟩,.string ⟨#[]⟩,.string ⟨#[]⟩,.string ⟨#[]⟩],.int .i64 eo]) ?_ rfl ?_
  ·exact results_cell_tmp Tryz.f101 4 5 36 #[.string ⟨#[]⟩,.string ⟨#[]⟩,.string ⟨#[]⟩,.string ⟨#[]⟩] (.int .i64 eo) rfl rfl rfl (ZD HRR.out) Tryz.underlying36 rfl HI.out
  exact⟨by rw[HV2.out];rfl,HBE.out⟩
 subst h1;have HV2:Hid (D=(⟨i,o,canon (val u+val i-val b),canon (val v+val p-val o)⟩,0)):=HV.out.trans ((if_neg (fun h=>h rfl)).trans (if_neg (fun h=>h rfl)))
 have K1:=Lh (Xa (l:=u) (l':=i) (by omega) (by have h:i.length<=100000:=hi;omega) rfl)
 have m1:(canon (val u+val i)).length<=100000000:=IA u i (by omega) hi
 have K2:=Lh (Wk (l:=canon (val u+val i)) (l':=b) (z:=val u+val i-val b) m1 (by omega) (by rw[Zg]))
 have K3:=Lh (Xa (l:=v) (l':=p) (by omega) (by omega) rfl)
 have m2:(canon (val v+val p)).length<=100000000:=IA v p (by omega) (by omega)
 have K4:=Lh (Wk (l:=canon (val v+val p)) (l':=o) (z:=val v+val p-val o) m2 (by have h:o.length<=100000:=ho;omega) (by rw[Zg]))
 generalize canon (val u+val i)=A1 at *;generalize canon (val u+val i-val b)=N at *;generalize canon (val v+val p)=A2 at *;generalize canon (val v+val p-val o)=Y at *;obtain⟨F,hFd⟩:∃F:Fx,F=fun k=>if k=w.heap.size+1+1 then some (.cells #[.string ⟨#[]⟩,.string ⟨#[]⟩,.string ⟨#[]⟩,.string ⟨#[]⟩] 36 (0,0)) else none:=⟨_,rfl⟩
 obtain⟨tch,htch⟩:∃tch:Nat->List Nat,tch=fun k=>if k=w.heap.size+1+1 then [17] else []:=⟨_,rfl⟩
 have f1:F (w.heap.size+1+1)=some (.cells #[.string ⟨#[]⟩,.string ⟨#[]⟩,.string ⟨#[]⟩,.string ⟨#[]⟩] 36 (0,0)):=by rw[hFd];exact if_pos rfl
 have hX:∀k,F k≠none->w.heap.size<=k:=fun k hk=>by
  rw[hFd] at hk
  by_cases e:k=w.heap.size+1+1
  ·omega
  ·exact absurd (if_neg e) hk
 have hnF:¬F w.heap.size≠none:=fun h=>by rw[hFd] at h;exact h (if_neg (by omega))
 have hnD:¬F (w.heap.size+1)≠none:=fun h=>by rw[hFd] at h;exact h (if_neg (by omega))
 have HFF:Hid (∀k ob,F k=some ob->w3.heap[k]?=some ob):=fun k ob hk=>by
  rw[hFd] at hk;dsimp only at hk
  by_cases e:k=w.heap.size+1+1
  ·subst e;rw[if_pos rfl] at hk;rw[<-hk];exact HRw3.out
  ·rw[if_neg e] at hk;cases hk
 have HB3:=HBw3;clear hFd m1 m2 hi ho;go_wp2_with fail;refine Z0 tch F (by kernel_rfl) (by kernel_rfl) (by kernel_rfl) HFF.out ?_
 refine Zj _ rfl (fun wz hw=>by go_simp;try with_reducible rfl) ?_
 simp only[Act.put,StT,StZ,StS,Nat.reduceAdd];refine Zj _ rfl (fun wz hw=>by go_simp;try with_reducible rfl) ?_
 simp only[Act.put,StT,StZ,StS,Nat.reduceAdd];refine Zj _ rfl (fun wz hw=>by go_simp;try with_reducible rfl) ?_
 simp only[Act.put,StT,StZ,StS,Nat.reduceAdd];refine Zj _ rfl (fun wz hw=>by have q0:wz.cell? ⟨w.heap.size,1,none⟩=some (.string ⟨u.toArray⟩):=(XF.out.keepX hw hnF).c 1;go_simp;try with_reducible rfl) ?_
 simp only[Act.put,StT,StZ,StS,Nat.reduceAdd];refine Zj _ rfl (fun wz hw=>by go_simp;try with_reducible rfl) ?_
 simp only[Act.put,StT,StZ,StS,Nat.reduceAdd];refine Yp _ _ _ rfl (fun wz hw=>by go_simp;try with_reducible rfl) (fun wz hw=>K1.out.of hG.g (hw.lower HB3.out hX)) ?_
 simp only[Act.put,StT,StZ,StS,Nat.reduceAdd];refine Zj _ rfl (fun wz hw=>by go_simp;try with_reducible rfl) ?_
 simp only[Act.put,StT,StZ,StS,Nat.reduceAdd];refine Zj _ rfl (fun wz hw=>by have q0:wz.cell? ⟨w.heap.size+1,3,none⟩=some (.string ⟨b.toArray⟩):=(XD.out.keepX hw hnD).c 3;go_simp;try with_reducible rfl) ?_
 simp only[Act.put,StT,StZ,StS,Nat.reduceAdd];refine Yp _ _ _ rfl (fun wz hw=>by go_simp;try with_reducible rfl) (fun wz hw=>K2.out.of hG.g (hw.lower HB3.out hX)) ?_
 simp only[Act.put,StT,StZ,StS,Nat.reduceAdd];refine Zj _ rfl (fun wz hw=>by go_simp;try with_reducible rfl) ?_
 simp only[Act.put,StT,StZ,StS,Nat.reduceAdd];refine Zj _ rfl (fun wz hw=>by have q0:wz.cell? ⟨w.heap.size+1,1,none⟩=some (.string ⟨v.toArray⟩):=(XD.out.keepX hw hnD).c 1;go_simp;try with_reducible rfl) ?_
 simp only[Act.put,StT,StZ,StS,Nat.reduceAdd];refine Zj _ rfl (fun wz hw=>by go_simp;try with_reducible rfl) ?_
 simp only[Act.put,StT,StZ,StS,Nat.reduceAdd];refine Zj _ rfl (fun wz hw=>by have q0:wz.cell? ⟨w.heap.size+1,2,none⟩=some (.string ⟨p.toArray⟩):=(XD.out.keepX hw hnD).c 2;go_simp;try with_reducible rfl) ?_
 simp only[Act.put,StT,StZ,StS,Nat.reduceAdd];refine Yp _ _ _ rfl (fun wz hw=>by go_simp;try with_reducible rfl) (fun wz hw=>K3.out.of hG.g (hw.lower HB3.out hX)) ?_
 simp only[Act.put,StT,StZ,StS,Nat.reduceAdd];refine Zj _ rfl (fun wz hw=>by go_simp;try with_reducible rfl) ?_
 simp only[Act.put,StT,StZ,StS,Nat.reduceAdd];refine Yp _ _ _ rfl (fun wz hw=>by go_simp;try with_reducible rfl) (fun wz hw=>K4.out.of hG.g (hw.lower HB3.out hX)) ?_
 simp only[Act.put,StT,StZ,StS,Nat.reduceAdd];refine Zj _ rfl (fun wz hw=>by go_simp;try with_reducible rfl) ?_
 simp only[Act.put,StT,StZ,StS,Nat.reduceAdd];refine Xn (w.heap.size+1+1) 0 #[.string ⟨#[]⟩,.string ⟨#[]⟩,.string ⟨#[]⟩,.string ⟨#[]⟩] [.string ⟨i.toArray⟩,.string ⟨o.toArray⟩,.string ⟨N.toArray⟩,.string ⟨Y.toArray⟩] 36 f1 (by simp[htch]) (fun j oj hj=>ZJ (l:=[17]) (by kernel_rfl) j oj (by simpa [htch] using hj)) rfl (fun wz hw hc hf=>ZQ 36 _ _ rfl (w.heap.size+1+1) 0 #[.string ⟨i.toArray⟩,.string ⟨o.toArray⟩,.string ⟨N.toArray⟩,.string ⟨Y.toArray⟩] rfl rfl (fun j hj=>⟨by have hj:j<4:=hj;rw[hc,Array.getElem?_eq_getElem (by show 0+j<4;omega)];rfl,hf _⟩) HI.out (Zal _ _ _ _)) ?_
 simp only[Act.put,Nat.reduceAdd];refine Zj _ rfl (fun wz hw=>by go_simp;try with_reducible rfl) ?_
 simp only[Act.put,StT,StZ,StS,Nat.reduceAdd];refine Y9 (fun w4 hF4=>?_)
 have h4:=hF4.box (w.heap.size+1+1) _ (if_pos rfl);have HB4:=Lh (hF4.below.lower HBw3.out hX);have H4:Hid (w4.heap[w.heap.size+1+1]?=some (.cells #[.string ⟨i.toArray⟩,.string ⟨o.toArray⟩,.string ⟨N.toArray⟩,.string ⟨Y.toArray⟩] 36 (0,0))):=h4;clear hF4 h4;go_wp2;refine bodyPost_ret (v:=.tuple #[.agg #[.string ⟨i.toArray⟩,.string ⟨o.toArray⟩,.string ⟨N.toArray⟩,.string ⟨Y.toArray⟩],.int .i64 0]) ?_ rfl ?_
 ·exact results_cell_tmp Tryz.f101 4 5 36 #[.string ⟨i.toArray⟩,.string ⟨o.toArray⟩,.string ⟨N.toArray⟩,.string ⟨Y.toArray⟩] (.int .i64 0) rfl rfl rfl (ZD H4.out) Tryz.underlying36 rfl HI.out
 exact⟨by rw[HV2.out];rfl,HB4.out⟩
theorem IB {α:Type} (cs:α->List Value) (m:Nat) (hm:∀x,(cs x).length=m):∀{xs:List α} {i:Nat} {x:α},xs[i]?=some x->∀j,j<m->(xs.flatMap cs)[i*m+j]?=(cs x)[j]?
 | [],i,x,h=>by simp at h
 | y::xs,0,x,h=>by
  have:y=x:=by simpa using h
  subst this;intro j hj;rw[List.flatMap_cons,Nat.zero_mul,Nat.zero_add,List.getElem?_append_left (by rw[hm];exact hj)]
 | y::xs,i+1,x,h=>by
  intro j hj;have h1:=IB cs m hm (xs:=xs) (i:=i) (x:=x) (by simpa using h) j hj
  rw[List.flatMap_cons,List.getElem?_append_right (by rw[hm,Nat.succ_mul];omega),hm,show (i+1)*m+j-m=i*m+j by rw[Nat.succ_mul];omega]
  exact h1
theorem Ts {α:Type} (cs:α->List Value) (m:Nat) (hm:∀x,(cs x).length=m) {w:World} {B n:Nat} {ty:TypeId} {v:Value} {xs:List α} (h:w.ownsRow B ty m v n (xs.flatMap cs)) (hn:xs.length=n) {i:Nat} {x:α} (hx:xs[i]?=some x) :
  ∃g c,v=.slice (some ⟨g,0,none⟩) n c/\B<=g/\g<w.heap.size/\n<=c/\∀j,j<m->w.cell? ⟨g,i*m+j,none⟩=(cs x)[j]?:=by
 have hi:=(Lg.1 hx).1;rcases h.2 with ⟨-,h0⟩|⟨g,cap,cur,e,hb,hg,hc,-,hs,ht⟩
 ·omega
 ·refine⟨g,cap,e,hb,(Ag.1 hg).1,hc,fun j hj=>?_⟩
  have hlt:i*m+j<n*m:=by
   have:(i+1)*m<=n*m:=Nat.mul_le_mul_right m (by omega)
   rw[Nat.succ_mul] at this;omega
  rw[Zh hg,<-Array.getElem?_toList,<-IB cs m hm hx j hj,<-ht,List.getElem?_take,if_pos hlt]
theorem WZ {w:World} {B n m:Nat} {ty:TypeId} {v:Value} {cs:List Value} (h:w.ownsRow B ty m v n cs):∃A c,v=.slice A n c:=by
 rcases h.2 with ⟨e,h0⟩|⟨g,cap,cur,e,-⟩
 ·exact⟨none,0,by rw[e,h0]⟩
 ·exact⟨_,_,e⟩
structure Del where
 day:Int
 v:List UInt8
 p:List UInt8
 u:List UInt8
def xcs (x:Dlt):List Value:=[.string ⟨x.iss.toArray⟩,.string ⟨x.out.toArray⟩,.string ⟨x.un.toArray⟩,.string ⟨x.vl.toArray⟩]
theorem IC (x:Dlt):∀u∈xcs x,u.oneCell'=true:=by
 intro u hu;simp only[xcs,List.mem_cons,List.not_mem_nil,or_false] at hu;rcases hu with rfl|rfl|rfl|rfl<;>rfl
def Vr (xs:List Dlt):List Value:=xs.flatMap xcs
def TR (w:World) (A:Option Addr) (ds:List Del):Prop:=∀(i:Nat) (d:Del),ds[i]?=some d->∃b o,A=some ⟨b,o,none⟩/\b<w.heap.size/\w.cell? ⟨b,o+i*4,none⟩=some (.int .i64 d.day)/\w.cell? ⟨b,o+i*4+1,none⟩=some (.string ⟨d.v.toArray⟩)/\w.cell? ⟨b,o+i*4+2,none⟩=some (.string ⟨d.p.toArray⟩)/\w.cell? ⟨b,o+i*4+3,none⟩=some (.string ⟨d.u.toArray⟩)
theorem TR.below {w w':World} {A:Option Addr} {ds:List Del} (h:TR w A ds) (hb:Below w.heap.size w w'):TR w' A ds:=fun i d hd=>by
 obtain⟨b,o,hA,hl,h0,h1,h2,h3⟩:=h i d hd;exact⟨b,o,hA,Nat.lt_of_lt_of_le hl hb.size,(hb.cell (p:=⟨b,_,none⟩) hl).trans h0,(hb.cell (p:=⟨b,_,none⟩) hl).trans h1,(hb.cell (p:=⟨b,_,none⟩) hl).trans h2,(hb.cell (p:=⟨b,_,none⟩) hl).trans h3⟩
def X8 (xs:List Dlt):Nat->List UInt8
 | 0=>[]
 | k+1=>((xs[k]?).map (·.un)).getD []
structure Sg (ds:List Del) (xs:List Dlt):Prop where
 len:xs.length=ds.length
 ok:∀(k:Nat) (d:Del) (x:Dlt),ds[k]?=some d->xs[k]?=some x->upE [d.v,d.p,d.u]=0/\dlS (X8 xs k) d.v d.p d.u=(x,0)
theorem Lr {xs ys:List Dlt} {k:Nat} (h:k<=xs.length):X8 (xs++ys) k=X8 xs k:=by
 cases k with
 | zero=>rfl
 | succ k=>
  show (((xs++ys)[k]?).map (·.un)).getD []=((xs[k]?).map (·.un)).getD []
  rw[List.getElem?_append_left (by omega)]
theorem Nn {xs:List Dlt} {x:Dlt} {k:Nat} (h:xs.length=k):X8 (xs++[x]) (k+1)=x.un:=by
 show (((xs++[x])[k]?).map (·.un)).getD []=x.un
 rw[List.getElem?_append_right (by omega),h,Nat.sub_self]
 rfl
theorem E3:Sg [] []:=⟨rfl,fun k d x h=>by simp at h⟩
theorem Sg.snoc {ds:List Del} {xs:List Dlt} {k:Nat} {d:Del} {x:Dlt} (h:Sg (ds.take k) xs) (hd:ds[k]?=some d) (h1:upE [d.v,d.p,d.u]=0) (h2:dlS (X8 xs k) d.v d.p d.u=(x,0)):Sg (ds.take (k+1)) (xs++[x]):=by
 have hk:=(Lg.1 hd).1;have hl:xs.length=k:=by rw[h.len,List.length_take];omega
 refine⟨by rw[List.length_append,hl,List.length_take];simp;omega,fun j d' x' hj hx=>?_⟩
 by_cases hjk:j<k
 ·rw[List.getElem?_append_left (by omega)] at hx
  rw[Lr (by omega)]
  refine h.ok j d' x' ?_ hx;rw[List.getElem?_take,if_pos hjk];rw[List.getElem?_take,if_pos (by omega)] at hj
  exact hj
 ·have hj2:=(Lg.1 hx).1;rw[List.length_append] at hj2;simp at hj2
  have:j=k:=by omega
  subst this;rw[List.getElem?_take,if_pos (by omega),hd] at hj
  rw[List.getElem?_append_right (by omega),hl,Nat.sub_self] at hx
  cases hj;cases hx;rw[Lr (by omega)]
  exact⟨h1,h2⟩
theorem Ls (a b:Int):(YB a b).natAbs<=a.natAbs:=by
 unfold YB
 split
 ·exact Int.natAbs_ediv_le_natAbs a b
 ·have:=Int.natAbs_ediv_le_natAbs (-a) (-b)
  rwa [Int.natAbs_neg] at this
theorem Tt {a b:Int} {i j:Nat} (h1:a.natAbs<10 ^ i) (h2:b.natAbs<10 ^ j):(a*b).natAbs<10 ^ (i+j):=by
 rw[Int.natAbs_mul,Nat.pow_add];exact Nat.mul_lt_mul'' h1 h2
theorem N9 {v u p:List UInt8} {K:Nat} (hp:p.length<=20) (hu:(val u).natAbs<10 ^ K):(val (isS v u p).1).natAbs<10 ^ (20+K)/\(isS v u p).1.length<=20+K+1:=by
 have h1:=Zo (l:=p) (k:=20) hp;have h0:0<10 ^ (20+K):=Nat.pow_pos (by decide)
 unfold isS
 split
 ·exact⟨Nat.lt_of_lt_of_le h1 (Nat.pow_le_pow_right (by decide) (by omega)),by show p.length<=_;omega⟩
 ·split
  ·exact⟨h0,by simp⟩
  ·have h2:(YB (val p*val u) (val v)).natAbs<10 ^ (20+K):=Nat.lt_of_le_of_lt (Ls _ _) (Tt h1 hu);exact⟨by rw[Zg];exact h2,Zn _ _ h2⟩
theorem Qs {v u b:List UInt8} (hv:v.length<=20) (hb:b.length<=20):(val (caS v u b).1).natAbs<10 ^ (20+20)/\(caS v u b).1.length<=20+20+1:=by
 have h1:=Zo (l:=v) (k:=20) hv;have h2:=Zo (l:=b) (k:=20) hb;have h0:0<10 ^ (20+20):=Nat.pow_pos (by decide)
 unfold caS
 split
 ·exact⟨h0,by simp⟩
 ·split
  ·exact⟨h0,by simp⟩
  ·split
   ·exact⟨h0,by simp⟩
   ·have h2:(YB (val v*val b) (val u)).natAbs<10 ^ (20+20):=Nat.lt_of_le_of_lt (Ls _ _) (Tt h1 h2);exact⟨by rw[Zg];exact h2,Zn _ _ h2⟩
theorem UX {u v p b:List UInt8} {x:Dlt} (h:dlS u v p b=(x,0)):(isS v u p).2=0/\(caS v u b).2=0/\x=⟨(isS v u p).1,(caS v u b).1,canon (val u+val (isS v u p).1-val b),canon (val v+val p-val (caS v u b).1)⟩:=by
 unfold dlS at h
 by_cases h1:(isS v u p).2=0
 ·rw[if_neg (fun e=>e h1)] at h
  by_cases h2:(caS v u b).2=0
  ·rw[if_neg (fun e=>e h2)] at h
   injection h with h _
   exact⟨h1,h2,h.symm⟩
  ·rw[if_pos h2] at h;injection h with _ h
   exact absurd h h2
 ·rw[if_pos h1] at h;injection h with _ h
  exact absurd h h1
theorem Ma {u v p b:List UInt8} {x:Dlt} {K:Nat} (h:dlS u v p b=(x,0)) (hp:p.length<=20) (hb:b.length<=20) (hu:(val u).natAbs<10 ^ K):(val x.un).natAbs<10 ^ (K+22)/\x.un=canon (val x.un):=by
 obtain⟨-,-,rfl⟩:=UX h;have h1:=(N9 (v:=v) hp hu).1;have h2:=Zo (l:=b) (k:=20) hb;have h3:(val u).natAbs<10 ^ (20+K):=Nat.lt_of_lt_of_le hu (Nat.pow_le_pow_right (by decide) (by omega))
 have h4:=SX _ h3 h1;have h5:(val b).natAbs<10 ^ (20+K+1):=Nat.lt_of_lt_of_le h2 (Nat.pow_le_pow_right (by decide) (by omega))
 have h6:=SU _ h4 h5;refine⟨by rw[Zg];exact Nat.lt_of_lt_of_le h6 (Nat.pow_le_pow_right (by decide) (by omega)),by rw[Zg]⟩
theorem Lt:(Tryz.prog.info? 36).map (fun i=>(i.zero,i.size,i.bytes))=some (some (.agg #[.string ⟨#[]⟩,.string ⟨#[]⟩,.string ⟨#[]⟩,.string ⟨#[]⟩]),4,64):=by kernel_rfl
theorem Oy (args:Array Value) (w:World):(callFunc 101 args).run Tryz.prog w=.ok (.enter 101 args) w:=by kernel_rfl
theorem ZaZ {w:World} {A:Option Addr} {ds:List Del} {n:Nat} (c:Nat) (hG:GE w) (hn:ds.length=n) (hn6:n<=6) (hD:TR w A ds) (hs:∀d∈ds,d.v.length<=20/\d.p.length<=20/\d.u.length<=20) :
  Calls Tryz.prog 39 #[.slice A n c] w fun e w'=>∃v err,e=.returned (.tuple #[v,.int .i64 err])/\Below w.heap.size w w'/\(err=0->∃xs,Sg ds xs/\w'.ownsRow (w.heap.size+1) 36 4 v n (Vr xs))/\(err≠0->v=.slice none 0 0):=by
 have hb0:=Zd w (.cells #[.string ⟨#[]⟩,.string ⟨#[]⟩] 183);have h0:=ZF w (.cells #[.string ⟨#[]⟩,.string ⟨#[]⟩] 183);have hsz:(w.alloc (.cells #[.string ⟨#[]⟩,.string ⟨#[]⟩] 183)).heap.size=w.heap.size+1:=by simp
 obtain⟨B,hB⟩:∃B,B=w.heap.size+1:=⟨_,rfl⟩
 rw[<-hB];have HBE:Hid (B=w.heap.size+1):=hB;have HO0:Hid ((w.alloc (.cells #[.string ⟨#[]⟩,.string ⟨#[]⟩] 183)).ownsRow B 36 4 (.slice none 0 0) 0 (Vr [])):=World.ownsRow_nil _ B 36 4;have HF0:Hid (Blk (w.alloc (.cells #[.string ⟨#[]⟩,.string ⟨#[]⟩] 183)) w.heap.size #[.string ⟨List.toArray []⟩,.string ⟨List.toArray []⟩]):=⟨_,h0⟩;have HB0:=Lh hb0;have HD:=Lh hD;have HS:=Lh hs;have HN:=Lh hn;have g1:decide (400<n)=false:=Df (by omega)
 have g2:decide (400<(n:Int))=false:=Df (by omega)
 have HR0:Hid (Sg (ds.take 0) []):=by show Sg _ _;rw[List.take_zero];exact E3
 clear hb0 h0 hsz hB hn hD hs;go_enter Tryz.func39,Tryz.ntmps39;go_wp2_with fail
 go_loopw [4,6,7,8,9,10,11,17] (fun qv _ _ _ _ _ _ iv wr=>∃(k:Nat) (v:Value) (xs:List Dlt) (V U:List UInt8),k<=n/\v=qv/\iv=.int .i64 (k:Int)/\Hid (wr.ownsRow B 36 4 v k (Vr xs))/\Hid (Blk wr w.heap.size #[.string ⟨V.toArray⟩,.string ⟨U.toArray⟩])/\Hid (Below w.heap.size w wr)/\Hid (Sg (ds.take k) xs)/\Hid (X8 xs k=U)/\Hid ((val U).natAbs<10 ^ (22*k)/\U=canon (val U))) (fun _ _ _ _ _ _ _ iv _=>n-(intOf iv).toNat)
 case atStart=>exact⟨0,_,[],[],[],Nat.zero_le _,rfl,rfl,HO0.out,HF0.out,HB0.out,HR0.out,rfl,⟨by decide,rfl⟩⟩
 case round=>
  clear HO0 HF0 HB0 HR0;obtain⟨k,v,xs,V,U,hk,rfl,rfl,HO,HFU,HWR,HRO,HUN,HUB⟩:=hrel
  by_cases hlk:k<n
  rotate_left
  ·have hkm:k=n:=by omega
   have e1:decide (k<n)=false:=Df hlk;have e2:decide ((k:Int)<(n:Int))=false:=Df (by omega)
   subst hkm;go_wp2;go_ret2;refine⟨_,_,rfl,HWR.out,fun _=>⟨xs,?_,HO.out⟩,fun h=>absurd rfl h⟩
   have h:=HRO.out
   rwa [List.take_of_length_le (by rw[HN.out];exact Nl _)] at h
  have e1:decide (k<n)=true:=Dt hlk;have e2:decide ((k:Int)<(n:Int))=true:=Dt (by omega)
  obtain⟨x,hx⟩:∃x,ds[k]?=some x:=⟨_,List.getElem?_eq_getElem (by have:=HN.out;omega)⟩
  have HX:=Lh hx;have HSX:=Lh (HS.out x (Lm hx));obtain⟨b,o,hA,hbs,p0,p1,p2,p3⟩:=(HD.out.below HWR.out) k x hx;subst hA;have hb1:=Zd wr (.cells #[.int .i64 x.day,.string ⟨x.v.toArray⟩,.string ⟨x.p.toArray⟩,.string ⟨x.u.toArray⟩] 41);have h1:=ZF wr (.cells #[.int .i64 x.day,.string ⟨x.v.toArray⟩,.string ⟨x.p.toArray⟩,.string ⟨x.u.toArray⟩] 41);obtain⟨w1,hw1⟩:∃w1,w1=wr.alloc (.cells #[.int .i64 x.day,.string ⟨x.v.toArray⟩,.string ⟨x.p.toArray⟩,.string ⟨x.u.toArray⟩] 41):=⟨_,rfl⟩
  rw[<-hw1] at hb1 h1;have HW1:=Lh hw1;have X1:Hid (Blk w1 wr.heap.size #[.int .i64 x.day,.string ⟨x.v.toArray⟩,.string ⟨x.p.toArray⟩,.string ⟨x.u.toArray⟩]):=⟨_,h1⟩;have HB1:=Lh hb1;have HWB:=Lh hb1;clear hx hb1 h1 hw1 hbs;cases k with
  | zero=>
   simp only[Nat.zero_mul,Nat.add_zero] at p0 p1 p2 p3;go_wp2_with fail;rw[<-HW1.out];refine Zm (by kernel_rfl) (by kernel_rfl) ?_
   iterate 3
    refine Zb _ (fun _=>rfl) (fun ρ wz hw=>by go_simp;try with_reducible rfl) ?_
    simp only[Act.put,StT,StZ,StS,Nat.reduceAdd]
   iterate 9
    refine Yb (fun _=>rfl) ?_
    simp only[Act.put,StT,StZ,StS,Nat.reduceAdd]
   refine Zb _ (fun _=>rfl) (fun ρ wz hw=>by go_simp;try with_reducible rfl) ?_
   simp only[Act.put,StT,StZ,StS,Nat.reduceAdd];refine Zu (fun ρ w2 hF=>?_)
   have X2:=Lh (X1.out.below hF.below);have HB2:=Lh (bto HB1.out hF.below);clear hF;have q1:w2.cell? ⟨wr.heap.size,1,none⟩=some (.string ⟨x.v.toArray⟩):=X2.out.c 1;have q2:w2.cell? ⟨wr.heap.size,2,none⟩=some (.string ⟨x.p.toArray⟩):=X2.out.c 2;have q3:w2.cell? ⟨wr.heap.size,3,none⟩=some (.string ⟨x.u.toArray⟩):=X2.out.c 3;have hb3:=Zd w2 (.cells #[.string ⟨x.v.toArray⟩,.string ⟨x.p.toArray⟩,.string ⟨x.u.toArray⟩] 32);have h3:=ZF w2 (.cells #[.string ⟨x.v.toArray⟩,.string ⟨x.p.toArray⟩,.string ⟨x.u.toArray⟩] 32);obtain⟨w3,hw3⟩:∃w3,w3=w2.alloc (.cells #[.string ⟨x.v.toArray⟩,.string ⟨x.p.toArray⟩,.string ⟨x.u.toArray⟩] 32):=⟨_,rfl⟩
   rw[<-hw3] at hb3 h3;have HW3:=Lh hw3;have HB3:=Lh (bto HB2.out hb3)
   have hsts:Xb w3 (some ⟨w2.heap.size,0,none⟩) [x.v,x.p,x.u]:=SC (Ag.1 h3).1 (fun i hi=>by
    have hi:i<3:=hi
    match i,hi with
    | 0,_=>exact Zh h3 0
    | 1,_=>exact Zh h3 1
    | 2,_=>exact Zh h3 2)
   have CK:=Lh (Q7 (rs:=[x.v,x.p,x.u]) (n:=3) 3 (hG.g.below (bto HWR.out HB3.out)) rfl (by decide) hsts (fun r hr=>by
    have:=HSX.out
    simp only[List.mem_cons,List.not_mem_nil,or_false] at hr
    rcases hr with rfl|rfl|rfl<;>omega))
   have X3:=Lh (X2.out.below hb3);obtain⟨ce,hce⟩:∃ce,ce=upE [x.v,x.p,x.u]:=⟨_,rfl⟩
   rw[<-hce] at CK;have HCE:=Lh hce;clear hb3 h3 hw3 hsts hce X2 HB2;go_wp2_with fail;rw[<-HW3.out]
   with_reducible refine CK.out.mono ?_
   rintro e w4 ⟨rfl,hb4⟩;have X4:=Lh (X3.out.below hb4);have HB4:=Lh (bto HB3.out hb4);clear hb4 CK X3 HB3 q1 q2 q3 HW3
   by_cases h0:ce=0
   rotate_left
   ·have e5:decide (ce=0)=false:=Df h0;have e6:(ce==0)=false:=by rw[Bn];exact h0
    have H0:=Lh h0;go_wp2;go_ret2;exact⟨_,_,rfl,bto HWR.out HB4.out,fun h=>absurd h H0.out,fun _=>rfl⟩
   subst h0;have XF4:=Lh (HFU.out.below HB4.out);have q1:w4.cell? ⟨wr.heap.size,1,none⟩=some (.string ⟨x.v.toArray⟩):=X4.out.c 1;have q2:w4.cell? ⟨wr.heap.size,2,none⟩=some (.string ⟨x.p.toArray⟩):=X4.out.c 2;have q3:w4.cell? ⟨wr.heap.size,3,none⟩=some (.string ⟨x.u.toArray⟩):=X4.out.c 3;have q0:w4.cell? ⟨wr.heap.size,0,none⟩=some (.int .i64 x.day):=X4.out.c 0;have f0:w4.cell? ⟨w.heap.size,0,none⟩=some (.string ⟨V.toArray⟩):=XF4.out.c 0;have f1:w4.cell? ⟨w.heap.size,1,none⟩=some (.string ⟨U.toArray⟩):=XF4.out.c 1;have hbd:=HUB.out;have hbi:=N9 (v:=x.v) (p:=x.p) HSX.out.2.1 hbd.1;have hbc:=Qs (v:=x.v) (u:=U) (b:=x.u) HSX.out.1 HSX.out.2.2;have hul:U.length<=22*0+1:=by
    rw[hbd.2];exact Zn _ _ hbd.1
   have CD:=Lh (E0 (v0:=V) (u:=U) (v:=x.v) (p:=x.p) (b:=x.u) x.day (by omega) (by have:=HSX.out;omega) (by have:=HSX.out;omega) (by have:=HSX.out;omega) (by omega) (by omega))
   obtain⟨⟨y,de⟩,hde⟩:∃s,s=dlS U x.v x.p x.u:=⟨_,rfl⟩
   rw[<-hde] at CD;have HDE:=Lh hde;have hcall:=Oy #[.agg #[.string ⟨V.toArray⟩,.string ⟨U.toArray⟩],.agg #[.int .i64 x.day,.string ⟨x.v.toArray⟩,.string ⟨x.p.toArray⟩,.string ⟨x.u.toArray⟩]];clear hde hbd hbi hbc hul;go_wp2_with fail;refine (CD.out _ (hG.below (bto HWR.out HB4.out))).mono ?_;rintro e w5 ⟨rfl,hb5⟩;have HB5:=Lh (bto HB4.out hb5);have XF5:=Lh (XF4.out.below hb5);clear hb5 CD HB4 XF4 X4 q0 q1 q2 q3 f0 f1 hcall;unfold dlC
   by_cases h0:de=0
   rotate_left
   ·have e5:decide (de=0)=false:=Df h0;have e6:(de==0)=false:=by rw[Bn];exact h0
    have H0:=Lh h0;have hb6:=Zd w5 (.cells #[.string ⟨y.iss.toArray⟩,.string ⟨y.out.toArray⟩,.string ⟨y.un.toArray⟩,.string ⟨y.vl.toArray⟩] 36);have HB6:=Lh (bto HB5.out hb6);clear hb6;go_wp2;go_ret2;exact⟨_,_,rfl,bto HWR.out HB6.out,fun h=>absurd h H0.out,fun _=>rfl⟩
   subst h0;obtain⟨a1,a2,a3,a4⟩:=Vs w5 (.cells #[.string ⟨y.iss.toArray⟩,.string ⟨y.out.toArray⟩,.string ⟨y.un.toArray⟩,.string ⟨y.vl.toArray⟩] 36) (.cells #[.string ⟨y.iss.toArray⟩,.string ⟨y.out.toArray⟩,.string ⟨y.un.toArray⟩,.string ⟨y.vl.toArray⟩] 36);obtain⟨W7,hW7⟩:∃W7,W7=(w5.alloc (.cells #[.string ⟨y.iss.toArray⟩,.string ⟨y.out.toArray⟩,.string ⟨y.un.toArray⟩,.string ⟨y.vl.toArray⟩] 36)).alloc (.cells #[.string ⟨y.iss.toArray⟩,.string ⟨y.out.toArray⟩,.string ⟨y.un.toArray⟩,.string ⟨y.vl.toArray⟩] 36):=⟨_,rfl⟩
   have HO7:Hid (W7.ownsRow B 36 4 v 0 (Vr xs)):=by rw[hW7];exact Zz HO.out (bto HB5.out a3)
   rw[<-hW7] at a1 a2 a3 a4;have HA1:=Lh a1;have HA2:=Lh a2;have HB7:=Lh (bto HB5.out a3);have HZ7:Hid (B<=W7.heap.size):=by show _<=_;have:=HBE.out;have:=HFU.out.ltB;have:=(bto HB5.out a3).size;omega
   have XF7:=Lh (XF5.out.below a3);have HW7:=Lh hW7;have HS5:Hid (wr.heap.size<=w5.heap.size):=HB5.out.size;obtain⟨i0,hi,hz0,hz1,hz2⟩:=info_parts Lt;have HII:=Lh (And.intro hi (And.intro hz0 (And.intro hz1 hz2)));clear a1 a2 a3 a4 hW7 XF5 HB5 hi hz0 hz1 hz2;go_wp2_with (at_builtin;rw[<-HW7.out];refine ZM rfl _ _ 24 rfl B 36 i0 (.agg #[.string ⟨#[]⟩,.string ⟨#[]⟩,.string ⟨#[]⟩,.string ⟨#[]⟩]) 4 64 Tryz.underlying24 HII.out.1 HII.out.2.1 HII.out.2.2.1 HII.out.2.2.2 rfl (by decide) _ _ _ rfl HO7.out ⟨w5.heap.size+1,0,none⟩ 1 1 (xcs y) rfl rfl ?c1 ?c2 ?c3 ?c4 ?c5 ?_)
   case c1=>
    intro j u hu;rw[Lib.add_plain];show W7.cell? ⟨w5.heap.size+1,0+j,none⟩=some u;rw[Nat.zero_add,Zh HA2.out j,<-hu];show (List.toArray (xcs y))[j]?=_;rw[List.getElem?_toArray]
   case c2=>exact IC _
   case c3=>unfold maxLen;omega
   case c4=>omega
   case c5=>exact HZ7.out
   intro v' w8 hown hgrow hfresh;have hown':w8.ownsRow B 36 4 v' (0+1) (Vr (xs++[y])):=by
    unfold Vr;rw[List.flatMap_append];simpa [Vr] using hown
   have hov:∀g,v.ownBlock=some g->B<=g:=fun g hg=>(World.ownsRow.lt HO.out g hg).1
   have HA8:Hid (w8.heap[w5.heap.size]?=some (.cells #[.string ⟨y.iss.toArray⟩,.string ⟨y.out.toArray⟩,.string ⟨y.un.toArray⟩,.string ⟨y.vl.toArray⟩] 36 (0,0))):=by
    have hlt:=(Ag.1 HA1.out).1;refine (hgrow.block _ hlt (fun e=>?_)).trans HA1.out
    have h1:=World.ownsRow.lt HO.out _ e.symm
    have:=HS5.out
    omega
   obtain⟨tF,hF7⟩:=XF7.out;have hF8:w8.heap[w.heap.size]?=some (.cells #[.string ⟨V.toArray⟩,.string ⟨U.toArray⟩] tF (0,0)):=(hgrow.block _ (Ag.1 hF7).1 (fun e=>by have:=hov _ e.symm;have:=HBE.out;omega)).trans hF7
   have HB8:Hid (Below w.heap.size w w8):=(bto HWR.out HB7.out).grown hgrow (bto HWR.out HB7.out).size (fun g hg=>by have:=hov g hg;have:=HBE.out;omega)
   obtain⟨t9,hT9⟩:=YX (cs:=#[.string ⟨y.vl.toArray⟩,.string ⟨y.un.toArray⟩]) hF8 rfl;obtain⟨W9,hW9⟩:∃W9,W9=w8.setCells w.heap.size 0 (#[.string ⟨y.vl.toArray⟩,.string ⟨y.un.toArray⟩]:Array Value).toList:=⟨_,rfl⟩
   rw[<-hW9] at hT9;have HT9:=Lh t9;have HW9:=Lh hW9;have HB9:Hid (Below w.heap.size w W9):=by rw[hW9];exact Lib.below_setCells _ (Nl _) _ _ HB8.out
   have HF9:Hid (Blk W9 w.heap.size #[.string ⟨y.vl.toArray⟩,.string ⟨y.un.toArray⟩]):=⟨_,hT9.new⟩;have HO9:Hid (W9.ownsRow B 36 4 v' (0+1) (Vr (xs++[y]))):=YH hown' (fun b hb _=>hT9.old b (by have:=HBE.out;omega))
   have HIF:Hid ((Tryz.prog.info? 183).map (·.size)=some 2):=by
    show _=_
    kernel_rfl
   have HMF:Hid ((#[.string ⟨y.vl.toArray⟩,.string ⟨y.un.toArray⟩]:Array Value).all (·.oneCell')=true):=all_oneCell_toArray (cs:=[.string ⟨y.vl.toArray⟩,.string ⟨y.un.toArray⟩]) (fun v hv=>by simp only[List.mem_cons,List.not_mem_nil,or_false] at hv;rcases hv with rfl|rfl<;>rfl)
   have q2:w8.cell? ⟨w5.heap.size,2,none⟩=some (.string ⟨y.un.toArray⟩):=Zh HA8.out 2;have q3:w8.cell? ⟨w5.heap.size,3,none⟩=some (.string ⟨y.vl.toArray⟩):=Zh HA8.out 3;have HRN:=Lh (HRO.out.snoc HX.out HCE.out.symm (by rw[HUN.out];exact HDE.out.symm))
   have HUS:Hid ((val y.un).natAbs<10 ^ (22*(0+1))/\y.un=canon (val y.un)):=Ma HDE.out.symm HSX.out.2.1 HSX.out.2.2 HUB.out.1;have HUA:Hid (X8 (xs++[y]) (0+1)=y.un):=Nn (by rw[HRO.out.len,List.length_take];have:=HN.out;omega)
   clear hown hown' hgrow hfresh hov hF7 hF8 hW9 hT9 t9 HA1 HA2 HA8 HB7 HB8 HZ7 XF7 HO7 HO HFU HRO HUN HDE HCE HII;go_wp2_with (refine wpList_store_mid rfl 183 (.tmp 5) (.tmp 65) rfl w.heap.size 0 #[.string ⟨y.vl.toArray⟩,.string ⟨y.un.toArray⟩] rfl rfl HT9.out HIF.out HMF.out ?_;rw[<-HW9.out]);go_roundw
   case rel=>exact⟨0+1,v',xs++[y],y.vl,y.un,by omega,rfl,by go_num,HO9.out,HF9.out,HB9.out,HRN.out,HUA.out,HUS.out⟩
   case measure=>simp[intOf];omega
  | succ j=>
   obtain⟨z,hz⟩:∃z,ds[j]?=some z:=⟨_,List.getElem?_eq_getElem (by have:=HN.out;omega)⟩
   obtain⟨b2,o2,hA2,hbs2,z0,-,-,-⟩:=(HD.out.below (bto HWR.out HB1.out)) j z hz;injection hA2 with hA2
   injection hA2 with hA2 hA3 _
   subst hA2;subst hA3;have HPV:=Lh z0;have HPL:=Lh hbs2;clear z0 hbs2 hz;have j1:IntKind.i64.wrap (((j+1:Nat):Int)-1)=(j:Int):=Um (by omega) (by omega)
   have j2:decide (0<j+1)=true:=Dt (by omega)
   have j3:decide ((0:Int)<((j+1:Nat):Int))=true:=Dt (by omega)
   have j4:j<n:=by omega
   have j5:(j:Int)<(n:Int):=by omega
   have j6:IntKind.i64.wrap (j:Int)=(j:Int):=Um rfl (by omega)
   by_cases hdd:x.day<=z.day
   ·have d1:decide (x.day<=z.day)=true:=Dt hdd;go_wp2_with fail;rw[<-HW1.out];refine Zm (by kernel_rfl) (by kernel_rfl) ?_
    iterate 4
     refine Zb _ (fun _=>rfl) (fun ρ wz hw=>by go_simp;try with_reducible rfl) ?_
     simp only[Act.put,StT,StZ,StS,Nat.reduceAdd]
    refine Zb _ (fun _=>rfl) (fun ρ wz hw=>by have q0:wz.cell? ⟨wr.heap.size,0,none⟩=some (.int .i64 x.day):=(X1.out.below hw).c 0;go_simp;try with_reducible rfl) ?_
    iterate 5
     simp only[Act.put,StT,StZ,StS,Nat.reduceAdd];refine Zb _ (fun _=>rfl) (fun ρ wz hw=>by go_simp;try with_reducible rfl) ?_
    simp only[Act.put,StT,StZ,StS,Nat.reduceAdd];refine Zb _ (fun _=>rfl) (fun ρ wz hw=>by have q0:=(hw.cell (p:=⟨b,_,none⟩) HPL.out).trans HPV.out;go_simp;try with_reducible rfl) ?_
    iterate 2
     simp only[Act.put,StT,StZ,StS,Nat.reduceAdd];refine Zb _ (fun _=>rfl) (fun ρ wz hw=>by go_simp;try with_reducible rfl) ?_
    simp only[Act.put,StT,StZ,StS,Nat.reduceAdd];refine Zu (fun ρ w2 hF=>?_)
    have HB2:=Lh (bto HB1.out hF.below);clear hF;go_wp2;go_ret2;exact⟨_,_,rfl,bto HWR.out HB2.out,fun h=>(by cases h),fun _=>rfl⟩
   have d1:decide (x.day<=z.day)=false:=Df hdd;go_wp2_with fail;rw[<-HW1.out];refine Zm (by kernel_rfl) (by kernel_rfl) ?_
   iterate 4
    refine Zb _ (fun _=>rfl) (fun ρ wz hw=>by go_simp;try with_reducible rfl) ?_
    simp only[Act.put,StT,StZ,StS,Nat.reduceAdd]
   refine Zb _ (fun _=>rfl) (fun ρ wz hw=>by have q0:wz.cell? ⟨wr.heap.size,0,none⟩=some (.int .i64 x.day):=(X1.out.below hw).c 0;go_simp;try with_reducible rfl) ?_
   iterate 5
    simp only[Act.put,StT,StZ,StS,Nat.reduceAdd];refine Zb _ (fun _=>rfl) (fun ρ wz hw=>by go_simp;try with_reducible rfl) ?_
   simp only[Act.put,StT,StZ,StS,Nat.reduceAdd];refine Zb _ (fun _=>rfl) (fun ρ wz hw=>by have q0:=(hw.cell (p:=⟨b,_,none⟩) HPL.out).trans HPV.out;go_simp;try with_reducible rfl) ?_
   iterate 2
    simp only[Act.put,StT,StZ,StS,Nat.reduceAdd];refine Zb _ (fun _=>rfl) (fun ρ wz hw=>by go_simp;try with_reducible rfl) ?_
   simp only[Act.put,StT,StZ,StS,Nat.reduceAdd];refine Zu (fun ρ w2 hF=>?_)
   have X2:=Lh (X1.out.below hF.below);have HB2:=Lh (bto HB1.out hF.below);clear hF;have q1:w2.cell? ⟨wr.heap.size,1,none⟩=some (.string ⟨x.v.toArray⟩):=X2.out.c 1;have q2:w2.cell? ⟨wr.heap.size,2,none⟩=some (.string ⟨x.p.toArray⟩):=X2.out.c 2;have q3:w2.cell? ⟨wr.heap.size,3,none⟩=some (.string ⟨x.u.toArray⟩):=X2.out.c 3;have hb3:=Zd w2 (.cells #[.string ⟨x.v.toArray⟩,.string ⟨x.p.toArray⟩,.string ⟨x.u.toArray⟩] 32);have h3:=ZF w2 (.cells #[.string ⟨x.v.toArray⟩,.string ⟨x.p.toArray⟩,.string ⟨x.u.toArray⟩] 32);obtain⟨w3,hw3⟩:∃w3,w3=w2.alloc (.cells #[.string ⟨x.v.toArray⟩,.string ⟨x.p.toArray⟩,.string ⟨x.u.toArray⟩] 32):=⟨_,rfl⟩
   rw[<-hw3] at hb3 h3;have HW3:=Lh hw3;have HB3:=Lh (bto HB2.out hb3)
   have hsts:Xb w3 (some ⟨w2.heap.size,0,none⟩) [x.v,x.p,x.u]:=SC (Ag.1 h3).1 (fun i hi=>by
    have hi:i<3:=hi
    match i,hi with
    | 0,_=>exact Zh h3 0
    | 1,_=>exact Zh h3 1
    | 2,_=>exact Zh h3 2)
   have CK:=Lh (Q7 (rs:=[x.v,x.p,x.u]) (n:=3) 3 (hG.g.below (bto HWR.out HB3.out)) rfl (by decide) hsts (fun r hr=>by
    have:=HSX.out
    simp only[List.mem_cons,List.not_mem_nil,or_false] at hr
    rcases hr with rfl|rfl|rfl<;>omega))
   have X3:=Lh (X2.out.below hb3);obtain⟨ce,hce⟩:∃ce,ce=upE [x.v,x.p,x.u]:=⟨_,rfl⟩
   rw[<-hce] at CK;have HCE:=Lh hce;clear hb3 h3 hw3 hsts hce X2 HB2;go_wp2_with fail;rw[<-HW3.out]
   with_reducible refine CK.out.mono ?_
   rintro e w4 ⟨rfl,hb4⟩;have X4:=Lh (X3.out.below hb4);have HB4:=Lh (bto HB3.out hb4);clear hb4 CK X3 HB3 q1 q2 q3 HW3
   by_cases h0:ce=0
   rotate_left
   ·have e5:decide (ce=0)=false:=Df h0;have e6:(ce==0)=false:=by rw[Bn];exact h0
    have H0:=Lh h0;go_wp2;go_ret2;exact⟨_,_,rfl,bto HWR.out HB4.out,fun h=>absurd h H0.out,fun _=>rfl⟩
   subst h0;have XF4:=Lh (HFU.out.below HB4.out);have q1:w4.cell? ⟨wr.heap.size,1,none⟩=some (.string ⟨x.v.toArray⟩):=X4.out.c 1;have q2:w4.cell? ⟨wr.heap.size,2,none⟩=some (.string ⟨x.p.toArray⟩):=X4.out.c 2;have q3:w4.cell? ⟨wr.heap.size,3,none⟩=some (.string ⟨x.u.toArray⟩):=X4.out.c 3;have q0:w4.cell? ⟨wr.heap.size,0,none⟩=some (.int .i64 x.day):=X4.out.c 0;have f0:w4.cell? ⟨w.heap.size,0,none⟩=some (.string ⟨V.toArray⟩):=XF4.out.c 0;have f1:w4.cell? ⟨w.heap.size,1,none⟩=some (.string ⟨U.toArray⟩):=XF4.out.c 1;have hbd:=HUB.out;have hbi:=N9 (v:=x.v) (p:=x.p) HSX.out.2.1 hbd.1;have hbc:=Qs (v:=x.v) (u:=U) (b:=x.u) HSX.out.1 HSX.out.2.2;have hul:U.length<=22*(j+1)+1:=by
    rw[hbd.2];exact Zn _ _ hbd.1
   have CD:=Lh (E0 (v0:=V) (u:=U) (v:=x.v) (p:=x.p) (b:=x.u) x.day (by omega) (by have:=HSX.out;omega) (by have:=HSX.out;omega) (by have:=HSX.out;omega) (by omega) (by omega))
   obtain⟨⟨y,de⟩,hde⟩:∃s,s=dlS U x.v x.p x.u:=⟨_,rfl⟩
   rw[<-hde] at CD;have HDE:=Lh hde;have hcall:=Oy #[.agg #[.string ⟨V.toArray⟩,.string ⟨U.toArray⟩],.agg #[.int .i64 x.day,.string ⟨x.v.toArray⟩,.string ⟨x.p.toArray⟩,.string ⟨x.u.toArray⟩]];clear hde hbd hbi hbc hul;go_wp2_with fail;refine (CD.out _ (hG.below (bto HWR.out HB4.out))).mono ?_;rintro e w5 ⟨rfl,hb5⟩;have HB5:=Lh (bto HB4.out hb5);have XF5:=Lh (XF4.out.below hb5);clear hb5 CD HB4 XF4 X4 q0 q1 q2 q3 f0 f1 hcall;unfold dlC
   by_cases h0:de=0
   rotate_left
   ·have e5:decide (de=0)=false:=Df h0;have e6:(de==0)=false:=by rw[Bn];exact h0
    have H0:=Lh h0;have hb6:=Zd w5 (.cells #[.string ⟨y.iss.toArray⟩,.string ⟨y.out.toArray⟩,.string ⟨y.un.toArray⟩,.string ⟨y.vl.toArray⟩] 36);have HB6:=Lh (bto HB5.out hb6);clear hb6;go_wp2;go_ret2;exact⟨_,_,rfl,bto HWR.out HB6.out,fun h=>absurd h H0.out,fun _=>rfl⟩
   subst h0;obtain⟨a1,a2,a3,a4⟩:=Vs w5 (.cells #[.string ⟨y.iss.toArray⟩,.string ⟨y.out.toArray⟩,.string ⟨y.un.toArray⟩,.string ⟨y.vl.toArray⟩] 36) (.cells #[.string ⟨y.iss.toArray⟩,.string ⟨y.out.toArray⟩,.string ⟨y.un.toArray⟩,.string ⟨y.vl.toArray⟩] 36);obtain⟨W7,hW7⟩:∃W7,W7=(w5.alloc (.cells #[.string ⟨y.iss.toArray⟩,.string ⟨y.out.toArray⟩,.string ⟨y.un.toArray⟩,.string ⟨y.vl.toArray⟩] 36)).alloc (.cells #[.string ⟨y.iss.toArray⟩,.string ⟨y.out.toArray⟩,.string ⟨y.un.toArray⟩,.string ⟨y.vl.toArray⟩] 36):=⟨_,rfl⟩
   have HO7:Hid (W7.ownsRow B 36 4 v (j+1) (Vr xs)):=by rw[hW7];exact Zz HO.out (bto HB5.out a3)
   rw[<-hW7] at a1 a2 a3 a4;have HA1:=Lh a1;have HA2:=Lh a2;have HB7:=Lh (bto HB5.out a3);have HZ7:Hid (B<=W7.heap.size):=by show _<=_;have:=HBE.out;have:=HFU.out.ltB;have:=(bto HB5.out a3).size;omega
   have XF7:=Lh (XF5.out.below a3);have HW7:=Lh hW7;have HS5:Hid (wr.heap.size<=w5.heap.size):=HB5.out.size;obtain⟨i0,hi,hz0,hz1,hz2⟩:=info_parts Lt;have HII:=Lh (And.intro hi (And.intro hz0 (And.intro hz1 hz2)));clear a1 a2 a3 a4 hW7 XF5 HB5 hi hz0 hz1 hz2;go_wp2_with (at_builtin;rw[<-HW7.out];refine ZM rfl _ _ 24 rfl B 36 i0 (.agg #[.string ⟨#[]⟩,.string ⟨#[]⟩,.string ⟨#[]⟩,.string ⟨#[]⟩]) 4 64 Tryz.underlying24 HII.out.1 HII.out.2.1 HII.out.2.2.1 HII.out.2.2.2 rfl (by decide) _ _ _ rfl HO7.out ⟨w5.heap.size+1,0,none⟩ 1 1 (xcs y) rfl rfl ?c1 ?c2 ?c3 ?c4 ?c5 ?_)
   case c1=>
    intro j u hu;rw[Lib.add_plain];show W7.cell? ⟨w5.heap.size+1,0+j,none⟩=some u;rw[Nat.zero_add,Zh HA2.out j,<-hu];show (List.toArray (xcs y))[j]?=_;rw[List.getElem?_toArray]
   case c2=>exact IC _
   case c3=>unfold maxLen;omega
   case c4=>omega
   case c5=>exact HZ7.out
   intro v' w8 hown hgrow hfresh;have hown':w8.ownsRow B 36 4 v' ((j+1)+1) (Vr (xs++[y])):=by
    unfold Vr;rw[List.flatMap_append];simpa [Vr] using hown
   have hov:∀g,v.ownBlock=some g->B<=g:=fun g hg=>(World.ownsRow.lt HO.out g hg).1
   have HA8:Hid (w8.heap[w5.heap.size]?=some (.cells #[.string ⟨y.iss.toArray⟩,.string ⟨y.out.toArray⟩,.string ⟨y.un.toArray⟩,.string ⟨y.vl.toArray⟩] 36 (0,0))):=by
    have hlt:=(Ag.1 HA1.out).1;refine (hgrow.block _ hlt (fun e=>?_)).trans HA1.out
    have h1:=World.ownsRow.lt HO.out _ e.symm
    have:=HS5.out
    omega
   obtain⟨tF,hF7⟩:=XF7.out;have hF8:w8.heap[w.heap.size]?=some (.cells #[.string ⟨V.toArray⟩,.string ⟨U.toArray⟩] tF (0,0)):=(hgrow.block _ (Ag.1 hF7).1 (fun e=>by have:=hov _ e.symm;have:=HBE.out;omega)).trans hF7
   have HB8:Hid (Below w.heap.size w w8):=(bto HWR.out HB7.out).grown hgrow (bto HWR.out HB7.out).size (fun g hg=>by have:=hov g hg;have:=HBE.out;omega)
   obtain⟨t9,hT9⟩:=YX (cs:=#[.string ⟨y.vl.toArray⟩,.string ⟨y.un.toArray⟩]) hF8 rfl;obtain⟨W9,hW9⟩:∃W9,W9=w8.setCells w.heap.size 0 (#[.string ⟨y.vl.toArray⟩,.string ⟨y.un.toArray⟩]:Array Value).toList:=⟨_,rfl⟩
   rw[<-hW9] at hT9;have HT9:=Lh t9;have HW9:=Lh hW9;have HB9:Hid (Below w.heap.size w W9):=by rw[hW9];exact Lib.below_setCells _ (Nl _) _ _ HB8.out
   have HF9:Hid (Blk W9 w.heap.size #[.string ⟨y.vl.toArray⟩,.string ⟨y.un.toArray⟩]):=⟨_,hT9.new⟩;have HO9:Hid (W9.ownsRow B 36 4 v' ((j+1)+1) (Vr (xs++[y]))):=YH hown' (fun b hb _=>hT9.old b (by have:=HBE.out;omega))
   have HIF:Hid ((Tryz.prog.info? 183).map (·.size)=some 2):=by
    show _=_
    kernel_rfl
   have HMF:Hid ((#[.string ⟨y.vl.toArray⟩,.string ⟨y.un.toArray⟩]:Array Value).all (·.oneCell')=true):=all_oneCell_toArray (cs:=[.string ⟨y.vl.toArray⟩,.string ⟨y.un.toArray⟩]) (fun v hv=>by simp only[List.mem_cons,List.not_mem_nil,or_false] at hv;rcases hv with rfl|rfl<;>rfl)
   have q2:w8.cell? ⟨w5.heap.size,2,none⟩=some (.string ⟨y.un.toArray⟩):=Zh HA8.out 2;have q3:w8.cell? ⟨w5.heap.size,3,none⟩=some (.string ⟨y.vl.toArray⟩):=Zh HA8.out 3;have HRN:=Lh (HRO.out.snoc HX.out HCE.out.symm (by rw[HUN.out];exact HDE.out.symm))
   have HUS:Hid ((val y.un).natAbs<10 ^ (22*((j+1)+1))/\y.un=canon (val y.un)):=Ma HDE.out.symm HSX.out.2.1 HSX.out.2.2 HUB.out.1;have HUA:Hid (X8 (xs++[y]) ((j+1)+1)=y.un):=Nn (by rw[HRO.out.len,List.length_take];have:=HN.out;omega)
   clear hown hown' hgrow hfresh hov hF7 hF8 hW9 hT9 t9 HA1 HA2 HA8 HB7 HB8 HZ7 XF7 HO7 HO HFU HRO HUN HDE HCE HII;go_wp2_with (refine wpList_store_mid rfl 183 (.tmp 5) (.tmp 65) rfl w.heap.size 0 #[.string ⟨y.vl.toArray⟩,.string ⟨y.un.toArray⟩] rfl rfl HT9.out HIF.out HMF.out ?_;rw[<-HW9.out]);go_roundw
   case rel=>exact⟨(j+1)+1,v',xs++[y],y.vl,y.un,by omega,rfl,by go_num,HO9.out,HF9.out,HB9.out,HRN.out,HUA.out,HUS.out⟩
   case measure=>simp[intOf];omega
theorem Za0 (f:Nat) (hcall:∀(args:Array Value) w,(callFunc f args).run Tryz.prog w=.ok (.enter f args) w) (p:Del->Bool) (caps:Array Value) (A:Option Addr) (rs:List Del) (n c:Nat) (w:World) (hn:rs.length=n) (hn2:n<=1000000000) (h:TR w A rs)
  (hp:∀x∈rs,∀w',Below w.heap.size w w'->Calls Tryz.prog f (#[.agg #[.int .i64 x.day,.string ⟨x.v.toArray⟩,.string ⟨x.p.toArray⟩,.string ⟨x.u.toArray⟩]]++caps) w' fun e w''=>e=.returned (.bool (p x))/\Below w'.heap.size w' w'') :
  Calls Tryz.prog 100 #[.slice A n c,.func (Fn.func f) #[] caps] w fun e w'=>e=.returned (.int .i64 (ZO p rs 0))/\Below w.heap.size w w':=by
 have HI:=Lh h;have HP:=Lh hp;have hn1:rs.length<=n:=by omega
 have hn3:n<=rs.length:=by omega
 obtain⟨Z,hZ⟩:∃Z,Z=ZO p rs 0:=⟨_,rfl⟩
 rw[<-hZ];have HZ:Hid (Z=ZO p (rs.drop 0) 0):=hZ;clear h hp hn hZ;go_enter Tryz.func100,Tryz.ntmps100;go_wp2_with fail
 go_loopw [8] (fun iv wr=>∃k:Nat,k<=n/\iv=.int .i64 (k:Int)/\Hid (Z=ZO p (rs.drop k) k)/\Below w.heap.size w wr) (fun iv _=>n-(intOf iv).toNat)
 case atStart=>exact⟨0,Nat.zero_le _,rfl,HZ.out,Below.refl _ _⟩
 case round=>
  clear HZ;obtain⟨k,hk,rfl,HK,hb⟩:=hrel
  by_cases hlt:k<n
  ·obtain⟨x,hx⟩:∃x,rs[k]?=some x:=⟨_,List.getElem?_eq_getElem (by omega)⟩
   obtain⟨b,o,rfl,hbs,p0,p1,p2,p3⟩:=(HI.out.below hb) k x hx;have HD:=Lh (Qf p rs k x hx);have CP:=Lh (HP.out x (Lm hx) wr hb);have e1:decide (k<n)=true:=Dt hlt;clear hx;go_wp2_with fail
   with_reducible refine CP.out.mono ?_
   rintro e w2 ⟨rfl,hb2⟩;replace hb:=bto hb hb2;clear hb2 CP p0 p1 p2 p3
   by_cases hq:p x=true
   ·have HV:Hid (Z=(k:Int)):=by show _=_;rw[HK.out,HD.out,if_pos hq]
    rw[hq];clear hq HK HD;go_wp2;go_ret;exact⟨ZN HV.out.symm,hb⟩
   ·have HV:Hid (Z=ZO p (rs.drop (k+1)) (k+1)):=by show _=_;rw[HK.out,HD.out,if_neg hq]
    rw[Yo hq];clear hq HK HD;go_wp2;go_roundw
    case rel=>exact⟨k+1,by omega,by go_num,HV,hb⟩
    case measure=>simp[intOf];omega
  ·have HV:Hid (Z = -1):=by show _=_;rw[HK.out,List.drop_of_length_le (by omega)];rfl
   have e1:decide (k<n)=false:=Df hlt;clear HK;go_wp2;go_ret;exact⟨ZN HV.out.symm,hb⟩
theorem Za1 (f:Nat) (hcall:∀(args:Array Value) w,(callFunc f args).run Tryz.prog w=.ok (.enter f args) w) (p:Del->Bool) (caps:Array Value) (A:Option Addr) (rs:List Del) (n c:Nat) (w:World) (hn:rs.length=n) (hn2:n<=1000000000) (h:TR w A rs)
  (hp:∀x∈rs,∀w',Below w.heap.size w w'->Calls Tryz.prog f (#[.agg #[.int .i64 x.day,.string ⟨x.v.toArray⟩,.string ⟨x.p.toArray⟩,.string ⟨x.u.toArray⟩]]++caps) w' fun e w''=>e=.returned (.bool (p x))/\Below w'.heap.size w' w'') :
  Calls Tryz.prog 37 #[.slice A n c,.func (Fn.func f) #[] caps] w fun e w'=>e=.returned (.bool (rs.any p))/\Below w.heap.size w w':=by
 have C1:=Lh (Za0 f hcall p caps A rs n c w hn hn2 h hp);have HV:=Lh (MZ p rs);generalize ZO p rs 0=z at *;clear hn h hp;go_enter Tryz.func37,Tryz.ntmps37;go_wp2_with fail;refine C1.out.mono ?_;rintro e w2 ⟨rfl,hb⟩
 by_cases g:0<=z
 ·have e1:decide (0<=z)=true:=Dt g;go_wp2;go_ret;exact⟨by rw[<-HV.out,e1];rfl,hb⟩
 ·have e1:decide (0<=z)=false:=Df g;go_wp2;go_ret;exact⟨by rw[<-HV.out,e1];rfl,hb⟩
def Lu (d:Del):Bool:=decide (20<d.v.length)||(decide (20<d.p.length)||decide (20<d.u.length))
theorem GF (args:Array Value) (w:World):(callFunc 38 args).run Tryz.prog w=.ok (.enter 38 args) w:=by kernel_rfl
theorem Za2 (d:Del) (w:World):Calls Tryz.prog 38 (#[.agg #[.int .i64 d.day,.string ⟨d.v.toArray⟩,.string ⟨d.p.toArray⟩,.string ⟨d.u.toArray⟩]]++#[]) w fun e w'=>e=.returned (.bool (Lu d))/\Below w.heap.size w w':=by
 have hb0:=Zd w (.cells #[.int .i64 d.day,.string ⟨d.v.toArray⟩,.string ⟨d.p.toArray⟩,.string ⟨d.u.toArray⟩] 41);have HV:Hid (Lu d=(decide (20<d.v.length)||(decide (20<d.p.length)||decide (20<d.u.length)))):=rfl
 generalize Lu d=R at *;show Calls Tryz.prog 38 #[.agg #[.int .i64 d.day,.string ⟨d.v.toArray⟩,.string ⟨d.p.toArray⟩,.string ⟨d.u.toArray⟩]] w _;obtain⟨l1,hl1⟩:∃l1,l1=d.v.length:=⟨_,rfl⟩
 obtain⟨l2,hl2⟩:∃l2,l2=d.p.length:=⟨_,rfl⟩
 obtain⟨l3,hl3⟩:∃l3,l3=d.u.length:=⟨_,rfl⟩
 rw[<-hl1,<-hl2,<-hl3] at HV
 by_cases h1:20<l1
 ·have HV2:Hid (R=true):=by show _=_;rw[HV.out,Dt h1];rfl
  have e1:decide (20<d.v.length)=true:=by rw[<-hl1];exact Dt h1
  have h1':20<d.v.length:=by omega
  clear HV hl1 hl2 hl3 h1;go_enter Tryz.func38,Tryz.ntmps38;go_wp2;go_ret;exact⟨Z4 HV2.out.symm,hb0⟩
 have e1:decide (20<d.v.length)=false:=by rw[<-hl1];exact Df h1
 have h1':¬20<d.v.length:=by omega
 by_cases h2:20<l2
 ·have HV2:Hid (R=true):=by show _=_;rw[HV.out,Dt h2,Bool.true_or,Bool.or_true]
  have e2:decide (20<d.p.length)=true:=by rw[<-hl2];exact Dt h2
  have h2':20<d.p.length:=by omega
  clear HV hl1 hl2 hl3 h1 h2;go_enter Tryz.func38,Tryz.ntmps38;go_wp2;go_ret;exact⟨Z4 HV2.out.symm,hb0⟩
 have e2:decide (20<d.p.length)=false:=by rw[<-hl2];exact Df h2
 have h2':¬20<d.p.length:=by omega
 by_cases h3:20<l3
 ·have HV2:Hid (R=true):=by show _=_;rw[HV.out,Dt h3,Bool.or_true,Bool.or_true]
  have e3:decide (20<d.u.length)=true:=by rw[<-hl3];exact Dt h3
  have h3':20<d.u.length:=by omega
  clear HV hl1 hl2 hl3 h1 h2 h3;go_enter Tryz.func38,Tryz.ntmps38;go_wp2;go_ret;exact⟨Z4 (by rw[HV2.out];simp;omega),hb0⟩
 ·have HV2:Hid (R=false):=by show _=_;rw[HV.out,Df h1,Df h2,Df h3];rfl
  have e3:decide (20<d.u.length)=false:=by rw[<-hl3];exact Df h3
  have h3':¬20<d.u.length:=by omega
  clear HV hl1 hl2 hl3 h1 h2 h3;go_enter Tryz.func38,Tryz.ntmps38;go_wp2;go_ret;exact⟨Z4 (by rw[HV2.out];simp;omega),hb0⟩
theorem UY (a b:ByteArray):(#[.string a,.string b]:Array Value).all (·.oneCell')=true:=all_oneCell_toArray (cs:=[.string a,.string b]) (fun v hv=>by simp only[List.mem_cons,List.not_mem_nil,or_false] at hv;rcases hv with rfl|rfl<;>rfl)
theorem ID {v u:List UInt8} (hv:v.length<=100000) (hu:u.length<=100000) (hE:upE [v,u]=0) (h0:u≠[]) {q:Rat} (eq:Rat.divInt (val v) (val u)=q):Ret 11 #[.string ⟨v.toArray⟩,.string ⟨u.toArray⟩] (.tuple #[(Value.agg #[Value.string ⟨List.toArray (fN q)⟩,Value.string ⟨List.toArray (fD q)⟩]),.int .i64 0]):=fun w hG=>by
 have hu0:val u≠0:=fun e=>h0 (by rw[(US hE u (by simp)).1,e];rfl)
 have C2:=Lh (D3 (l:=v) (l':=u) (by omega) (by omega) hu0 eq)
 obtain⟨N,hN⟩:∃N,N=fN q:=⟨_,rfl⟩
 obtain⟨D,hD⟩:∃D,D=fD q:=⟨_,rfl⟩
 rw[<-hN,<-hD] at C2;rw[<-hN,<-hD];obtain⟨g1,g2,g3,g4⟩:=Vs w (.cells #[.string ⟨#[]⟩,.string ⟨#[]⟩] 34) (.cells #[.string ⟨v.toArray⟩,.string ⟨u.toArray⟩] 32);obtain⟨W,hW⟩:∃W,W=(w.alloc (.cells #[.string ⟨#[]⟩,.string ⟨#[]⟩] 34)).alloc (.cells #[.string ⟨v.toArray⟩,.string ⟨u.toArray⟩] 32):=⟨_,rfl⟩
 rw[<-hW] at g1 g2 g3 g4
 have hsts:Xb W (some ⟨w.heap.size+1,0,none⟩) [v,u]:=SC (by omega) (fun i hi=>by
  have hi:i<2:=hi
  match i,hi with
  | 0,_=>exact Zh g2 0
  | 1,_=>exact Zh g2 1)
 have C1:=Lh (Q7 (rs:=[v,u]) (n:=2) 2 (hG.below g3) rfl (by decide) hsts (fun r hr=>by
  simp only[List.mem_cons,List.not_mem_nil,or_false] at hr
  rcases hr with rfl|rfl<;>omega))
 rw[hE] at C1;have HW:=Lh hW;have HB:=Lh g3;have H0:=Lh g1;have b1:(u==[])=false:=by rw[Bn];exact h0
 have b2:u.isEmpty=false:=by rw[List.isEmpty_eq_false_iff];exact h0
 have HI:Hid ((Tryz.prog.info? 34).map (·.size)=some 2):=by
  show _=_
  kernel_rfl
 clear hW g1 g2 g3 g4 hsts hu0 h0 hN hD hE;go_enter Tryz.func11,Tryz.ntmps11;go_wp2_with fail;rw[<-HW.out]
 with_reducible refine C1.out.mono ?_
 rintro e w1 ⟨rfl,hb1⟩;have hb2:=bto HB.out hb1;have H1:=Lh (Zw H0.out hb1);clear hb1 C1 H0 HB HW;go_wp2_with fail
 with_reducible refine (C2.out.of hG hb2).mono ?_
 rintro e w2 ⟨rfl,hb3⟩;have HB3:=Lh (bto hb2 hb3);obtain⟨t3,hT3⟩:=YX (cs:=#[.string ⟨N.toArray⟩,.string ⟨D.toArray⟩]) (Zw H1.out hb3) rfl;obtain⟨w3,hw3⟩:∃w3,w3=w2.setCells w.heap.size 0 (#[.string ⟨N.toArray⟩,.string ⟨D.toArray⟩]:Array Value).toList:=⟨_,rfl⟩
 rw[<-hw3] at hT3;have HW3:=Lh hw3;have HTH:=Lh t3;have HNW:=Lh hT3.new;have HB4:Hid (Below w.heap.size w w3):=by rw[hw3];exact Lib.below_setCells _ (Nl _) _ _ HB3.out
 clear hb2 hb3 C2 H1 hT3 t3 hw3 HB3 b1 b2;go_wp2_with (refine wpList_store_mid rfl 34 (.tmp 4) (.tmp 21) rfl w.heap.size 0 #[.string ⟨N.toArray⟩,.string ⟨D.toArray⟩] rfl rfl HTH.out HI.out (UY _ _) ?_;rw[<-HW3.out]);refine bodyPost_ret (v:=.tuple #[.agg #[.string ⟨N.toArray⟩,.string ⟨D.toArray⟩],.int .i64 0]) ?_ rfl ?_
 ·exact results_cell_tmp Tryz.f11 4 5 34 #[.string ⟨N.toArray⟩,.string ⟨D.toArray⟩] (.int .i64 0) rfl rfl rfl (ZD HNW.out) Tryz.underlying34 rfl HI.out
 exact⟨rfl,HB4.out⟩
def pcs (t:Pnt):List Value:=[.int .i64 t.day,.string ⟨t.vl.toArray⟩,.string ⟨t.fl.toArray⟩]
theorem C9 (t:Pnt):∀u∈pcs t,u.oneCell'=true:=by
 intro u hu;simp only[pcs,List.mem_cons,List.not_mem_nil,or_false] at hu;rcases hu with rfl|rfl|rfl<;>rfl
def ptO (y:Del×Dlt):Pnt:=⟨y.1.day,y.1.v,canon (val y.1.p-val y.2.out)⟩
def Wx (ds:List Del) (xs:List Dlt):List Pnt:=(ds.zip xs).map ptO
theorem E4 {w:World} {B n:Nat} {v:Value} {ts:List Pnt} (h:w.ownsRow B 98 3 v n (ts.flatMap pcs)) (hn:ts.length=n) {A:Option Addr} {c:Nat} (e:v=.slice A n c):PK w A ts:=fun i t ht=>by
 obtain⟨g,c',e2,-,hg,-,hc⟩:=Ts pcs 3 (fun _=>rfl) h hn ht
 rw[e] at e2;injection e2 with e2
 refine⟨g,0,e2,hg,?_,?_,?_⟩
 ·rw[Nat.zero_add];exact hc 0 (by decide)
 ·rw[Nat.zero_add];exact hc 1 (by decide)
 ·rw[Nat.zero_add];exact hc 2 (by decide)
theorem GG {ds:List Del} {xs:List Dlt} {k:Nat} {d:Del} {x:Dlt} (hd:ds[k]?=some d) (hx:xs[k]?=some x):(Wx ds xs).take (k+1)=(Wx ds xs).take k++[ptO (d,x)]:=by
 have h:(Wx ds xs)[k]?=some (ptO (d,x)):=by
  unfold Wx;rw[List.getElem?_map,(List.getElem?_zip_eq_some (z:=(d,x))).2 ⟨hd,hx⟩];rfl
 obtain⟨hk,he⟩:=Lg.1 h;rw[List.take_succ_eq_append_getElem hk,he]
theorem Oz {ds:List Del} {xs:List Dlt} (h:xs.length=ds.length):(Wx ds xs).length=ds.length:=by
 unfold Wx;rw[List.length_map,List.length_zip,h,Nat.min_self]
structure Za3 (w:World) (ds:List Del) (xs:List Dlt) (A1:Option Addr) (c1:Nat) (v2:Value) (w':World):Prop where
 n6:ds.length<=6
 sm:∀d∈ds,d.v.length<=20/\d.p.length<=20/\d.u.length<=20
 run:Sg ds xs
 row:w'.ownsRow (w.heap.size+1) 36 4 v2 ds.length (Vr xs)
 ql:QL w' A1 (Wx ds xs) ds.length
 ok:YN (Wx ds xs)=0
theorem Bi {ds:List Del} {xs:List Dlt} (h:Sg ds xs) (hs:∀d∈ds,d.v.length<=20/\d.p.length<=20/\d.u.length<=20):∀t∈Wx ds xs,t.vl.length<=60/\t.fl.length<=60:=by
 intro t ht;obtain⟨⟨d,x⟩,hy,rfl⟩:=List.mem_map.1 ht;obtain⟨k,hk⟩:=List.mem_iff_getElem?.1 hy;obtain⟨hd,hx⟩:=List.getElem?_zip_eq_some.1 hk;obtain⟨s1,s2,s3⟩:=hs d (Lm hd);obtain⟨-,h2⟩:=h.ok k d x hd hx;obtain⟨-,-,rfl⟩:=UX h2;have h3:=(Qs (v:=d.v) (u:=X8 xs k) (b:=d.u) s1 s3).1;have h4:=Zo (l:=d.p) (k:=20) s2;have h5:(val d.p).natAbs<10 ^ (20+20):=Nat.lt_of_lt_of_le h4 (Nat.pow_le_pow_right (by decide) (by omega))
 refine⟨by show d.v.length<=60;omega,?_⟩
 exact Nt (Zn _ _ (SU _ h5 h3)) (by decide)
theorem Lv {w:World} {A:Option Addr} {ds:List Del} {n:Nat} (c:Nat) (hG:GE w) (hn:ds.length=n) (hn2:n<=9223372036854775807) (hD:TR w A ds) :
  Calls Tryz.prog 8 #[.slice A n c] w fun e w'=>Below w.heap.size w w'/\((∃v1 v2,e=.returned (.tuple #[v1,v2,.bool false]))∨∃xs A1 c1 v2,e=.returned (.tuple #[.slice A1 n c1,v2,.bool true])/\Za3 w ds xs A1 c1 v2 w'):=by
 have HN:=Lh hn;have HD:=Lh hD
 by_cases h6:n<=6
 rotate_left
 ·have e1:decide (6<n)=true:=Dt (by omega)
  have e2:decide ((6:Int)<(n:Int))=true:=Dt (by omega)
  go_enter Tryz.func8,Tryz.ntmps8;go_wp2;refine bodyPost_ret (v:=.tuple #[.slice none 0 0,.slice none 0 0,.bool false]) (by simp[results,Tryz.results8,go_sem]) rfl ?_
  exact⟨Below.refl _ _,.inl ⟨_,_,rfl⟩⟩
 have e1:decide (6<n)=false:=Df (by omega)
 have e2:decide ((6:Int)<(n:Int))=false:=Df (by omega)
 have K1:=Lh (Za1 _ GF Lu #[] A ds n c w hn (by omega) hD (fun x hx w' hb=>Za2 x w'))
 obtain⟨bg,hbg⟩:∃bg,bg=ds.any Lu:=⟨_,rfl⟩
 rw[<-hbg] at K1;have HBG:=Lh hbg;clear hbg hn hD;go_enter Tryz.func8,Tryz.ntmps8;go_wp2_with fail
 with_reducible refine K1.out.mono ?_
 rintro e w1 ⟨rfl,hb1⟩;cases bg with
 | true=>
  go_wp2;refine bodyPost_ret (v:=.tuple #[.slice none 0 0,.slice none 0 0,.bool false]) (by simp[results,Tryz.results8,go_sem]) rfl ?_
  exact⟨hb1,.inl ⟨_,_,rfl⟩⟩
 | false=>
 have hsm:∀d∈ds,d.v.length<=20/\d.p.length<=20/\d.u.length<=20:=fun d hd=>by
  have h:=HBG.out;have h1:Lu d=false:=by
   cases hx:Lu d with
   | false=>rfl
   | true=>rw[List.any_eq_true.2 ⟨d,hd,hx⟩] at h;cases h
  unfold Lu at h1;simp at h1;omega
 have HS:=Lh hsm;have HB1:=Lh hb1;have K2:=Lh (ZaZ c (hG.below hb1) HN.out h6 (HD.out.below hb1) hsm);clear hsm hb1 K1 HBG;go_wp2_with fail
 with_reducible refine K2.out.mono ?_
 rintro e w2 ⟨v2,err,rfl,hb2,hok,hbad⟩;have HB2:=Lh (bto HB1.out hb2)
 by_cases h0:err=0
 rotate_left
 ·have e5:decide (err=0)=false:=Df h0;have e6:(err==0)=false:=by rw[Bn];exact h0
  have hv:=hbad h0;subst hv;clear hok hbad hb2 K2 h0;go_wp2;refine bodyPost_ret (v:=.tuple #[.slice none 0 0,.slice none 0 0,.bool false]) (by simp[results,Tryz.results8,go_sem]) rfl ?_
  exact⟨HB2.out,.inl ⟨_,_,rfl⟩⟩
 obtain⟨xs,hrun,hrow⟩:=hok h0;subst h0;obtain⟨AX,cX,hv⟩:=WZ hrow;subst hv;have HRUN:=Lh hrun;have hl1:=HB1.out.size;have HROW:Hid (w2.ownsRow (w.heap.size+1) 36 4 (.slice AX n cX) n (Vr xs)):=S7 hrow (by omega)
 have HXL:Hid (xs.length=n):=hrun.len.trans HN.out;obtain⟨B,hB⟩:∃B,B=w2.heap.size:=⟨_,rfl⟩
 have HBE:=Lh hB;have HO0:Hid (w2.ownsRow B 98 3 (.slice none 0 0) 0 (((Wx ds xs).take 0).flatMap pcs)):=World.ownsRow_nil w2 B 98 3;clear hok hbad hb2 K2 hrun hrow hl1 hB;have e7:decide ((n:Int)=(n:Int))=true:=Dt rfl;go_wp2_with fail
 go_loopw [7,8,9,33] (fun qv _ _ iv wr=>∃(k:Nat) (v:Value),k<=n/\v=qv/\iv=.int .i64 (k:Int)/\Hid (wr.ownsRow B 98 3 v k (((Wx ds xs).take k).flatMap pcs))/\Hid (Below w2.heap.size w2 wr)) (fun _ _ _ iv _=>n-(intOf iv).toNat)
 case atStart=>exact⟨0,_,Nat.zero_le _,rfl,rfl,HO0.out,Below.refl _ _⟩
 case round=>
  clear HO0;obtain⟨k,v,hk,rfl,rfl,HO,HWR⟩:=hrel
  by_cases hlk:k<n
  rotate_left
  ·have hkn:k=n:=by omega
   subst hkn;have e3:decide (k<k)=false:=Df hlk;have e4:decide ((k:Int)<(k:Int))=false:=Df (by omega)
   have hpl:(Wx ds xs).length=k:=(Oz (HXL.out.trans HN.out.symm)).trans HN.out;have hown:wr.ownsRow B 98 3 v k ((Wx ds xs).flatMap pcs):=by
    have h:=HO.out
    rwa [List.take_of_length_le (by omega)] at h
   obtain⟨A1,c1,hv⟩:=WZ hown;have hpa:=E4 hown hpl hv;subst hv;have HQ:Hid (QL wr A1 (Wx ds xs) k):=⟨hpl,by omega,.inl (by omega),Bi HRUN.out HS.out,hpa⟩
   have CQ:=Lh (PM (hG.g.below (bto HB2.out HWR.out)) HQ.out c1 wr (Below.refl _ _));obtain⟨pe,hpe⟩:∃pe,pe=YN (Wx ds xs):=⟨_,rfl⟩
   rw[<-hpe] at CQ;have HPE:=Lh hpe;clear hown hpa hpe;go_wp2_with fail
   with_reducible refine CQ.out.mono ?_
   rintro e w5 ⟨rfl,hb5⟩;have HB5:=Lh (bto HWR.out hb5);have HQ5:=Lh (HQ.out.below hb5)
   by_cases h0:pe=0
   ·subst h0;go_wp2;refine bodyPost_ret (v:=.tuple #[.slice A1 k c1,.slice AX k cX,.bool true]) (by simp[results,Tryz.results8,go_sem]) rfl ?_
    refine⟨bto HB2.out HB5.out,.inr ⟨xs,A1,c1,_,rfl,⟨by rw[HN.out];exact h6,HS.out,HRUN.out,?_,?_,HPE.out.symm⟩⟩⟩
    ·rw[HN.out];exact Zz HROW.out HB5.out
    ·rw[HN.out];exact HQ5.out
   ·have e5:decide (pe=0)=false:=Df h0;have e6:(pe==0)=false:=by rw[Bn];exact h0
    go_wp2;refine bodyPost_ret (v:=.tuple #[.slice A1 k c1,.slice AX k cX,.bool false]) (by simp[results,Tryz.results8,go_sem]) rfl ?_
    exact⟨bto HB2.out HB5.out,.inl ⟨_,_,rfl⟩⟩
  have e3:decide (k<n)=true:=Dt hlk;have e4:decide ((k:Int)<(n:Int))=true:=Dt (by omega)
  have hlt:(k:Int)<(n:Int):=by omega
  obtain⟨d,hd⟩:∃d,ds[k]?=some d:=⟨_,List.getElem?_eq_getElem (by have:=HN.out;omega)⟩
  obtain⟨x,hx⟩:∃x,xs[k]?=some x:=⟨_,List.getElem?_eq_getElem (by have:=HXL.out;omega)⟩
  obtain⟨b,o,hA,hbs,p0,p1,p2,p3⟩:=(HD.out.below (bto HB2.out HWR.out)) k d hd;subst hA;obtain⟨gx,cx2,hgx,-,hgl,-,hgc⟩:=Ts xcs 4 (fun _=>rfl) (Zz HROW.out HWR.out) HXL.out hx
  injection hgx with hgx1 hgx2 hgx3
  subst hgx1;subst hgx3;have hb1:=Zd wr (.cells #[.int .i64 d.day,.string ⟨d.v.toArray⟩,.string ⟨d.p.toArray⟩,.string ⟨d.u.toArray⟩] 41);have h1:=ZF wr (.cells #[.int .i64 d.day,.string ⟨d.v.toArray⟩,.string ⟨d.p.toArray⟩,.string ⟨d.u.toArray⟩] 41);obtain⟨w1',hw1⟩:∃w1',w1'=wr.alloc (.cells #[.int .i64 d.day,.string ⟨d.v.toArray⟩,.string ⟨d.p.toArray⟩,.string ⟨d.u.toArray⟩] 41):=⟨_,rfl⟩
  rw[<-hw1] at hb1 h1;have HW1:=Lh hw1;have X1:Hid (Blk w1' wr.heap.size #[.int .i64 d.day,.string ⟨d.v.toArray⟩,.string ⟨d.p.toArray⟩,.string ⟨d.u.toArray⟩]):=⟨_,h1⟩;have HX1:Hid (w1'.cell? ⟨gx,k*4+1,none⟩=some (.string ⟨x.out.toArray⟩)):=(hb1.cell (p:=⟨gx,_,none⟩) hgl).trans (hgc 1 (by decide))
  have HGX:Hid (gx<w1'.heap.size):=Nat.lt_of_lt_of_le hgl hb1.size;have HWW:=Lh (bto (bto HB2.out HWR.out) hb1);have HWB:=Lh hb1;obtain⟨s1,s2,s3⟩:=HS.out d (Lm hd);have hxo:x.out.length<=41:=by
   obtain⟨-,h2⟩:=HRUN.out.ok k d x hd hx;obtain⟨-,-,rfl⟩:=UX h2;exact (Qs s1 s3).2
  have KS:=Lh (Wk (l:=d.p) (l':=x.out) (z:=val d.p-val x.out) (by omega) (by omega) rfl)
  have HTK:=Lh (GG hd hx);unfold ptO at HTK;generalize canon (val d.p-val x.out)=Fw at *;obtain⟨i0,hi,hz0,hz1,hz2⟩:=info_parts FE;have HII:=Lh (And.intro hi (And.intro hz0 (And.intro hz1 hz2)));clear hd hx hbs hgl hgc hb1 h1 hw1 s1 s2 s3 hxo hi hz0 hz1 hz2 hgx2;go_wp2_with fail;rw[<-HW1.out];refine VQ (by simp) (by simp) (by kernel_rfl) (by kernel_rfl) (by kernel_rfl) (by kernel_rfl) (by kernel_rfl) ?_
  simp only[List.dropLast_cons_cons,List.dropLast_singleton,List.getLast_cons_cons,List.getLast_singleton]
  iterate 2
   refine Zb _ (fun _=>rfl) (fun ρ wz hw=>by go_simp;try with_reducible rfl) ?_
   simp only[Act.put,StT,StZ,StS,Nat.reduceAdd]
  refine Zb _ (fun _=>rfl) (fun ρ wz hw=>by have q0:wz.cell? ⟨wr.heap.size,0,none⟩=some (.int .i64 d.day):=(X1.out.below hw).c 0;go_simp;try with_reducible rfl) ?_
  simp only[Act.put,StT,StZ,StS,Nat.reduceAdd];refine Zb _ (fun _=>rfl) (fun ρ wz hw=>by go_simp;try with_reducible rfl) ?_
  simp only[Act.put,StT,StZ,StS,Nat.reduceAdd];refine Zb _ (fun _=>rfl) (fun ρ wz hw=>by have q0:wz.cell? ⟨wr.heap.size,1,none⟩=some (.string ⟨d.v.toArray⟩):=(X1.out.below hw).c 1;go_simp;try with_reducible rfl) ?_
  simp only[Act.put,StT,StZ,StS,Nat.reduceAdd];refine Zb _ (fun _=>rfl) (fun ρ wz hw=>by go_simp;try with_reducible rfl) ?_
  simp only[Act.put,StT,StZ,StS,Nat.reduceAdd];refine Zb _ (fun _=>rfl) (fun ρ wz hw=>by have q0:wz.cell? ⟨wr.heap.size,2,none⟩=some (.string ⟨d.p.toArray⟩):=(X1.out.below hw).c 2;go_simp;try with_reducible rfl) ?_
  iterate 4
   simp only[Act.put,StT,StZ,StS,Nat.reduceAdd];refine Zb _ (fun _=>rfl) (fun ρ wz hw=>by go_simp;try with_reducible rfl) ?_
  simp only[Act.put,StT,StZ,StS,Nat.reduceAdd];refine Zb _ (fun _=>rfl) (fun ρ wz hw=>by have q0:=(hw.cell (p:=⟨gx,_,none⟩) HGX.out).trans HX1.out;go_simp;try with_reducible rfl) ?_
  simp only[Act.put,StT,StZ,StS,Nat.reduceAdd];refine Zl _ _ _ (fun _=>rfl) (fun ρ wz hw=>by go_simp;try with_reducible rfl) (fun wz hw=>KS.out.of (hG.g.below HWW.out) hw) ?_
  simp only[Act.put,StT,StZ,StS,Nat.reduceAdd];refine Zb _ (fun _=>rfl) (fun ρ wz hw=>by go_simp;try with_reducible rfl) ?_
  simp only[Act.put,StT,StZ,StS,Nat.reduceAdd];refine Wq (fun b=>.slice (some ⟨b,0,none⟩) 1 1) _ rfl (fun _=>rfl) (fun ρ wz hw=>by go_simp;try with_reducible rfl) ?_
  simp only[Act.put,StT,StZ,StS,Nat.reduceAdd];intro ρ w5 hF;dsimp only;have hh6:=(hF.box 14 _ _ rfl).2;generalize ρ 14=b6 at *;have hbF:=hF.below;have HO5:=Zz HO.out (bto HWB.out hbF);have HL5:=(bto HWB.out hbF).size;clear hF;refine ZM rfl _ _ 23 rfl B 98 i0 (.agg #[.int .i64 0,.string ⟨#[]⟩,.string ⟨#[]⟩]) 3 40 Tryz.underlying23 HII.out.1 HII.out.2.1 HII.out.2.2.1 HII.out.2.2.2 rfl (by decide) _ _ _ rfl HO5 ⟨b6,0,none⟩ 1 1 (pcs ⟨d.day,d.v,Fw⟩) rfl rfl ?c1 ?c2 ?c3 ?c4 ?c5 ?_
  case c1=>
   intro j u hu;rw[Lib.add_plain,Nat.zero_add,Zh hh6,<-Array.getElem?_toList];exact hu
  case c2=>exact C9 _
  case c3=>unfold maxLen;omega
  case c4=>omega
  case c5=>have:=HBE.out;have:=HWR.out.size;omega
  intro v' w6 hown hgrow hfresh;have HO6:Hid (w6.ownsRow B 98 3 v' (k+1) (((Wx ds xs).take (k+1)).flatMap pcs)):=by
   show World.ownsRow _ _ _ _ _ _ _;rw[HTK.out,List.flatMap_append];simpa using hown
  have HWR6:Hid (Below w2.heap.size w2 w6):=(bto HWR.out (bto HWB.out hbF)).grown hgrow (bto HWR.out (bto HWB.out hbF)).size (fun g hg=>by have:=(World.ownsRow.lt HO.out g hg).1;have:=HBE.out;omega)
  clear hown hgrow hfresh HO5 hh6 hbF HL5 HO HWR HTK HII HX1 HGX KS X1 HW1 HWW HWB p0 p1 p2 p3;go_wp2;go_roundw
  case rel=>exact⟨k+1,v',by omega,rfl,by go_num,HO6.out,HWR6.out⟩
  case measure=>simp[intOf];omega
def awP:List Pnt:=[⟨1,[49,48,48],[]⟩,⟨2,[49,49,48],[]⟩]
theorem Zam:YN awP=0:=by decide +kernel
theorem Bl:FG awP=.tuple #[.agg #[.string ⟨#[49]⟩,.string ⟨#[49,48]⟩],.int .i64 0]:=by
 have e1:Yq 1 (YK (pts awP))-1=Rat.divInt 1 10:=by decide +kernel
 have e2:fN (Rat.divInt 1 10)=[49]:=by decide +kernel
 have e3:fD (Rat.divInt 1 10)=[49,48]:=by decide +kernel
 unfold FG;rw[if_neg (fun h=>h Zam),e1,e2,e3]
theorem Pe:WN 9 #[] (.bool true):=fun w hG=>by
 have hb1:=Zd w (.cells #[.string ⟨#[]⟩,.int .i64 0,.bool false,.int .i64 0,.int .i64 0,.string ⟨#[]⟩,.string ⟨#[]⟩,.string ⟨#[]⟩,.string ⟨#[]⟩,.string ⟨#[]⟩,.string ⟨#[]⟩,.string ⟨#[]⟩,.string ⟨#[]⟩,.string ⟨#[]⟩,.string ⟨#[]⟩,.string ⟨#[]⟩,.string ⟨#[]⟩,.string ⟨#[]⟩,.slice none 0 0,.slice none 0 0,.int .i64 0] 48);have h1:=ZF w (.cells #[.string ⟨#[]⟩,.int .i64 0,.bool false,.int .i64 0,.int .i64 0,.string ⟨#[]⟩,.string ⟨#[]⟩,.string ⟨#[]⟩,.string ⟨#[]⟩,.string ⟨#[]⟩,.string ⟨#[]⟩,.string ⟨#[]⟩,.string ⟨#[]⟩,.string ⟨#[]⟩,.string ⟨#[]⟩,.string ⟨#[]⟩,.string ⟨#[]⟩,.string ⟨#[]⟩,.slice none 0 0,.slice none 0 0,.int .i64 0] 48);obtain⟨h2,hT⟩:=YX (cs:=Zs fA) h1 rfl;have HTH:=Lh h2;have HI:Hid ((Tryz.prog.info? 48).map (·.size)=some (Zs fA).size):=ZU
 have HM:Hid ((Zs fA).all (·.oneCell')=true):=by
  show _=_;decide +kernel
 obtain⟨W1,hW1⟩:∃W1,W1=(w.alloc (.cells #[.string ⟨#[]⟩,.int .i64 0,.bool false,.int .i64 0,.int .i64 0,.string ⟨#[]⟩,.string ⟨#[]⟩,.string ⟨#[]⟩,.string ⟨#[]⟩,.string ⟨#[]⟩,.string ⟨#[]⟩,.string ⟨#[]⟩,.string ⟨#[]⟩,.string ⟨#[]⟩,.string ⟨#[]⟩,.string ⟨#[]⟩,.string ⟨#[]⟩,.string ⟨#[]⟩,.slice none 0 0,.slice none 0 0,.int .i64 0] 48)).setCells w.heap.size 0 (Zs fA).toList:=⟨_,rfl⟩
 rw[<-hW1] at hT;have HW1:=Lh hW1;have HB1:Hid (Below w.heap.size w W1):=by rw[hW1];exact Lib.below_setCells _ (Nl _) _ _ hb1
 have HX1:Hid (Blk W1 w.heap.size (Zs fA)):=⟨_,hT.new⟩;clear hb1 h1 h2 hT hW1;go_enter Tryz.func9,Tryz.ntmps9
 go_wp2_with (first
  | (refine P6 rfl 48 _ rfl (.agg (Zs fA)) (by go_simp;first|done|with_reducible rfl|rfl) ?_)
  | (refine wpList_store_mid rfl 48 (.tmp 1) (.tmp 6) rfl w.heap.size 0 (Zs fA) rfl rfl HTH.out HI.out HM.out ?_;rw[<-HW1.out]))
 refine N8 (w:=w) (by kernel_rfl) (by kernel_rfl) (by kernel_rfl) rfl rfl ?_ ?_
 ·refine⟨as0 (fun a w'=>by go_simp;first|done|rfl) rfl,?_⟩
  refine⟨as1 HX1.out rfl rfl,?_⟩;refine⟨as2 (hG.below HB1.out) (Zi rfl) (Zi rfl) (fun a w' u v h1 h2=>by have g1:=toD h1;have g2:=toD h2;clear h1 h2;go_simp;first|done|rfl) rfl,?_⟩
  refine⟨as3 (Zi rfl) (fun a w' v h1=>by have g1:=toD h1;clear h1;go_simp;first|done|rfl) rfl,?_⟩
  refine⟨as4 (Zi rfl) (fun a w' v b h1=>by have g1:=toD h1;clear h1;go_simp;first|done|rfl) rfl,?_⟩
  refine⟨as5 (Zi rfl) (fun a w' v b h1=>by have g1:=toD h1;clear h1;go_simp;first|done|rfl) rfl,?_⟩
  refine⟨as6 (fun a w'=>by go_simp;first|done|rfl) rfl,?_⟩
  refine⟨as7 (Zi rfl) (Zi rfl) (Zi rfl) (Zi rfl) (Zi rfl) rfl rfl (by kernel_rfl),?_⟩
  exact⟨as8 (Zi rfl) (fun a w' v h1=>by have g1:=toD h1;clear h1;go_simp;first|done|rfl) rfl,trivial⟩
 intro u2 u3 u7 u8 u9 u10 u11 u12 w2 hb2 hres hu3;obtain⟨b,r,v1,v2,rfl,hbb,hrb,hga⟩:=hres;subst hu3;have HB2:=Lh (bto HB1.out hb2);have HRB:=Lh hrb;have HGA:=Lh hga;clear hb2 hbb hrb hga HB1 HX1 HTH HW1;unfold FRa;have hb3:=Zd w2 (.cells #[.int .i64 1,.string ⟨#[49,48,48]⟩,.string ⟨#[]⟩,.int .i64 2,.string ⟨#[49,49,48]⟩,.string ⟨#[]⟩] 98);have h3:=ZF w2 (.cells #[.int .i64 1,.string ⟨#[49,48,48]⟩,.string ⟨#[]⟩,.int .i64 2,.string ⟨#[49,49,48]⟩,.string ⟨#[]⟩] 98);obtain⟨w3,hw3⟩:∃w3,w3=w2.alloc (.cells #[.int .i64 1,.string ⟨#[49,48,48]⟩,.string ⟨#[]⟩,.int .i64 2,.string ⟨#[49,49,48]⟩,.string ⟨#[]⟩] 98):=⟨_,rfl⟩
 rw[<-hw3] at hb3 h3;have HQ:QL w3 (some ⟨w2.heap.size,0,none⟩) awP 2:=by
  refine⟨rfl,by decide,.inl (by decide),by decide,fun i t ht=>?_⟩
  have hi:=(Lg.1 ht).1;have hi:i=0∨i=1:=by simp[awP] at hi;omega
  rcases hi with rfl|rfl
  ·simp[awP] at ht;subst ht;exact⟨w2.heap.size,0,rfl,(Ag.1 h3).1,Zh h3 0,Zh h3 1,Zh h3 2⟩
  ·simp[awP] at ht;subst ht;exact⟨w2.heap.size,0,rfl,(Ag.1 h3).1,Zh h3 3,Zh h3 4,Zh h3 5⟩
 have HB3:=Lh (bto HB2.out hb3);have CR0:=FH (hG.below HB3.out).g HQ 2;rw[Bl] at CR0;have CR:=Lh (CR0 w3 (Below.refl _ _));clear CR0;have HW3:=Lh hw3;have HRB3:=Lh (Zw HRB.out hb3);have HGA3:=Lh (HGA.out.below hb3);clear hb3 h3 hw3 HQ HRB HGA HB2;go_wp2_with fail;rw[<-HW3.out]
 with_reducible refine CR.out.mono ?_
 rintro e w4 ⟨rfl,hb4⟩;have hga4:=HGA3.out.below hb4;have hrb4:=Zw HRB3.out hb4;have HB4:=Lh (bto HB3.out hb4);have hb5:=Zd w4 (.cells #[.string ⟨#[]⟩,.string ⟨#[]⟩] 34);have h5:=ZF w4 (.cells #[.string ⟨#[]⟩,.string ⟨#[]⟩] 34);obtain⟨t5,hT5⟩:=YX (cs:=#[.string ⟨#[49]⟩,.string ⟨#[49,48]⟩]) h5 rfl;have HTF:=Lh t5;have HIF:Hid ((Tryz.prog.info? 34).map (·.size)=some (#[.string ⟨#[49]⟩,.string ⟨#[49,48]⟩]:Array Value).size):=by
  show _=_
  kernel_rfl
 have HMF:Hid ((#[.string ⟨#[49]⟩,.string ⟨#[49,48]⟩]:Array Value).all (·.oneCell')=true):=by
  show _=_;decide +kernel
 obtain⟨W5,hW5⟩:∃W5,W5=(w4.alloc (.cells #[.string ⟨#[]⟩,.string ⟨#[]⟩] 34)).setCells w4.heap.size 0 (#[.string ⟨#[49]⟩,.string ⟨#[49,48]⟩]:Array Value).toList:=⟨_,rfl⟩
 rw[<-hW5] at hT5;have HW5:=Lh hW5;have HB5:Hid (Below w.heap.size w W5):=by rw[hW5];exact Lib.below_setCells _ (by have:=HB4.out.size;omega) _ _ (bto HB4.out hb5)
 have hrb5:W5.heap[b]?=some (.cells #[r,v1,v2,.slice none 0 0] 60 (0,0)):=(hT5.old b (by have:=(Ag.1 hrb4).1;omega)).trans (Zw hrb4 hb5)
 have hga5:GaQ W5 v1:=by
  obtain⟨g,cap,cur,e1,e2,e3⟩:=hga4;exact⟨g,cap,cur,e1,(hT5.old g (by have:=(Ag.1 e2).1;omega)).trans (Zw e2 hb5),e3⟩
 obtain⟨g,cap,rfl,qb,qc,qd⟩:=hga5.at;have qa:W5.cell? ⟨b,1,none⟩=some (.slice (some ⟨g,0,none⟩) 2 cap):=Zh hrb5 1;have qe:W5.cell? ⟨w4.heap.size,0,none⟩=some (.string ⟨#[49]⟩):=Zh hT5.new 0;have qf:W5.cell? ⟨w4.heap.size,1,none⟩=some (.string ⟨#[49,48]⟩):=Zh hT5.new 1;clear hb5 h5 t5 hT5 hW5 hrb4 hga4 hrb5 hga5 CR HW3 HRB3 HGA3 HB3 HB4 hb4;go_wp2_with (refine wpList_store_mid rfl 34 (.tmp 4) (.tmp 18) rfl w4.heap.size 0 #[.string ⟨#[49]⟩,.string ⟨#[49,48]⟩] rfl rfl HTF.out HIF.out HMF.out ?_;rw[<-HW5.out]);go_ret;exact⟨rfl,HB5.out⟩
theorem Bm {l x u:Int} (hx:x≠0) (hu:u≠0):Rat.divInt x u*Rat.divInt l x=Rat.divInt l u:=by
 rw[Rat.divInt_mul_divInt,Rat.divInt_eq_divInt_iff (Int.mul_ne_zero hu hx) hu];rw[Int.mul_comm x l,Int.mul_assoc,Int.mul_comm x u]
theorem BA {U V P B S i o:Int} (hS:0<S) (hN:0<U+i-B) (h1:V*i<=P*U) (h2:o*U<=V*B) :
  Rat.divInt V S<=Rat.divInt ((V+P-o)*U) ((U+i-B)*S):=by
 have hD:0<(U+i-B)*S:=Int.mul_pos hN hS;have e:Rat.divInt V S=Rat.divInt (V*(U+i-B)) ((U+i-B)*S):=by
  rw[Rat.divInt_eq_divInt_iff (by omega) (by omega)]
  rw[Int.mul_assoc]
 rw[e];apply L9 _ hD;have a1:V*(U+i-B)=V*U+V*i-V*B:=by rw[Int.mul_sub,Int.mul_add]
 have a2:(V+P-o)*U=V*U+P*U-o*U:=by rw[Int.sub_mul,Int.add_mul]
 omega
open Go.ChangeShapes Go.WideShapes Go.ChangeAt
theorem E5 : "*"++ "errors.errorString" = "*errors.errorString":=by decide
theorem BX (u:TypeId) (h:Tryz.prog.typeName? 3 u=some "*errors.errorString"):u=392:=
 typeName_ptr_named (nm:= "errors.errorString") (by rw[E5];kernel_rfl) (by kernel_rfl) (by decide) u (by rw[E5];exact h)
theorem Za4:Tryz.prog.cellsOf 394=1:=by kernel_rfl
theorem Za5:Tryz.prog.cellsOf 9=1:=by kernel_rfl
theorem Za6:Tryz.prog.globalNamed "strconv.ErrRange" = some 1:=by kernel_rfl
theorem Za7:Tryz.prog.globalNamed "strconv.ErrSyntax" = some 0:=by kernel_rfl
theorem Zby:(Tryz.prog.globals[1]?).map (·.type)=some 209:=by kernel_rfl
theorem Zbz:(Tryz.prog.globals[0]?).map (·.type)=some 209:=by kernel_rfl
theorem BY {W:World} (h1:laidMet Tryz.prog MA W) (hs:W.ShapedOpen Tryz.prog):GE W:=by
 refine⟨⟨?_,Go.Proofs.cell_of_shapedOpen_int (zero:=#[.int .i64 0]) (t:=3) hs (of_decide_eq_true (by kernel_rfl)) (by kernel_rfl) rfl (by kernel_rfl) (by kernel_rfl) Tryz.underlying3⟩,?_,?_⟩
 ·exact Lib.tabIs_of_head (g:=2) (by kernel_rfl) (by kernel_rfl) Tryz.underlying378 Tryz.underlying207 (by kernel_rfl) (by kernel_rfl) h1.tail.tail
 ·obtain⟨a,s,hv,-⟩:=laid_sentinel h1.tail.tail.tail.tail.tail Za7 Zbz Tryz.underlying209 BX Tryz.underlying392 Tryz.underlying394 rfl rfl Tryz.underlying9 Za4 Za5;exact⟨_,_,World.var?_cell Za7 hv 0⟩
 ·obtain⟨a,s,hv,-⟩:=laid_sentinel h1.tail.tail.tail.tail Za6 Zby Tryz.underlying209 BX Tryz.underlying392 Tryz.underlying394 rfl rfl Tryz.underlying9 Za4 Za5;exact⟨_,_,World.var?_cell Za6 hv 0⟩
open Go.Deep
theorem Lw {w:World} {a:Addr} {v:Value} (h:w.cell? a=some v):a.spot=none/\a.block<w.heap.size:=by
 unfold World.cell? at h
 split at h
 ·next he=>
  split at h
  ·cases h
  ·next hs=>exact⟨by simpa using hs,(Ag.1 he).1⟩
 ·cases h
theorem BB:Tryz.prog.cellsOf 39=1:=by kernel_rfl
theorem Jq:Tryz.prog.cellsOf 32=1:=by kernel_rfl
theorem E6:Tryz.prog.cellsOf 41=4:=by kernel_rfl
section
variable {H:Type} {enc:TypeId×Value->H} {w:World} {base:Nat} {spare:Nat->Bool} {held:Bool}
theorem Tu {n:Nat} {fs:Array Field} {cs:List Value} {xs:List (DataW H×List MemPlace)} (hf:∀(i:Nat) (f:Field),fs[i]?=some f->DataW.trod enc Tryz.prog w base spare held n f.type ((cs.drop f.offset).take (Tryz.prog.cellsOf f.type))=xs[i]?)
  (i:Nat) (ty:TypeId) (off:Nat) (f:Field) (h1:fs[i]?=some f) (h2:f.type=ty) (h3:f.offset=off) (k:Nat) (h4:Tryz.prog.cellsOf ty=k) (h5:i<xs.length):DataW.trod enc Tryz.prog w base spare held n ty ((cs.drop off).take k)=some (xs[i]'h5):=by
 have h:=hf i f h1;rw[h2,h3,h4,List.getElem?_eq_getElem h5] at h;exact h
def Zan (ts:List Del):Prop:=∀t∈ts,t.v.length<=9223372036854775807/\t.p.length<=9223372036854775807/\t.u.length<=9223372036854775807
theorem Lx {fuel:Nat} {cs:List Value} {x:DataW H×List MemPlace} (h:DataW.trod enc Tryz.prog w base spare held fuel 41 cs=some x):∃t:Del,cs=[.int .i64 t.day,.string ⟨t.v.toArray⟩,.string ⟨t.p.toArray⟩,.string ⟨t.u.toArray⟩]/\t.v.length<=9223372036854775807/\t.p.length<=9223372036854775807/\t.u.length<=9223372036854775807:=by
 obtain⟨xs,n,-,-,hlen,hxl,hf⟩:=DataW.trod_struct Tryz.underlying41 h;rw[E6] at hlen;have hxl:xs.length=4:=hxl
 match cs,hlen with
 | [c0,c1,c2,c3],_=>
  have h0:DataW.trod enc Tryz.prog w base spare held n 39 [c0]=some (xs[0]'(by omega)):=Tu hf 0 39 0 _ rfl rfl rfl 1 BB (by omega)
  have h1:DataW.trod enc Tryz.prog w base spare held n 32 [c1]=some (xs[1]'(by omega)):=Tu hf 1 32 1 _ rfl rfl rfl 1 Jq (by omega)
  have h2:DataW.trod enc Tryz.prog w base spare held n 32 [c2]=some (xs[2]'(by omega)):=Tu hf 2 32 2 _ rfl rfl rfl 1 Jq (by omega)
  have h3:DataW.trod enc Tryz.prog w base spare held n 32 [c3]=some (xs[3]'(by omega)):=Tu hf 3 32 3 _ rfl rfl rfl 1 Jq (by omega)
  obtain⟨s0,e0,-,-⟩:=DataW.trod_int Tryz.underlying39 h0;injection e0 with e0
  obtain⟨s1,e1,-,w1⟩:=DataW.trod_string Tryz.underlying32 h1;injection e1 with e1
  obtain⟨s2,e2,-,w2⟩:=DataW.trod_string Tryz.underlying32 h2;injection e2 with e2
  obtain⟨s3,e3,-,w3⟩:=DataW.trod_string Tryz.underlying32 h3;injection e3 with e3
  subst e0 e1 e2 e3;unfold maxLen at w1 w2 w3;refine⟨⟨s0,s1.data.toList,s2.data.toList,s3.data.toList⟩,rfl,?_,?_,?_⟩
  ·show s1.data.toList.length<=_
   have:s1.size=s1.data.toList.length:=by show s1.data.size=_;simp
   omega
  ·show s2.data.toList.length<=_
   have:s2.size=s2.data.toList.length:=by show s2.data.size=_;simp
   omega
  ·show s3.data.toList.length<=_
   have:s3.size=s3.data.toList.length:=by show s3.data.size=_;simp
   omega
theorem No {r:Reach} {b0:Nat} {v:Value} {d:DataW H} {p:List MemPlace} (hv:Value.okWide Tryz.prog w r b0 22 v) (h:DataW.Trod enc Tryz.prog w base spare held 22 v d p) :
  ∃(A:Option Addr) (n c:Nat) (ts:List Del),v=.slice A n c/\ts.length=n/\n<=c/\n<=9223372036854775807/\Zan ts/\TR w A ts:=by
 obtain⟨A,n,c,rfl⟩:=okWide_slice Tryz.underlying22 hv;obtain⟨fuel,hf⟩:=h;rcases open_slice Tryz.underlying22 hf with ⟨hcs,-⟩|⟨a,len,cap,m,k,D,Pl,hcs,-,hl,hm,hmm,-,hi⟩
 ·have hcs:[Value.slice A n c]=[.slice none 0 0]:=hcs;injection hcs with hcs
  injection hcs with h1 h2 h3
  subst h1 h2 h3;exact⟨none,0,0,[],rfl,rfl,Nl _,by omega,fun t ht=>by simp at ht,fun i x hx=>by simp at hx⟩
 ·have hcs:[Value.slice A n c]=[.slice (some a) len cap]:=hcs;injection hcs with hcs
  injection hcs with h1 h2 h3
  subst h1 h2 h3;have hnm:n<=m:=by rw[hmm];split<;>omega
  unfold maxLen at hm;rw[E6] at hi;have hy:∀i,i<n->∃t:Del,(w.cell? ((a.add (i*4)).add 0)=some (.int .i64 t.day)/\w.cell? ((a.add (i*4)).add 1)=some (.string ⟨t.v.toArray⟩)/\w.cell? ((a.add (i*4)).add 2)=some (.string ⟨t.p.toArray⟩)/\w.cell? ((a.add (i*4)).add 3)=some (.string ⟨t.u.toArray⟩))/\t.v.length<=9223372036854775807/\t.p.length<=9223372036854775807/\t.u.length<=9223372036854775807:=fun i hin=>by
   obtain⟨cs',hc,ht⟩:=hi i (by omega)
   obtain⟨t,hy,hlen⟩:=Lx ht;obtain⟨_,hcl,hat⟩:=World.cells?_some hc;exact⟨t,⟨by rw[hat 0 (by decide),hy];rfl,by rw[hat 1 (by decide),hy];rfl,by rw[hat 2 (by decide),hy];rfl,by rw[hat 3 (by decide),hy];rfl⟩,hlen⟩
  have hget:∀i t,((List.range n).map fun i=>if hin:i<n then (hy i hin).choose else ⟨0,[],[],[]⟩)[i]?=some t->∃hin:i<n,(hy i hin).choose=t:=fun i t hx=>by
   have hin:i<n:=by
    have:=(Lg.1 hx).1
    simpa using this
   rw[List.getElem?_map,List.getElem?_range hin] at hx;simp only[Option.map_some,dif_pos hin,Option.some.injEq] at hx;exact⟨hin,hx⟩
  refine⟨some a,n,c,(List.range n).map fun i=>if hin:i<n then (hy i hin).choose else ⟨0,[],[],[]⟩,rfl,by simp,hl,by omega,?_,?_⟩
  ·intro t ht;obtain⟨i,hi⟩:=List.getElem?_of_mem ht;obtain⟨hin,rfl⟩:=hget i t hi;exact (hy i hin).choose_spec.2
  ·intro i t hx;obtain⟨hin,rfl⟩:=hget i t hx;have hcell:=(hy i hin).choose_spec.1;obtain⟨hs0,hbl⟩:=Lw (hy 0 (by omega)).choose_spec.1.1
   generalize (hy i hin).choose=t at hcell ⊢;obtain⟨b,o,s⟩:=a;have hz:((⟨b,o,s⟩:Addr).add (0*4)).add 0=⟨b,o,s⟩:=by simp[Addr.add]
   rw[hz] at hs0 hbl;have hs0:s=none:=hs0;subst hs0;simp only[Lib.add_plain] at hcell;exact⟨b,o,rfl,hbl,hcell⟩
end
end Go.Proofs.YtpieeldbamklkaaGreatDoor
