/- Texts put together: Rb Sd Rk Rn Ro Uv Rp Rq. -/
import Derived.Test.YtpieeldbamklkaaGreatDoorV5
import Derived.WalkKit
import Derived.Deep.RegionLaw
import Derived.Lib.SliceRun
import Derived.Laws.IdiomCopy
import Derived.Lib.SlBuf
set_option maxHeartbeats 8000000
set_option maxRecDepth 1000000
open Go.Proofs.Tryz
namespace Go.Proofs.YtpieeldbamklkaaGreatDoor
open Go.RowKit Num
structure Zdl (w:World) (b:Nat) (x:Lot):Prop where
 out:w.rangeAt b 0 (lcs x)
theorem Yj {w:World} {b:Nat} {x:Lot} (h:Blk w b (Zn x)):Zdl w b x:=⟨fun j v hv=>by
 have hj:j<7:=YG hv;rw[Nat.zero_add]
 match j,hj with
 | 0,_=>cases hv;exact h.c 0
 | 1,_=>cases hv;exact h.c 1
 | 2,_=>cases hv;exact h.c 2
 | 3,_=>cases hv;exact h.c 3
 | 4,_=>cases hv;exact h.c 4
 | 5,_=>cases hv;exact h.c 5
 | 6,_=>cases hv;exact h.c 6⟩
theorem hset {w:World} {b o:Nat} {cs:Array Value} {t:TypeId} (v:Value) (h:w.heap[b]?=some (.cells cs t (0,0))):(w.setCell ⟨b,o,none⟩ v).heap[b]?=some (.cells (cs.setIfInBounds o v) t (0,0)):=Yl v h
theorem hoth {w:World} {b c o:Nat} {ob:Obj} {v:Value} (h:w.heap[b]?=some ob) (hn:b≠c):(w.setCell ⟨c,o,none⟩ v).heap[b]?=some ob:=(Below.heap_setCell w ⟨c,o,none⟩ v b hn).trans h
theorem Zv {w w':World} {b:Nat} {ob:Obj} (h:w.heap[b]?=some ob) (hb:Below w.heap.size w w'):w'.heap[b]?=some ob:=(hb.block _ (Ag.1 h).1).trans h
theorem V8 {w:World} {b:Nat} {c0 c1 c2 c3 c4 c5 c6:Value} (hc:∀m,w.cell? ⟨b,m,none⟩=#[c0,c1,c2,c3,c4,c5,c6][m]?) (hf:∀m,w.frozen? ⟨b,m,none⟩=false):w.there b 0 7:=fun j hj=>by
 refine⟨?_,hf _⟩;rw[Nat.zero_add,hc]
 match j,hj with
 | 0,_|1,_|2,_|3,_|4,_|5,_|6,_=>rfl
theorem Zdm {x:Lot} (hs:Vh x) (hx:UJ x=0) {q:List UInt8} (hql:q.length<=1000) (hq:q=canon (val q)) (h0:0<val q) (h1:val q<val x.q) :
  WQ 215 #[(Value.agg (Zn x)),Zg q] (.tuple #[(Value.agg #[.string ⟨List.toArray (Vk x q).id⟩,.string ⟨List.toArray (Vk x q).ins⟩,Zi (Vk x q).acq,Zi (Vk x q).opn,.string ⟨List.toArray (Vk x q).q⟩,.string ⟨List.toArray (Vk x q).cost⟩,.string ⟨List.toArray (Vk x q).used⟩]),(Value.agg #[.string ⟨List.toArray (WT x q).id⟩,.string ⟨List.toArray (WT x q).ins⟩,Zi (WT x q).acq,Zi (WT x q).opn,.string ⟨List.toArray (WT x q).q⟩,.string ⟨List.toArray (WT x q).cost⟩,.string ⟨List.toArray (WT x q).used⟩]),Zi 0]):=fun w hG=>by
 obtain⟨-,-,-,-,-,x1,x2,x3,x4,x5,x6⟩:=MB hx;have hl4:=hs.q;have hl5:=hs.cost;have HZ:=Lh YS;have K1:=Lh (E7 hs);rw[hx] at K1;have K2:=Lh (Yv (l:=q) (c:=0) (by omega) (if_pos hq))
 obtain⟨ca,hca⟩:∃ca,ca=ZH (val q) 0:=⟨_,rfl⟩
 have ca1:0<ca:=by rw[hca];exact (Ly (val q)).2.2.1.2 h0
 have KC1:=Lh (ZF (l:=q) (l':=[]) (by omega) (by decide) hca.symm)
 obtain⟨cb,hcb⟩:∃cb,cb=ZH (val q) (val x.q):=⟨_,rfl⟩
 have cb1:cb<0:=by rw[hcb];unfold ZH;rw[if_pos h1];decide
 have KC2:=Lh (ZF (l:=q) (l':=x.q) (by omega) (by omega) hcb.symm)
 have g1:decide (ca<=0)=false:=Df (by omega)
 have g2:decide (0<=cb)=false:=Df (by omega)
 have KS:=Lh (Vg (l:=x.q) (l':=q) (z:=val x.q-val q) (by omega) (by omega) rfl)
 have KH:=Lh (ZbL (T:=x.cost) (p:=q) (a:=x.q) (by omega) (by omega) (by omega) x2 hq x1 (by omega) (by omega) (by omega))
 obtain⟨xa,hxa⟩:∃xa,xa=Vk x q:=⟨_,rfl⟩
 obtain⟨xb,hxb⟩:∃xb,xb=WT x q:=⟨_,rfl⟩
 have HXA:=Lh hxa;have HXB:=Lh hxb;obtain⟨d,hd⟩:∃d,d=canon (val x.q-val q):=⟨_,rfl⟩
 obtain⟨sa,hsa⟩:∃sa,sa=canon (OQ (val x.cost) (val q) (val x.q)):=⟨_,rfl⟩
 obtain⟨sb,hsb⟩:∃sb,sb=canon (val x.cost-OQ (val x.cost) (val q) (val x.q)):=⟨_,rfl⟩
 have HA1:Hid (x.used=[]->(Zn xa)=#[Zg x.id,Zg x.ins,Zi x.acq,Zi x.opn,Zg q,Zg sa,Zg x.used]/\(Zn xb)=#[Zg x.id,Zg x.ins,Zi x.acq,Zi x.opn,Zg d,Zg sb,Zg x.used]):=fun hu=>by
  rw[hxa,hxb,hd,hsa,hsb];simp only[Vk,WT,hu];exact⟨rfl,rfl⟩
 have HA2:Hid (x.used≠[]->(Zn xa)=#[Zg x.id,Zg x.ins,Zi x.acq,Zi x.opn,Zg q,Zg sa,Zg q]/\(Zn xb)=#[Zg x.id,Zg x.ins,Zi x.acq,Zi x.opn,Zg d,Zg sb,Zg d]):=fun hu=>by
  rw[hxa,hxb,hd,hsa,hsb];simp only[Vk,WT,if_neg hu];exact⟨trivial,trivial⟩
 rw[<-hxa,<-hxb];rw[<-hd] at KS;rw[<-hsa,<-hsb] at KH;obtain⟨a1,a2,a3,a4⟩:=Zdj w (.cells (Zn x) 130) (.cells #[Zj,Zj,Zi 0,Zi 0,Zj,Zj,Zj] 130) (.cells #[Zj,Zj,Zi 0,Zi 0,Zj,Zj,Zj] 130);have B2:Blk (((w.alloc (.cells (Zn x) 130)).alloc (.cells #[Zj,Zj,Zi 0,Zi 0,Zj,Zj,Zj] 130)).alloc (.cells #[Zj,Zj,Zi 0,Zi 0,Zj,Zj,Zj] 130)) w.heap.size (Zn x):=⟨_,a1⟩;have p0:=B2.c 0;have p1:=B2.c 1;have p2:=B2.c 2;have p3:=B2.c 3;have p4:=B2.c 4;have p5:=B2.c 5;have p6:=B2.c 6;have B2H:=Lh B2;have A2:=Lh a2;have A3:=Lh a3;have HUS:=Lh x6;have hb:=a4;clear hx hq h0 h1 hca hcb hxa hxb hd hsa hsb x1 x2 x3 x4 x5 x6 B2 a1 a2 a3 a4 hl4 hl5 hs;go_enter func215,ntmps215;go_wp2_with fail
 refine (K1.out.of hG hb).mono ?_
 rintro e w1 ⟨rfl,hb1⟩;clear p0 p1 p2 p3 p4 p5 p6 K1;have x2:=B2H.out.below hb1;have H4:Hid (w1.heap[w.heap.size+1]?=some (.cells #[Zj,Zj,Zi 0,Zi 0,Zj,Zj,Zj] 130 (0,0))):=(hb1.block _ (Ag.1 A2.out).1).trans A2.out;have H5:Hid (w1.heap[w.heap.size+1+1]?=some (.cells #[Zj,Zj,Zi 0,Zi 0,Zj,Zj,Zj] 130 (0,0))):=(hb1.block _ (Ag.1 A3.out).1).trans A3.out;replace hb:=bto hb hb1;clear hb1 B2H A2 A3;obtain⟨b4,hb4⟩:∃b4,b4=w.heap.size+1:=⟨_,rfl⟩
 obtain⟨b5,hb5⟩:∃b5,b5=w.heap.size+1+1:=⟨_,rfl⟩
 obtain⟨b2,hb2⟩:∃b2,b2=w.heap.size:=⟨_,rfl⟩
 have l4:w.heap.size<=b4:=by omega
 have l5:w.heap.size<=b5:=by omega
 have l2:w.heap.size<=b2:=by omega
 have hne45:b4≠b5:=by omega
 have hlt4:b4<w1.heap.size:=by rw[hb4];exact (Ag.1 H4.out).1
 have hlt5:b5<w1.heap.size:=by rw[hb5];exact (Ag.1 H5.out).1
 have hlt2:b2<w1.heap.size:=by rw[hb2];exact x2.lt
 rw[<-hb2] at x2;rw[<-hb4] at H4;rw[<-hb5] at H5;have HB4:=Lh hb4;have HB5:=Lh hb5;rw[<-hb5,<-hb4,<-hb2];clear hb4 hb5 hb2;go_wp2_with fail
 refine (K2.out.e.of hG hb).mono ?_
 rintro e w2 ⟨rfl,hb2⟩;replace hb:=bto hb hb2;replace x2:=x2.below hb2;replace H4:=Lh ((hb2.block _ hlt4).trans H4.out);replace H5:=Lh ((hb2.block _ hlt5).trans H5.out);replace hlt4:=Nat.lt_of_lt_of_le hlt4 hb2.size;replace hlt5:=Nat.lt_of_lt_of_le hlt5 hb2.size;clear hb2 K2;go_wp2_with fail
 refine (KC1.out.e.of hG hb).mono ?_
 rintro e w3 ⟨rfl,hb3⟩;replace hb:=bto hb hb3;replace x2:=x2.below hb3;replace H4:=Lh ((hb3.block _ hlt4).trans H4.out);replace H5:=Lh ((hb3.block _ hlt5).trans H5.out);replace hlt4:=Nat.lt_of_lt_of_le hlt4 hb3.size;replace hlt5:=Nat.lt_of_lt_of_le hlt5 hb3.size;clear hb3 KC1;have q4:=x2.c 4;go_wp2_with fail
 refine (KC2.out.e.of hG hb).mono ?_
 rintro e w4 ⟨rfl,hb4⟩;replace hb:=bto hb hb4;replace x2:=x2.below hb4;replace H4:=Lh ((hb4.block _ hlt4).trans H4.out);replace H5:=Lh ((hb4.block _ hlt5).trans H5.out);replace hlt4:=Nat.lt_of_lt_of_le hlt4 hb4.size;replace hlt5:=Nat.lt_of_lt_of_le hlt5 hb4.size;clear hb4 q4 KC2;go_wp2_with fail;clear g1 g2 ca1 cb1;refine Zx (by kernel_rfl) (by kernel_rfl) ?_
 iterate 2 refine PkV (.agg (Zn x)) (fun _=>rfl) (fun ρ wz hw=>Zo 130 _ rfl b2 0 rfl (lcs x) _ (Yj (x2.below hw)).out underlying130 rfl (by rw[HZ.out];rfl)) ?_
 iterate 2
  refine Sq (fun b=>.pointer (some ⟨b,0,none⟩)) (.cells #[Zj,Zj,Zi 0,Zi 0,Zj,Zj,Zj] 130) rfl (fun _=>rfl) (fun ρ wz hw=>by go_simp;try rfl) ?_
  simp only[Act.put,StT,StZ,StS,Nat.reduceAdd]
 refine NV 2 0 _ 7 #[Zj,Zj,Zi 0,Zi 0,Zj,Zj,Zj] (lcs x) 130 rfl rfl rfl (by decide) (fun _=>rfl) (fun ρ wz hw hc hf=>ZB 130 _ _ rfl (ρ 2) 0 (Zn x) rfl rfl (V8 hc hf) (by rw[HZ.out];rfl) (Xj x)) ?_
 simp only[Act.put,Nat.reduceAdd];refine NV 3 0 _ 8 #[Zj,Zj,Zi 0,Zi 0,Zj,Zj,Zj] (lcs x) 130 rfl rfl rfl (by decide) (fun _=>rfl) (fun ρ wz hw hc hf=>ZB 130 _ _ rfl (ρ 3) 0 (Zn x) rfl rfl (V8 hc hf) (by rw[HZ.out];rfl) (Xj x)) ?_
 simp only[Act.put,Nat.reduceAdd];intro ρ w5 hF;dsimp only;have H7:Hid (w5.heap[ρ 2]?=some (.cells (Zn x) 130 (0,0))):=(hF.box 2 _ _ rfl).2;have H8:Hid (w5.heap[ρ 3]?=some (.cells (Zn x) 130 (0,0))):=(hF.box 3 _ _ rfl).2;have l7:=(hF.box 2 _ _ rfl).1;have l8:=(hF.box 3 _ _ rfl).1;have hne78:ρ 2≠ρ 3:=fun e=>by have:=hF.ne 2 3 (by simp) (by simp) e;omega
 have hbF:=hF.below;clear hF;generalize ρ 2=b7 at *;generalize ρ 3=b8 at *;have hlt2:=x2.lt;have hw4:=hb.size;have m7:w.heap.size<=b7:=Nt hw4 l7;have m8:w.heap.size<=b8:=Nt hw4 l8;have n74:b7≠b4:=by omega
 have n75:b7≠b5:=by omega
 have n84:b8≠b4:=by omega
 have n85:b8≠b5:=by omega
 have n27:b2≠b7:=by omega
 have n28:b2≠b8:=by omega
 have n87:b8≠b7:=Ne.symm hne78;have H2:Hid (Blk w5 b2 (Zn x)):=x2.below hbF;replace H4:=Lh (Zv H4.out hbF);replace H5:=Lh (Zv H5.out hbF);replace hb:=bto hb hbF;clear hbF x2 hlt2 hlt4 hlt5 l7 l8 hw4;have q4:=H2.out.c 4;go_wp2_with fail
 refine (KS.out.e.of hG hb).mono ?_
 rintro e w6 ⟨rfl,hb6⟩;clear q4 KS;replace H2:=Lh (H2.out.below hb6);replace H4:=Lh (Zv H4.out hb6);replace H5:=Lh (Zv H5.out hb6);replace H7:=Lh (Zv H7.out hb6);replace H8:=Lh (Zv H8.out hb6);replace hb:=bto hb hb6;clear hb6;have q4:=H2.out.c 4;have q5:=H2.out.c 5;have r1:w6.cell? ⟨b7,4,none⟩=some (Zg x.q):=Zk H7.out 4;have r2:w6.frozen? ⟨b7,4,none⟩=false:=Zt H7.out 4;have r3:w6.cell? ⟨b8,4,none⟩=some (Zg x.q):=Zk H8.out 4;have r4:w6.frozen? ⟨b8,4,none⟩=false:=Zt H8.out 4;replace hb:=(hb.setCell (p:=⟨b7,4,none⟩) m7 (Zg q)).setCell (p:=⟨b8,4,none⟩) m8 (Zg d);go_wp2_with fail
 refine (KH.out.e.of hG hb).mono ?_
 rintro e w7 ⟨rfl,hb7⟩;clear q4 q5 r1 r2 r3 r4 KH;replace H2:=Lh (((H2.out.setO n27).setO n28).below hb7);replace H4:=Lh (Zv (hoth (hoth H4.out (Ne.symm n74)) (Ne.symm n84)) hb7);replace H5:=Lh (Zv (hoth (hoth H5.out (Ne.symm n75)) (Ne.symm n85)) hb7);replace H7:=Lh (Zv (hoth (hset _ H7.out) hne78) hb7);replace H8:=Lh (Zv (hset _ (hoth H8.out n87)) hb7);replace hb:=bto hb hb7;clear hb7;have q6:=H2.out.c 6;have r1:w7.cell? ⟨b7,5,none⟩=some (Zg x.cost):=Zk H7.out 5;have r2:w7.frozen? ⟨b7,5,none⟩=false:=Zt H7.out 5;have r3:w7.cell? ⟨b8,5,none⟩=some (Zg x.cost):=Zk H8.out 5;have r4:w7.frozen? ⟨b8,5,none⟩=false:=Zt H8.out 5;replace hb:=(hb.setCell (p:=⟨b7,5,none⟩) m7 (Zg sa)).setCell (p:=⟨b8,5,none⟩) m8 (Zg sb);have HB:=Lh hb;clear hb;obtain⟨W9,hW9⟩:∃W9,W9=(w7.setCell ⟨b7,5,none⟩ (Zg sa)).setCell ⟨b8,5,none⟩ (Zg sb):=⟨_,rfl⟩
 have H4b:Hid (W9.heap[b4]?=some (.cells #[Zj,Zj,Zi 0,Zi 0,Zj,Zj,Zj] 130 (0,0))):=by show _=_;rw[hW9];exact hoth (hoth H4.out (Ne.symm n74)) (Ne.symm n84)
 have H5b:Hid (W9.heap[b5]?=some (.cells #[Zj,Zj,Zi 0,Zi 0,Zj,Zj,Zj] 130 (0,0))):=by show _=_;rw[hW9];exact hoth (hoth H5.out (Ne.symm n75)) (Ne.symm n85)
 have H7b:Hid (W9.heap[b7]?=some (.cells #[Zg x.id,Zg x.ins,Zi x.acq,Zi x.opn,Zg q,Zg sa,Zg x.used] 130 (0,0))):=by show _=_;rw[hW9];exact hoth (hset _ H7.out) hne78
 have H8b:Hid (W9.heap[b8]?=some (.cells #[Zg x.id,Zg x.ins,Zi x.acq,Zi x.opn,Zg d,Zg sb,Zg x.used] 130 (0,0))):=by show _=_;rw[hW9];exact hset _ (hoth H8.out n87)
 rw[<-hW9] at HB;have HW9:=Lh hW9;clear H4 H5 H7 H8 H2 hW9;have hn7:∀{F:Fx},(∀b,F b≠none->b=b4∨b=b5)->¬(F b7≠none):=fun h hc=>by rcases h b7 hc with e|e<;>omega
 have hn8:∀{F:Fx},(∀b,F b≠none->b=b4∨b=b5)->¬(F b8≠none):=fun h hc=>by rcases h b8 hc with e|e<;>omega
 by_cases hu:x.used=[]
 ·have e1:(x.used==[])=true:=by rw[hu];rfl
  have e2:x.used.isEmpty=true:=by rw[hu];rfl
  have K7:Hid (Blk W9 b7 (Zn xa)):=by rw[(HA1.out hu).1];exact⟨130,H7b.out⟩
  have K8:Hid (Blk W9 b8 (Zn xb)):=by rw[(HA1.out hu).2];exact⟨130,H8b.out⟩
  have H4:=H4b;have H5:=H5b;clear hu HA1 HA2 H7b H8b H4b H5b;go_wp2_with fail;rw[<-HW9.out];clear q6 r1 r2 r3 r4 e1 e2;have hne:=hne45;obtain⟨F,hF⟩:∃F:Fx,F=fun b=>if b=b4 then some (.cells #[Zj,Zj,Zi 0,Zi 0,Zj,Zj,Zj] 130 (0,0)) else if b=b5 then some (.cells #[Zj,Zj,Zi 0,Zi 0,Zj,Zj,Zj] 130 (0,0)) else none:=⟨_,rfl⟩
  have f1:F b4=some (.cells #[Zj,Zj,Zi 0,Zi 0,Zj,Zj,Zj] 130 (0,0)):=by rw[hF];exact if_pos rfl
  have f2:F b5=some (.cells #[Zj,Zj,Zi 0,Zi 0,Zj,Zj,Zj] 130 (0,0)):=by rw[hF];exact (if_neg (Ne.symm hne)).trans (if_pos rfl)
  have hX:∀b,F b≠none->b=b4∨b=b5:=fun b hb=>by
   rw[hF] at hb;dsimp only at hb
   by_cases h1:b=b4
   ·exact .inl h1
   ·by_cases h2:b=b5
    ·exact .inr h2
    ·rw[if_neg h1,if_neg h2] at hb;exact absurd rfl hb
  have HFF:Hid (∀b ob,F b=some ob->W9.heap[b]?=some ob):=fun b ob h=>by
   rw[hF] at h;dsimp only at h
   by_cases h1:b=b4
   ·rw[if_pos h1] at h;rw[h1,<-h];exact H4.out
   ·rw[if_neg h1] at h
    by_cases h2:b=b5
    ·rw[if_pos h2] at h;rw[h2,<-h];exact H5.out
    ·rw[if_neg h2] at h;cases h
  obtain⟨tch,htch⟩:∃tch:Nat->List Nat,tch=fun b=>if b=b4 then [2] else if b=b5 then [3] else []:=⟨_,rfl⟩
  clear hF;have f2b:(fun kb=>if kb=b4 then some (Obj.cells (Yp #[Zj,Zj,Zi 0,Zi 0,Zj,Zj,Zj] 0 (lcs xa)) 130 (0,0)) else F kb) b5=some (.cells #[Zj,Zj,Zi 0,Zi 0,Zj,Zj,Zj] 130 (0,0)):=(if_neg (Ne.symm hne)).trans f2
  refine ZL tch F (by kernel_rfl) (by kernel_rfl) (by kernel_rfl) HFF.out ?_
  refine PfV (.agg (Zn xa)) rfl (fun wz hw=>Zo 130 _ rfl b7 0 rfl (lcs xa) _ (Yj (K7.out.keepX hw (hn7 hX))).out underlying130 rfl (by rw[HZ.out];rfl)) ?_
  refine PfV (.agg (Zn xb)) rfl (fun wz hw=>Zo 130 _ rfl b8 0 rfl (lcs xb) _ (Yj (K8.out.keepX hw (hn8 hX))).out underlying130 rfl (by rw[HZ.out];rfl)) ?_
  refine Z6 b4 0 #[Zj,Zj,Zi 0,Zi 0,Zj,Zj,Zj] (lcs xa) 130 f1 (by simp[htch]) (fun j oj hj=>ZC (l:=[2]) (by kernel_rfl) j oj (by simpa [htch] using hj)) rfl (fun wz hw hc hf=>ZB 130 _ _ rfl b4 0 (Zn xa) rfl rfl (V8 hc hf) (by rw[HZ.out];rfl) (Xj xa)) ?_
  simp only[Act.put,Nat.reduceAdd];refine Z6 b5 0 #[Zj,Zj,Zi 0,Zi 0,Zj,Zj,Zj] (lcs xb) 130 f2b (by simp[htch,Ne.symm hne]) (fun j oj hj=>ZC (l:=[3]) (by kernel_rfl) j oj (by simpa [htch,Ne.symm hne] using hj)) rfl (fun wz hw hc hf=>ZB 130 _ _ rfl b5 0 (Zn xb) rfl rfl (V8 hc hf) (by rw[HZ.out];rfl) (Xj xb)) ?_
  simp only[Act.put,Nat.reduceAdd];refine PfV _ rfl (fun wz hw=>by go_simp;try rfl) ?_
  refine YB (fun wf hFf=>?_)
  have k4:Blk wf b4 (Zn xa):=⟨130,hFf.box b4 _ ((if_neg hne).trans (if_pos rfl))⟩;have k5:Blk wf b5 (Zn xb):=⟨130,hFf.box b5 _ (if_pos rfl)⟩;have hbf:=hFf.below.lower HB.out (fun k hk=>by rcases hX k hk with e|e<;>rw[e]<;>assumption)
  have c0:=k4.c 0;have d0:=k5.c 0;have c1:=k4.c 1;have d1:=k5.c 1;have c2:=k4.c 2;have d2:=k5.c 2;have c3:=k4.c 3;have d3:=k5.c 3;have c4:=k4.c 4;have d4:=k5.c 4;have c5:=k4.c 5;have d5:=k5.c 5;have c6:=k4.c 6;have d6:=k5.c 6;clear hFf f1 f2 f2b hX HFF htch k4 k5;go_wp2;refine bodyPost_ret (v:=.tuple #[(Value.agg (Zn xa)),(Value.agg (Zn xb)),Zi 0]) (by simp[results,results215,go_sem,c0,c1,c2,c3,c4,c5,c6,d0,d1,d2,d3,d4,d5,d6]) rfl ?_
  exact⟨by rw[HXA.out,HXB.out],hbf⟩
 ·have e1:(x.used==[])=false:=by rw[Bn];exact hu
  have e2:x.used.isEmpty=false:=by rw[List.isEmpty_eq_false_iff];exact hu
  have H7:=H7b;have H8:=H8b;obtain⟨ha1,ha2⟩:=HA2.out hu;have HA:=Lh (And.intro ha1 ha2);clear hu HA1 HA2 H7b H8b ha1 ha2;go_wp2_with fail;rw[<-HW9.out];clear q6 r1 r2 r3 r4 e1 e2 HW9;have hne:=hne78;obtain⟨F,hF⟩:∃F:Fx,F=fun b=>if b=b7 then some (.cells #[Zg x.id,Zg x.ins,Zi x.acq,Zi x.opn,Zg q,Zg sa,Zg x.used] 130 (0,0)) else if b=b8 then some (.cells #[Zg x.id,Zg x.ins,Zi x.acq,Zi x.opn,Zg d,Zg sb,Zg x.used] 130 (0,0)) else none:=⟨_,rfl⟩
  have f1:F b7=some (.cells #[Zg x.id,Zg x.ins,Zi x.acq,Zi x.opn,Zg q,Zg sa,Zg x.used] 130 (0,0)):=by rw[hF];exact if_pos rfl
  have f2:F b8=some (.cells #[Zg x.id,Zg x.ins,Zi x.acq,Zi x.opn,Zg d,Zg sb,Zg x.used] 130 (0,0)):=by rw[hF];exact (if_neg (Ne.symm hne)).trans (if_pos rfl)
  have hX:∀b,F b≠none->b=b7∨b=b8:=fun b hb=>by
   rw[hF] at hb;dsimp only at hb
   by_cases h1:b=b7
   ·exact .inl h1
   ·by_cases h2:b=b8
    ·exact .inr h2
    ·rw[if_neg h1,if_neg h2] at hb;exact absurd rfl hb
  have HFF:Hid (∀b ob,F b=some ob->W9.heap[b]?=some ob):=fun b ob h=>by
   rw[hF] at h;dsimp only at h
   by_cases h1:b=b7
   ·rw[if_pos h1] at h;rw[h1,<-h];exact H7.out
   ·rw[if_neg h1] at h
    by_cases h2:b=b8
    ·rw[if_pos h2] at h;rw[h2,<-h];exact H8.out
    ·rw[if_neg h2] at h;cases h
  obtain⟨tch,htch⟩:∃tch:Nat->List Nat,tch=fun b=>if b=b7 then [1,5] else if b=b8 then [3,7] else []:=⟨_,rfl⟩
  clear hF;have f2b:(fun kb=>if kb=b7 then some (Obj.cells (Array.setIfInBounds (#[Zg x.id,Zg x.ins,Zi x.acq,Zi x.opn,Zg q,Zg sa,Zg x.used]) 6 (Zg q)) 130 (0,0)) else F kb) b8=some (.cells #[Zg x.id,Zg x.ins,Zi x.acq,Zi x.opn,Zg d,Zg sb,Zg x.used] 130 (0,0)):=(if_neg (Ne.symm hne)).trans f2
  refine ZL tch F (by kernel_rfl) (by kernel_rfl) (by kernel_rfl) HFF.out ?_
  refine PfV _ rfl (fun wz hw=>by go_simp;try rfl) ?_
  refine Z9 b7 #[Zg x.id,Zg x.ins,Zi x.acq,Zi x.opn,Zg q,Zg sa,Zg x.used] 130 (Zg q) f1 (by simp[htch]) rfl (fun wz hw hc=>by have q0:wz.cell? ⟨b7,4,none⟩=some (Zg q):=hc 4;clear hc;go_simp;try rfl) ?_
  simp only[Act.put,StT,StZ,StS,Nat.reduceAdd];refine PfV _ rfl (fun wz hw=>by go_simp;try rfl) ?_
  refine Z9 b8 #[Zg x.id,Zg x.ins,Zi x.acq,Zi x.opn,Zg d,Zg sb,Zg x.used] 130 (Zg d) f2 (by simp[htch,Ne.symm hne]) rfl (fun wz hw hc=>by have q0:wz.cell? ⟨b8,4,none⟩=some (Zg d):=hc 4;clear hc;go_simp;try rfl) ?_
  simp only[Act.put,StT,StZ,StS,Nat.reduceAdd];refine PfV _ rfl (fun wz hw=>by go_simp;try rfl) ?_
  refine XE b7 6 #[Zg x.id,Zg x.ins,Zi x.acq,Zi x.opn,Zg q,Zg sa,Zg x.used] (Zg q) 130 f1 (by simp[htch]) (fun j oj hj=>ZC (l:=[1,5]) (by kernel_rfl) j oj (by simpa [htch] using hj)) rfl (fun wz hw hc hf=>by have q0:wz.cell? ⟨b7,6,none⟩=some (Zg x.used):=hc 6;have q1:=hf 6;clear hc hf;go_simp;try rfl) ?_
  simp only[Act.put,Nat.reduceAdd];refine PfV _ rfl (fun wz hw=>by go_simp;try rfl) ?_
  refine XE b8 6 #[Zg x.id,Zg x.ins,Zi x.acq,Zi x.opn,Zg d,Zg sb,Zg x.used] (Zg d) 130 f2b (by simp[htch,Ne.symm hne]) (fun j oj hj=>ZC (l:=[3,7]) (by kernel_rfl) j oj (by simpa [htch,Ne.symm hne] using hj)) rfl (fun wz hw hc hf=>by have q0:wz.cell? ⟨b8,6,none⟩=some (Zg x.used):=hc 6;have q1:=hf 6;clear hc hf;go_simp;try rfl) ?_
  simp only[Act.put,Nat.reduceAdd];refine YB (fun w9 hF9=>?_)
  have K7:Hid (Blk w9 b7 (Zn xa)):=by rw[HA.out.1];exact⟨130,hF9.box b7 _ ((if_neg hne).trans (if_pos rfl))⟩
  have K8:Hid (Blk w9 b8 (Zn xb)):=by rw[HA.out.2];exact⟨130,hF9.box b8 _ (if_pos rfl)⟩
  have H4:Hid (w9.heap[b4]?=some (.cells #[Zj,Zj,Zi 0,Zi 0,Zj,Zj,Zj] 130 (0,0))):=(hF9.below.block _ (Ag.1 H4b.out).1 (fun hc=>by rcases hX _ hc with e|e<;>omega)).trans H4b.out
  have H5:Hid (w9.heap[b5]?=some (.cells #[Zj,Zj,Zi 0,Zi 0,Zj,Zj,Zj] 130 (0,0))):=(hF9.below.block _ (Ag.1 H5b.out).1 (fun hc=>by rcases hX _ hc with e|e<;>omega)).trans H5b.out
  have HB9:=Lh (hF9.below.lower HB.out (fun k hk=>by rcases hX k hk with e|e<;>rw[e]<;>assumption))
  clear hF9 f1 f2 f2b hX HFF htch H7 H8 H4b H5b HA HB hne;go_wp2_with fail;have hne:=hne45;obtain⟨F,hF⟩:∃F:Fx,F=fun b=>if b=b4 then some (.cells #[Zj,Zj,Zi 0,Zi 0,Zj,Zj,Zj] 130 (0,0)) else if b=b5 then some (.cells #[Zj,Zj,Zi 0,Zi 0,Zj,Zj,Zj] 130 (0,0)) else none:=⟨_,rfl⟩
  have f1:F b4=some (.cells #[Zj,Zj,Zi 0,Zi 0,Zj,Zj,Zj] 130 (0,0)):=by rw[hF];exact if_pos rfl
  have f2:F b5=some (.cells #[Zj,Zj,Zi 0,Zi 0,Zj,Zj,Zj] 130 (0,0)):=by rw[hF];exact (if_neg (Ne.symm hne)).trans (if_pos rfl)
  have hX:∀b,F b≠none->b=b4∨b=b5:=fun b hb=>by
   rw[hF] at hb;dsimp only at hb
   by_cases h1:b=b4
   ·exact .inl h1
   ·by_cases h2:b=b5
    ·exact .inr h2
    ·rw[if_neg h1,if_neg h2] at hb;exact absurd rfl hb
  have HFF:Hid (∀b ob,F b=some ob->w9.heap[b]?=some ob):=fun b ob h=>by
   rw[hF] at h;dsimp only at h
   by_cases h1:b=b4
   ·rw[if_pos h1] at h;rw[h1,<-h];exact H4.out
   ·rw[if_neg h1] at h
    by_cases h2:b=b5
    ·rw[if_pos h2] at h;rw[h2,<-h];exact H5.out
    ·rw[if_neg h2] at h;cases h
  obtain⟨tch,htch⟩:∃tch:Nat->List Nat,tch=fun b=>if b=b4 then [2] else if b=b5 then [3] else []:=⟨_,rfl⟩
  clear hF;have f2b:(fun kb=>if kb=b4 then some (Obj.cells (Yp #[Zj,Zj,Zi 0,Zi 0,Zj,Zj,Zj] 0 (lcs xa)) 130 (0,0)) else F kb) b5=some (.cells #[Zj,Zj,Zi 0,Zi 0,Zj,Zj,Zj] 130 (0,0)):=(if_neg (Ne.symm hne)).trans f2
  refine ZL tch F (by kernel_rfl) (by kernel_rfl) (by kernel_rfl) HFF.out ?_
  refine PfV (.agg (Zn xa)) rfl (fun wz hw=>Zo 130 _ rfl b7 0 rfl (lcs xa) _ (Yj (K7.out.keepX hw (hn7 hX))).out underlying130 rfl (by rw[HZ.out];rfl)) ?_
  refine PfV (.agg (Zn xb)) rfl (fun wz hw=>Zo 130 _ rfl b8 0 rfl (lcs xb) _ (Yj (K8.out.keepX hw (hn8 hX))).out underlying130 rfl (by rw[HZ.out];rfl)) ?_
  refine Z6 b4 0 #[Zj,Zj,Zi 0,Zi 0,Zj,Zj,Zj] (lcs xa) 130 f1 (by simp[htch]) (fun j oj hj=>ZC (l:=[2]) (by kernel_rfl) j oj (by simpa [htch] using hj)) rfl (fun wz hw hc hf=>ZB 130 _ _ rfl b4 0 (Zn xa) rfl rfl (V8 hc hf) (by rw[HZ.out];rfl) (Xj xa)) ?_
  simp only[Act.put,Nat.reduceAdd];refine Z6 b5 0 #[Zj,Zj,Zi 0,Zi 0,Zj,Zj,Zj] (lcs xb) 130 f2b (by simp[htch,Ne.symm hne]) (fun j oj hj=>ZC (l:=[3]) (by kernel_rfl) j oj (by simpa [htch,Ne.symm hne] using hj)) rfl (fun wz hw hc hf=>ZB 130 _ _ rfl b5 0 (Zn xb) rfl rfl (V8 hc hf) (by rw[HZ.out];rfl) (Xj xb)) ?_
  simp only[Act.put,Nat.reduceAdd];refine PfV _ rfl (fun wz hw=>by go_simp;try rfl) ?_
  refine YB (fun wf hFf=>?_)
  have k4:Blk wf b4 (Zn xa):=⟨130,hFf.box b4 _ ((if_neg hne).trans (if_pos rfl))⟩;have k5:Blk wf b5 (Zn xb):=⟨130,hFf.box b5 _ (if_pos rfl)⟩;have hbf:=hFf.below.lower HB9.out (fun k hk=>by rcases hX k hk with e|e<;>rw[e]<;>assumption)
  have c0:=k4.c 0;have d0:=k5.c 0;have c1:=k4.c 1;have d1:=k5.c 1;have c2:=k4.c 2;have d2:=k5.c 2;have c3:=k4.c 3;have d3:=k5.c 3;have c4:=k4.c 4;have d4:=k5.c 4;have c5:=k4.c 5;have d5:=k5.c 5;have c6:=k4.c 6;have d6:=k5.c 6;clear hFf f1 f2 f2b hX HFF htch k4 k5;go_wp2;refine bodyPost_ret (v:=.tuple #[(Value.agg (Zn xa)),(Value.agg (Zn xb)),Zi 0]) (by simp[results,results215,go_sem,c0,c1,c2,c3,c4,c5,c6,d0,d1,d2,d3,d4,d5,d6]) rfl ?_
  exact⟨by rw[HXA.out,HXB.out],hbf⟩
theorem DO (cs:Array Value):(Builtin.zeroCells cs 1).toList=cs.toList:=by
 unfold Builtin.zeroCells;rw[Nat.one_mul];apply List.ext_getElem
 ·simp
 ·intro i h1 h2;have hi:i<cs.size:=by simpa using h2
  simp[Nat.mod_eq_of_lt hi,hi]
theorem Nr {P:Program} (w:World) (t e ty:TypeId) (z:Value) (ht:P.underlying t=some (.slice e)) (hv:∀w,(zeroValue e).run P w=.ok z w) (h1:∀u∈z.cells.toList,u.oneCell'=true) (b o c:Nat)
  (hc:∀j,j<z.cells.size->(w.cell? ⟨b,o+j,none⟩).isSome=true) (hf:∀j,j<z.cells.size->w.frozen? ⟨b,o+j,none⟩=false) :
  (Builtin.clear_ #[t] ty #[.slice (some ⟨b,o,none⟩) 1 c]).run P w=.ok (.tuple #[]) (w.setCells b o z.cells.toList):=by
 have hst:=run_storeCells_cells (P:=P) b o z.cells.toList 0 w (by simpa using hc) (by simpa using hf) h1
 simp only[Nat.add_zero] at hst;simp[Builtin.clear_,run_underlying ht,hv,DO,hst]
theorem Uw (b:Nat) {t:TypeId}:∀(vs:List Value) (o:Nat) (w:World) (cur:Array Value),w.heap[b]?=some (.cells cur t (0,0))->o+vs.length<=cur.size->
  ∃cur',(w.setCells b o vs).heap[b]?=some (.cells cur' t (0,0))/\cur'.size=cur.size
 | [],o,w,cur,h,_=>⟨cur,h,rfl⟩
 | v::r,o,w,cur,h,hl=>by
  have h1:(w.setCell ⟨b,o,none⟩ v).heap[b]?=some (.cells (cur.setIfInBounds o v) t (0,0)):=by
   obtain⟨hlt,hk⟩:=Ag.1 h;show (w.heap.modify b _)[b]?=_;rw[Array.getElem?_eq_getElem (by rw[Array.size_modify];exact hlt),Array.getElem_modify_self,hk]
   simp
  obtain⟨cur',e1,e2⟩:=Uw b r (o+1) _ _ h1 (by simp at hl ⊢;omega)
  exact⟨cur',e1,by rw[e2];simp⟩
theorem Zdn (g n cp k:Nat) (cur:Array Value) (xs:List Lot) (w:World) (hn:xs.length=n) (hk:k<n) (hcap:n<=cp) (hH:w.heap[g]?=some (.cells cur 130 (0,0))) (hsz:n*7<=cur.size) (ht:cur.toList.take (n*7)=Yg xs) :
  Calls prog 214 #[.slice (some ⟨g,0,none⟩) n cp,Zi (k:Int),Zi ((k:Int)+1)] w fun e w'=>e=.returned (.slice (some ⟨g,0,none⟩) (n-1) cp)/\YK w' g (xs.eraseIdx k)/\Zz (fun b=>b=g) w w':=by
 have hlt:=(Ag.1 hH).1;have hcell:∀j,j<cur.size->w.cell? ⟨g,j,none⟩=cur[j]?:=fun j _=>Zk hH j
 have hrow:∀j,j<n*7->w.cell? ⟨g,j,none⟩=(Yg xs)[j]?:=fun j hj=>by
  rw[hcell j (by omega),<-ht,List.getElem?_take,if_pos hj,Array.getElem?_toList]
 have hfr:∀j,w.frozen? ⟨g,j,none⟩=false:=fun j=>Zt hH j
 obtain⟨i0,e0,e1,e2,e3⟩:=info_parts U0;obtain⟨news,hnews⟩:∃news,news=(Yg xs).drop ((k+1)*7):=⟨_,rfl⟩
 have hlen:news.length=(n-(k+1))*7:=by rw[hnews,List.length_drop,Vs,hn,Nat.sub_mul]
 obtain⟨A,hA,hsrc⟩:∃A:Addr,(if cp=k+1 then (some ⟨g,0,none⟩:Option Addr) else some ⟨g,(k+1)*7,none⟩)=some A/\Hid (∀t u,news[t]?=some u->w.drew.cell? (A.add t)=some u):=by
  by_cases h:cp=k+1
  ·refine⟨⟨g,0,none⟩,by rw[if_pos h],fun t u hu=>?_⟩
   have h0:news.length=0:=by
    rw[hlen];have:n-(k+1)=0:=by omega
    rw[this,Nat.zero_mul]
   rw[List.length_eq_zero_iff.1 h0] at hu;simp at hu
  ·refine⟨⟨g,(k+1)*7,none⟩,by rw[if_neg h],fun t u hu=>?_⟩
   have htl:=(Lg.1 hu).1;rw[Lib.add_plain];show w.cell? _=_;rw[hrow _ (by rw[hlen,Nat.sub_mul] at htl;omega),<-hu,hnews,List.getElem?_drop]
 have s2:Hid (∀u∈news,u.oneCell'=true):=fun u hu=>by
  rw[hnews] at hu;exact V3 xs u (List.mem_of_mem_drop hu)
 have s3:Hid (∀t,t<news.length->(w.drew.cell? ⟨g,0+k*7+t,none⟩).isSome=true/\w.drew.frozen? ⟨g,0+k*7+t,none⟩=false):=fun t ht2=>by
  rw[hlen,Nat.sub_mul] at ht2;refine⟨?_,hfr _⟩;show (w.cell? _).isSome=true;rw[hcell _ (by omega),Array.getElem?_eq_getElem (by omega)];rfl
 obtain⟨W1,hW1⟩:∃W1,W1=w.drew.setCells g (0+k*7) news:=⟨_,rfl⟩
 have hH0:w.drew.heap[g]?=some (.cells cur 130 (0,0)):=hH;obtain⟨cur1,hH1,hs1⟩:=Uw g news (0+k*7) w.drew cur hH0 (by rw[hlen,Nat.sub_mul];omega)
 rw[<-hW1] at hH1;have hz:∀w,(zeroValue 130).run prog w=.ok (Value.agg #[Zj,Zj,Zi 0,Zi 0,Zj,Zj,Zj]) w:=zeroValue130
 have hcl:∀ty,(Builtin.clear_ #[44] ty #[.slice (some ⟨g,(n-1)*7,none⟩) 1 (cp-(n-1))]).run prog W1=.ok (.tuple #[]) (W1.setCells g ((n-1)*7) (Value.agg #[Zj,Zj,Zi 0,Zi 0,Zj,Zj,Zj]).cells.toList):=
  fun ty=>Nr W1 _ _ ty _ underlying44 hz (by decide) g _ _ (fun j hj=>by
   have hj:j<7:=hj
   rw[Zk hH1,Array.getElem?_eq_getElem (by rw[hs1];omega)];rfl) (fun j _=>Zt hH1 _)
 obtain⟨W2,hW2⟩:∃W2,W2=W1.setCells g ((n-1)*7) (Value.agg #[Zj,Zj,Zi 0,Zi 0,Zj,Zj,Zj]).cells.toList:=⟨_,rfl⟩
 have hlE:(xs.eraseIdx k).length=n-1:=by rw[List.length_eraseIdx_of_lt (by omega),hn]
 obtain⟨cur2,hH2,hs2⟩:=Uw g (Value.agg #[Zj,Zj,Zi 0,Zi 0,Zj,Zj,Zj]).cells.toList ((n-1)*7) W1 cur1 hH1 (by show (n-1)*7+7<=_;rw[hs1];omega)
 rw[<-hW2] at hH2;have key:∀i x,(xs.eraseIdx k)[i]?=some x->∀r,r<7->W2.cell? ⟨g,i*7+r,none⟩=(lcs x)[r]?:=by
  intro i x hx r hr;have hil:=(Lg.1 hx).1;rw[hlE] at hil;rw[hW2,World.cell?_setCells_out g _ _ _ _ (fun _ _=>.inl (by show i*7+r<_;omega))]
  rw[hW1]
  by_cases hik:i<k
  ·rw[World.cell?_setCells_out g _ _ _ _ (fun _ _=>.inl (by show i*7+r<_;omega))]
   show w.cell? _=_;rw[List.getElem?_eraseIdx_of_lt hik] at hx;rw[hrow _ (by omega),VC hx r hr]
  ·rw[List.getElem?_eraseIdx_of_ge (by omega)] at hx
   obtain⟨t,rfl⟩:∃t,i=k+t:=⟨i-k,by omega⟩
   have e5:(k+t)*7+r=0+k*7+(t*7+r):=by omega
   have hj:t*7+r<news.length:=by rw[hlen,Nat.sub_mul];omega
   rw[e5,World.cell?_setCells_in g news _ _ (fun j hj=>(s3.out j hj).1) _ hj,<-List.getElem?_eq_getElem hj,hnews,List.getElem?_drop,show (k+1)*7+(t*7+r)=(k+t+1)*7+r by omega,VC hx r hr]
 have hend:YK W2 g (xs.eraseIdx k)/\Zz (fun b=>b=g) w W2:=by
  constructor
  ·refine⟨cur2,hH2,?_,by rw[hlE];omega⟩
   apply List.ext_getElem?;intro j;rw[List.getElem?_take]
   by_cases hj:j<(xs.eraseIdx k).length*7
   ·rw[if_pos hj,Array.getElem?_toList,<-Zk hH2 j];obtain⟨i,r,rfl,hr⟩:∃i r,j=i*7+r/\r<7:=⟨j / 7,j % 7,by omega,by omega⟩
    have hi:i<(xs.eraseIdx k).length:=by omega
    have hx:=List.getElem?_eq_getElem hi;rw[key i _ hx r hr,VC hx r hr]
   ·rw[if_neg hj,List.getElem?_eq_none (by rw[Vs];omega)]
  ·have h0:Zz (fun b=>b=g) w w.drew:=⟨rfl,rfl,rfl,Nl _,fun _ _ _=>rfl⟩
   rw[hW2,hW1];exact (h0.trans (ZM (X:=fun b=>b=g) rfl _ _ _)).trans (ZM (X:=fun b=>b=g) rfl _ _ _)
 clear key hH2 hs2 hlE;have HE:=Lh hend;have s1:Hid (news.length=(n-(k+1))*7):=hlen;have hW:Hid (W1=w.drew.setCells g (0+k*7) news):=hW1;have hX:Hid (W2=W1.setCells g ((n-1)*7) (Value.agg #[Zj,Zj,Zi 0,Zi 0,Zj,Zj,Zj]).cells.toList):=hW2;simp only[<-hX.out] at hcl;have HK:Hid (k+(n-(k+1))=n-1):=by show _=_;omega
 have hcl2:∀ty,(Builtin.clear_ #[44] ty #[.slice (some ⟨g,(k+(n-(k+1)))*7,none⟩) (n-(k+(n-(k+1)))) (cp-(k+(n-(k+1))))]).run prog W1=.ok (.tuple #[]) W2:=fun ty=>by rw[HK.out,show n-(n-1)=1 by omega];exact hcl ty
 clear hcl;have hic:k<=cp:=by omega
 have hk0:(0:Int)<=(k:Int)+1:=by omega
 have hkn:(k:Int)+1<=(n:Int):=by omega
 have mixed:prog.follows .mixedOrders=true:=by kernel_rfl
 have hjc:k+1<=cp:=by omega
 clear hend hW1 hW2 hH1 hH hH0 hs1 hcell hrow hfr hnews hlen hz ht hsz hlt hn;go_enter func214,ntmps214;go_wp2_with fail
 go_region_law_o (refine step_append_room rfl (.tmp 22) (.tmp 25) 44 rfl 130 i0 7 underlying44 e0 e2 g 0 k cp (by simp[Act.eval,Act.put]) A (n-(k+1)) (cp-(k+1)) news (by simp[Act.eval,Act.put]) s1.out hsrc.out s2.out (by omega) s3.out ?_;rw[<-hW.out])
 go_wp2;go_ret;exact⟨by rw[HK.out];rfl,HE.out⟩
def Y9 (w:World) (B:Nat) (v:Value) (xs:List Lot):Prop:=w.ownsRow B 130 7 v xs.length (Yg xs)
section
variable {w w':World} {B b i:Nat} {u v v':Value} {xs:List Lot}
theorem Y9.below (h:Y9 w B v xs) (hb:Below w.heap.size w w'):Y9 w' B v xs:=by
 refine⟨h.1,?_⟩;rcases h.2 with h2|⟨g,cap,cur,e,hB,hg,r⟩
 ·exact .inl h2
 ·exact .inr ⟨g,cap,cur,e,hB,(hb.block g (Ag.1 hg).1).trans hg,r⟩
theorem Y9.keepX {X:Nat->Prop} (h:Y9 w B v xs) (hb:Zz X w w') (hx:∀g,v.ownBlock=some g->¬X g):Y9 w' B v xs:=by
 refine⟨h.1,?_⟩;rcases h.2 with h2|⟨g,cap,cur,e,hB,hg,r⟩
 ·exact .inl h2
 ·exact .inr ⟨g,cap,cur,e,hB,(hb.block g (Ag.1 hg).1 (hx g (by rw[e];rfl))).trans hg,r⟩
theorem Y9.block (h:Y9 w B v xs):∀g,v.ownBlock=some g->B<=g/\g<w.heap.size:=World.ownsRow.lt h
theorem Y9.form (h:Y9 w B v xs):∃A c,v=.slice A xs.length c:=by
 rcases h.2 with ⟨e,hn⟩|⟨g,cap,cur,e,-⟩
 ·exact⟨none,0,by rw[e,hn]⟩
 ·exact⟨_,_,e⟩
theorem Y9.formN {n:Nat} (h:Y9 w B v xs) (hn:xs.length=n):∃A c,v=.slice A n c:=by rw[<-hn];exact h.form
theorem Y9.row (h:Y9 w B v xs) (h0:0<xs.length):∃g c,v=.slice (some ⟨g,0,none⟩) xs.length c/\B<=g/\xs.length<=c/\YK w g xs:=by
 rcases h.2 with ⟨hv,h1⟩|⟨g,cap,cur,hv,hb,hh,hcap,_,hsz,htk⟩
 ·omega
 ·exact⟨g,cap,hv,hb,hcap,cur,hh,htk,by rw[hsz];exact Nat.mul_le_mul_right 7 hcap⟩
theorem Y9.lotAt (h:Y9 w B v xs) {A:Option Addr} {n c:Nat} (e:v=.slice A n c):Y7 w A xs:=by
 by_cases h0:0<xs.length
 ·obtain⟨g,c',e2,-,-,hp⟩:=h.row h0;rw[e] at e2;injection e2 with e2
  subst e2;exact hp.lotAt
 ·have:xs=[]:=List.eq_nil_of_length_eq_zero (by omega)
  subst this;exact fun i x hx=>by simp at hx
end
theorem DR (w:World) (B:Nat):Y9 w B (.slice none 0 0) []:=World.ownsRow_nil w B _ 7
theorem Y9.app {w:World} {B n:Nat} {v:Value} {xs:List Lot} {x:Lot} (h:w.ownsRow B 130 7 v (n+1) (Yg xs++lcs x)) (hn:xs.length=n):Y9 w B v (xs++[x]):=by
 unfold Y9;rw[List.length_append,List.length_singleton,hn,NG];exact h
theorem TO {α:Type} {xs:List α} {k n:Nat} (hn:xs.length=n) (hk:k<n):(xs.eraseIdx k).length=n-1:=by rw[List.length_eraseIdx_of_lt (by omega),hn]
theorem J3 (A:Option Addr) (ps:List Lot) (n c:Nat) (w:World) (hn:ps.length=n) (h0:0<n) (hn2:n<=1000000) (h:Y7 w A ps) :
  Calls prog 58 #[.slice A n c] w fun e w'=>∃v,e=.returned v/\Y9 w' w.heap.size v ps/\Below w.heap.size w w':=by
 obtain⟨x0,hx0⟩:∃x,ps[0]?=some x:=⟨_,List.getElem?_eq_getElem (by omega)⟩
 obtain⟨b,o,rfl,hbs,-⟩:=h 0 x0 hx0;obtain⟨i0,e0,e1,e2,e3⟩:=info_parts U0;refine (AnyE.slices_Clone Tryz.cloneLt i0 _ 7 96 e0 e1 e2 e3 rfl (by decide) sizeOf130 b o n c (Yg ps) w (by rw[Vs,hn]) (by unfold maxLen;omega) (by omega) (fun j u hu=>?_) (V3 ps)).mono ?_
 ·obtain⟨x,h1,h2⟩:=Qx hu;obtain⟨b',o',hA,-,hc⟩:=h (j / 7) x h1;cases hA;have hlt:j % 7<7:=Nat.mod_lt _ (by decide)
  have ej:o+j=o+j / 7*7+j % 7:=by omega
  rw[ej];generalize j % 7=m at *
  match m,hlt with
  | 0,_=>cases h2;exact hc.c0
  | 1,_=>cases h2;exact hc.c1
  | 2,_=>cases h2;exact hc.c2
  | 3,_=>cases h2;exact hc.c3
  | 4,_=>cases h2;exact hc.c4
  | 5,_=>cases h2;exact hc.c5
  | 6,_=>cases h2;exact hc.c6
 ·rintro e w' ⟨v,rfl,hown,-,hb⟩;have hown':w'.ownsRow w.heap.size 130 7 v n (Yg ps):=hown;subst hn;exact⟨v,rfl,hown',hb⟩
structure Zae (xs:List Lot) (ps:List Pk) (k:Nat) (s:List Lot×List Lot):Prop where
 ok:Q7 s.1 (ps.drop k)
 old:∀p∈ps.drop k,∀y∈s.1,y.id=p.lot->y∈xs
 len:s.1.length<=xs.length
 tak:s.2.length=k
theorem J4 {xs:List Lot} {ps:List Pk} (h:Q7 xs ps):Zae xs ps 0 (xs,[]):=⟨h,fun _ _ _ hy _=>hy,Nl _,rfl⟩
theorem drop_at {α:Type} {ps:List α} {k:Nat} {p:α} (h:ps[k]?=some p):ps.drop k=p::ps.drop (k+1):=by
 obtain⟨hk,rfl⟩:=Lg.1 h;exact List.drop_eq_getElem_cons hk
theorem Fp {xs:List Lot} {ps:List Pk} {k:Nat} {s:List Lot×List Lot} {p:Pk} (h:Zae xs ps k s) (hp:ps[k]?=some p):Zae xs ps (k+1) (stepT s p)/\Z8 s (ps.drop k)=Z8 (stepT s p) (ps.drop (k+1)):=by
 have hok:=h.ok;have hold:=h.old;rw[drop_at hp] at hok hold;obtain⟨h1,h2,-,-,-,h6⟩:=LO (xs:=s.1) (t:=s.2) hok;have hnd:=hok.pnd;rw[List.map_cons,List.nodup_cons] at hnd;refine⟨⟨h1,fun r hr y hy e=>hold r (List.mem_cons_of_mem _ hr) y (h6 y hy (fun e2=>hnd.1 (List.mem_map.2 ⟨r,hr,e ▸ e2⟩))) e,Nt h2.len h.len,?_⟩,by rw[drop_at hp];rfl⟩
 have h3:=congrArg List.length h2.qs;simp only[List.length_map,List.length_append,List.length_cons,List.length_nil] at h3
 have:=h.tak
 show (stepT (s.1,s.2) p).2.length=_;omega
theorem V9 (w1:World) (a b:Obj):((w1.alloc a).alloc b).heap[w1.heap.size]?=some a/\((w1.alloc a).alloc b).heap[w1.heap.size+1]?=some b/\Below w1.heap.size w1 ((w1.alloc a).alloc b)/\((w1.alloc a).alloc b).heap.size=w1.heap.size+2:=by
 have h1:=ZJ w1 a;have h2:=ZJ (w1.alloc a) b;have hb1:=Zh w1 a;have hb2:=Zh (w1.alloc a) b;have e:(w1.alloc a).heap.size=w1.heap.size+1:=by simp
 rw[e] at h2;exact⟨Zv h1 hb2,h2,bto hb1 hb2,by simp⟩
structure T8 (w:World) (B g cp:Nat) (s:List Lot×List Lot) (v:Value) (W:World):Prop where
 below:Below w.heap.size w W
 lo:w.heap.size<=g
 gb:g<B
 le:B<=W.heap.size
 row:YK W g s.1
 cap:s.1.length<=cp
 tak:Y9 W B v s.2
theorem T8.go {w W W':World} {B g cp:Nat} {s:List Lot×List Lot} {v:Value} (h:T8 w B g cp s v W) (hb:Below W.heap.size W W'):T8 w B g cp s v W':=
 ⟨bto h.below hb,h.lo,h.gb,Nt h.le hb.size,h.row.below hb,h.cap,h.tak.below hb⟩
theorem T8.app {w W W':World} {B g cp n:Nat} {s:List Lot×List Lot} {v v':Value} {x:Lot} (h:T8 w B g cp s v W) (hn:s.2.length=n) (ho:W'.ownsRow B 130 7 v' (n+1) (Yg s.2++lcs x)) (hg:W.grownBy W' v.ownBlock):T8 w B g cp (s.1,s.2++[x]) v' W':=by
 have hov:∀k,v.ownBlock=some k->B<=k:=fun k hk=>(h.tak.block k hk).1
 have hgb:=h.gb;have hlo:=h.lo;refine⟨h.below.grown hg h.below.size (fun k hk=>by have:=hov k hk;omega),h.lo,h.gb,Nt h.le hg.size,?_,h.cap,Y9.app ho hn⟩
 obtain⟨cur,hc,hr⟩:=h.row;exact⟨cur,(hg.block g (Ag.1 hc).1 (fun e=>by have:=hov g e.symm;omega)).trans hc,hr⟩
theorem T8.turn {w W W':World} {B g cp:Nat} {s:List Lot×List Lot} {l:List Lot} {v:Value} (h:T8 w B g cp s v W) (hx:Zz (fun b=>b=g) W W') (hr:YK W' g l) (hl:l.length<=s.1.length):T8 w B g cp (l,s.2) v W':=by
 have hgb:=h.gb;have hlo:=h.lo;refine⟨⟨hx.os.trans h.below.os,hx.tape.trans h.below.tape,hx.output.trans h.below.output,Nt h.below.size hx.size,fun k hk=>?_⟩,h.lo,h.gb,Nt h.le hx.size,hr,Nt hl h.cap,h.tak.keepX hx (fun k hk e=>by have:=(h.tak.block k hk).1;omega)⟩
 have:=h.below.size
 exact (hx.block k (by omega) (by omega)).trans (h.below.block k hk)
theorem ZcD {w:World} {A Ap:Option Addr} {xs:List Lot} {ps:List Pk} {n np:Nat} (c cp:Nat) (hG:GE w) (hL:Yk w A xs n) (hn0:0<n) (hV:Xs xs=0) (hP:XI w Ap ps) (hpn:ps.length=np) (hpc:np<=cp) (hpn2:np<=100000) (hps:∀p∈ps,p.lot.length<=1000/\p.q.length<=1000) (hQ:Xt xs [] ps=0) (hok:Q7 xs ps) :
  Calls prog 168 #[.slice A n c,.slice Ap np cp] w fun e w'=>∃g cr v B,e=.returned (.tuple #[.slice (some ⟨g,0,none⟩) (Z8 (xs,[]) ps).1.length cr,v,Zi 0])/\T8 w B g cr (Z8 (xs,[]) ps) v w':=by
 obtain⟨Z,hZ⟩:∃Z,Z=Z8 (xs,[]) ps:=⟨_,rfl⟩
 rw[<-hZ];have HZ:Hid (Z=Z8 (xs,[]) (ps.drop 0)):=hZ;clear hZ;have hn2:=hL.big;have hvs:∀x∈xs,UJ x=0:=by
  unfold Xs at hV
  by_cases h1:1000<xs.length
  ·rw[if_pos h1] at hV;exact absurd hV (by decide)
  ·rw[if_neg h1] at hV;exact (OE _ _ hV).1
 have K1:=Lh (V2 c hG hL);rw[hV] at K1;have HL:=Lh hL;have HP:=Lh hP;have HPS:=Lh hps;have HVS:=Lh hvs;have hp1:ps.length<=np:=by omega
 have hp2:np<=ps.length:=by omega
 have HI:=Lh (J4 hok);have HG:=Lh hG;have HPN:=Lh hpn;have HQ:=Lh hQ;clear hL hP hps hV hvs hok hQ hpn;go_enter func168,ntmps168;go_wp2_with fail
 refine K1.out.mono ?_
 rintro e w1 ⟨rfl,hb1⟩;clear K1;have K2:=Lh (NS (w:=w1) c cp (hG.below hb1) (HL.out.below hb1) (HP.out.below hb1) HPN.out hpc hpn2 (fun p hp=>⟨(HPS.out p hp).1,by have:=(HPS.out p hp).2;omega⟩))
 rw[HQ.out] at K2;go_wp2_with fail
 refine K2.out.mono ?_
 rintro e w2 ⟨rfl,hb2⟩;replace hb2:=bto hb1 hb2;clear K2 hb1;have K3:=Lh (J3 A xs n c w2 HL.out.len hn0 (by omega) ((HL.out.below hb2).mem))
 go_wp2_with fail
 refine K3.out.mono ?_
 rintro e w3 ⟨v0,rfl,hrow,hb3⟩;clear K3;obtain⟨g,cr,rfl,hgB,hgc,hlr⟩:=hrow.row (by rw[HL.out.len];exact hn0)
 obtain⟨B,hB⟩:∃B,B=w3.heap.size:=⟨_,rfl⟩
 have hb23:=bto hb2 hb3;have HC:Hid (T8 w B g cr (xs,[]) (.slice none 0 0) w3):=⟨hb23,Nt hb2.size hgB,by rw[hB];exact hlr.lt,by rw[hB];exact Nl _,hlr,hgc,DR _ _⟩
 clear hrow hb2 hb3 hb23 hlr hgB hgc hB;go_wp2_with fail
 go_loopw [8,9,11,12,13,14,15,16,17,31,35,60] (fun rv tv _ _ _ _ _ _ _ iv _ _ wr=>∃(k:Nat) (s:List Lot×List Lot) (v:Value),k<=np/\v=tv/\iv=Zi (k:Int)/\rv=.slice (some ⟨g,0,none⟩) s.1.length cr/\Hid (T8 w B g cr s v wr)/\Hid (Zae xs ps k s)/\Hid (Z=Z8 s (ps.drop k))) (fun _ _ _ _ _ _ _ _ _ iv _ _ _=>np-(intOf iv).toNat)
 case atStart=>exact⟨0,(xs,[]),_,Nat.zero_le _,rfl,rfl,rfl,HC.out,HI.out,HZ.out⟩
 case round=>
  clear HC HI HZ;obtain⟨k,s,v,hk,rfl,rfl,rfl,HC,HI,HZ⟩:=hrel
  by_cases hlk:k<np
  rotate_left
  ·have HQ:Hid (Z=s):=by
    have h:=HZ.out;rw[List.drop_of_length_le (by omega)] at h
    exact h
   have e1:decide (k<np)=false:=Df hlk;have e2:decide ((k:Int)<(np:Int))=false:=Df (by omega)
   have hfin:=HC.out;rw[<-HQ.out] at hfin;have HF:=Lh hfin;rw[<-HQ.out];clear HZ HC HI hfin;go_wp2;refine bodyPost_ret (v:=.tuple #[.slice (some ⟨g,0,none⟩) Z.1.length cr,v,Zi 0]) (by simp[results,results168,go_sem]) rfl ?_
   exact⟨g,cr,_,B,rfl,HF.out⟩
  have e1:decide (k<np)=true:=Dt hlk;have e2:decide ((k:Int)<(np:Int))=true:=Dt (by omega)
  obtain⟨p,hp⟩:∃p,ps[k]?=some p:=⟨_,List.getElem?_eq_getElem (by have:=HPN.out;omega)⟩
  have hpz:=HPS.out p (Lm hp);have hsl:=HI.out.len;have hst:=HI.out.tak;have hLn:=HL.out.len;have hok:=HI.out.ok;have hold:=HI.out.old;obtain⟨hI2,hZ2⟩:=Fp HI.out hp;have HI2:=Lh hI2;have HZ2:=Lh (HZ.out.trans hZ2);rw[drop_at hp] at hok hold;obtain⟨i,x,hzi,hxi,hxid,hxq,hle,hes⟩:=LN (xs:=s.1) (t:=s.2) (hok.all p List.mem_cons_self) hok.nd;have hpk:=hok.all p List.mem_cons_self;have hpc2:=hpk.can;have hpp:=hpk.pos;have hxin:=hold p List.mem_cons_self x (Lm hxi) hxid;have hxs:=HL.out.sm x hxin;have hxe:=HVS.out x hxin;have hiN:i<s.1.length:=DC hxi;have HES:Hid (stepT s p=if x.q=p.q then (s.1.eraseIdx i,s.2++[x]) else (s.1.set i (WT x p.q),s.2++[Vk x p.q])):=hes
  obtain⟨m,hm⟩:∃m,m=s.1.length:=⟨_,rfl⟩
  rw[<-hm] at hiN hsl ⊢;have hmc:m<=cr:=by rw[hm];exact HC.out.cap
  obtain⟨bp,op,rfl,hbps,p0,p1⟩:=(HP.out.below HC.out.below) k p hp;have hbA:=Zh wr (.cells #[Zg p.lot,Zg p.q] 195);have X1:=Lh (Blk.new wr #[Zg p.lot,Zg p.q] 195);have q0:=X1.out.c 0;replace HC:=Lh (HC.out.go hbA);have KF:=Lh (Ds cr p.lot hm.symm (by omega) HC.out.row.lotAt)
  have hpos:Fc (Z0 (isLt p.lot) s.1 0)=(i:Int):=by rw[hzi];exact if_pos (by omega)
  have hdec:decide (0<=Z0 (isLt p.lot) s.1 0)=true:=Dt (by rw[hzi];omega)
  rw[hpos,hdec] at KF;have HXI:=Lh hxi;have HXQ:=Lh hxq;have HPC:=Lh hpc2;have HXE:=Lh hxe;have HHL:=Lh hle;have HPP:=Lh hpp;clear hxq hpc2 hxid hxe hle hpp;obtain⟨bx,hbx⟩:∃bx,bx=wr.heap.size:=⟨_,rfl⟩
  rw[<-hbx] at X1 q0;have HBX:=Lh hbx;have HM:=Lh hm;have hkc:(k:Int)<=(cp:Int):=by omega
  clear hp hbA HZ HI hI2 hZ2 hok hold hzi hxi hes hpk hxin hbx hm hpos hdec hbps;go_wp2_with fail;rw[<-HBX.out]
  refine KF.out.mono ?_
  rintro e w4 ⟨rfl,hb4⟩;clear p0 p1 q0 KF e1 e2;replace X1:=Lh (X1.out.below hb4);replace HC:=Lh (HC.out.go hb4);clear hb4;have hcells:=HC.out.row.cells HXI.out;have p0:=hcells.c0;have p1:=hcells.c1;have p2:=hcells.c2;have p3:=hcells.c3;have p4:=hcells.c4;have p5:=hcells.c5;have p6:=hcells.c6;have hbA:=Zh w4 (.cells (Zn x) 130);have Y1:=Lh (Yq.new w4 x 130);obtain⟨by0,hby⟩:∃b,b=w4.heap.size:=⟨_,rfl⟩
  rw[<-hby] at Y1;have HBY:=Lh hby;have q0:=Y1.out.c0;have q1:=Y1.out.c1;have q2:=Y1.out.c2;have q3:=Y1.out.c3;have q4:=Y1.out.c4;have q5:=Y1.out.c5;have q6:=Y1.out.c6;have r1:=(X1.out.below hbA).c 1;have HC2:=Lh (HC.out.go hbA);have HCZ:Hid (B<=w4.heap.size):=HC.out.le;have X2:=Lh (X1.out.below hbA);clear hcells hby;obtain⟨i0,hi,hz0,hz1,hz2⟩:=info_parts U0;have hmb:m<=100000:=by omega
  have hkb:k<100000:=by omega
  have HOW:Hid ((w4.alloc (.cells (Zn x) 130)).ownsRow B 130 7 v k (Yg s.2)):=by
   have h:=HC2.out.tak;unfold Y9 at h;rw[hst] at h;exact h
  have HST:=Lh hst
  by_cases g1:x.q=p.q
  ·have t1:(x.q==p.q)=true:=by rw[g1];simp
   have HE1:Hid (stepT s p=(s.1.eraseIdx i,s.2++[x])):=HES.out.trans (if_pos g1);have hbq:=Zh (w4.alloc (.cells (Zn x) 130)) (.cells (Zn x) 130);have HAN:Hid (((w4.alloc (.cells (Zn x) 130)).alloc (.cells (Zn x) 130)).heap[w4.heap.size+1]?=some (.cells (Zn x) 130)):=by
    have h:=ZJ (w4.alloc (.cells (Zn x) 130)) (.cells (Zn x) 130);rw[show (w4.alloc (.cells (Zn x) 130)).heap.size=w4.heap.size+1 by simp] at h
    exact h
   have HAZ:Hid (((w4.alloc (.cells (Zn x) 130)).alloc (.cells (Zn x) 130)).heap.size=w4.heap.size+2):=by show _=_;simp
   clear g1 HES HC hbA hsl hLn hst;go_wp2_with (at_builtin;refine ZW rfl _ _ 44 rfl B 130 i0 (.agg #[Zj,Zj,Zi 0,Zi 0,Zj,Zj,Zj]) 7 96 underlying44 hi hz0 hz1 hz2 rfl (by decide) _ _ _ rfl (Yt HOW.out hbq) ⟨w4.heap.size+1,0,none⟩ 1 1 (lcs x) rfl rfl ?c1 ?c2 ?c3 ?c4 ?c5 ?_)
   case c1=>
    intro j u hu;have hj:j<7:=YG hu
    match j,hj with
    | 0,_=>cases hu;exact Zk HAN.out 0
    | 1,_=>cases hu;exact Zk HAN.out 1
    | 2,_=>cases hu;exact Zk HAN.out 2
    | 3,_=>cases hu;exact Zk HAN.out 3
    | 4,_=>cases hu;exact Zk HAN.out 4
    | 5,_=>cases hu;exact Zk HAN.out 5
    | 6,_=>cases hu;exact Zk HAN.out 6
   case c2=>exact fun u hu=>V3 [x] u (by rw[Xz];exact hu)
   case c3=>unfold maxLen;omega
   case c4=>omega
   case c5=>exact Nt HCZ.out (Nt (Nat.le_add_right _ _) (Nat.le_of_eq HAZ.out.symm))
   intro v' w5 hown' hgrow hfresh;have HC3:=Lh ((HC2.out.go hbq).app HST.out hown' hgrow);obtain⟨cur,hcur,hct,hcs⟩:=HC3.out.row;rw[<-HM.out] at hct hcs;have KD:=Lh (Zdn g m cr i cur s.1 w5 HM.out.symm hiN hmc hcur hcs hct);clear hown' hgrow hfresh hcur hct hcs HC2 HOW hbq p0 p1 p2 p3 p4 p5 p6 q0 q1 q2 q3 q4 q5 q6 r1 t1 hi hz0 hz1 hz2;go_wp2_with fail
   refine KD.out.mono ?_
   rintro e w6 ⟨rfl,hlr,hbx⟩;have HC4:Hid (T8 w B g cr (stepT s p) v' w6):=by
    rw[HE1.out];exact HC3.out.turn hbx hlr (by show (s.1.eraseIdx i).length<=s.1.length;rw[TO HM.out.symm hiN,<-HM.out];omega)
   have hsz:m-1=(stepT s p).1.length:=by rw[HE1.out];exact (TO HM.out.symm hiN).symm
   have HSZ:Hid (∀z,Value.slice (some ⟨g,0,none⟩) (m-1) z=.slice (some ⟨g,0,none⟩) (stepT s p).1.length z):=fun z=>by rw[hsz]
   clear hlr hbx KD HC3 hsz;go_wp2;go_roundw
   case rel=>exact⟨k+1,stepT s p,v',by omega,rfl,by go_num,HSZ.out _,HC4.out,HI2.out,HZ2.out⟩
   case measure=>simp[intOf];omega
  ·have t1:(x.q==p.q)=false:=by simp[g1]
   have HE1:Hid (stepT s p=(s.1.set i (WT x p.q),s.2++[Vk x p.q])):=HES.out.trans (if_neg g1);have hlt:val p.q<val x.q:=by
    rcases Int.lt_or_le (val p.q) (val x.q) with h1|h1
    ·exact h1
    ·exfalso
     have h2:=HHL.out;apply g1;rw[HXQ.out,HPC.out];congr 1;omega
   have KC:=Lh (Zdm hxs HXE.out (q:=p.q) hpz.2 HPC.out HPP.out hlt);obtain⟨xa,hxa⟩:∃xa,xa=Vk x p.q:=⟨_,rfl⟩
   obtain⟨xb,hxb⟩:∃xb,xb=WT x p.q:=⟨_,rfl⟩
   rw[<-hxa,<-hxb] at KC HE1;clear g1 HES HC hbA hlt hxa hxb hsl hLn hst;go_wp2_with fail
   refine (KC.out.of HG.out HC2.out.below).mono ?_
   rintro e w5 ⟨rfl,hb5⟩;clear p0 p1 p2 p3 p4 p5 p6 q0 q1 q2 q3 q4 q5 q6 r1 t1;replace HC2:=Lh (HC2.out.go hb5);replace HOW:=Lh (Yt HOW.out hb5);have hvb:∀b,v.ownBlock=some b->b<w5.heap.size:=fun b hb=>(HC2.out.tak.block b hb).2
   go_upto_region 17 with fail
   obtain⟨hA1,hA2,hA3,hA4⟩:=V9 w5 (.cells (Zn xa) 130) (.cells (Zn xb) 130);obtain⟨w7,hw7⟩:∃w7,w7=(w5.alloc (.cells (Zn xa) 130)).alloc (.cells (Zn xb) 130):=⟨_,rfl⟩
   rw[<-hw7] at hA1 hA2 hA3 hA4 ⊢;obtain⟨ba,hba⟩:∃ba,ba=w5.heap.size:=⟨_,rfl⟩
   rw[<-hba] at hA1 hA2 hA4 hvb ⊢;have q0:=Zk hA1 0;have q1:=Zk hA1 1;have q2:=Zk hA1 2;have q3:=Zk hA1 3;have q4:=Zk hA1 4;have q5:=Zk hA1 5;have q6:=Zk hA1 6;replace HC2:=Lh (HC2.out.go hA3);replace HOW:=Lh (Yt HOW.out hA3);replace HCZ:=Lh HC2.out.le;have hbq:=Zh w7 (.cells (Zn xa) 130);have HAN:=Lh (ZJ w7 (.cells (Zn xa) 130));have HAZ:Hid ((w7.alloc (.cells (Zn xa) 130)).heap.size=w7.heap.size+1):=by show _=_;simp
   have HB2:=Lh hA2;have HVB:=Lh hvb;have HA4:=Lh hA4;clear hw7 hba hA1 hA2 hA3 hA4 hvb hb5;go_wp2_with (at_builtin;refine ZW rfl _ _ 44 rfl B 130 i0 (.agg #[Zj,Zj,Zi 0,Zi 0,Zj,Zj,Zj]) 7 96 underlying44 hi hz0 hz1 hz2 rfl (by decide) _ _ _ rfl (Yt HOW.out hbq) ⟨w7.heap.size,0,none⟩ 1 1 (lcs xa) rfl rfl ?c1 ?c2 ?c3 ?c4 ?c5 ?_)
   case c1=>
    intro j u hu;have hj:j<7:=YG hu
    match j,hj with
    | 0,_=>cases hu;exact Zk HAN.out 0
    | 1,_=>cases hu;exact Zk HAN.out 1
    | 2,_=>cases hu;exact Zk HAN.out 2
    | 3,_=>cases hu;exact Zk HAN.out 3
    | 4,_=>cases hu;exact Zk HAN.out 4
    | 5,_=>cases hu;exact Zk HAN.out 5
    | 6,_=>cases hu;exact Zk HAN.out 6
   case c2=>exact fun u hu=>V3 [xa] u (by rw[Xz];exact hu)
   case c3=>unfold maxLen;omega
   case c4=>omega
   case c5=>exact Nt HCZ.out (Nt (Nat.le_add_right _ _) (Nat.le_of_eq HAZ.out.symm))
   intro v' w8 hown' hgrow hfresh;have HC3:=Lh ((HC2.out.go hbq).app HST.out hown' hgrow);have h16:w8.heap[ba+1]?=some (.cells (Zn xb) 130):=by
    have h1:=Zv HB2.out hbq;refine (hgrow.block (ba+1) (Ag.1 h1).1 (fun e=>?_)).trans h1
    have:=HVB.out _ e.symm
    omega
   have q0:=Zk h16 0;have q1:=Zk h16 1;have q2:=Zk h16 2;have q3:=Zk h16 3;have q4:=Zk h16 4;have q5:=Zk h16 5;have q6:=Zk h16 6;have hM2:=HM.out;have HTH:=Lh (HC3.out.row.there (i:=i) (by rw[<-hM2];exact hiN))
   have HIZ:=Lh YS;obtain⟨w9,hw9⟩:∃w9,w9=w8.setCells g (i*7) ((Zn xb)).toList:=⟨_,rfl⟩
   have HW9:=Lh hw9;have HC4:Hid (T8 w B g cr (stepT s p) v' w9):=by
    rw[HE1.out,hw9];exact HC3.out.turn (ZM (X:=fun b=>b=g) rfl _ _ _) (HC3.out.row.set xb (by rw[<-hM2];exact hiN)) (Nat.le_of_eq List.length_set)
   have hsz:m=(stepT s p).1.length:=by rw[HE1.out,hM2];exact List.length_set.symm
   have HSZ:Hid (∀z,Value.slice (some ⟨g,0,none⟩) m z=.slice (some ⟨g,0,none⟩) (stepT s p).1.length z):=fun z=>by rw[<-hsz]
   clear hown' hgrow hfresh HC2 HOW hbq h16 HC3 hw9 hsz hM2 hi hz0 hz1 hz2;go_wp2_with (refine wpList_store_mid rfl 130 (.tmp 75) (.tmp 74) rfl g (i*7) (Zn xb) rfl rfl HTH.out (by rw[HIZ.out];rfl) (Xj xb) ?_;rw[<-HW9.out])
   go_roundw
   case rel=>exact⟨k+1,stepT s p,v',by omega,rfl,by go_num,HSZ.out _,HC4.out,HI2.out,HZ2.out⟩
   case measure=>simp[intOf];omega
def LS (xs:List Lot) (ps:List Pk):Int:=if Xs xs=0 then Xt xs [] ps else 1
theorem DT {w:World} {A Ap:Option Addr} {xs:List Lot} {ps:List Pk} {n np:Nat} (c cp:Nat) (hG:GE w) (hL:Yk w A xs n) (hP:XI w Ap ps) (hpn:ps.length=np) (hpc:np<=cp) (hpn2:np<=100000) (hps:∀p∈ps,p.lot.length<=1000/\p.q.length<=1000) (hQ:LS xs ps≠0) :
  Calls prog 168 #[.slice A n c,.slice Ap np cp] w fun e w'=>e=.returned (.tuple #[.slice none 0 0,.slice none 0 0,Zi (LS xs ps)])/\Below w.heap.size w w':=by
 have K1:=Lh (V2 c hG hL);have HL:=Lh hL;have HP:=Lh hP;have HPS:=Lh hps;have HPN:=Lh hpn;obtain⟨E,hE⟩:∃E,E=Xs xs:=⟨_,rfl⟩
 obtain⟨Q,hQ2⟩:∃Q,Q=Xt xs [] ps:=⟨_,rfl⟩
 rw[<-hE] at K1
 by_cases g1:E=0
 rotate_left
 ·have e1:LS xs ps=1:=by unfold LS;rw[if_neg (by rw[<-hE];exact g1)]
  rw[e1];clear hL hP hps hpn hE hQ2 hQ e1 HPS HP HL;go_enter func168,ntmps168;go_wp2_with fail
  refine K1.out.mono ?_
  rintro e w1 ⟨rfl,hb1⟩;clear K1;go_wp2;refine bodyPost_ret (v:=.tuple #[.slice none 0 0,.slice none 0 0,Zi 1]) (by simp[results,results168,go_sem]) rfl ?_
  exact⟨rfl,hb1⟩
 have e1:LS xs ps=Q:=by unfold LS;rw[if_pos (by rw[<-hE];exact g1),hQ2]
 rw[e1] at hQ ⊢;have HQ2:=Lh hQ2;subst g1;clear hL hP hps hpn hE hQ2 e1;go_enter func168,ntmps168;go_wp2_with fail
 refine K1.out.mono ?_
 rintro e w1 ⟨rfl,hb1⟩;clear K1;have K2:=Lh (NS (w:=w1) c cp (hG.below hb1) (HL.out.below hb1) (HP.out.below hb1) HPN.out hpc hpn2 (fun p hp=>⟨(HPS.out p hp).1,by have:=(HPS.out p hp).2;omega⟩))
 rw[<-HQ2.out] at K2;go_wp2_with fail
 refine K2.out.mono ?_
 rintro e w2 ⟨rfl,hb2⟩;replace hb2:=bto hb1 hb2;clear K2 hb1;go_wp2;refine bodyPost_ret (v:=.tuple #[.slice none 0 0,.slice none 0 0,Zi Q]) (by simp[results,results168,go_sem]) rfl ?_
 exact⟨rfl,hb2⟩
def ofI (I:List UInt8) (xs:List Lot):List Lot:=xs.filter (fun x=>x.ins==I)
theorem ZbM {xs:List Lot} (hn:(xs.map (·.id)).Nodup) {x y:Lot} (hx:x∈xs) (hy:y∈xs) (e:x.id=y.id):x=y:=by
 obtain⟨i,hi⟩:=List.getElem?_of_mem hx;obtain⟨j,hj⟩:=List.getElem?_of_mem hy;obtain⟨hi1,-⟩:=Lg.1 hi;have h1:(xs.map (·.id))[i]?=some x.id:=by simp[hi]
 have h2:(xs.map (·.id))[j]?=some x.id:=by simp[hj,e]
 have:i=j:=(List.getElem?_inj (by simpa using hi1) hn).1 (h1.trans h2.symm)
 subst this;rw[hi] at hj;exact Option.some.inj hj
theorem Hh (f:Lot->Int) (I:List UInt8):∀ys:List Lot,(∀y∈ys,y.ins=I)->(ys.map (fun x=>if x.ins==I then f x else 0)).sum=(ys.map f).sum
 | [],_=>rfl
 | a::t,h=>by
  have ih:=Hh f I t (fun y hy=>h y (List.mem_cons_of_mem _ hy))
  have ha:(a.ins==I)=true:=by simpa using h a List.mem_cons_self
  rw[List.map_cons,List.map_cons,List.sum_cons,List.sum_cons,ih,if_pos ha]
theorem NW {xs:List Lot} {I:List UInt8} {Q:Int} {out:List Pk} {rem:List UInt8} (hn:(xs.map (·.id)).Nodup) (hc:∀x∈xs,x.q=canon (val x.q)) (hi:Yz (ofI I xs) Q (out,rem)) (hr:val rem=0) (hp:Xt xs [] out=0) :
  (((Z8 (xs,[]) out).2).map (fun x=>val x.q)).sum=Q/\
  ((ofI I (Z8 (xs,[]) out).1).map (fun x=>val x.q)).sum+(((Z8 (xs,[]) out).2).map (fun x=>val x.q)).sum=((ofI I xs).map (fun x=>val x.q)).sum/\
  ((ofI I (Z8 (xs,[]) out).1).map (fun x=>val x.cost)).sum+(((Z8 (xs,[]) out).2).map (fun x=>val x.cost)).sum=((ofI I xs).map (fun x=>val x.cost)).sum/\
  (Z8 (xs,[]) out).2.length=out.length/\(Z8 (xs,[]) out).2.map (·.q)=out.map (·.q)/\(∀y∈(Z8 (xs,[]) out).2,y.ins=I):=by
 obtain⟨a1,a2,-⟩:=OR hc out [] hp;obtain⟨r,h2,h3⟩:=SQ out xs [] ⟨hn,a1,a2⟩;have hs:=hi.sum;have hsum:Xb out=Q:=by
  have:Xb out+val rem=Q:=hs
  omega
 have hins:∀y∈(Z8 (xs,[]) out).2,y.ins=I:=fun y hy=>by
  rcases h2 y hy with hy|⟨p,hpm,x,hx,hid,hyx⟩
  ·cases hy
  ·obtain⟨z,hz,hzid⟩:=hi.mem p hpm;have hzx:=List.mem_filter.1 hz
   have:x=z:=ZbM hn hx hzx.1 (hid.trans hzid.symm)
   subst this;have hI:x.ins=I:=by simpa using hzx.2
   rcases hyx with rfl|⟨-,-,rfl⟩
   ·exact hI
   ·exact hI
 have hqs:=r.qs;simp only[List.map_nil,List.nil_append] at hqs;have hQ:(((Z8 (xs,[]) out).2).map (fun x=>val x.q)).sum=Q:=by
  have:((Z8 (xs,[]) out).2).map (fun x=>val x.q)=(((Z8 (xs,[]) out).2).map (·.q)).map val:=by rw[List.map_map];rfl
  rw[this,hqs,<-hsum];unfold Xb;rw[List.map_map];rfl
 have g1:=r.sum _ (Hb (fun x=>val x.q) Zcv I)
 have g2:=r.sum _ (Hb (fun x=>val x.cost) Zcw I)
 rw[Hh _ I _ hins] at g1 g2;simp only[List.map_nil,List.sum_nil,Int.add_zero] at g1 g2;rw[<-T6,<-T6] at g1 g2;refine⟨hQ,g1,g2,?_,hqs,hins⟩
 have:=congrArg List.length hqs
 simpa using this
def ZZ (I:List UInt8):List Lot->List (List UInt8)->List Lot
 | [],_=>[]
 | x::t,[]=>x::t
 | x::t,p::ps=>if x.ins==I then { x with cost:=p }::ZZ I t ps else x::ZZ I t (p::ps)
theorem Wq (I:List UInt8):∀(xs:List Lot) (ps:List (List UInt8)),(ZZ I xs ps).length=xs.length/\(ZZ I xs ps).map (·.id)=xs.map (·.id)/\(ZZ I xs ps).map (·.ins)=xs.map (·.ins)/\(ZZ I xs ps).map (·.q)=xs.map (·.q)
 | [],_=>⟨rfl,rfl,rfl,rfl⟩
 | x::t,[]=>⟨rfl,rfl,rfl,rfl⟩
 | x::t,p::ps=>by
  unfold ZZ
  split
  ·obtain⟨h1,h2,h3,h4⟩:=Wq I t ps;simp[h1,h2,h3,h4]
  ·obtain⟨h1,h2,h3,h4⟩:=Wq I t (p::ps);simp[h1,h2,h3,h4]
theorem OT (I:List UInt8):∀(xs:List Lot) (ps:List (List UInt8)),ps.length=(ofI I xs).length->((ofI I (ZZ I xs ps)).map (fun x=>val x.cost)).sum=(ps.map val).sum/\((ofI I (ZZ I xs ps)).map (fun x=>val x.q)).sum=((ofI I xs).map (fun x=>val x.q)).sum
 | [],ps,h=>by
  have:ps=[]:=List.eq_nil_of_length_eq_zero (by simpa [ofI] using h)
  subst this;exact⟨rfl,rfl⟩
 | x::t,[],h=>by
  have he:ofI I (x::t)=[]:=List.eq_nil_of_length_eq_zero (by simpa using h.symm)
  unfold ZZ;rw[he];exact⟨rfl,rfl⟩
 | x::t,p::ps,h=>by
  unfold ZZ
  by_cases hx:(x.ins==I)=true
  ·rw[if_pos hx];have e1:ofI I (x::t)=x::ofI I t:=by unfold ofI;rw[List.filter_cons_of_pos (p:=fun x:Lot=>x.ins==I) hx]
   have e2:ofI I ({ x with cost:=p }::ZZ I t ps)={ x with cost:=p }::ofI I (ZZ I t ps):=by unfold ofI;rw[List.filter_cons_of_pos (p:=fun x:Lot=>x.ins==I) (by exact hx)]
   rw[e1] at h;obtain⟨h1,h2⟩:=OT I t ps (by simpa using h)
   rw[e1,e2];simp only[List.map_cons,List.sum_cons,h1,h2];exact⟨trivial,trivial⟩
  ·rw[if_neg hx];have e1:ofI I (x::t)=ofI I t:=by unfold ofI;rw[List.filter_cons_of_neg (p:=fun x:Lot=>x.ins==I) hx]
   have e2:ofI I (x::ZZ I t (p::ps))=ofI I (ZZ I t (p::ps)):=by unfold ofI;rw[List.filter_cons_of_neg (p:=fun x:Lot=>x.ins==I) hx]
   rw[e1] at h;obtain⟨h1,h2⟩:=OT I t (p::ps) h;rw[e1,e2];exact⟨h1,h2⟩
theorem OU:∀{xs:List Lot} {i:Nat} {x:Lot} (a:List UInt8),xs[i]?=some x->(Yg xs).set (i*7+5) (Zg a)=Yg (xs.set i { x with cost:=a })
 | [],i,x,a,h=>by simp at h
 | y::xs,0,x,a,h=>by
  have:y=x:=by simpa using h
  subst this;rfl
 | y::xs,i+1,x,a,h=>by
  have h1:=OU (xs:=xs) (i:=i) (x:=x) a (by simpa using h)
  rw[Xz,show (i+1)*7+5=(i*7+5)+1+1+1+1+1+1+1 by omega]
  simp only[List.set_cons_succ];rw[h1];rfl
theorem Y9.setC {w:World} {B c:Nat} {A:Option Addr} {n:Nat} {xs:List Lot} {i:Nat} {x:Lot} (h:Y9 w B (.slice A n c) xs) (hn:xs.length=n) (hx:xs[i]?=some x) (a:List UInt8):∃g,A=some ⟨g,0,none⟩/\B<=g/\Y9 (w.setCell ⟨g,i*7+5,none⟩ (Zg a)) B (.slice A n c) (xs.set i { x with cost:=a }):=by
 subst hn;have hi:=(Lg.1 hx).1;have hl:(xs.set i { x with cost:=a }).length=xs.length:=List.length_set ..
 rcases h.2 with ⟨e,hn⟩|⟨g,cap,cur,e,hB,hg,h1,h2,h3,h4⟩
 ·omega
 ·injection e with e1 e2 e3
  subst e1 e3;refine⟨g,rfl,hB,by rw[Vs],.inr ⟨g,c,cur.setIfInBounds (i*7+5) (Zg a),by rw[hl],hB,Yl _ hg,by rw[hl];exact h1,h2,by rw[Array.size_setIfInBounds];exact h3,?_⟩⟩
  rw[hl,Array.toList_setIfInBounds,List.take_set,h4,OU a hx]
def UG (ws:List (List UInt8)):List Value:=ws.map stV
theorem NX (ws:List (List UInt8)) (r:List UInt8):UG (ws++[r])=UG ws++[Zg r]:=by simp[UG,stV]
theorem Hi {w:World} {B n c:Nat} {A:Option Addr} {ws:List (List UInt8)} (h:w.ownsRow B 32 1 (.slice A n c) n (UG ws)) (hn:ws.length=n):SF w A ws:=fun i r hr=>by
 have hi:=(Lg.1 hr).1;have hv:(UG ws)[i]?=some (Zg r):=by simp[UG,stV,hr]
 rcases h.2 with ⟨e,h0⟩|⟨g,cap,cur,e,hB,hg,h1,h2,h3,h4⟩
 ·omega
 ·injection e with e1 e2 e3
  refine⟨g,0,e1,(Ag.1 hg).1,?_⟩;rw[Zk hg,<-hv,<-h4,List.getElem?_take,if_pos (by omega),Array.getElem?_toList,Nat.zero_add]
structure VD (I:List UInt8) (xs:List Lot) (ps:List (List UInt8)) (i k:Nat) (zs:List Lot):Prop where
 eq:zs=(ZZ I xs ps).take i++xs.drop i
 rest:(ZZ I xs ps).drop i=ZZ I (xs.drop i) (ps.drop k)
 le:i<=xs.length
theorem LU (I:List UInt8) (xs:List Lot) (ps:List (List UInt8)):VD I xs ps 0 0 xs:=⟨by simp,by simp,Nat.zero_le _⟩
theorem VD.at {I:List UInt8} {xs:List Lot} {ps:List (List UInt8)} {i k:Nat} {zs:List Lot} (h:VD I xs ps i k zs) {x:Lot} (hx:xs[i]?=some x):zs[i]?=some x/\zs.length=xs.length:=by
 have hi:=(Lg.1 hx).1;have hl:=(Wq I xs ps).1;have ht:((ZZ I xs ps).take i).length=i:=by rw[List.length_take];omega
 rw[h.eq];refine⟨?_,by rw[List.length_append,ht,List.length_drop];omega⟩
 rw[List.getElem?_append_right (by omega),ht,Nat.sub_self,List.getElem?_drop,Nat.add_zero]
 exact hx
theorem VD.step {I:List UInt8} {xs:List Lot} {ps:List (List UInt8)} {i k k':Nat} {zs:List Lot} (h:VD I xs ps i k zs) {x y:Lot} (hx:xs[i]?=some x) (hy:ZZ I (xs.drop i) (ps.drop k)=y::ZZ I (xs.drop (i+1)) (ps.drop k')):VD I xs ps (i+1) k' (zs.set i y):=by
 obtain⟨hz,hzl⟩:=h.at hx;have hi:=(Lg.1 hx).1;have hl:=(Wq I xs ps).1;have hr:=h.rest.trans hy;have hyi:(ZZ I xs ps)[i]?=some y:=by
  have:=congrArg (fun l=>l[0]?) hr
  simpa [List.getElem?_drop] using this
 obtain⟨hi2,hye⟩:=Lg.1 hyi;refine⟨?_,?_,hi⟩
 ·have ht:((ZZ I xs ps).take i).length=i:=by rw[List.length_take];omega
  rw[h.eq,List.set_append_right (h:=by omega),ht,Nat.sub_self,drop_at hx,List.set_cons_zero,List.take_succ_eq_append_getElem hi2,hye,List.append_assoc]
  rfl
 ·have:=congrArg (List.drop 1) hr
  simpa [List.drop_drop] using this
theorem VD.same {I:List UInt8} {xs:List Lot} {ps:List (List UInt8)} {i k:Nat} {zs:List Lot} (h:VD I xs ps i k zs) {x:Lot} (hx:xs[i]?=some x) (hy:ZZ I (xs.drop i) (ps.drop k)=x::ZZ I (xs.drop (i+1)) (ps.drop k)):VD I xs ps (i+1) k zs:=by
 have h1:=h.step hx hy;obtain⟨hz,-⟩:=h.at hx;obtain⟨hk,e⟩:=Lg.1 hz;rw[<-e,List.set_getElem_self] at h1;exact h1
theorem Fq {I:List UInt8} {xs:List Lot} {ps:List (List UInt8)} {i k:Nat} {x:Lot} {p:List UInt8} (hx:xs[i]?=some x) (hp:ps[k]?=some p) (hi:(x.ins==I)=true):ZZ I (xs.drop i) (ps.drop k)={ x with cost:=p }::ZZ I (xs.drop (i+1)) (ps.drop (k+1)):=by
 rw[drop_at hx,drop_at hp]
 conv=>lhs;unfold ZZ
 rw[if_pos hi]
theorem NY {I:List UInt8} {xs:List Lot} {ps:List (List UInt8)} {i k:Nat} {x:Lot} (hx:xs[i]?=some x) (h:(x.ins==I)=false∨ps.length<=k):ZZ I (xs.drop i) (ps.drop k)=x::ZZ I (xs.drop (i+1)) (ps.drop k):=by
 rw[drop_at hx];cases hd:ps.drop k with
 | nil=>
  cases xs.drop (i+1)<;>rfl
 | cons p t=>
  have:(x.ins==I)=false:=by
   rcases h with h|h
   ·exact h
   ·rw[List.drop_of_length_le h] at hd;cases hd
  conv=>lhs;unfold ZZ
  rw[if_neg (by rw[this];decide)]
theorem VD.done {I:List UInt8} {xs:List Lot} {ps:List (List UInt8)} {i k:Nat} {zs:List Lot} (h:VD I xs ps i k zs) (hi:xs.length<=i):zs=ZZ I xs ps:=by
 have hl:=(Wq I xs ps).1;rw[h.eq,List.take_of_length_le (by omega),List.drop_of_length_le hi,List.append_nil]
def NZ (T:List UInt8) (ws ps:List (List UInt8)):Prop:=(Tx T ws≠0/\ps=[])∨(Tx T ws=0/\∃zs,ps=zs.map canon/\UK (val T) (ws.map val) zs)
theorem N3 {w:World} {A:Option Addr} {ws:List (List UInt8)} {n:Nat} (c:Nat) {T:List UInt8} (hG:GE w) (hI:WR w A ws n) (hT:T.length<=4900) :
  Calls prog 124 #[Zg T,.slice A n c] w fun e w'=>∃AP ps np cq err,e=.returned (.tuple #[.slice AP np cq,Zi err])/\ps.length=np/\np<=1000/\SF w' AP ps/\NZ T ws ps/\Below w.heap.size w w':=by
 by_cases h:Tx T ws=0
 ·obtain⟨-,s2,-⟩:=SJ h;have hl:=hI.len;refine (DN c hG hI hT h).mono ?_;rintro e w' ⟨bp,zs,rfl,hb,hh,hd,hbl⟩;have hz:zs.length=n:=by rw[hd.sum.2,List.length_map,hl]
  refine⟨_,zs.map canon,n,n,0,rfl,by rw[List.length_map,hz],by omega,?_,.inr ⟨h,zs,rfl,hd⟩,hbl⟩
  intro i r hr;refine⟨bp,0,rfl,(Ag.1 hh).1,?_⟩;rw[Zk hh,Nat.zero_add];exact SR hr
 ·refine (J2 c hG hI hT h).mono ?_;rintro e w' ⟨rfl,hb⟩;exact⟨none,[],0,0,_,rfl,rfl,Nat.zero_le _,fun i r hr=>by simp at hr,.inl ⟨h,rfl⟩,hb⟩
theorem Y9.low {w:World} {B B':Nat} {v:Value} {xs:List Lot} (h:Y9 w B v xs) (hB:B'<=B):Y9 w B' v xs:=by
 refine⟨h.1,?_⟩;rcases h.2 with h2|⟨g,cap,cur,e,hb,r⟩
 ·exact .inl h2
 ·exact .inr ⟨g,cap,cur,e,Nt hB hb,r⟩
theorem Zaf {w:World} {A:Option Addr} {xs:List Lot} {n:Nat} (c:Nat) (ins:List UInt8) (hG:GE w) (hL:Yk w A xs n) (hn0:0<n) :
  Calls prog 91 #[.slice A n c,Zg ins] w fun e w'=>∃v ps,e=.returned v/\Y9 w' w.heap.size v (ZZ ins xs ps)/\NZ (canon (Yx (ofL ins xs))) ((ofL ins xs).map (·.q)) ps/\Below w.heap.size w w':=by
 have hn2:=hL.big;obtain⟨ys,hys⟩:∃ys,ys=ofL ins xs:=⟨_,rfl⟩
 have K1:=Lh (Qz c ins hG hL);have hysm:∀y∈ys,y∈xs:=fun y hy=>by rw[hys] at hy;exact (List.mem_filter.1 hy).1
 have hyl:ys.length<=xs.length:=by rw[hys];exact List.length_filter_le _ _
 have hln:=hL.len;obtain⟨T1,hT1⟩:∃T1,T1=canon (Yi (ofL ins xs)):=⟨_,rfl⟩
 obtain⟨T2,hT2⟩:∃T2,T2=canon (Yx (ofL ins xs)):=⟨_,rfl⟩
 have hTl:T2.length<=1008:=by
  rw[hT2,<-hys];exact YR 1000 (fun x=>x.cost) ys (fun y hy=>(hL.sm y (hysm y hy)).cost) (by omega)
 rw[<-hT1,<-hT2] at K1;rw[<-hT2,<-hys];obtain⟨m,hm⟩:∃m,m=ys.length:=⟨_,rfl⟩
 have hmn:m<=n:=by omega
 have HL:=Lh hL;have HM:=Lh hm;have HYS:=Lh hys;have HYM:=Lh hysm;have HG:=Lh hG;clear hL hT1 hT2 hysm hyl hln hm hys;go_enter func91,ntmps91;go_wp2_with fail
 refine K1.out.mono ?_
 rintro e w1 ⟨rfl,hb1⟩;clear K1;have K2:=Lh (lOf c ins (HL.out.below hb1));rw[<-HYS.out] at K2;go_wp2_with fail
 refine K2.out.mono ?_
 rintro e w2 ⟨v2,rfl,hrow,hb2⟩;clear K2;have hrow:Y9 w2 w1.heap.size v2 ys:=hrow;obtain⟨A2,c2,rfl⟩:=hrow.formN HM.out.symm;replace hb2:=bto hb1 hb2;clear hb1;obtain⟨B,hB⟩:∃B,B=w2.heap.size:=⟨_,rfl⟩
 have HLY:Hid (Y7 w2 A2 ys):=hrow.lotAt rfl;have hBw:w.heap.size<=B:=by rw[hB];exact hb2.size
 have HBW:=Lh hBw;have HB:=Lh hB;have HB2:=Lh hb2;have h0:Hid (w2.ownsRow B 32 1 (.slice none 0 0) 0 (UG ((ys.map (·.q)).take 0))):=World.ownsRow_nil w2 B 32 1
 have HBe:Hid (Below w2.heap.size w2 w2):=Below.refl _ _;clear hrow hB hBw hb2;go_wp2_with fail
 go_loopw [7,9,25] (fun qv _ iv wr=>∃(k:Nat) (v:Value),k<=m/\v=qv/\iv=Zi (k:Int)/\Hid (wr.ownsRow B 32 1 v k (UG ((ys.map (·.q)).take k)))/\Hid (Below w2.heap.size w2 wr)) (fun _ _ iv _=>m-(intOf iv).toNat)
 case atStart=>exact⟨0,_,Nat.zero_le _,rfl,rfl,h0.out,HBe.out⟩
 case round=>
  clear h0 HBe;obtain⟨k,v,hk,rfl,rfl,HO,HBL⟩:=hrel
  by_cases hlk:k<m
  ·have e1:decide (k<m)=true:=Dt hlk;have e2:decide ((k:Int)<(m:Int))=true:=Dt (by omega)
   obtain⟨x,hx⟩:∃x,ys[k]?=some x:=⟨_,List.getElem?_eq_getElem (by have:=HM.out;omega)⟩
   obtain⟨b,o,rfl,hbs,hcells⟩:=(HLY.out.below HBL.out) k x hx;have p0:=hcells.c0;have p1:=hcells.c1;have p2:=hcells.c2;have p3:=hcells.c3;have p4:=hcells.c4;have p5:=hcells.c5;have p6:=hcells.c6;have hbA:=Zh wr (.cells (Zn x) 130);have Y1:=Lh (Yq.new wr x 130);have q4:=Y1.out.c4;have hbq:=Zh (wr.alloc (.cells (Zn x) 130)) (.cells #[Zg x.q] 32);obtain⟨i0,hi,hz0,hz1,hz2⟩:=info_parts QG;have HAN:Hid (((wr.alloc (.cells (Zn x) 130)).alloc (.cells #[Zg x.q] 32)).heap[wr.heap.size+1]?=some (.cells #[Zg x.q] 32)):=by
    have h:=ZJ (wr.alloc (.cells (Zn x) 130)) (.cells #[Zg x.q] 32);rw[show (wr.alloc (.cells (Zn x) 130)).heap.size=wr.heap.size+1 by simp] at h
    exact h
   have HAZ:Hid (((wr.alloc (.cells (Zn x) 130)).alloc (.cells #[Zg x.q] 32)).heap.size=wr.heap.size+2):=by show _=_;simp
   have HCZ:Hid (B<=wr.heap.size):=by show _<=_;rw[HB.out];exact HBL.out.size
   have HX:=Lh hx;have HBQ:=Lh (bto hbA hbq);clear hbs hcells hx hbA hbq;go_wp2_with (at_builtin;refine ZW rfl _ _ 50 rfl B 32 i0 (Zj) 1 16 underlying50 hi hz0 hz1 hz2 rfl (by decide) _ _ _ rfl (Yt HO.out HBQ.out) ⟨wr.heap.size+1,0,none⟩ 1 1 [Zg x.q] rfl rfl ?c1 ?c2 ?c3 ?c4 ?c5 ?_)
   case c1=>
    intro j u hu;have hj:j<1:=YG hu
    match j,hj with
    | 0,_=>cases hu;exact Zk HAN.out 0
   case c2=>
    intro u hu;simp only[List.mem_cons,List.not_mem_nil,or_false] at hu;subst hu;rfl
   case c3=>unfold maxLen;omega
   case c4=>omega
   case c5=>exact Nt HCZ.out (Nt (Nat.le_add_right _ _) (Nat.le_of_eq HAZ.out.symm))
   intro v' w5 hown' hgrow hfresh;have HO':Hid (w5.ownsRow B 32 1 v' (k+1) (UG ((ys.map (·.q)).take (k+1)))):=by
    have hq:(ys.map (·.q))[k]?=some x.q:=by simp[HX.out]
    obtain⟨hk2,hxe⟩:=Lg.1 hq;show w5.ownsRow _ _ _ _ _ _;rw[List.take_succ_eq_append_getElem hk2,hxe,NX];exact hown'
   have HBL':Hid (Below w2.heap.size w2 w5):=by
    have h1:=bto HBL.out HBQ.out
    exact h1.grown hgrow h1.size (fun g hg=>by
     have:=(World.ownsRow.lt HO.out g hg).1
     have:=HB.out
     omega)
   clear hown' hgrow hfresh HO HBL HBQ HAN HAZ HCZ p0 p1 p2 p3 p4 p5 p6 q4 e1 e2 HX Y1 hi hz0 hz1 hz2;go_wp2;go_roundw
   case rel=>exact⟨k+1,v',by omega,rfl,by go_num,HO'.out,HBL'.out⟩
   case measure=>simp[intOf];omega
  ·have hkm:k=m:=by omega
   subst hkm;have e1:decide (k<k)=false:=Df (by omega)
   have e2:decide ((k:Int)<(k:Int))=false:=Df (by omega)
   have hfm:Hid ((ys.map (·.q)).take k=ys.map (·.q)):=by show _=_;rw[List.take_of_length_le (by rw[List.length_map];have:=HM.out;omega)]
   obtain⟨A3,c3,rfl⟩:∃A3 c3,v=.slice A3 k c3:=by
    rcases HO.out.2 with ⟨e,h0⟩|⟨g,cap,cur,e,-⟩
    ·exact⟨none,0,by rw[e,h0]⟩
    ·exact⟨_,_,e⟩
   have HI:Hid (WR wr A3 (ys.map (·.q)) k):=by
    refine⟨by rw[List.length_map,<-HM.out],by omega,fun r hr=>?_,?_⟩
    ·obtain⟨y,hy,rfl⟩:=List.mem_map.1 hr
     have:=(HL.out.sm y (HYM.out y hy)).q
     omega
    ·have h:=HO.out;rw[hfm.out] at h;exact Hi h (by rw[List.length_map,<-HM.out])
   have hbw:=bto HB2.out HBL.out;have KS:=Lh (N3 (T:=T2) c3 (HG.out.below hbw) HI.out (by omega))
   clear HO hfm HI HLY HBL;go_wp2_with fail
   refine KS.out.mono ?_
   rintro e w6 ⟨AP,ps,np,cq,err,rfl,hpl,hnp,hst,hpp,hb6⟩;clear KS;replace hbw:=bto hbw hb6;have KC:=Lh (J3 A xs n c w6 HL.out.len hn0 (by omega) ((HL.out.below hbw).mem))
   clear hb6 e1 e2;go_wp2_with fail
   refine KC.out.mono ?_
   rintro e w7 ⟨v7,rfl,hrow,hb7⟩;clear KC;obtain⟨g,c7,rfl,hgB,-,-⟩:=hrow.row (by rw[HL.out.len];exact hn0)
   have hln:=HL.out.len;rw[hln];rw[hln] at hrow;have HS:=Lh hst;have HPP:=Lh hpp;have HBW6:=Lh hbw;have H0:Hid (Y9 w7 w6.heap.size (.slice (some ⟨g,0,none⟩) n c7) xs):=hrow;have HP0:=Lh (LU ins xs ps);have H7:=Lh hb7;have HPL:=Lh hpl;clear hst hpp hb7 hrow hbw hpl hgB hln;go_wp2_with fail
   go_loopw [13,14,45] (fun kv _ iv wr=>∃(i j:Nat) (zs:List Lot),i<=n/\j<=np/\kv=Zi (j:Int)/\iv=Zi (i:Int)/\Hid (Y9 wr w6.heap.size (.slice (some ⟨g,0,none⟩) n c7) zs)/\Hid (VD ins xs ps i j zs)/\Hid (Below w6.heap.size w6 wr)/\Hid (zs.length=n)) (fun _ _ iv _=>n-(intOf iv).toNat)
   case atStart=>exact⟨0,0,xs,Nat.zero_le _,Nat.zero_le _,rfl,rfl,H0.out,HP0.out,H7.out,HL.out.len⟩
   case round=>
    clear H0 HP0 H7;obtain⟨i,j,zs,hi,hj,rfl,rfl,HT,HPI,HB6,HZL⟩:=hrel
    by_cases hlk2:i<n
    rotate_left
    ·have e1:decide (i<n)=false:=Df hlk2;have e2:decide ((i:Int)<(n:Int))=false:=Df (by omega)
     have HF:Hid (Y9 wr w.heap.size (.slice (some ⟨g,0,none⟩) n c7) (ZZ ins xs ps)):=by
      rw[<-HPI.out.done (by rw[HL.out.len];omega)]
      exact HT.out.low HBW6.out.size
     have HBF:=Lh (bto HBW6.out HB6.out);clear HT HPI HB6;go_wp2;go_ret;exact⟨_,ps,rfl,HF.out,HPP.out,HBF.out⟩
    have e1:decide (i<n)=true:=Dt hlk2;have e2:decide ((i:Int)<(n:Int))=true:=Dt (by omega)
    obtain⟨x,hx⟩:∃x,xs[i]?=some x:=⟨_,List.getElem?_eq_getElem (by have:=HL.out.len;omega)⟩
    obtain⟨hzx,-⟩:=HPI.out.at hx;obtain⟨g',c',e',-,-,hlr⟩:=HT.out.row (by rw[HZL.out];exact hn0)
    injection e' with e3 e4 e5
    injection e3 with e3
    injection e3 with e3
    subst e3;have hcells:=hlr.cells hzx;have p1:=hcells.c1;have p5:=hcells.c5;have p6:=hlr.free (i*7+5);have HX:=Lh hx;have HZX:=Lh hzx;clear hx hzx hcells hlr e4 e5
    by_cases g1:(x.ins==ins)=true
    ·by_cases g2:j<np
     ·have t2:decide (j<np)=true:=Dt g2;have t3:decide ((j:Int)<(np:Int))=true:=Dt (by omega)
      obtain⟨q,hq⟩:∃q,ps[j]?=some q:=⟨_,List.getElem?_eq_getElem (by have:=HPL.out;omega)⟩
      obtain⟨bq,oq,rfl,hbq,q0⟩:=(HS.out.below HB6.out) j q hq;obtain⟨g2',hge,hgb2,HT2⟩:=HT.out.setC HZL.out HZX.out q;injection hge with hge
      injection hge with hge
      subst hge;have HT3:=Lh HT2;have HP3:Hid (VD ins xs ps (i+1) (j+1) (zs.set i { x with cost:=q })):=HPI.out.step HX.out (Fq HX.out hq g1)
      have HB3:Hid (Below w6.heap.size w6 (wr.setCell ⟨g,i*7+5,none⟩ (Zg q))):=HB6.out.setCell (p:=⟨g,i*7+5,none⟩) hgb2 _;have HZ3:Hid ((zs.set i { x with cost:=q }).length=n):=by show _=_;rw[List.length_set];exact HZL.out
      clear HT HT2 HPI HB6 HZL hq hbq hgb2 HX HZX;go_wp2_with fail;clear p1 p5 p6 q0 t2 t3 e1 e2 g1;go_roundw
      case rel=>exact⟨i+1,j+1,_,by omega,by omega,by go_num,by go_num,HT3.out,HP3.out,HB3.out,HZ3.out⟩
      case measure=>simp[intOf];omega
     ·have t2:decide (j<np)=false:=Df g2;have t3:decide ((j:Int)<(np:Int))=false:=Df (by omega)
      have HP3:Hid (VD ins xs ps (i+1) j zs):=HPI.out.same HX.out (NY HX.out (.inr (by have:=HPL.out;omega)))
      clear HPI HX HZX;go_wp2_with fail;clear p1 p5 p6 t2 t3 e1 e2 g1;go_roundw
      case rel=>exact⟨i+1,j,zs,by omega,by omega,rfl,by go_num,HT.out,HP3.out,HB6.out,HZL.out⟩
      case measure=>simp[intOf];omega
    ·have t1:(x.ins==ins)=false:=by simpa using g1
     have HP3:Hid (VD ins xs ps (i+1) j zs):=HPI.out.same HX.out (NY HX.out (.inl t1));clear HPI HX HZX g1;go_wp2_with fail;clear p1 p5 p6 t1 e1 e2;go_roundw
     case rel=>exact⟨i+1,j,zs,by omega,by omega,rfl,by go_num,HT.out,HP3.out,HB6.out,HZL.out⟩
     case measure=>simp[intOf];omega
end Go.Proofs.YtpieeldbamklkaaGreatDoor
