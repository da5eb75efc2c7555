/- Texts put together: Oe Of Og Bx Bt Bz Oh Oi. -/
import Derived.Test.YtpieeldbamklkaaGreatDoorW2
import Derived.OrdersIn
import Derived.TacticsIn
import Derived.RangeFuncCalls
set_option maxHeartbeats 4000000
set_option maxRecDepth 100000
namespace Go.Proofs.YtpieeldbamklkaaGreatDoor
open Go.RowKit Num
def UF (x:Lot):Int:=
 if idB x.id=false then 23 else if YS x.ins=false then 23 else if XX x.acq=false then 13 else if XX x.opn=false then 13 else if x.opn<x.acq then 8 else if ¬x.q=canon (val x.q) then 1 else if ¬x.cost=canon (val x.cost) then 1 else if ¬x.used=canon (val x.used) then 1 else if val x.q<=0 then 2 else if val x.cost<0 then 2 else if x.used=[] then 0 else if x.used=x.q then 0 else 2
structure PO (x:Lot):Prop where
 id:x.id.length<=1000
 ins:x.ins.length<=1000
 q:x.q.length<=1000
 cost:x.cost.length<=1000
 used:x.used.length<=1000
theorem O0 (v:Int):(Zx v 0<=0↔v<=0)/\(Zx v 0<0↔v<0)/\(0<Zx v 0↔0<v)/\-1<=Zx v 0/\Zx v 0<=1:=by
 unfold Zx
 split
 ·omega
 ·split<;>omega
theorem JX {x:Lot} (h:UF x=0):idB x.id=true/\YS x.ins=true/\XX x.acq=true/\XX x.opn=true/\x.acq<=x.opn/\x.q=canon (val x.q)/\x.cost=canon (val x.cost)/\x.used=canon (val x.used)/\0<val x.q/\0<=val x.cost/\(x.used=[]∨x.used=x.q):=by
 unfold UF at h
 by_cases h0:idB x.id=false
 ·rw[if_pos h0] at h;exact absurd h (by decide)
 rw[if_neg h0] at h
 by_cases h1:YS x.ins=false
 ·rw[if_pos h1] at h;exact absurd h (by decide)
 rw[if_neg h1] at h
 by_cases h2:XX x.acq=false
 ·rw[if_pos h2] at h;exact absurd h (by decide)
 rw[if_neg h2] at h
 by_cases h3:XX x.opn=false
 ·rw[if_pos h3] at h;exact absurd h (by decide)
 rw[if_neg h3] at h
 by_cases h4:x.opn<x.acq
 ·rw[if_pos h4] at h;exact absurd h (by decide)
 rw[if_neg h4] at h
 by_cases h5:¬x.q=canon (val x.q)
 ·rw[if_pos h5] at h;exact absurd h (by decide)
 rw[if_neg h5] at h
 by_cases h6:¬x.cost=canon (val x.cost)
 ·rw[if_pos h6] at h;exact absurd h (by decide)
 rw[if_neg h6] at h
 by_cases h7:¬x.used=canon (val x.used)
 ·rw[if_pos h7] at h;exact absurd h (by decide)
 rw[if_neg h7] at h
 by_cases h8:val x.q<=0
 ·rw[if_pos h8] at h;exact absurd h (by decide)
 rw[if_neg h8] at h
 by_cases h9:val x.cost<0
 ·rw[if_pos h9] at h;exact absurd h (by decide)
 rw[if_neg h9] at h;refine⟨by simpa using h0,by simpa using h1,by simpa using h2,by simpa using h3,Int.not_lt.1 h4,Decidable.not_not.1 h5,Decidable.not_not.1 h6,Decidable.not_not.1 h7,Int.not_le.1 h8,Int.not_lt.1 h9,?_⟩
 by_cases h10:x.used=[]
 ·exact .inl h10
 rw[if_neg h10] at h
 by_cases h11:x.used=x.q
 ·exact .inr h11
 rw[if_neg h11] at h;exact absurd h (by decide)
def Ky (x:Lot):Int:=if val x.q<=0 then 2 else if val x.cost<0 then 2 else if x.used=[] then 0 else if x.used=x.q then 0 else 2
def Kz:List (List UInt8)->Int->Int
 | [],R=>R
 | r::t,R=>if r=canon (val r) then Kz t R else 1
theorem Hm {rs:List (List UInt8)} {k:Nat} {r:List UInt8} {R:Int} (h:rs[k]?=some r):Kz (rs.drop k) R=if r=canon (val r) then Kz (rs.drop (k+1)) R else 1:=by
 obtain⟨hk,rfl⟩:=Lg.1 h;rw[List.drop_eq_getElem_cons hk];rfl
theorem FN {c:Prop} [Decidable c] {a b:Int}:(if ¬c then a else b)=if c then b else a:=by
 by_cases h:c
 ·rw[if_pos h,if_neg (fun g=>g h)]
 ·rw[if_neg h,if_pos h]
theorem D9 (x:Lot):Kz [x.q,x.cost,x.used] (Ky x)=if ¬x.q=canon (val x.q) then 1 else if ¬x.cost=canon (val x.cost) then 1 else if ¬x.used=canon (val x.used) then 1 else if val x.q<=0 then 2 else if val x.cost<0 then 2 else if x.used=[] then 0 else if x.used=x.q then 0 else 2:=by
 simp only[Kz,FN,Ky]
theorem Blk.rowS {w:World} {b:Nat} {cs:Array Value} (h:Blk w b cs) (rs:List (List UInt8)) (hc:cs=(rs.map (fun r=>Value.string ⟨r.toArray⟩)).toArray):∀(k:Nat) (r:List UInt8),rs[k]?=some r->w.cell? ⟨b,k,none⟩=some (.string ⟨r.toArray⟩)/\b<w.heap.size:=fun k r hr=>by
 refine⟨?_,?_⟩
 ·have:=h.c k
  rw[this,hc];simp[hr]
 ·obtain⟨t,h⟩:=h;exact (Ag.1 h).1
theorem FO {x:Lot} (hs:PO x):WN 181 #[(Value.agg #[Value.string ⟨x.id.toArray⟩,Value.string ⟨x.ins.toArray⟩,Value.int .i64 x.acq,Value.int .i64 x.opn,Value.string ⟨x.q.toArray⟩,Value.string ⟨x.cost.toArray⟩,Value.string ⟨x.used.toArray⟩])] (.int .i64 (UF x)):=fun w hG=>by
 obtain⟨l1,l2,l3,l4,l5⟩:=hs;have hb:=Zd w (.cells #[Value.string ⟨x.id.toArray⟩,Value.string ⟨x.ins.toArray⟩,Value.int .i64 x.acq,Value.int .i64 x.opn,Value.string ⟨x.q.toArray⟩,Value.string ⟨x.cost.toArray⟩,Value.string ⟨x.used.toArray⟩] 130);have x1:=Xf.new w x 130;have C1:=Lh (Ret.e (FK x.acq));have C2:=Lh (Ret.e (FK x.opn));have D1:=Lh (Zax (s:=x.id) (by omega))
 have D2:=Lh (Ret.e (OV (l:=x.ins) (by omega)))
 have K1:=Lh (Ret.e (Zv (l:=x.q) (l':=[]) (by omega) (by decide) (show _=Zx (val x.q) 0 from rfl)))
 have K2:=Lh (Ret.e (Zv (l:=x.cost) (l':=[]) (by omega) (by decide) (show _=Zx (val x.cost) 0 from rfl)))
 have N0:=Lh (Ret.e (Yk (l:=x.q) (by omega) rfl))
 have N1:=Lh (Ret.e (Yk (l:=x.cost) (by omega) rfl))
 have N2:=Lh (Ret.e (Yk (l:=x.used) (by omega) rfl))
 obtain⟨E,hE⟩:∃E,E=UF x:=⟨_,rfl⟩
 rw[<-hE];unfold UF at hE;have HV:=Lh hE;clear hE;go_enter Tryz.func181,Tryz.ntmps181;clear l1 l2 l3 l4 l5;have qx1_0:=x1.c0;go_wp2_with fail
 with_reducible refine (D1.out.of hG hb).mono ?_
 rintro e wa1 ⟨rfl,hba1⟩;clear qx1_0;replace x1:=x1.below hba1;replace hb:=bto hb hba1;clear hba1
 by_cases g1:idB x.id=false
 ·have e1:=g1;have HQ:Hid (E=23):=by show _=_;rw[HV.out,if_pos g1]
  clear HV g1;go_wp2;go_ret;exact⟨ZN HQ.out.symm,hb⟩
 have e1:idB x.id=true:=by simpa using g1
 have HV1:=Lh (HV.out.trans (if_neg g1));clear HV g1;have qx1_1:=x1.c1;go_wp2_with fail
 with_reducible refine (D2.out.of hG hb).mono ?_
 rintro e wa2 ⟨rfl,hba2⟩;clear qx1_1;replace x1:=x1.below hba2;replace hb:=bto hb hba2;clear hba2
 by_cases g2:YS x.ins=false
 ·have e2:=g2;have HQ:Hid (E=23):=by show _=_;rw[HV1.out,if_pos g2]
  clear HV1 g2;go_wp2;go_ret;exact⟨ZN HQ.out.symm,hb⟩
 have e2:YS x.ins=true:=by simpa using g2
 have HV2:=Lh (HV1.out.trans (if_neg g2));clear HV1 g2;have qx1_2:=x1.c2;go_wp2_with fail
 with_reducible refine (C1.out.of hG hb).mono ?_
 rintro e wa3 ⟨rfl,hba3⟩;clear qx1_2;replace x1:=x1.below hba3;replace hb:=bto hb hba3;clear hba3
 by_cases g3:XX x.acq=false
 ·have e3:=g3;have HQ:Hid (E=13):=by show _=_;rw[HV2.out,if_pos g3]
  clear HV2 g3;go_wp2;go_ret;exact⟨ZN HQ.out.symm,hb⟩
 have e3:XX x.acq=true:=by simpa using g3
 have HV3:=Lh (HV2.out.trans (if_neg g3));clear HV2 g3;have qx1_3:=x1.c3;go_wp2_with fail
 with_reducible refine (C2.out.of hG hb).mono ?_
 rintro e wa4 ⟨rfl,hba4⟩;clear qx1_3;replace x1:=x1.below hba4;replace hb:=bto hb hba4;clear hba4
 by_cases g4:XX x.opn=false
 ·have e4:=g4;have HQ:Hid (E=13):=by show _=_;rw[HV3.out,if_pos g4]
  clear HV3 g4;go_wp2;go_ret;exact⟨ZN HQ.out.symm,hb⟩
 have e4:XX x.opn=true:=by simpa using g4
 have HV4:=Lh (HV3.out.trans (if_neg g4));clear HV3 g4
 by_cases g5:x.opn<x.acq
 ·have e5:decide (x.opn<x.acq)=true:=Dt g5;have HQ:Hid (E=8):=by show _=_;rw[HV4.out,if_pos g5]
  clear HV4 g5;have qx1_2:=x1.c2;have qx1_3:=x1.c3;go_wp2;go_ret;exact⟨ZN HQ.out.symm,hb⟩
 have e5:decide (x.opn<x.acq)=false:=Df g5;have HV5:=Lh (HV4.out.trans (if_neg g5));clear HV4 g5;have qx1_2:=x1.c2;have qx1_3:=x1.c3;have qx1_4:=x1.c4;have qx1_5:=x1.c5;have qx1_6:=x1.c6;go_wp2_with fail;clear qx1_2 qx1_3 qx1_4 qx1_5 qx1_6;clear e1 e2 e3 e4 e5;have hbA:=Zd wa4 (.cells #[Value.string ⟨x.q.toArray⟩,Value.string ⟨x.cost.toArray⟩,Value.string ⟨x.used.toArray⟩] 32);have x9:Blk (wa4.alloc (.cells #[Value.string ⟨x.q.toArray⟩,Value.string ⟨x.cost.toArray⟩,Value.string ⟨x.used.toArray⟩] 32)) wa4.heap.size _:=Blk.new wa4 _ _;replace x1:=x1.below hbA;replace hb:=bto hb hbA;obtain⟨w0,hw0⟩:∃w0,w0=wa4.alloc (.cells #[Value.string ⟨x.q.toArray⟩,Value.string ⟨x.cost.toArray⟩,Value.string ⟨x.used.toArray⟩] 32):=⟨_,rfl⟩
 rw[<-hw0] at x1 hb x9;rw[<-hw0];have H9:=Lh (Blk.rowS x9 [x.q,x.cost,x.used] rfl);generalize wa4.heap.size=B at *;clear hw0 hbA x9;have HV:=Lh ((HV5.out).trans (D9 x).symm);clear HV5
 go_loopw [4,38] (fun _ iv wr=>∃k:Nat,k<=3/\iv=.int .i64 (k:Int)/\Hid (E=Kz ([x.q,x.cost,x.used].drop k) (Ky x))/\Below w0.heap.size w0 wr) (fun _ iv _=>3-(intOf iv).toNat)
 case atStart=>exact⟨0,by omega,rfl,HV.out,Below.refl _ _⟩
 case round=>
  clear HV;obtain⟨k,hk,rfl,HV,hbr⟩:=hrel;replace x1:=x1.below hbr;replace hb:=bto hb hbr
  by_cases hlk:k<3
  rotate_left
  ·have HR:Hid (E=Ky x):=by show _=_;rw[HV.out,List.drop_of_length_le (by show 3<=k;omega)];rfl
   clear HV;have e1:decide (k<3)=false:=Df hlk;have e2:decide ((k:Int)<3)=false:=Df (by omega)
   have qx1_4:=x1.c4;go_wp2_with fail
   with_reducible refine (K1.out.of hG hb).mono ?_
   rintro e wa5 ⟨rfl,hba5⟩;replace x1:=x1.below hba5;replace hb:=bto hb hba5;clear hba5;clear qx1_4;unfold Ky at HR;generalize hc1:Zx (val x.q) 0=c1 at *;have hz1:=O0 (val x.q);rw[hc1] at hz1;clear hc1
   by_cases g1:val x.q<=0
   ·have e3:decide (c1<=0)=true:=Dt (hz1.1.2 g1);have HQ:Hid (E=2):=by show _=_;rw[HR.out,if_pos g1]
    clear HR g1 hz1;go_wp2;go_ret;exact⟨ZN HQ.out.symm,hb⟩
   have e3:decide (c1<=0)=false:=Df (fun h=>g1 (hz1.1.1 h))
   have HR1:=Lh (HR.out.trans (if_neg g1));clear HR g1 hz1;have qx1_5:=x1.c5;go_wp2_with fail
   with_reducible refine (K2.out.of hG hb).mono ?_
   rintro e wa6 ⟨rfl,hba6⟩;clear qx1_5;replace x1:=x1.below hba6;replace hb:=bto hb hba6;clear hba6;generalize hc2:Zx (val x.cost) 0=c2 at *;have hz2:=O0 (val x.cost);rw[hc2] at hz2;clear hc2
   by_cases g2:val x.cost<0
   ·have e4:decide (c2<0)=true:=Dt (hz2.2.1.2 g2);have HQ:Hid (E=2):=by show _=_;rw[HR1.out,if_pos g2]
    clear HR1 g2 hz2;go_wp2;go_ret;exact⟨ZN HQ.out.symm,hb⟩
   have e4:decide (c2<0)=false:=Df (fun h=>g2 (hz2.2.1.1 h))
   have HR2:=Lh (HR1.out.trans (if_neg g2));clear HR1 g2 hz2
   by_cases g3:x.used=[]
   ·have e5:(x.used==[])=true:=by rw[beq_iff_eq];exact g3
    have e6:x.used.isEmpty=true:=by rw[List.isEmpty_iff];exact g3
    have HQ:Hid (E=0):=by show _=_;rw[HR2.out,if_pos g3]
    clear HR2 g3;have qx1_4:=x1.c4;have qx1_6:=x1.c6;go_wp2;go_ret;exact⟨ZN HQ.out.symm,hb⟩
   have e5:(x.used==[])=false:=by rw[Bn];exact g3
   have e6:x.used.isEmpty=false:=by rw[List.isEmpty_eq_false_iff];exact g3
   have HR3:=Lh (HR2.out.trans (if_neg g3));clear HR2 g3
   by_cases g4:x.used=x.q
   ·have e7:(x.used==x.q)=true:=by rw[beq_iff_eq];exact g4
    have HQ:Hid (E=0):=by show _=_;rw[HR3.out,if_pos g4]
    clear HR3 g4;have qx1_4:=x1.c4;have qx1_6:=x1.c6;go_wp2;go_ret;exact⟨ZN HQ.out.symm,hb⟩
   have e7:(x.used==x.q)=false:=by rw[Bn];exact g4
   have HQ:Hid (E=2):=by show _=_;rw[HR3.out,if_neg g4]
   clear HR3 g4;have qx1_4:=x1.c4;have qx1_6:=x1.c6;go_wp2;go_ret;exact⟨ZN HQ.out.symm,hb⟩
  obtain⟨r,hr⟩:∃r,[x.q,x.cost,x.used][k]?=some r:=⟨_,List.getElem?_eq_getElem (show k<3 from hlk)⟩
  have CR:Hid (WN 103 #[.string ⟨r.toArray⟩] (.int .i64 (if r=canon (val r) then 0 else 1))):=by
   have hk3:k=0∨k=1∨k=2:=by omega
   rcases hk3 with rfl|rfl|rfl
   ·cases hr;exact N0
   ·cases hr;exact N1
   ·cases hr;exact N2
  have p0:=(H9.out k r hr).1;have p0':wr.cell? ⟨B,k,none⟩=some (.string ⟨r.toArray⟩):=(hbr.cell (p:=⟨B,k,none⟩) (H9.out k r hr).2).trans p0;clear p0;have HS:=Lh (Hm (R:=Ky x) hr);clear hr;have e1:decide (k<3)=true:=Dt hlk;have e2:decide ((k:Int)<3)=true:=Dt (by omega)
  go_wp2_with fail
  with_reducible refine (CR.out.of hG hb).mono ?_
  rintro e wa5 ⟨rfl,hba5⟩;replace x1:=x1.below hba5;replace hb:=bto hb hba5;replace hbr:=bto hbr hba5;clear hba5
  by_cases g:r=canon (val r)
  rotate_left
  ·have HQ:Hid (E=1):=by show _=_;rw[HV.out,HS.out,if_neg g]
   rw[if_neg g];clear HV HS g;go_wp2;go_ret;exact⟨ZN HQ.out.symm,hb⟩
  have HV1:Hid (E=Kz ([x.q,x.cost,x.used].drop (k+1)) (Ky x)):=by show _=_;rw[HV.out,HS.out,if_pos g]
  rw[if_pos g];clear HV HS g;go_wp2;go_roundw
  case rel=>exact⟨k+1,by omega,by go_num,HV1.out,hbr⟩
  case measure=>simp[intOf];omega
def TJ (seen:List (List UInt8)):List Lot->Int
 | []=>0
 | x::r=>if ¬UF x=0 then UF x else if seen.contains x.id=true then 5 else TJ (seen++[x.id]) r
def Vj (xs:List Lot):Int:=if 1000<xs.length then 4 else TJ [] xs
theorem KE {xs:List Lot} {k:Nat} {x:Lot} (h:xs[k]?=some x):TJ ((xs.take k).map (·.id)) (xs.drop k)=if ¬UF x=0 then UF x else if ((xs.take k).map (·.id)).contains x.id=true then 5 else TJ ((xs.take (k+1)).map (·.id)) (xs.drop (k+1)):=by
 obtain⟨hk,rfl⟩:=Lg.1 h;rw[List.drop_eq_getElem_cons hk,List.take_succ_eq_append_getElem hk];rw[List.map_append];rfl
theorem PP:∀(xs:List Lot) (seen:List (List UInt8)),TJ seen xs=0->(∀x∈xs,UF x=0)/\(xs.map (·.id)).Nodup/\∀x∈xs,x.id∉seen
 | [],_,_=>⟨fun x hx=>(by cases hx),List.nodup_nil,fun x hx=>(by cases hx)⟩
 | x::r,seen,h=>by
  unfold TJ at h
  by_cases h0:UF x=0
  ·rw[if_neg (fun g=>g h0)] at h
   by_cases h1:seen.contains x.id=true
   ·rw[if_pos h1] at h;exact absurd h (by decide)
   ·rw[if_neg h1] at h;obtain⟨a,b,c⟩:=PP r _ h;refine⟨fun y hy=>?_,?_,fun y hy=>?_⟩
    ·rcases List.mem_cons.1 hy with rfl|hy
     ·exact h0
     ·exact a y hy
    ·rw[List.map_cons,List.nodup_cons];refine⟨fun hm=>?_,b⟩
     obtain⟨y,hy,e⟩:=List.mem_map.1 hm;exact c y hy (by rw[e];simp)
    ·rcases List.mem_cons.1 hy with rfl|hy
     ·simpa using h1
     ·exact fun g=>c y hy (List.mem_append_left _ g)
  ·rw[if_pos h0] at h;exact absurd h h0
theorem PQ {xs:List Lot} (h:Vj xs=0):xs.length<=1000/\(∀x∈xs,UF x=0)/\(xs.map (·.id)).Nodup:=by
 unfold Vj at h
 by_cases h1:1000<xs.length
 ·rw[if_pos h1] at h;exact absurd h (by decide)
 ·rw[if_neg h1] at h;obtain⟨a,b,-⟩:=PP xs [] h;exact⟨Nat.le_of_not_lt h1,a,b⟩
def SB (w:World) (M:Nat) (es:Array MapEntry) (c:Nat):Prop:=w.heap[M]?=some (.map es c)
theorem SB.lt {w:World} {M c:Nat} {es:Array MapEntry} (h:SB w M es c):M<w.heap.size:=(Ag.1 h).1
theorem SB.below {w w':World} {M c:Nat} {es:Array MapEntry} (h:SB w M es c) (hb:Below w.heap.size w w'):SB w' M es c:=(hb.block M h.lt).trans h
theorem SB.new (w:World):SB (w.alloc (.map #[] 0)) w.heap.size #[] 0:=by unfold SB;simp[World.alloc,-World.alloc_eq]
theorem SB.put {w:World} {M c:Nat} {es:Array MapEntry} (h:SB w M es c) (es':Array MapEntry) (c':Nat):SB { w with heap:=w.heap.setIfInBounds M (.map es' c') } M es' c':=by
 have:=h.lt
 unfold SB;simp[this]
theorem KG {w W:World} {M:Nat} {ob:Obj} (h:Below w.heap.size w W) (hl:w.heap.size<=M):Below w.heap.size w { W with heap:=W.heap.setIfInBounds M ob }:=
 ⟨h.os,h.tape,h.output,by simpa using h.size,fun k hk=>by
  show (W.heap.setIfInBounds M ob)[k]?=_;rw[Array.getElem?_setIfInBounds_ne (by omega)]
  exact h.block k hk⟩
theorem Qa (b:ByteArray):MapKept.IsKey .string (.string b):=trivial
structure Xl (w:World) (A:Option Addr) (xs:List Lot) (n:Nat):Prop where
 len:xs.length=n
 big:n<=100000
 sm:∀x∈xs,PO x
 mem:Vw w A xs
theorem Xl.below {w w':World} {A:Option Addr} {xs:List Lot} {n:Nat} (h:Xl w A xs n) (hb:Below w.heap.size w w'):Xl w' A xs n:=⟨h.len,h.big,h.sm,h.mem.below hb⟩
theorem Qb {w:World} {A:Option Addr} {xs:List Lot} {n:Nat} (c:Nat) (hG:GE w) (hL:Xl w A xs n) :
  Calls Tryz.prog 120 #[.slice A n c] w fun e w'=>e=.returned (.int .i64 (Vj xs))/\Below w.heap.size w w':=by
 have hn:=hL.len;have hn2:=hL.big;have HI:=Lh hL.mem;have HX:=Lh hL.sm;have hn1:xs.length<=n:=by omega
 have hn3:n<=xs.length:=by omega
 have HM:=Lh hn;obtain⟨E,hE⟩:∃E,E=Vj xs:=⟨_,rfl⟩
 rw[<-hE];unfold Vj at hE;have HV:=Lh hE;clear hE hL hn
 by_cases g1:1000<n
 ·have e1:decide (1000<n)=true:=Dt g1;have e2:decide ((1000:Int)<(n:Int))=true:=Dt (by omega)
  have HQ:Hid (E=4):=by show _=_;rw[HV.out,if_pos (by omega)]
  clear HV g1;go_enter Tryz.func120,Tryz.ntmps120;go_wp2;go_ret;exact⟨ZN HQ.out.symm,Below.refl _ _⟩
 have e1:decide (1000<n)=false:=Df g1;have e2:decide ((1000:Int)<(n:Int))=false:=Df (by omega)
 have HV1:Hid (E=TJ [] xs):=by show _=_;rw[HV.out,if_neg (by omega)]
 clear HV g1;go_enter Tryz.func120,Tryz.ntmps120;have hmk:=fun w=>run_makeMap (P:=Tryz.prog) 264 w
 go_wp2_with fail;clear hmk e1 e2;have hb0:=Zd w (.map #[] 0);have hM0:=Lh (SB.new w)
 go_loopw [5,6,13] (fun _ _ iv wr=>∃k:Nat,k<=n/\iv=.int .i64 (k:Int)/\Hid (E=TJ ((xs.take k).map (·.id)) (xs.drop k))/\Hid (SB wr w.heap.size (UC ((xs.take k).map (·.id))) k)/\Below w.heap.size w wr) (fun _ _ iv _=>n-(intOf iv).toNat)
 case atStart=>exact⟨0,Nat.zero_le _,rfl,HV1.out,hM0.out,hb0⟩
 case round=>
  clear HV1 hM0 hb0;obtain⟨k,hk,rfl,HV,HB,hb⟩:=hrel
  by_cases hlk:k<n
  rotate_left
  ·have HQ:Hid (E=0):=by show _=_;rw[HV.out,List.drop_of_length_le (by omega)];rfl
   have e1:decide (k<n)=false:=Df hlk;clear HV HB;go_wp2;go_ret;exact⟨ZN HQ.out.symm,hb⟩
  have e1:decide (k<n)=true:=Dt hlk;obtain⟨x,hxk⟩:∃x,xs[k]?=some x:=⟨_,List.getElem?_eq_getElem (by omega)⟩
  obtain⟨b,o,rfl,hbs,hc0⟩:=(HI.out.below hb) k x hxk;have HD:=Lh (KE hxk);have hsm:=HX.out x (Lm hxk);have HT:Hid ((xs.take (k+1)).map (·.id)=(xs.take k).map (·.id)++[x.id]):=by
   show _=_;obtain⟨hk',rfl⟩:=Lg.1 hxk;rw[List.take_succ_eq_append_getElem hk',List.map_append];rfl
  have HLl:Hid (((xs.take k).map (·.id)).length=k):=by show _=_;rw[List.length_map,List.length_take];omega
  obtain⟨sn,hsn⟩:∃sn,sn=(xs.take k).map (·.id):=⟨_,rfl⟩
  rw[<-hsn] at HB HD HV HT HLl;have C1:=Lh (FO hsm);clear hxk hsn hsm;have p0:=hc0.c0;have p1:=hc0.c1;have p2:=hc0.c2;have p3:=hc0.c3;have p4:=hc0.c4;have p5:=hc0.c5;have p6:=hc0.c6;have hbA:=Zd wr (.cells #[Value.string ⟨x.id.toArray⟩,Value.string ⟨x.ins.toArray⟩,Value.int .i64 x.acq,Value.int .i64 x.opn,Value.string ⟨x.q.toArray⟩,Value.string ⟨x.cost.toArray⟩,Value.string ⟨x.used.toArray⟩] 130);have x5:=Xf.new wr x 130;replace hb:=bto hb hbA;replace HB:=Lh (HB.out.below hbA);clear hbA;go_wp2_with fail
  with_reducible refine (C1.out.of hG hb).mono ?_
  rintro e w1 ⟨rfl,hb1⟩;clear p0 p1 p2 p3 p4 p5 p6 hc0 C1;replace hb:=bto hb hb1;replace HB:=Lh (HB.out.below hb1);replace x5:=x5.below hb1;clear hb1
  by_cases g2:UF x=0
  rotate_left
  ·have e3:(UF x==0)=false:=by rw[Bn];exact g2
   have e4:=QC e3;have HQ:Hid (E=UF x):=by show _=_;rw[HV.out,HD.out,if_pos g2]
   clear g2 HV HD HB x5;go_wp2;go_ret;exact⟨ZN HQ.out.symm,hb⟩
  have e3:(UF x==0)=true:=by rw[beq_iff_eq];exact g2
  have e4:=As e3;have HV2:Hid (E=if sn.contains x.id=true then 5 else TJ ((xs.take (k+1)).map (·.id)) (xs.drop (k+1))):=by show _=_;rw[HV.out,HD.out,if_neg (fun h=>h g2)]
  clear g2 HV HD;have q0:=x5.c0;have hf:=SA x.id sn 0 0
  by_cases g3:sn.contains x.id=true
  ·have HQ:Hid (E=5):=by show _=_;rw[HV2.out,if_pos g3]
   rw[if_pos g3] at hf;have hlook:=Uj (P:=Tryz.prog) (mty:=264) (key:=.string ⟨x.id.toArray⟩) Tryz.underlying264 Tryz.underlying9 (Qa _) HB.out (by simpa [UC] using hf) false
   clear g3 HV2 hf HB;go_wp2;go_ret;exact⟨ZN HQ.out.symm,hb⟩
  ·have HQ:Hid (E=TJ ((xs.take (k+1)).map (·.id)) (xs.drop (k+1))):=by show _=_;rw[HV2.out,if_neg g3]
   rw[if_neg g3] at hf;have hlook:=TH (P:=Tryz.prog) (mty:=264) (key:=.string ⟨x.id.toArray⟩) Tryz.underlying264 Tryz.underlying9 (Qa _) HB.out (Tryz.zeroValue4 w1) (by simpa [UC] using hf) false
   have hput:=UP (P:=Tryz.prog) (mty:=264) (key:=.string ⟨x.id.toArray⟩) (val:=.bool true) Tryz.underlying264 Tryz.underlying9 (Qa _) HB.out (by simpa [UC] using hf)
   have HB2:=Lh (HB.out.put ((UC sn).push { key:=.string ⟨x.id.toArray⟩,val:=.bool true,born:=k }) (k+1));have hb2:=KG (M:=w.heap.size) (ob:=.map ((UC sn).push { key:=.string ⟨x.id.toArray⟩,val:=.bool true,born:=k }) (k+1)) hb (Nl _);obtain⟨W,hW⟩:∃W:World,W={ w1 with heap:=w1.heap.setIfInBounds w.heap.size (.map ((UC sn).push { key:=.string ⟨x.id.toArray⟩,val:=.bool true,born:=k }) (k+1)) }:=⟨_,rfl⟩
   rw[<-hW] at hput HB2 hb2;have HS:Hid (UC (sn++[x.id])=(UC sn).push { key:=.string ⟨x.id.toArray⟩,val:=.bool true,born:=k }):=by show _=_;rw[Kw,HLl.out]
   clear g3 HV2 hf HB hW hb HLl;go_wp2;go_roundw
   case rel=>exact⟨k+1,by omega,by go_num,HQ.out,(by rw[HT.out,HS.out];exact HB2.out),hb2⟩
   case measure=>simp[intOf];omega
open Go.Shelf
attribute [local go_sem] Oper.semAt_some
theorem O1 (xs ys:List Lot):Z8 (xs++ys)=Z8 xs++Z8 ys:=List.flatMap_append
theorem VS:∀xs:List Lot,(Z8 xs).length=xs.length*7
 | []=>rfl
 | x::r=>by
  have:=VS r
  unfold Z8 at this ⊢;rw[List.flatMap_cons,List.length_append,this];simp;omega
theorem VT (xs:List Lot):∀u∈Z8 xs,u.oneCell'=true:=by
 intro u hu;obtain⟨x,-,hx⟩:=List.mem_flatMap.1 hu;simp at hx;rcases hx with rfl|rfl|rfl|rfl|rfl|rfl|rfl<;>rfl
theorem UQ:(Tryz.prog.info? 130).map (fun i=>(i.zero,i.size,i.bytes))=some (some (.agg #[.string ⟨#[]⟩,.string ⟨#[]⟩,.int .i64 0,.int .i64 0,.string ⟨#[]⟩,.string ⟨#[]⟩,.string ⟨#[]⟩]),7,96):=by kernel_rfl
def FP (w:World) (gf:Nat) (lb:Array Value) (qs:List Lot):Prop:=
 ∀(m lw:Nat) (S:List Lot->World->Prop),(∀ys W,S ys W->Below w.heap.size w W)->(∀ys W W',S ys W->Below W.heap.size W W'->S ys W')->
  (∀ys y W,S ys W->qs[ys.length]?=some y->YieldAt Fence.wide (m-1) Tryz.prog lw #[(Value.agg #[Value.string ⟨y.id.toArray⟩,Value.string ⟨y.ins.toArray⟩,Value.int .i64 y.acq,Value.int .i64 y.opn,Value.string ⟨y.q.toArray⟩,Value.string ⟨y.cost.toArray⟩,Value.string ⟨y.used.toArray⟩])] W fun e W'=>e=.returned (.bool true)/\S (ys++[y]) W')->
  ∀W,S [] W->CallsIn Fence.wide m Tryz.prog gf (#[.func (.yield lw) #[] #[]]++lb) W fun e W'=>(∃v,e=.returned v)/\S qs W'
structure CoL (w:World) (R:Loop) (d l:Nat) (ys:List Lot) (W:World):Prop where
 below:Below w.heap.size w W
 loop:W.heap[l]?=some (.loop R)
 dfr:W.heap[d]?=some (.deferred (some []))
 row:∃v,Boxed W w.heap.size 44 v/\W.ownsRow w.heap.size 130 7 v ys.length (Z8 ys)
section
variable {w W W':World} {R:Loop} {d l:Nat} {ys:List Lot}
theorem CoL.mono (h:CoL w R d l ys W) (hb:Below W.heap.size W W'):CoL w R d l ys W':=
 ⟨bto h.below hb,(hb.block _ (Ag.1 h.loop).1).trans h.loop,(hb.block _ (Ag.1 h.dfr).1).trans h.dfr,by
  obtain⟨v,h1,h2⟩:=h.row
  exact⟨v,(hb.block _ h1.lt).trans h1,Zz h2 hb⟩⟩
theorem CoL.done {R1 R2:Loop} (hR:R2=R) (hl:l≠d/\l≠w.heap.size/\w.heap.size<=l) (h:CoL w R1 d l ys W):CoL w R d l ys (W.putObj l (.loop R2)):=by
 subst hR;refine⟨YG h.below hl.2.2,World.putObj_heap_same (Ag.1 h.loop).1,(World.putObj_heap_other (by omega)).trans h.dfr,?_⟩
 obtain⟨v,h1,h2⟩:=h.row;exact⟨v,(World.putObj_heap_other (Ne.symm hl.2.1)).trans h1,ownsRow_putObj h2 _ h.loop rfl⟩
end
theorem KI (gf:Nat) (lb:Array Value) (qs:List Lot) (w:World) (hEn:∀args w,(callFunc gf args).run Tryz.prog w=.ok (.enter gf args) w) (hI:FP w gf lb qs) (hM:qs.length<=100000) :
  Calls Tryz.prog 238 #[.slice none 0 0,.func (.func gf) #[] lb] w fun e w'=>∃v,e=.returned v/\w'.ownsRow w.heap.size 130 7 v qs.length (Z8 qs)/\Below w.heap.size w w':=by
 have HI:=Lh hI;have HE:=Lh hEn;obtain⟨i0,hi,hz0,hz1,hz2⟩:=info_parts UQ;have hb0:=Zd w (.cells #[.slice none 0 0] 44);clear hI hEn;refine (callsIn_wide (n:=5)).1 ?_;refine callsIn_of_wp_marks Tryz.func238 rfl trivial ?_ rfl;simp only[Tryz.ntmps238,List.size_toArray,List.length_cons,List.length_nil,Nat.reduceAdd,Nat.reduceSub,Array.replicate_succ,Array.replicate_zero,List.push_toArray,List.append_toArray,List.nil_append,List.cons_append]
 gi_wp2_with fail
 refine XW (gf:=gf) (lb:=lb) rfl HE.out ?_;intro fn R hR;obtain⟨W0,hW0⟩:∃W0,W0=w.alloc (.cells #[.slice none 0 0] 44):=⟨_,rfl⟩
 have hsz:W0.heap.size=w.heap.size+1:=by rw[hW0];simp only[World.size_alloc]
 have x2:Boxed W0 w.heap.size 44 (.slice none 0 0):=by rw[hW0];exact Boxed.new _ _ _
 rw[<-hW0] at hR hb0 ⊢;clear hW0;obtain⟨W1,hW1⟩:∃W1,W1=(W0.alloc (.deferred (some []))).alloc (.loop R):=⟨_,rfl⟩
 have hbB:Below W0.heap.size W0 W1:=by rw[hW1];exact bto (Zd _ _) (Zd _ _)
 have hD:W1.heap[W0.heap.size]?=some (.deferred (some [])):=by rw[hW1];exact (Below.heap_alloc _ _ _ (by simp)).trans (World.alloc_heap_new _ _)
 have hL:W1.heap[W0.heap.size+1]?=some (.loop R):=by
  rw[hW1]
  have:=World.alloc_heap_new (W0.alloc (.deferred (some []))) (.loop R)
  rwa [World.size_alloc] at this
 rw[<-hW1];obtain⟨l,hl⟩:∃l,l=W0.heap.size+1:=⟨_,rfl⟩
 obtain⟨d,hd⟩:∃d,d=W0.heap.size:=⟨_,rfl⟩
 rw[<-hl] at hL ⊢;rw[<-hd] at hD hR ⊢;have hS0:CoL w R d l [] W1:=⟨bto hb0 hbB,hL,hD,⟨_,(hbB.block _ x2.lt).trans x2,World.ownsRow_nil _ _ _ 7⟩⟩;have n1:l≠d/\l≠w.heap.size/\w.heap.size<=l:=by omega
 have n3:w.heap.size<=d/\d≠w.heap.size:=by omega
 clear hW1 hbB hD hL x2 hb0 hsz hl hd;have hY:∀ys y W,CoL w R d l ys W->qs[ys.length]?=some y->YieldAt Fence.wide (5-1-1) Tryz.prog l #[(Value.agg #[Value.string ⟨y.id.toArray⟩,Value.string ⟨y.ins.toArray⟩,Value.int .i64 y.acq,Value.int .i64 y.opn,Value.string ⟨y.q.toArray⟩,Value.string ⟨y.cost.toArray⟩,Value.string ⟨y.used.toArray⟩])] W fun e W'=>e=.returned (.bool true)/\CoL w R d l (ys++[y]) W':=by
  intro ys y W hS hyb;have hlen:=(Lg.1 hyb).1;have hy:=run_yield (P:=Tryz.prog) (args:=#[(Value.agg #[Value.string ⟨y.id.toArray⟩,Value.string ⟨y.ins.toArray⟩,Value.int .i64 y.acq,Value.int .i64 y.opn,Value.string ⟨y.q.toArray⟩,Value.string ⟨y.cost.toArray⟩,Value.string ⟨y.used.toArray⟩])]) hS.loop (by rw[hR];rfl)
  refine⟨R.fn,_,R.assign,R.body,hy,roundIn_of_wpIn trivial ?_⟩;have hlW:=(Ag.1 hS.loop).1;have hSa:=hS.mono (Zd W (.cells #[Value.string ⟨y.id.toArray⟩,Value.string ⟨y.ins.toArray⟩,Value.int .i64 y.acq,Value.int .i64 y.opn,Value.string ⟨y.q.toArray⟩,Value.string ⟨y.cost.toArray⟩,Value.string ⟨y.used.toArray⟩] 130));have hbr:=run_beginRound (P:=Tryz.prog) hSa.loop (by rw[hR])
  have hS1:CoL w { R with state:=.busy } d l ys ((W.alloc (.cells #[Value.string ⟨y.id.toArray⟩,Value.string ⟨y.ins.toArray⟩,Value.int .i64 y.acq,Value.int .i64 y.opn,Value.string ⟨y.q.toArray⟩,Value.string ⟨y.cost.toArray⟩,Value.string ⟨y.used.toArray⟩] 130)).putObj l (.loop { R with state:=.busy })):=CoL.done rfl n1 hSa
  have x4:Blk ((W.alloc (.cells #[Value.string ⟨y.id.toArray⟩,Value.string ⟨y.ins.toArray⟩,Value.int .i64 y.acq,Value.int .i64 y.opn,Value.string ⟨y.q.toArray⟩,Value.string ⟨y.cost.toArray⟩,Value.string ⟨y.used.toArray⟩] 130)).putObj l (.loop { R with state:=.busy })) W.heap.size #[Value.string ⟨y.id.toArray⟩,Value.string ⟨y.ins.toArray⟩,Value.int .i64 y.acq,Value.int .i64 y.opn,Value.string ⟨y.q.toArray⟩,Value.string ⟨y.cost.toArray⟩,Value.string ⟨y.used.toArray⟩]:=(Blk.new W _ 130).putO (by omega)
  obtain⟨Wc,hWc⟩:∃Wc,Wc=(W.alloc (.cells #[Value.string ⟨y.id.toArray⟩,Value.string ⟨y.ins.toArray⟩,Value.int .i64 y.acq,Value.int .i64 y.opn,Value.string ⟨y.q.toArray⟩,Value.string ⟨y.cost.toArray⟩,Value.string ⟨y.used.toArray⟩] 130)).putObj l (.loop { R with state:=.busy }):=⟨_,rfl⟩
  rw[<-hWc] at hbr hS1 x4;have hRe:({ { R with state:=.busy } with state:=.ready,pending:=none }:Loop)=R:=by rw[hR]
  obtain⟨R1,hR1⟩:∃R1,R1={ R with state:=.busy }:=⟨_,rfl⟩
  rw[<-hR1] at hS1 hRe;obtain⟨v,hv,hrow⟩:=hS1.row;have hbc:=hS1.below;have hc:=hv.cell;have p0:Wc.cell? ⟨W.heap.size,0,none⟩=some (.string ⟨y.id.toArray⟩):=x4.c 0;have p1:Wc.cell? ⟨W.heap.size,1,none⟩=some (.string ⟨y.ins.toArray⟩):=x4.c 1;have p2:Wc.cell? ⟨W.heap.size,2,none⟩=some (.int .i64 y.acq):=x4.c 2;have p3:Wc.cell? ⟨W.heap.size,3,none⟩=some (.int .i64 y.opn):=x4.c 3;have p4:Wc.cell? ⟨W.heap.size,4,none⟩=some (.string ⟨y.q.toArray⟩):=x4.c 4;have p5:Wc.cell? ⟨W.heap.size,5,none⟩=some (.string ⟨y.cost.toArray⟩):=x4.c 5;have p6:Wc.cell? ⟨W.heap.size,6,none⟩=some (.string ⟨y.used.toArray⟩):=x4.c 6;have HBr:=Lh hbr;have HRe:=Lh hRe;have HS2:=Lh hS1;clear hWc hbr hy hS hSa hlW hS1 hRe hR1 hS0;rw[hR]
  gi_wp2
  refine⟨_,HBr.out,?_⟩
  gi_wp2_with (gi_at_builtin;refine wpListIn_append_own _ rfl _ _ 44 rfl w.heap.size 130 i0 (.agg #[.string ⟨#[]⟩,.string ⟨#[]⟩,.int .i64 0,.int .i64 0,.string ⟨#[]⟩,.string ⟨#[]⟩,.string ⟨#[]⟩]) 7 96 Tryz.underlying44 hi hz0 hz1 hz2 rfl (by decide) _ _ _ rfl (Zz hrow (Zd _ _)) ⟨Wc.heap.size,0,none⟩ 1 1 #[Value.string ⟨y.id.toArray⟩,Value.string ⟨y.ins.toArray⟩,Value.int .i64 y.acq,Value.int .i64 y.opn,Value.string ⟨y.q.toArray⟩,Value.string ⟨y.cost.toArray⟩,Value.string ⟨y.used.toArray⟩].toList rfl rfl ?c1 ?c2 ?c3 ?c4 ?c5 ?_)
  try (case c1=>
    intro j u hu
    match j with
    | 0=>simp at hu;subst hu;rw[Lib.add_plain];simp[go_sem]
    | 1=>simp at hu;subst hu;rw[Lib.add_plain];simp[go_sem]
    | 2=>simp at hu;subst hu;rw[Lib.add_plain];simp[go_sem]
    | 3=>simp at hu;subst hu;rw[Lib.add_plain];simp[go_sem]
    | 4=>simp at hu;subst hu;rw[Lib.add_plain];simp[go_sem]
    | 5=>simp at hu;subst hu;rw[Lib.add_plain];simp[go_sem]
    | 6=>simp at hu;subst hu;rw[Lib.add_plain];simp[go_sem]
    | j+7=>simp at hu)
  case c2=>exact⟨rfl,rfl,rfl,rfl,rfl,rfl,rfl⟩
  case c3=>unfold maxLen;omega
  case c4=>omega
  case c5=>have:=hbc.size;simp;omega
  intro v' w1 hown' hgrow _;obtain⟨g',cap',rfl⟩:=ownsRow_succ hown';obtain⟨hv1,hv2,hr2,hk2,hb2⟩:=hv.appended (by decide) hrow hbc.size (Nl _) hown' hgrow
  have hc1:=hv1.cell;have hf1:=hv1.frozen;have HGO:Hid (CoL w R1 d l (ys++[y]) (w1.setCell ⟨w.heap.size,0,none⟩ (.slice (some ⟨g',0,none⟩) (ys.length+1) cap'))):=by
   refine⟨hbc.trans hb2,hk2.same _ _ HS2.out.loop rfl,hk2.same _ _ HS2.out.dfr rfl,_,hv2,?_⟩;have e1:(ys++[y]).length=ys.length+1:=by simp
   have e2:Z8 (ys++[y])=Z8 ys++#[Value.string ⟨y.id.toArray⟩,Value.string ⟨y.ins.toArray⟩,Value.int .i64 y.acq,Value.int .i64 y.opn,Value.string ⟨y.q.toArray⟩,Value.string ⟨y.cost.toArray⟩,Value.string ⟨y.used.toArray⟩].toList:=by
    rw[O1];rfl
   rw[e1,e2];exact hr2
  clear hown' hgrow hv1 hv2 hr2 hk2 hb2 hv hrow hc p0 p1 p2 p3 p4 p5 p6 HS2 x4
  gi_wp2
  exact⟨_,_,run_endRound (P:=Tryz.prog) none HGO.out.loop,rfl,CoL.done (HRe.out.trans hR) n1 HGO.out⟩
 have key:=HI.out (5-1) l (CoL w R d l) (fun ys W h=>h.below) (fun ys W W' h hb=>h.mono hb) hY W1 hS0
 refine key.mono ?_;rintro e W2 ⟨hv,hS2⟩;refine⟨hv,hS2.loop,?_⟩;have hS3:CoL w { R with state:=.exhausted } d l qs (W2.putObj l (.loop { R with state:=.exhausted })):=CoL.done rfl n1 hS2
 obtain⟨W3,hW3⟩:∃W3,W3=W2.putObj l (.loop { R with state:=.exhausted }):=⟨_,rfl⟩
 rw[<-hW3] at hS3 ⊢;obtain⟨v,hv,hrow⟩:=hS3.row;have q0:=hv.cell;have hD5:=hS3.dfr;have hb5:=hS3.below;have HR:=Lh (ownsRow_putObj hrow (.deferred none) hD5 rfl);clear hW3 hS3 key hY hS2 hS0 hrow HI
 gi_wp2
 refine⟨by simp,.inl ⟨_,_,rfl,run_takeDeferred hD5,?_⟩⟩
 refine⟨_,results_tmp rfl _ _ _,v,rfl,HR.out,YG hb5 n3.1⟩
theorem FQ (gf:Nat) (lb:Array Value) (qs:List Lot) (w:World) (hEn:∀args w,(callFunc gf args).run Tryz.prog w=.ok (.enter gf args) w) (hI:FP w gf lb qs) (hM:qs.length<=100000) :
  Calls Tryz.prog 187 #[.func (.func gf) #[] lb] w fun e w'=>∃v,e=.returned v/\w'.ownsRow w.heap.size 130 7 v qs.length (Z8 qs)/\Below w.heap.size w w':=by
 have C1:=Lh (KI gf lb qs w hEn hI hM);clear hEn hI;go_enter Tryz.func187,Tryz.ntmps187;go_wp2_with fail;refine C1.out.mono ?_;rintro e w2 ⟨v,rfl,h1,h2⟩;go_wp2;go_ret;exact⟨_,rfl,h1,h2⟩
end Go.Proofs.YtpieeldbamklkaaGreatDoor
namespace Go.Proofs.YtpieeldbamklkaaGreatDoor
open Go.RowKit
section
variable {P:Program} {ops:Array Oper} {md:Region.Mode}
structure Zr (X:Nat->Prop) (w w':World):Prop where
 os:w'.os=w.os
 tape:w'.tape=w.tape
 output:w'.output=w.output
 size:w.heap.size<=w'.heap.size
 block:∀k,k<w.heap.size->¬X k->w'.heap[k]?=w.heap[k]?
variable {X:Nat->Prop}
theorem Zr.lower {w0 w w':World} (h:Zr X w w') (hb:Below w0.heap.size w0 w) (hX:∀k,X k->w0.heap.size<=k):Below w0.heap.size w0 w':=
 ⟨h.os.trans hb.os,h.tape.trans hb.tape,h.output.trans hb.output,Nt hb.size h.size,fun k hk=>(h.block k (Nat.lt_of_lt_of_le hk hb.size) (fun hx=>by have:=hX k hx;omega)).trans (hb.block k hk)⟩
theorem Blk.keepX {w w':World} {b:Nat} {cs:Array Value} (h:Blk w b cs) (hb:Zr X w w') (hx:¬X b):Blk w' b cs:=by
 have hl:=h.lt;obtain⟨t,h⟩:=h;exact⟨t,(hb.block b hl hx).trans h⟩
end
section
variable {P:Program} {ops:Array Oper} {C:World->Prop} {Q:St->Bx->Prop} {rest:List Oper} {i:Nat} {a:St} {B:Bx} {o:Oper}
theorem JY (w:World) (b j:Nat) (cs:Array Value) (x:Value) (t:TypeId) (h:w.heap[b]?=some (.cells cs t (0,0))):Xi w (w.setCell ⟨b,j,none⟩ x) b (.cells (cs.setIfInBounds j x) t (0,0)):=by
 refine⟨rfl,rfl,rfl,by simp,?_,fun k hk=>Below.heap_setCell w ⟨b,j,none⟩ x k hk⟩
 obtain⟨hlt,hk⟩:=Ag.1 h;show (w.heap.modify b _)[b]?=_;rw[Array.getElem?_eq_getElem (by rw[Array.size_modify];exact hlt),Array.getElem_modify_self,hk]
 rfl
section
variable {md:Region.Mode}
end
end
inductive UR where
 | val (v:Value)
 | get (b:Nat) (ob:Obj) (v:Value)
 | put (b:Nat) (ob0 ob:Obj)
abbrev Fx:=Nat->Option Obj
def UR.at:UR->Value
 | .val v=>v
 | .get _ _ v=>v
 | .put _ _ _=>undef
def UR.fx (F:Fx):UR->Fx
 | .val _=>F
 | .get _ _ _=>F
 | .put b _ ob=>fun k=>if k=b then some ob else F k
def UR.pre (F:Fx):UR->Prop
 | .val _=>True
 | .get b ob _=>F b=some ob
 | .put b ob0 _=>F b=some ob0
section
variable {P:Program} {ops:Array Oper} {md:Region.Mode} {tch:Nat->List Nat} {C:World->Prop}
def Xm (md:Region.Mode) (o:Oper) (i:Nat):Prop:=∃e∈o.after,Region.binds md e=true/\e.on=i
def Xg (P:Program) (ops:Array Oper) (md:Region.Mode) (tch:Nat->List Nat) (C:World->Prop) (i:Nat) (o:Oper) (a:Act):UR->Prop
 | .val v=>(Region.wanted o (yielded ops a.tmps)=true/\∀w,C w->VK P w v ((execOp a.eval o).run P w))∨(Region.wanted o (yielded ops a.tmps)=false/\v=undef)
 | .get b ob v=>i∈tch b/\Region.wanted o (yielded ops a.tmps)=true/\∀w,C w->w.heap[b]?=some ob->(execOp a.eval o).run P w=.ok (.value v) w
 | .put b ob0 ob=>(i∈tch b/\∀j oj,j∈tch b->j≠i->ops[j]?=some oj->Xm md o j∨Xm md oj i)/\
   Region.wanted o (yielded ops a.tmps)=true/\∀w,C w->w.heap[b]?=some ob0->∃w',(execOp a.eval o).run P w=.ok .skip w'/\Xi w w' b ob
theorem Xg.of_same {i:Nat} {o:Oper} {x:UR} {a a':Act} (hy:Xg P ops md tch C i o a x) (he:execOp a'.eval o=execOp a.eval o)
  (hw:Region.wanted o (yielded ops a'.tmps)=Region.wanted o (yielded ops a.tmps)):Xg P ops md tch C i o a' x:=by
 cases x<;>simp only[Xg,he,hw] at *<;>exact hy
def OF (P:Program) (ops:Array Oper) (md:Region.Mode) (tch:Nat->List Nat) (C:World->Prop) (i:Nat) (K:Act->Fx->Prop) (a:Act) (F:Fx):Prop:=
 match ops[i]? with
 | none=>K a F
 | some o=>∃x:UR,x.pre F/\Xg P ops md tch C i o a x/\K (a.put o.dst x.at) (x.fx F)
theorem Hn {i:Nat} {a:Act} {F:Fx} {K K':Act->Fx->Prop} (h:∀a F,K a F->K' a F) (hh:OF P ops md tch C i K a F):OF P ops md tch C i K' a F:=by
 unfold OF at *
 split
 ·exact h _ _ (by simpa [*] using hh)
 ·rename_i o ho;simp only[ho] at hh;obtain⟨x,h0,h1,h2⟩:=hh;exact⟨x,h0,h1,h _ _ h2⟩
def PR (P:Program) (md:Region.Mode) (ops:Array Oper) (tch:Nat->List Nat) (C:World->Prop) (Q:Act->Fx->Prop):Nat->Array Bool->Act->Fx->Prop
 | 0,listed,a,F=>Region.ready md ops listed=[]/\Q a F
 | fuel+1,listed,a,F=>
  (Region.ready md ops listed=[]->Q a F)/\
  ∀i∈Region.ready md ops listed,OF P ops md tch C i (PR P md ops tch C Q fuel (listed.setIfInBounds i true)) a F
theorem AA {i j:Nat} {oi oj:Oper} {a a':Act} {x y:UR} (hij:i≠j) (hi:ops[i]?=some oi) (hj:ops[j]?=some oj) (n1:¬Xm md oj i) (n2:¬Xm md oi j)
  (hx:Xg P ops md tch C i oi a x) (hy:Xg P ops md tch C j oj a' y) (F:Fx) (px:x.pre F) (py:y.pre (x.fx F)) :
  y.pre F/\x.pre (y.fx F)/\y.fx (x.fx F)=x.fx (y.fx F):=by
 cases x with
 | val v=>exact⟨py,trivial,rfl⟩
 | get b ob v=>
  cases y with
  | val v'=>exact⟨trivial,px,rfl⟩
  | get b' ob' v'=>exact⟨py,px,rfl⟩
  | put b' o0 o1=>
   have hne:b'≠b:=fun e=>by
    subst e;rcases hy.1.2 i oi hx.1 hij hi with h|h
    ·exact n1 h
    ·exact n2 h
   refine⟨py,?_,rfl⟩;show (if b=b' then some o1 else F b)=_
   rw[if_neg (Ne.symm hne)];exact px
 | put b o0 o1=>
  cases y with
  | val v'=>exact⟨trivial,px,rfl⟩
  | get b' ob' v'=>
   have hne:b'≠b:=fun e=>by
    subst e;rcases hx.1.2 j oj hy.1 (Ne.symm hij) hj with h|h
    ·exact n2 h
    ·exact n1 h
   have py:(if b'=b then some o1 else F b')=some ob':=py
   rw[if_neg hne] at py;exact⟨py,px,rfl⟩
  | put b' o0' o1'=>
   have hne:b'≠b:=fun e=>by
    subst e;rcases hx.1.2 j oj hy.1.1 (Ne.symm hij) hj with h|h
    ·exact n2 h
    ·exact n1 h
   have py:(if b'=b then some o1 else F b')=some o0':=py
   rw[if_neg hne] at py;refine⟨py,?_,?_⟩
   ·show (if b=b' then some o1' else F b)=_
    rw[if_neg (Ne.symm hne)];exact px
   ·funext k
    simp only[UR.fx]
    by_cases h1:k=b'
    ·rw[if_pos h1,if_neg (fun e=>hne (h1.symm.trans e)),if_pos h1]
    ·rw[if_neg h1]
     by_cases h2:k=b
     ·rw[if_pos h2,if_pos h2]
     ·rw[if_neg h2,if_neg h2,if_neg h1]
theorem FR {i j:Nat} {oi oj:Oper} {x:UR} (hij:i≠j) (hj:ops[j]?=some oj) (hap:oi.apart ops oj=true) (n1:¬Xm md oj i) (n2:¬Xm md oi j)
  (hsi:∀cs b,oi.op≠.select cs b) (hsj:∀cs b,oj.op≠.select cs b) {K:Act->Fx->Prop} {a:Act} {F:Fx}
  (hi:ops[i]?=some oi) (hp:x.pre F) (hy:Xg P ops md tch C i oi a x) (h:OF P ops md tch C j K (a.put oi.dst x.at) (x.fx F)) :
  OF P ops md tch C j (fun a' F'=>x.pre F'/\Xg P ops md tch C i oi a' x/\K (a'.put oi.dst x.at) (x.fx F')) a F:=by
 obtain⟨h1,h2,h3⟩:=Oper.apart_spec hap;have hj':=hj;unfold OF at *;simp only[hj] at h ⊢;obtain⟨y,hp',hy',hK⟩:=h;obtain⟨m1,m2,m3⟩:=AA hij hi hj' n1 n2 hy hy' F hp hp'
 refine⟨y,m1,hy'.of_same (execOp_put oj hsj a oi.dst _ h1).symm (wanted_put oj a oi.dst _ h1).symm,m2,
  hy.of_same (execOp_put oi hsi a oj.dst _ h3) (wanted_put oi a oj.dst _ h3),?_⟩
 have e1:(a.put oj.dst y.at).put oi.dst x.at=(a.put oi.dst x.at).put oj.dst y.at:=(Act.put_comm a _ _ h2).symm;rw[e1,<-m3];exact hK
theorem NM {Q:Act->Fx->Prop} {i:Nat} {oi:Oper} {x:UR} (hi:ops[i]?=some oi) (hsel:∀(j:Nat) (o:Oper) cs b,ops[j]?=some o->o.op≠.select cs b) :
  ∀(fuel:Nat) (listed:Array Bool) (a:Act) (F:Fx),
   (∀j oj,ops[j]?=some oj->j≠i->listed.getD j true=false->(∀e∈oj.after,Region.binds md e=true->e.on≠i)->oi.apart ops oj=true)->
   i∈Region.ready md ops listed->x.pre F->Xg P ops md tch C i oi a x->
   PR P md ops tch C Q fuel (listed.setIfInBounds i true) (a.put oi.dst x.at) (x.fx F)->PR P md ops tch C Q (fuel+1) listed a F:=by
 intro fuel
 induction fuel with
 | zero=>
  intro listed a F _ hr hp hy H;refine⟨fun h=>(by rw[h] at hr;cases hr),fun j hj=>?_⟩
  by_cases hji:j=i
  ·subst hji;unfold OF;simp only[hi];exact⟨x,hp,hy,H⟩
  ·have:=ready_mono hj hji
   rw[H.1] at this;cases this
 | succ fuel ih=>
  intro listed a F hfree hr hp hy H;refine⟨fun h=>(by rw[h] at hr;cases hr),fun j hj=>?_⟩
  by_cases hji:j=i
  ·subst hji;unfold OF;simp only[hi];exact⟨x,hp,hy,H⟩
  ·have h1:=H.2 j (ready_mono hj hji);obtain⟨hjun,oj,hoj,hall⟩:=mem_ready.1 hj;have hnot:∀e∈oj.after,Region.binds md e=true->e.on≠i:=fun e he hb heq=>by
    have h1:=hall e he hb;have h0:=(mem_ready.1 hr).1;rw[heq] at h1;rcases Nat.lt_or_ge i listed.size with h'|h'
    ·simp[h'] at h0 h1;rw[h0] at h1;cases h1
    ·simp[Array.getElem?_eq_none h'] at h1
   have hnot2:¬Xm md oi j:=fun ⟨e,he,hb,heq⟩=>by
    obtain⟨-,oi',hoi,hall'⟩:=mem_ready.1 hr
    have:oi'=oi:=by rw[hi] at hoi;exact (Option.some.inj hoi).symm
    subst this;have h1:=hall' e he hb;rw[heq] at h1;rcases Nat.lt_or_ge j listed.size with h'|h'
    ·simp[h'] at hjun h1;rw[hjun] at h1;cases h1
    ·simp[Array.getElem?_eq_none h'] at h1
   have hnot1:¬Xm md oj i:=fun ⟨e,he,hb,heq⟩=>hnot e he hb heq
   have h2:=FR (Ne.symm hji) hoj (hfree j oj hoj hji hjun hnot) hnot1 hnot2 (fun cs b=>hsel i oi cs b hi) (fun cs b=>hsel j oj cs b hoj) hi hp hy h1
   have hfree':∀k ok,ops[k]?=some ok->k≠i->(listed.setIfInBounds j true).getD k true=false->
     (∀e∈ok.after,Region.binds md e=true->e.on≠i)->oi.apart ops ok=true:=fun k ok hk hki hun hno=>by
    refine hfree k ok hk hki ?_ hno
    by_cases hjk:j=k
    ·subst hjk;exact hjun
    ·rw[getD_set_ne true hjk] at hun;exact hun
   refine Hn (fun a' F' h3=>ih (listed.setIfInBounds j true) a' F' hfree' (ready_mono hr (Ne.symm hji)) h3.1 h3.2.1 ?_) h2
   rw[Array.setIfInBounds_comm _ _ hji];exact h3.2.2
def Yz (P:Program) (ops:Array Oper) (md:Region.Mode) (tch:Nat->List Nat) (C:World->Prop) (Q:Act->Fx->Prop):List Oper->Nat->Act->Fx->Prop
 | [],_,a,F=>Q a F
 | o::rest,i,a,F=>∃x:UR,x.pre F/\Xg P ops md tch C i o a x/\Yz P ops md tch C Q rest (i+1) (a.put o.dst x.at) (x.fx F)
theorem PS {Q:Act->Fx->Prop} (hs:Region.noSelect ops=true):∀(l:List Oper) (k:Nat) (listed:Array Bool) (a:Act) (F:Fx),(∀j,l[j]?=ops[k+j]?)->
  Region.lexFrom md ops l.length k listed=true->Yz P ops md tch C Q l k a F->PR P md ops tch C Q l.length listed a F
 | [],_,_,_,_,_,hB,h=>⟨by simpa [Region.lexFrom] using hB,h⟩
 | o::l,k,listed,a,F,hl,hB,h=>by
  have h0:ops[k]?=some o:=by simpa using (hl 0).symm
  simp only[List.length_cons,Region.lexFrom,Bool.and_eq_true] at hB;obtain⟨⟨hr,hf⟩,hB'⟩:=hB;obtain⟨x,hp,hy,hK⟩:=h;exact NM h0 (Region.noSelect_spec hs) l.length listed a F (Region.free_spec h0 hf) (by simpa using hr) hp hy
   (PS hs l (k+1) _ _ _ (fun j=>by have:=hl (j+1);simpa [Nat.add_assoc,Nat.add_comm 1 j] using this) hB' hK)
structure WE (X:Nat->Prop) (w0:World) (F:Fx) (w:World):Prop where
 below:Zr X w0 w
 box:∀b ob,F b=some ob->w.heap[b]?=some ob
 dom:∀b,F b≠none->X b
variable {X:Nat->Prop}
theorem WE.go {w0 w w':World} {F:Fx} (h:WE X w0 F w) (hb:Below w.heap.size w w'):WE X w0 F w':=
 ⟨⟨hb.os.trans h.below.os,hb.tape.trans h.below.tape,hb.output.trans h.below.output,Nt h.below.size hb.size,fun k hk hx=>(hb.block k (Nat.lt_of_lt_of_le hk h.below.size)).trans (h.below.block k hk hx)⟩,
  fun b ob hF=>(hb.block _ (Ag.1 (h.box b ob hF)).1).trans (h.box b ob hF),h.dom⟩
theorem WE.turn {w0 w w':World} {F:Fx} (h:WE X w0 F w) {b:Nat} {ob0 ob:Obj} (hF:F b=some ob0) (ht:Xi w w' b ob):WE X w0 ((UR.put b ob0 ob).fx F) w':=by
 have hX:X b:=h.dom b (by rw[hF];simp)
 refine⟨⟨ht.os.trans h.below.os,ht.tape.trans h.below.tape,ht.output.trans h.below.output,by rw[ht.size];exact h.below.size,fun k hk hx=>(ht.old k (fun e=>hx (e ▸ hX))).trans (h.below.block k hk hx)⟩,fun k o hk=>?_,fun k hk=>?_⟩
 ·simp only[UR.fx] at hk
  by_cases hkb:k=b
  ·rw[if_pos hkb] at hk;obtain rfl:=Option.some.inj hk;rw[hkb];exact ht.new
  ·rw[if_neg hkb] at hk;exact (ht.old k hkb).trans (h.box k o hk)
 ·simp only[UR.fx] at hk
  by_cases hkb:k=b
  ·rw[hkb];exact hX
  ·rw[if_neg hkb] at hk;exact h.dom k hk
structure JZ (P:Program) (G:Fence):Prop where
 fn:∀f,G.fn f
 dep:G.depth.isSome=true->False
 calls:∀{n:Nat} {f:FuncId} {args:Array Value} {w:World} {R:Ending->World->Prop},Calls P f args w R->CallsIn G n P f args w R
theorem KJ:JZ P Fence.wide:=⟨fun _=>trivial,fun h=>(by cases h),fun h=>callsIn_wide.2 h⟩
theorem MM (l:Nat):JZ P (Fence.wide.inRound l):=⟨fun _=>trivial,fun h=>(by cases h),fun h=>CallsIn.inRound l (callsIn_wide.2 h)⟩
theorem Z3 {G:Fence} {n:Nat} (hO:JZ P G) (hdf:∀(i:Nat) (o:Oper),ops[i]?=some o->∀c,o.op≠.defer c) {w0:World} {Q:Act->Fx->Prop} {Q':Exit->Act->World->Prop} (hQ:∀a F w,WE X w0 F w->Q a F->Q' .normal a w) :
  ∀(fuel:Nat) (listed:Array Bool) (a:Act) (F:Fx) (w:World),WE X w0 F w->
  PR P md ops tch (Zr X w0) Q fuel listed a F->wpAnyIn G n P md ops Q' fuel listed a w
 | 0,_,_,_,_,hf,h=>⟨h.1,hQ _ _ _ hf h.2⟩
 | fuel+1,listed,a,F,w,hf,h=>by
  refine⟨fun h0=>hQ _ _ _ hf (h.1 h0),fun i hi=>?_⟩
  have h1:=h.2 i hi;obtain⟨hun,o,ho,_⟩:=mem_ready.1 hi;unfold OF at h1;simp only[ho] at h1;obtain⟨x,hp,hy,hK⟩:=h1;unfold wpOpIn;simp only[ho];have hs:o.semAt G.round a.eval=execOp a.eval o:=Oper.semAt_eq _ _ _ (hdf i o ho);cases x with
  | val v=>
   simp only[Xg] at hy;rcases hy with ⟨hw,hr⟩|⟨hw,rfl⟩
   ·simp only[hw,if_true];have h3:=hr w hf.below;unfold Oper.wpIn;refine⟨fun _ _=>hO.fn _,?_⟩
    rw[hs];generalize (execOp a.eval o).run P w=r at *;cases r with
    | ok n w'=>
     cases n<;>simp only[VK] at h3<;>simp only[Oper.uponIn]
     case value u=>
      obtain⟨e1,e2⟩:=h3;rw[e1,e2];exact Z3 hO hdf hQ fuel _ _ F w hf hK
     case skip=>
      obtain⟨e1,e2⟩:=h3;rw[e1,<-e2];exact Z3 hO hdf hQ fuel _ _ F w hf hK
     case enter f args=>
      obtain⟨e1,hc⟩:=h3;rw[e1];exact⟨fun h=>(hO.dep h).elim,hO.calls (hc.mono fun e w'' ⟨he,hw''⟩=>by subst he;exact Z3 hO hdf hQ fuel _ _ F w'' (hf.go hw'') hK)⟩
    | halt x w'=>simp only[VK] at h3
   ·simp only[hw,Bool.false_eq_true,if_false];exact⟨fun _ _=>hO.fn _,Z3 hO hdf hQ fuel _ _ F w hf hK⟩
  | get b ob v=>
   obtain⟨-,hw,hr⟩:=hy;simp only[hw,if_true];unfold Oper.wpIn;refine⟨fun _ _=>hO.fn _,?_⟩
   rw[hs,hr w hf.below (hf.box b ob hp)];simp only[Oper.uponIn];exact Z3 hO hdf hQ fuel _ _ F w hf hK
  | put b ob0 ob=>
   obtain⟨-,hw,hr⟩:=hy;simp only[hw,if_true];obtain⟨w',hr1,hr2⟩:=hr w hf.below (hf.box b ob0 hp);unfold Oper.wpIn;refine⟨fun _ _=>hO.fn _,?_⟩
   rw[hs,hr1];simp only[Oper.uponIn];exact Z3 hO hdf hQ fuel _ _ _ w' (hf.turn hp hr2) hK
def J0 (l:List Oper):Bool:=l.all fun o=>match o.op with|.defer _=>false|_=>true
theorem Vx {G:Fence} {n:Nat} (hO:JZ P G) (tch:Nat->List Nat) {id:Nat} {Q:Exit->Act->World->Prop} {a:Act} {w:World} {l:List Oper} (F:Fx) (hm:P.follows .mixedOrders=true) (hB:Region.lexB .any l.toArray=true) (hd:J0 l=true)
  (hF:∀b ob,F b=some ob->w.heap[b]?=some ob)
  (h:Yz P l.toArray .any tch (Zr (fun b=>F b≠none) w) (fun a' F'=>∀w',WE (fun b=>F b≠none) w F' w'->Q .normal a' w') l 0 a F):(Code.region id l.toArray true).wpIn G n P Q a w:=by
 simp only[Region.lexB,Bool.and_eq_true] at hB;refine wpIn_region_any hm ?_;have hf:WE (fun b=>F b≠none) w F { w with drawn:=w.drawn+1 }:=⟨⟨rfl,rfl,rfl,Nl _,fun _ _ _=>rfl⟩,hF,fun _ h=>h⟩
 have hdf:∀(i:Nat) (o:Oper),l.toArray[i]?=some o->∀c,o.op≠.defer c:=fun i o ho c hc=>by
  have:=(List.all_eq_true.1 hd) o (Lm (by simpa using ho))
  rw[hc] at this;cases this
 refine Z3 (tch:=tch) hO hdf (Q:=fun a' F'=>∀w',WE (fun b=>F b≠none) w F' w'->Q .normal a' w') (fun a' F' w' hf' h'=>h' w' hf') _ _ a F _ hf ?_
 have:=PS (tch:=tch) (C:=Zr (fun b=>F b≠none) w) (md:=.any) hB.1 l 0 (Array.replicate l.toArray.size false) a F (by simp) (by simpa using hB.2) h
 simpa using this
theorem Z0 (tch:Nat->List Nat) {id:Nat} {Q:Exit->Act->World->Prop} {a:Act} {w:World} {l:List Oper} (F:Fx) (hm:P.follows .mixedOrders=true) (hB:Region.lexB .any l.toArray=true) (hd:J0 l=true)
  (hF:∀b ob,F b=some ob->w.heap[b]?=some ob)
  (h:Yz P l.toArray .any tch (Zr (fun b=>F b≠none) w) (fun a' F'=>∀w',WE (fun b=>F b≠none) w F' w'->Q .normal a' w') l 0 a F):(Code.region id l.toArray true).wp P Q a w:=
 wpIn_wide.1 (Vx (n:=0) KJ tch F hm hB hd hF h)
variable {Q:Act->Fx->Prop} {o:Oper} {rest:List Oper} {i:Nat} {a:Act} {F:Fx}
theorem Zj (v:Value) (hw:Region.wanted o (yielded ops a.tmps)=true) (h:∀w,C w->(execOp a.eval o).run P w=.ok (.value v) w)
  (hn:Yz P ops md tch C Q rest (i+1) (a.put o.dst v) F):Yz P ops md tch C Q (o::rest) i a F:=
 ⟨.val v,trivial,.inl ⟨hw,fun w hc=>by rw[h w hc];exact⟨rfl,rfl⟩⟩,hn⟩
theorem Yp (f:FuncId) (args:Array Value) (v:Value) (hw:Region.wanted o (yielded ops a.tmps)=true) (h:∀w,C w->(execOp a.eval o).run P w=.ok (.enter f args) w)
  (hc:∀w,C w->Calls P f args w fun e w'=>e=.returned v/\Below w.heap.size w w')
  (hn:Yz P ops md tch C Q rest (i+1) (a.put o.dst v) F):Yz P ops md tch C Q (o::rest) i a F:=
 ⟨.val v,trivial,.inl ⟨hw,fun w hC=>by rw[h w hC];exact⟨rfl,hc w hC⟩⟩,hn⟩
theorem Xr (b:Nat) (cs:Array Value) (t:TypeId) (v:Value) (hp:F b=some (.cells cs t (0,0))) (ht:i∈tch b) (hw:Region.wanted o (yielded ops a.tmps)=true)
  (h:∀w,C w->(∀m,w.cell? ⟨b,m,none⟩=cs[m]?)->(execOp a.eval o).run P w=.ok (.value v) w)
  (hn:Yz P ops md tch C Q rest (i+1) (a.put o.dst v) F):Yz P ops md tch C Q (o::rest) i a F:=
 ⟨.get b _ v,hp,⟨ht,hw,fun w hc hb=>h w hc (fun m=>Zh hb m)⟩,hn⟩
theorem Xs (b j:Nat) (cs:Array Value) (x:Value) (t:TypeId) (hp:F b=some (.cells cs t (0,0))) (ht:i∈tch b)
  (hwt:∀j oj,j∈tch b->j≠i->ops[j]?=some oj->Xm md o j∨Xm md oj i) (hw:Region.wanted o (yielded ops a.tmps)=true)
  (h:∀w,C w->(∀m,w.cell? ⟨b,m,none⟩=cs[m]?)->(∀m,w.frozen? ⟨b,m,none⟩=false)->(execOp a.eval o).run P w=.ok .skip (w.setCell ⟨b,j,none⟩ x))
  (hn:Yz P ops md tch C Q rest (i+1) (a.put o.dst undef) (fun k=>if k=b then some (.cells (cs.setIfInBounds j x) t (0,0)) else F k)):Yz P ops md tch C Q (o::rest) i a F:=
 ⟨.put b (.cells cs t (0,0)) (.cells (cs.setIfInBounds j x) t (0,0)),hp,⟨⟨ht,hwt⟩,hw,fun w hc hb=>
  ⟨_,h w hc (fun m=>Zh hb m) (fun m=>Zq hb m),JY w b j cs x t hb⟩⟩,hn⟩
theorem Y9 {w:World} {R:Exit->Act->World->Prop} {X:Nat->Prop} (h:∀w',WE X w F w'->R .normal a w'):Yz P ops md tch C (fun a' F'=>∀w',WE X w F' w'->R .normal a' w') [] i a F:=h
end
def NN (md:Region.Mode) (o:Oper) (i:Nat):Bool:=o.after.any fun e=>Region.binds md e&&e.on==i
theorem QE {md:Region.Mode} {o:Oper} {i:Nat} (h:NN md o i=true):Xm md o i:=by
 unfold NN at h;obtain⟨k,hk,hb⟩:=Array.any_eq_true.1 h;simp only[Bool.and_eq_true,beq_iff_eq] at hb;exact⟨o.after[k],Array.getElem_mem hk,hb.1,hb.2⟩
def AB (md:Region.Mode) (ops:Array Oper) (o:Oper) (i:Nat) (l:List Nat):Bool:=l.all fun j=>j==i||(match ops[j]? with|none=>true|some oj=>NN md o j||NN md oj i)
theorem ZJ {md:Region.Mode} {ops:Array Oper} {o:Oper} {i:Nat} {l:List Nat} (h:AB md ops o i l=true):∀j oj,j∈l->j≠i->ops[j]?=some oj->Xm md o j∨Xm md oj i:=fun j oj hj hn ho=>by
 have:=List.all_eq_true.1 h j hj
 rw[ho] at this;simp only[Bool.or_eq_true,beq_iff_eq] at this;rcases this with e|e|e
 ·exact absurd e hn
 ·exact .inl (QE e)
 ·exact .inr (QE e)
open Go.Shelf Num
attribute [local go_sem] Oper.semAt_some
def ofL (ins:List UInt8) (xs:List Lot):List Lot:=xs.filter (fun x=>x.ins==ins)
theorem J2 {ins:List UInt8} {x:Lot} {r:List Lot} (h:x.ins=ins):ofL ins (x::r)=x::ofL ins r:=by unfold ofL;rw[List.filter_cons_of_pos (by simpa using h)]
theorem AC {ins:List UInt8} {x:Lot} {r:List Lot} (h:¬x.ins=ins):ofL ins (x::r)=ofL ins r:=by unfold ofL;rw[List.filter_cons_of_neg (by simpa using h)]
def ZaA (Kp:World->Prop) (gf:Nat) (lb:Array Value) (qs:List Lot):Prop:=
 ∀(m lw:Nat) (S:List Lot->World->Prop),(∀ys W,S ys W->Kp W)->(∀ys W W',S ys W->Below W.heap.size W W'->S ys W')->
  (∀ys y W,S ys W->qs[ys.length]?=some y->YieldAt Fence.wide (m-1) Tryz.prog lw #[(Value.agg #[Value.string ⟨y.id.toArray⟩,Value.string ⟨y.ins.toArray⟩,Value.int .i64 y.acq,Value.int .i64 y.opn,Value.string ⟨y.q.toArray⟩,Value.string ⟨y.cost.toArray⟩,Value.string ⟨y.used.toArray⟩])] W fun e W'=>e=.returned (.bool true)/\S (ys++[y]) W')->
  ∀W,S [] W->CallsIn Fence.wide m Tryz.prog gf (#[.func (.yield lw) #[] #[]]++lb) W fun e W'=>(∃v,e=.returned v)/\S qs W'
theorem J3 (bl bi:Nat) (ins:List UInt8) (A:Option Addr) (xs:List Lot) (n c:Nat) (hn:xs.length=n) (hn3:n<=100000) :
  ZaA (fun W=>Vw W A xs/\Blk W bl #[.slice A n c]/\Blk W bi #[.string ⟨ins.toArray⟩]) 141 #[.pointer (some ⟨bl,0,none⟩),.pointer (some ⟨bi,0,none⟩)] (ofL ins xs):=by
 intro m lw S hSB hSm hY W hS;have HB:=Lh hSB;have HM:=Lh hSm;have HY:=Lh hY;have HX:=Lh hS;have hn1:xs.length<=n:=by omega
 have hn2:n<=xs.length:=by omega
 have hbl':=(hSB _ _ hS).2.1;have q0:W.cell? ⟨bl,0,none⟩=some (.slice A n c):=hbl'.c 0;clear hSB hSm hY hS hn hbl';show CallsIn Fence.wide m Tryz.prog 141 #[.func (.yield lw) #[] #[],.pointer (some ⟨bl,0,none⟩),.pointer (some ⟨bi,0,none⟩)] W _;refine callsIn_of_wp Tryz.func141 rfl trivial ?_ rfl;simp only[Tryz.ntmps141,List.size_toArray,List.length_cons,List.length_nil,Nat.reduceAdd,Nat.reduceSub,Array.replicate_succ,Array.replicate_zero,List.push_toArray,List.append_toArray,List.nil_append,List.cons_append]
 gi_wp2_with fail
 clear q0
 gi_loopw [5,8] (fun _ iv wr=>∃(k:Nat) (ys:List Lot),k<=n/\iv=.int .i64 (k:Int)/\Hid (ys++ofL ins (xs.drop k)=ofL ins xs)/\Hid (S ys wr)) (fun _ iv _=>n-(intOf iv).toNat)
 case atStart=>exact⟨0,[],Nat.zero_le _,rfl,rfl,HX.out⟩
 case round=>
  clear HX;obtain⟨k,ys,hk,rfl,HQ,HX⟩:=hrel;obtain⟨hLt,-,hbi⟩:=HB.out _ _ HX.out
  by_cases hlk:k<n
  rotate_left
  ·have HE:Hid (S (ofL ins xs) wr):=by
    have h1:=HQ.out;rw[List.drop_of_length_le (by omega),show ofL ins []=[] from rfl,List.append_nil] at h1
    show S _ wr;rw[<-h1];exact HX.out
   have e1:decide (k<n)=false:=Df hlk;clear HQ HX hLt hbi
   gi_wp2
   go_end0
   exact⟨⟨_,rfl⟩,HE.out⟩
  have e1:decide (k<n)=true:=Dt hlk;obtain⟨x,hxk⟩:∃x,xs[k]?=some x:=⟨_,List.getElem?_eq_getElem (by omega)⟩
  obtain⟨b,o,rfl,hbs,hc0⟩:=hLt k x hxk;have HD:Hid (xs.drop k=x::xs.drop (k+1)):=by
   obtain⟨hk',rfl⟩:=Lg.1 hxk;exact List.drop_eq_getElem_cons hk'
  clear hxk;have p0:=hc0.c0;have p1:=hc0.c1;have p2:=hc0.c2;have p3:=hc0.c3;have p4:=hc0.c4;have p5:=hc0.c5;have p6:=hc0.c6;have hbA:=Zd wr (.cells #[Value.string ⟨x.id.toArray⟩,Value.string ⟨x.ins.toArray⟩,Value.int .i64 x.acq,Value.int .i64 x.opn,Value.string ⟨x.q.toArray⟩,Value.string ⟨x.cost.toArray⟩,Value.string ⟨x.used.toArray⟩] 130);have x5:=Xf.new wr x 130;obtain⟨W1,hW1⟩:∃W1,W1=wr.alloc (.cells #[Value.string ⟨x.id.toArray⟩,Value.string ⟨x.ins.toArray⟩,Value.int .i64 x.acq,Value.int .i64 x.opn,Value.string ⟨x.q.toArray⟩,Value.string ⟨x.cost.toArray⟩,Value.string ⟨x.used.toArray⟩] 130):=⟨_,rfl⟩
  rw[<-hW1] at hbA x5;have HX1:=Lh (HM.out _ _ _ HX.out hbA);have hbi':W1.cell? ⟨bi,0,none⟩=some (.string ⟨ins.toArray⟩):=(hbi.below hbA).c 0;have q1:=x5.c1;rw[hW1] at hbi' q1
  by_cases hi:x.ins=ins
  ·have e3:(x.ins==ins)=true:=by rw[beq_iff_eq];exact hi
   have hq:(ofL ins xs)[ys.length]?=some x:=by
    rw[<-HQ.out,HD.out,J2 hi];simp
   have HQ2:Hid ((ys++[x])++ofL ins (xs.drop (k+1))=ofL ins xs):=by
    show _=_;rw[List.append_assoc,List.singleton_append,<-HQ.out,HD.out,J2 hi]
   have HYY:=Lh (HY.out ys x W1 HX1.out hq);have q0:=x5.c0;have q2:=x5.c2;have q3:=x5.c3;have q4:=x5.c4;have q5:=x5.c5;have q6:=x5.c6;rw[hW1] at q0 q2 q3 q4 q5 q6;clear hi hq HX HX1 HQ HD hLt hbi hbA x5 hc0
   gi_wp2_with fail
   rw[<-hW1];obtain⟨fn,tmps,assign,body,hyr,hR⟩:=HYY.out;rw[hyr];refine⟨fun h=>(by cases h),hR.mono ?_⟩
   rintro e W3 ⟨rfl,hS3⟩;have HX4:=Lh hS3;clear hS3 hR hyr hW1
   gi_wp2
   go_roundw
   case rel=>exact⟨k+1,ys++[x],by omega,by go_num,HQ2.out,HX4.out⟩
   case measure=>simp[intOf];omega
  ·have e3:(x.ins==ins)=false:=by rw[Bn];exact hi
   have HQ2:Hid (ys++ofL ins (xs.drop (k+1))=ofL ins xs):=by show _=_;rw[<-HQ.out,HD.out,AC hi]
   rw[hW1] at HX1;clear hi HX HQ HD hLt hbi hbA x5 hc0 hW1
   gi_wp2_with fail
   refine⟨fun f h=>(by cases h),?_⟩
   gi_wp2
   go_roundw
   case rel=>exact⟨k+1,ys,by omega,by go_num,HQ2.out,HX1.out⟩
   case measure=>simp[intOf];omega
theorem AD (bl bi:Nat) (ins:List UInt8) (A:Option Addr) (xs:List Lot) (n c:Nat) (w:World) (hn:xs.length=n) (hn3:n<=100000) (h:Vw w A xs) (hbl:Blk w bl #[.slice A n c]) (hbi:Blk w bi #[.string ⟨ins.toArray⟩]) :
  FP w 141 #[.pointer (some ⟨bl,0,none⟩),.pointer (some ⟨bi,0,none⟩)] (ofL ins xs):=fun m lw S h1 h2 h3 W h4=>
 J3 bl bi ins A xs n c hn hn3 m lw S (fun ys W hS=>⟨h.below (h1 ys W hS),hbl.below (h1 ys W hS),hbi.below (h1 ys W hS)⟩) h2 h3 W h4
theorem FT (A:Option Addr) (n c:Nat) (ins:List UInt8) (w:World) :
  Calls Tryz.prog 65 #[.slice A n c,.string ⟨ins.toArray⟩] w fun e w'=>e=.returned (.func (.func 141) #[] #[.pointer (some ⟨w.heap.size,0,none⟩),.pointer (some ⟨w.heap.size+1,0,none⟩)])/\w'=(w.alloc (.cells #[.slice A n c] 44)).alloc (.cells #[.string ⟨ins.toArray⟩] 9):=by
 go_enter Tryz.func65,Tryz.ntmps65;go_wp2_with fail;go_ret;exact⟨rfl,rfl⟩
theorem MN (args:Array Value) (w:World):(callFunc 141 args).run Tryz.prog w=.ok (.enter 141 args) w:=by kernel_rfl
theorem lOf {w:World} {A:Option Addr} {xs:List Lot} {n:Nat} (c:Nat) (ins:List UInt8) (hL:Xl w A xs n) :
  Calls Tryz.prog 123 #[.slice A n c,.string ⟨ins.toArray⟩] w fun e w'=>∃v,e=.returned v/\w'.ownsRow w.heap.size 130 7 v (ofL ins xs).length (Z8 (ofL ins xs))/\Below w.heap.size w w':=by
 have hl:(ofL ins xs).length<=100000:=Nt (List.length_filter_le _ _) (by rw[hL.len];exact hL.big)
 have hb1:=Zd w (.cells #[.slice A n c] 44);have hb2:=Zd (w.alloc (.cells #[.slice A n c] 44)) (.cells #[.string ⟨ins.toArray⟩] 9);have x1:=(Blk.new w #[.slice A n c] 44).below hb2;have x2:=Blk.new (w.alloc (.cells #[.slice A n c] 44)) #[.string ⟨ins.toArray⟩] 9;rw[World.size_alloc] at x2;have hb:=bto hb1 hb2;have hI:=AD w.heap.size (w.heap.size+1) ins A xs n c _ hL.len hL.big (hL.mem.below hb) x1 x2;have C1:=Lh (FT A n c ins w);clear hb1 hb2 x1 x2;have C2:=Lh (FQ 141 _ (ofL ins xs) _ MN hI hl);obtain⟨W,hW⟩:∃W,W=(w.alloc (.cells #[.slice A n c] 44)).alloc (.cells #[.string ⟨ins.toArray⟩] 9):=⟨_,rfl⟩
 rw[<-hW] at C1 C2 hb;have hsz:w.heap.size<=W.heap.size:=hb.size;clear hW hI hl;go_enter Tryz.func123,Tryz.ntmps123;go_wp2_with fail
 with_reducible refine C1.out.mono ?_
 rintro e w1 ⟨rfl,rfl⟩;go_wp2_with fail;refine C2.out.mono ?_;rintro e w2 ⟨v,rfl,h1,h2⟩;go_wp2;go_ret;exact⟨_,rfl,S7 h1 hsz,bto hb h2⟩
def XO (xs:List Lot):Int:=(xs.map (fun x=>val x.q)).sum
def Vy (xs:List Lot):Int:=(xs.map (fun x=>val x.cost)).sum
theorem KM (xs:List Lot) (x:Lot):XO (xs++[x])=XO xs+val x.q:=by simp[XO]
theorem KN (xs:List Lot) (x:Lot):Vy (xs++[x])=Vy xs+val x.cost:=by simp[Vy]
theorem FU (f:Lot->Int) (K:Nat):∀(xs:List Lot),(∀x∈xs,(f x).natAbs<=K)->((xs.map f).sum).natAbs<=xs.length*K
 | [],_=>by simp
 | x::r,h=>by
  have h1:=FU f K r (fun y hy=>h y (List.mem_cons_of_mem _ hy))
  have h2:=h x List.mem_cons_self;have h3:=Int.natAbs_add_le (f x) ((r.map f).sum);rw[List.map_cons,List.sum_cons,List.length_cons,Nat.add_mul,Nat.one_mul];omega
theorem PU (e:Nat) (f:Lot->List UInt8) (xs:List Lot) (hx:∀x∈xs,(f x).length<=e) (hn:xs.length<=100000):(canon ((xs.map (fun x=>val (f x))).sum)).length<=e+8:=by
 have h1:=FU (fun x=>val (f x)) (10 ^ e) xs (fun x h=>Nat.le_of_lt (Zo (hx x h)))
 refine Nt (Zn _ (e+6) ?_) (by omega)
 have h2:xs.length*10 ^ e<=100000*10 ^ e:=Nat.mul_le_mul_right _ hn;have h3:(100000:Nat)*10 ^ e<10 ^ (e+6):=by
  rw[Nat.pow_add,Nat.mul_comm];exact Nat.mul_lt_mul_of_pos_left (by decide) (Nat.pow_pos (by decide))
 omega
theorem VD (f:Lot->List UInt8) (xs:List Lot) (hx:∀x∈xs,(f x).length<=1000) (hn:xs.length<=100000):(canon ((xs.map (fun x=>val (f x))).sum)).length<=100000:=
 Nt (PU 1000 f xs hx hn) (by decide)
structure XH (w:World) (v1 v2:Value) (R:Loop) (d l:Nat) (ys:List Lot) (W:World):Prop where
 b1:Blk W (w.heap.size+1+1) #[v1]
 b2:Blk W (w.heap.size+1+1+1) #[v2]
 below:Below w.heap.size w W
 loop:W.heap[l]?=some (.loop R)
 dfr:W.heap[d]?=some (.deferred (some []))
 qb:Blk W w.heap.size #[.string ⟨(canon (XO ys)).toArray⟩]
 cb:Blk W (w.heap.size+1) #[.string ⟨(canon (Vy ys)).toArray⟩]
 sm:ys.length<=100000/\∀y∈ys,PO y
section
variable {w W W':World} {v1 v2:Value} {R:Loop} {d l:Nat} {ys:List Lot}
theorem XH.mono (h:XH w v1 v2 R d l ys W) (hb:Below W.heap.size W W'):XH w v1 v2 R d l ys W':=
 ⟨h.b1.below hb,h.b2.below hb,bto h.below hb,(hb.block _ (Ag.1 h.loop).1).trans h.loop,(hb.block _ (Ag.1 h.dfr).1).trans h.dfr,h.qb.below hb,h.cb.below hb,h.sm⟩
theorem XH.done {R1 R2:Loop} (hR:R2=R) (hl:l≠d/\w.heap.size+3<l) (h:XH w v1 v2 R1 d l ys W):XH w v1 v2 R d l ys (W.putObj l (.loop R2)):=by
 subst hR;exact⟨h.b1.putO (by omega),h.b2.putO (by omega),YG h.below (by omega),World.putObj_heap_same (Ag.1 h.loop).1,(World.putObj_heap_other (by omega)).trans h.dfr,h.qb.putO (by omega),h.cb.putO (by omega),h.sm⟩
theorem XH.step {X:Nat->Prop} (h:XH w v1 v2 R d l ys W) {y:Lot} (hy:PO y) (hn:ys.length<100000) (hX:∀k,X k->k=w.heap.size∨k=w.heap.size+1) (hl:w.heap.size+1<l/\w.heap.size+1<d) (hb:Zr X W W')
  (h1:Blk W' w.heap.size #[.string ⟨(canon (XO ys+val y.q)).toArray⟩]) (h2:Blk W' (w.heap.size+1) #[.string ⟨(canon (Vy ys+val y.cost)).toArray⟩]):XH w v1 v2 R d l (ys++[y]) W':=by
 refine⟨h.b1.keepX hb (fun hx=>by rcases hX _ hx with e|e<;>omega),h.b2.keepX hb (fun hx=>by rcases hX _ hx with e|e<;>omega),hb.lower h.below (fun k hk=>by rcases hX k hk with rfl|rfl<;>omega),(hb.block _ (Ag.1 h.loop).1 (fun hx=>by rcases hX _ hx with e|e<;>omega)).trans h.loop,(hb.block _ (Ag.1 h.dfr).1 (fun hx=>by rcases hX _ hx with e|e<;>omega)).trans h.dfr,?_,?_,⟨by simp;omega,fun z hz=>?_⟩⟩
 ·rw[KM];exact h1
 ·rw[KN];exact h2
 ·rcases List.mem_append.1 hz with hz|hz
  ·exact h.sm.2 z hz
  ·rw[List.mem_singleton.1 hz];exact hy
end
theorem AE {w:World} {A:Option Addr} {xs:List Lot} {n:Nat} (c:Nat) (ins:List UInt8) (hG:GE w) (hL:Xl w A xs n) :
  Calls Tryz.prog 21 #[.slice A n c,.string ⟨ins.toArray⟩] w fun e w'=>e=.returned (.tuple #[.string ⟨(canon (XO (ofL ins xs))).toArray⟩,.string ⟨(canon (Vy (ofL ins xs))).toArray⟩])/\Below w.heap.size w w':=by
 have hsm:∀y∈ofL ins xs,PO y:=fun y hy=>hL.sm y (List.mem_filter.1 hy).1
 have hln:(ofL ins xs).length<=100000:=Nt (List.length_filter_le _ _) (by rw[hL.len];exact hL.big)
 have hb1:=Zd w (.cells #[.string ⟨#[]⟩] 32);have hb2:=Zd (w.alloc (.cells #[.string ⟨#[]⟩] 32)) (.cells #[.string ⟨#[]⟩] 32);have y6:=(Blk.new w #[.string ⟨#[]⟩] 32).below hb2;have y7:=Blk.new (w.alloc (.cells #[.string ⟨#[]⟩] 32)) #[.string ⟨#[]⟩] 32;rw[World.size_alloc] at y7;have hb:=bto hb1 hb2;obtain⟨wa,hwa⟩:∃wa,wa=(w.alloc (.cells #[.string ⟨#[]⟩] 32)).alloc (.cells #[.string ⟨#[]⟩] 32):=⟨_,rfl⟩
 have hsa:wa.heap.size=w.heap.size+1+1:=by rw[hwa,World.size_alloc,World.size_alloc]
 have HWa:=Lh hwa;rw[<-hwa] at y6 y7 hb;have hb3:=Zd wa (.cells #[.slice A n c] 44);have hb4:=Zd (wa.alloc (.cells #[.slice A n c] 44)) (.cells #[.string ⟨ins.toArray⟩] 9);have x1:=(Blk.new wa #[.slice A n c] 44).below hb4;have x2:=Blk.new (wa.alloc (.cells #[.slice A n c] 44)) #[.string ⟨ins.toArray⟩] 9;rw[World.size_alloc] at x2;have hb34:=bto hb3 hb4;replace y6:=y6.below hb34;replace y7:=y7.below hb34;have hI:=J3 (w.heap.size+1+1) (w.heap.size+1+1+1) ins A xs n c hL.len hL.big;have hLm:=Lh hL.mem;have C1:=Lh (FT A n c ins wa);replace hb:=bto hb hb34;obtain⟨W0,hW0⟩:∃W0,W0=(wa.alloc (.cells #[.slice A n c] 44)).alloc (.cells #[.string ⟨ins.toArray⟩] 9):=⟨_,rfl⟩
 have hs0:W0.heap.size=wa.heap.size+1+1:=by rw[hW0,World.size_alloc,World.size_alloc]
 rw[<-hW0] at C1 y6 y7 hb x1 x2;rw[hsa] at x1 x2;have HI:=Lh hI;have HSM:=Lh hsm;clear hW0 hb1 hb2 hb3 hb4 hb34 hI hwa hsm hL;refine (callsIn_wide (n:=5)).1 ?_;refine callsIn_of_wp_marks Tryz.func21 rfl trivial ?_ rfl;simp only[Tryz.ntmps21,List.size_toArray,List.length_cons,List.length_nil,Nat.reduceAdd,Nat.reduceSub,Array.replicate_succ,Array.replicate_zero,List.push_toArray,List.append_toArray,List.nil_append,List.cons_append]
 gi_wp2_with fail
 refine⟨trivial,?_⟩;rw[<-HWa.out]
 (with_reducible refine (callsIn_wide.2 C1.out).mono ?_)
 rintro e W0 ⟨rfl,rfl⟩
 gi_wp2_with fail
 refine XW (gf:=141) (lb:=#[.pointer (some ⟨w.heap.size+1+1,0,none⟩),.pointer (some ⟨w.heap.size+1+1+1,0,none⟩)]) rfl MN ?_;intro fn R hR;obtain⟨W1,hW1⟩:∃W1,W1=(W0.alloc (.deferred (some []))).alloc (.loop R):=⟨_,rfl⟩
 have hbB:Below W0.heap.size W0 W1:=by rw[hW1];exact bto (Zd _ _) (Zd _ _)
 have hD:W1.heap[W0.heap.size]?=some (.deferred (some [])):=by rw[hW1];exact (Below.heap_alloc _ _ _ (by simp)).trans (World.alloc_heap_new _ _)
 have hL:W1.heap[W0.heap.size+1]?=some (.loop R):=by
  rw[hW1]
  have:=World.alloc_heap_new (W0.alloc (.deferred (some []))) (.loop R)
  rwa [World.size_alloc] at this
 rw[<-hW1];obtain⟨l,hl⟩:∃l,l=W0.heap.size+1:=⟨_,rfl⟩
 obtain⟨d,hd⟩:∃d,d=W0.heap.size:=⟨_,rfl⟩
 rw[<-hl] at hL ⊢;rw[<-hd] at hD hR ⊢;have hS0:XH w (.slice A n c) (.string ⟨ins.toArray⟩) R d l [] W1:=⟨x1.below hbB,x2.below hbB,bto hb hbB,hL,hD,y6.below hbB,y7.below hbB,by simp,fun q hq=>by cases hq⟩
 have n1:l≠d/\w.heap.size+3<l:=by omega
 have n2:w.heap.size+1<l/\w.heap.size+1<d:=by omega
 have n3:w.heap.size<=d:=by omega
 have n4:w.heap.size≠d/\w.heap.size+1≠d:=by omega
 clear hW1 hbB hD hL y6 y7 x1 x2 hl hd hs0 hb C1 HWa hsa;have hY:∀ys y W,XH w (.slice A n c) (.string ⟨ins.toArray⟩) R d l ys W->(ofL ins xs)[ys.length]?=some y->YieldAt Fence.wide (5-1-1) Tryz.prog l #[(Value.agg #[Value.string ⟨y.id.toArray⟩,Value.string ⟨y.ins.toArray⟩,Value.int .i64 y.acq,Value.int .i64 y.opn,Value.string ⟨y.q.toArray⟩,Value.string ⟨y.cost.toArray⟩,Value.string ⟨y.used.toArray⟩])] W fun e W'=>e=.returned (.bool true)/\XH w (.slice A n c) (.string ⟨ins.toArray⟩) R d l (ys++[y]) W':=by
  intro ys y W hS hyb;have hlen:=(Lg.1 hyb).1;have hys:=HSM.out y (Lm hyb);have hy:=run_yield (P:=Tryz.prog) (args:=#[(Value.agg #[Value.string ⟨y.id.toArray⟩,Value.string ⟨y.ins.toArray⟩,Value.int .i64 y.acq,Value.int .i64 y.opn,Value.string ⟨y.q.toArray⟩,Value.string ⟨y.cost.toArray⟩,Value.string ⟨y.used.toArray⟩])]) hS.loop (by rw[hR];rfl)
  refine⟨R.fn,_,R.assign,R.body,hy,roundIn_of_wpIn trivial ?_⟩;have hlW:=(Ag.1 hS.loop).1;have hSa:=hS.mono (Zd W (.cells #[Value.string ⟨y.id.toArray⟩,Value.string ⟨y.ins.toArray⟩,Value.int .i64 y.acq,Value.int .i64 y.opn,Value.string ⟨y.q.toArray⟩,Value.string ⟨y.cost.toArray⟩,Value.string ⟨y.used.toArray⟩] 130));have hbr:=run_beginRound (P:=Tryz.prog) hSa.loop (by rw[hR])
  have hS1:XH w (.slice A n c) (.string ⟨ins.toArray⟩) { R with state:=.busy } d l ys ((W.alloc (.cells #[Value.string ⟨y.id.toArray⟩,Value.string ⟨y.ins.toArray⟩,Value.int .i64 y.acq,Value.int .i64 y.opn,Value.string ⟨y.q.toArray⟩,Value.string ⟨y.cost.toArray⟩,Value.string ⟨y.used.toArray⟩] 130)).putObj l (.loop { R with state:=.busy })):=XH.done rfl n1 hSa
  have x4:Blk ((W.alloc (.cells #[Value.string ⟨y.id.toArray⟩,Value.string ⟨y.ins.toArray⟩,Value.int .i64 y.acq,Value.int .i64 y.opn,Value.string ⟨y.q.toArray⟩,Value.string ⟨y.cost.toArray⟩,Value.string ⟨y.used.toArray⟩] 130)).putObj l (.loop { R with state:=.busy })) W.heap.size #[Value.string ⟨y.id.toArray⟩,Value.string ⟨y.ins.toArray⟩,Value.int .i64 y.acq,Value.int .i64 y.opn,Value.string ⟨y.q.toArray⟩,Value.string ⟨y.cost.toArray⟩,Value.string ⟨y.used.toArray⟩]:=(Blk.new W _ 130).putO (by omega)
  obtain⟨Wb,hWb⟩:∃Wb,Wb=(W.alloc (.cells #[Value.string ⟨y.id.toArray⟩,Value.string ⟨y.ins.toArray⟩,Value.int .i64 y.acq,Value.int .i64 y.opn,Value.string ⟨y.q.toArray⟩,Value.string ⟨y.cost.toArray⟩,Value.string ⟨y.used.toArray⟩] 130)).putObj l (.loop { R with state:=.busy }):=⟨_,rfl⟩
  rw[<-hWb] at hbr hS1 x4;have hRe:({ { R with state:=.busy } with state:=.ready,pending:=none }:Loop)=R:=by rw[hR]
  obtain⟨R1,hR1⟩:∃R1,R1={ R with state:=.busy }:=⟨_,rfl⟩
  rw[<-hR1] at hS1 hRe;have hl1:(canon (XO ys)).length<=100000:=VD (·.q) ys (fun z hz=>(hS1.sm.2 z hz).q) hS1.sm.1
  have hl2:(canon (Vy ys)).length<=100000:=VD (·.cost) ys (fun z hz=>(hS1.sm.2 z hz).cost) hS1.sm.1
  have hl3:=hys.q;have hl4:=hys.cost;have HC1:=Lh (Ret.e (Xa (l:=canon (XO ys)) (l':=y.q) (by omega) (by omega) (z:=XO ys+val y.q) (by rw[Zg])))
  have HC2:=Lh (Ret.e (Xa (l:=canon (Vy ys)) (l':=y.cost) (by omega) (by omega) (z:=Vy ys+val y.cost) (by rw[Zg])))
  have HST:Hid (∀W' (X:Nat->Prop),(∀k,X k->k=w.heap.size∨k=w.heap.size+1)->Zr X Wb W'->Blk W' w.heap.size #[.string ⟨(canon (XO ys+val y.q)).toArray⟩]->Blk W' (w.heap.size+1) #[.string ⟨(canon (Vy ys+val y.cost)).toArray⟩]->XH w (.slice A n c) (.string ⟨ins.toArray⟩) R1 d l (ys++[y]) W'):=fun W' X hX hb h1 h2=>hS1.step hys (by omega) hX n2 hb h1 h2
  have hx4:W.heap.size≠w.heap.size/\W.heap.size≠w.heap.size+1:=by
   have:=hS.cb.ltB
   omega
  have HBr:=Lh hbr;have HRe:=Lh hRe;have HS2:=Lh hS1;have hqb:=hS1.qb;have hcb:=hS1.cb;have hbW:=hS1.below;obtain⟨cq,hcq⟩:∃cq,cq=canon (XO ys):=⟨_,rfl⟩
  obtain⟨cc,hcc⟩:∃cc,cc=canon (Vy ys):=⟨_,rfl⟩
  obtain⟨nq,hnq⟩:∃nq,nq=canon (XO ys+val y.q):=⟨_,rfl⟩
  obtain⟨nc,hnc⟩:∃nc,nc=canon (Vy ys+val y.cost):=⟨_,rfl⟩
  rw[<-hcq] at HC1 hqb;rw[<-hcc] at HC2 hcb;rw[<-hnq] at HC1 HST;rw[<-hnc] at HC2 HST;have n5:w.heap.size≠w.heap.size+1:=by omega
  clear hWb hbr hy hS hSa hlW hS1 hRe hR1 hlen hyb hl1 hl2 hl3 hl4 hcq hcc hnq hnc hys hS0;rw[hR]
  gi_wp2
  refine⟨_,HBr.out,?_⟩
  gi_wp2_with fail
  obtain⟨tq,htq⟩:=hqb;obtain⟨tc,htc⟩:=hcb;obtain⟨tch,htch⟩:∃tch:Nat->List Nat,tch=fun b=>if b=w.heap.size then [0,8] else if b=w.heap.size+1 then [4,9] else []:=⟨_,rfl⟩
  obtain⟨F,hFd⟩:∃F:Fx,F=fun b=>if b=w.heap.size then some (.cells #[.string ⟨cq.toArray⟩] tq (0,0)) else if b=w.heap.size+1 then some (.cells #[.string ⟨cc.toArray⟩] tc (0,0)) else none:=⟨_,rfl⟩
  have f1:F w.heap.size=some (.cells #[.string ⟨cq.toArray⟩] tq (0,0)):=by rw[hFd];simp
  have f2:F (w.heap.size+1)=some (.cells #[.string ⟨cc.toArray⟩] tc (0,0)):=by rw[hFd];simp
  have hXX:∀k,F k≠none->k=w.heap.size∨k=w.heap.size+1:=fun k hk=>by
   rw[hFd] at hk
   by_cases h1:k=w.heap.size
   ·exact .inl h1
   ·by_cases h2:k=w.heap.size+1
    ·exact .inr h2
    ·simp[h1,h2] at hk
  have hlow:∀k,F k≠none->w.heap.size<=k:=fun k hk=>by rcases hXX k hk with rfl|rfl<;>omega
  have hnx:¬(F W.heap.size≠none):=fun hk=>by rcases hXX _ hk with e|e;exact hx4.1 e;exact hx4.2 e
  have hFF:∀b ob,F b=some ob->Wb.heap[b]?=some ob:=fun b ob hb=>by
   rcases hXX b (by rw[hb];simp) with rfl|rfl
   ·rw[f1] at hb;rw[<-Option.some.inj hb];exact htq
   ·rw[f2] at hb;rw[<-Option.some.inj hb];exact htc
  have hq8:(fun k=>if k=w.heap.size then some (Obj.cells (#[Value.string ⟨cq.toArray⟩].setIfInBounds 0 (.string ⟨nq.toArray⟩)) tq (0,0)) else F k) (w.heap.size+1)=some (.cells #[.string ⟨cc.toArray⟩] tc (0,0)):=by
   show (if w.heap.size+1=w.heap.size then _ else F (w.heap.size+1))=_
   rw[if_neg (by omega),f2]
  refine Vx (MM l) tch F (by kernel_rfl) (by kernel_rfl) (by kernel_rfl) hFF ?_
  refine Xr (w.heap.size) #[.string ⟨cq.toArray⟩] tq _ f1 (by simp[htch]) rfl (fun wz hw hc=>by have q0:=hc 0;go_simp;try with_reducible rfl) ?_
  simp only[Act.put,StT,StZ,StS,Nat.reduceAdd];refine Zj _ rfl (fun wz hw=>by go_simp;try with_reducible rfl) ?_
  simp only[Act.put,StT,StZ,StS,Nat.reduceAdd];refine Zj _ rfl (fun wz hw=>by have q0:wz.cell? ⟨W.heap.size,4,none⟩=some (.string ⟨y.q.toArray⟩):=(x4.keepX hw hnx).c 4;go_simp;try with_reducible rfl) ?_
  simp only[Act.put,StT,StZ,StS,Nat.reduceAdd];refine Yp _ _ _ rfl (fun wz hw=>by go_simp;try with_reducible rfl) (fun wz hw=>HC1.out.of hG (hw.lower hbW hlow)) ?_
  simp only[Act.put,StT,StZ,StS,Nat.reduceAdd];refine Xr (w.heap.size+1) #[.string ⟨cc.toArray⟩] tc _ f2 (by simp[htch]) rfl (fun wz hw hc=>by have q0:=hc 0;go_simp;try with_reducible rfl) ?_
  simp only[Act.put,StT,StZ,StS,Nat.reduceAdd];refine Zj _ rfl (fun wz hw=>by go_simp;try with_reducible rfl) ?_
  simp only[Act.put,StT,StZ,StS,Nat.reduceAdd];refine Zj _ rfl (fun wz hw=>by have q0:wz.cell? ⟨W.heap.size,5,none⟩=some (.string ⟨y.cost.toArray⟩):=(x4.keepX hw hnx).c 5;go_simp;try with_reducible rfl) ?_
  simp only[Act.put,StT,StZ,StS,Nat.reduceAdd];refine Yp _ _ _ rfl (fun wz hw=>by go_simp;try with_reducible rfl) (fun wz hw=>HC2.out.of hG (hw.lower hbW hlow)) ?_
  simp only[Act.put,StT,StZ,StS,Nat.reduceAdd];refine Xs (w.heap.size) 0 #[.string ⟨cq.toArray⟩] (.string ⟨nq.toArray⟩) tq f1 (by simp[htch]) (fun j oj hj=>ZJ (l:=[0,8]) (by kernel_rfl) j oj (by simpa [htch] using hj)) rfl (fun wz hw hc hf=>by have q0:=hc 0;have q1:=hf 0;go_simp;try with_reducible rfl) ?_
  simp only[Act.put,Nat.reduceAdd];refine Xs (w.heap.size+1) 0 #[.string ⟨cc.toArray⟩] (.string ⟨nc.toArray⟩) tc hq8 (by simp[htch]) (fun j oj hj=>ZJ (l:=[4,9]) (by kernel_rfl) j oj (by simpa [htch] using hj)) rfl (fun wz hw hc hf=>by have q0:=hc 0;have q1:=hf 0;go_simp;try with_reducible rfl) ?_
  simp only[Act.put,Nat.reduceAdd];refine Y9 (fun w4 hF4=>?_)
  have b1:Blk w4 w.heap.size #[.string ⟨nq.toArray⟩]:=⟨tq,hF4.box _ _ (by show (if w.heap.size=w.heap.size+1 then _ else if w.heap.size=w.heap.size then _ else _)=_;rw[if_neg (by omega),if_pos rfl];rfl)⟩
  have b2:Blk w4 (w.heap.size+1) #[.string ⟨nc.toArray⟩]:=⟨tc,hF4.box _ _ (by show (if w.heap.size+1=w.heap.size+1 then _ else _)=_;rw[if_pos rfl];rfl)⟩
  have HGO:=Lh (HST.out w4 _ hXX hF4.below b1 b2);clear hF4 HS2 HST x4 HBr HC1 HC2 b1 b2 hq8 hFF hnx hlow hXX f1 f2 hFd F htch tch htq htc tq tc
  gi_wp2
  exact⟨_,_,run_endRound (P:=Tryz.prog) none HGO.out.loop,rfl,XH.done (HRe.out.trans hR) n1 HGO.out⟩
 have key:=HI.out (5-1) l (XH w (.slice A n c) (.string ⟨ins.toArray⟩) R d l) (fun ys W h=>⟨hLm.out.below h.below,h.b1,h.b2⟩) (fun ys W W' h hb=>h.mono hb) hY W1 hS0
 refine key.mono ?_;rintro e W2 ⟨hv,hS2⟩;refine⟨hv,hS2.loop,?_⟩;have hS3:XH w (.slice A n c) (.string ⟨ins.toArray⟩) { R with state:=.exhausted } d l (ofL ins xs) (W2.putObj l (.loop { R with state:=.exhausted })):=XH.done rfl n1 hS2
 obtain⟨W3,hW3⟩:∃W3,W3=W2.putObj l (.loop { R with state:=.exhausted }):=⟨_,rfl⟩
 rw[<-hW3] at hS3 ⊢;have hD5:=hS3.dfr;have hb5:=hS3.below;have hqb:=hS3.qb;have hcb:=hS3.cb;obtain⟨cq,hcq⟩:∃cq,cq=canon (XO (ofL ins xs)):=⟨_,rfl⟩
 obtain⟨cc,hcc⟩:∃cc,cc=canon (Vy (ofL ins xs)):=⟨_,rfl⟩
 rw[<-hcq] at hqb;rw[<-hcc] at hcb;have HQ1:=Lh hcq;have HQ2:=Lh hcc;clear hW3 hS3 key hY hS2 hS0 hv HI hcq hcc
 gi_wp2_with fail
 refine wpIn_wide.2 ?_;refine Zm (by kernel_rfl) (by kernel_rfl) ?_
 refine Zb _ (fun _=>rfl) (fun ρ wz hw=>by have q0:wz.cell? ⟨w.heap.size,0,none⟩=some (.string ⟨cq.toArray⟩):=(hqb.below hw).c 0;go_simp;try with_reducible rfl) ?_
 simp only[Act.put,StT,StZ,StS,Nat.reduceAdd];refine Zb _ (fun _=>rfl) (fun ρ wz hw=>by have q0:wz.cell? ⟨w.heap.size+1,0,none⟩=some (.string ⟨cc.toArray⟩):=(hcb.below hw).c 0;go_simp;try with_reducible rfl) ?_
 iterate 2
  simp only[Act.put,StT,StZ,StS,Nat.reduceAdd];refine Zb _ (fun _=>rfl) (fun ρ wz hw=>by go_simp;try with_reducible rfl) ?_
 simp only[Act.put,StT,StZ,StS,Nat.reduceAdd];refine Zu (fun ρ w9 hF=>?_)
 have hD9:=(hF.below.block _ (Ag.1 hD5).1).trans hD5;have hb9:=bto hb5 hF.below;clear hF hqb hcb hb5 hD5
 gi_wp2
 refine⟨by simp,.inl ⟨_,_,rfl,run_takeDeferred hD9,?_⟩⟩
 refine⟨.tuple #[.string ⟨cq.toArray⟩,.string ⟨cc.toArray⟩],by simp[results,Tryz.results21,go_sem],?_⟩
 exact⟨by rw[HQ1.out,HQ2.out],YG hb9 n3⟩
end Go.Proofs.YtpieeldbamklkaaGreatDoor
namespace Go.Proofs.YtpieeldbamklkaaGreatDoor
open Go.RowKit Num
def Xb (w:World) (A:Option Addr) (rs:List (List UInt8)):Prop:=∀(i:Nat) (r:List UInt8),rs[i]?=some r->∃b o,A=some ⟨b,o,none⟩/\b<w.heap.size/\w.cell? ⟨b,o+i,none⟩=some (.string ⟨r.toArray⟩)
theorem Xb.below {w w':World} {A:Option Addr} {rs:List (List UInt8)} (h:Xb w A rs) (hb:Below w.heap.size w w'):Xb w' A rs:=fun i t ht=>by
 obtain⟨b,o,hA,hl,h0⟩:=h i t ht;exact⟨b,o,hA,Nat.lt_of_lt_of_le hl hb.size,(hb.cell (p:=⟨b,_,none⟩) hl).trans h0⟩
theorem SC {w:World} {b:Nat} {rs:List (List UInt8)} (hlt:b<w.heap.size) (h:∀i,i<rs.length->w.cell? ⟨b,0+i,none⟩=some (.string ⟨(rs.getD i []).toArray⟩)):Xb w (some ⟨b,0,none⟩) rs:=fun i r hr=>by
 obtain⟨hi,e⟩:=Lg.1 hr;have h2:=h i hi;rw[List.getD_eq_getElem?_getD,hr] at h2;exact⟨b,0,rfl,hlt,h2⟩
def stV (r:List UInt8):Value:=.string ⟨r.toArray⟩
theorem ZaB (f:Nat) (hcall:∀(args:Array Value) w,(callFunc f args).run Tryz.prog w=.ok (.enter f args) w) (p:(List UInt8)->Bool) (A:Option Addr) (rs:List (List UInt8)) (n c:Nat) (w:World) (hn:rs.length=n) (hn2:n<=1000000000) (h:Xb w A rs)
  (hp:∀x∈rs,∀w',Below w.heap.size w w'->Calls Tryz.prog f #[stV x] w' fun e w''=>e=.returned (.bool (p x))/\Below w'.heap.size w' w'') :
  Calls Tryz.prog 179 #[.slice A n c,.func (Fn.func f) #[] #[]] w fun e w'=>∃z:Int,e=.returned (.int .i64 z)/\decide (0<=z)=rs.any p/\Below w.heap.size w w':=by
 have HI:=Lh h;have HP:=Lh hp;have hn1:rs.length<=n:=by omega
 have hn3:n<=rs.length:=by omega
 clear h hp hn;go_enter Tryz.func179,Tryz.ntmps179;go_wp2_with fail
 go_loopw [8] (fun iv wr=>∃k:Nat,k<=n/\iv=.int .i64 (k:Int)/\Hid (rs.any p=(rs.drop k).any p)/\Below w.heap.size w wr) (fun iv _=>n-(intOf iv).toNat)
 case atStart=>exact⟨0,Nat.zero_le _,rfl,rfl,Below.refl _ _⟩
 case round=>
  obtain⟨k,hk,rfl,HK,hb⟩:=hrel
  by_cases hlt:k<n
  ·obtain⟨x,hx⟩:∃x,rs[k]?=some x:=⟨_,List.getElem?_eq_getElem (by omega)⟩
   obtain⟨b,o,rfl,hbs,p0⟩:=(HI.out.below hb) k x hx;have hd:rs.drop k=x::rs.drop (k+1):=by
    obtain⟨hk2,rfl⟩:=Lg.1 hx;exact List.drop_eq_getElem_cons hk2
   have HD:=Lh hd;have CP:=HP.out x (Lm hx) wr hb;unfold stV at CP;have CP:=Lh CP;clear hx hd;go_wp2_with fail
   with_reducible refine CP.out.mono ?_
   rintro e w2 ⟨rfl,hb2⟩;replace hb:=bto hb hb2;clear hb2 CP p0
   by_cases hq:p x=true
   ·have HV:Hid (decide (0<=(k:Int))=rs.any p):=by show _=_;rw[HK.out,HD.out,List.any_cons,hq,Dt (by omega)];rfl
    rw[hq];clear hq HK HD;go_wp2;go_ret;exact⟨_,rfl,HV.out,hb⟩
   ·have HV:Hid (rs.any p=(rs.drop (k+1)).any p):=by show _=_;rw[HK.out,HD.out,List.any_cons,Yo hq,Bool.false_or]
    rw[Yo hq];clear hq HK HD;go_wp2;go_roundw
    case rel=>exact⟨k+1,by omega,by go_num,HV,hb⟩
    case measure=>simp[intOf];omega
  ·have HV:Hid (decide (0<=(-1:Int))=rs.any p):=by show _=_;rw[HK.out,List.drop_of_length_le (by omega)];rfl
   go_wp2;go_ret;exact⟨_,rfl,HV.out,hb⟩
theorem FV (f:Nat) (hcall:∀(args:Array Value) w,(callFunc f args).run Tryz.prog w=.ok (.enter f args) w) (p:(List UInt8)->Bool) (A:Option Addr) (rs:List (List UInt8)) (n c:Nat) (w:World) (hn:rs.length=n) (hn2:n<=1000000000) (h:Xb w A rs)
  (hp:∀x∈rs,∀w',Below w.heap.size w w'->Calls Tryz.prog f #[stV x] w' fun e w''=>e=.returned (.bool (p x))/\Below w'.heap.size w' w'') :
  Calls Tryz.prog 109 #[.slice A n c,.func (Fn.func f) #[] #[]] w fun e w'=>e=.returned (.bool (rs.any p))/\Below w.heap.size w w':=by
 have C1:=Lh (ZaB f hcall p A rs n c w hn hn2 h hp);clear hn h hp;go_enter Tryz.func109,Tryz.ntmps109;go_wp2_with fail;refine C1.out.mono ?_;rintro e w2 ⟨z,rfl,hz,hb⟩;have HZ:=Lh hz;clear hz
 by_cases g:0<=z
 ·have e1:decide (0<=z)=true:=Dt g;go_wp2;go_ret;exact⟨by rw[<-HZ.out,e1];rfl,hb⟩
 ·have e1:decide (0<=z)=false:=Df g;go_wp2;go_ret;exact⟨by rw[<-HZ.out,e1];rfl,hb⟩
def Wt (ws:List (List UInt8)):Int:=(ws.map val).sum
theorem Ho (ws:List (List UInt8)) (r:List UInt8):Wt (ws++[r])=Wt ws+val r:=by simp[Wt]
theorem O2 (r:List UInt8) (ws:List (List UInt8)):Wt (r::ws)=val r+Wt ws:=by simp[Wt]
theorem J4 (e:Nat):∀(ws:List (List UInt8)),(∀r∈ws,r.length<=e)->(Wt ws).natAbs<=ws.length*10 ^ e
 | [],_=>by simp[Wt]
 | r::t,h=>by
  have h1:=J4 e t (fun y hy=>h y (List.mem_cons_of_mem _ hy))
  have h2:=Nat.le_of_lt (Zo (h r List.mem_cons_self));have h3:=Int.natAbs_add_le (val r) (Wt t);rw[O2,List.length_cons,Nat.add_mul,Nat.one_mul];omega
theorem MO (e:Nat) (ws:List (List UInt8)) (hx:∀r∈ws,r.length<=e) (hn:ws.length<=100000):(canon (Wt ws)).length<=e+8:=by
 have h1:=J4 e ws hx;refine Nt (Zn _ (e+6) ?_) (by omega)
 have h2:ws.length*10 ^ e<=100000*10 ^ e:=Nat.mul_le_mul_right _ hn;have h3:(100000:Nat)*10 ^ e<10 ^ (e+6):=by
  rw[Nat.pow_add,Nat.mul_comm];exact Nat.mul_lt_mul_of_pos_left (by decide) (Nat.pow_pos (by decide))
 omega
structure Uk (w:World) (A:Option Addr) (ws:List (List UInt8)) (n:Nat):Prop where
 len:ws.length=n
 big:n<=100000
 sm:∀r∈ws,r.length<=2000
 mem:Xb w A ws
theorem Uk.below {w w':World} {A:Option Addr} {ws:List (List UInt8)} {n:Nat} (h:Uk w A ws n) (hb:Below w.heap.size w w'):Uk w' A ws n:=⟨h.len,h.big,h.sm,h.mem.below hb⟩
theorem FW {w:World} {A:Option Addr} {ws:List (List UInt8)} {n:Nat} (c:Nat) (hG:ZP w) (hI:Uk w A ws n) :
  Calls Tryz.prog 241 #[.slice A n c] w fun e w'=>e=.returned (.string ⟨(canon (Wt ws)).toArray⟩)/\Below w.heap.size w w':=by
 have HI:=Lh hI.mem;have HX:=Lh hI.sm;have hn1:ws.length<=n:=by have:=hI.len;omega
 have hn2:n<=ws.length:=by have:=hI.len;omega
 have hn3:=hI.big;clear hI;go_enter Tryz.func241,Tryz.ntmps241;go_wp2_with fail
 go_loopw [3,5,8] (fun sv _ iv wr=>∃(k:Nat) (s:List UInt8),k<=n/\sv=.string ⟨s.toArray⟩/\iv=.int .i64 (k:Int)/\Hid (s=canon (Wt (ws.take k)))/\Below w.heap.size w wr) (fun _ _ iv _=>n-(intOf iv).toNat)
 case atStart=>exact⟨0,[],Nat.zero_le _,rfl,rfl,(by show ([]:List UInt8)=canon 0;decide),Below.refl _ _⟩
 case round=>
  obtain⟨k,s,hk,rfl,rfl,HS,hb⟩:=hrel
  by_cases hlk:k<n
  rotate_left
  ·have HQ:Hid (s=canon (Wt ws)):=by show _=_;rw[HS.out,List.take_of_length_le (by omega)]
   have e1:decide (k<n)=false:=Df hlk;clear HS;go_wp2;go_ret;exact⟨congrArg Ending.returned (str_eq HQ.out),hb⟩
  have e1:decide (k<n)=true:=Dt hlk;obtain⟨r,hr⟩:∃r,ws[k]?=some r:=⟨_,List.getElem?_eq_getElem (by omega)⟩
  obtain⟨b,o,rfl,hbs,p0⟩:=(HI.out.below hb) k r hr;have hrl:=HX.out r (Lm hr);have hsl:s.length<=2008:=by
   rw[HS.out];exact MO 2000 _ (fun y hy=>HX.out y (List.mem_of_mem_take hy)) (by rw[List.length_take];omega)
  have HN:Hid (canon (val s+val r)=canon (Wt (ws.take (k+1)))):=by
   show _=_;obtain⟨hk',rfl⟩:=Lg.1 hr;rw[List.take_succ_eq_append_getElem hk',Ho];congr 2;rw[HS.out,Zg]
  have C1:=Lh (Xa (l:=s) (l':=r) (by omega) (by omega) rfl)
  obtain⟨s',hs'⟩:∃s',s'=canon (val s+val r):=⟨_,rfl⟩
  rw[<-hs'] at C1 HN;clear hr HS hrl hsl hs';go_wp2_with fail
  with_reducible refine (C1.out.of hG hb).mono ?_
  rintro e w2 ⟨rfl,hb2⟩;replace hb:=bto hb hb2;clear p0 hb2 C1;go_wp2;go_roundw
  case rel=>exact⟨k+1,s',by omega,rfl,by go_num,HN.out,hb⟩
  case measure=>simp[intOf];omega
theorem Tg {l:List UInt8} (hl:l.length<=100000):Ret 240 #[.string ⟨l.toArray⟩] (.bool (decide (val l<0))):=fun w hG=>by
 have hb:=Below.refl w.heap.size w;have C1:=Lh (Zv (l:=l) (l':=[]) (by omega) (by decide) (show _=Zx (val l) 0 from rfl))
 have hz:=(O0 (val l)).2.1;have HV:Hid (decide (Zx (val l) 0<0)=decide (val l<0)):=by show _=_;rw[decide_eq_decide];exact hz
 generalize Zx (val l) 0=c at *;generalize decide (val l<0)=R at *;clear hz;go_enter Tryz.func240,Tryz.ntmps240;go_wp2_with fail
 with_reducible refine (C1.out.of hG hb).mono ?_
 rintro e w1 ⟨rfl,hb1⟩;go_wp2;go_ret;exact⟨Z4 HV.out,bto hb hb1⟩
def OG (r:List UInt8):Bool:=!decide (r=canon (val r))||decide (val r<0)
theorem Ce {r:List UInt8} (hl:r.length<=100000):Ret 239 #[.string ⟨r.toArray⟩] (.bool (OG r)):=fun w hG=>by
 have hb:=Below.refl w.heap.size w;have C1:=Lh (Yk (l:=r) (by omega) rfl)
 have C2:=Lh (Tg (l:=r) hl);have HV:Hid (OG r=(!decide (r=canon (val r))||decide (val r<0))):=rfl
 generalize OG r=R at *
 by_cases g:r=canon (val r)
 ·have HV2:Hid (R=decide (val r<0)):=by show _=_;rw[HV.out,Dt g];rfl
  rw[if_pos g] at C1;generalize decide (val r<0)=nb at *;clear HV g;go_enter Tryz.func239,Tryz.ntmps239;go_wp2_with fail
  with_reducible refine (C1.out.of hG hb).mono ?_
  rintro e w1 ⟨rfl,hb1⟩;replace hb:=bto hb hb1;go_wp2_with fail
  with_reducible refine (C2.out.of hG hb).mono ?_
  rintro e w2 ⟨rfl,hb2⟩;go_wp2;go_ret;exact⟨Z4 HV2.out.symm,bto hb hb2⟩
 ·have HV2:Hid (R=true):=by show _=_;rw[HV.out,Df g];rfl
  rw[if_neg g] at C1;clear HV g C2;go_enter Tryz.func239,Tryz.ntmps239;go_wp2_with fail
  with_reducible refine (C1.out.of hG hb).mono ?_
  rintro e w1 ⟨rfl,hb1⟩;go_wp2;go_ret;exact⟨Z4 HV2.out.symm,bto hb hb1⟩
theorem Hp (args:Array Value) (w:World):(callFunc 239 args).run Tryz.prog w=.ok (.enter 239 args) w:=by kernel_rfl
def MP (T:List UInt8) (ws:List (List UInt8)):Int:=
 if ws.length=0 then 11 else if 1000<ws.length then 4 else if ¬T=canon (val T) then 1 else if ws.any OG=true then 1 else if Wt ws=0 then 10 else 0
theorem NO {T:List UInt8} {ws:List (List UInt8)} (h:MP T ws=0):1<=ws.length/\ws.length<=1000/\T=canon (val T)/\(∀r∈ws,r=canon (val r)/\0<=val r)/\Wt ws≠0:=by
 unfold MP at h
 by_cases h0:ws.length=0
 ·rw[if_pos h0] at h;exact absurd h (by decide)
 rw[if_neg h0] at h
 by_cases h1:1000<ws.length
 ·rw[if_pos h1] at h;exact absurd h (by decide)
 rw[if_neg h1] at h
 by_cases h2:¬T=canon (val T)
 ·rw[if_pos h2] at h;exact absurd h (by decide)
 rw[if_neg h2] at h
 by_cases h3:ws.any OG=true
 ·rw[if_pos h3] at h;exact absurd h (by decide)
 rw[if_neg h3] at h
 by_cases h4:Wt ws=0
 ·rw[if_pos h4] at h;exact absurd h (by decide)
 refine⟨by omega,by omega,Decidable.not_not.1 h2,fun r hr=>?_,h4⟩
 have h5:OG r=false:=by
  cases hc:OG r with
  | false=>rfl
  | true=>exact absurd (List.any_eq_true.2 ⟨r,hr,hc⟩) h3
 unfold OG at h5;simp at h5;exact⟨h5.1,h5.2⟩
theorem OH {z:Int}:(canon z==[])=decide (z=0):=by
 by_cases h:z=0
 ·subst h;decide
 ·rw[Df h,Bn];intro hc
  have:=Zg z
  rw[hc] at this;exact h this.symm
theorem AG {w:World} {A:Option Addr} {ws:List (List UInt8)} {n:Nat} (c:Nat) {T:List UInt8} (hT:T.length<=100000) (hG:ZP w) (hI:Uk w A ws n) :
  Calls Tryz.prog 188 #[.string ⟨T.toArray⟩,.slice A n c] w fun e w'=>e=.returned (.int .i64 (MP T ws))/\Below w.heap.size w w':=by
 have hn:=hI.len;have hn3:=hI.big;have hb:=Below.refl w.heap.size w;have C1:=Lh (Yk (l:=T) (by omega) rfl)
 have C2:=Lh (fun (w':World) (hb':Below w.heap.size w w')=>FV _ Hp OG A ws n c w' hn (by omega) (hI.mem.below hb') (fun q hq w2 hb2=>Ce (Nt (hI.sm q hq) (by decide)) w2 ((hG.below hb').below hb2)))
 have C3:=Lh (fun (w':World) (hb':Below w.heap.size w w')=>FW c (hG.below hb') (hI.below hb'))
 obtain⟨E,hE⟩:∃E,E=MP T ws:=⟨_,rfl⟩
 rw[<-hE];unfold MP at hE;rw[hn] at hE;have HV:=Lh hE;clear hE hn hI
 by_cases g1:n=0
 ·have HQ:Hid (E=11):=by show _=_;rw[HV.out,if_pos g1]
  subst g1;clear HV;go_enter Tryz.func188,Tryz.ntmps188;go_wp2;go_ret;exact⟨ZN HQ.out.symm,hb⟩
 have HV1:=Lh (HV.out.trans (if_neg g1));have e1:(n==0)=false:=by rw[Bn];exact g1
 have e1':((n:Int)==0)=false:=by rw[Bn];omega
 clear HV g1
 by_cases g2:1000<n
 ·have HQ:Hid (E=4):=by show _=_;rw[HV1.out,if_pos g2]
  have e2:decide (1000<n)=true:=Dt g2;have e2':decide ((1000:Int)<(n:Int))=true:=Dt (by omega)
  clear HV1 g2;go_enter Tryz.func188,Tryz.ntmps188;go_wp2;go_ret;exact⟨ZN HQ.out.symm,hb⟩
 have HV2:=Lh (HV1.out.trans (if_neg g2));have e2:decide (1000<n)=false:=Df g2;have e2':decide ((1000:Int)<(n:Int))=false:=Df (by omega)
 clear HV1 g2
 by_cases g3:T=canon (val T)
 rotate_left
 ·have HQ:Hid (E=1):=by show _=_;rw[HV2.out,if_pos g3]
  rw[if_neg g3] at C1;clear HV2 g3 C2 C3;go_enter Tryz.func188,Tryz.ntmps188;go_wp2_with fail
  with_reducible refine (C1.out.of hG hb).mono ?_
  rintro e w1 ⟨rfl,hb1⟩;go_wp2;go_ret;exact⟨ZN HQ.out.symm,bto hb hb1⟩
 have HV3:=Lh (HV2.out.trans (if_neg (fun h=>h g3)))
 rw[if_pos g3] at C1;clear HV2 g3;go_enter Tryz.func188,Tryz.ntmps188;go_wp2_with fail
 with_reducible refine (C1.out.of hG hb).mono ?_
 rintro e w1 ⟨rfl,hb1⟩;replace hb:=bto hb hb1;clear hb1 C1;go_wp2_with fail;refine (C2.out _ hb).mono ?_;rintro e w2 ⟨rfl,hb2⟩;replace hb:=bto hb hb2;clear hb2 C2
 by_cases g4:ws.any OG=true
 ·have HQ:Hid (E=1):=by show _=_;rw[HV3.out,if_pos g4]
  rw[g4];clear HV3 g4 C3;go_wp2;go_ret;exact⟨ZN HQ.out.symm,hb⟩
 have HV4:=Lh (HV3.out.trans (if_neg g4));rw[Yo g4];clear HV3 g4;go_wp2_with fail;refine (C3.out _ hb).mono ?_;rintro e w3 ⟨rfl,hb3⟩;replace hb:=bto hb hb3;clear hb3 C3;have hci:=OH (z:=Wt ws);obtain⟨s,hs⟩:∃s,s=canon (Wt ws):=⟨_,rfl⟩
 rw[<-hs] at hci ⊢
 by_cases g5:Wt ws=0
 ·have HQ:Hid (E=10):=by show _=_;rw[HV4.out,if_pos g5]
  rw[Dt g5] at hci;have hem:s.isEmpty=true:=by rw[List.isEmpty_iff];simpa using hci
  clear HV4 g5 hs;go_wp2;go_ret;exact⟨ZN HQ.out.symm,hb⟩
 ·have HQ:Hid (E=0):=by show _=_;rw[HV4.out,if_neg g5]
  rw[Df g5] at hci;have hem:s.isEmpty=false:=by rw[List.isEmpty_eq_false_iff];simpa using hci
  clear HV4 g5 hs;go_wp2;go_ret;exact⟨ZN HQ.out.symm,hb⟩
end Go.Proofs.YtpieeldbamklkaaGreatDoor
