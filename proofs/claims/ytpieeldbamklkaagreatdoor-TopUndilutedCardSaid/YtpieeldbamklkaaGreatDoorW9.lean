/- Texts put together: Ka Kb Bg. -/
import Derived.Test.YtpieeldbamklkaaGreatDoorW8
import Derived.Laws.Tables
set_option maxHeartbeats 8000000
set_option maxRecDepth 100000
namespace Go.Proofs.YtpieeldbamklkaaGreatDoor
open Go.RowKit Go.Shelf Num
theorem P8:(Tryz.prog.info? 34).map (·.size)=some 2:=by kernel_rfl
def dgN (l:List UInt8):Int:=((Lib.trimPrefix l [45]).length:Int)
theorem Io (l:List UInt8):WN 287 #[.string ⟨l.toArray⟩] (.int .i64 (dgN l)):=fun w hG=>by
 have C1:=Lh (ML l [45]);have HV:Hid (((Lib.trimPrefix l [45]).length:Int)=dgN l):=rfl;generalize Lib.trimPrefix l [45]=t at *;generalize dgN l=z at *;go_enter Tryz.func287,Tryz.ntmps287;go_wp2_with fail
 with_reducible refine (C1.out.of hG (Below.refl _ _)).mono ?_
 rintro e w1 ⟨rfl,hb1⟩;go_wp2;go_ret;exact⟨ZN HV.out,hb1⟩
theorem NZ (l:List UInt8):WN 290 #[.string ⟨l.toArray⟩] (.agg #[.string ⟨l.toArray⟩,.string ⟨#[]⟩]):=fun w hG=>by
 have hb:=Zd w (.cells #[.string ⟨l.toArray⟩,.string ⟨#[]⟩] 34);have HZ:=Lh P8;have HN:=Lh (ZF w (.cells #[.string ⟨l.toArray⟩,.string ⟨#[]⟩] 34));go_enter Tryz.func290,Tryz.ntmps290;go_wp2;refine bodyPost_ret (v:=.agg #[.string ⟨l.toArray⟩,.string ⟨#[]⟩]) ?_ rfl ?_
 ·exact ZS Tryz.f290 2 34 #[.string ⟨l.toArray⟩,.string ⟨#[]⟩] rfl rfl (ZD HN.out) Tryz.underlying34 rfl HZ.out
 exact⟨rfl,hb⟩
theorem Ey (p q:Bool) (w:World):Calls Tryz.prog 229 #[.bool p,.bool q] w fun e w'=>e=.returned (.func (.func 286) #[] #[.pointer (some ⟨w.heap.size,0,none⟩),.pointer (some ⟨w.heap.size+1,0,none⟩)])/\w'=(w.alloc (.cells #[.bool p] 4)).alloc (.cells #[.bool q] 4):=by
 go_enter Tryz.func229,Tryz.ntmps229;go_wp2_with fail;go_ret;exact⟨rfl,rfl⟩
def bwE (p pt:Bool) (l l':List UInt8) (q:Rat):Int:=if ¬(l=fN q/\l'=fD q) then 1 else if 40<dgN l then 4 else if 40<dgN l' then 4 else if S3 q 0<0 then 2 else if p=true/\S3 q 0=0 then 2 else if pt=true/\0<S3 q ((1:Int):Rat) then 2 else 0
theorem Ip (p pt:Bool) {l l':List UInt8} {q:Rat} (h:IsQ l l' q) {b1 b2:Nat} {w:World} (hG:GE w) (hP:Blk w b1 #[.bool p]) (hPT:Blk w b2 #[.bool pt]) :
  Calls Tryz.prog 286 #[(Value.agg #[Value.string ⟨l.toArray⟩,Value.string ⟨l'.toArray⟩]),.pointer (some ⟨b1,0,none⟩),.pointer (some ⟨b2,0,none⟩)] w fun e w'=>e=.returned (.int .i64 (bwE p pt l l' q))/\Below w.heap.size w w':=by
 have hb0:=Zd w (.cells #[.string ⟨l.toArray⟩,.string ⟨l'.toArray⟩] 34);have x0:=Z9.ofB (ZF w (.cells #[.string ⟨l.toArray⟩,.string ⟨l'.toArray⟩] 34));obtain⟨V,hV⟩:∃V,V=bwE p pt l l' q:=⟨_,rfl⟩
 rw[<-hV];unfold bwE at hV;obtain⟨c,hc⟩:∃c,c=S3 q 0:=⟨_,rfl⟩
 obtain⟨c2,hc2⟩:∃c,c=S3 q ((1:Int):Rat):=⟨_,rfl⟩
 have C1:=Lh ((PI h Fu hc.symm).e);have hone:IsQ (fN ((1:Int):Rat)) (fD ((1:Int):Rat)) ((1:Int):Rat):=VC (k:=2) (Aj (a:=1) (by decide) (by decide)) (by decide)
 have C5:=Lh ((PI h hone hc2.symm).e);have C4:=Lh ((rOf (l:=[49]) (by decide) (z:=1) (by decide +kernel)).e)
 have C3:=Lh (fun cc hcc=>(An h (c:=cc) hcc).e)
 rw[<-hc,<-hc2] at hV;clear hc hc2 hone;have D1:=Lh (Io l);have D2:=Lh (Io l');have HVV:=Lh hV;generalize dgN l=d1 at *;generalize dgN l'=d2 at *;clear hV;have q0:=x0.c0;have q1:=x0.c1;go_enter Tryz.func286,Tryz.ntmps286;go_wp2_with fail
 with_reducible refine (C1.out.of hG hb0).mono ?_
 rintro e w1 ⟨rfl,hb1⟩;have x1:=x0.below hb1;replace hb1:=bto hb0 hb1;clear x0 q0 q1 hb0 C1;have q0:=x1.c0;have q1:=x1.c1
 by_cases hcn:l=fN q/\l'=fD q
 rotate_left
 ·have C2:=Lh (C3.out 1 (if_neg hcn));have HV:Hid ((1:Int)=V):=by show _=_;rw[HVV.out,if_pos hcn]
  clear hcn;go_wp2_with fail
  with_reducible refine (C2.out.of hG hb1).mono ?_
  rintro e w2 ⟨rfl,hb2⟩;replace hb2:=bto hb1 hb2;go_wp2;go_ret;exact⟨ZN HV.out,hb2⟩
 have C2:=Lh (C3.out 0 (if_pos hcn));have HVV:Hid (V=_):=HVV.out.trans (if_neg (fun h=>h hcn))
 clear hcn C3;go_wp2_with fail
 with_reducible refine (C2.out.of hG hb1).mono ?_
 rintro e w2 ⟨rfl,hb2⟩;have x2:=x1.below hb2;replace hb2:=bto hb1 hb2;clear x1 q0 q1 hb1 C2;have q0:=x2.c0;go_wp2_with fail
 with_reducible refine (D1.out.of hG hb2).mono ?_
 rintro e w3 ⟨rfl,hb3⟩;have x3:=x2.below hb3;replace hb3:=bto hb2 hb3;clear x2 q0 hb2 D1
 by_cases g1:40<d1
 ·have e1:decide (40<d1)=true:=Dt g1;have HV:Hid ((4:Int)=V):=by show _=_;rw[HVV.out,if_pos g1]
  go_wp2;go_ret;exact⟨ZN HV.out,hb3⟩
 have e1:decide (40<d1)=false:=Df g1;have HVV:Hid (V=_):=HVV.out.trans (if_neg g1);have q1:=x3.c1;go_wp2_with fail
 with_reducible refine (D2.out.of hG hb3).mono ?_
 rintro e w5 ⟨rfl,hb5⟩;have x5:=x3.below hb5;replace hb5:=bto hb3 hb5;clear x3 q1 hb3 D2
 by_cases g2:40<d2
 ·have e2:decide (40<d2)=true:=Dt g2;have HV:Hid ((4:Int)=V):=by show _=_;rw[HVV.out,if_pos g2]
  go_wp2;go_ret;exact⟨ZN HV.out,hb5⟩
 have e2:decide (40<d2)=false:=Df g2;have HVV:Hid (V=_):=HVV.out.trans (if_neg g2);have HP:=Lh (hP.below hb5);have HPT:=Lh (hPT.below hb5);go_wp2_with fail;clear g1 g2 e1 e2 hP hPT;refine Zm (by kernel_rfl) (by kernel_rfl) ?_
 by_cases s1:c<0
 ·have e1:decide (c<0)=true:=Dt s1;refine Zb _ (fun _=>rfl) (fun ρ w hw=>by go_simp;try with_reducible rfl) ?_
  simp only[Act.put,StT,StZ,StS,Nat.reduceAdd];refine Zb (.bool true) (fun _=>rfl) (fun ρ w hw=>by go_simp;try with_reducible rfl) ?_
  simp only[Act.put,StT,StZ,StS,Nat.reduceAdd];refine Zb _ (fun _=>rfl) (fun ρ w hw=>by go_simp;try with_reducible rfl) ?_
  iterate 5
   simp only[Act.put,StT,StZ,StS,Nat.reduceAdd];refine Yb (fun _=>rfl) ?_
  iterate 2
   simp only[Act.put,StT,StZ,StS,Nat.reduceAdd];refine Zb _ (fun _=>rfl) (fun ρ w hw=>by go_simp;try with_reducible rfl) ?_
  iterate 7
   simp only[Act.put,StT,StZ,StS,Nat.reduceAdd];refine Yb (fun _=>rfl) ?_
  iterate 2
   simp only[Act.put,StT,StZ,StS,Nat.reduceAdd];refine Zb _ (fun _=>rfl) (fun ρ w hw=>by go_simp;try with_reducible rfl) ?_
  simp only[Act.put,StT,StZ,StS,Nat.reduceAdd];refine Zu (fun ρ w9 hF=>?_)
  have hb9:=bto hb5 hF.below;have HV:Hid ((2:Int)=V):=by show _=_;rw[HVV.out,if_pos s1]
  clear hF;go_wp2;go_ret;exact⟨ZN HV.out,hb9⟩
 have e1:decide (c<0)=false:=Df s1;have HVV:Hid (V=_):=HVV.out.trans (if_neg s1);cases p with
 | false=>
  have HVV:Hid (V=_):=HVV.out.trans (if_neg (fun h=>by cases h.1))
  cases pt with
  | false=>
   refine Zb _ (fun _=>rfl) (fun ρ w hw=>by go_simp;try with_reducible rfl) ?_
   simp only[Act.put,StT,StZ,StS,Nat.reduceAdd];refine Zb (.bool false) (fun _=>rfl) (fun ρ w hw=>by go_simp;try with_reducible rfl) ?_
   simp only[Act.put,StT,StZ,StS,Nat.reduceAdd];refine Zb _ (fun _=>rfl) (fun ρ w hw=>by go_simp;try with_reducible rfl) ?_
   simp only[Act.put,StT,StZ,StS,Nat.reduceAdd];refine Zb (.bool false) (fun _=>rfl) (fun ρ w hw=>by have q0:=(HP.out.below hw).c 0;go_simp;try with_reducible rfl) ?_
   simp only[Act.put,StT,StZ,StS,Nat.reduceAdd];refine Zb (.bool false) (fun _=>rfl) (fun ρ w hw=>by go_simp;try with_reducible rfl) ?_
   iterate 2
    simp only[Act.put,StT,StZ,StS,Nat.reduceAdd];refine Yb (fun _=>rfl) ?_
   iterate 3
    simp only[Act.put,StT,StZ,StS,Nat.reduceAdd];refine Zb _ (fun _=>rfl) (fun ρ w hw=>by go_simp;try with_reducible rfl) ?_
   simp only[Act.put,StT,StZ,StS,Nat.reduceAdd];refine Zb (.bool false) (fun _=>rfl) (fun ρ w hw=>by have q0:=(HPT.out.below hw).c 0;go_simp;try with_reducible rfl) ?_
   simp only[Act.put,StT,StZ,StS,Nat.reduceAdd];refine Zb (.bool false) (fun _=>rfl) (fun ρ w hw=>by go_simp;try with_reducible rfl) ?_
   iterate 4
    simp only[Act.put,StT,StZ,StS,Nat.reduceAdd];refine Yb (fun _=>rfl) ?_
   iterate 3
    simp only[Act.put,StT,StZ,StS,Nat.reduceAdd];refine Zb _ (fun _=>rfl) (fun ρ w hw=>by go_simp;try with_reducible rfl) ?_
   simp only[Act.put,StT,StZ,StS,Nat.reduceAdd];refine Zu (fun ρ w9 hF=>?_)
   have hb9:=bto hb5 hF.below;have HV:Hid ((0:Int)=V):=by show _=_;rw[HVV.out,if_neg (fun h=>by cases h.1)]
   clear hF;go_wp2;go_ret;exact⟨ZN HV.out,hb9⟩
  | true=>
   by_cases s3:0<c2
   ·have e3:decide (0<c2)=true:=Dt s3;refine Zb _ (fun _=>rfl) (fun ρ w hw=>by go_simp;try with_reducible rfl) ?_
    simp only[Act.put,StT,StZ,StS,Nat.reduceAdd];refine Zb (.bool false) (fun _=>rfl) (fun ρ w hw=>by go_simp;try with_reducible rfl) ?_
    simp only[Act.put,StT,StZ,StS,Nat.reduceAdd];refine Zb _ (fun _=>rfl) (fun ρ w hw=>by go_simp;try with_reducible rfl) ?_
    simp only[Act.put,StT,StZ,StS,Nat.reduceAdd];refine Zb (.bool false) (fun _=>rfl) (fun ρ w hw=>by have q0:=(HP.out.below hw).c 0;go_simp;try with_reducible rfl) ?_
    simp only[Act.put,StT,StZ,StS,Nat.reduceAdd];refine Zb (.bool false) (fun _=>rfl) (fun ρ w hw=>by go_simp;try with_reducible rfl) ?_
    iterate 2
     simp only[Act.put,StT,StZ,StS,Nat.reduceAdd];refine Yb (fun _=>rfl) ?_
    iterate 3
     simp only[Act.put,StT,StZ,StS,Nat.reduceAdd];refine Zb _ (fun _=>rfl) (fun ρ w hw=>by go_simp;try with_reducible rfl) ?_
    simp only[Act.put,StT,StZ,StS,Nat.reduceAdd];refine Zb (.bool true) (fun _=>rfl) (fun ρ w hw=>by have q0:=(HPT.out.below hw).c 0;go_simp;try with_reducible rfl) ?_
    simp only[Act.put,StT,StZ,StS,Nat.reduceAdd];refine Zb (.bool true) (fun _=>rfl) (fun ρ w hw=>by go_simp;try with_reducible rfl) ?_
    simp only[Act.put,StT,StZ,StS,Nat.reduceAdd];refine Zb _ (fun _=>rfl) (fun ρ w hw=>by have q0:=(x5.below hw).c0;have q1:=(x5.below hw).c1;go_simp;try with_reducible rfl) ?_
    simp only[Act.put,StT,StZ,StS,Nat.reduceAdd];refine Zl _ _ _ (fun _=>rfl) (fun ρ w hw=>by go_simp;try with_reducible rfl) (fun w hw=>C4.out.of hG (bto hb5 hw)) ?_
    simp only[Act.put,StT,StZ,StS,Nat.reduceAdd];refine Zl _ _ _ (fun _=>rfl) (fun ρ w hw=>by go_simp;try with_reducible rfl) (fun w hw=>C5.out.of hG (bto hb5 hw)) ?_
    simp only[Act.put,StT,StZ,StS,Nat.reduceAdd];refine Zb (.bool true) (fun _=>rfl) (fun ρ w hw=>by go_simp;try with_reducible rfl) ?_
    iterate 3
     simp only[Act.put,StT,StZ,StS,Nat.reduceAdd];refine Zb _ (fun _=>rfl) (fun ρ w hw=>by go_simp;try with_reducible rfl) ?_
    simp only[Act.put,StT,StZ,StS,Nat.reduceAdd];refine Zu (fun ρ w9 hF=>?_)
    have hb9:=bto hb5 hF.below;have HV:Hid ((2:Int)=V):=by show _=_;rw[HVV.out,if_pos ⟨rfl,s3⟩]
    clear hF;go_wp2;go_ret;exact⟨ZN HV.out,hb9⟩
   have e3:decide (0<c2)=false:=Df s3;refine Zb _ (fun _=>rfl) (fun ρ w hw=>by go_simp;try with_reducible rfl) ?_
   simp only[Act.put,StT,StZ,StS,Nat.reduceAdd];refine Zb (.bool false) (fun _=>rfl) (fun ρ w hw=>by go_simp;try with_reducible rfl) ?_
   simp only[Act.put,StT,StZ,StS,Nat.reduceAdd];refine Zb _ (fun _=>rfl) (fun ρ w hw=>by go_simp;try with_reducible rfl) ?_
   simp only[Act.put,StT,StZ,StS,Nat.reduceAdd];refine Zb (.bool false) (fun _=>rfl) (fun ρ w hw=>by have q0:=(HP.out.below hw).c 0;go_simp;try with_reducible rfl) ?_
   simp only[Act.put,StT,StZ,StS,Nat.reduceAdd];refine Zb (.bool false) (fun _=>rfl) (fun ρ w hw=>by go_simp;try with_reducible rfl) ?_
   iterate 2
    simp only[Act.put,StT,StZ,StS,Nat.reduceAdd];refine Yb (fun _=>rfl) ?_
   iterate 3
    simp only[Act.put,StT,StZ,StS,Nat.reduceAdd];refine Zb _ (fun _=>rfl) (fun ρ w hw=>by go_simp;try with_reducible rfl) ?_
   simp only[Act.put,StT,StZ,StS,Nat.reduceAdd];refine Zb (.bool true) (fun _=>rfl) (fun ρ w hw=>by have q0:=(HPT.out.below hw).c 0;go_simp;try with_reducible rfl) ?_
   simp only[Act.put,StT,StZ,StS,Nat.reduceAdd];refine Zb (.bool true) (fun _=>rfl) (fun ρ w hw=>by go_simp;try with_reducible rfl) ?_
   simp only[Act.put,StT,StZ,StS,Nat.reduceAdd];refine Zb _ (fun _=>rfl) (fun ρ w hw=>by have q0:=(x5.below hw).c0;have q1:=(x5.below hw).c1;go_simp;try with_reducible rfl) ?_
   simp only[Act.put,StT,StZ,StS,Nat.reduceAdd];refine Zl _ _ _ (fun _=>rfl) (fun ρ w hw=>by go_simp;try with_reducible rfl) (fun w hw=>C4.out.of hG (bto hb5 hw)) ?_
   simp only[Act.put,StT,StZ,StS,Nat.reduceAdd];refine Zl _ _ _ (fun _=>rfl) (fun ρ w hw=>by go_simp;try with_reducible rfl) (fun w hw=>C5.out.of hG (bto hb5 hw)) ?_
   simp only[Act.put,StT,StZ,StS,Nat.reduceAdd];refine Zb (.bool false) (fun _=>rfl) (fun ρ w hw=>by go_simp;try with_reducible rfl) ?_
   iterate 3
    simp only[Act.put,StT,StZ,StS,Nat.reduceAdd];refine Zb _ (fun _=>rfl) (fun ρ w hw=>by go_simp;try with_reducible rfl) ?_
   simp only[Act.put,StT,StZ,StS,Nat.reduceAdd];refine Zu (fun ρ w9 hF=>?_)
   have hb9:=bto hb5 hF.below;have HV:Hid ((0:Int)=V):=by show _=_;rw[HVV.out,if_neg (fun h=>s3 h.2)]
   clear hF;go_wp2;go_ret;exact⟨ZN HV.out,hb9⟩
 | true=>
  by_cases s2:c=0
  ·have e2:(c==0)=true:=by rw[beq_iff_eq];exact s2
   refine Zb _ (fun _=>rfl) (fun ρ w hw=>by go_simp;try with_reducible rfl) ?_
   simp only[Act.put,StT,StZ,StS,Nat.reduceAdd];refine Zb (.bool false) (fun _=>rfl) (fun ρ w hw=>by go_simp;try with_reducible rfl) ?_
   simp only[Act.put,StT,StZ,StS,Nat.reduceAdd];refine Zb _ (fun _=>rfl) (fun ρ w hw=>by go_simp;try with_reducible rfl) ?_
   simp only[Act.put,StT,StZ,StS,Nat.reduceAdd];refine Zb (.bool true) (fun _=>rfl) (fun ρ w hw=>by have q0:=(HP.out.below hw).c 0;go_simp;try with_reducible rfl) ?_
   iterate 2
    simp only[Act.put,StT,StZ,StS,Nat.reduceAdd];refine Zb (.bool true) (fun _=>rfl) (fun ρ w hw=>by go_simp;try with_reducible rfl) ?_
    simp only[Act.put,StT,StZ,StS,Nat.reduceAdd];refine Zb _ (fun _=>rfl) (fun ρ w hw=>by go_simp;try with_reducible rfl) ?_
   iterate 2
    simp only[Act.put,StT,StZ,StS,Nat.reduceAdd];refine Zb _ (fun _=>rfl) (fun ρ w hw=>by go_simp;try with_reducible rfl) ?_
   iterate 7
    simp only[Act.put,StT,StZ,StS,Nat.reduceAdd];refine Yb (fun _=>rfl) ?_
   iterate 2
    simp only[Act.put,StT,StZ,StS,Nat.reduceAdd];refine Zb _ (fun _=>rfl) (fun ρ w hw=>by go_simp;try with_reducible rfl) ?_
   simp only[Act.put,StT,StZ,StS,Nat.reduceAdd];refine Zu (fun ρ w9 hF=>?_)
   have hb9:=bto hb5 hF.below;have HV:Hid ((2:Int)=V):=by show _=_;rw[HVV.out,if_pos ⟨rfl,s2⟩]
   clear hF;go_wp2;go_ret;exact⟨ZN HV.out,hb9⟩
  have e2:(c==0)=false:=by rw[Bn];exact s2
  have HVV:Hid (V=_):=HVV.out.trans (if_neg (fun h=>s2 h.2))
  cases pt with
  | false=>
   refine Zb _ (fun _=>rfl) (fun ρ w hw=>by go_simp;try with_reducible rfl) ?_
   simp only[Act.put,StT,StZ,StS,Nat.reduceAdd];refine Zb (.bool false) (fun _=>rfl) (fun ρ w hw=>by go_simp;try with_reducible rfl) ?_
   simp only[Act.put,StT,StZ,StS,Nat.reduceAdd];refine Zb _ (fun _=>rfl) (fun ρ w hw=>by go_simp;try with_reducible rfl) ?_
   simp only[Act.put,StT,StZ,StS,Nat.reduceAdd];refine Zb (.bool true) (fun _=>rfl) (fun ρ w hw=>by have q0:=(HP.out.below hw).c 0;go_simp;try with_reducible rfl) ?_
   simp only[Act.put,StT,StZ,StS,Nat.reduceAdd];refine Zb (.bool true) (fun _=>rfl) (fun ρ w hw=>by go_simp;try with_reducible rfl) ?_
   simp only[Act.put,StT,StZ,StS,Nat.reduceAdd];refine Zb _ (fun _=>rfl) (fun ρ w hw=>by go_simp;try with_reducible rfl) ?_
   simp only[Act.put,StT,StZ,StS,Nat.reduceAdd];refine Zb (.bool false) (fun _=>rfl) (fun ρ w hw=>by go_simp;try with_reducible rfl) ?_
   iterate 3
    simp only[Act.put,StT,StZ,StS,Nat.reduceAdd];refine Zb _ (fun _=>rfl) (fun ρ w hw=>by go_simp;try with_reducible rfl) ?_
   simp only[Act.put,StT,StZ,StS,Nat.reduceAdd];refine Zb (.bool false) (fun _=>rfl) (fun ρ w hw=>by have q0:=(HPT.out.below hw).c 0;go_simp;try with_reducible rfl) ?_
   simp only[Act.put,StT,StZ,StS,Nat.reduceAdd];refine Zb (.bool false) (fun _=>rfl) (fun ρ w hw=>by go_simp;try with_reducible rfl) ?_
   iterate 4
    simp only[Act.put,StT,StZ,StS,Nat.reduceAdd];refine Yb (fun _=>rfl) ?_
   iterate 3
    simp only[Act.put,StT,StZ,StS,Nat.reduceAdd];refine Zb _ (fun _=>rfl) (fun ρ w hw=>by go_simp;try with_reducible rfl) ?_
   simp only[Act.put,StT,StZ,StS,Nat.reduceAdd];refine Zu (fun ρ w9 hF=>?_)
   have hb9:=bto hb5 hF.below;have HV:Hid ((0:Int)=V):=by show _=_;rw[HVV.out,if_neg (fun h=>by cases h.1)]
   clear hF;go_wp2;go_ret;exact⟨ZN HV.out,hb9⟩
  | true=>
   by_cases s3:0<c2
   ·have e3:decide (0<c2)=true:=Dt s3;refine Zb _ (fun _=>rfl) (fun ρ w hw=>by go_simp;try with_reducible rfl) ?_
    simp only[Act.put,StT,StZ,StS,Nat.reduceAdd];refine Zb (.bool false) (fun _=>rfl) (fun ρ w hw=>by go_simp;try with_reducible rfl) ?_
    simp only[Act.put,StT,StZ,StS,Nat.reduceAdd];refine Zb _ (fun _=>rfl) (fun ρ w hw=>by go_simp;try with_reducible rfl) ?_
    simp only[Act.put,StT,StZ,StS,Nat.reduceAdd];refine Zb (.bool true) (fun _=>rfl) (fun ρ w hw=>by have q0:=(HP.out.below hw).c 0;go_simp;try with_reducible rfl) ?_
    simp only[Act.put,StT,StZ,StS,Nat.reduceAdd];refine Zb (.bool true) (fun _=>rfl) (fun ρ w hw=>by go_simp;try with_reducible rfl) ?_
    simp only[Act.put,StT,StZ,StS,Nat.reduceAdd];refine Zb _ (fun _=>rfl) (fun ρ w hw=>by go_simp;try with_reducible rfl) ?_
    simp only[Act.put,StT,StZ,StS,Nat.reduceAdd];refine Zb (.bool false) (fun _=>rfl) (fun ρ w hw=>by go_simp;try with_reducible rfl) ?_
    iterate 3
     simp only[Act.put,StT,StZ,StS,Nat.reduceAdd];refine Zb _ (fun _=>rfl) (fun ρ w hw=>by go_simp;try with_reducible rfl) ?_
    simp only[Act.put,StT,StZ,StS,Nat.reduceAdd];refine Zb (.bool true) (fun _=>rfl) (fun ρ w hw=>by have q0:=(HPT.out.below hw).c 0;go_simp;try with_reducible rfl) ?_
    simp only[Act.put,StT,StZ,StS,Nat.reduceAdd];refine Zb (.bool true) (fun _=>rfl) (fun ρ w hw=>by go_simp;try with_reducible rfl) ?_
    simp only[Act.put,StT,StZ,StS,Nat.reduceAdd];refine Zb _ (fun _=>rfl) (fun ρ w hw=>by have q0:=(x5.below hw).c0;have q1:=(x5.below hw).c1;go_simp;try with_reducible rfl) ?_
    simp only[Act.put,StT,StZ,StS,Nat.reduceAdd];refine Zl _ _ _ (fun _=>rfl) (fun ρ w hw=>by go_simp;try with_reducible rfl) (fun w hw=>C4.out.of hG (bto hb5 hw)) ?_
    simp only[Act.put,StT,StZ,StS,Nat.reduceAdd];refine Zl _ _ _ (fun _=>rfl) (fun ρ w hw=>by go_simp;try with_reducible rfl) (fun w hw=>C5.out.of hG (bto hb5 hw)) ?_
    simp only[Act.put,StT,StZ,StS,Nat.reduceAdd];refine Zb (.bool true) (fun _=>rfl) (fun ρ w hw=>by go_simp;try with_reducible rfl) ?_
    iterate 3
     simp only[Act.put,StT,StZ,StS,Nat.reduceAdd];refine Zb _ (fun _=>rfl) (fun ρ w hw=>by go_simp;try with_reducible rfl) ?_
    simp only[Act.put,StT,StZ,StS,Nat.reduceAdd];refine Zu (fun ρ w9 hF=>?_)
    have hb9:=bto hb5 hF.below;have HV:Hid ((2:Int)=V):=by show _=_;rw[HVV.out,if_pos ⟨rfl,s3⟩]
    clear hF;go_wp2;go_ret;exact⟨ZN HV.out,hb9⟩
   have e3:decide (0<c2)=false:=Df s3;refine Zb _ (fun _=>rfl) (fun ρ w hw=>by go_simp;try with_reducible rfl) ?_
   simp only[Act.put,StT,StZ,StS,Nat.reduceAdd];refine Zb (.bool false) (fun _=>rfl) (fun ρ w hw=>by go_simp;try with_reducible rfl) ?_
   simp only[Act.put,StT,StZ,StS,Nat.reduceAdd];refine Zb _ (fun _=>rfl) (fun ρ w hw=>by go_simp;try with_reducible rfl) ?_
   simp only[Act.put,StT,StZ,StS,Nat.reduceAdd];refine Zb (.bool true) (fun _=>rfl) (fun ρ w hw=>by have q0:=(HP.out.below hw).c 0;go_simp;try with_reducible rfl) ?_
   simp only[Act.put,StT,StZ,StS,Nat.reduceAdd];refine Zb (.bool true) (fun _=>rfl) (fun ρ w hw=>by go_simp;try with_reducible rfl) ?_
   simp only[Act.put,StT,StZ,StS,Nat.reduceAdd];refine Zb _ (fun _=>rfl) (fun ρ w hw=>by go_simp;try with_reducible rfl) ?_
   simp only[Act.put,StT,StZ,StS,Nat.reduceAdd];refine Zb (.bool false) (fun _=>rfl) (fun ρ w hw=>by go_simp;try with_reducible rfl) ?_
   iterate 3
    simp only[Act.put,StT,StZ,StS,Nat.reduceAdd];refine Zb _ (fun _=>rfl) (fun ρ w hw=>by go_simp;try with_reducible rfl) ?_
   simp only[Act.put,StT,StZ,StS,Nat.reduceAdd];refine Zb (.bool true) (fun _=>rfl) (fun ρ w hw=>by have q0:=(HPT.out.below hw).c 0;go_simp;try with_reducible rfl) ?_
   simp only[Act.put,StT,StZ,StS,Nat.reduceAdd];refine Zb (.bool true) (fun _=>rfl) (fun ρ w hw=>by go_simp;try with_reducible rfl) ?_
   simp only[Act.put,StT,StZ,StS,Nat.reduceAdd];refine Zb _ (fun _=>rfl) (fun ρ w hw=>by have q0:=(x5.below hw).c0;have q1:=(x5.below hw).c1;go_simp;try with_reducible rfl) ?_
   simp only[Act.put,StT,StZ,StS,Nat.reduceAdd];refine Zl _ _ _ (fun _=>rfl) (fun ρ w hw=>by go_simp;try with_reducible rfl) (fun w hw=>C4.out.of hG (bto hb5 hw)) ?_
   simp only[Act.put,StT,StZ,StS,Nat.reduceAdd];refine Zl _ _ _ (fun _=>rfl) (fun ρ w hw=>by go_simp;try with_reducible rfl) (fun w hw=>C5.out.of hG (bto hb5 hw)) ?_
   simp only[Act.put,StT,StZ,StS,Nat.reduceAdd];refine Zb (.bool false) (fun _=>rfl) (fun ρ w hw=>by go_simp;try with_reducible rfl) ?_
   iterate 3
    simp only[Act.put,StT,StZ,StS,Nat.reduceAdd];refine Zb _ (fun _=>rfl) (fun ρ w hw=>by go_simp;try with_reducible rfl) ?_
   simp only[Act.put,StT,StZ,StS,Nat.reduceAdd];refine Zu (fun ρ w9 hF=>?_)
   have hb9:=bto hb5 hF.below;have HV:Hid ((0:Int)=V):=by show _=_;rw[HVV.out,if_neg (fun h=>s3 h.2)]
   clear hF;go_wp2;go_ret;exact⟨ZN HV.out,hb9⟩
theorem Iq {l:List UInt8} (hl:l.length<=1000000) (w:World):Calls Tryz.prog 234 #[.string ⟨l.toArray⟩] w fun e w'=>(∃b,e=.returned (.bool b))/\Below w.heap.size w w':=by
 have C1:=Lh (Tryz.strings_Trim ⟨l.toArray⟩ ⟨#[65,66,67,68,69,70,71,72,73,74,75,76,77,78,79,80,81,82,83,84,85,86,87,88,89,90]⟩ w (by show l.toArray.size<=_;simp;omega) (by decide) (ascii_of_all (by decide)))
 generalize Lib.trimS _ _=t at *
 by_cases g1:(l.length:Int)=3
 ·have e1:((l.length:Int)==3)=true:=by rw[beq_iff_eq];exact g1
  clear g1;go_enter Tryz.func234,Tryz.ntmps234;go_wp2_with fail
  with_reducible refine C1.out.mono ?_
  rintro e w1 ⟨rfl,hb1⟩;go_wp2;go_ret;exact⟨⟨_,rfl⟩,hb1⟩
 ·have e1:((l.length:Int)==3)=false:=by rw[Bn];exact g1
  clear g1;go_enter Tryz.func234,Tryz.ntmps234;go_wp2;go_ret;exact⟨⟨_,rfl⟩,Below.refl _ _⟩
def nmE (l:List UInt8):Int:=if YS l=true then 0 else 23
theorem N3 {l:List UInt8} (hl:l.length<=1000000):WN 233 #[.string ⟨l.toArray⟩] (.int .i64 (nmE l)):=fun w hG=>by
 have C1:=Lh ((OV hl).e);have HV:Hid (nmE l=if YS l=true then 0 else 23):=rfl
 generalize nmE l=z at *;generalize YS l=b at *;go_enter Tryz.func233,Tryz.ntmps233;go_wp2_with fail
 with_reducible refine (C1.out.of hG (Below.refl _ _)).mono ?_
 rintro e w1 ⟨rfl,hb1⟩;cases b with
 | true=>
  go_wp2;go_ret;exact⟨ZN (by rw[HV.out];rfl),hb1⟩
 | false=>
  go_wp2;go_ret;exact⟨ZN (by rw[HV.out];rfl),hb1⟩
structure Fct where
 key:List UInt8
 ins:List UInt8
 oth:List UInt8
 cur:List UInt8
 tgt:List UInt8
 q:List UInt8
 amt:List UInt8
 fee:List UInt8
 pn:List UInt8
 pd:List UInt8
 rn:List UInt8
 rd:List UInt8
 sn:List UInt8
 sd:List UInt8
 stamp:Int
 day:Int
 kind:Int
 choice:Int
 canc:Bool
 pA:Option Addr
 pN:Nat
 pC:Nat
 oA:Option Addr
 oN:Nat
 oC:Nat
def Zs (f:Fct):Array Value:=#[.string ⟨f.key.toArray⟩,.int .i64 f.stamp,.bool f.canc,.int .i64 f.day,.int .i64 f.kind,.string ⟨f.ins.toArray⟩,.string ⟨f.oth.toArray⟩,.string ⟨f.cur.toArray⟩,.string ⟨f.tgt.toArray⟩,.string ⟨f.q.toArray⟩,.string ⟨f.amt.toArray⟩,.string ⟨f.fee.toArray⟩,.string ⟨f.pn.toArray⟩,.string ⟨f.pd.toArray⟩,.string ⟨f.rn.toArray⟩,.string ⟨f.rd.toArray⟩,.string ⟨f.sn.toArray⟩,.string ⟨f.sd.toArray⟩,.slice f.pA f.pN f.pC,.slice f.oA f.oN f.oC,.int .i64 f.choice]
structure Ez (f:Fct):Prop where
 key:f.key.length<=1000
 ins:f.ins.length<=1000
 oth:f.oth.length<=1000
 cur:f.cur.length<=1000
 tgt:f.tgt.length<=1000
 q:f.q.length<=1000
 amt:f.amt.length<=1000
 fee:f.fee.length<=1000
 pn:f.pn.length<=1000
 pd:f.pd.length<=1000
 rn:f.rn.length<=1000
 rd:f.rd.length<=1000
 sn:f.sn.length<=1000
 sd:f.sd.length<=1000
def Ll (f:Fct):Nat->Option (List UInt8×List UInt8)
 | 4=>some (f.q,[])
 | 5=>some (f.amt,[])
 | 6=>some (f.fee,[])
 | 7=>some (f.pn,f.pd)
 | 8=>some (f.rn,f.rd)
 | 9=>some (f.sn,f.sd)
 | _=>none
theorem ZU:(Tryz.prog.info? 48).map (·.size)=some 21:=by kernel_rfl
theorem YI {P:Program} {e:Operand->Value} {o:Oper} {w:World} (ty:TypeId) (x:Operand) (ho:o.op=.load ty x) (b:Nat) (hx:e x=.pointer (some ⟨b,0,none⟩)) (cs:Array Value) {d:TypeDesc} (hc:Blk w b cs)
  (hu:P.underlying ty=some d) (hd:d.isRow=true) (hi:(P.info? ty).map (·.size)=some cs.size):(execOp e o).run P w=.ok (.value (.agg cs)) w:=by
 obtain⟨t,h⟩:=hc
 have:=ZK (P:=P) (e:=e) (w:=w) ty x ho b 0 hx cs.toList d (ZD h) hu hd (by simpa using hi)
 simpa using this
theorem Zt {P:Program} {ops:Array Oper} {rest:List Oper} {op:Oper} {a:Act} {w:World} {Q:Exit->Act->World->Prop} (hgd:op.guard=none) (ty:TypeId) (x:Operand) (ho:op.op=.load ty x)
  (b:Nat) (hx:a.eval x=.pointer (some ⟨b,0,none⟩)) (cs:Array Value) {d:TypeDesc} (hc:Blk w b cs)
  (hu:P.underlying ty=some d) (hd:d.isRow=true) (hi:(P.info? ty).map (·.size)=some cs.size)
  (h:wpList P ops Q rest (a.put op.dst (.agg cs)) w):wpList P ops Q (op::rest) a w:=
 wpList_plain hgd fun _ hK=>by
  unfold Oper.wp;rw[YI (P:=P) (e:=a.eval) ty x ho b hx cs hc hu hd hi];exact hK _ _ h
theorem Cx {f:Fct} (hs:Ez f) {k:Nat} {l l':List UInt8} (h:Ll f k=some (l,l')):l.length<=1000/\l'.length<=1000:=by
 unfold Ll at h
 split at h<;>first|(cases h;first|exact⟨hs.q,by decide⟩|exact⟨hs.amt,by decide⟩|exact⟨hs.fee,by decide⟩|exact⟨hs.pn,hs.pd⟩|exact⟨hs.rn,hs.rd⟩|exact⟨hs.sn,hs.sd⟩)|cases h
theorem EA (f:Fct) (w:World):(Instr.index 365 (.agg #[.string ⟨#[]⟩,.string ⟨#[]⟩,.string ⟨#[]⟩,.string ⟨#[]⟩,.string ⟨#[]⟩,.string ⟨#[]⟩,.string ⟨#[]⟩,.string ⟨#[]⟩,.string ⟨f.q.toArray⟩,.string ⟨#[]⟩,.string ⟨f.amt.toArray⟩,.string ⟨#[]⟩,.string ⟨f.fee.toArray⟩,.string ⟨#[]⟩,.string ⟨f.pn.toArray⟩,.string ⟨f.pd.toArray⟩,.string ⟨f.rn.toArray⟩,.string ⟨f.rd.toArray⟩,.string ⟨f.sn.toArray⟩,.string ⟨f.sd.toArray⟩,.string ⟨#[]⟩,.string ⟨#[]⟩,.string ⟨#[]⟩,.string ⟨#[]⟩,.string ⟨#[]⟩,.string ⟨#[]⟩]) (.int .i64 4)).run Tryz.prog w=.ok (.agg #[.string ⟨f.q.toArray⟩,.string ⟨#[]⟩]) w:=by kernel_rfl
theorem EB (f:Fct) (w:World):(Instr.index 365 (.agg #[.string ⟨#[]⟩,.string ⟨#[]⟩,.string ⟨#[]⟩,.string ⟨#[]⟩,.string ⟨#[]⟩,.string ⟨#[]⟩,.string ⟨#[]⟩,.string ⟨#[]⟩,.string ⟨f.q.toArray⟩,.string ⟨#[]⟩,.string ⟨f.amt.toArray⟩,.string ⟨#[]⟩,.string ⟨f.fee.toArray⟩,.string ⟨#[]⟩,.string ⟨f.pn.toArray⟩,.string ⟨f.pd.toArray⟩,.string ⟨f.rn.toArray⟩,.string ⟨f.rd.toArray⟩,.string ⟨f.sn.toArray⟩,.string ⟨f.sd.toArray⟩,.string ⟨#[]⟩,.string ⟨#[]⟩,.string ⟨#[]⟩,.string ⟨#[]⟩,.string ⟨#[]⟩,.string ⟨#[]⟩]) (.int .i64 5)).run Tryz.prog w=.ok (.agg #[.string ⟨f.amt.toArray⟩,.string ⟨#[]⟩]) w:=by kernel_rfl
theorem EC (f:Fct) (w:World):(Instr.index 365 (.agg #[.string ⟨#[]⟩,.string ⟨#[]⟩,.string ⟨#[]⟩,.string ⟨#[]⟩,.string ⟨#[]⟩,.string ⟨#[]⟩,.string ⟨#[]⟩,.string ⟨#[]⟩,.string ⟨f.q.toArray⟩,.string ⟨#[]⟩,.string ⟨f.amt.toArray⟩,.string ⟨#[]⟩,.string ⟨f.fee.toArray⟩,.string ⟨#[]⟩,.string ⟨f.pn.toArray⟩,.string ⟨f.pd.toArray⟩,.string ⟨f.rn.toArray⟩,.string ⟨f.rd.toArray⟩,.string ⟨f.sn.toArray⟩,.string ⟨f.sd.toArray⟩,.string ⟨#[]⟩,.string ⟨#[]⟩,.string ⟨#[]⟩,.string ⟨#[]⟩,.string ⟨#[]⟩,.string ⟨#[]⟩]) (.int .i64 6)).run Tryz.prog w=.ok (.agg #[.string ⟨f.fee.toArray⟩,.string ⟨#[]⟩]) w:=by kernel_rfl
theorem ED (f:Fct) (w:World):(Instr.index 365 (.agg #[.string ⟨#[]⟩,.string ⟨#[]⟩,.string ⟨#[]⟩,.string ⟨#[]⟩,.string ⟨#[]⟩,.string ⟨#[]⟩,.string ⟨#[]⟩,.string ⟨#[]⟩,.string ⟨f.q.toArray⟩,.string ⟨#[]⟩,.string ⟨f.amt.toArray⟩,.string ⟨#[]⟩,.string ⟨f.fee.toArray⟩,.string ⟨#[]⟩,.string ⟨f.pn.toArray⟩,.string ⟨f.pd.toArray⟩,.string ⟨f.rn.toArray⟩,.string ⟨f.rd.toArray⟩,.string ⟨f.sn.toArray⟩,.string ⟨f.sd.toArray⟩,.string ⟨#[]⟩,.string ⟨#[]⟩,.string ⟨#[]⟩,.string ⟨#[]⟩,.string ⟨#[]⟩,.string ⟨#[]⟩]) (.int .i64 7)).run Tryz.prog w=.ok (.agg #[.string ⟨f.pn.toArray⟩,.string ⟨f.pd.toArray⟩]) w:=by kernel_rfl
theorem EE (f:Fct) (w:World):(Instr.index 365 (.agg #[.string ⟨#[]⟩,.string ⟨#[]⟩,.string ⟨#[]⟩,.string ⟨#[]⟩,.string ⟨#[]⟩,.string ⟨#[]⟩,.string ⟨#[]⟩,.string ⟨#[]⟩,.string ⟨f.q.toArray⟩,.string ⟨#[]⟩,.string ⟨f.amt.toArray⟩,.string ⟨#[]⟩,.string ⟨f.fee.toArray⟩,.string ⟨#[]⟩,.string ⟨f.pn.toArray⟩,.string ⟨f.pd.toArray⟩,.string ⟨f.rn.toArray⟩,.string ⟨f.rd.toArray⟩,.string ⟨f.sn.toArray⟩,.string ⟨f.sd.toArray⟩,.string ⟨#[]⟩,.string ⟨#[]⟩,.string ⟨#[]⟩,.string ⟨#[]⟩,.string ⟨#[]⟩,.string ⟨#[]⟩]) (.int .i64 8)).run Tryz.prog w=.ok (.agg #[.string ⟨f.rn.toArray⟩,.string ⟨f.rd.toArray⟩]) w:=by kernel_rfl
theorem EF (f:Fct) (w:World):(Instr.index 365 (.agg #[.string ⟨#[]⟩,.string ⟨#[]⟩,.string ⟨#[]⟩,.string ⟨#[]⟩,.string ⟨#[]⟩,.string ⟨#[]⟩,.string ⟨#[]⟩,.string ⟨#[]⟩,.string ⟨f.q.toArray⟩,.string ⟨#[]⟩,.string ⟨f.amt.toArray⟩,.string ⟨#[]⟩,.string ⟨f.fee.toArray⟩,.string ⟨#[]⟩,.string ⟨f.pn.toArray⟩,.string ⟨f.pd.toArray⟩,.string ⟨f.rn.toArray⟩,.string ⟨f.rd.toArray⟩,.string ⟨f.sn.toArray⟩,.string ⟨f.sd.toArray⟩,.string ⟨#[]⟩,.string ⟨#[]⟩,.string ⟨#[]⟩,.string ⟨#[]⟩,.string ⟨#[]⟩,.string ⟨#[]⟩]) (.int .i64 9)).run Tryz.prog w=.ok (.agg #[.string ⟨f.sn.toArray⟩,.string ⟨f.sd.toArray⟩]) w:=by kernel_rfl
theorem EG {f:Fct} {k:Nat} {l l':List UInt8} (hk:Ll f k=some (l,l')):WN 237 #[.agg (Zs f),.int .i64 (k:Int)] (.agg #[.string ⟨l.toArray⟩,.string ⟨l'.toArray⟩]):=fun w hG=>by
 have hb1:=Zd w (.cells (Zs f) 48);have x0:Blk (w.alloc (.cells (Zs f) 48)) w.heap.size (Zs f):=Blk.new w _ 48;obtain⟨w0,hw0⟩:∃w0,w0=w.alloc (.cells (Zs f) 48):=⟨_,rfl⟩
 have hsz0:w.heap.size+1=w0.heap.size:=by rw[hw0];exact (World.size_alloc _ _).symm
 rw[<-hw0] at hb1 x0;have hbz:=Zd w0 (.cells #[.string ⟨#[]⟩,.string ⟨#[]⟩] 34);have hbx:=heap_alloc_new w0 (.cells #[.string ⟨#[]⟩,.string ⟨#[]⟩] 34);have X:=Lh x0;have HW0:=Lh hw0;have HZ:Hid ((Tryz.prog.info? 34).map (·.size)=some 2):=P8
 have C1:=Lh (NZ f.q);have C2:=Lh (NZ f.amt);have C3:=Lh (NZ f.fee);clear hw0 x0;unfold Ll at hk
 split at hk<;>cases hk
 ·go_enter Tryz.func237,Tryz.ntmps237;go_wp2_with fail;rw[<-HW0.out]
  (try rw[hsz0])
  refine Z6 20 w0.heap.size 4 _ (by kernel_rfl) (by kernel_rfl) (by decide) hbz (Nl _) hbx rfl ?_
  simp only[Act.put,List.setIfInBounds_toArray,List.set_cons_zero,List.set_cons_succ];clear hbx hsz0;refine Zb _ (fun _=>rfl) (fun ρ w hw=>by go_simp;try with_reducible rfl) ?_
  simp only[Act.put,StT,StZ,StS,Nat.reduceAdd];refine Zb _ (fun _=>rfl) (fun ρ wz hw=>by have q0:wz.cell? ⟨w.heap.size,9,none⟩=some (.string ⟨f.q.toArray⟩):=(X.out.below hw).c 9;go_simp;try with_reducible rfl) ?_
  simp only[Act.put,StT,StZ,StS,Nat.reduceAdd];refine Zl _ _ _ (fun _=>rfl) (fun ρ w hw=>by go_simp;try with_reducible rfl) (fun w hw=>C1.out.of hG (bto hb1 hw)) ?_
  simp only[Act.put,StT,StZ,StS,Nat.reduceAdd];refine Zb _ (fun _=>rfl) (fun ρ w hw=>by go_simp;try with_reducible rfl) ?_
  simp only[Act.put,StT,StZ,StS,Nat.reduceAdd];refine Zb _ (fun _=>rfl) (fun ρ wz hw=>by have q0:wz.cell? ⟨w.heap.size,10,none⟩=some (.string ⟨f.amt.toArray⟩):=(X.out.below hw).c 10;go_simp;try with_reducible rfl) ?_
  simp only[Act.put,StT,StZ,StS,Nat.reduceAdd];refine Zl _ _ _ (fun _=>rfl) (fun ρ w hw=>by go_simp;try with_reducible rfl) (fun w hw=>C2.out.of hG (bto hb1 hw)) ?_
  simp only[Act.put,StT,StZ,StS,Nat.reduceAdd];refine Zb _ (fun _=>rfl) (fun ρ w hw=>by go_simp;try with_reducible rfl) ?_
  simp only[Act.put,StT,StZ,StS,Nat.reduceAdd];refine Zb _ (fun _=>rfl) (fun ρ wz hw=>by have q0:wz.cell? ⟨w.heap.size,11,none⟩=some (.string ⟨f.fee.toArray⟩):=(X.out.below hw).c 11;go_simp;try with_reducible rfl) ?_
  simp only[Act.put,StT,StZ,StS,Nat.reduceAdd];refine Zl _ _ _ (fun _=>rfl) (fun ρ w hw=>by go_simp;try with_reducible rfl) (fun w hw=>C3.out.of hG (bto hb1 hw)) ?_
  simp only[Act.put,StT,StZ,StS,Nat.reduceAdd];refine Zb _ (fun _=>rfl) (fun ρ w hw=>by go_simp;try with_reducible rfl) ?_
  simp only[Act.put,StT,StZ,StS,Nat.reduceAdd];refine Zb _ (fun _=>rfl) (fun ρ wz hw=>by have q0:wz.cell? ⟨w.heap.size,12,none⟩=some (.string ⟨f.pn.toArray⟩):=(X.out.below hw).c 12;have q1:wz.cell? ⟨w.heap.size,13,none⟩=some (.string ⟨f.pd.toArray⟩):=(X.out.below hw).c 13;go_simp;try with_reducible rfl) ?_
  simp only[Act.put,StT,StZ,StS,Nat.reduceAdd];refine Zb _ (fun _=>rfl) (fun ρ w hw=>by go_simp;try with_reducible rfl) ?_
  simp only[Act.put,StT,StZ,StS,Nat.reduceAdd];refine Zb _ (fun _=>rfl) (fun ρ wz hw=>by have q0:wz.cell? ⟨w.heap.size,14,none⟩=some (.string ⟨f.rn.toArray⟩):=(X.out.below hw).c 14;have q1:wz.cell? ⟨w.heap.size,15,none⟩=some (.string ⟨f.rd.toArray⟩):=(X.out.below hw).c 15;go_simp;try with_reducible rfl) ?_
  simp only[Act.put,StT,StZ,StS,Nat.reduceAdd];refine Zb _ (fun _=>rfl) (fun ρ w hw=>by go_simp;try with_reducible rfl) ?_
  simp only[Act.put,StT,StZ,StS,Nat.reduceAdd];refine Zb _ (fun _=>rfl) (fun ρ wz hw=>by have q0:wz.cell? ⟨w.heap.size,16,none⟩=some (.string ⟨f.sn.toArray⟩):=(X.out.below hw).c 16;have q1:wz.cell? ⟨w.heap.size,17,none⟩=some (.string ⟨f.sd.toArray⟩):=(X.out.below hw).c 17;go_simp;try with_reducible rfl) ?_
  iterate 2
   simp only[Act.put,StT,StZ,StS,Nat.reduceAdd];refine Zb _ (fun _=>rfl) (fun ρ w hw=>by go_simp;try with_reducible rfl) ?_
  simp only[Act.put,StT,StZ,StS,Nat.reduceAdd];refine Zb _ (fun _=>rfl) (fun ρ wz hw=>by have q0:=EA f wz;go_simp;try with_reducible rfl) ?_
  simp only[Act.put,StT,StZ,StS,Nat.reduceAdd];refine WW 20 _ _ _ _ _ rfl rfl (fun _=>rfl) (fun ρ w hw q0 q1 q2 q3=>by go_simp;try with_reducible rfl) ?_
  simp only[Act.put,Nat.reduceAdd];refine Zu (fun ρ w3 hF=>?_)
  have hb3:=bto hb1 hF.below;have hR:=(hF.box 20 _ _ rfl).2;generalize ρ 20=b6 at *;clear hF;go_wp2;refine bodyPost_ret (v:=.agg #[.string ⟨f.q.toArray⟩,.string ⟨#[]⟩]) ?_ rfl ?_
  ·exact ZS Tryz.f237 4 34 #[.string ⟨f.q.toArray⟩,.string ⟨#[]⟩] rfl rfl (ZD hR) Tryz.underlying34 rfl HZ.out
  exact⟨rfl,hb3⟩
 ·go_enter Tryz.func237,Tryz.ntmps237;go_wp2_with fail;rw[<-HW0.out]
  (try rw[hsz0])
  refine Z6 20 w0.heap.size 4 _ (by kernel_rfl) (by kernel_rfl) (by decide) hbz (Nl _) hbx rfl ?_
  simp only[Act.put,List.setIfInBounds_toArray,List.set_cons_zero,List.set_cons_succ];clear hbx hsz0;refine Zb _ (fun _=>rfl) (fun ρ w hw=>by go_simp;try with_reducible rfl) ?_
  simp only[Act.put,StT,StZ,StS,Nat.reduceAdd];refine Zb _ (fun _=>rfl) (fun ρ wz hw=>by have q0:wz.cell? ⟨w.heap.size,9,none⟩=some (.string ⟨f.q.toArray⟩):=(X.out.below hw).c 9;go_simp;try with_reducible rfl) ?_
  simp only[Act.put,StT,StZ,StS,Nat.reduceAdd];refine Zl _ _ _ (fun _=>rfl) (fun ρ w hw=>by go_simp;try with_reducible rfl) (fun w hw=>C1.out.of hG (bto hb1 hw)) ?_
  simp only[Act.put,StT,StZ,StS,Nat.reduceAdd];refine Zb _ (fun _=>rfl) (fun ρ w hw=>by go_simp;try with_reducible rfl) ?_
  simp only[Act.put,StT,StZ,StS,Nat.reduceAdd];refine Zb _ (fun _=>rfl) (fun ρ wz hw=>by have q0:wz.cell? ⟨w.heap.size,10,none⟩=some (.string ⟨f.amt.toArray⟩):=(X.out.below hw).c 10;go_simp;try with_reducible rfl) ?_
  simp only[Act.put,StT,StZ,StS,Nat.reduceAdd];refine Zl _ _ _ (fun _=>rfl) (fun ρ w hw=>by go_simp;try with_reducible rfl) (fun w hw=>C2.out.of hG (bto hb1 hw)) ?_
  simp only[Act.put,StT,StZ,StS,Nat.reduceAdd];refine Zb _ (fun _=>rfl) (fun ρ w hw=>by go_simp;try with_reducible rfl) ?_
  simp only[Act.put,StT,StZ,StS,Nat.reduceAdd];refine Zb _ (fun _=>rfl) (fun ρ wz hw=>by have q0:wz.cell? ⟨w.heap.size,11,none⟩=some (.string ⟨f.fee.toArray⟩):=(X.out.below hw).c 11;go_simp;try with_reducible rfl) ?_
  simp only[Act.put,StT,StZ,StS,Nat.reduceAdd];refine Zl _ _ _ (fun _=>rfl) (fun ρ w hw=>by go_simp;try with_reducible rfl) (fun w hw=>C3.out.of hG (bto hb1 hw)) ?_
  simp only[Act.put,StT,StZ,StS,Nat.reduceAdd];refine Zb _ (fun _=>rfl) (fun ρ w hw=>by go_simp;try with_reducible rfl) ?_
  simp only[Act.put,StT,StZ,StS,Nat.reduceAdd];refine Zb _ (fun _=>rfl) (fun ρ wz hw=>by have q0:wz.cell? ⟨w.heap.size,12,none⟩=some (.string ⟨f.pn.toArray⟩):=(X.out.below hw).c 12;have q1:wz.cell? ⟨w.heap.size,13,none⟩=some (.string ⟨f.pd.toArray⟩):=(X.out.below hw).c 13;go_simp;try with_reducible rfl) ?_
  simp only[Act.put,StT,StZ,StS,Nat.reduceAdd];refine Zb _ (fun _=>rfl) (fun ρ w hw=>by go_simp;try with_reducible rfl) ?_
  simp only[Act.put,StT,StZ,StS,Nat.reduceAdd];refine Zb _ (fun _=>rfl) (fun ρ wz hw=>by have q0:wz.cell? ⟨w.heap.size,14,none⟩=some (.string ⟨f.rn.toArray⟩):=(X.out.below hw).c 14;have q1:wz.cell? ⟨w.heap.size,15,none⟩=some (.string ⟨f.rd.toArray⟩):=(X.out.below hw).c 15;go_simp;try with_reducible rfl) ?_
  simp only[Act.put,StT,StZ,StS,Nat.reduceAdd];refine Zb _ (fun _=>rfl) (fun ρ w hw=>by go_simp;try with_reducible rfl) ?_
  simp only[Act.put,StT,StZ,StS,Nat.reduceAdd];refine Zb _ (fun _=>rfl) (fun ρ wz hw=>by have q0:wz.cell? ⟨w.heap.size,16,none⟩=some (.string ⟨f.sn.toArray⟩):=(X.out.below hw).c 16;have q1:wz.cell? ⟨w.heap.size,17,none⟩=some (.string ⟨f.sd.toArray⟩):=(X.out.below hw).c 17;go_simp;try with_reducible rfl) ?_
  iterate 2
   simp only[Act.put,StT,StZ,StS,Nat.reduceAdd];refine Zb _ (fun _=>rfl) (fun ρ w hw=>by go_simp;try with_reducible rfl) ?_
  simp only[Act.put,StT,StZ,StS,Nat.reduceAdd];refine Zb _ (fun _=>rfl) (fun ρ wz hw=>by have q0:=EB f wz;go_simp;try with_reducible rfl) ?_
  simp only[Act.put,StT,StZ,StS,Nat.reduceAdd];refine WW 20 _ _ _ _ _ rfl rfl (fun _=>rfl) (fun ρ w hw q0 q1 q2 q3=>by go_simp;try with_reducible rfl) ?_
  simp only[Act.put,Nat.reduceAdd];refine Zu (fun ρ w3 hF=>?_)
  have hb3:=bto hb1 hF.below;have hR:=(hF.box 20 _ _ rfl).2;generalize ρ 20=b6 at *;clear hF;go_wp2;refine bodyPost_ret (v:=.agg #[.string ⟨f.amt.toArray⟩,.string ⟨#[]⟩]) ?_ rfl ?_
  ·exact ZS Tryz.f237 4 34 #[.string ⟨f.amt.toArray⟩,.string ⟨#[]⟩] rfl rfl (ZD hR) Tryz.underlying34 rfl HZ.out
  exact⟨rfl,hb3⟩
 ·go_enter Tryz.func237,Tryz.ntmps237;go_wp2_with fail;rw[<-HW0.out]
  (try rw[hsz0])
  refine Z6 20 w0.heap.size 4 _ (by kernel_rfl) (by kernel_rfl) (by decide) hbz (Nl _) hbx rfl ?_
  simp only[Act.put,List.setIfInBounds_toArray,List.set_cons_zero,List.set_cons_succ];clear hbx hsz0;refine Zb _ (fun _=>rfl) (fun ρ w hw=>by go_simp;try with_reducible rfl) ?_
  simp only[Act.put,StT,StZ,StS,Nat.reduceAdd];refine Zb _ (fun _=>rfl) (fun ρ wz hw=>by have q0:wz.cell? ⟨w.heap.size,9,none⟩=some (.string ⟨f.q.toArray⟩):=(X.out.below hw).c 9;go_simp;try with_reducible rfl) ?_
  simp only[Act.put,StT,StZ,StS,Nat.reduceAdd];refine Zl _ _ _ (fun _=>rfl) (fun ρ w hw=>by go_simp;try with_reducible rfl) (fun w hw=>C1.out.of hG (bto hb1 hw)) ?_
  simp only[Act.put,StT,StZ,StS,Nat.reduceAdd];refine Zb _ (fun _=>rfl) (fun ρ w hw=>by go_simp;try with_reducible rfl) ?_
  simp only[Act.put,StT,StZ,StS,Nat.reduceAdd];refine Zb _ (fun _=>rfl) (fun ρ wz hw=>by have q0:wz.cell? ⟨w.heap.size,10,none⟩=some (.string ⟨f.amt.toArray⟩):=(X.out.below hw).c 10;go_simp;try with_reducible rfl) ?_
  simp only[Act.put,StT,StZ,StS,Nat.reduceAdd];refine Zl _ _ _ (fun _=>rfl) (fun ρ w hw=>by go_simp;try with_reducible rfl) (fun w hw=>C2.out.of hG (bto hb1 hw)) ?_
  simp only[Act.put,StT,StZ,StS,Nat.reduceAdd];refine Zb _ (fun _=>rfl) (fun ρ w hw=>by go_simp;try with_reducible rfl) ?_
  simp only[Act.put,StT,StZ,StS,Nat.reduceAdd];refine Zb _ (fun _=>rfl) (fun ρ wz hw=>by have q0:wz.cell? ⟨w.heap.size,11,none⟩=some (.string ⟨f.fee.toArray⟩):=(X.out.below hw).c 11;go_simp;try with_reducible rfl) ?_
  simp only[Act.put,StT,StZ,StS,Nat.reduceAdd];refine Zl _ _ _ (fun _=>rfl) (fun ρ w hw=>by go_simp;try with_reducible rfl) (fun w hw=>C3.out.of hG (bto hb1 hw)) ?_
  simp only[Act.put,StT,StZ,StS,Nat.reduceAdd];refine Zb _ (fun _=>rfl) (fun ρ w hw=>by go_simp;try with_reducible rfl) ?_
  simp only[Act.put,StT,StZ,StS,Nat.reduceAdd];refine Zb _ (fun _=>rfl) (fun ρ wz hw=>by have q0:wz.cell? ⟨w.heap.size,12,none⟩=some (.string ⟨f.pn.toArray⟩):=(X.out.below hw).c 12;have q1:wz.cell? ⟨w.heap.size,13,none⟩=some (.string ⟨f.pd.toArray⟩):=(X.out.below hw).c 13;go_simp;try with_reducible rfl) ?_
  simp only[Act.put,StT,StZ,StS,Nat.reduceAdd];refine Zb _ (fun _=>rfl) (fun ρ w hw=>by go_simp;try with_reducible rfl) ?_
  simp only[Act.put,StT,StZ,StS,Nat.reduceAdd];refine Zb _ (fun _=>rfl) (fun ρ wz hw=>by have q0:wz.cell? ⟨w.heap.size,14,none⟩=some (.string ⟨f.rn.toArray⟩):=(X.out.below hw).c 14;have q1:wz.cell? ⟨w.heap.size,15,none⟩=some (.string ⟨f.rd.toArray⟩):=(X.out.below hw).c 15;go_simp;try with_reducible rfl) ?_
  simp only[Act.put,StT,StZ,StS,Nat.reduceAdd];refine Zb _ (fun _=>rfl) (fun ρ w hw=>by go_simp;try with_reducible rfl) ?_
  simp only[Act.put,StT,StZ,StS,Nat.reduceAdd];refine Zb _ (fun _=>rfl) (fun ρ wz hw=>by have q0:wz.cell? ⟨w.heap.size,16,none⟩=some (.string ⟨f.sn.toArray⟩):=(X.out.below hw).c 16;have q1:wz.cell? ⟨w.heap.size,17,none⟩=some (.string ⟨f.sd.toArray⟩):=(X.out.below hw).c 17;go_simp;try with_reducible rfl) ?_
  iterate 2
   simp only[Act.put,StT,StZ,StS,Nat.reduceAdd];refine Zb _ (fun _=>rfl) (fun ρ w hw=>by go_simp;try with_reducible rfl) ?_
  simp only[Act.put,StT,StZ,StS,Nat.reduceAdd];refine Zb _ (fun _=>rfl) (fun ρ wz hw=>by have q0:=EC f wz;go_simp;try with_reducible rfl) ?_
  simp only[Act.put,StT,StZ,StS,Nat.reduceAdd];refine WW 20 _ _ _ _ _ rfl rfl (fun _=>rfl) (fun ρ w hw q0 q1 q2 q3=>by go_simp;try with_reducible rfl) ?_
  simp only[Act.put,Nat.reduceAdd];refine Zu (fun ρ w3 hF=>?_)
  have hb3:=bto hb1 hF.below;have hR:=(hF.box 20 _ _ rfl).2;generalize ρ 20=b6 at *;clear hF;go_wp2;refine bodyPost_ret (v:=.agg #[.string ⟨f.fee.toArray⟩,.string ⟨#[]⟩]) ?_ rfl ?_
  ·exact ZS Tryz.f237 4 34 #[.string ⟨f.fee.toArray⟩,.string ⟨#[]⟩] rfl rfl (ZD hR) Tryz.underlying34 rfl HZ.out
  exact⟨rfl,hb3⟩
 ·go_enter Tryz.func237,Tryz.ntmps237;go_wp2_with fail;rw[<-HW0.out]
  (try rw[hsz0])
  refine Z6 20 w0.heap.size 4 _ (by kernel_rfl) (by kernel_rfl) (by decide) hbz (Nl _) hbx rfl ?_
  simp only[Act.put,List.setIfInBounds_toArray,List.set_cons_zero,List.set_cons_succ];clear hbx hsz0;refine Zb _ (fun _=>rfl) (fun ρ w hw=>by go_simp;try with_reducible rfl) ?_
  simp only[Act.put,StT,StZ,StS,Nat.reduceAdd];refine Zb _ (fun _=>rfl) (fun ρ wz hw=>by have q0:wz.cell? ⟨w.heap.size,9,none⟩=some (.string ⟨f.q.toArray⟩):=(X.out.below hw).c 9;go_simp;try with_reducible rfl) ?_
  simp only[Act.put,StT,StZ,StS,Nat.reduceAdd];refine Zl _ _ _ (fun _=>rfl) (fun ρ w hw=>by go_simp;try with_reducible rfl) (fun w hw=>C1.out.of hG (bto hb1 hw)) ?_
  simp only[Act.put,StT,StZ,StS,Nat.reduceAdd];refine Zb _ (fun _=>rfl) (fun ρ w hw=>by go_simp;try with_reducible rfl) ?_
  simp only[Act.put,StT,StZ,StS,Nat.reduceAdd];refine Zb _ (fun _=>rfl) (fun ρ wz hw=>by have q0:wz.cell? ⟨w.heap.size,10,none⟩=some (.string ⟨f.amt.toArray⟩):=(X.out.below hw).c 10;go_simp;try with_reducible rfl) ?_
  simp only[Act.put,StT,StZ,StS,Nat.reduceAdd];refine Zl _ _ _ (fun _=>rfl) (fun ρ w hw=>by go_simp;try with_reducible rfl) (fun w hw=>C2.out.of hG (bto hb1 hw)) ?_
  simp only[Act.put,StT,StZ,StS,Nat.reduceAdd];refine Zb _ (fun _=>rfl) (fun ρ w hw=>by go_simp;try with_reducible rfl) ?_
  simp only[Act.put,StT,StZ,StS,Nat.reduceAdd];refine Zb _ (fun _=>rfl) (fun ρ wz hw=>by have q0:wz.cell? ⟨w.heap.size,11,none⟩=some (.string ⟨f.fee.toArray⟩):=(X.out.below hw).c 11;go_simp;try with_reducible rfl) ?_
  simp only[Act.put,StT,StZ,StS,Nat.reduceAdd];refine Zl _ _ _ (fun _=>rfl) (fun ρ w hw=>by go_simp;try with_reducible rfl) (fun w hw=>C3.out.of hG (bto hb1 hw)) ?_
  simp only[Act.put,StT,StZ,StS,Nat.reduceAdd];refine Zb _ (fun _=>rfl) (fun ρ w hw=>by go_simp;try with_reducible rfl) ?_
  simp only[Act.put,StT,StZ,StS,Nat.reduceAdd];refine Zb _ (fun _=>rfl) (fun ρ wz hw=>by have q0:wz.cell? ⟨w.heap.size,12,none⟩=some (.string ⟨f.pn.toArray⟩):=(X.out.below hw).c 12;have q1:wz.cell? ⟨w.heap.size,13,none⟩=some (.string ⟨f.pd.toArray⟩):=(X.out.below hw).c 13;go_simp;try with_reducible rfl) ?_
  simp only[Act.put,StT,StZ,StS,Nat.reduceAdd];refine Zb _ (fun _=>rfl) (fun ρ w hw=>by go_simp;try with_reducible rfl) ?_
  simp only[Act.put,StT,StZ,StS,Nat.reduceAdd];refine Zb _ (fun _=>rfl) (fun ρ wz hw=>by have q0:wz.cell? ⟨w.heap.size,14,none⟩=some (.string ⟨f.rn.toArray⟩):=(X.out.below hw).c 14;have q1:wz.cell? ⟨w.heap.size,15,none⟩=some (.string ⟨f.rd.toArray⟩):=(X.out.below hw).c 15;go_simp;try with_reducible rfl) ?_
  simp only[Act.put,StT,StZ,StS,Nat.reduceAdd];refine Zb _ (fun _=>rfl) (fun ρ w hw=>by go_simp;try with_reducible rfl) ?_
  simp only[Act.put,StT,StZ,StS,Nat.reduceAdd];refine Zb _ (fun _=>rfl) (fun ρ wz hw=>by have q0:wz.cell? ⟨w.heap.size,16,none⟩=some (.string ⟨f.sn.toArray⟩):=(X.out.below hw).c 16;have q1:wz.cell? ⟨w.heap.size,17,none⟩=some (.string ⟨f.sd.toArray⟩):=(X.out.below hw).c 17;go_simp;try with_reducible rfl) ?_
  iterate 2
   simp only[Act.put,StT,StZ,StS,Nat.reduceAdd];refine Zb _ (fun _=>rfl) (fun ρ w hw=>by go_simp;try with_reducible rfl) ?_
  simp only[Act.put,StT,StZ,StS,Nat.reduceAdd];refine Zb _ (fun _=>rfl) (fun ρ wz hw=>by have q0:=ED f wz;go_simp;try with_reducible rfl) ?_
  simp only[Act.put,StT,StZ,StS,Nat.reduceAdd];refine WW 20 _ _ _ _ _ rfl rfl (fun _=>rfl) (fun ρ w hw q0 q1 q2 q3=>by go_simp;try with_reducible rfl) ?_
  simp only[Act.put,Nat.reduceAdd];refine Zu (fun ρ w3 hF=>?_)
  have hb3:=bto hb1 hF.below;have hR:=(hF.box 20 _ _ rfl).2;generalize ρ 20=b6 at *;clear hF;go_wp2;refine bodyPost_ret (v:=.agg #[.string ⟨f.pn.toArray⟩,.string ⟨f.pd.toArray⟩]) ?_ rfl ?_
  ·exact ZS Tryz.f237 4 34 #[.string ⟨f.pn.toArray⟩,.string ⟨f.pd.toArray⟩] rfl rfl (ZD hR) Tryz.underlying34 rfl HZ.out
  exact⟨rfl,hb3⟩
 ·go_enter Tryz.func237,Tryz.ntmps237;go_wp2_with fail;rw[<-HW0.out]
  (try rw[hsz0])
  refine Z6 20 w0.heap.size 4 _ (by kernel_rfl) (by kernel_rfl) (by decide) hbz (Nl _) hbx rfl ?_
  simp only[Act.put,List.setIfInBounds_toArray,List.set_cons_zero,List.set_cons_succ];clear hbx hsz0;refine Zb _ (fun _=>rfl) (fun ρ w hw=>by go_simp;try with_reducible rfl) ?_
  simp only[Act.put,StT,StZ,StS,Nat.reduceAdd];refine Zb _ (fun _=>rfl) (fun ρ wz hw=>by have q0:wz.cell? ⟨w.heap.size,9,none⟩=some (.string ⟨f.q.toArray⟩):=(X.out.below hw).c 9;go_simp;try with_reducible rfl) ?_
  simp only[Act.put,StT,StZ,StS,Nat.reduceAdd];refine Zl _ _ _ (fun _=>rfl) (fun ρ w hw=>by go_simp;try with_reducible rfl) (fun w hw=>C1.out.of hG (bto hb1 hw)) ?_
  simp only[Act.put,StT,StZ,StS,Nat.reduceAdd];refine Zb _ (fun _=>rfl) (fun ρ w hw=>by go_simp;try with_reducible rfl) ?_
  simp only[Act.put,StT,StZ,StS,Nat.reduceAdd];refine Zb _ (fun _=>rfl) (fun ρ wz hw=>by have q0:wz.cell? ⟨w.heap.size,10,none⟩=some (.string ⟨f.amt.toArray⟩):=(X.out.below hw).c 10;go_simp;try with_reducible rfl) ?_
  simp only[Act.put,StT,StZ,StS,Nat.reduceAdd];refine Zl _ _ _ (fun _=>rfl) (fun ρ w hw=>by go_simp;try with_reducible rfl) (fun w hw=>C2.out.of hG (bto hb1 hw)) ?_
  simp only[Act.put,StT,StZ,StS,Nat.reduceAdd];refine Zb _ (fun _=>rfl) (fun ρ w hw=>by go_simp;try with_reducible rfl) ?_
  simp only[Act.put,StT,StZ,StS,Nat.reduceAdd];refine Zb _ (fun _=>rfl) (fun ρ wz hw=>by have q0:wz.cell? ⟨w.heap.size,11,none⟩=some (.string ⟨f.fee.toArray⟩):=(X.out.below hw).c 11;go_simp;try with_reducible rfl) ?_
  simp only[Act.put,StT,StZ,StS,Nat.reduceAdd];refine Zl _ _ _ (fun _=>rfl) (fun ρ w hw=>by go_simp;try with_reducible rfl) (fun w hw=>C3.out.of hG (bto hb1 hw)) ?_
  simp only[Act.put,StT,StZ,StS,Nat.reduceAdd];refine Zb _ (fun _=>rfl) (fun ρ w hw=>by go_simp;try with_reducible rfl) ?_
  simp only[Act.put,StT,StZ,StS,Nat.reduceAdd];refine Zb _ (fun _=>rfl) (fun ρ wz hw=>by have q0:wz.cell? ⟨w.heap.size,12,none⟩=some (.string ⟨f.pn.toArray⟩):=(X.out.below hw).c 12;have q1:wz.cell? ⟨w.heap.size,13,none⟩=some (.string ⟨f.pd.toArray⟩):=(X.out.below hw).c 13;go_simp;try with_reducible rfl) ?_
  simp only[Act.put,StT,StZ,StS,Nat.reduceAdd];refine Zb _ (fun _=>rfl) (fun ρ w hw=>by go_simp;try with_reducible rfl) ?_
  simp only[Act.put,StT,StZ,StS,Nat.reduceAdd];refine Zb _ (fun _=>rfl) (fun ρ wz hw=>by have q0:wz.cell? ⟨w.heap.size,14,none⟩=some (.string ⟨f.rn.toArray⟩):=(X.out.below hw).c 14;have q1:wz.cell? ⟨w.heap.size,15,none⟩=some (.string ⟨f.rd.toArray⟩):=(X.out.below hw).c 15;go_simp;try with_reducible rfl) ?_
  simp only[Act.put,StT,StZ,StS,Nat.reduceAdd];refine Zb _ (fun _=>rfl) (fun ρ w hw=>by go_simp;try with_reducible rfl) ?_
  simp only[Act.put,StT,StZ,StS,Nat.reduceAdd];refine Zb _ (fun _=>rfl) (fun ρ wz hw=>by have q0:wz.cell? ⟨w.heap.size,16,none⟩=some (.string ⟨f.sn.toArray⟩):=(X.out.below hw).c 16;have q1:wz.cell? ⟨w.heap.size,17,none⟩=some (.string ⟨f.sd.toArray⟩):=(X.out.below hw).c 17;go_simp;try with_reducible rfl) ?_
  iterate 2
   simp only[Act.put,StT,StZ,StS,Nat.reduceAdd];refine Zb _ (fun _=>rfl) (fun ρ w hw=>by go_simp;try with_reducible rfl) ?_
  simp only[Act.put,StT,StZ,StS,Nat.reduceAdd];refine Zb _ (fun _=>rfl) (fun ρ wz hw=>by have q0:=EE f wz;go_simp;try with_reducible rfl) ?_
  simp only[Act.put,StT,StZ,StS,Nat.reduceAdd];refine WW 20 _ _ _ _ _ rfl rfl (fun _=>rfl) (fun ρ w hw q0 q1 q2 q3=>by go_simp;try with_reducible rfl) ?_
  simp only[Act.put,Nat.reduceAdd];refine Zu (fun ρ w3 hF=>?_)
  have hb3:=bto hb1 hF.below;have hR:=(hF.box 20 _ _ rfl).2;generalize ρ 20=b6 at *;clear hF;go_wp2;refine bodyPost_ret (v:=.agg #[.string ⟨f.rn.toArray⟩,.string ⟨f.rd.toArray⟩]) ?_ rfl ?_
  ·exact ZS Tryz.f237 4 34 #[.string ⟨f.rn.toArray⟩,.string ⟨f.rd.toArray⟩] rfl rfl (ZD hR) Tryz.underlying34 rfl HZ.out
  exact⟨rfl,hb3⟩
 ·go_enter Tryz.func237,Tryz.ntmps237;go_wp2_with fail;rw[<-HW0.out]
  (try rw[hsz0])
  refine Z6 20 w0.heap.size 4 _ (by kernel_rfl) (by kernel_rfl) (by decide) hbz (Nl _) hbx rfl ?_
  simp only[Act.put,List.setIfInBounds_toArray,List.set_cons_zero,List.set_cons_succ];clear hbx hsz0;refine Zb _ (fun _=>rfl) (fun ρ w hw=>by go_simp;try with_reducible rfl) ?_
  simp only[Act.put,StT,StZ,StS,Nat.reduceAdd];refine Zb _ (fun _=>rfl) (fun ρ wz hw=>by have q0:wz.cell? ⟨w.heap.size,9,none⟩=some (.string ⟨f.q.toArray⟩):=(X.out.below hw).c 9;go_simp;try with_reducible rfl) ?_
  simp only[Act.put,StT,StZ,StS,Nat.reduceAdd];refine Zl _ _ _ (fun _=>rfl) (fun ρ w hw=>by go_simp;try with_reducible rfl) (fun w hw=>C1.out.of hG (bto hb1 hw)) ?_
  simp only[Act.put,StT,StZ,StS,Nat.reduceAdd];refine Zb _ (fun _=>rfl) (fun ρ w hw=>by go_simp;try with_reducible rfl) ?_
  simp only[Act.put,StT,StZ,StS,Nat.reduceAdd];refine Zb _ (fun _=>rfl) (fun ρ wz hw=>by have q0:wz.cell? ⟨w.heap.size,10,none⟩=some (.string ⟨f.amt.toArray⟩):=(X.out.below hw).c 10;go_simp;try with_reducible rfl) ?_
  simp only[Act.put,StT,StZ,StS,Nat.reduceAdd];refine Zl _ _ _ (fun _=>rfl) (fun ρ w hw=>by go_simp;try with_reducible rfl) (fun w hw=>C2.out.of hG (bto hb1 hw)) ?_
  simp only[Act.put,StT,StZ,StS,Nat.reduceAdd];refine Zb _ (fun _=>rfl) (fun ρ w hw=>by go_simp;try with_reducible rfl) ?_
  simp only[Act.put,StT,StZ,StS,Nat.reduceAdd];refine Zb _ (fun _=>rfl) (fun ρ wz hw=>by have q0:wz.cell? ⟨w.heap.size,11,none⟩=some (.string ⟨f.fee.toArray⟩):=(X.out.below hw).c 11;go_simp;try with_reducible rfl) ?_
  simp only[Act.put,StT,StZ,StS,Nat.reduceAdd];refine Zl _ _ _ (fun _=>rfl) (fun ρ w hw=>by go_simp;try with_reducible rfl) (fun w hw=>C3.out.of hG (bto hb1 hw)) ?_
  simp only[Act.put,StT,StZ,StS,Nat.reduceAdd];refine Zb _ (fun _=>rfl) (fun ρ w hw=>by go_simp;try with_reducible rfl) ?_
  simp only[Act.put,StT,StZ,StS,Nat.reduceAdd];refine Zb _ (fun _=>rfl) (fun ρ wz hw=>by have q0:wz.cell? ⟨w.heap.size,12,none⟩=some (.string ⟨f.pn.toArray⟩):=(X.out.below hw).c 12;have q1:wz.cell? ⟨w.heap.size,13,none⟩=some (.string ⟨f.pd.toArray⟩):=(X.out.below hw).c 13;go_simp;try with_reducible rfl) ?_
  simp only[Act.put,StT,StZ,StS,Nat.reduceAdd];refine Zb _ (fun _=>rfl) (fun ρ w hw=>by go_simp;try with_reducible rfl) ?_
  simp only[Act.put,StT,StZ,StS,Nat.reduceAdd];refine Zb _ (fun _=>rfl) (fun ρ wz hw=>by have q0:wz.cell? ⟨w.heap.size,14,none⟩=some (.string ⟨f.rn.toArray⟩):=(X.out.below hw).c 14;have q1:wz.cell? ⟨w.heap.size,15,none⟩=some (.string ⟨f.rd.toArray⟩):=(X.out.below hw).c 15;go_simp;try with_reducible rfl) ?_
  simp only[Act.put,StT,StZ,StS,Nat.reduceAdd];refine Zb _ (fun _=>rfl) (fun ρ w hw=>by go_simp;try with_reducible rfl) ?_
  simp only[Act.put,StT,StZ,StS,Nat.reduceAdd];refine Zb _ (fun _=>rfl) (fun ρ wz hw=>by have q0:wz.cell? ⟨w.heap.size,16,none⟩=some (.string ⟨f.sn.toArray⟩):=(X.out.below hw).c 16;have q1:wz.cell? ⟨w.heap.size,17,none⟩=some (.string ⟨f.sd.toArray⟩):=(X.out.below hw).c 17;go_simp;try with_reducible rfl) ?_
  iterate 2
   simp only[Act.put,StT,StZ,StS,Nat.reduceAdd];refine Zb _ (fun _=>rfl) (fun ρ w hw=>by go_simp;try with_reducible rfl) ?_
  simp only[Act.put,StT,StZ,StS,Nat.reduceAdd];refine Zb _ (fun _=>rfl) (fun ρ wz hw=>by have q0:=EF f wz;go_simp;try with_reducible rfl) ?_
  simp only[Act.put,StT,StZ,StS,Nat.reduceAdd];refine WW 20 _ _ _ _ _ rfl rfl (fun _=>rfl) (fun ρ w hw q0 q1 q2 q3=>by go_simp;try with_reducible rfl) ?_
  simp only[Act.put,Nat.reduceAdd];refine Zu (fun ρ w3 hF=>?_)
  have hb3:=bto hb1 hF.below;have hR:=(hF.box 20 _ _ rfl).2;generalize ρ 20=b6 at *;clear hF;go_wp2;refine bodyPost_ret (v:=.agg #[.string ⟨f.sn.toArray⟩,.string ⟨f.sd.toArray⟩]) ?_ rfl ?_
  ·exact ZS Tryz.f237 4 34 #[.string ⟨f.sn.toArray⟩,.string ⟨f.sd.toArray⟩] rfl rfl (ZD hR) Tryz.underlying34 rfl HZ.out
  exact⟨rfl,hb3⟩
def emB (f:Fct):Nat->Bool
 | 0=>f.ins.isEmpty
 | 1=>f.oth.isEmpty
 | 2=>f.cur.isEmpty
 | 3=>f.tgt.isEmpty
 | 4=>f.q.isEmpty
 | 5=>f.amt.isEmpty
 | 6=>f.fee.isEmpty
 | 7=>f.pn.isEmpty&&f.pd.isEmpty
 | 8=>f.rn.isEmpty&&f.rd.isEmpty
 | 9=>f.sn.isEmpty&&f.sd.isEmpty
 | 10=>(f.pN:Int)==0
 | 11=>(f.oN:Int)==0
 | _=>f.choice==0
theorem A7 (f:Fct) {k:Nat} (hk:k<13):WN 185 #[.agg (Zs f),.int .i64 (k:Int)] (.bool (emB f k)):=fun w hG=>by
 have hb1:=Zd w (.cells (Zs f) 48);have x0:Blk (w.alloc (.cells (Zs f) 48)) w.heap.size (Zs f):=Blk.new w _ 48;have HV:=Lh (fun (k:Nat) l l' (h:Ll f k=some (l,l'))=>EG h)
 by_cases k0:k=0
 ·subst k0;have q0:(w.alloc (.cells (Zs f) 48)).cell? ⟨w.heap.size,5,none⟩=some (.string ⟨f.ins.toArray⟩):=x0.c 5;go_enter Tryz.func185,Tryz.ntmps185;go_wp2;go_ret;exact⟨Z4 (by show _=_;rfl),hb1⟩
 by_cases k1:k=1
 ·subst k1;have q0:(w.alloc (.cells (Zs f) 48)).cell? ⟨w.heap.size,6,none⟩=some (.string ⟨f.oth.toArray⟩):=x0.c 6;go_enter Tryz.func185,Tryz.ntmps185;go_wp2;go_ret;exact⟨Z4 (by show _=_;rfl),hb1⟩
 by_cases k2:k=2
 ·subst k2;have q0:(w.alloc (.cells (Zs f) 48)).cell? ⟨w.heap.size,7,none⟩=some (.string ⟨f.cur.toArray⟩):=x0.c 7;go_enter Tryz.func185,Tryz.ntmps185;go_wp2;go_ret;exact⟨Z4 (by show _=_;rfl),hb1⟩
 by_cases k3:k=3
 ·subst k3;have q0:(w.alloc (.cells (Zs f) 48)).cell? ⟨w.heap.size,8,none⟩=some (.string ⟨f.tgt.toArray⟩):=x0.c 8;go_enter Tryz.func185,Tryz.ntmps185;go_wp2;go_ret;exact⟨Z4 (by show _=_;rfl),hb1⟩
 by_cases k4:k=4
 ·subst k4;have C1:Hid (WN 237 #[.agg (Zs f),.int .i64 4] (.agg #[.string ⟨f.q.toArray⟩,.string ⟨#[]⟩])):=HV.out 4 f.q [] rfl;go_enter Tryz.func185,Tryz.ntmps185;go_wp2_with (refine Zt rfl 48 (.tmp 2) rfl w.heap.size rfl (Zs f) x0 Tryz.underlying48 rfl ZU ?_)
  with_reducible refine (C1.out.of hG hb1).mono ?_
  rintro e w1 ⟨rfl,hb2⟩;go_wp2
  all_goals (go_ret;refine⟨Z4 ?_,bto hb1 hb2⟩;simp[emB, *])
 by_cases k5:k=5
 ·subst k5;have C1:Hid (WN 237 #[.agg (Zs f),.int .i64 5] (.agg #[.string ⟨f.amt.toArray⟩,.string ⟨#[]⟩])):=HV.out 5 f.amt [] rfl;go_enter Tryz.func185,Tryz.ntmps185;go_wp2_with (refine Zt rfl 48 (.tmp 2) rfl w.heap.size rfl (Zs f) x0 Tryz.underlying48 rfl ZU ?_)
  with_reducible refine (C1.out.of hG hb1).mono ?_
  rintro e w1 ⟨rfl,hb2⟩;go_wp2
  all_goals (go_ret;refine⟨Z4 ?_,bto hb1 hb2⟩;simp[emB, *])
 by_cases k6:k=6
 ·subst k6;have C1:Hid (WN 237 #[.agg (Zs f),.int .i64 6] (.agg #[.string ⟨f.fee.toArray⟩,.string ⟨#[]⟩])):=HV.out 6 f.fee [] rfl;go_enter Tryz.func185,Tryz.ntmps185;go_wp2_with (refine Zt rfl 48 (.tmp 2) rfl w.heap.size rfl (Zs f) x0 Tryz.underlying48 rfl ZU ?_)
  with_reducible refine (C1.out.of hG hb1).mono ?_
  rintro e w1 ⟨rfl,hb2⟩;go_wp2
  all_goals (go_ret;refine⟨Z4 ?_,bto hb1 hb2⟩;simp[emB, *])
 by_cases k7:k=7
 ·subst k7;have C1:Hid (WN 237 #[.agg (Zs f),.int .i64 7] (.agg #[.string ⟨f.pn.toArray⟩,.string ⟨f.pd.toArray⟩])):=HV.out 7 f.pn f.pd rfl;go_enter Tryz.func185,Tryz.ntmps185;go_wp2_with (refine Zt rfl 48 (.tmp 2) rfl w.heap.size rfl (Zs f) x0 Tryz.underlying48 rfl ZU ?_)
  with_reducible refine (C1.out.of hG hb1).mono ?_
  rintro e w1 ⟨rfl,hb2⟩;go_wp2
  all_goals (go_ret;refine⟨Z4 ?_,bto hb1 hb2⟩;simp[emB, *])
 by_cases k8:k=8
 ·subst k8;have C1:Hid (WN 237 #[.agg (Zs f),.int .i64 8] (.agg #[.string ⟨f.rn.toArray⟩,.string ⟨f.rd.toArray⟩])):=HV.out 8 f.rn f.rd rfl;go_enter Tryz.func185,Tryz.ntmps185;go_wp2_with (refine Zt rfl 48 (.tmp 2) rfl w.heap.size rfl (Zs f) x0 Tryz.underlying48 rfl ZU ?_)
  with_reducible refine (C1.out.of hG hb1).mono ?_
  rintro e w1 ⟨rfl,hb2⟩;go_wp2
  all_goals (go_ret;refine⟨Z4 ?_,bto hb1 hb2⟩;simp[emB, *])
 by_cases k9:k=9
 ·subst k9;have C1:Hid (WN 237 #[.agg (Zs f),.int .i64 9] (.agg #[.string ⟨f.sn.toArray⟩,.string ⟨f.sd.toArray⟩])):=HV.out 9 f.sn f.sd rfl;go_enter Tryz.func185,Tryz.ntmps185;go_wp2_with (refine Zt rfl 48 (.tmp 2) rfl w.heap.size rfl (Zs f) x0 Tryz.underlying48 rfl ZU ?_)
  with_reducible refine (C1.out.of hG hb1).mono ?_
  rintro e w1 ⟨rfl,hb2⟩;go_wp2
  all_goals (go_ret;refine⟨Z4 ?_,bto hb1 hb2⟩;simp[emB, *])
 by_cases k10:k=10
 ·subst k10;have q0:(w.alloc (.cells (Zs f) 48)).cell? ⟨w.heap.size,18,none⟩=some (.slice f.pA f.pN f.pC):=x0.c 18;go_enter Tryz.func185,Tryz.ntmps185;go_wp2;go_ret;exact⟨Z4 (by show _=_;rfl),hb1⟩
 by_cases k11:k=11
 ·subst k11;have q0:(w.alloc (.cells (Zs f) 48)).cell? ⟨w.heap.size,19,none⟩=some (.slice f.oA f.oN f.oC):=x0.c 19;go_enter Tryz.func185,Tryz.ntmps185;go_wp2;go_ret;exact⟨Z4 (by show _=_;rfl),hb1⟩
 by_cases k12:k=12
 ·subst k12;have q0:(w.alloc (.cells (Zs f) 48)).cell? ⟨w.heap.size,20,none⟩=some (.int .i64 f.choice):=x0.c 20;go_enter Tryz.func185,Tryz.ntmps185;go_wp2;go_ret;exact⟨Z4 (by show _=_;rfl),hb1⟩
 omega
abbrev SG:=(Nat->Value)->Act
abbrev BG':=Nat->Option (World->Value->Prop)
inductive WT where
 | val (v:Value)
 | new (R:World->Value->Prop)
def WT.at (i:Nat) (ρ:Nat->Value):WT->Value
 | .val v=>v
 | .new _=>ρ i
def WT.bx (i:Nat) (B:BG'):WT->BG'
 | .val _=>B
 | .new R=>fun k=>if k=i then some R else B k
def WT.pre (i:Nat) (B:BG'):WT->Prop
 | .val _=>True
 | .new _=>B i=none
def QS (ρ:Nat->Value) (i:Nat) (v:Value):Nat->Value:=fun k=>if k=i then v else ρ k
def P9 (P:Program) (w:World) (v:Value):Result Next->Prop
 | .ok (.value u) w'=>w'=w/\u=v
 | .ok .skip w'=>w'=w/\v=undef
 | .ok (.enter f args) w'=>w'=w/\Calls P f args w (fun e w''=>e=.returned v/\Below w.heap.size w w'')
 | _=>False
def Oc (P:Program) (w:World) (R:World->Value->Prop):Result Next->Prop
 | .ok (.value u) w'=>Below w.heap.size w w'/\R w' u
 | .ok (.enter f args) w'=>w'=w/\Calls P f args w (fun e w''=>∃u,e=.returned u/\Below w.heap.size w w''/\R w'' u)
 | _=>False
def Kn (ks:List Nat) (ρ:Nat->Value) (B:BG') (w:World):Prop:=∀k∈ks,∀R,B k=some R->R w (ρ k)
section
variable {P:Program} {ops:Array Oper} {md:Region.Mode} {C:World->Prop}
def Tn (ops:Array Oper) (o:Oper) (ks:List Nat):Prop:=∀k∈ks,∃ok d,ops[k]?=some ok/\ok.dst=some d/\d∈o.looksAt ops
def Wm (P:Program) (ops:Array Oper) (C:World->Prop) (o:Oper) (ks:List Nat) (a:SG) (B:BG'):WT->Prop
 | .val v=>(∀ρ,Region.wanted o (yielded ops (a ρ).tmps)=true/\∀w,C w->Kn ks ρ B w->P9 P w v ((execOp (a ρ).eval o).run P w))∨((∀ρ,Region.wanted o (yielded ops (a ρ).tmps)=false)/\v=undef)
 | .new R=>(∀w w' u,R w u->Below w.heap.size w w'->R w' u)/\∀ρ,Region.wanted o (yielded ops (a ρ).tmps)=true/\∀w,C w->Kn ks ρ B w->Oc P w R ((execOp (a ρ).eval o).run P w)
theorem Wm.of_same {o:Oper} {ks:List Nat} {x:WT} {a a':SG} {B B':BG'} (hy:Wm P ops C o ks a B x) (he:∀ρ,execOp (a' ρ).eval o=execOp (a ρ).eval o)
  (hw:∀ρ,Region.wanted o (yielded ops (a' ρ).tmps)=Region.wanted o (yielded ops (a ρ).tmps)) (hk:∀ρ w,Kn ks ρ B' w->Kn ks ρ B w):Wm P ops C o ks a' B' x:=by
 cases x with
 | val v=>
  rcases hy with hy|⟨h1,h2⟩
  ·exact .inl fun ρ=>⟨by rw[hw];exact (hy ρ).1,fun w hc hn=>by rw[he];exact (hy ρ).2 w hc (hk ρ w hn)⟩
  ·exact .inr ⟨fun ρ=>by rw[hw];exact h1 ρ,h2⟩
 | new R=>exact⟨hy.1,fun ρ=>⟨by rw[hw];exact (hy.2 ρ).1,fun w hc hn=>by rw[he];exact (hy.2 ρ).2 w hc (hk ρ w hn)⟩⟩
def gOp (P:Program) (ops:Array Oper) (C:World->Prop) (i:Nat) (K:SG->BG'->Prop) (a:SG) (B:BG'):Prop:=
 match ops[i]? with
 | none=>K a B
 | some o=>∃(x:WT) (ks:List Nat),x.pre i B/\Tn ops o ks/\Wm P ops C o ks a B x/\K (fun ρ=>(a ρ).put o.dst (x.at i ρ)) (x.bx i B)
theorem EH {i:Nat} {a:SG} {B:BG'} {K K':SG->BG'->Prop} (h:∀a B,K a B->K' a B) (hh:gOp P ops C i K a B):gOp P ops C i K' a B:=by
 unfold gOp at *
 split
 ·exact h _ _ (by simpa [*] using hh)
 ·rename_i o ho;simp only[ho] at hh;obtain⟨x,ks,h0,hl,h1,h2⟩:=hh;exact⟨x,ks,h0,hl,h1,h _ _ h2⟩
def Oo (P:Program) (md:Region.Mode) (ops:Array Oper) (C:World->Prop) (Q:SG->BG'->Prop):Nat->Array Bool->SG->BG'->Prop
 | 0,listed,a,B=>Region.ready md ops listed=[]/\Q a B
 | fuel+1,listed,a,B=>
  (Region.ready md ops listed=[]->Q a B)/\
  ∀i∈Region.ready md ops listed,gOp P ops C i (Oo P md ops C Q fuel (listed.setIfInBounds i true)) a B
theorem Cy {i j:Nat} (h:i≠j) (x y:WT) (B:BG'):y.bx j (x.bx i B)=x.bx i (y.bx j B):=by
 cases x<;>cases y<;>try rfl
 funext k
 simp only[WT.bx]
 by_cases h1:k=j
 ·rw[if_pos h1,if_neg (by omega),if_pos h1]
 ·rw[if_neg h1]
  by_cases h2:k=i
  ·rw[if_pos h2,if_pos h2]
  ·rw[if_neg h2,if_neg h2,if_neg h1]
theorem EI {i j:Nat} (h:i≠j) (x y:WT) (B:BG') (hx:x.pre i B) (hy:y.pre j (x.bx i B)):y.pre j B/\x.pre i (y.bx j B):=by
 cases x<;>cases y<;>simp only[WT.pre,WT.bx] at *<;>first|exact⟨trivial,trivial⟩|exact⟨hy,trivial⟩|exact⟨trivial,hx⟩|(rw[if_neg (Ne.symm h)] at hy;exact⟨hy,by rw[if_neg h];exact hx⟩)
theorem Cz {i j:Nat} {oi oj:Oper} {x:WT} {ks:List Nat} (hij:i≠j) (hi:ops[i]?=some oi) (hj:ops[j]?=some oj) (hap:oi.apart ops oj=true)
  (hsi:∀cs b,oi.op≠.select cs b) (hsj:∀cs b,oj.op≠.select cs b) {K:SG->BG'->Prop} {a:SG} {B:BG'}
  (hp:x.pre i B) (_hl:Tn ops oi ks) (hy:Wm P ops C oi ks a B x) (h:gOp P ops C j K (fun ρ=>(a ρ).put oi.dst (x.at i ρ)) (x.bx i B)) :
  gOp P ops C j (fun a' B'=>x.pre i B'/\Wm P ops C oi ks a' B' x/\K (fun ρ=>(a' ρ).put oi.dst (x.at i ρ)) (x.bx i B')) a B:=by
 obtain⟨h1,h2,h3⟩:=Oper.apart_spec hap;unfold gOp at *;simp only[hj] at *;obtain⟨y,js,hp',hl',hy',hK⟩:=h;obtain⟨m1,m2⟩:=EI hij x y B hp hp'
 refine⟨y,js,m1,hl',hy'.of_same (fun ρ=>(execOp_put oj hsj (a ρ) oi.dst _ h1).symm) (fun ρ=>(wanted_put oj (a ρ) oi.dst _ h1).symm) (fun ρ w hn k hk R hR=>?_),m2,
  hy.of_same (fun ρ=>execOp_put oi hsi (a ρ) oj.dst _ h3) (fun ρ=>wanted_put oi (a ρ) oj.dst _ h3) (fun ρ w hn k hk R hR=>hn k hk R ?_),?_⟩
 ·cases x with
  | val v=>exact hn k hk R hR
  | new R'=>
   simp only[WT.bx] at hR
   by_cases hki:k=i
   ·exfalso
    obtain⟨ok,d,e1,e2,e3⟩:=hl' k hk;rw[hki,hi] at e1;injection e1 with e1
    subst e1;exact h1 d e2 e3
   ·rw[if_neg hki] at hR;exact hn k hk R hR
 ·cases y with
  | val v=>exact hR
  | new R'=>
   simp only[WT.bx,WT.pre] at m1 ⊢;have hkj:k≠j:=fun e=>by rw[e,m1] at hR;cases hR
   rw[if_neg hkj];exact hR
 have e1:(fun ρ=>((a ρ).put oj.dst (y.at j ρ)).put oi.dst (x.at i ρ))=fun ρ=>((a ρ).put oi.dst (x.at i ρ)).put oj.dst (y.at j ρ):=by
  funext ρ;exact (Act.put_comm (a ρ) _ _ h2).symm
 rw[e1,<-Cy hij];exact hK
theorem N4 {Q:SG->BG'->Prop} {i:Nat} {oi:Oper} {x:WT} {ks:List Nat} (hi:ops[i]?=some oi) (hl:Tn ops oi ks) (hsel:∀(j:Nat) (o:Oper) cs b,ops[j]?=some o->o.op≠.select cs b) :
  ∀(fuel:Nat) (listed:Array Bool) (a:SG) (B:BG'),
   (∀j oj,ops[j]?=some oj->j≠i->listed.getD j true=false->(∀e∈oj.after,Region.binds md e=true->e.on≠i)->oi.apart ops oj=true)->
   i∈Region.ready md ops listed->x.pre i B->Wm P ops C oi ks a B x->
   Oo P md ops C Q fuel (listed.setIfInBounds i true) (fun ρ=>(a ρ).put oi.dst (x.at i ρ)) (x.bx i B)->Oo P md ops C Q (fuel+1) listed a B:=by
 intro fuel
 induction fuel with
 | zero=>
  intro listed a B _ hr hp hy H;refine⟨fun h=>(by rw[h] at hr;cases hr),fun j hj=>?_⟩
  by_cases hji:j=i
  ·subst hji;unfold gOp;simp only[hi];exact⟨x,ks,hp,hl,hy,H⟩
  ·have:=ready_mono hj hji
   rw[H.1] at this;cases this
 | succ fuel ih=>
  intro listed a B hfree hr hp hy H;refine⟨fun h=>(by rw[h] at hr;cases hr),fun j hj=>?_⟩
  by_cases hji:j=i
  ·subst hji;unfold gOp;simp only[hi];exact⟨x,ks,hp,hl,hy,H⟩
  ·have h1:=H.2 j (ready_mono hj hji);obtain⟨hjun,oj,hoj,hall⟩:=mem_ready.1 hj;have hnot:∀e∈oj.after,Region.binds md e=true->e.on≠i:=fun e he hb heq=>by
    have h1:=hall e he hb;have h0:=(mem_ready.1 hr).1;rw[heq] at h1;rcases Nat.lt_or_ge i listed.size with h'|h'
    ·simp[h'] at h0 h1;rw[h0] at h1;cases h1
    ·simp[Array.getElem?_eq_none h'] at h1
   have h2:=Cz (Ne.symm hji) hi hoj (hfree j oj hoj hji hjun hnot) (fun cs b=>hsel i oi cs b hi) (fun cs b=>hsel j oj cs b hoj) hp hl hy h1
   have hfree':∀k ok,ops[k]?=some ok->k≠i->(listed.setIfInBounds j true).getD k true=false->
     (∀e∈ok.after,Region.binds md e=true->e.on≠i)->oi.apart ops ok=true:=fun k ok hk hki hun hno=>by
    refine hfree k ok hk hki ?_ hno
    by_cases hjk:j=k
    ·subst hjk;exact hjun
    ·rw[getD_set_ne true hjk] at hun;exact hun
   refine EH (fun a' B' h3=>ih (listed.setIfInBounds j true) a' B' hfree' (ready_mono hr (Ne.symm hji)) h3.1 h3.2.1 ?_) h2
   rw[Array.setIfInBounds_comm _ _ hji];exact h3.2.2
def Vm (P:Program) (ops:Array Oper) (C:World->Prop) (Q:SG->BG'->Prop):List Oper->Nat->SG->BG'->Prop
 | [],_,a,B=>Q a B
 | o::rest,i,a,B=>∃(x:WT) (ks:List Nat),x.pre i B/\Tn ops o ks/\Wm P ops C o ks a B x/\Vm P ops C Q rest (i+1) (fun ρ=>(a ρ).put o.dst (x.at i ρ)) (x.bx i B)
theorem Oq {Q:SG->BG'->Prop} (hs:Region.noSelect ops=true):∀(l:List Oper) (k:Nat) (listed:Array Bool) (a:SG) (B:BG'),(∀j,l[j]?=ops[k+j]?)->
  Region.lexFrom md ops l.length k listed=true->Vm P ops C Q l k a B->Oo P md ops C Q l.length listed a B
 | [],_,_,_,_,_,hB,h=>⟨by simpa [Region.lexFrom] using hB,h⟩
 | o::l,k,listed,a,B,hl,hB,h=>by
  have h0:ops[k]?=some o:=by simpa using (hl 0).symm
  simp only[List.length_cons,Region.lexFrom,Bool.and_eq_true] at hB;obtain⟨⟨hr,hf⟩,hB'⟩:=hB;obtain⟨x,ks,hp,hle,hy,hK⟩:=h;exact N4 h0 hle (Region.noSelect_spec hs) l.length listed a B (Region.free_spec h0 hf) (by simpa using hr) hp hy
   (Oq hs l (k+1) _ _ _ (fun j=>by have:=hl (j+1);simpa [Nat.add_assoc,Nat.add_comm 1 j] using this) hB' hK)
structure V2 (w0:World) (ρ:Nat->Value) (B:BG') (w:World):Prop where
 below:Below w0.heap.size w0 w
 box:∀i R,B i=some R->R w (ρ i)/\∀w w' u,R w u->Below w.heap.size w w'->R w' u
theorem V2.kn {w0 w:World} {ρ:Nat->Value} {B:BG'} (h:V2 w0 ρ B w) (ks:List Nat):Kn ks ρ B w:=fun k _ R hR=>(h.box k R hR).1
theorem V2.go {w0 w w':World} {ρ:Nat->Value} {B:BG'} (h:V2 w0 ρ B w) (hb:Below w.heap.size w w'):V2 w0 ρ B w':=
 ⟨h.below.trans (hb.mono h.below.size),fun i R hi=>⟨(h.box i R hi).2 _ _ _ (h.box i R hi).1 hb,(h.box i R hi).2⟩⟩
theorem V2.new {w0 w w':World} {ρ:Nat->Value} {B:BG'} (h:V2 w0 ρ B w) (hb:Below w.heap.size w w') (i:Nat) {R:World->Value->Prop} {u:Value} (hR:R w' u) (hs:∀w w' u,R w u->Below w.heap.size w w'->R w' u) :
  V2 w0 (QS ρ i u) ((WT.new R).bx i B) w':=by
 have h':=h.go hb;refine⟨h'.below,fun k R' hk=>?_⟩
 simp only[WT.bx,QS] at *
 by_cases hki:k=i
 ·rw[if_pos hki] at hk ⊢;injection hk with hk
  subst hk;exact⟨hR,hs⟩
 ·rw[if_neg hki] at hk ⊢;exact h'.box k R' hk
def Ir (listed:Array Bool) (a:SG):Prop:=∀(i:Nat) (ρ:Nat->Value) (b:Value),listed.getD i true=false->a (QS ρ i b)=a ρ
theorem Ir.put {listed:Array Bool} {a:SG} (h:Ir listed a) {i:Nat} (hi:listed.getD i true=false) (d:Option Tmp) (x:WT) :
  Ir (listed.setIfInBounds i true) (fun ρ=>(a ρ).put d (x.at i ρ)):=by
 intro k ρ b hk;have hlt:i<listed.size:=by
  rcases Nat.lt_or_ge i listed.size with h'|h'
  ·exact h'
  ·simp[Array.getElem?_eq_none h'] at hi
 have hki:k≠i:=fun e=>by subst e;simp[hlt] at hk
 have hk':listed.getD k true=false:=by rwa [getD_set_ne true (Ne.symm hki)] at hk
 show (a (QS ρ k b)).put d _=_;rw[h k ρ b hk'];cases x with
 | val v=>rfl
 | new R=>
  show (a ρ).put d (QS ρ k b i)=(a ρ).put d (ρ i)
  have:QS ρ k b i=ρ i:=if_neg (Ne.symm hki)
  rw[this]
theorem YJ {w0:World} {Q:SG->BG'->Prop} {Q':Exit->Act->World->Prop} (hQ:∀a B ρ w,V2 w0 ρ B w->Q a B->Q' .normal (a ρ) w) :
  ∀(fuel:Nat) (listed:Array Bool) (a:SG) (B:BG') (ρ:Nat->Value) (w:World),V2 w0 ρ B w->Ir listed a->
  Oo P md ops (fun w=>Below w0.heap.size w0 w) Q fuel listed a B->wpAny P md ops Q' fuel listed (a ρ) w
 | 0,_,_,_,_,_,hf,_,h=>⟨h.1,hQ _ _ _ _ hf h.2⟩
 | fuel+1,listed,a,B,ρ,w,hf,hfr,h=>by
  refine⟨fun h0=>hQ _ _ _ _ hf (h.1 h0),fun i hi=>?_⟩
  have h1:=h.2 i hi;obtain⟨hun,o,ho,_⟩:=mem_ready.1 hi;unfold gOp at h1;simp only[ho] at h1;obtain⟨x,ks,hp,hle,hy,hK⟩:=h1;have hkn:=hf.kn ks;have hfr':=hfr.put hun o.dst x;unfold wpOp;simp only[ho];cases x with
  | val v=>
   simp only[Wm] at hy;rcases hy with hy|⟨hw,rfl⟩
   ·obtain⟨hw,hr⟩:=hy ρ;simp only[hw,if_true];refine .inl ?_;have h3:=hr w hf.below hkn;unfold Oper.wp;generalize (execOp (a ρ).eval o).run P w=r at *;cases r with
    | ok n w'=>
     cases n<;>simp only[P9] at h3<;>simp only[Oper.upon]
     case value u=>
      obtain⟨e1,e2⟩:=h3;rw[e1,e2];exact YJ hQ fuel _ _ B ρ w hf hfr' hK
     case skip=>
      obtain⟨e1,e2⟩:=h3;rw[e1,<-e2];exact YJ hQ fuel _ _ B ρ w hf hfr' hK
     case enter f args=>
      obtain⟨e1,hc⟩:=h3;rw[e1];exact hc.mono fun e w'' ⟨he,hw''⟩=>by subst he;exact YJ hQ fuel _ _ B ρ w'' (hf.go hw'') hfr' hK
    | halt x w'=>simp only[P9] at h3
   ·simp only[hw ρ,Bool.false_eq_true,if_false];exact YJ hQ fuel _ _ B ρ w hf hfr' hK
  | new R=>
   simp only[Wm] at hy;obtain⟨hs,hy⟩:=hy;obtain⟨hw,hr⟩:=hy ρ;simp only[hw,if_true];refine .inl ?_;have h3:=hr w hf.below hkn;have key:∀u w',Below w.heap.size w w'->R w' u->wpAny P md ops Q' fuel (listed.setIfInBounds i true) ((a ρ).put o.dst u) w':=fun u w' hb hR=>by
    have h5:=YJ hQ fuel _ _ _ (QS ρ i u) w' (hf.new hb i hR hs) hfr' hK;have e1:(a (QS ρ i u)).put o.dst ((WT.new R).at i (QS ρ i u))=(a ρ).put o.dst u:=by
     show (a (QS ρ i u)).put o.dst (QS ρ i u i)=_;rw[hfr i ρ _ hun]
     have:QS ρ i u i=u:=if_pos rfl
     rw[this]
    rwa [e1] at h5
   unfold Oper.wp;generalize (execOp (a ρ).eval o).run P w=r at *;cases r with
   | ok n w'=>
    cases n<;>simp only[Oc] at h3<;>simp only[Oper.upon]
    case value u=>exact key u w' h3.1 h3.2
    case enter f args=>
     obtain⟨e1,hc⟩:=h3;rw[e1];exact hc.mono fun e w'' ⟨u,he,hw'',hR⟩=>by subst he;exact key u w'' hw'' hR
   | halt x w'=>simp only[Oc] at h3
theorem Vn {id:Nat} {Q:Exit->Act->World->Prop} {a:Act} {w:World} {l:List Oper} (hm:P.follows .mixedOrders=true) (hB:Region.lexB .any l.toArray=true)
  (h:Vm P l.toArray (fun w'=>Below w.heap.size w w') (fun a' B=>∀ρ w',V2 w ρ B w'->Q .normal (a' ρ) w') l 0 (fun _=>a) (fun _=>none)):(Code.region id l.toArray true).wp P Q a w:=by
 simp only[Region.lexB,Bool.and_eq_true] at hB;refine wp_region_any hm ?_;have hf:V2 w (fun _=>undef) (fun _=>none) { w with drawn:=w.drawn+1 }:=
  ⟨⟨rfl,rfl,rfl,Nl _,fun _ _=>rfl⟩,fun _ _ h=>(by cases h)⟩
 refine YJ (Q:=fun a' B=>∀ρ w',V2 w ρ B w'->Q .normal (a' ρ) w') (fun a' B ρ w' hf' h'=>h' ρ w' hf') _ _ (fun _=>a) (fun _=>none) (fun _=>undef) _ hf (fun _ _ _ _=>rfl) ?_
 have:=Oq (C:=fun w'=>Below w.heap.size w w') (md:=.any) hB.1 l 0 (Array.replicate l.toArray.size false) (fun _=>a) (fun _=>none) (by simp) (by simpa using hB.2) h
 simpa using this
variable {Q:SG->BG'->Prop} {o:Oper} {rest:List Oper} {i:Nat} {a:SG} {B:BG'}
theorem Qm {o:Oper}:Tn ops o []:=fun _ h=>absurd h (by simp)
theorem Gx {o:Oper} {k:Nat} (ok:Oper) (d:Tmp) (h1:ops[k]?=some ok) (h2:ok.dst=some d) (h3:d∈o.looksAt ops):Tn ops o [k]:=fun j hj=>by
 rw[List.mem_singleton.1 hj];exact⟨ok,d,h1,h2,h3⟩
theorem Vo (v:Value) (hw:∀ρ,Region.wanted o (yielded ops (a ρ).tmps)=true) (h:∀ρ w,C w->(execOp (a ρ).eval o).run P w=.ok (.value v) w)
  (hn:Vm P ops C Q rest (i+1) (fun ρ=>(a ρ).put o.dst v) B):Vm P ops C Q (o::rest) i a B:=
 ⟨.val v,[],trivial,Qm,.inl fun ρ=>⟨hw ρ,fun w hc _=>by rw[h ρ w hc];exact⟨rfl,rfl⟩⟩,hn⟩
theorem Gy (f:FuncId) (args:Array Value) (v:Value) (hw:∀ρ,Region.wanted o (yielded ops (a ρ).tmps)=true) (h:∀ρ w,C w->(execOp (a ρ).eval o).run P w=.ok (.enter f args) w)
  (hc:∀w,C w->Calls P f args w fun e w'=>e=.returned v/\Below w.heap.size w w')
  (hn:Vm P ops C Q rest (i+1) (fun ρ=>(a ρ).put o.dst v) B):Vm P ops C Q (o::rest) i a B:=
 ⟨.val v,[],trivial,Qm,.inl fun ρ=>⟨hw ρ,fun w hC _=>by rw[h ρ w hC];exact⟨rfl,hc w hC⟩⟩,hn⟩
theorem Ot (f:FuncId) (args:Array Value) (R:World->Value->Prop) (hp:B i=none) (hs:∀w w' u,R w u->Below w.heap.size w w'->R w' u) (hw:∀ρ,Region.wanted o (yielded ops (a ρ).tmps)=true) (h:∀ρ w,C w->(execOp (a ρ).eval o).run P w=.ok (.enter f args) w)
  (hc:∀w,C w->Calls P f args w fun e w'=>∃u,e=.returned u/\Below w.heap.size w w'/\R w' u)
  (hn:Vm P ops C Q rest (i+1) (fun ρ=>(a ρ).put o.dst (ρ i)) (fun k=>if k=i then some R else B k)):Vm P ops C Q (o::rest) i a B:=
 ⟨.new R,[],hp,Qm,⟨hs,fun ρ=>⟨hw ρ,fun w hC _=>by rw[h ρ w hC];exact⟨rfl,hc w hC⟩⟩⟩,hn⟩
theorem Sb (k:Nat) (R:World->Value->Prop) (v:Value) (ok:Oper) (d:Tmp) (hB:B k=some R) (h1:ops[k]?=some ok) (h2:ok.dst=some d) (h3:d∈o.looksAt ops) (hw:∀ρ,Region.wanted o (yielded ops (a ρ).tmps)=true)
  (h:∀ρ w,C w->R w (ρ k)->∃f args,(execOp (a ρ).eval o).run P w=.ok (.enter f args) w/\Calls P f args w fun e w'=>e=.returned v/\Below w.heap.size w w')
  (hn:Vm P ops C Q rest (i+1) (fun ρ=>(a ρ).put o.dst v) B):Vm P ops C Q (o::rest) i a B:=
 ⟨.val v,[k],trivial,Gx ok d h1 h2 h3,.inl fun ρ=>⟨hw ρ,fun w hC hk=>by
  obtain⟨f,args,e,hc⟩:=h ρ w hC (hk k (by simp) R hB)
  rw[e];exact⟨rfl,hc⟩⟩,hn⟩
end
section
variable {P:Program} {ops:Array Oper} {C:World->Prop} {Q:St->Bx->Prop} {o:Oper} {rest:List Oper} {i:Nat} {a:St} {B:Bx}
end
end Go.Proofs.YtpieeldbamklkaaGreatDoor
