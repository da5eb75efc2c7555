/- Texts put together: Ka Kb Zb Bg Kc. -/
import Derived.Test.YtpieeldbamklkaaGreatDoorV10
import Derived.Laws.Tables
set_option maxHeartbeats 8000000
set_option maxRecDepth 100000
open Go.Proofs.Tryz
namespace Go.Proofs.YtpieeldbamklkaaGreatDoor
open Go.RowKit Go.Shelf Num
theorem O4:(prog.info? 34).map (·.size)=some 2:=by kernel_rfl
def dgN (l:List UInt8):Int:=((Lib.trimPrefix l [45]).length:Int)
theorem Hk (l:List UInt8):WQ 287 #[Zg l] (Zi (dgN l)):=fun w hG=>by
 have C1:=Lh (Lw l [45]);have HV:Hid (((Lib.trimPrefix l [45]).length:Int)=dgN l):=rfl;generalize Lib.trimPrefix l [45]=t at *;generalize dgN l=z at *;go_enter func287,ntmps287;go_wp2_with fail
 refine (C1.out.of hG (Below.refl _ _)).mono ?_
 rintro e w1 ⟨rfl,hb1⟩;go_wp2;go_ret;exact⟨Z2 HV.out,hb1⟩
theorem MO (l:List UInt8):WQ 290 #[Zg l] (.agg #[Zg l,Zj]):=fun w hG=>by
 have hb:=Zh w (.cells #[Zg l,Zj] 34);have HZ:=Lh O4;have HN:=Lh (ZJ w (.cells #[Zg l,Zj] 34));go_enter func290,ntmps290;go_wp2;refine bodyPost_ret (v:=.agg #[Zg l,Zj]) ?_ rfl ?_
 ·exact YX Tryz.f290 2 34 #[Zg l,Zj] rfl rfl (Ye HN.out) underlying34 rfl HZ.out
 exact⟨rfl,hb⟩
theorem Cj (p q:Bool) (w:World):Calls prog 229 #[.bool p,.bool q] w fun e w'=>e=.returned (.func (.func 286) #[] #[.pointer (some ⟨w.heap.size,0,none⟩),.pointer (some ⟨w.heap.size+1,0,none⟩)])/\w'=(w.alloc (.cells #[.bool p] 4)).alloc (.cells #[.bool q] 4):=by
 go_enter func229,ntmps229;go_wp2_with fail;go_ret;exact⟨rfl,rfl⟩
def bwE (p pt:Bool) (l l':List UInt8) (q:Rat):Int:=if ¬(l=fN q/\l'=fD q) then 1 else if 40<dgN l then 4 else if 40<dgN l' then 4 else if Mv q 0<0 then 2 else if p=true/\Mv q 0=0 then 2 else if pt=true/\0<Mv q ((1:Int):Rat) then 2 else 0
theorem Hl (p pt:Bool) {l l':List UInt8} {q:Rat} (h:IsQ l l' q) {b1 b2:Nat} {w:World} (hG:GE w) (hP:Blk w b1 #[.bool p]) (hPT:Blk w b2 #[.bool pt]) :
  Calls prog 286 #[(Value.agg #[Zg l,Zg l']),.pointer (some ⟨b1,0,none⟩),.pointer (some ⟨b2,0,none⟩)] w fun e w'=>e=.returned (Zi (bwE p pt l l' q))/\Below w.heap.size w w':=by
 have hb0:=Zh w (.cells #[Zg l,Zg l'] 34);have x0:=Xa.ofB (ZJ w (.cells #[Zg l,Zg l'] 34));obtain⟨V,hV⟩:∃V,V=bwE p pt l l' q:=⟨_,rfl⟩
 rw[<-hV];unfold bwE at hV;obtain⟨c,hc⟩:∃c,c=Mv q 0:=⟨_,rfl⟩
 obtain⟨c2,hc2⟩:∃c,c=Mv q ((1:Int):Rat):=⟨_,rfl⟩
 have C1:=Lh ((Ls h EB hc.symm).e);have hone:IsQ (fN ((1:Int):Rat)) (fD ((1:Int):Rat)) ((1:Int):Rat):=Qs (k:=2) (Ez (a:=1) (by decide) (by decide)) (by decide)
 have C5:=Lh ((Ls h hone hc2.symm).e);have C4:=Lh ((rOf (l:=[49]) (by decide) (z:=1) (by decide +kernel)).e)
 have C3:=Lh (fun cc hcc=>(Zbs h (c:=cc) hcc).e)
 rw[<-hc,<-hc2] at hV;clear hc hc2 hone;have D1:=Lh (Hk l);have D2:=Lh (Hk l');have HVV:=Lh hV;generalize dgN l=d1 at *;generalize dgN l'=d2 at *;clear hV;have q0:=x0.c0;have q1:=x0.c1;go_enter func286,ntmps286;go_wp2_with fail
 refine (C1.out.of hG hb0).mono ?_
 rintro e w1 ⟨rfl,hb1⟩;have x1:=x0.below hb1;replace hb1:=bto hb0 hb1;clear x0 q0 q1 hb0 C1;have q0:=x1.c0;have q1:=x1.c1
 by_cases hcn:l=fN q/\l'=fD q
 rotate_left
 ·have C2:=Lh (C3.out 1 (if_neg hcn));have HV:Hid ((1:Int)=V):=by show _=_;rw[HVV.out,if_pos hcn]
  clear hcn;go_wp2_with fail
  refine (C2.out.of hG hb1).mono ?_
  rintro e w2 ⟨rfl,hb2⟩;replace hb2:=bto hb1 hb2;go_wp2;go_ret;exact⟨Z2 HV.out,hb2⟩
 have C2:=Lh (C3.out 0 (if_pos hcn));have HVV:Hid (V=_):=HVV.out.trans (if_neg (fun h=>h hcn))
 clear hcn C3;go_wp2_with fail
 refine (C2.out.of hG hb1).mono ?_
 rintro e w2 ⟨rfl,hb2⟩;have x2:=x1.below hb2;replace hb2:=bto hb1 hb2;clear x1 q0 q1 hb1 C2;have q0:=x2.c0;go_wp2_with fail
 refine (D1.out.of hG hb2).mono ?_
 rintro e w3 ⟨rfl,hb3⟩;have x3:=x2.below hb3;replace hb3:=bto hb2 hb3;clear x2 q0 hb2 D1
 by_cases g1:40<d1
 ·have e1:decide (40<d1)=true:=Dt g1;have HV:Hid ((4:Int)=V):=by show _=_;rw[HVV.out,if_pos g1]
  go_wp2;go_ret;exact⟨Z2 HV.out,hb3⟩
 have e1:decide (40<d1)=false:=Df g1;have HVV:Hid (V=_):=HVV.out.trans (if_neg g1);have q1:=x3.c1;go_wp2_with fail
 refine (D2.out.of hG hb3).mono ?_
 rintro e w5 ⟨rfl,hb5⟩;have x5:=x3.below hb5;replace hb5:=bto hb3 hb5;clear x3 q1 hb3 D2
 by_cases g2:40<d2
 ·have e2:decide (40<d2)=true:=Dt g2;have HV:Hid ((4:Int)=V):=by show _=_;rw[HVV.out,if_pos g2]
  go_wp2;go_ret;exact⟨Z2 HV.out,hb5⟩
 have e2:decide (40<d2)=false:=Df g2;have HVV:Hid (V=_):=HVV.out.trans (if_neg g2);have HP:=Lh (hP.below hb5);have HPT:=Lh (hPT.below hb5);go_wp2_with fail;clear g1 g2 e1 e2 hP hPT;refine Zx (by kernel_rfl) (by kernel_rfl) ?_
 by_cases s1:c<0
 ·have e1:decide (c<0)=true:=Dt s1;refine PeV ?_;refine PeV (v:=.bool true) ?_;refine PeV ?_
  iterate 5 refine PeO ?_
  iterate 2 refine PeV ?_
  iterate 7 refine PeO ?_
  iterate 2 refine PeV ?_
  refine ZY (fun ρ w9 hF=>?_)
  have hb9:=bto hb5 hF.below;have HV:Hid ((2:Int)=V):=by show _=_;rw[HVV.out,if_pos s1]
  clear hF;go_wp2;go_ret;exact⟨Z2 HV.out,hb9⟩
 have e1:decide (c<0)=false:=Df s1;have HVV:Hid (V=_):=HVV.out.trans (if_neg s1);cases p with
 | false=>
  have HVV:Hid (V=_):=HVV.out.trans (if_neg (fun h=>by cases h.1))
  cases pt with
  | false=>
   refine PeV ?_;refine PeV (v:=.bool false) ?_;refine PeV ?_;refine PkV (.bool false) (fun _=>rfl) (fun ρ w hw=>by have q0:=(HP.out.below hw).c 0;go_simp;try rfl) ?_
   refine PeV (v:=.bool false) ?_
   iterate 2 refine PeO ?_
   iterate 3 refine PeV ?_
   refine PkV (.bool false) (fun _=>rfl) (fun ρ w hw=>by have q0:=(HPT.out.below hw).c 0;go_simp;try rfl) ?_
   refine PeV (v:=.bool false) ?_
   iterate 2
    refine PeO ?_;refine PeO ?_
   iterate 3 refine PeV ?_
   refine ZY (fun ρ w9 hF=>?_)
   have hb9:=bto hb5 hF.below;have HV:Hid ((0:Int)=V):=by show _=_;rw[HVV.out,if_neg (fun h=>by cases h.1)]
   clear hF;go_wp2;go_ret;exact⟨Z2 HV.out,hb9⟩
  | true=>
   by_cases s3:0<c2
   ·have e3:decide (0<c2)=true:=Dt s3;refine PeV ?_;refine PeV (v:=.bool false) ?_;refine PeV ?_;refine PkV (.bool false) (fun _=>rfl) (fun ρ w hw=>by have q0:=(HP.out.below hw).c 0;go_simp;try rfl) ?_
    refine PeV (v:=.bool false) ?_
    iterate 2 refine PeO ?_
    iterate 3 refine PeV ?_
    refine PkV (.bool true) (fun _=>rfl) (fun ρ w hw=>by have q0:=(HPT.out.below hw).c 0;go_simp;try rfl) ?_
    refine PeV (v:=.bool true) ?_;refine PeW (fun ρ w hw=>by have q0:=(x5.below hw).c0;have q1:=(x5.below hw).c1;go_simp;try rfl) ?_
    refine PeC (fun w hw=>C4.out.of hG (bto hb5 hw)) ?_
    refine PeC (fun w hw=>C5.out.of hG (bto hb5 hw)) ?_
    refine PeV (v:=.bool true) ?_
    iterate 3 refine PeV ?_
    refine ZY (fun ρ w9 hF=>?_)
    have hb9:=bto hb5 hF.below;have HV:Hid ((2:Int)=V):=by show _=_;rw[HVV.out,if_pos ⟨rfl,s3⟩]
    clear hF;go_wp2;go_ret;exact⟨Z2 HV.out,hb9⟩
   have e3:decide (0<c2)=false:=Df s3;refine PeV ?_;refine PeV (v:=.bool false) ?_;refine PeV ?_;refine PkV (.bool false) (fun _=>rfl) (fun ρ w hw=>by have q0:=(HP.out.below hw).c 0;go_simp;try rfl) ?_
   refine PeV (v:=.bool false) ?_
   iterate 2 refine PeO ?_
   iterate 3 refine PeV ?_
   refine PkV (.bool true) (fun _=>rfl) (fun ρ w hw=>by have q0:=(HPT.out.below hw).c 0;go_simp;try rfl) ?_
   refine PeV (v:=.bool true) ?_;refine PeW (fun ρ w hw=>by have q0:=(x5.below hw).c0;have q1:=(x5.below hw).c1;go_simp;try rfl) ?_
   refine PeC (fun w hw=>C4.out.of hG (bto hb5 hw)) ?_
   refine PeC (fun w hw=>C5.out.of hG (bto hb5 hw)) ?_
   refine PeV (v:=.bool false) ?_
   iterate 3 refine PeV ?_
   refine ZY (fun ρ w9 hF=>?_)
   have hb9:=bto hb5 hF.below;have HV:Hid ((0:Int)=V):=by show _=_;rw[HVV.out,if_neg (fun h=>s3 h.2)]
   clear hF;go_wp2;go_ret;exact⟨Z2 HV.out,hb9⟩
 | true=>
  by_cases s2:c=0
  ·have e2:(c==0)=true:=by rw[beq_iff_eq];exact s2
   refine PeV ?_;refine PeV (v:=.bool false) ?_;refine PeV ?_;refine PkV (.bool true) (fun _=>rfl) (fun ρ w hw=>by have q0:=(HP.out.below hw).c 0;go_simp;try rfl) ?_
   iterate 2
    refine PeV (v:=.bool true) ?_;refine PeV ?_
   iterate 2 refine PeV ?_
   iterate 7 refine PeO ?_
   iterate 2 refine PeV ?_
   refine ZY (fun ρ w9 hF=>?_)
   have hb9:=bto hb5 hF.below;have HV:Hid ((2:Int)=V):=by show _=_;rw[HVV.out,if_pos ⟨rfl,s2⟩]
   clear hF;go_wp2;go_ret;exact⟨Z2 HV.out,hb9⟩
  have e2:(c==0)=false:=by rw[Bn];exact s2
  have HVV:Hid (V=_):=HVV.out.trans (if_neg (fun h=>s2 h.2))
  cases pt with
  | false=>
   refine PeV ?_;refine PeV (v:=.bool false) ?_;refine PeV ?_;refine PkV (.bool true) (fun _=>rfl) (fun ρ w hw=>by have q0:=(HP.out.below hw).c 0;go_simp;try rfl) ?_
   refine PeV (v:=.bool true) ?_;refine PeV ?_;refine PeV (v:=.bool false) ?_
   iterate 3 refine PeV ?_
   refine PkV (.bool false) (fun _=>rfl) (fun ρ w hw=>by have q0:=(HPT.out.below hw).c 0;go_simp;try rfl) ?_
   refine PeV (v:=.bool false) ?_
   iterate 2
    refine PeO ?_;refine PeO ?_
   iterate 3 refine PeV ?_
   refine ZY (fun ρ w9 hF=>?_)
   have hb9:=bto hb5 hF.below;have HV:Hid ((0:Int)=V):=by show _=_;rw[HVV.out,if_neg (fun h=>by cases h.1)]
   clear hF;go_wp2;go_ret;exact⟨Z2 HV.out,hb9⟩
  | true=>
   by_cases s3:0<c2
   ·have e3:decide (0<c2)=true:=Dt s3;refine PeV ?_;refine PeV (v:=.bool false) ?_;refine PeV ?_;refine PkV (.bool true) (fun _=>rfl) (fun ρ w hw=>by have q0:=(HP.out.below hw).c 0;go_simp;try rfl) ?_
    refine PeV (v:=.bool true) ?_;refine PeV ?_;refine PeV (v:=.bool false) ?_
    iterate 3 refine PeV ?_
    refine PkV (.bool true) (fun _=>rfl) (fun ρ w hw=>by have q0:=(HPT.out.below hw).c 0;go_simp;try rfl) ?_
    refine PeV (v:=.bool true) ?_;refine PeW (fun ρ w hw=>by have q0:=(x5.below hw).c0;have q1:=(x5.below hw).c1;go_simp;try rfl) ?_
    refine PeC (fun w hw=>C4.out.of hG (bto hb5 hw)) ?_
    refine PeC (fun w hw=>C5.out.of hG (bto hb5 hw)) ?_
    refine PeV (v:=.bool true) ?_
    iterate 3 refine PeV ?_
    refine ZY (fun ρ w9 hF=>?_)
    have hb9:=bto hb5 hF.below;have HV:Hid ((2:Int)=V):=by show _=_;rw[HVV.out,if_pos ⟨rfl,s3⟩]
    clear hF;go_wp2;go_ret;exact⟨Z2 HV.out,hb9⟩
   have e3:decide (0<c2)=false:=Df s3;refine PeV ?_;refine PeV (v:=.bool false) ?_;refine PeV ?_;refine PkV (.bool true) (fun _=>rfl) (fun ρ w hw=>by have q0:=(HP.out.below hw).c 0;go_simp;try rfl) ?_
   refine PeV (v:=.bool true) ?_;refine PeV ?_;refine PeV (v:=.bool false) ?_
   iterate 3 refine PeV ?_
   refine PkV (.bool true) (fun _=>rfl) (fun ρ w hw=>by have q0:=(HPT.out.below hw).c 0;go_simp;try rfl) ?_
   refine PeV (v:=.bool true) ?_;refine PeW (fun ρ w hw=>by have q0:=(x5.below hw).c0;have q1:=(x5.below hw).c1;go_simp;try rfl) ?_
   refine PeC (fun w hw=>C4.out.of hG (bto hb5 hw)) ?_
   refine PeC (fun w hw=>C5.out.of hG (bto hb5 hw)) ?_
   refine PeV (v:=.bool false) ?_
   iterate 3 refine PeV ?_
   refine ZY (fun ρ w9 hF=>?_)
   have hb9:=bto hb5 hF.below;have HV:Hid ((0:Int)=V):=by show _=_;rw[HVV.out,if_neg (fun h=>s3 h.2)]
   clear hF;go_wp2;go_ret;exact⟨Z2 HV.out,hb9⟩
theorem Hm {l:List UInt8} (hl:l.length<=1000000) (w:World):Calls prog 234 #[Zg l] w fun e w'=>(∃b,e=.returned (.bool b))/\Below w.heap.size w w':=by
 have C1:=Lh (Tryz.strings_Trim ⟨l.toArray⟩ ⟨#[65,66,67,68,69,70,71,72,73,74,75,76,77,78,79,80,81,82,83,84,85,86,87,88,89,90]⟩ w (by show l.toArray.size<=_;simp;omega) (by decide) (ascii_of_all (by decide)))
 generalize Lib.trimS _ _=t at *
 by_cases g1:(l.length:Int)=3
 ·have e1:((l.length:Int)==3)=true:=by rw[beq_iff_eq];exact g1
  clear g1;go_enter func234,ntmps234;go_wp2_with fail
  refine C1.out.mono ?_
  rintro e w1 ⟨rfl,hb1⟩;go_wp2;go_ret;exact⟨⟨_,rfl⟩,hb1⟩
 ·have e1:((l.length:Int)==3)=false:=by rw[Bn];exact g1
  clear g1;go_enter func234,ntmps234;go_wp2;go_ret;exact⟨⟨_,rfl⟩,Below.refl _ _⟩
def nmE (l:List UInt8):Int:=if YE l=true then 0 else 23
theorem MP {l:List UInt8} (hl:l.length<=1000000):WQ 233 #[Zg l] (Zi (nmE l)):=fun w hG=>by
 have C1:=Lh ((TH hl).e);have HV:Hid (nmE l=if YE l=true then 0 else 23):=rfl
 generalize nmE l=z at *;generalize YE l=b at *;go_enter func233,ntmps233;go_wp2_with fail
 refine (C1.out.of hG (Below.refl _ _)).mono ?_
 rintro e w1 ⟨rfl,hb1⟩;cases b with
 | true=>
  go_wp2;go_ret;exact⟨Z2 (by rw[HV.out];rfl),hb1⟩
 | false=>
  go_wp2;go_ret;exact⟨Z2 (by rw[HV.out];rfl),hb1⟩
structure Fct where
 key:List UInt8
 ins:List UInt8
 oth:List UInt8
 cur:List UInt8
 tgt:List UInt8
 q:List UInt8
 amt:List UInt8
 fee:List UInt8
 pn:List UInt8
 pd:List UInt8
 rn:List UInt8
 rd:List UInt8
 sn:List UInt8
 sd:List UInt8
 stamp:Int
 day:Int
 kind:Int
 choice:Int
 canc:Bool
 pA:Option Addr
 pN:Nat
 pC:Nat
 oA:Option Addr
 oN:Nat
 oC:Nat
def Zq (f:Fct):Array Value:=#[Zg f.key,Zi f.stamp,.bool f.canc,Zi f.day,Zi f.kind,Zg f.ins,Zg f.oth,Zg f.cur,Zg f.tgt,Zg f.q,Zg f.amt,Zg f.fee,Zg f.pn,Zg f.pd,Zg f.rn,Zg f.rd,Zg f.sn,Zg f.sd,.slice f.pA f.pN f.pC,.slice f.oA f.oN f.oC,Zi f.choice]
structure MQ (f:Fct):Prop where
 key:f.key.length<=1000
 ins:f.ins.length<=1000
 oth:f.oth.length<=1000
 cur:f.cur.length<=1000
 tgt:f.tgt.length<=1000
 q:f.q.length<=1000
 amt:f.amt.length<=1000
 fee:f.fee.length<=1000
 pn:f.pn.length<=1000
 pd:f.pd.length<=1000
 rn:f.rn.length<=1000
 rd:f.rd.length<=1000
 sn:f.sn.length<=1000
 sd:f.sd.length<=1000
def L9 (f:Fct):Nat->Option (List UInt8×List UInt8)
 | 4=>some (f.q,[])
 | 5=>some (f.amt,[])
 | 6=>some (f.fee,[])
 | 7=>some (f.pn,f.pd)
 | 8=>some (f.rn,f.rd)
 | 9=>some (f.sn,f.sd)
 | _=>none
theorem ZN:(prog.info? 48).map (·.size)=some 21:=by kernel_rfl
theorem WE {P:Program} {e:Operand->Value} {o:Oper} {w:World} (ty:TypeId) (x:Operand) (ho:o.op=.load ty x) (b:Nat) (hx:e x=.pointer (some ⟨b,0,none⟩)) (cs:Array Value) {d:TypeDesc} (hc:Blk w b cs)
  (hu:P.underlying ty=some d) (hd:d.isRow=true) (hi:(P.info? ty).map (·.size)=some cs.size):(execOp e o).run P w=.ok (.value (.agg cs)) w:=by
 obtain⟨t,h⟩:=hc
 have:=Zo (P:=P) (e:=e) (w:=w) ty x ho b 0 hx cs.toList d (Ye h) hu hd (by simpa using hi)
 simpa using this
theorem Zy {P:Program} {ops:Array Oper} {rest:List Oper} {op:Oper} {a:Act} {w:World} {Q:Exit->Act->World->Prop} (hgd:op.guard=none) (ty:TypeId) (x:Operand) (ho:op.op=.load ty x)
  (b:Nat) (hx:a.eval x=.pointer (some ⟨b,0,none⟩)) (cs:Array Value) {d:TypeDesc} (hc:Blk w b cs)
  (hu:P.underlying ty=some d) (hd:d.isRow=true) (hi:(P.info? ty).map (·.size)=some cs.size)
  (h:wpList P ops Q rest (a.put op.dst (.agg cs)) w):wpList P ops Q (op::rest) a w:=
 wpList_plain hgd fun _ hK=>by
  unfold Oper.wp;rw[WE (P:=P) (e:=a.eval) ty x ho b hx cs hc hu hd hi];exact hK _ _ h
theorem Zau {f:Fct} (hs:MQ f) {k:Nat} {l l':List UInt8} (h:L9 f k=some (l,l')):l.length<=1000/\l'.length<=1000:=by
 unfold L9 at h
 split at h<;>first|(cases h;first|exact⟨hs.q,by decide⟩|exact⟨hs.amt,by decide⟩|exact⟨hs.fee,by decide⟩|exact⟨hs.pn,hs.pd⟩|exact⟨hs.rn,hs.rd⟩|exact⟨hs.sn,hs.sd⟩)|cases h
theorem Ck (f:Fct) (w:World):(Instr.index 365 (.agg #[Zj,Zj,Zj,Zj,Zj,Zj,Zj,Zj,Zg f.q,Zj,Zg f.amt,Zj,Zg f.fee,Zj,Zg f.pn,Zg f.pd,Zg f.rn,Zg f.rd,Zg f.sn,Zg f.sd,Zj,Zj,Zj,Zj,Zj,Zj]) (Zi 4)).run prog w=.ok (.agg #[Zg f.q,Zj]) w:=by kernel_rfl
theorem Cl (f:Fct) (w:World):(Instr.index 365 (.agg #[Zj,Zj,Zj,Zj,Zj,Zj,Zj,Zj,Zg f.q,Zj,Zg f.amt,Zj,Zg f.fee,Zj,Zg f.pn,Zg f.pd,Zg f.rn,Zg f.rd,Zg f.sn,Zg f.sd,Zj,Zj,Zj,Zj,Zj,Zj]) (Zi 5)).run prog w=.ok (.agg #[Zg f.amt,Zj]) w:=by kernel_rfl
theorem Cm (f:Fct) (w:World):(Instr.index 365 (.agg #[Zj,Zj,Zj,Zj,Zj,Zj,Zj,Zj,Zg f.q,Zj,Zg f.amt,Zj,Zg f.fee,Zj,Zg f.pn,Zg f.pd,Zg f.rn,Zg f.rd,Zg f.sn,Zg f.sd,Zj,Zj,Zj,Zj,Zj,Zj]) (Zi 6)).run prog w=.ok (.agg #[Zg f.fee,Zj]) w:=by kernel_rfl
theorem Cn (f:Fct) (w:World):(Instr.index 365 (.agg #[Zj,Zj,Zj,Zj,Zj,Zj,Zj,Zj,Zg f.q,Zj,Zg f.amt,Zj,Zg f.fee,Zj,Zg f.pn,Zg f.pd,Zg f.rn,Zg f.rd,Zg f.sn,Zg f.sd,Zj,Zj,Zj,Zj,Zj,Zj]) (Zi 7)).run prog w=.ok (.agg #[Zg f.pn,Zg f.pd]) w:=by kernel_rfl
theorem Co (f:Fct) (w:World):(Instr.index 365 (.agg #[Zj,Zj,Zj,Zj,Zj,Zj,Zj,Zj,Zg f.q,Zj,Zg f.amt,Zj,Zg f.fee,Zj,Zg f.pn,Zg f.pd,Zg f.rn,Zg f.rd,Zg f.sn,Zg f.sd,Zj,Zj,Zj,Zj,Zj,Zj]) (Zi 8)).run prog w=.ok (.agg #[Zg f.rn,Zg f.rd]) w:=by kernel_rfl
theorem Cp (f:Fct) (w:World):(Instr.index 365 (.agg #[Zj,Zj,Zj,Zj,Zj,Zj,Zj,Zj,Zg f.q,Zj,Zg f.amt,Zj,Zg f.fee,Zj,Zg f.pn,Zg f.pd,Zg f.rn,Zg f.rd,Zg f.sn,Zg f.sd,Zj,Zj,Zj,Zj,Zj,Zj]) (Zi 9)).run prog w=.ok (.agg #[Zg f.sn,Zg f.sd]) w:=by kernel_rfl
theorem Cq {f:Fct} {k:Nat} {l l':List UInt8} (hk:L9 f k=some (l,l')):WQ 237 #[.agg (Zq f),Zi (k:Int)] (.agg #[Zg l,Zg l']):=fun w hG=>by
 have hb1:=Zh w (.cells (Zq f) 48);have x0:Blk (w.alloc (.cells (Zq f) 48)) w.heap.size (Zq f):=Blk.new w _ 48;obtain⟨w0,hw0⟩:∃w0,w0=w.alloc (.cells (Zq f) 48):=⟨_,rfl⟩
 have hsz0:w.heap.size+1=w0.heap.size:=by rw[hw0];exact (World.size_alloc _ _).symm
 rw[<-hw0] at hb1 x0;have hbz:=Zh w0 (.cells #[Zj,Zj] 34);have hbx:=heap_alloc_new w0 (.cells #[Zj,Zj] 34);have X:=Lh x0;have HW0:=Lh hw0;have HZ:Hid ((prog.info? 34).map (·.size)=some 2):=O4
 have C1:=Lh (MO f.q);have C2:=Lh (MO f.amt);have C3:=Lh (MO f.fee);clear hw0 x0;unfold L9 at hk
 split at hk<;>cases hk
 all_goals
  go_enter func237,ntmps237;go_wp2_with fail;rw[<-HW0.out]
  (try rw[hsz0])
  refine Sr 20 w0.heap.size 4 _ (by kernel_rfl) (by kernel_rfl) (by decide) hbz (Nl _) hbx rfl ?_
  simp only[Act.put,List.setIfInBounds_toArray,List.set_cons_zero,List.set_cons_succ];clear hbx hsz0;refine PeV ?_;refine PeW (fun ρ wz hw=>by have q0:wz.cell? ⟨w.heap.size,9,none⟩=some (Zg f.q):=(X.out.below hw).c 9;go_simp;try rfl) ?_
  refine PeC (fun w hw=>C1.out.of hG (bto hb1 hw)) ?_
  refine PeV ?_;refine PeW (fun ρ wz hw=>by have q0:wz.cell? ⟨w.heap.size,10,none⟩=some (Zg f.amt):=(X.out.below hw).c 10;go_simp;try rfl) ?_
  refine PeC (fun w hw=>C2.out.of hG (bto hb1 hw)) ?_
  refine PeV ?_;refine PeW (fun ρ wz hw=>by have q0:wz.cell? ⟨w.heap.size,11,none⟩=some (Zg f.fee):=(X.out.below hw).c 11;go_simp;try rfl) ?_
  refine PeC (fun w hw=>C3.out.of hG (bto hb1 hw)) ?_
  refine PeV ?_;refine PeW (fun ρ wz hw=>by have q0:wz.cell? ⟨w.heap.size,12,none⟩=some (Zg f.pn):=(X.out.below hw).c 12;have q1:wz.cell? ⟨w.heap.size,13,none⟩=some (Zg f.pd):=(X.out.below hw).c 13;go_simp;try rfl) ?_
  refine PeV ?_;refine PeW (fun ρ wz hw=>by have q0:wz.cell? ⟨w.heap.size,14,none⟩=some (Zg f.rn):=(X.out.below hw).c 14;have q1:wz.cell? ⟨w.heap.size,15,none⟩=some (Zg f.rd):=(X.out.below hw).c 15;go_simp;try rfl) ?_
  refine PeV ?_;refine PeW (fun ρ wz hw=>by have q0:wz.cell? ⟨w.heap.size,16,none⟩=some (Zg f.sn):=(X.out.below hw).c 16;have q1:wz.cell? ⟨w.heap.size,17,none⟩=some (Zg f.sd):=(X.out.below hw).c 17;go_simp;try rfl) ?_
  iterate 2 refine PeV ?_
  refine PeW (fun ρ wz hw=>by have q4:=Ck f wz;have q5:=Cl f wz;have q6:=Cm f wz;have q7:=Cn f wz;have q8:=Co f wz;have q9:=Cp f wz;go_simp;try rfl) ?_
  refine GF 20 _ _ _ _ _ rfl rfl (fun _=>rfl) (fun ρ w hw q0 q1 q2 q3=>by go_simp;try rfl) ?_
  simp only[Act.put,Nat.reduceAdd];refine ZY (fun ρ w3 hF=>?_)
  have hb3:=bto hb1 hF.below;have hR:=(hF.box 20 _ _ rfl).2;generalize ρ 20=b6 at *;clear hF;go_wp2;refine bodyPost_ret (YX Tryz.f237 4 34 _ rfl rfl (Ye hR) underlying34 rfl HZ.out) rfl ?_;exact⟨rfl,hb3⟩
def emB (f:Fct):Nat->Bool
 | 0=>f.ins.isEmpty
 | 1=>f.oth.isEmpty
 | 2=>f.cur.isEmpty
 | 3=>f.tgt.isEmpty
 | 4=>f.q.isEmpty
 | 5=>f.amt.isEmpty
 | 6=>f.fee.isEmpty
 | 7=>f.pn.isEmpty&&f.pd.isEmpty
 | 8=>f.rn.isEmpty&&f.rd.isEmpty
 | 9=>f.sn.isEmpty&&f.sd.isEmpty
 | 10=>(f.pN:Int)==0
 | 11=>(f.oN:Int)==0
 | _=>f.choice==0
theorem ZbV (f:Fct) {k:Nat} (hk:k<13):WQ 185 #[.agg (Zq f),Zi (k:Int)] (.bool (emB f k)):=fun w hG=>by
 have hb1:=Zh w (.cells (Zq f) 48);have x0:Blk (w.alloc (.cells (Zq f) 48)) w.heap.size (Zq f):=Blk.new w _ 48;have HV:=Lh (fun (k:Nat) l l' (h:L9 f k=some (l,l'))=>Cq h)
 by_cases k0:k=0
 ·subst k0;have q0:(w.alloc (.cells (Zq f) 48)).cell? ⟨w.heap.size,5,none⟩=some (Zg f.ins):=x0.c 5;go_enter func185,ntmps185;go_wp2;go_ret;exact⟨ZR (by show _=_;rfl),hb1⟩
 by_cases k1:k=1
 ·subst k1;have q0:(w.alloc (.cells (Zq f) 48)).cell? ⟨w.heap.size,6,none⟩=some (Zg f.oth):=x0.c 6;go_enter func185,ntmps185;go_wp2;go_ret;exact⟨ZR (by show _=_;rfl),hb1⟩
 by_cases k2:k=2
 ·subst k2;have q0:(w.alloc (.cells (Zq f) 48)).cell? ⟨w.heap.size,7,none⟩=some (Zg f.cur):=x0.c 7;go_enter func185,ntmps185;go_wp2;go_ret;exact⟨ZR (by show _=_;rfl),hb1⟩
 by_cases k3:k=3
 ·subst k3;have q0:(w.alloc (.cells (Zq f) 48)).cell? ⟨w.heap.size,8,none⟩=some (Zg f.tgt):=x0.c 8;go_enter func185,ntmps185;go_wp2;go_ret;exact⟨ZR (by show _=_;rfl),hb1⟩
 by_cases k4:k=4
 ·subst k4;have C1:Hid (WQ 237 #[.agg (Zq f),Zi 4] (.agg #[Zg f.q,Zj])):=HV.out 4 f.q [] rfl;go_enter func185,ntmps185;go_wp2_with (refine Zy rfl 48 (.tmp 2) rfl w.heap.size rfl (Zq f) x0 underlying48 rfl ZN ?_)
  refine (C1.out.of hG hb1).mono ?_
  rintro e w1 ⟨rfl,hb2⟩;go_wp2
  all_goals (go_ret;refine⟨ZR ?_,bto hb1 hb2⟩;simp[emB, *])
 by_cases k5:k=5
 ·subst k5;have C1:Hid (WQ 237 #[.agg (Zq f),Zi 5] (.agg #[Zg f.amt,Zj])):=HV.out 5 f.amt [] rfl;go_enter func185,ntmps185;go_wp2_with (refine Zy rfl 48 (.tmp 2) rfl w.heap.size rfl (Zq f) x0 underlying48 rfl ZN ?_)
  refine (C1.out.of hG hb1).mono ?_
  rintro e w1 ⟨rfl,hb2⟩;go_wp2
  all_goals (go_ret;refine⟨ZR ?_,bto hb1 hb2⟩;simp[emB, *])
 by_cases k6:k=6
 ·subst k6;have C1:Hid (WQ 237 #[.agg (Zq f),Zi 6] (.agg #[Zg f.fee,Zj])):=HV.out 6 f.fee [] rfl;go_enter func185,ntmps185;go_wp2_with (refine Zy rfl 48 (.tmp 2) rfl w.heap.size rfl (Zq f) x0 underlying48 rfl ZN ?_)
  refine (C1.out.of hG hb1).mono ?_
  rintro e w1 ⟨rfl,hb2⟩;go_wp2
  all_goals (go_ret;refine⟨ZR ?_,bto hb1 hb2⟩;simp[emB, *])
 by_cases k7:k=7
 ·subst k7;have C1:Hid (WQ 237 #[.agg (Zq f),Zi 7] (.agg #[Zg f.pn,Zg f.pd])):=HV.out 7 f.pn f.pd rfl;go_enter func185,ntmps185;go_wp2_with (refine Zy rfl 48 (.tmp 2) rfl w.heap.size rfl (Zq f) x0 underlying48 rfl ZN ?_)
  refine (C1.out.of hG hb1).mono ?_
  rintro e w1 ⟨rfl,hb2⟩;go_wp2
  all_goals (go_ret;refine⟨ZR ?_,bto hb1 hb2⟩;simp[emB, *])
 by_cases k8:k=8
 ·subst k8;have C1:Hid (WQ 237 #[.agg (Zq f),Zi 8] (.agg #[Zg f.rn,Zg f.rd])):=HV.out 8 f.rn f.rd rfl;go_enter func185,ntmps185;go_wp2_with (refine Zy rfl 48 (.tmp 2) rfl w.heap.size rfl (Zq f) x0 underlying48 rfl ZN ?_)
  refine (C1.out.of hG hb1).mono ?_
  rintro e w1 ⟨rfl,hb2⟩;go_wp2
  all_goals (go_ret;refine⟨ZR ?_,bto hb1 hb2⟩;simp[emB, *])
 by_cases k9:k=9
 ·subst k9;have C1:Hid (WQ 237 #[.agg (Zq f),Zi 9] (.agg #[Zg f.sn,Zg f.sd])):=HV.out 9 f.sn f.sd rfl;go_enter func185,ntmps185;go_wp2_with (refine Zy rfl 48 (.tmp 2) rfl w.heap.size rfl (Zq f) x0 underlying48 rfl ZN ?_)
  refine (C1.out.of hG hb1).mono ?_
  rintro e w1 ⟨rfl,hb2⟩;go_wp2
  all_goals (go_ret;refine⟨ZR ?_,bto hb1 hb2⟩;simp[emB, *])
 by_cases k10:k=10
 ·subst k10;have q0:(w.alloc (.cells (Zq f) 48)).cell? ⟨w.heap.size,18,none⟩=some (.slice f.pA f.pN f.pC):=x0.c 18;go_enter func185,ntmps185;go_wp2;go_ret;exact⟨ZR (by show _=_;rfl),hb1⟩
 by_cases k11:k=11
 ·subst k11;have q0:(w.alloc (.cells (Zq f) 48)).cell? ⟨w.heap.size,19,none⟩=some (.slice f.oA f.oN f.oC):=x0.c 19;go_enter func185,ntmps185;go_wp2;go_ret;exact⟨ZR (by show _=_;rfl),hb1⟩
 by_cases k12:k=12
 ·subst k12;have q0:(w.alloc (.cells (Zq f) 48)).cell? ⟨w.heap.size,20,none⟩=some (Zi f.choice):=x0.c 20;go_enter func185,ntmps185;go_wp2;go_ret;exact⟨ZR (by show _=_;rfl),hb1⟩
 omega
theorem Ke (args:Array Value) (w:World):(callFunc 92 args).run prog w=.ok (.enter 92 args) w:=by kernel_rfl
theorem Ct (args:Array Value) (w:World):(callFunc 95 args).run prog w=.ok (.enter 95 args) w:=by kernel_rfl
theorem YP.cap {w:World} {B:Nat} {v:Value} {xs:List Pk} (h:YP w B v xs):∃A c,v=.slice A xs.length c/\xs.length<=c:=by
 rcases h.2 with ⟨e,hn⟩|⟨g,cap,cur,e,-,-,hc,-⟩
 ·exact⟨none,0,by rw[e,hn],by rw[hn];exact Nl _⟩
 ·exact⟨_,_,e,hc⟩
theorem Cu (K:Nat) {a b:Int} (h1:a.natAbs<10 ^ K) (h2:b.natAbs<10 ^ K):(a-b).natAbs<10 ^ (K+1):=by rw[Nat.pow_succ];omega
def SZ (w:World) (f:Fct) (xs:List Lot) (m:Int) (ps:List Pk) (e:Ending) (w':World):Prop:=∃res err,e=.returned (.tuple #[.agg res,Zi err])/\Below w.heap.size w w'/\
 ((err≠0/\res=RZ/\(chE xs f.ins f.q m ps≠0∨∃pk,J8 xs f.ins f.q m ps pk/\Xt xs [] pk≠0))∨
  (err=0/\chE xs f.ins f.q m ps=0/\∃rest taken g cr v1 v2,L8 xs f.ins f.q m ps rest taken/\res=TA g rest.length cr v1 v2/\Zar w g cr rest taken f.key f.ins f.day (canon (val f.amt-val f.fee)) v1 v2 w'))
theorem Ki {f:Fct} {ps:List Pk} {xs:List Lot} {A:Option Addr} {n:Nat} {w:World} {m:Int} {bl bf bm:Nat} (c:Nat) (hG:GE w) (hL:Yk w A xs n) (hs:MQ f) (hql:f.q.length<=900) (hP:XI w f.pA ps) (hpn:ps.length=f.pN) (hpn2:f.pN<=100000) (hps:∀p∈ps,p.lot.length<=1000/\p.q.length<=1000)
  (hbl:Blk w bl #[.slice A n c]) (hbf:Blk w bf (Zq f)) (hbm:Blk w bm #[Zi m]) :
  Calls prog 94 #[.slice A n c,.agg (Zq f),.func (.func 92) #[] #[.pointer (some ⟨bl,0,none⟩),.pointer (some ⟨bf,0,none⟩),.pointer (some ⟨bm,0,none⟩)],.func (.func 95) #[] #[.pointer (some ⟨bf,0,none⟩)]] w (SZ w f xs m ps):=by
 by_cases hE:chE xs f.ins f.q m ps=0
 rotate_left
 ·refine (FB (err:=chE xs f.ins f.q m ps) (v:=.slice none 0 0) Ke hE (fun w' hb=>?_)).mono ?_
  ·refine (DV (R:=fun v err w''=>v=.slice none 0 0/\err=chE xs f.ins f.q m ps/\Below w'.heap.size w' w'') ((hbl.below hb).c 0) ((hbf.below hb).c 5) ((hbf.below hb).c 9) ((hbm.below hb).c 0) ((hbf.below hb).c 18)
    ((Ie c f.pC (hG.below hb) (hL.below hb) (hP.below hb) hpn hpn2 hps (Nt hql (by decide)) hE).mono ?_)).mono ?_
   ·rintro e w2 ⟨rfl,hb2⟩;exact⟨_,_,rfl,rfl,rfl,hb2⟩
   ·rintro e w2 ⟨v,err,rfl,rfl,rfl,hb2⟩;exact⟨rfl,hb2⟩
  ·rintro e w2 ⟨rfl,hb2⟩;exact⟨RZ,_,rfl,hb2,.inl ⟨hE,rfl,.inl hE⟩⟩
 obtain⟨c1,c2,-,-,-,c6,c7⟩:=QN hE;have hn0:0<n:=by
  rw[<-hL.len];cases xs with
  | nil=>have c7':val f.q<=0:=c7;omega
  | cons x t=>simp
 have hT:(canon (val f.amt-val f.fee)).length<=4900:=by
  have h1:=Zw (l:=f.amt) (k:=1000) hs.amt;have h2:=Zw (l:=f.fee) (k:=1000) hs.fee;exact Nt (Zu _ (1000+1) (Cu 1000 h1 h2)) (by decide)
 refine (Ce (A:=A) (n:=n) (c:=c) (FC:=Zq f) (Q:=fun v W=>∃pk A3 c3,J8 xs f.ins f.q m ps pk/\v=.slice A3 pk.length c3/\pk.length<=c3/\XI W A3 pk) (TK:=L8 xs f.ins f.q m ps) (BD:=∃pk,J8 xs f.ins f.q m ps pk/\Xt xs [] pk≠0) (T:=canon (val f.amt-val f.fee)) (fid:=f.key) (fins:=f.ins) (day:=f.day) hG Ke Ct (fun w' hb=>?_) (fun v w' hb hq=>?_) (fun v w' hb=>?_) rfl rfl rfl hT (fun rest taken h=>?_)).mono ?_
 ·refine (DV (R:=fun v err w''=>err=0/\Below w'.heap.size w' w''/\∃pk A3 c3,J8 xs f.ins f.q m ps pk/\v=.slice A3 pk.length c3/\pk.length<=c3/\XI w'' A3 pk) ((hbl.below hb).c 0) ((hbf.below hb).c 5) ((hbf.below hb).c 9) ((hbm.below hb).c 0) ((hbf.below hb).c 18)
    ((Zas c f.pC (hG.below hb) (hL.below hb) (hP.below hb) hpn hpn2 hps (Nt hql (by decide)) hE).mono ?_)).mono ?_
  ·rintro e w2 ⟨v,zs,rfl,hb2,hz,h20,hk⟩;obtain⟨A3,c3,e3,hc3⟩:=hk.cap;exact⟨_,_,rfl,rfl,hb2,_,A3,c3,⟨zs,hz,h20,rfl⟩,e3,hc3,hk.pkAt e3⟩
  ·rintro e w2 ⟨v,err,rfl,rfl,hb2,hq⟩;exact⟨v,rfl,hb2,hq⟩
 ·obtain⟨pk,A3,c3,hc,rfl,hc3,hk⟩:=hq;have hpq:=MN hE hL.sm hql hc;have hp2:pk.length<=100000:=Nt hpq.len (by decide)
  by_cases hp:Xt xs [] pk=0
  ·refine (ZcD c c3 (hG.below hb) (hL.below hb) hn0 c1 hk rfl hc3 hp2 hpq.sm hp (J9 c1 hpq hp).1).mono ?_;rintro e w2 ⟨g,cr,v,B,rfl,hT⟩;exact .inr ⟨_,_,g,cr,v,B,⟨pk,hc,hp,rfl⟩,rfl,hT⟩
  ·refine (DT c c3 (hG.below hb) (hL.below hb) hk rfl hc3 hp2 hpq.sm ?_).mono ?_
   ·unfold LS;rw[if_pos c1];exact hp
   rintro e w2 ⟨rfl,hb2⟩;refine .inl ⟨_,?_,⟨pk,hc,hp⟩,rfl,hb2⟩;unfold LS;rw[if_pos c1];exact hp
 ·exact Fs v (hG.below hb) ((hbf.below hb).c 10) ((hbf.below hb).c 11) (Nt hs.amt (by decide)) (Nt hs.fee (by decide))
 ·obtain⟨pk,hc,hp,e⟩:=h;have e1:rest=(Z8 (xs,[]) pk).1:=by rw[<-e]
  have e2:taken=(Z8 (xs,[]) pk).2:=by rw[<-e]
  rw[e2];exact Ci c1 (MN hE hL.sm hql hc) hp (by rw[Zm]) c6
 ·rintro e w2 (⟨err,h1,h2,rfl,hb2⟩|⟨rest,taken,h1,g,cr,v1,v2,rfl,h2⟩)
  ·exact⟨RZ,err,rfl,hb2,.inl ⟨h1,rfl,.inr h2⟩⟩
  ·exact⟨_,0,rfl,h2.below,.inr ⟨rfl,hE,rest,taken,g,cr,v1,v2,h1,rfl,h2⟩⟩
abbrev SG:=(Nat->Value)->Act
abbrev BG':=Nat->Option (World->Value->Prop)
inductive Vm where
 | val (v:Value)
 | new (R:World->Value->Prop)
def Vm.at (i:Nat) (ρ:Nat->Value):Vm->Value
 | .val v=>v
 | .new _=>ρ i
def Vm.bx (i:Nat) (B:BG'):Vm->BG'
 | .val _=>B
 | .new R=>fun k=>if k=i then some R else B k
def Vm.pre (i:Nat) (B:BG'):Vm->Prop
 | .val _=>True
 | .new _=>B i=none
def PK (ρ:Nat->Value) (i:Nat) (v:Value):Nat->Value:=fun k=>if k=i then v else ρ k
def O5 (P:Program) (w:World) (v:Value):Result Next->Prop
 | .ok (.value u) w'=>w'=w/\u=v
 | .ok .skip w'=>w'=w/\v=undef
 | .ok (.enter f args) w'=>w'=w/\Calls P f args w (fun e w''=>e=.returned v/\Below w.heap.size w w'')
 | _=>False
def O6 (P:Program) (w:World) (R:World->Value->Prop):Result Next->Prop
 | .ok (.value u) w'=>Below w.heap.size w w'/\R w' u
 | .ok (.enter f args) w'=>w'=w/\Calls P f args w (fun e w''=>∃u,e=.returned u/\Below w.heap.size w w''/\R w'' u)
 | _=>False
def Kn (ks:List Nat) (ρ:Nat->Value) (B:BG') (w:World):Prop:=∀k∈ks,∀R,B k=some R->R w (ρ k)
section
variable {P:Program} {ops:Array Oper} {md:Region.Mode} {C:World->Prop}
def Ts (ops:Array Oper) (o:Oper) (ks:List Nat):Prop:=∀k∈ks,∃ok d,ops[k]?=some ok/\ok.dst=some d/\d∈o.looksAt ops
def WF (P:Program) (ops:Array Oper) (C:World->Prop) (o:Oper) (ks:List Nat) (a:SG) (B:BG'):Vm->Prop
 | .val v=>(∀ρ,Region.wanted o (yielded ops (a ρ).tmps)=true/\∀w,C w->Kn ks ρ B w->O5 P w v ((execOp (a ρ).eval o).run P w))∨((∀ρ,Region.wanted o (yielded ops (a ρ).tmps)=false)/\v=undef)
 | .new R=>(∀w w' u,R w u->Below w.heap.size w w'->R w' u)/\∀ρ,Region.wanted o (yielded ops (a ρ).tmps)=true/\∀w,C w->Kn ks ρ B w->O6 P w R ((execOp (a ρ).eval o).run P w)
theorem WF.of_same {o:Oper} {ks:List Nat} {x:Vm} {a a':SG} {B B':BG'} (hy:WF P ops C o ks a B x) (he:∀ρ,execOp (a' ρ).eval o=execOp (a ρ).eval o)
  (hw:∀ρ,Region.wanted o (yielded ops (a' ρ).tmps)=Region.wanted o (yielded ops (a ρ).tmps)) (hk:∀ρ w,Kn ks ρ B' w->Kn ks ρ B w):WF P ops C o ks a' B' x:=by
 cases x with
 | val v=>
  rcases hy with hy|⟨h1,h2⟩
  ·exact .inl fun ρ=>⟨by rw[hw];exact (hy ρ).1,fun w hc hn=>by rw[he];exact (hy ρ).2 w hc (hk ρ w hn)⟩
  ·exact .inr ⟨fun ρ=>by rw[hw];exact h1 ρ,h2⟩
 | new R=>exact⟨hy.1,fun ρ=>⟨by rw[hw];exact (hy.2 ρ).1,fun w hc hn=>by rw[he];exact (hy.2 ρ).2 w hc (hk ρ w hn)⟩⟩
def gOp (P:Program) (ops:Array Oper) (C:World->Prop) (i:Nat) (K:SG->BG'->Prop) (a:SG) (B:BG'):Prop:=
 match ops[i]? with
 | none=>K a B
 | some o=>∃(x:Vm) (ks:List Nat),x.pre i B/\Ts ops o ks/\WF P ops C o ks a B x/\K (fun ρ=>(a ρ).put o.dst (x.at i ρ)) (x.bx i B)
theorem Cv {i:Nat} {a:SG} {B:BG'} {K K':SG->BG'->Prop} (h:∀a B,K a B->K' a B) (hh:gOp P ops C i K a B):gOp P ops C i K' a B:=by
 unfold gOp at *
 split
 ·exact h _ _ (by simpa [*] using hh)
 ·rename_i o ho;simp only[ho] at hh;obtain⟨x,ks,h0,hl,h1,h2⟩:=hh;exact⟨x,ks,h0,hl,h1,h _ _ h2⟩
def O7 (P:Program) (md:Region.Mode) (ops:Array Oper) (C:World->Prop) (Q:SG->BG'->Prop):Nat->Array Bool->SG->BG'->Prop
 | 0,listed,a,B=>Region.ready md ops listed=[]/\Q a B
 | fuel+1,listed,a,B=>
  (Region.ready md ops listed=[]->Q a B)/\
  ∀i∈Region.ready md ops listed,gOp P ops C i (O7 P md ops C Q fuel (listed.setIfInBounds i true)) a B
theorem Zav {i j:Nat} (h:i≠j) (x y:Vm) (B:BG'):y.bx j (x.bx i B)=x.bx i (y.bx j B):=by
 cases x<;>cases y<;>try rfl
 funext k
 simp only[Vm.bx]
 by_cases h1:k=j
 ·rw[if_pos h1,if_neg (by omega),if_pos h1]
 ·rw[if_neg h1]
  by_cases h2:k=i
  ·rw[if_pos h2,if_pos h2]
  ·rw[if_neg h2,if_neg h2,if_neg h1]
theorem Cw {i j:Nat} (h:i≠j) (x y:Vm) (B:BG') (hx:x.pre i B) (hy:y.pre j (x.bx i B)):y.pre j B/\x.pre i (y.bx j B):=by
 cases x<;>cases y<;>simp only[Vm.pre,Vm.bx] at *<;>first|exact⟨trivial,trivial⟩|exact⟨hy,trivial⟩|exact⟨trivial,hx⟩|(rw[if_neg (Ne.symm h)] at hy;exact⟨hy,by rw[if_neg h];exact hx⟩)
theorem Zaw {i j:Nat} {oi oj:Oper} {x:Vm} {ks:List Nat} (hij:i≠j) (hi:ops[i]?=some oi) (hj:ops[j]?=some oj) (hap:oi.apart ops oj=true)
  (hsi:∀cs b,oi.op≠.select cs b) (hsj:∀cs b,oj.op≠.select cs b) {K:SG->BG'->Prop} {a:SG} {B:BG'}
  (hp:x.pre i B) (_hl:Ts ops oi ks) (hy:WF P ops C oi ks a B x) (h:gOp P ops C j K (fun ρ=>(a ρ).put oi.dst (x.at i ρ)) (x.bx i B)) :
  gOp P ops C j (fun a' B'=>x.pre i B'/\WF P ops C oi ks a' B' x/\K (fun ρ=>(a' ρ).put oi.dst (x.at i ρ)) (x.bx i B')) a B:=by
 obtain⟨h1,h2,h3⟩:=Oper.apart_spec hap;unfold gOp at *;simp only[hj] at *;obtain⟨y,js,hp',hl',hy',hK⟩:=h;obtain⟨m1,m2⟩:=Cw hij x y B hp hp'
 refine⟨y,js,m1,hl',hy'.of_same (fun ρ=>(execOp_put oj hsj (a ρ) oi.dst _ h1).symm) (fun ρ=>(wanted_put oj (a ρ) oi.dst _ h1).symm) (fun ρ w hn k hk R hR=>?_),m2,
  hy.of_same (fun ρ=>execOp_put oi hsi (a ρ) oj.dst _ h3) (fun ρ=>wanted_put oi (a ρ) oj.dst _ h3) (fun ρ w hn k hk R hR=>hn k hk R ?_),?_⟩
 ·cases x with
  | val v=>exact hn k hk R hR
  | new R'=>
   simp only[Vm.bx] at hR
   by_cases hki:k=i
   ·exfalso
    obtain⟨ok,d,e1,e2,e3⟩:=hl' k hk;rw[hki,hi] at e1;injection e1 with e1
    subst e1;exact h1 d e2 e3
   ·rw[if_neg hki] at hR;exact hn k hk R hR
 ·cases y with
  | val v=>exact hR
  | new R'=>
   simp only[Vm.bx,Vm.pre] at m1 ⊢;have hkj:k≠j:=fun e=>by rw[e,m1] at hR;cases hR
   rw[if_neg hkj];exact hR
 have e1:(fun ρ=>((a ρ).put oj.dst (y.at j ρ)).put oi.dst (x.at i ρ))=fun ρ=>((a ρ).put oi.dst (x.at i ρ)).put oj.dst (y.at j ρ):=by
  funext ρ;exact (Act.put_comm (a ρ) _ _ h2).symm
 rw[e1,<-Zav hij];exact hK
theorem MR {Q:SG->BG'->Prop} {i:Nat} {oi:Oper} {x:Vm} {ks:List Nat} (hi:ops[i]?=some oi) (hl:Ts ops oi ks) (hsel:∀(j:Nat) (o:Oper) cs b,ops[j]?=some o->o.op≠.select cs b) :
  ∀(fuel:Nat) (listed:Array Bool) (a:SG) (B:BG'),
   (∀j oj,ops[j]?=some oj->j≠i->listed.getD j true=false->(∀e∈oj.after,Region.binds md e=true->e.on≠i)->oi.apart ops oj=true)->
   i∈Region.ready md ops listed->x.pre i B->WF P ops C oi ks a B x->
   O7 P md ops C Q fuel (listed.setIfInBounds i true) (fun ρ=>(a ρ).put oi.dst (x.at i ρ)) (x.bx i B)->O7 P md ops C Q (fuel+1) listed a B:=by
 intro fuel
 induction fuel with
 | zero=>
  intro listed a B _ hr hp hy H;refine⟨fun h=>(by rw[h] at hr;cases hr),fun j hj=>?_⟩
  by_cases hji:j=i
  ·subst hji;unfold gOp;simp only[hi];exact⟨x,ks,hp,hl,hy,H⟩
  ·have:=ready_mono hj hji
   rw[H.1] at this;cases this
 | succ fuel ih=>
  intro listed a B hfree hr hp hy H;refine⟨fun h=>(by rw[h] at hr;cases hr),fun j hj=>?_⟩
  by_cases hji:j=i
  ·subst hji;unfold gOp;simp only[hi];exact⟨x,ks,hp,hl,hy,H⟩
  ·have h1:=H.2 j (ready_mono hj hji);obtain⟨hjun,oj,hoj,hall⟩:=mem_ready.1 hj;have hnot:∀e∈oj.after,Region.binds md e=true->e.on≠i:=fun e he hb heq=>by
    have h1:=hall e he hb;have h0:=(mem_ready.1 hr).1;rw[heq] at h1;rcases Nat.lt_or_ge i listed.size with h'|h'
    ·simp[h'] at h0 h1;rw[h0] at h1;cases h1
    ·simp[Array.getElem?_eq_none h'] at h1
   have h2:=Zaw (Ne.symm hji) hi hoj (hfree j oj hoj hji hjun hnot) (fun cs b=>hsel i oi cs b hi) (fun cs b=>hsel j oj cs b hoj) hp hl hy h1
   have hfree':∀k ok,ops[k]?=some ok->k≠i->(listed.setIfInBounds j true).getD k true=false->
     (∀e∈ok.after,Region.binds md e=true->e.on≠i)->oi.apart ops ok=true:=fun k ok hk hki hun hno=>by
    refine hfree k ok hk hki ?_ hno
    by_cases hjk:j=k
    ·subst hjk;exact hjun
    ·rw[getD_set_ne true hjk] at hun;exact hun
   refine Cv (fun a' B' h3=>ih (listed.setIfInBounds j true) a' B' hfree' (ready_mono hr (Ne.symm hji)) h3.1 h3.2.1 ?_) h2
   rw[Array.setIfInBounds_comm _ _ hji];exact h3.2.2
def VH (P:Program) (ops:Array Oper) (C:World->Prop) (Q:SG->BG'->Prop):List Oper->Nat->SG->BG'->Prop
 | [],_,a,B=>Q a B
 | o::rest,i,a,B=>∃(x:Vm) (ks:List Nat),x.pre i B/\Ts ops o ks/\WF P ops C o ks a B x/\VH P ops C Q rest (i+1) (fun ρ=>(a ρ).put o.dst (x.at i ρ)) (x.bx i B)
theorem O8 {Q:SG->BG'->Prop} (hs:Region.noSelect ops=true):∀(l:List Oper) (k:Nat) (listed:Array Bool) (a:SG) (B:BG'),(∀j,l[j]?=ops[k+j]?)->
  Region.lexFrom md ops l.length k listed=true->VH P ops C Q l k a B->O7 P md ops C Q l.length listed a B
 | [],_,_,_,_,_,hB,h=>⟨by simpa [Region.lexFrom] using hB,h⟩
 | o::l,k,listed,a,B,hl,hB,h=>by
  have h0:ops[k]?=some o:=by simpa using (hl 0).symm
  simp only[List.length_cons,Region.lexFrom,Bool.and_eq_true] at hB;obtain⟨⟨hr,hf⟩,hB'⟩:=hB;obtain⟨x,ks,hp,hle,hy,hK⟩:=h;exact MR h0 hle (Region.noSelect_spec hs) l.length listed a B (Region.free_spec h0 hf) (by simpa using hr) hp hy
   (O8 hs l (k+1) _ _ _ (fun j=>by have:=hl (j+1);simpa [Nat.add_assoc,Nat.add_comm 1 j] using this) hB' hK)
structure Uc (w0:World) (ρ:Nat->Value) (B:BG') (w:World):Prop where
 below:Below w0.heap.size w0 w
 box:∀i R,B i=some R->R w (ρ i)/\∀w w' u,R w u->Below w.heap.size w w'->R w' u
theorem Uc.kn {w0 w:World} {ρ:Nat->Value} {B:BG'} (h:Uc w0 ρ B w) (ks:List Nat):Kn ks ρ B w:=fun k _ R hR=>(h.box k R hR).1
theorem Uc.go {w0 w w':World} {ρ:Nat->Value} {B:BG'} (h:Uc w0 ρ B w) (hb:Below w.heap.size w w'):Uc w0 ρ B w':=
 ⟨h.below.trans (hb.mono h.below.size),fun i R hi=>⟨(h.box i R hi).2 _ _ _ (h.box i R hi).1 hb,(h.box i R hi).2⟩⟩
theorem Uc.new {w0 w w':World} {ρ:Nat->Value} {B:BG'} (h:Uc w0 ρ B w) (hb:Below w.heap.size w w') (i:Nat) {R:World->Value->Prop} {u:Value} (hR:R w' u) (hs:∀w w' u,R w u->Below w.heap.size w w'->R w' u) :
  Uc w0 (PK ρ i u) ((Vm.new R).bx i B) w':=by
 have h':=h.go hb;refine⟨h'.below,fun k R' hk=>?_⟩
 simp only[Vm.bx,PK] at *
 by_cases hki:k=i
 ·rw[if_pos hki] at hk ⊢;injection hk with hk
  subst hk;exact⟨hR,hs⟩
 ·rw[if_neg hki] at hk ⊢;exact h'.box k R' hk
def Hn (listed:Array Bool) (a:SG):Prop:=∀(i:Nat) (ρ:Nat->Value) (b:Value),listed.getD i true=false->a (PK ρ i b)=a ρ
theorem Hn.put {listed:Array Bool} {a:SG} (h:Hn listed a) {i:Nat} (hi:listed.getD i true=false) (d:Option Tmp) (x:Vm) :
  Hn (listed.setIfInBounds i true) (fun ρ=>(a ρ).put d (x.at i ρ)):=by
 intro k ρ b hk;have hlt:i<listed.size:=by
  rcases Nat.lt_or_ge i listed.size with h'|h'
  ·exact h'
  ·simp[Array.getElem?_eq_none h'] at hi
 have hki:k≠i:=fun e=>by subst e;simp[hlt] at hk
 have hk':listed.getD k true=false:=by rwa [getD_set_ne true (Ne.symm hki)] at hk
 show (a (PK ρ k b)).put d _=_;rw[h k ρ b hk'];cases x with
 | val v=>rfl
 | new R=>
  show (a ρ).put d (PK ρ k b i)=(a ρ).put d (ρ i)
  have:PK ρ k b i=ρ i:=if_neg (Ne.symm hki)
  rw[this]
theorem Y8 {w0:World} {Q:SG->BG'->Prop} {Q':Exit->Act->World->Prop} (hQ:∀a B ρ w,Uc w0 ρ B w->Q a B->Q' .normal (a ρ) w) :
  ∀(fuel:Nat) (listed:Array Bool) (a:SG) (B:BG') (ρ:Nat->Value) (w:World),Uc w0 ρ B w->Hn listed a->
  O7 P md ops (fun w=>Below w0.heap.size w0 w) Q fuel listed a B->wpAny P md ops Q' fuel listed (a ρ) w
 | 0,_,_,_,_,_,hf,_,h=>⟨h.1,hQ _ _ _ _ hf h.2⟩
 | fuel+1,listed,a,B,ρ,w,hf,hfr,h=>by
  refine⟨fun h0=>hQ _ _ _ _ hf (h.1 h0),fun i hi=>?_⟩
  have h1:=h.2 i hi;obtain⟨hun,o,ho,_⟩:=mem_ready.1 hi;unfold gOp at h1;simp only[ho] at h1;obtain⟨x,ks,hp,hle,hy,hK⟩:=h1;have hkn:=hf.kn ks;have hfr':=hfr.put hun o.dst x;unfold wpOp;simp only[ho];cases x with
  | val v=>
   simp only[WF] at hy;rcases hy with hy|⟨hw,rfl⟩
   ·obtain⟨hw,hr⟩:=hy ρ;simp only[hw,if_true];refine .inl ?_;have h3:=hr w hf.below hkn;unfold Oper.wp;generalize (execOp (a ρ).eval o).run P w=r at *;cases r with
    | ok n w'=>
     cases n<;>simp only[O5] at h3<;>simp only[Oper.upon]
     case value u=>
      obtain⟨e1,e2⟩:=h3;rw[e1,e2];exact Y8 hQ fuel _ _ B ρ w hf hfr' hK
     case skip=>
      obtain⟨e1,e2⟩:=h3;rw[e1,<-e2];exact Y8 hQ fuel _ _ B ρ w hf hfr' hK
     case enter f args=>
      obtain⟨e1,hc⟩:=h3;rw[e1];exact hc.mono fun e w'' ⟨he,hw''⟩=>by subst he;exact Y8 hQ fuel _ _ B ρ w'' (hf.go hw'') hfr' hK
    | halt x w'=>simp only[O5] at h3
   ·simp only[hw ρ,Bool.false_eq_true,if_false];exact Y8 hQ fuel _ _ B ρ w hf hfr' hK
  | new R=>
   simp only[WF] at hy;obtain⟨hs,hy⟩:=hy;obtain⟨hw,hr⟩:=hy ρ;simp only[hw,if_true];refine .inl ?_;have h3:=hr w hf.below hkn;have key:∀u w',Below w.heap.size w w'->R w' u->wpAny P md ops Q' fuel (listed.setIfInBounds i true) ((a ρ).put o.dst u) w':=fun u w' hb hR=>by
    have h5:=Y8 hQ fuel _ _ _ (PK ρ i u) w' (hf.new hb i hR hs) hfr' hK;have e1:(a (PK ρ i u)).put o.dst ((Vm.new R).at i (PK ρ i u))=(a ρ).put o.dst u:=by
     show (a (PK ρ i u)).put o.dst (PK ρ i u i)=_;rw[hfr i ρ _ hun]
     have:PK ρ i u i=u:=if_pos rfl
     rw[this]
    rwa [e1] at h5
   unfold Oper.wp;generalize (execOp (a ρ).eval o).run P w=r at *;cases r with
   | ok n w'=>
    cases n<;>simp only[O6] at h3<;>simp only[Oper.upon]
    case value u=>exact key u w' h3.1 h3.2
    case enter f args=>
     obtain⟨e1,hc⟩:=h3;rw[e1];exact hc.mono fun e w'' ⟨u,he,hw'',hR⟩=>by subst he;exact key u w'' hw'' hR
   | halt x w'=>simp only[O6] at h3
theorem VI {id:Nat} {Q:Exit->Act->World->Prop} {a:Act} {w:World} {l:List Oper} (hm:P.follows .mixedOrders=true) (hB:Region.lexB .any l.toArray=true)
  (h:VH P l.toArray (fun w'=>Below w.heap.size w w') (fun a' B=>∀ρ w',Uc w ρ B w'->Q .normal (a' ρ) w') l 0 (fun _=>a) (fun _=>none)):(Code.region id l.toArray true).wp P Q a w:=by
 simp only[Region.lexB,Bool.and_eq_true] at hB;refine wp_region_any hm ?_;have hf:Uc w (fun _=>undef) (fun _=>none) { w with drawn:=w.drawn+1 }:=
  ⟨⟨rfl,rfl,rfl,Nl _,fun _ _=>rfl⟩,fun _ _ h=>(by cases h)⟩
 refine Y8 (Q:=fun a' B=>∀ρ w',Uc w ρ B w'->Q .normal (a' ρ) w') (fun a' B ρ w' hf' h'=>h' ρ w' hf') _ _ (fun _=>a) (fun _=>none) (fun _=>undef) _ hf (fun _ _ _ _=>rfl) ?_
 have:=O8 (C:=fun w'=>Below w.heap.size w w') (md:=.any) hB.1 l 0 (Array.replicate l.toArray.size false) (fun _=>a) (fun _=>none) (by simp) (by simpa using hB.2) h
 simpa using this
variable {Q:SG->BG'->Prop} {o:Oper} {rest:List Oper} {i:Nat} {a:SG} {B:BG'}
theorem QP {o:Oper}:Ts ops o []:=fun _ h=>absurd h (by simp)
theorem FE {o:Oper} {k:Nat} (ok:Oper) (d:Tmp) (h1:ops[k]?=some ok) (h2:ok.dst=some d) (h3:d∈o.looksAt ops):Ts ops o [k]:=fun j hj=>by
 rw[List.mem_singleton.1 hj];exact⟨ok,d,h1,h2,h3⟩
theorem VJ (v:Value) (hw:∀ρ,Region.wanted o (yielded ops (a ρ).tmps)=true) (h:∀ρ w,C w->(execOp (a ρ).eval o).run P w=.ok (.value v) w)
  (hn:VH P ops C Q rest (i+1) (fun ρ=>(a ρ).put o.dst v) B):VH P ops C Q (o::rest) i a B:=
 ⟨.val v,[],trivial,QP,.inl fun ρ=>⟨hw ρ,fun w hc _=>by rw[h ρ w hc];exact⟨rfl,rfl⟩⟩,hn⟩
theorem FF (f:FuncId) (args:Array Value) (v:Value) (hw:∀ρ,Region.wanted o (yielded ops (a ρ).tmps)=true) (h:∀ρ w,C w->(execOp (a ρ).eval o).run P w=.ok (.enter f args) w)
  (hc:∀w,C w->Calls P f args w fun e w'=>e=.returned v/\Below w.heap.size w w')
  (hn:VH P ops C Q rest (i+1) (fun ρ=>(a ρ).put o.dst v) B):VH P ops C Q (o::rest) i a B:=
 ⟨.val v,[],trivial,QP,.inl fun ρ=>⟨hw ρ,fun w hC _=>by rw[h ρ w hC];exact⟨rfl,hc w hC⟩⟩,hn⟩
theorem O9 (f:FuncId) (args:Array Value) (R:World->Value->Prop) (hp:B i=none) (hs:∀w w' u,R w u->Below w.heap.size w w'->R w' u) (hw:∀ρ,Region.wanted o (yielded ops (a ρ).tmps)=true) (h:∀ρ w,C w->(execOp (a ρ).eval o).run P w=.ok (.enter f args) w)
  (hc:∀w,C w->Calls P f args w fun e w'=>∃u,e=.returned u/\Below w.heap.size w w'/\R w' u)
  (hn:VH P ops C Q rest (i+1) (fun ρ=>(a ρ).put o.dst (ρ i)) (fun k=>if k=i then some R else B k)):VH P ops C Q (o::rest) i a B:=
 ⟨.new R,[],hp,QP,⟨hs,fun ρ=>⟨hw ρ,fun w hC _=>by rw[h ρ w hC];exact⟨rfl,hc w hC⟩⟩⟩,hn⟩
theorem Sb (k:Nat) (R:World->Value->Prop) (v:Value) (ok:Oper) (d:Tmp) (hB:B k=some R) (h1:ops[k]?=some ok) (h2:ok.dst=some d) (h3:d∈o.looksAt ops) (hw:∀ρ,Region.wanted o (yielded ops (a ρ).tmps)=true)
  (h:∀ρ w,C w->R w (ρ k)->∃f args,(execOp (a ρ).eval o).run P w=.ok (.enter f args) w/\Calls P f args w fun e w'=>e=.returned v/\Below w.heap.size w w')
  (hn:VH P ops C Q rest (i+1) (fun ρ=>(a ρ).put o.dst v) B):VH P ops C Q (o::rest) i a B:=
 ⟨.val v,[k],trivial,FE ok d h1 h2 h3,.inl fun ρ=>⟨hw ρ,fun w hC hk=>by
  obtain⟨f,args,e,hc⟩:=h ρ w hC (hk k (by simp) R hB)
  rw[e];exact⟨rfl,hc⟩⟩,hn⟩
end
section
variable {P:Program} {ops:Array Oper} {C:World->Prop} {Q:St->Bx->Prop} {o:Oper} {rest:List Oper} {i:Nat} {a:St} {B:Bx}
end
theorem Vu (p q:Bool) (w:World):Calls prog 229 #[.bool p,.bool q] w fun e w'=>∃u,e=.returned u/\Below w.heap.size w w'/\∃b1 b2,u=.func (.func 286) #[] #[.pointer (some ⟨b1,0,none⟩),.pointer (some ⟨b2,0,none⟩)]/\Blk w' b1 #[.bool p]/\Blk w' b2 #[.bool q]:=by
 refine (Cj p q w).mono ?_;rintro e w' ⟨rfl,rfl⟩;obtain⟨h1,h2,h3,-⟩:=V9 w (.cells #[.bool p] 4) (.cells #[.bool q] 4);exact⟨_,rfl,h3,_,_,rfl,⟨_,h1⟩,⟨_,h2⟩⟩
theorem Zdw (p r:Pk) (bx:Nat) (w:World) (h:Blk w bx #[Zg r.lot,Zg r.q]) :
  Calls prog 289 #[.agg #[Zg p.lot,Zg p.q],.pointer (some ⟨bx,0,none⟩)] w fun e w'=>e=.returned (.bool (Ya r.lot p))/\Below w.heap.size w w':=by
 have hb:=Zh w (.cells #[Zg p.lot,Zg p.q] 195);have x1:=Blk.new w #[Zg p.lot,Zg p.q] 195;have p0:=x1.c 0;have p1:=(h.below hb).c 0;have HV:Hid (Ya r.lot p=(p.lot==r.lot)):=rfl;have he:=Tk p.lot r.lot;generalize Ya r.lot p=R at *;clear h x1;go_enter func289,ntmps289;go_wp2;go_ret;refine⟨ZR ?_,hb⟩;rw[HV.out]<;>first|exact he|rfl
theorem If (args:Array Value) (w:World):(callFunc 289 args).run prog w=.ok (.enter 289 args) w:=by kernel_rfl
theorem FG {z v:Int} {M k:Nat} (h:z.natAbs<=k*M) (hv:v.natAbs<=M):(z+v).natAbs<=(k+1)*M:=by
 have h1:=Int.natAbs_add_le z v;rw[Nat.add_mul,Nat.one_mul];omega
theorem Kt {z:Int} {k:Nat} (h:z.natAbs<=k*10 ^ 100) (hk:k<=100000):(canon z).length<=100000:=by
 refine Nt (Zu z 106 ?_) (by decide)
 have h2:k*10 ^ 100<=100000*10 ^ 100:=Nat.mul_le_mul_right _ hk;have h3:(100000:Nat)*10 ^ 100<10 ^ 106:=by
  rw[show (106:Nat)=100+6 from rfl,Nat.pow_add,Nat.mul_comm]
  exact Nat.mul_lt_mul_of_pos_left (by decide) (Nat.pow_pos (by decide))
 exact Nat.lt_of_le_of_lt (Nt h h2) h3
theorem Zdx {l:List UInt8} (h:l.length<=100):(val l).natAbs<=10 ^ 100:=Nat.le_of_lt (Zw h)
theorem ZbW {f:Fct} {ps:List Pk} {w:World} (hG:GE w) (hs:MQ f) (hp:XI w f.pA ps) (hn:ps.length=f.pN) (hc:f.pN<=f.pC) (hps:∀p∈ps,p.lot.length<=1000/\p.q.length<=100) :
  Calls prog 235 #[.agg (Zq f)] w fun e w'=>(∃E:Int,e=.returned (Zi E)/\(ps=[]->0<=val f.q->E=0))/\Below w.heap.size w w':=by
 have hb0:=Zh w (.cells (Zq f) 48);have x0:Blk (w.alloc (.cells (Zq f) 48)) w.heap.size (Zq f):=Blk.new w _ 48;have q18:(w.alloc (.cells (Zq f) 48)).cell? ⟨w.heap.size,18,none⟩=some (.slice f.pA f.pN f.pC):=x0.c 18;obtain⟨n,hN⟩:∃n,n=f.pN:=⟨_,rfl⟩
 obtain⟨A,hAA⟩:∃A,A=f.pA:=⟨_,rfl⟩
 rw[<-hN] at hn hc q18;rw[<-hAA] at hp q18;have HAA:=Lh hAA;clear hAA;have HQ:=Lh hs.q;have HPS:=Lh hps;have HN:=Lh hn;have HP:=Lh hp;have HG:=Lh hG;clear hs hps hp
 by_cases h64:64<n
 ·have e1:decide (64<n)=true:=Dt h64;have e2:decide (64<(n:Int))=true:=Dt (by omega)
  have HX:Hid (¬ps=[]):=fun h=>by rw[h] at hn;simp at hn;omega
  clear hn hN;go_enter func235,ntmps235;go_wp2;go_ret;exact⟨⟨_,rfl,fun h=>absurd h HX.out⟩,hb0⟩
 have e1:decide (64<n)=false:=Df h64;have e2:decide (64<(n:Int))=false:=Df (by omega)
 have HX0:=Lh x0;clear hn x0;obtain⟨W0,hW0⟩:∃W0,W0=w.alloc (.cells (Zq f) 48):=⟨_,rfl⟩
 have HW0:=Lh hW0;have HNN:=Lh hN;clear hN hW0;go_enter func235,ntmps235;go_wp2_with fail
 go_loopw [3,4,5,6,14] (fun sv _ _ _ iv wr=>∃(k:Nat) (z:Int),k<=n/\sv=Zg (canon z)/\iv=Zi (k:Int)/\Hid (z.natAbs<=k*10 ^ 100/\(k=0->z=0))/\Hid (Below w.heap.size w wr)/\Hid (Blk wr w.heap.size (Zq f))) (fun _ _ _ _ iv _=>n-(intOf iv).toNat)
 case atStart=>exact⟨0,0,Nat.zero_le _,rfl,rfl,⟨by simp,fun _=>rfl⟩,hb0,HX0.out⟩
 case round=>
  clear hb0 HX0 q18;obtain⟨k,z,hk,rfl,rfl,HZ,HB,HF⟩:=hrel
  by_cases hlk:k<n
  rotate_left
  ·have e3:decide (k<n)=false:=Df hlk;have e4:decide ((k:Int)<(n:Int))=false:=Df (by omega)
   have q9:wr.cell? ⟨w.heap.size,9,none⟩=some (Zg f.q):=HF.out.c 9;obtain⟨c,hc⟩:∃c,c=ZH z (val f.q):=⟨_,rfl⟩
   have hq:=HQ.out;have hzl:=Kt HZ.out.1 (by omega)
   have CC:=Lh ((ZF (l:=canon z) (l':=f.q) (c:=c) (by omega) (by omega) (by rw[Zm];exact hc.symm)).e)
   have HE:Hid (ps=[]->0<=val f.q->c<=0):=fun h h0=>by
    have h1:=HN.out;rw[h] at h1;have h2:k=0:=by simp at h1;omega
    have h3:=HZ.out.2 h2;rw[hc,h3];unfold ZH
    split
    ·omega
    ·split<;>omega
   have hbq:=HB.out;clear hq hzl hc;go_wp2_with fail
   refine (CC.out.of hG hbq).mono ?_
   rintro e w9 ⟨rfl,hb9⟩
   by_cases h0:0<c
   ·have e5:decide (0<c)=true:=Dt h0;go_wp2;go_ret;exact⟨⟨_,rfl,fun h h1=>absurd h0 (by have:=HE.out h h1;omega)⟩,bto hbq hb9⟩
   ·have e5:decide (0<c)=false:=Df h0;go_wp2;go_ret;exact⟨⟨_,rfl,fun _ _=>rfl⟩,bto hbq hb9⟩
  have e3:decide (k<n)=true:=Dt hlk;have e4:decide ((k:Int)<(n:Int))=true:=Dt (by omega)
  have HE:Hid (¬ps=[]):=fun h=>by
   have h1:=HN.out;rw[h] at h1;simp at h1;omega
  obtain⟨x,hx⟩:∃x,ps[k]?=some x:=⟨_,List.getElem?_eq_getElem (by have:=HN.out;omega)⟩
  obtain⟨b,o,rfl,hbs,p0,p1⟩:=(HP.out.below HB.out) k x hx;obtain⟨hx1,hx2⟩:=HPS.out x (Lm hx);have hbA:=Zh wr (.cells #[Zg x.lot,Zg x.q] 195);have y1:Blk (wr.alloc (.cells #[Zg x.lot,Zg x.q] 195)) wr.heap.size #[Zg x.lot,Zg x.q]:=Blk.new wr _ 195;have hq18:(wr.alloc (.cells #[Zg x.lot,Zg x.q] 195)).cell? ⟨w.heap.size,18,none⟩=some (.slice f.pA f.pN f.pC):=(HF.out.below hbA).c 18;rw[<-HNN.out,<-HAA.out] at hq18;have C1:=Lh (Zbw (s:=x.lot) (by omega))
  have HT:=Lh ((HP.out.below (bto HB.out hbA)).take k);have htl:(ps.take k).length=k:=by rw[List.length_take];have:=HN.out;omega
  have HTL:=Lh htl;have HBA:=Lh (bto HB.out hbA);have HFA:=Lh (HF.out.below hbA);have hzb:=FG HZ.out.1 (Zdx hx2);have HZ2:Hid ((z+val x.q).natAbs<=(k+1)*10 ^ 100/\(k+1=0->z+val x.q=0)):=⟨hzb,fun h=>by omega⟩
  have hzl:=Kt HZ.out.1 (by omega)
  have CA:=Lh ((XX (l:=canon z) (l':=x.q) (by omega) (by omega) (z:=z+val x.q) (by rw[Zm])).e)
  have CW:=Lh (MO x.q);obtain⟨E2,hE2⟩:∃E2,E2=bwE true false x.q [] (fv x.q []):=⟨_,rfl⟩
  have CB:Hid (∀w' b1 b2,GE w'->Blk w' b1 #[.bool true]->Blk w' b2 #[.bool false]->Calls prog 286 #[.agg #[Zg x.q,Zj],.pointer (some ⟨b1,0,none⟩),.pointer (some ⟨b2,0,none⟩)] w' fun e w''=>e=.returned (Zi E2)/\Below w'.heap.size w' w''):=fun w' b1 b2 hG' h1 h2=>by
   rw[hE2];exact Hl true false (PR (k:=100) hx2 (by decide) (by decide)) hG' h1 h2
  clear hx hx1 hx2 htl hzb hzl hE2 HZ HF HB;obtain⟨Wp,hWp⟩:∃Wp,Wp=wr.alloc (.cells #[Zg x.lot,Zg x.q] 195):=⟨_,rfl⟩
  have q0:Wp.cell? ⟨wr.heap.size,0,none⟩=some (Zg x.lot):=by rw[hWp];exact y1.c 0
  rw[hWp] at q0;rw[<-hWp] at y1 HT HBA HFA;have HWp:=Lh hWp;have Y1:=Lh y1;clear y1 hWp hbA;go_wp2_with fail;rw[<-HWp.out] at *
  refine (C1.out.of hG HBA.out).mono ?_
  rintro e w2 ⟨rfl,hb2⟩;obtain⟨bl,hbl⟩:∃bl,bl=idB x.lot:=⟨_,rfl⟩
  rw[<-hbl];clear hbl q0 hq18 C1;cases bl with
  | false=>
   go_wp2;go_ret;exact⟨⟨_,rfl,fun h=>absurd h HE.out⟩,bto HBA.out hb2⟩
  | true=>
  have Y2:=Lh (Y1.out.below hb2);have HB2:=Lh (bto HBA.out hb2);have hq18:w2.cell? ⟨w.heap.size,18,none⟩=some (.slice (some ⟨b,o,none⟩) n f.pC):=by
   have h:=(HFA.out.below hb2).c 18;rw[show (Zq f)[18]?=some (.slice f.pA f.pN f.pC) from rfl,<-HNN.out,<-HAA.out] at h
   exact h
  have HF2:=Lh (HFA.out.below hb2);have hT2:=HT.out.below hb2;have C2:=Lh (I6 _ If (Ya x.lot) #[.pointer (some ⟨wr.heap.size,0,none⟩)] (some ⟨b,o,none⟩) (ps.take k) k f.pC w2 HTL.out (by omega) hT2 (fun p hp w' hb'=>Zdw p x wr.heap.size w' (Y2.out.below hb')))
  have hkc:k<=f.pC:=by omega
  clear hb2 hT2 Y1 HBA HFA HT;go_wp2_with fail
  refine C2.out.mono ?_
  rintro e w3 ⟨rfl,hb3⟩;obtain⟨bl,hbl⟩:∃bl,bl=(ps.take k).any (Ya x.lot):=⟨_,rfl⟩
  rw[<-hbl];clear hbl hq18 C2;cases bl with
  | true=>
   go_wp2;go_ret;exact⟨⟨_,rfl,fun h=>absurd h HE.out⟩,bto HB2.out hb3⟩
  | false=>
  have Y3:=Lh (Y2.out.below hb3);have HF3:=Lh (HF2.out.below hb3);replace hb3:=bto HB2.out hb3;clear Y2 HF2 HB2;go_wp2_with fail;refine VI (by kernel_rfl) (by kernel_rfl) ?_
  refine O9 229 #[.bool true,.bool false] (fun w u=>∃b1 b2,u=.func (.func 286) #[] #[.pointer (some ⟨b1,0,none⟩),.pointer (some ⟨b2,0,none⟩)]/\Blk w b1 #[.bool true]/\Blk w b2 #[.bool false]) rfl (fun w w' u ⟨b1,b2,e,h1,h2⟩ hb=>⟨b1,b2,e,h1.below hb,h2.below hb⟩) (fun _=>rfl) (fun ρ wz hw=>by go_simp;try rfl) (fun wz hw=>Vu true false wz) ?_
  simp only[Act.put,StT,StZ,StS,Nat.reduceAdd];refine VJ _ (fun _=>rfl) (fun ρ wz hw=>by go_simp;try rfl) ?_
  simp only[Act.put,StT,StZ,StS,Nat.reduceAdd];refine VJ _ (fun _=>rfl) (fun ρ wz hw=>by have q0:wz.cell? ⟨wr.heap.size,1,none⟩=some (Zg x.q):=(Y3.out.below hw).c 1;go_simp;try rfl) ?_
  simp only[Act.put,StT,StZ,StS,Nat.reduceAdd];refine FF _ _ _ (fun _=>rfl) (fun ρ wz hw=>by go_simp;try rfl) (fun wz hw=>CW.out.of hG (bto hb3 hw)) ?_
  simp only[Act.put,StT,StZ,StS,Nat.reduceAdd];refine Sb 0 _ _ _ 29 rfl rfl rfl (by decide) (fun _=>rfl) (fun ρ wz hw ⟨b1,b2,e,h1,h2⟩=>⟨286,#[.agg #[Zg x.q,Zj],.pointer (some ⟨b1,0,none⟩),.pointer (some ⟨b2,0,none⟩)],by simp only[e];go_simp;try rfl,CB.out wz b1 b2 (hG.below (bto hb3 hw)) h1 h2⟩) ?_
  simp only[Act.put,StT,StZ,StS,Nat.reduceAdd];refine VJ _ (fun _=>rfl) (fun ρ wz hw=>by go_simp;try rfl) ?_
  simp only[Act.put,StT,StZ,StS,Nat.reduceAdd];intro ρ w4 hF;have Y4:=Lh (Y3.out.below hF.below);have HF4:=Lh (HF3.out.below hF.below);have hb4:=bto hb3 hF.below;clear hF Y3 HF3 hb3 CB CW
  by_cases h0:E2=0
  rotate_left
  ·have e5:decide (E2=0)=false:=Df h0;have e6:(E2==0)=false:=by rw[Bn];exact h0
   go_wp2;go_ret;exact⟨⟨_,rfl,fun h=>absurd h HE.out⟩,hb4⟩
  subst h0;have q1:w4.cell? ⟨wr.heap.size,1,none⟩=some (Zg x.q):=Y4.out.c 1;go_wp2_with fail
  refine (CA.out.of hG hb4).mono ?_
  rintro e w5 ⟨rfl,hb5⟩;have HF5:=Lh (HF4.out.below hb5);replace hb5:=bto hb4 hb5;clear q1 Y4 HF4 hb4;go_wp2;go_roundw
  case rel=>exact⟨k+1,z+val x.q,by omega,rfl,by go_num,HZ2.out,hb5,HF5.out⟩
  case measure=>simp[intOf];omega
end Go.Proofs.YtpieeldbamklkaaGreatDoor
