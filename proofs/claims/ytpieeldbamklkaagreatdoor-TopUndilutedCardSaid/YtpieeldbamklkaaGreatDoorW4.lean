/- Texts put together: Ua Bw Rl St Su Sv Sw Sx Mn Oj Uq. -/
import Derived.Test.YtpieeldbamklkaaGreatDoorW3
import Derived.Deep.MidRow
import Derived.Shelf.SlicesE.Clone
import Derived.Deep.DeepCutAuto
import Derived.Deep.CutBlock
import Derived.Calls
import Derived.Lib.QuietBelow
set_option maxHeartbeats 4000000
set_option maxRecDepth 100000
namespace Go.Proofs.YtpieeldbamklkaaGreatDoor
open Go.RowKit Go.Shelf Num
def ncB (r:List UInt8):Bool:=!decide (r=canon (val r))
def ngB (r:List UInt8):Bool:=decide (val r<0)
def upE (rs:List (List UInt8)):Int:=if rs.any ncB=true then 1 else if rs.any ngB=true then 2 else 0
theorem US {rs:List (List UInt8)} (h:upE rs=0):∀r∈rs,r=canon (val r)/\0<=val r:=by
 unfold upE at h
 by_cases h1:rs.any ncB=true
 ·rw[if_pos h1] at h;cases h
 rw[if_neg h1] at h
 by_cases h2:rs.any ngB=true
 ·rw[if_pos h2] at h;cases h
 intro r hr;rw[List.any_eq_true] at h1 h2;refine⟨Classical.byContradiction fun e=>h1 ⟨r,hr,?_⟩,Classical.byContradiction fun e=>h2 ⟨r,hr,?_⟩⟩
 ·unfold ncB;rw[Df e];rfl
 ·unfold ngB;exact Dt (by omega)
theorem Hq (args:Array Value) (w:World):(callFunc 110 args).run Tryz.prog w=.ok (.enter 110 args) w:=by kernel_rfl
theorem Hr (args:Array Value) (w:World):(callFunc 111 args).run Tryz.prog w=.ok (.enter 111 args) w:=by kernel_rfl
theorem Zbc {r:List UInt8} (hl:r.length<=100000):Ret 110 #[.string ⟨r.toArray⟩] (.bool (ncB r)):=fun w hG=>by
 have hb:=Below.refl w.heap.size w;have C1:=Lh (Yk (l:=r) (by omega) rfl)
 have HV:Hid (ncB r = !decide (r=canon (val r))):=rfl;generalize ncB r=R at *
 by_cases g:r=canon (val r)
 ·have HV2:Hid (R=false):=by show _=_;rw[HV.out,Dt g];rfl
  rw[if_pos g] at C1;clear HV g;go_enter Tryz.func110,Tryz.ntmps110;go_wp2_with fail
  with_reducible refine (C1.out.of hG hb).mono ?_
  rintro e w1 ⟨rfl,hb1⟩;go_wp2;go_ret;exact⟨Z4 HV2.out.symm,bto hb hb1⟩
 ·have HV2:Hid (R=true):=by show _=_;rw[HV.out,Df g];rfl
  rw[if_neg g] at C1;clear HV g;go_enter Tryz.func110,Tryz.ntmps110;go_wp2_with fail
  with_reducible refine (C1.out.of hG hb).mono ?_
  rintro e w1 ⟨rfl,hb1⟩;go_wp2;go_ret;exact⟨Z4 HV2.out.symm,bto hb hb1⟩
theorem Zbd {r:List UInt8} (hl:r.length<=100000):Ret 111 #[.string ⟨r.toArray⟩] (.bool (ngB r)):=fun w hG=>by
 have hb:=Below.refl w.heap.size w;have C1:=Lh (Zv (l:=r) (l':=[]) (by omega) (by decide) (show _=Zx (val r) 0 from rfl))
 have hz:=(O0 (val r)).2.1;have HV:Hid (decide (Zx (val r) 0<0)=ngB r):=by show _=decide (val r<0);rw[decide_eq_decide];exact hz
 generalize Zx (val r) 0=c at *;generalize ngB r=R at *;clear hz;go_enter Tryz.func111,Tryz.ntmps111;go_wp2_with fail
 with_reducible refine (C1.out.of hG hb).mono ?_
 rintro e w1 ⟨rfl,hb1⟩;go_wp2;go_ret;exact⟨Z4 HV.out,bto hb hb1⟩
theorem Q7 {w:World} {A:Option Addr} {rs:List (List UInt8)} {n:Nat} (c:Nat) (hG:ZP w) (hn:rs.length=n) (hn2:n<=1000000) (h:Xb w A rs) (hl:∀r∈rs,r.length<=100000) :
  Calls Tryz.prog 45 #[.slice A n c] w fun e w'=>e=.returned (.int .i64 (upE rs))/\Below w.heap.size w w':=by
 have K1:=Lh (FV _ Hq ncB A rs n c w hn (by omega) h (fun r hr w' hb=>Zbc (hl r hr) w' (hG.below hb)))
 have K2:=Lh (fun (w':World) (hb:Below w.heap.size w w')=>FV _ Hr ngB A rs n c w' hn (by omega) (h.below hb) (fun r hr w'' hb'=>Zbd (hl r hr) w'' ((hG.below hb).below hb')))
 have HV:Hid (upE rs=if rs.any ncB=true then 1 else if rs.any ngB=true then 2 else 0):=rfl
 generalize upE rs=R at *;generalize rs.any ncB=b1 at *;generalize rs.any ngB=b2 at *;clear hn hn2 h hl;go_enter Tryz.func45,Tryz.ntmps45;go_wp2_with fail
 with_reducible refine K1.out.mono ?_
 rintro e w1 ⟨rfl,hb1⟩;cases b1 with
 | true=>
  go_wp2;go_ret;exact⟨ZN HV.out.symm,hb1⟩
 | false=>
  have K3:=Lh (K2.out w1 hb1);go_wp2_with fail
  with_reducible refine K3.out.mono ?_
  rintro e w2 ⟨rfl,hb2⟩;cases b2 with
  | true=>
   go_wp2;go_ret;exact⟨ZN HV.out.symm,bto hb1 hb2⟩
  | false=>
   go_wp2;go_ret;exact⟨ZN HV.out.symm,bto hb1 hb2⟩
def isS (v u p:List UInt8):List UInt8×Int:=if p=[]∨u=[] then (p,0) else if val v=0 then ([],10) else (canon (YB (val p*val u) (val v)),0)
theorem Cf {v u p:List UInt8} (hv:v.length<=100000) (hu:u.length<=100000) (hp:p.length<=100000):Ret 177 #[.agg #[.string ⟨v.toArray⟩,.string ⟨u.toArray⟩],.string ⟨p.toArray⟩] (.tuple #[.string ⟨(isS v u p).1.toArray⟩,.int .i64 (isS v u p).2]):=fun w hG=>by
 have hb0:=Zd w (.cells #[.string ⟨v.toArray⟩,.string ⟨u.toArray⟩] 183);have x0:=Z9.new w (.string ⟨v.toArray⟩) (.string ⟨u.toArray⟩) 183;have q0:=x0.c0;have q1:=x0.c1;have C1:=Lh (JW (l:=p) (l':=u) (by omega) (by omega) rfl)
 have hml:=ZG p u
 by_cases g1:p=[]
 ·subst g1;have e0:isS v u []=([],0):=if_pos (.inl rfl);rw[e0];clear hml C1 e0;go_enter Tryz.func177,Tryz.ntmps177;go_wp2;go_ret2;exact⟨rfl,hb0⟩
 have b1:(p==[])=false:=by rw[Bn];exact g1
 have b2:p.isEmpty=false:=by rw[List.isEmpty_eq_false_iff];exact g1
 by_cases g2:u=[]
 ·subst g2;have e0:isS v [] p=(p,0):=if_pos (.inr rfl);rw[e0];clear hml C1 e0 g1;go_enter Tryz.func177,Tryz.ntmps177;go_wp2;go_ret2;exact⟨rfl,hb0⟩
 have b3:(u==[])=false:=by rw[Bn];exact g2
 have b4:u.isEmpty=false:=by rw[List.isEmpty_eq_false_iff];exact g2
 by_cases g3:val v=0
 ·have e0:isS v u p=([],10):=by unfold isS;rw[if_neg (fun h=>h.elim g1 g2),if_pos g3]
  rw[e0];have C2:=Lh (fun w'=>OT (canon (val p*val u)) v w' (by omega) (by omega) g3)
  clear hml e0 g1 g2 g3;generalize canon (val p*val u)=M at *;go_enter Tryz.func177,Tryz.ntmps177;go_wp2_with fail;refine Zm (by kernel_rfl) (by kernel_rfl) ?_
  iterate 2
   refine Zb _ (fun _=>rfl) (fun ρ w hw=>by go_simp;try with_reducible rfl) ?_
   simp only[Act.put,StT,StZ,StS,Nat.reduceAdd]
  refine Zb _ (fun _=>rfl) (fun ρ w hw=>by have q1:=(x0.below hw).c1;go_simp;try with_reducible rfl) ?_
  simp only[Act.put,StT,StZ,StS,Nat.reduceAdd];refine Zl _ _ _ (fun _=>rfl) (fun ρ w hw=>by go_simp;try with_reducible rfl) (fun w hw=>C1.out.of hG (bto hb0 hw)) ?_
  simp only[Act.put,StT,StZ,StS,Nat.reduceAdd];refine Zb _ (fun _=>rfl) (fun ρ w hw=>by go_simp;try with_reducible rfl) ?_
  simp only[Act.put,StT,StZ,StS,Nat.reduceAdd];refine Zb _ (fun _=>rfl) (fun ρ w hw=>by have q0:=(x0.below hw).c0;go_simp;try with_reducible rfl) ?_
  simp only[Act.put,StT,StZ,StS,Nat.reduceAdd];refine Zl _ _ _ (fun _=>rfl) (fun ρ w hw=>by go_simp;try with_reducible rfl) (fun w hw=>C2.out w) ?_
  iterate 7
   simp only[Act.put,StT,StZ,StS,Nat.reduceAdd];refine Zb _ (fun _=>rfl) (fun ρ w hw=>by go_simp;try with_reducible rfl) ?_
  simp only[Act.put,StT,StZ,StS,Nat.reduceAdd];refine Zu (fun ρ w9 hF=>?_)
  have hb9:=bto hb0 hF.below;clear hF;go_wp2;go_ret2;exact⟨rfl,hb9⟩
 ·have e0:isS v u p=(canon (YB (val p*val u) (val v)),0):=by unfold isS;rw[if_neg (fun h=>h.elim g1 g2),if_neg g3]
  rw[e0];have C2:=Lh (TI (l:=canon (val p*val u)) (l':=v) (by omega) (by omega) g3 (by rw[Zg]) rfl)
  clear hml e0 g1 g2 g3;generalize Wy (val (canon (val p*val u))) (val v)=R at *;generalize YB (val p*val u) (val v)=Q at *;generalize canon (val p*val u)=M at *;go_enter Tryz.func177,Tryz.ntmps177;go_wp2_with fail;refine Zm (by kernel_rfl) (by kernel_rfl) ?_
  iterate 2
   refine Zb _ (fun _=>rfl) (fun ρ w hw=>by go_simp;try with_reducible rfl) ?_
   simp only[Act.put,StT,StZ,StS,Nat.reduceAdd]
  refine Zb _ (fun _=>rfl) (fun ρ w hw=>by have q1:=(x0.below hw).c1;go_simp;try with_reducible rfl) ?_
  simp only[Act.put,StT,StZ,StS,Nat.reduceAdd];refine Zl _ _ _ (fun _=>rfl) (fun ρ w hw=>by go_simp;try with_reducible rfl) (fun w hw=>C1.out.of hG (bto hb0 hw)) ?_
  simp only[Act.put,StT,StZ,StS,Nat.reduceAdd];refine Zb _ (fun _=>rfl) (fun ρ w hw=>by go_simp;try with_reducible rfl) ?_
  simp only[Act.put,StT,StZ,StS,Nat.reduceAdd];refine Zb _ (fun _=>rfl) (fun ρ w hw=>by have q0:=(x0.below hw).c0;go_simp;try with_reducible rfl) ?_
  simp only[Act.put,StT,StZ,StS,Nat.reduceAdd];refine Zl _ _ _ (fun _=>rfl) (fun ρ w hw=>by go_simp;try with_reducible rfl) (fun w hw=>C2.out.of hG (bto hb0 hw)) ?_
  iterate 7
   simp only[Act.put,StT,StZ,StS,Nat.reduceAdd];refine Zb _ (fun _=>rfl) (fun ρ w hw=>by go_simp;try with_reducible rfl) ?_
  simp only[Act.put,StT,StZ,StS,Nat.reduceAdd];refine Zu (fun ρ w9 hF=>?_)
  have hb9:=bto hb0 hF.below;clear hF;go_wp2;go_ret2;exact⟨rfl,hb9⟩
def caS (v u b:List UInt8):List UInt8×Int:=if val u<val b then ([],15) else if b=[] then ([],0) else if val u=0 then ([],10) else (canon (YB (val v*val b) (val u)),0)
theorem FX {v u b:List UInt8} (hv:v.length<=100000) (hu:u.length<=100000) (hp:b.length<=100000):Ret 178 #[.agg #[.string ⟨v.toArray⟩,.string ⟨u.toArray⟩],.string ⟨b.toArray⟩] (.tuple #[.string ⟨(caS v u b).1.toArray⟩,.int .i64 (caS v u b).2]):=fun w hG=>by
 have hb0:=Zd w (.cells #[.string ⟨v.toArray⟩,.string ⟨u.toArray⟩] 183);have x0:=Z9.new w (.string ⟨v.toArray⟩) (.string ⟨u.toArray⟩) 183;have q1:=x0.c1;have C0:=Lh (Zv (l:=b) (l':=u) (by omega) (by omega) rfl)
 have C1:=Lh (JW (l:=v) (l':=b) (by omega) (by omega) rfl)
 have hml:=ZG v b;have hz:0<Zx (val b) (val u)↔val u<val b:=by
  unfold Zx
  split
  ·constructor<;>omega
  ·split<;>constructor<;>omega
 generalize Zx (val b) (val u)=c at *
 by_cases g0:val u<val b
 ·have e0:caS v u b=([],15):=if_pos g0;rw[e0];have e1:decide (0<c)=true:=Dt (hz.2 g0);clear hml C1 e0 g0 hz;go_enter Tryz.func178,Tryz.ntmps178;go_wp2_with fail
  with_reducible refine (C0.out.of hG hb0).mono ?_
  rintro e w1 ⟨rfl,hb1⟩;go_wp2;go_ret2;exact⟨rfl,bto hb0 hb1⟩
 have e1:decide (0<c)=false:=Df (fun h=>g0 (hz.1 h))
 clear hz
 by_cases g1:b=[]
 ·subst g1;have e0:caS v u []=([],0):=by unfold caS;rw[if_neg g0,if_pos rfl]
  rw[e0];clear hml C1 e0 g0;go_enter Tryz.func178,Tryz.ntmps178;go_wp2_with fail
  with_reducible refine (C0.out.of hG hb0).mono ?_
  rintro e w1 ⟨rfl,hb1⟩;go_wp2;go_ret2;exact⟨rfl,bto hb0 hb1⟩
 have b1:(b==[])=false:=by rw[Bn];exact g1
 have b2:b.isEmpty=false:=by rw[List.isEmpty_eq_false_iff];exact g1
 by_cases g3:val u=0
 ·have e0:caS v u b=([],10):=by unfold caS;rw[if_neg g0,if_neg g1,if_pos g3]
  rw[e0];have C2:=Lh (fun w'=>OT (canon (val v*val b)) u w' (by omega) (by omega) g3)
  clear hml e0 g0 g1 g3;generalize canon (val v*val b)=M at *;go_enter Tryz.func178,Tryz.ntmps178;go_wp2_with fail
  with_reducible refine (C0.out.of hG hb0).mono ?_
  rintro e w1 ⟨rfl,hb1⟩;have x0:=x0.below hb1;replace hb0:=bto hb0 hb1;clear hb1;go_wp2_with fail;refine Zm (by kernel_rfl) (by kernel_rfl) ?_
  refine Zb _ (fun _=>rfl) (fun ρ w hw=>by go_simp;try with_reducible rfl) ?_
  simp only[Act.put,StT,StZ,StS,Nat.reduceAdd];refine Zb _ (fun _=>rfl) (fun ρ w hw=>by have q0:=(x0.below hw).c0;go_simp;try with_reducible rfl) ?_
  simp only[Act.put,StT,StZ,StS,Nat.reduceAdd];refine Zb _ (fun _=>rfl) (fun ρ w hw=>by go_simp;try with_reducible rfl) ?_
  simp only[Act.put,StT,StZ,StS,Nat.reduceAdd];refine Zl _ _ _ (fun _=>rfl) (fun ρ w hw=>by go_simp;try with_reducible rfl) (fun w hw=>C1.out.of hG (bto hb0 hw)) ?_
  simp only[Act.put,StT,StZ,StS,Nat.reduceAdd];refine Zb _ (fun _=>rfl) (fun ρ w hw=>by go_simp;try with_reducible rfl) ?_
  simp only[Act.put,StT,StZ,StS,Nat.reduceAdd];refine Zb _ (fun _=>rfl) (fun ρ w hw=>by have q1:=(x0.below hw).c1;go_simp;try with_reducible rfl) ?_
  simp only[Act.put,StT,StZ,StS,Nat.reduceAdd];refine Zl _ _ _ (fun _=>rfl) (fun ρ w hw=>by go_simp;try with_reducible rfl) (fun w hw=>C2.out w) ?_
  iterate 7
   simp only[Act.put,StT,StZ,StS,Nat.reduceAdd];refine Zb _ (fun _=>rfl) (fun ρ w hw=>by go_simp;try with_reducible rfl) ?_
  simp only[Act.put,StT,StZ,StS,Nat.reduceAdd];refine Zu (fun ρ w9 hF=>?_)
  have hb9:=bto hb0 hF.below;clear hF;go_wp2;go_ret2;exact⟨rfl,hb9⟩
 ·have e0:caS v u b=(canon (YB (val v*val b) (val u)),0):=by unfold caS;rw[if_neg g0,if_neg g1,if_neg g3]
  rw[e0];have C2:=Lh (TI (l:=canon (val v*val b)) (l':=u) (by omega) (by omega) g3 (by rw[Zg]) rfl)
  clear hml e0 g0 g1 g3;generalize Wy (val (canon (val v*val b))) (val u)=R at *;generalize YB (val v*val b) (val u)=Q at *;generalize canon (val v*val b)=M at *;go_enter Tryz.func178,Tryz.ntmps178;go_wp2_with fail
  with_reducible refine (C0.out.of hG hb0).mono ?_
  rintro e w1 ⟨rfl,hb1⟩;have x0:=x0.below hb1;replace hb0:=bto hb0 hb1;clear hb1;go_wp2_with fail;refine Zm (by kernel_rfl) (by kernel_rfl) ?_
  refine Zb _ (fun _=>rfl) (fun ρ w hw=>by go_simp;try with_reducible rfl) ?_
  simp only[Act.put,StT,StZ,StS,Nat.reduceAdd];refine Zb _ (fun _=>rfl) (fun ρ w hw=>by have q0:=(x0.below hw).c0;go_simp;try with_reducible rfl) ?_
  simp only[Act.put,StT,StZ,StS,Nat.reduceAdd];refine Zb _ (fun _=>rfl) (fun ρ w hw=>by go_simp;try with_reducible rfl) ?_
  simp only[Act.put,StT,StZ,StS,Nat.reduceAdd];refine Zl _ _ _ (fun _=>rfl) (fun ρ w hw=>by go_simp;try with_reducible rfl) (fun w hw=>C1.out.of hG (bto hb0 hw)) ?_
  simp only[Act.put,StT,StZ,StS,Nat.reduceAdd];refine Zb _ (fun _=>rfl) (fun ρ w hw=>by go_simp;try with_reducible rfl) ?_
  simp only[Act.put,StT,StZ,StS,Nat.reduceAdd];refine Zb _ (fun _=>rfl) (fun ρ w hw=>by have q1:=(x0.below hw).c1;go_simp;try with_reducible rfl) ?_
  simp only[Act.put,StT,StZ,StS,Nat.reduceAdd];refine Zl _ _ _ (fun _=>rfl) (fun ρ w hw=>by go_simp;try with_reducible rfl) (fun w hw=>C2.out.of hG (bto hb0 hw)) ?_
  iterate 7
   simp only[Act.put,StT,StZ,StS,Nat.reduceAdd];refine Zb _ (fun _=>rfl) (fun ρ w hw=>by go_simp;try with_reducible rfl) ?_
  simp only[Act.put,StT,StZ,StS,Nat.reduceAdd];refine Zu (fun ρ w9 hF=>?_)
  have hb9:=bto hb0 hF.below;clear hF;go_wp2;go_ret2;exact⟨rfl,hb9⟩
theorem Zr.trans {X:Nat->Prop} {w w1 w2:World} (h:Zr X w w1) (h2:Zr X w1 w2):Zr X w w2:=
 ⟨h2.os.trans h.os,h2.tape.trans h.tape,h2.output.trans h.output,Nt h.size h2.size,fun k hk hx=>(h2.block k (Nat.lt_of_lt_of_le hk h.size) hx).trans (h.block k hk hx)⟩
theorem Zr.of_below {X:Nat->Prop} {w w':World} (h:Below w.heap.size w w'):Zr X w w':=⟨h.os,h.tape,h.output,h.size,fun k hk _=>h.block k hk⟩
theorem Zr.refl (X:Nat->Prop) (w:World):Zr X w w:=⟨rfl,rfl,rfl,Nl _,fun _ _ _=>rfl⟩
theorem ZR {X:Nat->Prop} {g:Nat} (hg:X g):∀(vs:List Value) (o:Nat) (w:World),Zr X w (w.setCells g o vs)
 | [],_,w=>Zr.refl X w
 | v::r,o,w=>by
  have h1:Zr X w (w.setCell ⟨g,o,none⟩ v):=⟨rfl,rfl,rfl,by simp,fun k _ hx=>Below.heap_setCell w ⟨g,o,none⟩ v k (fun e=>hx (by rw[show k=g from e];exact hg))⟩
  exact h1.trans (ZR hg r (o+1) _)
theorem BO {B:Nat} {a w:World} (h:Below B a w):Below B a w.drew:=⟨h.os,h.tape,h.output,h.size,h.block⟩
theorem ZF (w:World) (o:Obj):(w.alloc o).heap[w.heap.size]?=some o:=by simp[World.alloc,-World.alloc_eq]
def Xt (cs:Array Value) (o:Nat):List Value->Array Value
 | []=>cs
 | v::r=>Xt (cs.setIfInBounds o v) (o+1) r
theorem PV:∀(vs:List Value) (cs:Array Value) (o:Nat),(Xt cs o vs).size=cs.size
 | [],_,_=>rfl
 | v::r,cs,o=>by unfold Xt;rw[PV r];simp
theorem Xi.refl {w:World} {b:Nat} {ob:Obj} (h:w.heap[b]?=some ob):Xi w w b ob:=⟨rfl,rfl,rfl,rfl,h,fun _ _=>rfl⟩
theorem Xi.trans {w w1 w2:World} {b:Nat} {o1 o2:Obj} (h:Xi w w1 b o1) (k:Xi w1 w2 b o2):Xi w w2 b o2:=
 ⟨k.os.trans h.os,k.tape.trans h.tape,k.output.trans h.output,k.size.trans h.size,k.new,fun j hj=>(k.old j hj).trans (h.old j hj)⟩
theorem Ti (b:Nat) (t:TypeId):∀(vs:List Value) (o:Nat) (cs:Array Value) (w:World),w.heap[b]?=some (.cells cs t (0,0))->Xi w (w.setCells b o vs) b (.cells (Xt cs o vs) t (0,0))
 | [],_,_,_,h=>Xi.refl h
 | v::r,o,cs,w,h=>by
  have h1:=JY w b o cs v t h;exact h1.trans (Ti b t r (o+1) _ _ h1.new)
section
variable {P:Program} {ops:Array Oper} {md:Region.Mode} {tch:Nat->List Nat} {C:World->Prop} {Q:Act->Fx->Prop} {o:Oper} {rest:List Oper} {i:Nat} {a:Act} {F:Fx}
theorem Xn (b j:Nat) (cs:Array Value) (vs:List Value) (t:TypeId) (hp:F b=some (.cells cs t (0,0))) (ht:i∈tch b)
  (hwt:∀j oj,j∈tch b->j≠i->ops[j]?=some oj->Xm md o j∨Xm md oj i) (hw:Region.wanted o (yielded ops a.tmps)=true)
  (h:∀w,C w->(∀m,w.cell? ⟨b,m,none⟩=cs[m]?)->(∀m,w.frozen? ⟨b,m,none⟩=false)->(execOp a.eval o).run P w=.ok .skip (w.setCells b j vs))
  (hn:Yz P ops md tch C Q rest (i+1) (a.put o.dst undef) (fun k=>if k=b then some (.cells (Xt cs j vs) t (0,0)) else F k)):Yz P ops md tch C Q (o::rest) i a F:=
 ⟨.put b (.cells cs t (0,0)) (.cells (Xt cs j vs) t (0,0)),hp,⟨⟨ht,hwt⟩,hw,fun w hc hb=>
  ⟨_,h w hc (fun m=>Zh hb m) (fun m=>Zq hb m),Ti b t vs j cs w hb⟩⟩,hn⟩
end
theorem ZK {P:Program} {e:Operand->Value} {o:Oper} {w:World} (ty:TypeId) (x:Operand) (ho:o.op=.load ty x) (b k:Nat) (hx:e x=.pointer (some ⟨b,k,none⟩)) (cs:List Value) (d:TypeDesc) (hc:w.rangeAt b k cs)
  (hu:P.underlying ty=some d) (hd:d.isRow=true) (hi:(P.info? ty).map (·.size)=some cs.length):(execOp e o).run P w=.ok (.value (.agg cs.toArray)) w:=by
 unfold execOp;simp only[ho,hx,Instr.loadAt,Instr.sureAddr,Sem.run_bind,Sem.run_pure,Result.andThen_ok,run_loadVar_mid w b k ty cs d hc hu hd hi]
theorem ZQ {P:Program} {e:Operand->Value} {o:Oper} {w:World} (ty:TypeId) (x y:Operand) (ho:o.op=.store ty x y) (b k:Nat) (cells:Array Value) (hx:e x=.pointer (some ⟨b,k,none⟩)) (hy:e y=.agg cells)
  (ht:w.there b k cells.size) (hi:(P.info? ty).map (·.size)=some cells.size) (h1:cells.all (·.oneCell')=true):(execOp e o).run P w=.ok .skip (w.setCells b k cells.toList):=by
 unfold execOp;simp only[ho,hx,hy,Instr.storeAt,Instr.sureAddr,Sem.run_bind,Sem.run_pure,Result.andThen_ok,run_storeVar_mid w b k ty cells ht hi h1]
end Go.Proofs.YtpieeldbamklkaaGreatDoor
namespace Go.Proofs
open Go.Shelf
def Tryz.cloneLt_ren:Go.Shelf.Ren:=⟨fun|41=>58|n=>n,fun|22=>44|23=>130|4=>4|n=>n,fun|n=>n⟩
theorem Tryz.cloneLt:Go.Proofs.SlLaysE0.n41 Tryz.prog Tryz.cloneLt_ren:={
 mixed:=by kernel_rfl
 f41:=⟨Tryz.f58.name,by decide,Tryz.func58.trans (congrArg some (by kernel_rfl))⟩
 t4:=Tryz.underlying4
 a4:=Tryz.isAgg4
 z4:=Tryz.sizeOf4
 v4:=Tryz.zeroValue4
 t22:=Tryz.underlying44
 a22:=Tryz.isAgg44
 z22:=Tryz.sizeOf44
 v22:=Tryz.zeroValue44 }
end Go.Proofs
namespace Go.Proofs.YtpieeldbamklkaaGreatDoor
open Go.RowKit Num
theorem XZ (x:Lot) (xs:List Lot):Z8 (x::xs)=.string ⟨x.id.toArray⟩::.string ⟨x.ins.toArray⟩::.int .i64 x.acq::.int .i64 x.opn::.string ⟨x.q.toArray⟩::.string ⟨x.cost.toArray⟩::.string ⟨x.used.toArray⟩::Z8 xs:=rfl
def lcs (x:Lot):List Value:=[.string ⟨x.id.toArray⟩,.string ⟨x.ins.toArray⟩,.int .i64 x.acq,.int .i64 x.opn,.string ⟨x.q.toArray⟩,.string ⟨x.cost.toArray⟩,.string ⟨x.used.toArray⟩]
theorem Cg (x:Lot):(lcs x).length=7:=rfl
theorem Vk:∀{xs:List Lot} {i:Nat} {x:Lot},xs[i]?=some x->∀j,j<7->(Z8 xs)[i*7+j]?=(lcs x)[j]?
 | [],i,x,h=>by simp at h
 | y::xs,0,x,h=>by
  have:y=x:=by simpa using h
  subst this;intro j hj;rw[XZ,Nat.zero_mul,Nat.zero_add]
  match j,hj with
  | 0,_|1,_|2,_|3,_|4,_|5,_|6,_=>rfl
 | y::xs,i+1,x,h=>by
  intro j hj;have h1:=Vk (xs:=xs) (i:=i) (x:=x) (by simpa using h) j hj
  rw[XZ,show (i+1)*7+j=i*7+j+1+1+1+1+1+1+1 by omega]
  simpa using h1
theorem Qc:∀{xs:List Lot} {j:Nat} {u:Value},(Z8 xs)[j]?=some u->∃x,xs[j / 7]?=some x/\(lcs x)[j % 7]?=some u
 | [],j,u,h=>by simp[Z8] at h
 | y::xs,j,u,h=>by
  by_cases hj:j<7
  ·refine⟨y,by rw[Nat.div_eq_of_lt hj];rfl,?_⟩
   rw[Nat.mod_eq_of_lt hj,<-h]
   have:=Vk (xs:=y::xs) (i:=0) (x:=y) rfl j hj
   rw[Nat.zero_mul,Nat.zero_add] at this;exact this.symm
  ·obtain⟨k,rfl⟩:∃k,j=k+7:=⟨j-7,by omega⟩
   rw[XZ] at h;obtain⟨x,h1,h2⟩:=Qc (xs:=xs) (j:=k) (u:=u) (by simpa using h)
   exact⟨x,by rw[show (k+7) / 7=k / 7+1 by omega];simpa using h1,by rw[show (k+7) % 7=k % 7 by omega];exact h2⟩
theorem Qd:∀{xs:List Lot} {i:Nat} (y:Lot),i<xs.length->(((((((Z8 xs).set (i*7) (.string ⟨y.id.toArray⟩)).set (i*7+1) (.string ⟨y.ins.toArray⟩)).set (i*7+2) (.int .i64 y.acq)).set (i*7+3) (.int .i64 y.opn)).set (i*7+4) (.string ⟨y.q.toArray⟩)).set (i*7+5) (.string ⟨y.cost.toArray⟩)).set (i*7+6) (.string ⟨y.used.toArray⟩)=Z8 (xs.set i y)
 | [],i,y,h=>by simp at h
 | x::xs,0,y,_=>rfl
 | x::xs,i+1,y,h=>by
  have h1:=Qd (xs:=xs) (i:=i) y (by simpa using h)
  rw[XZ,show (i+1)*7=i*7+1+1+1+1+1+1+1 by omega]
  simp only[Nat.add_assoc,Nat.reduceAdd] at h1 ⊢
  simp only[show i*7+7=(i*7)+1+1+1+1+1+1+1 by omega,show i*7+8=(i*7+1)+1+1+1+1+1+1+1 by omega,show i*7+9=(i*7+2)+1+1+1+1+1+1+1 by omega,show i*7+10=(i*7+3)+1+1+1+1+1+1+1 by omega,
   show i*7+11=(i*7+4)+1+1+1+1+1+1+1 by omega,show i*7+12=(i*7+5)+1+1+1+1+1+1+1 by omega,show i*7+13=(i*7+6)+1+1+1+1+1+1+1 by omega,List.set_cons_succ]
  rw[h1];rfl
def YD (w:World) (g:Nat) (qs:List Lot):Prop:=∃cur:Array Value,w.heap[g]?=some (.cells cur 130 (0,0))/\cur.toList.take (qs.length*7)=Z8 qs/\qs.length*7<=cur.size
theorem Yd {w:World} {g o:Nat} {cur:Array Value} {t:TypeId} (v:Value) (h:w.heap[g]?=some (.cells cur t (0,0))):(w.setCell ⟨g,o,none⟩ v).heap[g]?=some (.cells (cur.setIfInBounds o v) t (0,0)):=by
 obtain⟨hlt,hk⟩:=Ag.1 h;show (w.heap.modify g _)[g]?=_;rw[Array.getElem?_eq_getElem (by rw[Array.size_modify];exact hlt),Array.getElem_modify_self,hk]
 rfl
section
variable {w w':World} {g b i:Nat} {qs:List Lot}
theorem YD.lt (h:YD w g qs):g<w.heap.size:=by obtain⟨cur,h,-⟩:=h;exact (Ag.1 h).1
theorem YD.below (h:YD w g qs) (hb:Below w.heap.size w w'):YD w' g qs:=by
 have hl:=h.lt;obtain⟨cur,h,h2⟩:=h;exact⟨cur,(hb.block g hl).trans h,h2⟩
theorem YD.keepX {X:Nat->Prop} (h:YD w g qs) (hb:Zr X w w') (hx:¬X g):YD w' g qs:=by
 have hl:=h.lt;obtain⟨cur,h,h2⟩:=h;exact⟨cur,(hb.block g hl hx).trans h,h2⟩
theorem YD.range {x:Lot} (h:YD w g qs) (hx:qs[i]?=some x):w.rangeAt g (i*7) (lcs x):=fun j v hv=>by
 obtain⟨cur,hh,ht,hs⟩:=h;have hi:=(Lg.1 hx).1;have hj:j<7:=(Lg.1 hv).1;have h1:=Vk hx j hj;rw[Zh hh,<-hv,<-h1,<-ht,List.getElem?_take,if_pos (by omega),Array.getElem?_toList]
theorem YD.there (h:YD w g qs) (hi:i<qs.length):w.there g (i*7) 7:=fun j hj=>by
 obtain⟨x,hx⟩:∃x,qs[i]?=some x:=⟨_,List.getElem?_eq_getElem hi⟩
 have h1:=h.range hx j _ (List.getElem?_eq_getElem (by rw[Cg];exact hj))
 obtain⟨cur,hh,-⟩:=h;exact⟨by rw[h1];rfl,Zq hh _⟩
theorem YD.cells {x:Lot} (h:YD w g qs) (hx:qs[i]?=some x):PN w g (i*7) x:=
 ⟨h.range hx 0 _ rfl,h.range hx 1 _ rfl,h.range hx 2 _ rfl,h.range hx 3 _ rfl,h.range hx 4 _ rfl,h.range hx 5 _ rfl,h.range hx 6 _ rfl⟩
theorem YD.lotAt (h:YD w g qs):Vw w (some ⟨g,0,none⟩) qs:=fun i t ht=>⟨g,0,rfl,h.lt,by rw[Nat.zero_add];exact h.cells ht⟩
theorem YD.set (h:YD w g qs) (y:Lot) (hi:i<qs.length):YD (w.setCells g (i*7) (lcs y)) g (qs.set i y):=by
 obtain⟨cur,hh,ht,hs⟩:=h;refine⟨_,Yd _ (Yd _ (Yd _ (Yd _ (Yd _ (Yd _ (Yd _ hh)))))),?_,by simpa using hs⟩
 rw[List.length_set];simp only[Array.toList_setIfInBounds,List.take_set,ht];exact Qd y hi
end
theorem MQ {w:World} {base n c:Nat} {A:Option Addr} {qs:List Lot} (h:w.ownsRow base 130 7 (.slice A n c) n (Z8 qs)) (hn:n=qs.length) (h0:0<n):∃g,A=some ⟨g,0,none⟩/\base<=g/\YD w g qs:=by
 rcases h.2 with ⟨hv,h1⟩|⟨g,cap,cur,hv,hb,hh,hcap,_,hsz,htk⟩
 ·omega
 ·injection hv with h1 _ h3
  subst h1 h3;refine⟨g,rfl,hb,cur,hh,by rw[<-hn];exact htk,by omega⟩
theorem Hs (A:Option Addr) (ps:List Lot) (n c:Nat) (w:World) (hn:ps.length=n) (h0:0<n) (hn2:n<=1000000) (h:Vw w A ps) :
  Calls Tryz.prog 58 #[.slice A n c] w fun e w'=>∃g cp,e=.returned (.slice (some ⟨g,0,none⟩) n cp)/\w.heap.size<=g/\YD w' g ps/\Below w.heap.size w w':=by
 obtain⟨x0,hx0⟩:∃x,ps[0]?=some x:=⟨_,List.getElem?_eq_getElem (by omega)⟩
 obtain⟨b,o,rfl,hbs,-⟩:=h 0 x0 hx0;obtain⟨i0,e0,e1,e2,e3⟩:=info_parts UQ;refine (AnyE.slices_Clone Tryz.cloneLt i0 _ 7 96 e0 e1 e2 e3 rfl (by decide) Tryz.sizeOf130 b o n c (Z8 ps) w (by rw[VS,hn]) (by unfold maxLen;omega) (by omega) (fun j u hu=>?_) (VT ps)).mono ?_
 ·obtain⟨x,h1,h2⟩:=Qc hu;obtain⟨b',o',hA,-,hc⟩:=h (j / 7) x h1;cases hA;have hlt:j % 7<7:=Nat.mod_lt _ (by decide)
  have ej:o+j=o+j / 7*7+j % 7:=by omega
  rw[ej];generalize j % 7=m at *
  match m,hlt with
  | 0,_=>cases h2;exact hc.c0
  | 1,_=>cases h2;exact hc.c1
  | 2,_=>cases h2;exact hc.c2
  | 3,_=>cases h2;exact hc.c3
  | 4,_=>cases h2;exact hc.c4
  | 5,_=>cases h2;exact hc.c5
  | 6,_=>cases h2;exact hc.c6
 ·rintro e w' ⟨v,rfl,hown,-,hb⟩;have hown':w'.ownsRow w.heap.size 130 7 v n (Z8 ps):=hown;obtain⟨B,cp,rfl⟩:∃A c,v=.slice A n c:=by
   rcases hown'.2 with ⟨hv,h1⟩|⟨g,cap,cur,hv,-⟩
   ·omega
   ·exact⟨_,_,hv⟩
  obtain⟨g,rfl,hg,hr⟩:=MQ hown' hn.symm h0;exact⟨g,cp,rfl,hg,hr,hb⟩
theorem Ht {xs:List Lot} {i j:Nat} {x y:Lot} (hi:xs[i]?=some x) (hj:xs[j]?=some y):((xs.set i y).set j x).Perm xs:=by
 obtain⟨hi1,hi2⟩:=Lg.1 hi;obtain⟨hj1,hj2⟩:=Lg.1 hj;rw[List.perm_iff_count];intro a
 by_cases hij:i=j
 ·subst hij
  have:x=y:=by rw[hi] at hj;exact Option.some.inj hj
  subst this;rw[List.set_set];congr 1;rw[<-hi2];exact List.set_getElem_self hi1
 ·rw[List.count_set (by simpa using hj1),List.count_set hi1,List.getElem_set_ne hij,hi2,hj2]
  have h1:(if x==a then 1 else 0)<=xs.count a:=by
   split
   ·rename_i h;rw[beq_iff_eq] at h;subst h;exact List.count_pos_iff.2 (Lm hi)
   ·exact Nat.zero_le _
  have h2:(if y==a then 1 else 0)<=xs.count a:=by
   split
   ·rename_i h;rw[beq_iff_eq] at h;subst h;exact List.count_pos_iff.2 (Lm hj)
   ·exact Nat.zero_le _
  generalize xs.count a=c at *
  by_cases e1:(x==a)=true<;>by_cases e2:(y==a)=true<;>simp only[e1,e2,if_true,if_false,Bool.false_eq_true] at *<;>omega
def MR (cs:Array Value) (qs:List Lot):Prop:=cs.toList.take (qs.length*7)=Z8 qs/\qs.length*7<=cs.size
theorem VU {α:Type} {xs:List α} {i:Nat} {x:α} (h:xs[i]?=some x):i<xs.length:=(Lg.1 h).1
theorem PW {w:World} {g i:Nat} {cs:Array Value} {qs:List Lot} {x:Lot} (h:MR cs qs) (hw:∀m,w.cell? ⟨g,m,none⟩=cs[m]?) (hx:qs[i]?=some x):w.rangeAt g (i*7) (lcs x):=fun j v hv=>by
 have hi:=VU hx;have hj:j<7:=VU hv;have h1:=Vk hx j hj;rw[hw,<-hv,<-h1,<-h.1,List.getElem?_take,if_pos (by omega),Array.getElem?_toList]
theorem PX {w:World} {g i:Nat} {cs:Array Value} {qs:List Lot} (h:MR cs qs) (hw:∀m,w.cell? ⟨g,m,none⟩=cs[m]?) (hf:∀m,w.frozen? ⟨g,m,none⟩=false) (hi:i<qs.length):w.there g (i*7) 7:=fun j hj=>by
 have:=h.2
 exact⟨by rw[hw,Array.getElem?_eq_getElem (by omega)];rfl,hf _⟩
theorem MR.set {i:Nat} {cs:Array Value} {qs:List Lot} (h:MR cs qs) (y:Lot) (hi:i<qs.length):MR (Xt cs (i*7) (lcs y)) (qs.set i y):=by
 refine⟨?_,by rw[PV,List.length_set];exact h.2⟩
 rw[List.length_set];simp only[Xt,lcs,Array.toList_setIfInBounds,List.take_set,h.1];exact Qd y hi
theorem YD.cs {w:World} {g:Nat} {qs:List Lot} (h:YD w g qs):∃cs,w.heap[g]?=some (.cells cs 130 (0,0))/\MR cs qs:=h
theorem YD.of {w:World} {g:Nat} {qs:List Lot} {cs:Array Value} (h:w.heap[g]?=some (.cells cs 130 (0,0))) (hc:MR cs qs):YD w g qs:=⟨cs,h,hc⟩
structure SAt (w0:World) (g:Nat) (xs:List Lot) (W:World) (ys:List Lot):Prop where
 row:YD W g ys
 perm:ys.Perm xs
 bw:Zr (fun k=>k=g) w0 W
theorem SAt.go {w0 W W':World} {g:Nat} {xs ys:List Lot} (h:SAt w0 g xs W ys) (hb:Below W.heap.size W W'):SAt w0 g xs W' ys:=
 ⟨h.row.below hb,h.perm,h.bw.trans (Zr.of_below hb)⟩
theorem SAt.len {w0 W:World} {g n:Nat} {xs ys:List Lot} (h:SAt w0 g xs W ys) (hn:xs.length=n):ys.length=n:=h.perm.length_eq.trans hn
theorem SAt.swap {w0 W W':World} {g i j:Nat} {xs ys:List Lot} {x y:Lot} {cs:Array Value} (h:SAt w0 g xs W ys) (hrc:MR cs ys) (hi:ys[i]?=some x) (hj:ys[j]?=some y)
  (hc:W'.heap[g]?=some (.cells (Xt (Xt cs (i*7) (lcs y)) (j*7) (lcs x)) 130 (0,0))) (hb:Zr (fun k=>k=g) W W'):SAt w0 g xs W' ((ys.set i y).set j x):=
 ⟨YD.of hc ((hrc.set y (VU hi)).set x (by rw[List.length_set];exact VU hj)),(Ht hi hj).trans h.perm,h.bw.trans hb⟩
structure Hu (w0:World) (g:Nat) (xs:List Lot) (f:Nat) (caps:Array Value) (cf:Lot->Lot->Int):Prop where
 enter:∀args w,(callFunc f args).run Tryz.prog w=.ok (.enter f args) w
 cmp:∀W x y,Zr (fun k=>k=g) w0 W->x∈xs->y∈xs->Calls Tryz.prog f (#[(Value.agg #[Value.string ⟨x.id.toArray⟩,Value.string ⟨x.ins.toArray⟩,Value.int .i64 x.acq,Value.int .i64 x.opn,Value.string ⟨x.q.toArray⟩,Value.string ⟨x.cost.toArray⟩,Value.string ⟨x.used.toArray⟩]),(Value.agg #[Value.string ⟨y.id.toArray⟩,Value.string ⟨y.ins.toArray⟩,Value.int .i64 y.acq,Value.int .i64 y.opn,Value.string ⟨y.q.toArray⟩,Value.string ⟨y.cost.toArray⟩,Value.string ⟨y.used.toArray⟩])]++caps) W fun e w'=>e=.returned (.int .i64 (cf x y))/\Below W.heap.size W w'
theorem Hu.at {w0 W W':World} {g i j f:Nat} {xs ys:List Lot} {caps:Array Value} {cf:Lot->Lot->Int} {x y:Lot} (H:Hu w0 g xs f caps cf) (h:SAt w0 g xs W ys) (hb:Below W.heap.size W W') (hi:ys[i]?=some x) (hj:ys[j]?=some y) :
  Calls Tryz.prog f (#[(Value.agg #[Value.string ⟨x.id.toArray⟩,Value.string ⟨x.ins.toArray⟩,Value.int .i64 x.acq,Value.int .i64 x.opn,Value.string ⟨x.q.toArray⟩,Value.string ⟨x.cost.toArray⟩,Value.string ⟨x.used.toArray⟩]),(Value.agg #[Value.string ⟨y.id.toArray⟩,Value.string ⟨y.ins.toArray⟩,Value.int .i64 y.acq,Value.int .i64 y.opn,Value.string ⟨y.q.toArray⟩,Value.string ⟨y.cost.toArray⟩,Value.string ⟨y.used.toArray⟩])]++caps) W' fun e w'=>e=.returned (.int .i64 (cf x y))/\Below W'.heap.size W' w':=
 H.cmp W' x y (h.bw.trans (Zr.of_below hb)) (h.perm.subset (Lm hi)) (h.perm.subset (Lm hj))
def OI (cf:Lot->Lot->Int) (ys:List Lot):Prop:=∀(i:Nat) (x y:Lot),ys[i]?=some x->ys[i+1]?=some y->¬cf y x<0
theorem Ul (x:Lot):#[Value.string ⟨x.id.toArray⟩,Value.string ⟨x.ins.toArray⟩,Value.int .i64 x.acq,Value.int .i64 x.opn,Value.string ⟨x.q.toArray⟩,Value.string ⟨x.cost.toArray⟩,Value.string ⟨x.used.toArray⟩].all (·.oneCell')=true:=all_oneCell_toArray (cs:=lcs x) (fun v hv=>by
 simp only[lcs,List.mem_cons,List.not_mem_nil,or_false] at hv
 rcases hv with rfl|rfl|rfl|rfl|rfl|rfl|rfl<;>rfl)
theorem Tj:(Tryz.prog.info? 130).map (·.size)=some 7:=by kernel_rfl
def ZaC (g:Nat) (l:List Nat):Nat->List Nat:=fun b=>if b=g then l else []
theorem Um {k:Nat} {z:Int} (hz:z=(k:Int)) (hk:k<=1000000):IntKind.i64.wrap z=(k:Int):=by
 subst hz;exact IntWalk.i64_in _ (by omega)
theorem WE.swapX {F':Fx} {g:Nat} {w w2:World} {X:Nat->Prop} (h:WE X w F' w2) (hX:∀k,X k->k=g):Zr (fun k=>k=g) w w2:=
 ⟨h.below.os,h.below.tape,h.below.output,h.below.size,fun k hk hn=>h.below.block k hk (fun hx=>hn (hX k hx))⟩
def Zbe (w0:World) (g:Nat) (xs ys:List Lot) (cf:Lot->Lot->Int) (e:Ending) (w':World):Prop:=e=.returned (.tuple #[])/\∃zs,SAt w0 g xs w' zs/\(OI cf ys->zs=ys)
theorem Zbf {w0 w:World} {g n c f:Nat} {caps:Array Value} {cf:Lot->Lot->Int} {xs ys:List Lot} (H:Hu w0 g xs f caps cf) (h:SAt w0 g xs w ys) (hn:xs.length=n) (hn2:n<=100000) (a b:Nat) (hab:a<=b) (hbn:b<=n) :
  Calls Tryz.prog 309 #[.slice (some ⟨g,0,none⟩) n c,.int .i64 (a:Int),.int .i64 (b:Int),.func (.func f) #[] caps] w (Zbe w0 g xs ys cf):=by
 have HS:=Lh h;have HN:=Lh hn;have hEn:=H.enter;have HZ:=Lh Tj;clear h hn;go_enter Tryz.func309,Tryz.ntmps309;go_wp2_with fail
 go_loopw [8,9] (fun iv _ wr=>∃(k:Nat) (zs:List Lot),k<=b+1/\a<k/\iv=.int .i64 (k:Int)/\Hid (SAt w0 g xs wr zs)/\Hid (OI cf ys->zs=ys)) (fun iv _ _=>b+1-(intOf iv).toNat)
 case atStart=>exact⟨a+1,ys,by omega,by omega,by go_num,HS.out,fun _=>rfl⟩
 case round=>
  clear HS;obtain⟨k,zs,hk,hak,rfl,HS,HO⟩:=hrel
  by_cases hkb:k<b
  rotate_left
  ·have e1:decide (k<b)=false:=Df hkb;have e2:decide ((k:Int)<(b:Int))=false:=Df (by omega)
   go_wp2
   go_end0
   exact⟨rfl,zs,HS.out,HO.out⟩
  have e1:decide (k<b)=true:=Dt hkb;have e2:decide ((k:Int)<(b:Int))=true:=Dt (by omega)
  go_wp2_with fail;clear e1 e2
  rename World=>wo
  go_loopw [9] (fun jv wr=>∃(j:Nat) (zs':List Lot),j<=k/\a<=j/\jv=.int .i64 (j:Int)/\Hid (SAt w0 g xs wr zs')/\Hid (OI cf ys->zs'=ys)) (fun jv _=>(intOf jv).toNat)
  case atStart=>exact⟨k,zs,Nl _,by omega,rfl,HS.out,HO.out⟩
  case round=>
   clear HS HO;obtain⟨j,zs',hjk,haj,rfl,HS,HO⟩:=hrel;have HR:=Lh HS.out.row
   by_cases hja:a<j
   rotate_left
   ·have e1:decide (a<j)=false:=Df hja;have e2:decide ((a:Int)<(j:Int))=false:=Df (by omega)
    go_wp2_with fail;refine Zm (by kernel_rfl) (by kernel_rfl) ?_
    iterate 4
     refine Zb _ (fun _=>rfl) (fun ρ wz hw=>by go_simp;try with_reducible rfl) ?_
     simp only[Act.put,StT,StZ,StS,Nat.reduceAdd]
    iterate 12
     refine Yb (fun _=>rfl) ?_
     simp only[Act.put,StT,StZ,StS,Nat.reduceAdd]
    refine Zb _ (fun _=>rfl) (fun ρ wz hw=>by go_simp;try with_reducible rfl) ?_
    simp only[Act.put,StT,StZ,StS,Nat.reduceAdd];intro ρ wq hF;dsimp only;replace HS:=Lh (HS.out.go hF.below);clear hF HR e1 e2;go_wp2;go_roundw
    case rel=>exact⟨k+1,zs',by omega,by omega,by go_num,HS.out,HO.out⟩
    case measure=>simp[intOf];omega
   obtain⟨j1,hj1⟩:∃j1,j=j1+1:=⟨j-1,by omega⟩
   have hjn:j<n:=by omega
   have hj1n:j1<n:=by omega
   have hw1:IntKind.i64.wrap ((j:Int)-1)=(j1:Int):=Um (by omega) (by omega)
   have hl:zs'.length=n:=HS.out.len HN.out;obtain⟨y,hy⟩:∃y,zs'[j]?=some y:=⟨_,List.getElem?_eq_getElem (by omega)⟩
   obtain⟨x,hx⟩:∃x,zs'[j1]?=some x:=⟨_,List.getElem?_eq_getElem (by omega)⟩
   have e1:decide (a<j)=true:=Dt hja;have e2:decide ((a:Int)<(j:Int))=true:=Dt (by omega)
   have HC:Hid (OI cf ys->¬cf y x<0):=fun ho=>by
    have ez:=HO.out ho;subst ez;exact ho j1 x y hx (by rw[<-hj1];exact hy)
   have HJ:=Lh hj1;clear hl hj1;go_wp2_with fail;refine Zm (by kernel_rfl) (by kernel_rfl) ?_
   iterate 7
    refine Zb _ (fun _=>rfl) (fun ρ wz hw=>by go_simp;try with_reducible rfl) ?_
    simp only[Act.put,StT,StZ,StS,Nat.reduceAdd]
   refine Zb (.pointer (some ⟨g,j*7,none⟩)) (fun _=>rfl) (fun ρ wz hw=>by go_simp;try with_reducible rfl) ?_
   simp only[Act.put,StT,StZ,StS,Nat.reduceAdd];refine Zb (.agg #[Value.string ⟨y.id.toArray⟩,Value.string ⟨y.ins.toArray⟩,Value.int .i64 y.acq,Value.int .i64 y.opn,Value.string ⟨y.q.toArray⟩,Value.string ⟨y.cost.toArray⟩,Value.string ⟨y.used.toArray⟩]) (fun _=>rfl) (fun ρ wz hw=>ZK 130 _ rfl g (j*7) rfl (lcs y) _ ((HR.out.below hw).range hy) Tryz.underlying130 rfl (by rw[HZ.out];rfl)) ?_
   iterate 2
    simp only[Act.put,StT,StZ,StS,Nat.reduceAdd];refine Zb _ (fun _=>rfl) (fun ρ wz hw=>by go_simp;try with_reducible rfl) ?_
   simp only[Act.put,StT,StZ,StS,Nat.reduceAdd];refine Zb (.int .i64 (j1:Int)) (fun _=>rfl) (fun ρ wz hw=>by go_simp;try with_reducible rfl) ?_
   simp only[Act.put,StT,StZ,StS,Nat.reduceAdd];refine Zb (.pointer (some ⟨g,j1*7,none⟩)) (fun _=>rfl) (fun ρ wz hw=>by go_simp;try with_reducible rfl) ?_
   simp only[Act.put,StT,StZ,StS,Nat.reduceAdd];refine Zb (.agg #[Value.string ⟨x.id.toArray⟩,Value.string ⟨x.ins.toArray⟩,Value.int .i64 x.acq,Value.int .i64 x.opn,Value.string ⟨x.q.toArray⟩,Value.string ⟨x.cost.toArray⟩,Value.string ⟨x.used.toArray⟩]) (fun _=>rfl) (fun ρ wz hw=>ZK 130 _ rfl g (j1*7) rfl (lcs x) _ ((HR.out.below hw).range hx) Tryz.underlying130 rfl (by rw[HZ.out];rfl)) ?_
   simp only[Act.put,StT,StZ,StS,Nat.reduceAdd];refine Zl _ _ _ (fun _=>rfl) (fun ρ wz hw=>by go_simp;try with_reducible rfl) (fun wz hw=>H.at HS.out hw hy hx) ?_
   iterate 2
    simp only[Act.put,StT,StZ,StS,Nat.reduceAdd];refine Zb _ (fun _=>rfl) (fun ρ wz hw=>by go_simp;try with_reducible rfl) ?_
   simp only[Act.put,StT,StZ,StS,Nat.reduceAdd];intro ρ wq hF;dsimp only;replace HS:=Lh (HS.out.go hF.below);clear hF HR e1 e2
   by_cases hc:cf y x<0
   rotate_left
   ·have e3:decide (cf y x<0)=false:=Df hc;clear HC;go_wp2;go_roundw
    case rel=>exact⟨k+1,zs',by omega,by omega,by go_num,HS.out,HO.out⟩
    case measure=>simp[intOf];omega
   have e3:decide (cf y x<0)=true:=Dt hc;go_wp2_with fail;clear e3;obtain⟨cs,hcs,hrc⟩:=HS.out.row.cs;obtain⟨F,hF⟩:∃F:Fx,F=fun k=>if k=g then some (.cells cs 130 (0,0)) else none:=⟨_,rfl⟩
   have fF:F g=some (.cells cs 130 (0,0)):=by rw[hF];exact if_pos rfl
   have hFF:∀b ob,F b=some ob->wq.heap[b]?=some ob:=fun b ob h=>by
    rw[hF] at h;dsimp only at h
    by_cases hg:b=g
    ·rw[if_pos hg] at h;rw[hg,hcs];exact h
    ·rw[if_neg hg] at h;cases h
   have hFX:∀k,F k≠none->k=g:=fun k hk=>by
    rw[hF] at hk;dsimp only at hk
    by_cases hg:k=g
    ·exact hg
    ·rw[if_neg hg] at hk;exact absurd rfl hk
   obtain⟨tch,htch⟩:∃tch,tch=ZaC g [9,13,15,17]:=⟨_,rfl⟩
   unfold ZaC at htch;have HFF:=Lh hFF;have HFX:=Lh hFX;clear hF hcs hFF hFX;refine Z0 tch F (by kernel_rfl) (by kernel_rfl) (by kernel_rfl) HFF.out ?_
   refine Zj _ rfl (fun wz hw=>by go_simp;try with_reducible rfl) ?_
   simp only[Act.put,StT,StZ,StS,Nat.reduceAdd];refine Zj _ rfl (fun wz hw=>by go_simp;try with_reducible rfl) ?_
   simp only[Act.put,StT,StZ,StS,Nat.reduceAdd];refine Zj _ rfl (fun wz hw=>by go_simp;try with_reducible rfl) ?_
   simp only[Act.put,StT,StZ,StS,Nat.reduceAdd];refine Zj _ rfl (fun wz hw=>by go_simp;try with_reducible rfl) ?_
   simp only[Act.put,StT,StZ,StS,Nat.reduceAdd];refine Zj (.int .i64 (j1:Int)) rfl (fun wz hw=>by go_simp;try with_reducible rfl) ?_
   simp only[Act.put,StT,StZ,StS,Nat.reduceAdd];refine Zj _ rfl (fun wz hw=>by go_simp;try with_reducible rfl) ?_
   simp only[Act.put,StT,StZ,StS,Nat.reduceAdd];refine Zj _ rfl (fun wz hw=>by go_simp;try with_reducible rfl) ?_
   simp only[Act.put,StT,StZ,StS,Nat.reduceAdd];refine Zj (.int .i64 (j1:Int)) rfl (fun wz hw=>by go_simp;try with_reducible rfl) ?_
   simp only[Act.put,StT,StZ,StS,Nat.reduceAdd];refine Zj (.pointer (some ⟨g,j1*7,none⟩)) rfl (fun wz hw=>by go_simp;try with_reducible rfl) ?_
   simp only[Act.put,StT,StZ,StS,Nat.reduceAdd];refine Xr g cs 130 (.agg #[Value.string ⟨x.id.toArray⟩,Value.string ⟨x.ins.toArray⟩,Value.int .i64 x.acq,Value.int .i64 x.opn,Value.string ⟨x.q.toArray⟩,Value.string ⟨x.cost.toArray⟩,Value.string ⟨x.used.toArray⟩]) fF (by simp[htch]) rfl (fun wz hw hc=>ZK 130 _ rfl g (j1*7) rfl (lcs x) _ (PW hrc hc hx) Tryz.underlying130 rfl (by rw[HZ.out];rfl)) ?_
   simp only[Act.put,StT,StZ,StS,Nat.reduceAdd];refine Zj _ rfl (fun wz hw=>by go_simp;try with_reducible rfl) ?_
   simp only[Act.put,StT,StZ,StS,Nat.reduceAdd];refine Zj _ rfl (fun wz hw=>by go_simp;try with_reducible rfl) ?_
   simp only[Act.put,StT,StZ,StS,Nat.reduceAdd];refine Zj (.pointer (some ⟨g,j*7,none⟩)) rfl (fun wz hw=>by go_simp;try with_reducible rfl) ?_
   simp only[Act.put,StT,StZ,StS,Nat.reduceAdd];refine Xr g cs 130 (.agg #[Value.string ⟨y.id.toArray⟩,Value.string ⟨y.ins.toArray⟩,Value.int .i64 y.acq,Value.int .i64 y.opn,Value.string ⟨y.q.toArray⟩,Value.string ⟨y.cost.toArray⟩,Value.string ⟨y.used.toArray⟩]) fF (by simp[htch]) rfl (fun wz hw hc=>ZK 130 _ rfl g (j*7) rfl (lcs y) _ (PW hrc hc hy) Tryz.underlying130 rfl (by rw[HZ.out];rfl)) ?_
   simp only[Act.put,StT,StZ,StS,Nat.reduceAdd];refine Zj (.pointer (some ⟨g,j*7,none⟩)) rfl (fun wz hw=>by go_simp;try with_reducible rfl) ?_
   simp only[Act.put,StT,StZ,StS,Nat.reduceAdd];refine Xn g (j*7) cs (lcs x) 130 fF (by simp[htch]) (fun j oj hj=>ZJ (l:=[9,13,15,17]) (by kernel_rfl) j oj (by simpa [htch] using hj)) rfl (fun wz hw hc hf=>ZQ 130 _ _ rfl g (j*7) #[Value.string ⟨x.id.toArray⟩,Value.string ⟨x.ins.toArray⟩,Value.int .i64 x.acq,Value.int .i64 x.opn,Value.string ⟨x.q.toArray⟩,Value.string ⟨x.cost.toArray⟩,Value.string ⟨x.used.toArray⟩] rfl rfl (PX hrc hc hf (VU hy)) (by rw[HZ.out];rfl) (Ul x)) ?_
   simp only[Act.put,Nat.reduceAdd];refine Zj (.pointer (some ⟨g,j1*7,none⟩)) rfl (fun wz hw=>by go_simp;try with_reducible rfl) ?_
   simp only[Act.put,StT,StZ,StS,Nat.reduceAdd];have fF2:(fun kb=>if kb=g then some (Obj.cells (Xt cs (j*7) (lcs x)) 130 (0,0)) else F kb) g=some (.cells (Xt cs (j*7) (lcs x)) 130 (0,0)):=if_pos rfl
   refine Xn g (j1*7) (Xt cs (j*7) (lcs x)) (lcs y) 130 fF2 (by simp[htch]) (fun j oj hj=>ZJ (l:=[9,13,15,17]) (by kernel_rfl) j oj (by simpa [htch] using hj)) rfl (fun wz hw hc hf=>ZQ 130 _ _ rfl g (j1*7) #[Value.string ⟨y.id.toArray⟩,Value.string ⟨y.ins.toArray⟩,Value.int .i64 y.acq,Value.int .i64 y.opn,Value.string ⟨y.q.toArray⟩,Value.string ⟨y.cost.toArray⟩,Value.string ⟨y.used.toArray⟩] rfl rfl (PX (hrc.set x (VU hy)) hc hf (by rw[List.length_set];exact VU hx)) (by rw[HZ.out];rfl) (Ul y)) ?_
   simp only[Act.put,Nat.reduceAdd];refine Y9 (fun w2 hF2=>?_)
   have hSw:=Lh (HS.out.swap (W':=w2) hrc hy hx (hF2.box g _ (if_pos rfl)) (hF2.swapX HFX.out));clear hF2 HFF HFX htch fF fF2 hrc HS;have HO2:Hid (OI cf ys->(zs'.set j x).set j1 y=ys):=fun ho=>absurd hc (by have:=HC.out ho;omega)
   clear HO HC hc;go_wp2;go_roundw
   case rel=>exact⟨j1,_,by have:=HJ.out;omega,by have:=HJ.out;omega,(by first|rfl|go_num),hSw.out,HO2.out⟩
   case measure=>simp[intOf];have:=HJ.out;omega
def BP (w0:World) (g:Nat) (xs ys:List Lot) (n:Nat) (cf:Lot->Lot->Int) (e:Ending) (w':World):Prop:=e=.returned (.tuple #[])/\∃zs,SAt w0 g xs w' zs/\(n<=20->OI cf ys->zs=ys)
end Go.Proofs.YtpieeldbamklkaaGreatDoor
namespace Go.Proofs.YtpieeldbamklkaaGreatDoorMono
open Go
def rd {α:Type}:Result α->Nat
 | .ok _ w=>w.drawn
 | .halt _ w=>w.drawn
theorem PY {α:Type}:∀(a:Ask α) (w:World),w.drawn<=(w.ask a).2.drawn
 | .done a,w=>Nl _
 | .ask what range k,w=>by
  unfold World.ask;simp only
  split
  ·exact PY (k 0) w
  ·exact Nt (Nat.le_succ _) (PY (k _) { w with drawn:=w.drawn+1 })
theorem PZ (w:World) (c:Sys):w.drawn<=(w.sys c).2.drawn:=by
 unfold World.sys;have h:=PY (Kernel.perform c w.os) w;generalize w.ask (Kernel.perform c w.os)=r at *;obtain⟨⟨r,os⟩,w'⟩:=r;cases r<;>first|exact Nl _|exact h
theorem QF (w:World) (a:Addr) (n:Nat):(w.freeze a n).drawn=w.drawn:=by
 unfold World.freeze;split<;>rfl
theorem Hv {p:Program} {w w':World} {t:Addr} {u:TypeId} {k:Addr} {v:Value} {b:Bool} {l:List Addr} (h:w.viewStore p t u k v b=.ok (w',l)):w'.drawn=w.drawn:=by
 unfold World.viewStore at h;simp only[bind,Except.bind,pure,Except.pure] at h
 repeat' (first|contradiction|split at h)
 all_goals first|contradiction|(simp at h;obtain⟨rfl,-⟩:=h;rfl)|skip
theorem MS {p:Program} {w w':World} {a:Addr} {v:Value} {b:Bool} {l:List Addr} (h:w.farStore p a v b=.ok (w',l)):w'.drawn=w.drawn:=by
 unfold World.farStore at h
 split at h
 ·split at h
  ·rename_i h2;simp at h;obtain⟨rfl,rfl⟩:=h;exact Hv h2
  ·cases h
 ·cases h
theorem Z2 {α:Type} (p:Program):∀(s:Sem α) (w:World),w.drawn<=rd (s.run p w)
 | .pure a,w=>Nl _
 | .load m a k,w=>by
  unfold Sem.run
  split
  ·exact Z2 p _ w
  ·split
   ·exact Z2 p _ w
   ·exact Nl _
 | .store m a v k,w=>by
  unfold Sem.run
  split<;>first|exact Nl _|skip
  all_goals first|contradiction|skip
  all_goals (try (rename_i h;cases h))
  all_goals split
  all_goals first
   | (split<;>first|exact Nl _|(refine Nt (Nat.le_of_eq ?_) (Z2 p _ _);rfl))
   | (
    split
    ·rename_i h;exact Nt (Nat.le_of_eq (MS h).symm) (Z2 p _ _)
    ·exact Nl _)
 | .new o k,w=>by unfold Sem.run;exact Z2 p _ { w with heap:=w.heap.push o }
 | .shape r k,w=>by unfold Sem.run;exact Z2 p _ w
 | .freeze a n k,w=>by
  unfold Sem.run
  have:=Z2 p k (w.freeze a n)
  rwa [QF] at this
 | .frozen a k,w=>by unfold Sem.run;exact Z2 p _ w
 | .getObj r k,w=>by
  unfold Sem.run
  split
  ·exact Nl _
  ·exact Z2 p _ w
  ·exact Nl _
 | .setObj r o k,w=>by
  unfold Sem.run
  split
  ·exact Nl _
  ·exact Z2 p k { w with heap:=w.heap.setIfInBounds r o }
  ·exact Nl _
 | .choose q k,w=>by
  unfold Sem.run
  split
  ·exact Z2 p _ w
  ·exact Nt (Nat.le_succ _) (Z2 p _ { w with drawn:=w.drawn+1 })
 | .sys c k,w=>by
  unfold Sem.run;exact Nt (PZ w c) (Z2 p _ _)
 | .program k,w=>by unfold Sem.run;exact Z2 p _ w
 | .mark m k,w=>by unfold Sem.run;exact Z2 p k w
 | .halt h,w=>Nl _
theorem ZI {α:Type} (p:Program):∀(s:Sem α) (w:World) (es:Array Event),w.drawn<=rd (s.runT p w es).1
 | .pure a,w,_=>Nl _
 | .load m a k,w,es=>by
  unfold Sem.runT
  split
  ·exact ZI p _ w _
  ·split
   ·exact ZI p _ w _
   ·exact Nl _
 | .store m a v k,w,es=>by
  unfold Sem.runT
  split<;>first|exact Nl _|skip
  all_goals first|contradiction|skip
  all_goals (try (rename_i h;cases h))
  all_goals split
  all_goals first
   | (split<;>first|exact Nl _|(refine Nt (Nat.le_of_eq ?_) (ZI p _ _ _);rfl))
   | (
    split
    ·rename_i h;exact Nt (Nat.le_of_eq (MS h).symm) (ZI p _ _ _)
    ·exact Nl _)
 | .new o k,w,es=>by unfold Sem.runT;exact ZI p _ { w with heap:=w.heap.push o } _
 | .shape r k,w,es=>by unfold Sem.runT;exact ZI p _ w _
 | .freeze a n k,w,es=>by
  unfold Sem.runT
  have:=ZI p k (w.freeze a n) es
  rwa [QF] at this
 | .frozen a k,w,es=>by unfold Sem.runT;exact ZI p _ w _
 | .getObj r k,w,es=>by
  unfold Sem.runT
  split
  ·exact Nl _
  ·exact ZI p _ w _
  ·exact Nl _
 | .setObj r o k,w,es=>by
  unfold Sem.runT
  split
  ·exact Nl _
  ·exact ZI p k { w with heap:=w.heap.setIfInBounds r o } _
  ·exact Nl _
 | .choose q k,w,es=>by
  unfold Sem.runT
  split
  ·exact ZI p _ w _
  ·exact Nt (Nat.le_succ _) (ZI p _ { w with drawn:=w.drawn+1 } _)
 | .sys c k,w,es=>by
  unfold Sem.runT;exact Nt (PZ w c) (ZI p _ _ _)
 | .program k,w,es=>by unfold Sem.runT;exact ZI p _ w _
 | .mark m k,w,es=>by unfold Sem.runT;exact ZI p k w _
 | .halt h,w,es=>Nl _
theorem YT {α:Type} {p:Program} {s:Sem α} {w w':World} {a:α} (h:s.run p w=.ok a w'):w.drawn<=w'.drawn:=by
 have:=Z2 p s w;rw[h] at this;exact this
theorem run_halt {α:Type} {p:Program} {s:Sem α} {w w':World} {a:Halt} (h:s.run p w=.halt a w'):w.drawn<=w'.drawn:=by
 have:=Z2 p s w;rw[h] at this;exact this
theorem Ch {α:Type} {p:Program} {s:Sem α} {w w':World} {a:α} {es es':Array Event} (h:s.runT p w es=(.ok a w',es')):w.drawn<=w'.drawn:=by
 have:=ZI p s w es;rw[h] at this;exact this
theorem Hw {α:Type} {p:Program} {s:Sem α} {w w':World} {a:Halt} {es es':Array Event} (h:s.runT p w es=(.halt a w',es')):w.drawn<=w'.drawn:=by
 have:=ZI p s w es;rw[h] at this;exact this
theorem KO {α:Type} {p:Program} {s:Sem α} {w w':World} {a:α} {es:Array Event} (h:(s.runT p w es).1=.ok a w'):w.drawn<=w'.drawn:=by
 have:=ZI p s w es;rw[h] at this;exact this
theorem FY {α:Type} {p:Program} {s:Sem α} {w w':World} {a:Halt} {es:Array Event} (h:(s.runT p w es).1=.halt a w'):w.drawn<=w'.drawn:=by
 have:=ZI p s w es;rw[h] at this;exact this
def gw:GStep->World
 | .go _ w _=>w
 | .comm _ _ _ _ w _=>w
 | .spawn _ _ w _=>w
 | .count _ w _=>w
 | .timer _ _ w _=>w
 | .alone _ _ w _=>w
 | .newcoro _ _ _ w _=>w
 | .coroswitch _ _ _ w _=>w
 | .collect _ w _=>w
 | .watch _ w _=>w
 | .ended _ w _=>w
def gd (s:GStep):Nat:=(gw s).drawn
theorem VV (es:Array Event) (s:GStep):gd (GStep.after es s)=gd s:=by cases s<;>rfl
theorem MU {c:Prop} [Decidable c] {a b:GStep} {d:Nat} (h1:d<=gd a) (h2:d<=gd b):d<=gd (if c then a else b):=by split<;>assumption
theorem Wl (p:Program) (main:Bool) (fr:Frame) (callers:List Frame) (dying:Option Dying) (v:Value) (w:World):w.drawn<=gd (doReturn p main fr callers dying v w):=by
 unfold doReturn
 repeat' (first|exact Nl _|split)
theorem VE (fr:Frame) (m:String) (w:World):w.drawn<=gd (endThrow fr m w):=Nl _
theorem VW (p:Program) (fr:Frame) (v:Value) (w:World):w.drawn<=gd (endPrinting p fr v w):=by
 unfold endPrinting;simp only
 split<;>exact Nl _
theorem TL (p:Program) (fr:Frame) (callers:List Frame) (dying:Option Dying) (m:String) (w:World):w.drawn<=gd (endFatal p fr callers dying m w):=by
 unfold endFatal;simp only
 split<;>first|exact YT ‹_› | exact run_halt ‹_›
theorem NP (w:World) (fd:Nat) (t:ByteArray) (o:Outcome):w.drawn<=gd (endWith w fd t o):=by
 unfold endWith;simp only;have h:=PZ w (.write fd t);generalize w.sys (.write fd t)=r at *;obtain⟨r,w'⟩:=r;cases r<;>(simp only;repeat' (first|exact h|split))
theorem SE (p:Program) (fr:Frame) (callers:List Frame) (dying:Option Dying) (d:Deferred) (w:World):w.drawn<=gd (callDeferred p fr callers dying d w):=by
 unfold callDeferred;refine MU (Nl _) ?_
 ·have h:=ZI p (invoke d.target d.args) w #[];generalize (invoke d.target d.args).runT p w #[]=r at *;obtain⟨r,es⟩:=r;simp only;rw[VV]
  repeat' (first|exact h|exact Nt h (TL ..)|exact Nt h (VE ..)|split)
theorem MV (p:Program) (main:Bool) (fr:Frame) (callers:List Frame) (dying:Option Dying) (w:World):w.drawn<=gd (unwind p main fr callers dying w):=by
 unfold unwind
 split
 ·rename_i block _ _ _;have h:=ZI p (Instr.takeDeferred block) w #[];generalize (Instr.takeDeferred block).runT p w #[]=r at *;obtain⟨r,es⟩:=r;simp only;rw[VV]
  repeat' (first|exact h|split)
 ·exact SE ..
 ·split
  ·exact Nl _
  ·repeat' (first|exact Nl _|exact VW .. | (exact YT ‹_›)|(exact run_halt ‹_›)|split)
  ·split
   ·exact Wl ..
   ·rename_i fn _;have h:=ZI p (results fn fr.tmps) w #[];generalize (results fn fr.tmps).runT p w #[]=r at *;obtain⟨r,es⟩:=r;simp only;rw[VV]
    repeat' (first|exact h|exact Nt h (Wl ..)|split)
theorem NQ (p:Program) (fr:Frame) (d:Dying) (f:Fatal) (w:World):w.drawn<=gd (writeOn p fr d f w):=by
 unfold writeOn;simp only
 split
 ·exact Nl _
 ·split<;>first|exact Ch ‹_› | exact Hw ‹_›
theorem FZ (p:Program) (fr:Frame) (d:Dying) (w:World):w.drawn<=gd (die p fr d w):=by
 unfold die
 split
 ·exact NQ ..
 ·split
  ·split
   ·exact Nl _
   ·exact NP ..
  ·simp only
   split
   ·exact Nl _
   ·split<;>first|exact YT ‹_› | exact run_halt ‹_›
   ·rename_i t recv name _;have h:=ZI p (invoke (.fn (.method name) #[]) #[.iface t recv]) w #[];generalize (invoke (.fn (.method name) #[]) #[.iface t recv]).runT p w #[]=r at *;obtain⟨r,es⟩:=r;simp only;rw[VV]
    repeat' (first|exact Nl _|exact h|exact Nt h (VW ..)|split)
   ·exact Nl _
theorem KR (p:Program) (fr:Frame) (callers:List Frame) (dying:Option Dying) (g:Nat) (w:World):w.drawn<=gd (early p fr callers dying g w):=by
 have hn:∀w:World,w.drawn<=gd (match w.heap[g]? with
  | some (.pending c elem)=>GStep.go { frame:=fr,callers,status:=.running,dying } { w with heap:=w.heap.setIfInBounds g (.cells c elem) }
  | _=>.ended (.stuck "early: the variable does not wait" (fr.pos p)) w):=fun w=>by
   split<;>exact Nl _
 unfold early;simp only
 split
 ·exact hn w
 ·split
  ·exact Nl _
  ·repeat' (first|exact Nl _|exact hn w|exact Nt (YT ‹_›) (hn _)|exact YT ‹_› | exact run_halt ‹_› | split)
theorem T1 (p:Program) (listen:Bool) (fr:Frame) (callers:List Frame) (dying:Option Dying) (s:Sem Next) (w:World):w.drawn<=gd (stepG.apply p listen fr callers dying s w):=by
 unfold stepG.apply;simp only;have h:w.drawn<=rd (if listen=true then s.runT p w #[] else (s.run p w,#[])).1:=by
  split
  ·exact ZI p s w #[]
  ·exact Z2 p s w
 generalize (if listen=true then s.runT p w #[] else (s.run p w,#[]))=r at *
 obtain⟨r,es⟩:=r;simp only;rw[VV];cases r with
 | ok n w'=>
  have h:w.drawn<=w'.drawn:=h;cases n<;>simp only<;>(repeat' (first|exact h|exact Nt h (VE ..)|(refine MU ?_ ?_)|split))
 | halt n w'=>
  have h:w.drawn<=w'.drawn:=h;cases n with
  | unsupported u=>cases u<;>(try simp only)<;>(first|exact h|exact Nt h (KR ..))
  | _=>(try simp only);(first|exact h|exact Nt h (VE ..)|exact Nt h (TL ..))
theorem Hy (p:Program) (listen:Bool) (fr:Frame) (callers:List Frame) (dying:Option Dying) (w:World):w.drawn<=gd (stepG.oper p listen fr callers dying w):=by
 unfold stepG.oper
 repeat' (first|exact Nl _|exact T1 p listen .. | split)
theorem Hz (p:Program) (main listen:Bool) (fr:Frame) (callers:List Frame) (dying:Option Dying) (w:World):w.drawn<=gd (stepG.exec p main listen fr callers dying w):=by
 unfold stepG.exec;simp only
 split
 all_goals (repeat' (first
  | with_reducible exact T1 p listen ..
  | with_reducible exact Hy ..
  | with_reducible exact Wl ..
  | (with_reducible rw[VV])
  | split
  | exact KO ‹_›
  | exact FY ‹_›
  | exact Nt (KO ‹_›) (Wl ..)
  | exact Nt (KO ‹_›) (T1 p listen ..)
  | exact YT ‹_›
  | exact run_halt ‹_›
  | exact Nl _
  | (simp only[Option.elim])))
theorem KU (p:Program) (main:Bool) (g:Goroutine) (w:World) (listen:Bool):w.drawn<=gd (stepG p main g w listen):=by
 unfold stepG;obtain⟨fr,callers,st,dying,offers⟩:=g;simp only
 split
 ·exact FZ ..
 ·exact Hz ..
 ·exact MV ..
def SD (d:Nat):Stepped->Prop
 | .next m=>d<=m.world.drawn
 | _=>True
theorem KV (w:World) (c:Nat):(drain w c).2.drawn=w.drawn:=by
 unfold drain;split<;>rfl
theorem QG (m:Machine) (k:Nat) (t:Timer) (a b:Nat):(retime m k t a b).2.world.drawn=m.world.drawn:=by
 unfold retime;cases t.chan with
 | none=>rfl
 | some c=>exact KV _ _
theorem KW {m m':Machine} {op:TimerOp} {v:Value} (h:timerOp m op=.ok (v,m')):m'.world.drawn=m.world.drawn:=by
 unfold timerOp at h
 split at h
 ·split at h
  ·simp at h;obtain⟨-,rfl⟩:=h;rfl
  ·split at h
   ·split at h
    ·cases h
    ·simp at h;obtain⟨-,rfl⟩:=h;rfl
   ·cases h
 ·unfold timerOp.named at h
  split at h
  ·simp only[Except.ok.injEq] at h
   have:=congrArg (fun x:Value×Machine=>x.2.world.drawn) h
   simp only[QG] at this;exact this.symm
  ·cases h
 ·split at h
  ·rename_i m1 ho;unfold timerOp.opened at ho;have e:m1.world.drawn=m.world.drawn:=by
    split at ho
    ·split at ho
     ·simp at ho;subst ho;rfl
     ·cases ho
    ·simp at ho;subst ho;rfl
   unfold timerOp.named at h
   split at h
   ·simp only[Except.ok.injEq] at h
    have:=congrArg (fun x:Value×Machine=>x.2.world.drawn) h
    simp only[QG] at this;exact this.symm.trans e
   ·cases h
  ·cases h
 ·simp at h;obtain⟨-,rfl⟩:=h;rfl
theorem O3 (p:Program) (gs:Array Goroutine) (rest:Rest) (w:World):SD w.drawn (look p gs rest w):=by
 unfold look
 split
 ·simp only
  split
  ·trivial
  ·split
   ·trivial
   ·split
    ·rename_i h;have h1:=YT h;exact h1
    ·trivial
    ·trivial
 ·trivial
theorem KY (p:Program) (m:Machine) (k:Nat):SD m.world.drawn (serve p m k):=by
 unfold serve
 split
 ·trivial
 ·exact Nl _
 ·simp only
  split
  ·trivial
  ·exact Nl _
theorem NR {rest:Rest} {cases:Array CommCase} {w w':World} (h:waitingAt rest cases w=some w'):w'.drawn=w.drawn:=by
 unfold waitingAt at h
 split at h
 ·split at h
  ·simp at h;subst h;rfl
  ·cases h
 ·simp at h;subst h;rfl
theorem H3 (p:Program) (rest:Rest) (gs:Array Goroutine) (i:Nat) (g:Goroutine) (cases:Array CommCase) (blocking:Bool) (shape:CommShape) (w:World):SD w.drawn (communicate p rest gs i g cases blocking shape w).1:=by
 unfold communicate;simp only
 split
 ·trivial
 ·split
  ·split
   ·split
    ·rename_i h;exact Nat.le_of_eq (NR h).symm
    ·trivial
   ·exact Nl _
  ·split
   ·trivial
   ·rename_i k c way w' h;have h1:=YT h
    repeat' (first|trivial|exact h1|(have h2:=Nt h1 (YT ‹_›);exact h2)|(have h2:=Nt h1 (run_halt ‹_›);exact h2)|split)
theorem H6 (p:Program) (m:Machine) (i:Nat) (listen:Bool):SD m.world.drawn (runT p m i listen).1:=by
 unfold runT;simp only;have h:=KU p (i==0) (m.gs.swapAt! i { (default:Goroutine) with status:=.finished }).1 m.world listen
 generalize stepG p (i==0) (m.gs.swapAt! i { (default:Goroutine) with status:=.finished }).1 m.world listen=s at *
 generalize (m.gs.swapAt! i { (default:Goroutine) with status:=.finished })=sw at *
 obtain⟨g0,gs⟩:=sw;simp only;cases s with
 | ended o w es=>trivial
 | comm g cases blocking shape w es=>
  have h1:=H3 p m.rest gs i g cases blocking shape w;simp only;generalize (communicate p m.rest gs i g cases blocking shape w)=r at *;obtain⟨r,more⟩:=r;cases r with
  | next m'=>exact Nt h h1
  | ended=>trivial
 | go g w es=>exact h
 | spawn g child w es=>exact h
 | count g w es=>simp only;split<;>first|trivial|exact h
 | timer g op w es=>
  simp only
  split
  ·rename_i v m' ht
   have:=KW ht
   exact Nt h (Nat.le_of_eq this.symm)
  ·exact h
  ·trivial
  ·trivial
 | alone g on w es=>exact h
 | newcoro g c d w es=>exact h
 | coroswitch g c exit w es=>
  simp only
  split
  ·exact h
  ·exact h
  ·trivial
 | collect g w es=>
  simp only;have h1:=O3 p (gs.setIfInBounds i g) m.rest w;generalize look p (gs.setIfInBounds i g) m.rest w=r at *;cases r with
  | next m'=>exact Nt h h1
  | ended=>trivial
 | watch g w es=>exact h
def MD (d:Nat):Move->Prop
 | .goroutine m _=>d<=m.world.drawn
 | .machine s _=>SD d s
theorem SD.trans {a b:Nat} {s:Stepped} (h:a<=b) (hs:SD b s):SD a s:=by
 cases s with
 | next m=>exact Nt h hs
 | ended=>trivial
theorem Qe {p:Program} {rs:List Nat} {d:Nat} (m:Machine) (w:World) (h:d<=w.drawn):MD d (match (choose (.sched rs.length)).run p w with
   | .halt _ w=>.machine (.ended (.stuck "sched" "") w)
   | .ok k world=>
    if rs.length<=1 then .goroutine { m with world } (rs.getD k 0) else
    match (choose (.extern "sched.slice" 65536)).run p world with
    | .halt _ w=>.machine (.ended (.stuck "sched.slice" "") w)
    | .ok n world=>.goroutine { m with world,rest:={ m.rest with slice:=if n=0 then none else some (rs.getD k 0,n) } } (rs.getD k 0)):=by
 split
 ·trivial
 ·rename_i k w1 e1;have h1:=Nt h (YT e1)
  split
  ·exact h1
  ·split
   ·trivial
   ·rename_i n w2 e2;exact Nt h1 (YT e2)
theorem T2 (p:Program) (m:Machine):MD m.world.drawn (askOn p m):=by
 unfold askOn;dsimp only
 split
 ·trivial
 ·rename_i k w' h;have h1:=YT h
  split
  ·exact SD.trans h1 (KY p { m with world:=w' } _)
  ·split
   ·split
    ·exact h1
    ·split
     ·exact h1
     ·split<;>trivial
   ·split
    ·exact Qe (rs:=_) { m with world:=w' } w' h1
    ·split
     ·trivial
     ·rename_i e2;exact Qe (rs:=_) _ _ (Nt h1 (YT e2))
     ·rename_i e2;have h2:=Nt h1 (YT e2);exact h2
     ·rename_i e2;have h2:=Nt h1 (YT e2);exact Qe (rs:=_) _ _ h2
theorem O4 (p:Program) (m:Machine):MD m.world.drawn (ask p m):=by
 unfold ask
 split
 ·split
  ·trivial
  ·rename_i w' e;have h1:=YT e;have h2:=O3 p m.gs m.rest w'
   split
   ·rename_i m' e2;rw[e2] at h2;have h3:=T2 p m';have h4:m.world.drawn<=m'.world.drawn:=Nt h1 h2;generalize askOn p m'=r at *;cases r with
    | goroutine m i=>exact Nt h4 h3
    | machine s ops=>exact SD.trans h4 h3
   ·exact SD.trans h1 h2
  ·rename_i w' _ e;have h1:=YT e;have h3:=T2 p { m with world:=w' }
   generalize askOn p { m with world:=w' }=r at *
   cases r with
   | goroutine m i=>exact Nt h1 h3
   | machine s ops=>exact SD.trans h1 h3
 ·exact T2 p m
theorem Ga (p:Program) (m:Machine):MD m.world.drawn (move p m):=by
 unfold move
 split
 ·split
  ·exact Nl _
  ·trivial
 ·split
  ·split
   ·exact Nl _
   ·exact O4 p _
  ·exact O4 p m
theorem Gb {p:Program} {m m':Machine} (h:step p m=.next m'):m.world.drawn<=m'.world.drawn:=by
 unfold step stepT at h;have h1:=Ga p m;generalize move p m=r at *;cases r with
 | goroutine m1 i=>
  have h2:=H6 p m1 i true;simp only at h;rw[h] at h2;exact Nt h1 h2
 | machine s ops=>
  simp only at h;subst h;exact h1
theorem O5 (p:Program):∀(n:Nat) {m m':Machine},runN p n m=.next m'->m.world.drawn<=m'.world.drawn
 | 0,m,m',h=>by simp only[runN,Stepped.next.injEq] at h;subst h;exact Nl _
 | n+1,m,m',h=>by
  unfold runN at h
  split at h
  ·rename_i m1 e;exact Nt (Gb e) (O5 p n h)
  ·rename_i h2;exact absurd h (h2 _)
theorem KZ {p:Program} {m m':Machine} (h:Steps p m m'):m.world.drawn<=m'.world.drawn:=by
 obtain⟨n,h⟩:=h;exact O5 p n h
theorem K0 {P:Program} {f:FuncId} {args:Array Value} {w:World} {R:Ending->World->Prop} (h:Calls P f args w R) :
  Calls P f args w fun e w'=>R e w'/\∀v,e=.returned v->w.drawn<=w'.drawn:=fun cs=>by
 obtain⟨e,w',fr,hR,hc,h1,h2⟩:=h cs;refine⟨e,w',fr,⟨hR,fun v hv=>?_⟩,hc,h1,h2⟩
 subst hv;exact KZ hc
theorem P0 {w w':World} (h:RowKit.Below w.heap.size w w') (hd:w.drawn<=w'.drawn):∃q os,w'=Sort.grow (w.drewN q) os:=by
 obtain⟨p,hp⟩:=regrown_of_below h;have hd2:w'.drawn=p.d:=by rw[hp];rfl
 refine⟨p.d-w.drawn,p.os,?_⟩;rw[hp]
 have:redrawn w p.d=w.drewN (p.d-w.drawn):=by
  unfold redrawn World.drewN;congr 1;omega
 rw[this]
theorem calls_grown {P:Program} {f:FuncId} {args:Array Value} {w:World} {v:Value} (h:Calls P f args w fun e w'=>e=.returned v/\RowKit.Below w.heap.size w w') :
  Calls P f args w fun e w'=>e=.returned v/\∃q os,w'=Sort.grow (w.drewN q) os:=
 (K0 h).mono fun _ _ ⟨⟨he,hb⟩,hd⟩=>⟨he,P0 hb (hd v he)⟩
end Go.Proofs.YtpieeldbamklkaaGreatDoorMono
namespace Go.Proofs.YtpieeldbamklkaaGreatDoor
open Go.RowKit Num
def QP (x y:Int):Int:=if x<y then -1 else if y<x then 1 else 0
theorem Zbg (x y:Int) (w:World):Calls Tryz.prog 293 #[.int .i64 x,.int .i64 y] w fun e w'=>e=.returned (.int .i64 (QP x y))/\w=w':=by
 unfold QP
 by_cases h1:x<y
 ·have e1:decide (x<y)=true:=Dt h1;rw[if_pos h1];clear h1;go_enter Tryz.func293,Tryz.ntmps293;go_wp2;go_ret;exact⟨rfl,rfl⟩
 ·have e1:decide (x<y)=false:=Df h1;rw[if_neg h1];clear h1
  by_cases h2:y<x
  ·have e2:decide (y<x)=true:=Dt h2;rw[if_pos h2];clear h2;go_enter Tryz.func293,Tryz.ntmps293;go_wp2;go_ret;exact⟨rfl,rfl⟩
  ·have e2:decide (y<x)=false:=Df h2;rw[if_neg h2];clear h2;go_enter Tryz.func293,Tryz.ntmps293;go_wp2;go_ret;exact⟨rfl,rfl⟩
theorem Zbh (x y:Int) (w:World):Calls Tryz.prog 270 #[.int .i64 x,.int .i64 y] w fun e w'=>e=.returned (.int .i64 (QP x y))/\w=w':=by
 unfold QP
 by_cases h1:x<y
 ·have e1:decide (x<y)=true:=Dt h1;rw[if_pos h1];clear h1;go_enter Tryz.func270,Tryz.ntmps270;go_wp2;go_ret;exact⟨rfl,rfl⟩
 ·have e1:decide (x<y)=false:=Df h1;rw[if_neg h1];clear h1
  by_cases h2:y<x
  ·have e2:decide (y<x)=true:=Dt h2;rw[if_pos h2];clear h2;go_enter Tryz.func270,Tryz.ntmps270;go_wp2;go_ret;exact⟨rfl,rfl⟩
  ·have e2:decide (y<x)=false:=Df h2;rw[if_neg h2];clear h2;go_enter Tryz.func270,Tryz.ntmps270;go_wp2;go_ret;exact⟨rfl,rfl⟩
def orZ (x y:Int):Int:=if x=0 then y else x
theorem AH (b:Nat) (x y:Int) (w:World) (h0:w.cell? ⟨b,0,none⟩=some (.int .i64 x)) (h1:w.cell? ⟨b,1,none⟩=some (.int .i64 y)) :
  Calls Tryz.prog 272 #[.slice (some ⟨b,0,none⟩) 2 2] w fun e w'=>e=.returned (.int .i64 (orZ x y))/\w=w':=by
 have HV:Hid (orZ x y=if x=0 then y else x):=rfl
 generalize orZ x y=R at *;go_enter Tryz.func272,Tryz.ntmps272;go_wp2_with fail
 go_loop [5,8] (fun _ iv=>∃k:Nat,k<=2/\iv=.int .i64 (k:Int)/\Hid (R=if k=0 then (if x=0 then y else x) else if k=1 then y else 0)) (fun _ iv=>2-(intOf iv).toNat)
 case atStart=>exact⟨0,by omega,rfl,HV.out⟩
 case round=>
  clear HV;obtain⟨k,hk,rfl,HV⟩:=hrel;have hk3:k=0∨k=1∨k=2:=by omega
  rcases hk3 with rfl|rfl|rfl
  ·by_cases g:x=0
   ·subst g;have HV2:Hid (R=y):=HV.out;clear HV;go_wp2
    go_round
    case rel=>exact⟨1,by omega,by go_num,HV2.out⟩
    case measure=>simp[intOf]
   ·have e1:(x==0)=false:=by rw[Bn];exact g
    have e2:=QC e1;have HV2:Hid (R=x):=by show _=_;rw[HV.out,if_pos rfl,if_neg g]
    clear HV g;go_wp2;go_ret;exact⟨ZN HV2.out.symm,rfl⟩
  ·have HV1:Hid (R=y):=HV.out;clear HV
   by_cases g:y=0
   ·subst g;go_wp2
    go_round
    case rel=>exact⟨2,by omega,by go_num,HV1.out⟩
    case measure=>simp[intOf]
   ·have e1:(y==0)=false:=by rw[Bn];exact g
    have e2:=QC e1;clear g;go_wp2;go_ret;exact⟨ZN HV1.out.symm,rfl⟩
  ·have HV1:Hid (R=0):=HV.out;clear HV;go_wp2;go_ret;exact⟨ZN HV1.out.symm,rfl⟩
def ZO {α:Type} (p:α->Bool):List α->Nat->Int
 | [],_=>-1
 | a::t,k=>if p a=true then (k:Int) else ZO p t (k+1)
section
variable {α:Type} (p:α->Bool)
theorem Qf (zs:List α) (k:Nat) (y:α) (h:zs[k]?=some y):ZO p (zs.drop k) k=if p y=true then (k:Int) else ZO p (zs.drop (k+1)) (k+1):=by
 obtain⟨hk,rfl⟩:=Lg.1 h;rw[List.drop_eq_getElem_cons hk];rfl
theorem UT:∀(zs:List α) (k:Nat),0<=ZO p zs k↔zs.any p=true
 | [],k=>by simp[ZO]
 | a::t,k=>by
  unfold ZO
  by_cases h:p a=true
  ·simp[h]
  ·rw[if_neg h,UT t (k+1)];simp[h]
theorem Vz:∀(zs:List α) (k:Nat),0<=ZO p zs k->∃i x,ZO p zs k=((k+i:Nat):Int)/\zs[i]?=some x/\p x=true/\∀j y,j<i->zs[j]?=some y->p y=false
 | [],k=>fun h=>by simp[ZO] at h
 | a::t,k=>fun h=>by
  unfold ZO at h ⊢
  by_cases ha:p a=true
  ·rw[if_pos ha];exact⟨0,a,by simp,rfl,ha,fun j _ hj=>absurd hj (Nat.not_lt_zero _)⟩
  ·rw[if_neg ha] at h ⊢;obtain⟨i,x,e,hx,hp,hf⟩:=Vz t (k+1) h;refine⟨i+1,x,by rw[e];congr 1;omega,hx,hp,fun j y hj hy=>?_⟩
   cases j with
   | zero=>simp at hy;subst hy;simpa using ha
   | succ j=>exact hf j y (by omega) hy
end
structure Pk where
 lot:List UInt8
 q:List UInt8
 deriving DecidableEq
def Z1 (id:List UInt8) (p:Pk):Bool:=p.lot==id
def isLt (id:List UInt8) (x:Lot):Bool:=x.id==id
def YU (a b:List UInt8):List UInt8:=if val a<val b then a else b
def SF (out:List Pk) (x:Lot):List UInt8:=
 if 0<=ZO (Z1 x.id) out 0 then canon (val x.q-val ((out.getD (ZO (Z1 x.id) out 0).toNat ⟨[],[]⟩).q)) else x.q
def nS (out:List Pk) (rem:List UInt8) (x:Lot) (most:List UInt8):List UInt8:=YU (YU most (SF out x)) rem
def QQ (out:List Pk) (x:Lot) (n:List UInt8):List Pk:=
 if 0<=ZO (Z1 x.id) out 0 then out.set (ZO (Z1 x.id) out 0).toNat ⟨(out.getD (ZO (Z1 x.id) out 0).toNat ⟨[],[]⟩).lot,canon (val ((out.getD (ZO (Z1 x.id) out 0).toNat ⟨[],[]⟩).q)+val n)⟩
 else out++[⟨x.id,canon (val n)⟩]
def YE (s:List Pk×List UInt8) (x:Lot) (most:List UInt8):List Pk×List UInt8:=
 if val (nS s.1 s.2 x most)<=0 then s else (QQ s.1 x (nS s.1 s.2 x most),canon (val s.2-val (nS s.1 s.2 x most)))
def YV (l:List Pk):Int:=(l.map (fun p=>val p.q)).sum
def YW (l:List Pk) (id:List UInt8):Int:=((l.filter (Z1 id)).map (fun p=>val p.q)).sum
structure Yw (own:List Lot) (Q:Int) (s:List Pk×List UInt8):Prop where
 sum:YV s.1+val s.2=Q
 rem:0<=val s.2
 can:s.2=canon (val s.2)
 pos:∀p∈s.1,0<val p.q/\p.q=canon (val p.q)
 nd:(s.1.map (·.lot)).Nodup
 mem:∀p∈s.1,∃x∈own,x.id=p.lot
theorem Tk:∀(l:List Pk),(∀p∈l,0<val p.q)->0<=YV l/\∀p∈l,val p.q<=YV l
 | [],_=>⟨Int.le_refl _,fun p hp=>by cases hp⟩
 | a::t,h=>by
  obtain⟨h1,h2⟩:=Tk t (fun p hp=>h p (List.mem_cons_of_mem _ hp))
  have ha:=h a List.mem_cons_self;have e:YV (a::t)=val a.q+YV t:=by simp[YV]
  refine⟨by omega,fun p hp=>?_⟩
  rcases List.mem_cons.1 hp with rfl|hp
  ·omega
  ·have:=h2 p hp;omega
theorem Ci (l:List Pk) (id:List UInt8) (h:∀p∈l,0<val p.q):0<=YW l id:=
 (Tk (l.filter (Z1 id)) (fun p hp=>h p (List.mem_filter.1 hp).1)).1
theorem MW (a b:List Pk):YV (a++b)=YV a+YV b:=by simp[YV]
theorem J5 (a b:List Pk) (id:List UInt8):YW (a++b) id=YW a id+YW b id:=by simp[YW]
theorem J6 (p:Pk) (id:List UInt8):YW [p] id=if p.lot=id then val p.q else 0:=by
 unfold YW
 by_cases h:p.lot=id
 ·simp[Z1,h]
 ·simp[Z1,h]
theorem Gc {l:List Pk} {i:Nat} {p:Pk} (h:l[i]?=some p) (u:Pk):l=l.take i++[p]++l.drop (i+1)/\l.set i u=l.take i++[u]++l.drop (i+1):=by
 obtain⟨hi,rfl⟩:=Lg.1 h;refine⟨?_,?_⟩
 ·rw[List.append_assoc,List.singleton_append,<-List.drop_eq_getElem_cons hi,List.take_append_drop]
 ·rw[List.set_eq_take_append_cons_drop,if_pos hi,List.append_assoc,List.singleton_append]
theorem F0:∀{l:List Pk} {i:Nat} {p:Pk},(l.map (·.lot)).Nodup->l[i]?=some p->YW l p.lot=val p.q
 | [],i,p,_,h=>by simp at h
 | a::t,0,p,hn,h=>by
  simp at h;subst h;have hn':=List.nodup_cons.1 (by simpa using hn:(a.lot::t.map (·.lot)).Nodup)
  have e:t.filter (Z1 a.lot)=[]:=by
   rw[List.filter_eq_nil_iff];intro x hx hc;refine hn'.1 (List.mem_map.2 ⟨x,hx,?_⟩);simpa [Z1] using hc
  unfold YW;rw[List.filter_cons_of_pos (by simp[Z1]),e]
  simp
 | a::t,i+1,p,hn,h=>by
  have hn':=List.nodup_cons.1 (by simpa using hn:(a.lot::t.map (·.lot)).Nodup)
  have hp:t[i]?=some p:=by simpa using h
  have ih:=F0 hn'.2 hp;have hne:a.lot≠p.lot:=fun e=>hn'.1 (List.mem_map.2 ⟨p,Lm hp,e.symm⟩)
  unfold YW at ih ⊢;rw[List.filter_cons_of_neg (by simp[Z1,hne]),ih]
theorem F1 {l:List Pk} {id:List UInt8} (h:l.any (Z1 id)=false):YW l id=0:=by
 unfold YW
 have:l.filter (Z1 id)=[]:=by
  rw[List.filter_eq_nil_iff];intro x hx hc;rw[List.any_eq_false] at h;exact h x hx hc
 rw[this];rfl
theorem MX (a b:List UInt8):val (YU a b)<=val a/\val (YU a b)<=val b/\(val (YU a b)=val a∨val (YU a b)=val b):=by
 unfold YU
 split
 ·exact⟨Int.le_refl _,by omega,.inl rfl⟩
 ·exact⟨by omega,Int.le_refl _,.inr rfl⟩
theorem F2 {out:List Pk} {x:Lot} (hn:(out.map (·.lot)).Nodup):val (SF out x)=val x.q-YW out x.id:=by
 unfold SF
 by_cases h:0<=ZO (Z1 x.id) out 0
 ·rw[if_pos h,Zg];obtain⟨i,p,e,hp,hq,-⟩:=Vz _ _ _ h;rw[e,Nat.zero_add,Int.toNat_natCast,List.getD_eq_getElem?_getD,hp];have e2:p.lot=x.id:=by simpa [Z1] using hq
  have:=F0 hn hp
  rw[e2] at this;simp[this]
 ·rw[if_neg h]
  have:out.any (Z1 x.id)=false:=by
   cases hc:out.any (Z1 x.id) with
   | false=>rfl
   | true=>exact absurd ((UT _ _ 0).2 hc) h
  rw[F1 this];omega
theorem Gd {out:List Pk} {x:Lot} {n:List UInt8} (hn:(out.map (·.lot)).Nodup) (hp:∀p∈out,0<val p.q/\p.q=canon (val p.q)) (h0:0<val n) :
  YV (QQ out x n)=YV out+val n/\(∀id,YW (QQ out x n) id=YW out id+if x.id=id then val n else 0)/\(∀p∈QQ out x n,0<val p.q/\p.q=canon (val p.q))/\((QQ out x n).map (·.lot)).Nodup/\∀p∈QQ out x n,p.lot=x.id∨p∈out:=by
 unfold QQ
 by_cases h:0<=ZO (Z1 x.id) out 0
 ·rw[if_pos h];obtain⟨i,p,e,hi,hq,-⟩:=Vz _ _ _ h;have e2:p.lot=x.id:=by simpa [Z1] using hq
  rw[e,Nat.zero_add,Int.toNat_natCast,List.getD_eq_getElem?_getD,hi,Option.getD_some];obtain⟨s1,s2⟩:=Gc hi ⟨p.lot,canon (val p.q+val n)⟩;have hpp:=hp p (Lm hi);refine⟨?_,fun id=>?_,fun r hr=>?_,?_,fun r hr=>?_⟩
  ·rw[s2]
   conv=>rhs;rw[s1]
   simp only[MW];simp[YV,Zg];omega
  ·rw[s2]
   conv=>rhs;rw[s1]
   simp only[J5,J6,e2]
   by_cases hid:x.id=id
   ·simp[hid,Zg];omega
   ·simp[hid]
  ·rcases List.mem_or_eq_of_mem_set hr with hr|rfl
   ·exact hp r hr
   ·rw[Zg];exact⟨by omega,rfl⟩
  ·have:(out.set i ⟨p.lot,canon (val p.q+val n)⟩).map (·.lot)=out.map (·.lot):=by
    rw[List.map_set];apply List.ext_getElem?;intro j;rw[List.getElem?_set]
    split
    ·rename_i hj;subst hj
     split
     ·simp[hi]
     ·rename_i hlt;simp at hlt;simp[List.getElem?_eq_none hlt]
    ·rfl
   rw[this];exact hn
  ·rcases List.mem_or_eq_of_mem_set hr with hr|rfl
   ·exact .inr hr
   ·exact .inl e2
 ·rw[if_neg h];have hany:out.any (Z1 x.id)=false:=by
   cases hc:out.any (Z1 x.id) with
   | false=>rfl
   | true=>exact absurd ((UT _ _ 0).2 hc) h
  refine⟨?_,fun id=>?_,fun r hr=>?_,?_,fun r hr=>?_⟩
  ·rw[MW];simp[YV,Zg]
  ·rw[J5,J6,Zg]
  ·rcases List.mem_append.1 hr with hr|hr
   ·exact hp r hr
   ·simp at hr;subst hr;rw[Zg];exact⟨h0,rfl⟩
  ·rw[List.map_append,List.nodup_append];refine⟨hn,by simp,fun a ha b hb hab=>?_⟩
   simp at hb;subst hb;subst hab;obtain⟨r,hr,e⟩:=List.mem_map.1 ha;rw[List.any_eq_false] at hany;exact hany r hr (by simp[Z1,e])
  ·rcases List.mem_append.1 hr with hr|hr
   ·exact .inr hr
   ·simp at hr;subst hr;exact .inl rfl
theorem P1 {own:List Lot} {Q:Int} {s:List Pk×List UInt8} {x:Lot} (most:List UInt8) (h:Yw own Q s) (hx:x∈own) :
  Yw own Q (YE s x most)/\(∀id,YW s.1 id<=YW (YE s x most).1 id)/\val (YE s x most).2<=val s.2/\(val most=val x.q->val (YE s x most).2=0∨val x.q<=YW (YE s x most).1 x.id):=by
 have l1:=MX (YU most (SF s.1 x)) s.2;have l2:=MX most (SF s.1 x);have l3:=F2 (x:=x) h.nd;have l4:=Ci s.1 x.id (fun p hp=>(h.pos p hp).1)
 have l5:=h.rem;obtain⟨n,hn⟩:∃n,n=nS s.1 s.2 x most:=⟨_,rfl⟩
 have hn':=hn;unfold nS at hn';rw[<-hn'] at l1;unfold YE;rw[<-hn]
 by_cases h0:val n<=0
 ·rw[if_pos h0];refine⟨h,fun _=>Int.le_refl _,Int.le_refl _,fun hm=>?_⟩
  omega
 ·rw[if_neg h0];obtain⟨p1,p2,p3,p4,p5⟩:=Gd (x:=x) (n:=n) h.nd h.pos (by omega)
  have hs:=h.sum;refine⟨⟨?_,?_,?_,p3,p4,fun p hp=>?_⟩,fun id=>?_,?_,fun hm=>?_⟩
  ·show YV (QQ s.1 x n)+val (canon (val s.2-val n))=Q;rw[p1,Zg];omega
  ·show 0<=val (canon (val s.2-val n));rw[Zg];omega
  ·show canon (val s.2-val n)=_;rw[Zg]
  ·rcases p5 p hp with e|hp
   ·exact⟨x,hx,e.symm⟩
   ·exact h.mem p hp
  ·show _<=YW (QQ s.1 x n) id;rw[p2]
   split<;>omega
  ·show val (canon (val s.2-val n))<=_;rw[Zg];omega
  ·show val (canon (val s.2-val n))=0∨val x.q<=YW (QQ s.1 x n) x.id;rw[p2,Zg,if_pos rfl];omega
def NS (own:List Lot):List Pk->List Pk×List UInt8->List Pk×List UInt8
 | [],s=>s
 | p::t,s=>NS own t (if 0<=ZO (isLt p.lot) own 0 then YE s (own.getD (ZO (isLt p.lot) own 0).toNat ⟨[],[],0,0,[],[],[]⟩) p.q else s)
def YF:List Lot->List Pk×List UInt8->List Pk×List UInt8
 | [],s=>s
 | x::t,s=>YF t (YE s x x.q)
theorem Qg {own:List Lot} {Q:Int}:∀(ps:List Pk) {s:List Pk×List UInt8},Yw own Q s->Yw own Q (NS own ps s)
 | [],_,h=>h
 | p::t,s,h=>by
  unfold NS
  by_cases hi:0<=ZO (isLt p.lot) own 0
  ·rw[if_pos hi];obtain⟨i,x,e,hx,-,-⟩:=Vz _ _ _ hi;rw[e,Nat.zero_add,Int.toNat_natCast,List.getD_eq_getElem?_getD,hx,Option.getD_some];exact Qg t (P1 p.q h (Lm hx)).1
  ·rw[if_neg hi];exact Qg t h
theorem MY {own:List Lot} {Q:Int}:∀(xs:List Lot) {s:List Pk×List UInt8},(∀x∈xs,x∈own)->Yw own Q s->
  Yw own Q (YF xs s)/\(∀id,YW s.1 id<=YW (YF xs s).1 id)/\val (YF xs s).2<=val s.2/\∀x∈xs,val (YF xs s).2=0∨val x.q<=YW (YF xs s).1 x.id
 | [],_,_,h=>⟨h,fun _=>Int.le_refl _,Int.le_refl _,fun x hx=>by cases hx⟩
 | x::t,s,hm,h=>by
  obtain⟨a1,a2,a3,a4⟩:=P1 x.q h (hm x List.mem_cons_self);obtain⟨b1,b2,b3,b4⟩:=MY t (fun y hy=>hm y (List.mem_cons_of_mem _ hy)) a1
  unfold YF;refine⟨b1,fun id=>Int.le_trans (a2 id) (b2 id),Int.le_trans b3 a3,fun y hy=>?_⟩
  rcases List.mem_cons.1 hy with rfl|hy
  ·have:=a4 rfl
   have:=b2 y.id
   have:=b1.rem
   omega
  ·exact b4 y hy
def BQ (l:List Lot):Int:=(l.map (fun x=>val x.q)).sum
theorem J7:∀(ids:List (List UInt8)),ids.Nodup->∀(out:List Pk),(∀p∈out,0<val p.q)->(ids.map (YW out)).sum<=YV out
 | [],_,out,h=>by simpa using (Tk out h).1
 | a::t,hn,out,h=>by
  have hn':=List.nodup_cons.1 hn;have ih:=J7 t hn'.2 (out.filter (fun p=>!Z1 a p)) (fun p hp=>h p (List.mem_filter.1 hp).1)
  have e1:∀id∈t,YW (out.filter (fun p=>!Z1 a p)) id=YW out id:=fun id hid=>by
   unfold YW;rw[List.filter_filter];congr 2;apply List.filter_congr;intro p _
   by_cases hp:p.lot=id
   ·have:id≠a:=fun e=>hn'.1 (e ▸ hid)
    simp[Z1,hp,this]
   ·simp[Z1,hp]
  have e2:YV out=YW out a+YV (out.filter (fun p=>!Z1 a p)):=by
   clear ih e1 h
   induction out with
   | nil=>rfl
   | cons p r ih=>
    have e3:YV (p::r)=val p.q+YV r:=by simp[YV]
    by_cases hp:Z1 a p=true
    ·have:YW (p::r) a=val p.q+YW r a:=by simp[YW,hp]
     rw[e3,this,List.filter_cons_of_neg (by simp[hp])];omega
    ·have:YW (p::r) a=YW r a:=by simp[YW,hp]
     rw[e3,this,List.filter_cons_of_pos (by simpa using hp)]
     have:YV (p::r.filter (fun p=>!Z1 a p))=val p.q+YV (r.filter (fun p=>!Z1 a p)):=by simp[YV]
     omega
  rw[List.map_cons,List.sum_cons,e2,<-List.map_congr_left e1];omega
theorem F3 {α:Type} {f g:α->Int}:∀(l:List α),(∀x∈l,f x<=g x)->(l.map f).sum<=(l.map g).sum
 | [],_=>Int.le_refl _
 | a::t,h=>by
  have:=F3 t (fun x hx=>h x (List.mem_cons_of_mem _ hx))
  have:=h a List.mem_cons_self
  simp;omega
theorem F4 {own xs:List Lot} {Q:Int} {s:List Pk×List UInt8} (hx:xs.Perm own) (hn:(own.map (·.id)).Nodup) (hq:Q<=BQ own) (h:Yw own Q s) :
  Yw own Q (YF xs s)/\val (YF xs s).2=0/\YV (YF xs s).1=Q:=by
 obtain⟨b1,-,-,b4⟩:=MY xs (fun x hx'=>hx.subset hx') h
 have hs:=b1.sum
 by_cases h0:val (YF xs s).2=0
 ·exact⟨b1,h0,by omega⟩
 ·have h1:∀x∈own,val x.q<=YW (YF xs s).1 x.id:=fun x hx'=>(b4 x (hx.symm.subset hx')).resolve_left h0
  have h2:=F3 own h1;have h3:=J7 (own.map (·.id)) hn (YF xs s).1 (fun p hp=>(b1.pos p hp).1)
  rw[List.map_map] at h3;have h4:BQ own<=YV (YF xs s).1:=Int.le_trans h2 h3
  have:=b1.rem
  omega
end Go.Proofs.YtpieeldbamklkaaGreatDoor
