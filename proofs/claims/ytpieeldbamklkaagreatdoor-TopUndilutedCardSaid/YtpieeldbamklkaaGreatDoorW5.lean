/- Texts put together: Ra Ok Us Sp Ol Om Ut. -/
import Derived.Test.YtpieeldbamklkaaGreatDoorW4
import Derived.Sort.Statements
import Derived.Shelf.SlSortCmp.Whole1
import Derived.Shelf.Strconv.ParseIntPublic10
import Derived.Sort.Grow
import Derived.Deep.DeepCutAuto
set_option maxHeartbeats 4000000
set_option maxRecDepth 100000
namespace Go.Proofs.YtpieeldbamklkaaGreatDoor
open Go.RowKit Num
def UG (w:World) (A:Option Addr) (ps:List Pk):Prop:=∀(i:Nat) (r:Pk),ps[i]?=some r->∃b o,A=some ⟨b,o,none⟩/\b<w.heap.size/\w.cell? ⟨b,o+i*2,none⟩=some (.string ⟨r.lot.toArray⟩)/\w.cell? ⟨b,o+i*2+1,none⟩=some (.string ⟨r.q.toArray⟩)
theorem UG.below {w w':World} {A:Option Addr} {rs:List Pk} (h:UG w A rs) (hb:Below w.heap.size w w'):UG w' A rs:=fun i t ht=>by
 obtain⟨b,o,hA,hl,h0,h1⟩:=h i t ht;exact⟨b,o,hA,Nat.lt_of_lt_of_le hl hb.size,(hb.cell (p:=⟨b,_,none⟩) hl).trans h0,(hb.cell (p:=⟨b,_,none⟩) hl).trans h1⟩
theorem UG.take {w:World} {A:Option Addr} {rs:List Pk} (h:UG w A rs) (k:Nat):UG w A (rs.take k):=fun i t ht=>by
 rw[List.getElem?_take] at ht
 split at ht
 ·exact h i t ht
 ·cases ht
theorem AJ (f:Nat) (hcall:∀(args:Array Value) w,(callFunc f args).run Tryz.prog w=.ok (.enter f args) w) (p:Lot->Bool) (caps:Array Value) (A:Option Addr) (rs:List Lot) (n c:Nat) (w:World) (hn:rs.length=n) (hn2:n<=1000000000) (h:Vw w A rs)
  (hp:∀x∈rs,∀w',Below w.heap.size w w'->Calls Tryz.prog f (#[(Value.agg #[Value.string ⟨x.id.toArray⟩,Value.string ⟨x.ins.toArray⟩,Value.int .i64 x.acq,Value.int .i64 x.opn,Value.string ⟨x.q.toArray⟩,Value.string ⟨x.cost.toArray⟩,Value.string ⟨x.used.toArray⟩])]++caps) w' fun e w''=>e=.returned (.bool (p x))/\Below w'.heap.size w' w'') :
  Calls Tryz.prog 209 #[.slice A n c,.func (Fn.func f) #[] caps] w fun e w'=>e=.returned (.int .i64 (ZO p rs 0))/\Below w.heap.size w w':=by
 have HI:=Lh h;have HP:=Lh hp;have hn1:rs.length<=n:=by omega
 have hn3:n<=rs.length:=by omega
 obtain⟨Z,hZ⟩:∃Z,Z=ZO p rs 0:=⟨_,rfl⟩
 rw[<-hZ];have HZ:Hid (Z=ZO p (rs.drop 0) 0):=hZ;clear h hp hn hZ;go_enter Tryz.func209,Tryz.ntmps209;go_wp2_with fail
 go_loopw [8] (fun iv wr=>∃k:Nat,k<=n/\iv=.int .i64 (k:Int)/\Hid (Z=ZO p (rs.drop k) k)/\Below w.heap.size w wr) (fun iv _=>n-(intOf iv).toNat)
 case atStart=>exact⟨0,Nat.zero_le _,rfl,HZ.out,Below.refl _ _⟩
 case round=>
  clear HZ;obtain⟨k,hk,rfl,HK,hb⟩:=hrel
  by_cases hlt:k<n
  ·obtain⟨x,hx⟩:∃x,rs[k]?=some x:=⟨_,List.getElem?_eq_getElem (by omega)⟩
   obtain⟨b,o,rfl,hbs,hc0⟩:=(HI.out.below hb) k x hx;have HD:=Lh (Qf p rs k x hx);have CP:=Lh (HP.out x (Lm hx) wr hb);have e1:decide (k<n)=true:=Dt hlt;clear hx;have p0:=hc0.c0;have p1:=hc0.c1;have p2:=hc0.c2;have p3:=hc0.c3;have p4:=hc0.c4;have p5:=hc0.c5;have p6:=hc0.c6;go_wp2_with fail
   with_reducible refine CP.out.mono ?_
   rintro e w2 ⟨rfl,hb2⟩;replace hb:=bto hb hb2;clear hb2 CP hc0 p0 p1 p2 p3 p4 p5 p6
   by_cases hq:p x=true
   ·have HV:Hid (Z=(k:Int)):=by show _=_;rw[HK.out,HD.out,if_pos hq]
    rw[hq];clear hq HK HD;go_wp2;go_ret;exact⟨ZN HV.out.symm,hb⟩
   ·have HV:Hid (Z=ZO p (rs.drop (k+1)) (k+1)):=by show _=_;rw[HK.out,HD.out,if_neg hq]
    rw[Yo hq];clear hq HK HD;go_wp2;go_roundw
    case rel=>exact⟨k+1,by omega,by go_num,HV,hb⟩
    case measure=>simp[intOf];omega
  ·have HV:Hid (Z = -1):=by show _=_;rw[HK.out,List.drop_of_length_le (by omega)];rfl
   have e1:decide (k<n)=false:=Df hlt;clear HK;go_wp2;go_ret;exact⟨ZN HV.out.symm,hb⟩
theorem F5 (f:Nat) (hcall:∀(args:Array Value) w,(callFunc f args).run Tryz.prog w=.ok (.enter f args) w) (p:Pk->Bool) (caps:Array Value) (A:Option Addr) (rs:List Pk) (n c:Nat) (w:World) (hn:rs.length=n) (hn2:n<=1000000000) (h:UG w A rs)
  (hp:∀x∈rs,∀w',Below w.heap.size w w'->Calls Tryz.prog f (#[.agg #[.string ⟨x.lot.toArray⟩,.string ⟨x.q.toArray⟩]]++caps) w' fun e w''=>e=.returned (.bool (p x))/\Below w'.heap.size w' w'') :
  Calls Tryz.prog 163 #[.slice A n c,.func (Fn.func f) #[] caps] w fun e w'=>e=.returned (.int .i64 (ZO p rs 0))/\Below w.heap.size w w':=by
 have HI:=Lh h;have HP:=Lh hp;have hn1:rs.length<=n:=by omega
 have hn3:n<=rs.length:=by omega
 obtain⟨Z,hZ⟩:∃Z,Z=ZO p rs 0:=⟨_,rfl⟩
 rw[<-hZ];have HZ:Hid (Z=ZO p (rs.drop 0) 0):=hZ;clear h hp hn hZ;go_enter Tryz.func163,Tryz.ntmps163;go_wp2_with fail
 go_loopw [8] (fun iv wr=>∃k:Nat,k<=n/\iv=.int .i64 (k:Int)/\Hid (Z=ZO p (rs.drop k) k)/\Below w.heap.size w wr) (fun iv _=>n-(intOf iv).toNat)
 case atStart=>exact⟨0,Nat.zero_le _,rfl,HZ.out,Below.refl _ _⟩
 case round=>
  clear HZ;obtain⟨k,hk,rfl,HK,hb⟩:=hrel
  by_cases hlt:k<n
  ·obtain⟨x,hx⟩:∃x,rs[k]?=some x:=⟨_,List.getElem?_eq_getElem (by omega)⟩
   obtain⟨b,o,rfl,hbs,p0,p1⟩:=(HI.out.below hb) k x hx;have HD:=Lh (Qf p rs k x hx);have CP:=Lh (HP.out x (Lm hx) wr hb);have e1:decide (k<n)=true:=Dt hlt;clear hx;go_wp2_with fail
   with_reducible refine CP.out.mono ?_
   rintro e w2 ⟨rfl,hb2⟩;replace hb:=bto hb hb2;clear hb2 CP p0 p1
   by_cases hq:p x=true
   ·have HV:Hid (Z=(k:Int)):=by show _=_;rw[HK.out,HD.out,if_pos hq]
    rw[hq];clear hq HK HD;go_wp2;go_ret;exact⟨ZN HV.out.symm,hb⟩
   ·have HV:Hid (Z=ZO p (rs.drop (k+1)) (k+1)):=by show _=_;rw[HK.out,HD.out,if_neg hq]
    rw[Yo hq];clear hq HK HD;go_wp2;go_roundw
    case rel=>exact⟨k+1,by omega,by go_num,HV,hb⟩
    case measure=>simp[intOf];omega
  ·have HV:Hid (Z = -1):=by show _=_;rw[HK.out,List.drop_of_length_le (by omega)];rfl
   have e1:decide (k<n)=false:=Df hlt;clear HK;go_wp2;go_ret;exact⟨ZN HV.out.symm,hb⟩
theorem MZ {α:Type} (p:α->Bool) (rs:List α):decide (0<=ZO p rs 0)=rs.any p:=by
 have h:=UT p rs 0
 by_cases g:0<=ZO p rs 0
 ·rw[Dt g,h.1 g]
 ·rw[Df g];cases hc:rs.any p with
  | false=>rfl
  | true=>exact absurd (h.2 hc) g
theorem F6 (f:Nat) (hcall:∀(args:Array Value) w,(callFunc f args).run Tryz.prog w=.ok (.enter f args) w) (p:Pk->Bool) (caps:Array Value) (A:Option Addr) (rs:List Pk) (n c:Nat) (w:World) (hn:rs.length=n) (hn2:n<=1000000000) (h:UG w A rs)
  (hp:∀x∈rs,∀w',Below w.heap.size w w'->Calls Tryz.prog f (#[.agg #[.string ⟨x.lot.toArray⟩,.string ⟨x.q.toArray⟩]]++caps) w' fun e w''=>e=.returned (.bool (p x))/\Below w'.heap.size w' w'') :
  Calls Tryz.prog 159 #[.slice A n c,.func (Fn.func f) #[] caps] w fun e w'=>e=.returned (.bool (rs.any p))/\Below w.heap.size w w':=by
 have C1:=Lh (F5 f hcall p caps A rs n c w hn hn2 h hp);have HV:=Lh (MZ p rs);generalize ZO p rs 0=z at *;clear hn h hp;go_enter Tryz.func159,Tryz.ntmps159;go_wp2_with fail;refine C1.out.mono ?_;rintro e w2 ⟨rfl,hb⟩
 by_cases g:0<=z
 ·have e1:decide (0<=z)=true:=Dt g;go_wp2;go_ret;exact⟨by rw[<-HV.out,e1];rfl,hb⟩
 ·have e1:decide (0<=z)=false:=Df g;go_wp2;go_ret;exact⟨by rw[<-HV.out,e1];rfl,hb⟩
theorem AK (x:Lot) (bi:Nat) (id:List UInt8) (w:World) (h:Blk w bi #[.string ⟨id.toArray⟩]) :
  Calls Tryz.prog 210 #[(Value.agg #[Value.string ⟨x.id.toArray⟩,Value.string ⟨x.ins.toArray⟩,Value.int .i64 x.acq,Value.int .i64 x.opn,Value.string ⟨x.q.toArray⟩,Value.string ⟨x.cost.toArray⟩,Value.string ⟨x.used.toArray⟩]),.pointer (some ⟨bi,0,none⟩)] w fun e w'=>e=.returned (.bool (isLt id x))/\Below w.heap.size w w':=by
 have hb:=Zd w (.cells #[Value.string ⟨x.id.toArray⟩,Value.string ⟨x.ins.toArray⟩,Value.int .i64 x.acq,Value.int .i64 x.opn,Value.string ⟨x.q.toArray⟩,Value.string ⟨x.cost.toArray⟩,Value.string ⟨x.used.toArray⟩] 130);have x1:=Xf.new w x 130;have p0:=x1.c0;have p1:=(h.below hb).c 0;have HV:Hid (isLt id x=(x.id==id)):=rfl;have he:=U5 x.id id;generalize isLt id x=R at *;clear h x1;go_enter Tryz.func210,Tryz.ntmps210;go_wp2;go_ret;refine⟨Z4 ?_,hb⟩;rw[HV.out]<;>first|exact he|rfl
theorem M0 (args:Array Value) (w:World):(callFunc 210 args).run Tryz.prog w=.ok (.enter 210 args) w:=by kernel_rfl
def F7 (z:Int):Int:=if 0<=z then z else 0
theorem BR {w:World} {A:Option Addr} {xs:List Lot} {n:Nat} (c:Nat) (id:List UInt8) (hn:xs.length=n) (hn2:n<=100000) (h:Vw w A xs) :
  Calls Tryz.prog 166 #[.slice A n c,.string ⟨id.toArray⟩] w fun e w'=>e=.returned (.tuple #[.int .i64 (F7 (ZO (isLt id) xs 0)),.bool (decide (0<=ZO (isLt id) xs 0))])/\Below w.heap.size w w':=by
 have hb:=Zd w (.cells #[.string ⟨id.toArray⟩] 9);have x1:=Lh (Blk.new w #[.string ⟨id.toArray⟩] 9);have C1:=Lh (AJ _ M0 (isLt id) #[.pointer (some ⟨w.heap.size,0,none⟩)] A xs n c _ hn (by omega) (h.below hb) (fun x _ w' hb'=>AK x w.heap.size id w' (x1.out.below hb')))
 generalize ZO (isLt id) xs 0=z at *;clear h hn x1;go_enter Tryz.func166,Tryz.ntmps166;go_wp2_with fail;refine C1.out.mono ?_;rintro e w2 ⟨rfl,hb2⟩;replace hb:=bto hb hb2;clear hb2 C1
 by_cases g:0<=z
 ·have e1:decide (0<=z)=true:=Dt g;have HZ:Hid (F7 z=z):=if_pos g;go_wp2;go_ret2;refine⟨?_,hb⟩;rw[HZ.out]
  first|rfl|(simp[g,Int.max_def];intro h;omega)
 ·have e1:decide (0<=z)=false:=Df g;have HZ:Hid (F7 z=0):=if_neg g;go_wp2;go_ret2;refine⟨?_,hb⟩;rw[HZ.out]
  first|rfl|(simp[e1,Int.max_def];intro h;omega)
theorem VX {l:List UInt8} (hl:l.length<=100000):Ret 161 #[.string ⟨l.toArray⟩] (.bool (decide (0<val l))):=fun w hG=>by
 have hb:=Below.refl w.heap.size w;have C1:=Lh (Zv (l:=l) (l':=[]) (by omega) (by decide) (show _=Zx (val l) 0 from rfl))
 have hz:=(O0 (val l)).2.2.1;have HV:Hid (decide (0<Zx (val l) 0)=decide (0<val l)):=by show _=_;rw[decide_eq_decide];exact hz
 generalize Zx (val l) 0=c at *;generalize decide (0<val l)=R at *;clear hz;go_enter Tryz.func161,Tryz.ntmps161;go_wp2_with fail
 with_reducible refine (C1.out.of hG hb).mono ?_
 rintro e w1 ⟨rfl,hb1⟩;go_wp2;go_ret;exact⟨Z4 HV.out,bto hb hb1⟩
theorem NT {a b:List UInt8} (ha:a.length<=100000) (hb0:b.length<=100000):Ret 165 #[.string ⟨a.toArray⟩,.string ⟨b.toArray⟩] (.string ⟨(YU a b).toArray⟩):=fun w hG=>by
 have hb:=Below.refl w.heap.size w;have C1:=Lh (Zv (l:=a) (l':=b) (by omega) (by omega) rfl)
 have hz:Zx (val a) (val b)<0↔val a<val b:=by
  unfold Zx
  split
  ·omega
  ·split<;>omega
 by_cases g:val a<val b
 ·have HV:Hid (YU a b=a):=if_pos g;have e1:Zx (val a) (val b)<0:=hz.2 g;generalize Zx (val a) (val b)=c at *;have e2:decide (c<0)=true:=Dt e1;clear hz g;go_enter Tryz.func165,Tryz.ntmps165;go_wp2_with fail
  with_reducible refine (C1.out.of hG hb).mono ?_
  rintro e w1 ⟨rfl,hb1⟩;go_wp2;go_ret;exact⟨congrArg Ending.returned (str_eq HV.out.symm),bto hb hb1⟩
 ·have HV:Hid (YU a b=b):=if_neg g;have e1:¬Zx (val a) (val b)<0:=fun h=>g (hz.1 h)
  generalize Zx (val a) (val b)=c at *;have e2:decide (c<0)=false:=Df e1;clear hz g;go_enter Tryz.func165,Tryz.ntmps165;go_wp2_with fail
  with_reducible refine (C1.out.of hG hb).mono ?_
  rintro e w1 ⟨rfl,hb1⟩;go_wp2;go_ret;exact⟨congrArg Ending.returned (str_eq HV.out.symm),bto hb hb1⟩
def M3 (rs:List (List UInt8)):Array Value:=(rs.map (fun r=>Value.string ⟨r.toArray⟩)).toArray
theorem Q8 {rs:List (List UInt8)} {i:Nat} {r:List UInt8} (h:rs[i]?=some r):(M3 rs)[i]?=some (.string ⟨r.toArray⟩):=by unfold M3;simp[h]
theorem ZaD (bx br n c:Nat) (rs:List (List UInt8)) (i k:Nat) (ri rk:List UInt8) (w:World) (hG:ZP w) (hbx:Blk w bx #[.slice (some ⟨br,0,none⟩) n c]) (hbr:Blk w br (M3 rs)) (hi:rs[i]?=some ri) (hk:rs[k]?=some rk) (hn:rs.length=n) (hri:ri.length<=100000) (hrk:rk.length<=100000) :
  Calls Tryz.prog 292 #[.int .i64 i,.int .i64 k,.pointer (some ⟨bx,0,none⟩)] w fun e w'=>e=.returned (.int .i64 (orZ (Zx (val rk) (val ri)) (QP i k)))/\Below w.heap.size w w':=by
 have C1:=Lh (Zv (l:=rk) (l':=ri) (by omega) (by omega) rfl)
 have C2:=Lh (fun w'=>Zbg (i:Int) (k:Int) w')
 have rie:=Q8 hi;have rke:=Q8 hk;have li:i<n:=by rw[<-hn];exact (Lg.1 hi).1
 have lk:k<n:=by rw[<-hn];exact (Lg.1 hk).1
 obtain⟨x,hx⟩:∃x,x=Zx (val rk) (val ri):=⟨_,rfl⟩
 obtain⟨y,hy⟩:∃y,y=QP (i:Int) (k:Int):=⟨_,rfl⟩
 rw[<-hx] at C1 ⊢;rw[<-hy] at C2 ⊢;clear hi hk hri hrk hx hy hn;go_enter Tryz.func292,Tryz.ntmps292;go_wp2_with fail;refine VQ (by simp) (by simp) (by kernel_rfl) (by kernel_rfl) (by kernel_rfl) (by kernel_rfl) (by kernel_rfl) ?_
 simp only[List.dropLast_cons_cons,List.dropLast_singleton,List.getLast_cons_cons,List.getLast_singleton];refine Zb _ (fun _=>rfl) (fun ρ wz hw=>by have q0:wz.cell? ⟨bx,0,none⟩=some (.slice (some ⟨br,0,none⟩) n c):=(hbx.below hw).c 0;go_simp;try with_reducible rfl) ?_
 iterate 2
  simp only[Act.put,StT,StZ,StS,Nat.reduceAdd];refine Zb _ (fun _=>rfl) (fun ρ wz hw=>by go_simp;try with_reducible rfl) ?_
 simp only[Act.put,StT,StZ,StS,Nat.reduceAdd];refine Zb _ (fun _=>rfl) (fun ρ wz hw=>by have q0:wz.cell? ⟨br,k,none⟩=some (.string ⟨rk.toArray⟩):=((hbr.below hw).c k).trans rke;go_simp;try with_reducible rfl) ?_
 simp only[Act.put,StT,StZ,StS,Nat.reduceAdd];refine Zb _ (fun _=>rfl) (fun ρ wz hw=>by have q0:wz.cell? ⟨bx,0,none⟩=some (.slice (some ⟨br,0,none⟩) n c):=(hbx.below hw).c 0;go_simp;try with_reducible rfl) ?_
 iterate 2
  simp only[Act.put,StT,StZ,StS,Nat.reduceAdd];refine Zb _ (fun _=>rfl) (fun ρ wz hw=>by go_simp;try with_reducible rfl) ?_
 simp only[Act.put,StT,StZ,StS,Nat.reduceAdd];refine Zb _ (fun _=>rfl) (fun ρ wz hw=>by have q0:wz.cell? ⟨br,i,none⟩=some (.string ⟨ri.toArray⟩):=((hbr.below hw).c i).trans rie;go_simp;try with_reducible rfl) ?_
 simp only[Act.put,StT,StZ,StS,Nat.reduceAdd];refine Zl _ _ _ (fun _=>rfl) (fun ρ wz hw=>by go_simp;try with_reducible rfl) (fun wz hw=>C1.out.of hG hw) ?_
 iterate 2
  simp only[Act.put,StT,StZ,StS,Nat.reduceAdd];refine Zb _ (fun _=>rfl) (fun ρ wz hw=>by go_simp;try with_reducible rfl) ?_
 simp only[Act.put,StT,StZ,StS,Nat.reduceAdd];refine Zl _ _ _ (fun _=>rfl) (fun ρ wz hw=>by go_simp;try with_reducible rfl) (fun wz hw=>(C2.out wz).mono fun e w' h=>⟨h.1,h.2 ▸ Below.refl _ _⟩) ?_
 simp only[Act.put,StT,StZ,StS,Nat.reduceAdd];refine Wq (fun b=>.slice (some ⟨b,0,none⟩) 2 2) _ rfl (fun _=>rfl) (fun ρ wz hw=>by go_simp;try with_reducible rfl) ?_
 simp only[Act.put,StT,StZ,StS,Nat.reduceAdd];intro ρ w2 hF;dsimp only;have hB:=(hF.box 12 _ _ rfl).2;have hb2:=hF.below;generalize ρ 12=bb at *;have h0:w2.cell? ⟨bb,0,none⟩=some (.int .i64 x):=Zh hB 0;have h1:w2.cell? ⟨bb,1,none⟩=some (.int .i64 y):=Zh hB 1;clear hF hB C1 C2;go_wp2_with fail
 with_reducible refine (AH bb x y w2 h0 h1).mono ?_
 rintro e w3 ⟨rfl,rfl⟩;go_wp2;go_ret;exact⟨rfl,hb2⟩
def K9 (rs:List (List UInt8)) (i k:Nat):Int:=orZ (Zx (val (rs.getD k [])) (val (rs.getD i []))) (QP i k)
theorem F8 (a b:Int):(a<b/\Zx a b = -1)∨(a=b/\Zx a b=0)∨(b<a/\Zx a b=1):=by
 unfold Zx
 split
 ·exact .inl ⟨‹_›,rfl⟩
 ·split
  ·exact .inr (.inr ⟨by omega,rfl⟩)
  ·exact .inr (.inl ⟨by omega,rfl⟩)
theorem Cj (rs:List (List UInt8)) (i k:Nat):(K9 rs i k<0)↔(val (rs.getD k [])<val (rs.getD i [])∨(val (rs.getD k [])=val (rs.getD i [])/\i<k)):=by
 unfold K9 orZ;have h:=F8 (val (rs.getD k [])) (val (rs.getD i []));generalize Zx (val (rs.getD k [])) (val (rs.getD i []))=c at *;have h2:QP (i:Int) (k:Int)<0↔i<k:=by
  unfold QP
  split
  ·omega
  ·split<;>omega
 split
 ·rw[h2];omega
 ·omega
def Ym (f:List Int) (i:Nat):List Int:=f.take i++List.replicate (f.length-i) 0
theorem T3 (f:List Int):Ym f 0=List.replicate f.length 0:=by simp[Ym]
theorem Qh (f:List Int) (i:Nat):(Ym f i).length=f.length:=by simp[Ym];omega
theorem Qi (f:List Int) (i:Nat) (h:f.length<=i):Ym f i=f:=by
 unfold Ym;rw[List.take_of_length_le h,Nat.sub_eq_zero_of_le h];simp
theorem SH {f:List Int} {i k:Nat} (h:k<i) (hk:k<f.length):(Ym f i)[k]?=f[k]?:=by
 unfold Ym;rw[List.getElem?_append_left (by rw[List.length_take];omega),List.getElem?_take_of_lt h]
theorem VY {f:List Int} {i k:Nat} (h:i<=k) (hk:k<f.length):(Ym f i)[k]?=some 0:=by
 unfold Ym;rw[List.getElem?_append_right (by rw[List.length_take];omega),List.getElem?_replicate]
 rw[if_pos];rw[List.length_take];omega
theorem Qj {f:List Int} {i:Nat} {x:Int} (h:f[i]?=some x):(Ym f i).set i x=Ym f (i+1):=by
 obtain⟨hi,hx⟩:=Lg.1 h;apply List.ext_getElem?;intro k
 by_cases hk:k<f.length
 ·by_cases h1:k=i
  ·subst h1;rw[List.getElem?_set_self (by rw[Qh];exact hi),SH (Nat.lt_succ_self _) hi,h]
  ·rw[List.getElem?_set_ne (Ne.symm h1)]
   by_cases h2:k<i
   ·rw[SH h2 hk,SH (Nat.lt_succ_of_lt h2) hk]
   ·rw[VY (by omega) hk,VY (by omega) hk]
 ·rw[List.getElem?_eq_none (by rw[List.length_set,Qh];omega),List.getElem?_eq_none (by rw[Qh];omega)]
def WO (T S:Int) (ws:List Int):List Int:=ws.map fun w=>T*w / S
def VF (T S:Int) (ws:List Int):List Int:=ws.map fun w=>T*w % S
theorem J8 (T S:Int):∀ws:List Int,T*ws.sum=S*(WO T S ws).sum+(VF T S ws).sum
 | []=>by simp[WO,VF]
 | w::t=>by
  have ih:=J8 T S t;have h:=Int.mul_ediv_add_emod (T*w) S;simp only[WO,VF,List.map_cons,List.sum_cons,Int.mul_add] at *;omega
theorem F9 (T S:Int) (hS:0<S):∀ws:List Int,0<=(VF T S ws).sum/\(VF T S ws).sum+ws.length<=S*ws.length
 | []=>by simp[VF]
 | w::t=>by
  have ih:=F9 T S hS t;have h1:=Int.emod_nonneg (T*w) (Int.ne_of_gt hS);have h2:=Int.emod_lt_of_pos (T*w) hS;simp only[VF,List.map_cons,List.sum_cons,List.length_cons] at *;have h3:S*((t.length+1:Nat):Int)=S*(t.length:Int)+S:=by rw[Int.natCast_add,Int.mul_add];simp
  rw[h3];omega
theorem J9 (T:Int) (ws:List Int) (hS:0<ws.sum):0<=T-(WO T ws.sum ws).sum/\T-(WO T ws.sum ws).sum<ws.length:=by
 have h1:=J8 T ws.sum ws;have h2:=F9 T ws.sum hS ws;have hne:ws≠[]:=fun e=>by subst e;simp at hS
 have hl:0<(ws.length:Int):=by
  have:=List.length_pos_iff.2 hne
  omega
 generalize (WO T ws.sum ws).sum=F at *;generalize (VF T ws.sum ws).sum=R at *;generalize ws.sum=S at *;generalize (ws.length:Int)=n at *;have e:S*(T-F)=R:=by rw[Int.mul_sub,Int.mul_comm S T];omega
 constructor
 ·rcases Int.lt_or_le (T-F) 0 with h|h
  ·have:S*(T-F)<0:=Int.mul_neg_of_pos_of_neg hS h
   omega
  ·exact h
 ·rcases Int.lt_or_le (T-F) n with h|h
  ·exact h
  ·have:=Int.mul_le_mul_of_nonneg_left h (Int.le_of_lt hS)
   omega
def bump (ps:List Int) (i:Nat):List Int:=ps.modify i (· + 1)
def Wu (ps:List Int) (js:List Nat):List Int:=js.foldl bump ps
theorem M4 (ps:List Int) (i:Nat):(bump ps i).length=ps.length:=by simp[bump]
theorem O6:∀(js:List Nat) (ps:List Int),(Wu ps js).length=ps.length
 | [],_=>rfl
 | j::t,ps=>by show (Wu (bump ps j) t).length=_;rw[O6 t,M4]
theorem Ja (ps:List Int) (js:List Nat) (j:Nat):Wu ps (js++[j])=bump (Wu ps js) j:=by simp[Wu]
theorem Ea {ps:List Int} {i:Nat} {x:Int} (h:ps[i]?=some x):ps.set i (x+1)=bump ps i:=by
 unfold bump;obtain⟨hi,hx⟩:=Lg.1 h;apply List.ext_getElem?;intro k
 by_cases h1:k=i
 ·subst h1;rw[List.getElem?_set_self hi,List.getElem?_modify_eq,h];rfl
 ·rw[List.getElem?_set_ne (Ne.symm h1),List.getElem?_modify_ne _ _ (Ne.symm h1)]
theorem Ck (ps:List Int) (i k:Nat):(bump ps i)[k]?=(ps[k]?).map fun x=>x+(if k=i then 1 else 0):=by
 unfold bump
 by_cases h1:k=i
 ·subst h1;rw[List.getElem?_modify_eq];cases ps[k]?<;>simp
 ·rw[List.getElem?_modify_ne _ _ (Ne.symm h1)];cases ps[k]?<;>simp[h1]
theorem SI:∀(js:List Nat) (ps:List Int) (k:Nat),(Wu ps js)[k]?=(ps[k]?).map fun x=>x+(js.count k:Int)
 | [],ps,k=>by simp[Wu]
 | j::t,ps,k=>by
  show (Wu (bump ps j) t)[k]?=_;rw[SI t,Ck];cases ps[k]? with
  | none=>rfl
  | some x=>
   simp only[Option.map_some,List.count_cons];congr 1
   by_cases h:k=j
   ·subst h;simp;omega
   ·have:(j==k)=false:=by rw[Bn];exact Ne.symm h
    simp[h,this]
theorem M5:∀(ps:List Int) (i:Nat),i<ps.length->(bump ps i).sum=ps.sum+1
 | [],_,h=>by simp at h
 | p::t,0,_=>by simp[bump];omega
 | p::t,i+1,h=>by
  have ih:=M5 t i (by simpa using h)
  unfold bump at *;simp only[List.modify_succ_cons,List.sum_cons,ih];omega
theorem O7:∀(js:List Nat) (ps:List Int),(∀j∈js,j<ps.length)->(Wu ps js).sum=ps.sum+js.length
 | [],ps,_=>by simp[Wu]
 | j::t,ps,h=>by
  show (Wu (bump ps j) t).sum=_;rw[O7 t _ (fun x hx=>by rw[M4];exact h x (List.mem_cons_of_mem _ hx)),M5 _ _ (h j List.mem_cons_self)]
  simp;omega
structure P2 (T:Int) (ws ps:List Int):Prop where
 len:ps.length=ws.length
 sum:ps.sum=T
 at':∀k:Nat,ps[k]?=(WO T ws.sum ws)[k]?∨ps[k]?=((WO T ws.sum ws)[k]?).map (· + 1)
 ord:∀i k:Nat,i<ws.length->k<ws.length->ps[i]?=((WO T ws.sum ws)[i]?).map (· + 1)->ps[k]?=(WO T ws.sum ws)[k]?->
  (VF T ws.sum ws).getD k 0<(VF T ws.sum ws).getD i 0∨((VF T ws.sum ws).getD k 0=(VF T ws.sum ws).getD i 0/\i<k)
theorem Eb (T:Int) (ws:List Int) (hS:0<ws.sum) (js:List Nat) (hp:js.Perm (List.range ws.length))
  (hs:js.Pairwise fun i k=>(VF T ws.sum ws).getD k 0<(VF T ws.sum ws).getD i 0∨((VF T ws.sum ws).getD k 0=(VF T ws.sum ws).getD i 0/\i<k)) :
  P2 T ws (Wu (WO T ws.sum ws) (js.take (T-(WO T ws.sum ws).sum).toNat)):=by
 obtain⟨m0,m1⟩:=J9 T ws hS;have hl:(WO T ws.sum ws).length=ws.length:=by simp[WO]
 have hjl:js.length=ws.length:=by rw[hp.length_eq,List.length_range]
 have hnd:js.Nodup:=hp.nodup_iff.2 List.nodup_range;have hmem:∀j,j∈js↔j<ws.length:=fun j=>by rw[hp.mem_iff,List.mem_range]
 obtain⟨M,hM⟩:∃M,M=(T-(WO T ws.sum ws).sum).toNat:=⟨_,rfl⟩
 rw[<-hM];have hcnt:∀k,(js.take M).count k=if k∈js.take M then 1 else 0:=fun k=>(hnd.sublist (List.take_sublist M js)).count
 refine⟨by rw[O6,hl],?_,fun k=>?_,fun i k hi hk h1 h2=>?_⟩
 ·rw[O7 _ _ (fun j hj=>by rw[hl];exact (hmem j).1 (List.mem_of_mem_take hj)),List.length_take,hjl]
  omega
 ·rw[SI,hcnt]
  split
  ·right;cases (WO T ws.sum ws)[k]?<;>rfl
  ·left;cases (WO T ws.sum ws)[k]?<;>simp
 ·rw[SI,hcnt] at h1 h2;have gi:∃x,(WO T ws.sum ws)[i]?=some x:=⟨_,List.getElem?_eq_getElem (by omega)⟩
  have gk:∃x,(WO T ws.sum ws)[k]?=some x:=⟨_,List.getElem?_eq_getElem (by omega)⟩
  obtain⟨x,hx⟩:=gi;obtain⟨y,hy⟩:=gk;rw[hx] at h1;rw[hy] at h2;simp only[Option.map_some,Option.some.injEq] at h1 h2;have mi:i∈js.take M:=by
   by_cases h:i∈js.take M
   ·exact h
   ·rw[if_neg h] at h1;simp at h1;omega
  have mk:k∈js.drop M:=by
   by_cases h:k∈js.take M
   ·rw[if_pos h] at h2;simp at h2;omega
   ·have:k∈js.take M++js.drop M:=by rw[List.take_append_drop];exact (hmem k).2 hk
    rcases List.mem_append.1 this with h3|h3
    ·exact absurd h3 h
    ·exact h3
  have hs2:=hs;rw[<-List.take_append_drop M js] at hs2;exact (List.pairwise_append.1 hs2).2.2 i mi k mk
theorem NU (n:Nat):(List.finRange n).map Fin.val=List.range n:=by
 apply List.ext_getElem<;>simp
theorem TM {α:Type} (a:Array α) (n:Nat) (h:a.size=n):a.extract 0 n=a:=by subst h;simp
def QR (R:Nat->Int) (x y:Nat):Prop:=R y<R x∨(R y=R x/\x<y)
theorem Ec {n:Nat} (R:Nat->Int) (lt:Fin n->Fin n->Bool) (hlt:∀x y,lt x y=true↔QR R x y):Go.Sort.SWO lt:=by
 have hf:∀x y,lt x y=false↔¬QR R x y:=fun x y=>by rw[<-hlt];cases lt x y<;>simp
 refine⟨fun x=>(hf x x).2 ?_,fun x y z h1 h2=>?_,fun x y z h1 h2=>?_⟩
 ·unfold QR;omega
 ·rw[hlt] at *;unfold QR at *;omega
 ·rw[hf] at *;unfold QR at *;omega
theorem ZaE {n:Nat} [Inhabited (Fin n)] (R:Nat->Int) (lt:Fin n->Fin n->Bool) (hlt:∀x y,lt x y=true↔QR R x y) (d':Array (Fin n))
  (hp:Go.Sort.PermIn 0 n (List.finRange n).toArray d') (hs:Go.Sort.SortedIn lt 0 n d') :
  (d'.toList.map Fin.val).Perm (List.range n)/\(d'.toList.map Fin.val).Pairwise (QR R):=by
 have hf:∀x y,lt x y=false↔¬QR R x y:=fun x y=>by rw[<-hlt];cases lt x y<;>simp
 obtain⟨hz,-,hp⟩:=hp;have hz:d'.size=n:=by simpa using hz
 have e1:d'.extract 0 n=d':=TM _ _ hz;have e2:(List.finRange n).toArray.extract 0 n=(List.finRange n).toArray:=TM _ _ (by simp)
 rw[e1,e2] at hp;have hp2:(d'.toList.map Fin.val).Perm (List.range n):=by
  rw[<-NU];exact hp.map _
 refine⟨hp2,?_⟩;have hnd:(d'.toList.map Fin.val).Nodup:=hp2.nodup_iff.2 List.nodup_range;rw[List.pairwise_iff_getElem];intro i j hi hj hij;have hj2:j<d'.size:=by simpa using hj
 have hi2:i<d'.size:=by simpa using hi
 have h1:=hs i j (Nat.zero_le _) hij (by omega)
 rw[getElem!_pos d' i hi2,getElem!_pos d' j hj2,hf] at h1;have h2:(d'.toList.map Fin.val)[i]≠(d'.toList.map Fin.val)[j]:=fun e=>by
  have:=(List.getElem_inj hnd).1 e
  omega
 simp only[List.getElem_map,Array.getElem_toList] at h2 ⊢;unfold QR at *;omega
end Go.Proofs.YtpieeldbamklkaaGreatDoor
namespace Go.Proofs
open Go.Shelf
def Tryz.laysC174_ren:Go.Shelf.Ren:=⟨fun|174=>321|247=>330|245=>195|287=>194|279=>253|280=>254|281=>255|282=>256|321=>251|322=>252|316=>299|171=>140|205=>300|243=>203|246=>267|283=>258|284=>259|285=>260|286=>261|129=>302|317=>301|318=>303|319=>304|320=>305|337=>326|338=>327|n=>n,fun|9=>9|3=>3|2=>2|75=>209|85=>388|4=>4|167=>327|5=>5|53=>207|175=>210|46=>283|168=>329|37=>214|0=>0|210=>374|21=>21|127=>289|145=>394|143=>392|171=>334|173=>337|212=>378|51=>339|20=>20|213=>379|232=>410|233=>411|80=>222|n=>n,fun|15=>0|16=>1|17=>2|18=>6|19=>7|n=>n⟩
theorem Tryz.laysC174:Go.Proofs.LaysC.n174 Tryz.prog Tryz.laysC174_ren:={
 mixed:=by kernel_rfl
 f129:=Tryz.func302.trans (congrArg some (by kernel_rfl))
 f171:=Tryz.func140.trans (congrArg some (by kernel_rfl))
 f174:=Tryz.func321.trans (congrArg some (by kernel_rfl))
 f205:=Tryz.func300.trans (congrArg some (by kernel_rfl))
 f243:=Tryz.func203.trans (congrArg some (by kernel_rfl))
 f245:=Tryz.func195.trans (congrArg some (by kernel_rfl))
 f246:=Tryz.func267.trans (congrArg some (by kernel_rfl))
 f247:=Tryz.func330.trans (congrArg some (by kernel_rfl))
 f279:=Tryz.func253.trans (congrArg some (by kernel_rfl))
 f280:=Tryz.func254.trans (congrArg some (by kernel_rfl))
 f281:=Tryz.func255.trans (congrArg some (by kernel_rfl))
 f282:=Tryz.func256.trans (congrArg some (by kernel_rfl))
 f283:=Tryz.func258.trans (congrArg some (by kernel_rfl))
 f284:=Tryz.func259.trans (congrArg some (by kernel_rfl))
 f285:=Tryz.func260.trans (congrArg some (by kernel_rfl))
 f286:=Tryz.func261.trans (congrArg some (by kernel_rfl))
 f287:=Tryz.func194.trans (congrArg some (by kernel_rfl))
 f316:=Tryz.func299.trans (congrArg some (by kernel_rfl))
 f317:=Tryz.func301.trans (congrArg some (by kernel_rfl))
 f318:=Tryz.func303.trans (congrArg some (by kernel_rfl))
 f319:=Tryz.func304.trans (congrArg some (by kernel_rfl))
 f320:=Tryz.func305.trans (congrArg some (by kernel_rfl))
 f321:=Tryz.func251.trans (congrArg some (by kernel_rfl))
 f322:=Tryz.func252.trans (congrArg some (by kernel_rfl))
 f337:=Tryz.func326.trans (congrArg some (by kernel_rfl))
 f338:=Tryz.func327.trans (congrArg some (by kernel_rfl))
 t0:=Tryz.underlying0
 a0:=Tryz.isAgg0
 z0:=Tryz.sizeOf0
 v0:=Tryz.zeroValue0
 t2:=Tryz.underlying2
 a2:=Tryz.isAgg2
 z2:=Tryz.sizeOf2
 v2:=Tryz.zeroValue2
 t3:=Tryz.underlying3
 a3:=Tryz.isAgg3
 z3:=Tryz.sizeOf3
 v3:=Tryz.zeroValue3
 t4:=Tryz.underlying4
 a4:=Tryz.isAgg4
 z4:=Tryz.sizeOf4
 v4:=Tryz.zeroValue4
 t5:=Tryz.underlying5
 a5:=Tryz.isAgg5
 z5:=Tryz.sizeOf5
 v5:=Tryz.zeroValue5
 t9:=Tryz.underlying9
 a9:=Tryz.isAgg9
 z9:=Tryz.sizeOf9
 v9:=Tryz.zeroValue9
 t20:=Tryz.underlying20
 a20:=Tryz.isAgg20
 z20:=Tryz.sizeOf20
 v20:=Tryz.zeroValue20
 t21:=Tryz.underlying21
 a21:=Tryz.isAgg21
 z21:=Tryz.sizeOf21
 v21:=Tryz.zeroValue21
 t37:=Tryz.underlying214
 a37:=Tryz.isAgg214
 z37:=Tryz.sizeOf214
 v37:=Tryz.zeroValue214
 t46:=Tryz.underlying283
 a46:=Tryz.isAgg283
 z46:=Tryz.sizeOf283
 v46:=Tryz.zeroValue283
 t51:=Tryz.underlying339
 a51:=Tryz.isAgg339
 z51:=Tryz.sizeOf339
 v51:=Tryz.zeroValue339
 t53:=Tryz.underlying207
 a53:=Tryz.isAgg207
 z53:=Tryz.sizeOf207
 v53:=Tryz.zeroValue207
 t75:=Tryz.underlying209
 a75:=Tryz.isAgg209
 z75:=Tryz.sizeOf209
 v75:=Tryz.zeroValue209
 t85:=Tryz.underlying388
 a85:=Tryz.isAgg388
 z85:=Tryz.sizeOf388
 v85:=Tryz.zeroValue388
 t127:=Tryz.underlying289
 a127:=Tryz.isAgg289
 z127:=Tryz.sizeOf289
 v127:=Tryz.zeroValue289
 t143:=Tryz.underlying392
 a143:=Tryz.isAgg392
 z143:=Tryz.sizeOf392
 v143:=Tryz.zeroValue392
 t145:=Tryz.underlying394
 a145:=Tryz.isAgg394
 z145:=Tryz.sizeOf394
 v145:=Tryz.zeroValue394
 t167:=Tryz.underlying327
 a167:=Tryz.isAgg327
 z167:=Tryz.sizeOf327
 v167:=Tryz.zeroValue327
 t168:=Tryz.underlying329
 a168:=Tryz.isAgg329
 z168:=Tryz.sizeOf329
 v168:=Tryz.zeroValue329
 t171:=Tryz.underlying334
 a171:=Tryz.isAgg334
 z171:=Tryz.sizeOf334
 v171:=Tryz.zeroValue334
 t173:=Tryz.underlying337
 a173:=Tryz.isAgg337
 z173:=Tryz.sizeOf337
 v173:=Tryz.zeroValue337
 t175:=Tryz.underlying210
 a175:=Tryz.isAgg210
 z175:=Tryz.sizeOf210
 v175:=Tryz.zeroValue210
 t210:=Tryz.underlying374
 a210:=Tryz.isAgg374
 z210:=Tryz.sizeOf374
 v210:=Tryz.zeroValue374
 t212:=Tryz.underlying378
 a212:=Tryz.isAgg378
 z212:=Tryz.sizeOf378
 v212:=Tryz.zeroValue378
 t213:=Tryz.underlying379
 a213:=Tryz.isAgg379
 z213:=Tryz.sizeOf379
 t232:=Tryz.underlying410
 a232:=Tryz.isAgg410
 z232:=Tryz.sizeOf410
 v232:=Tryz.zeroValue410
 t233:=Tryz.underlying411
 a233:=Tryz.isAgg411
 z233:=Tryz.sizeOf411
 v233:=Tryz.zeroValue411
 g15:=by kernel_rfl
 g16:=by kernel_rfl
 g17:=by kernel_rfl
 g18:=by kernel_rfl
 g19:=by kernel_rfl
 t80:=Tryz.underlying222
 a80:=Tryz.isAgg222
 z80:=Tryz.sizeOf222
 v80:=Tryz.zeroValue222
 i0:=by kernel_rfl
 i2:=by kernel_rfl
 i3:=by kernel_rfl
 i4:=by kernel_rfl
 i5:=by kernel_rfl
 i9:=by kernel_rfl
 i20:=by kernel_rfl
 i21:=by kernel_rfl
 i37:=by kernel_rfl
 i46:=by kernel_rfl
 i51:=by kernel_rfl
 i53:=by kernel_rfl
 i75:=by kernel_rfl
 i80:=by kernel_rfl
 i85:=by kernel_rfl
 i127:=by kernel_rfl
 i143:=by kernel_rfl
 i145:=by kernel_rfl
 i167:=by kernel_rfl
 i168:=by kernel_rfl
 i171:=by kernel_rfl
 i173:=by kernel_rfl
 i175:=by kernel_rfl
 i210:=by kernel_rfl
 i212:=by kernel_rfl
 i232:=by kernel_rfl
 i233:=by kernel_rfl
 m15:=by kernel_rfl
 m16:=by kernel_rfl
 m17:=by kernel_rfl
 m18:=by kernel_rfl
 m19:=by kernel_rfl
 c0:=by kernel_rfl
 c2:=by kernel_rfl
 c3:=by kernel_rfl
 c4:=by kernel_rfl
 c5:=by kernel_rfl
 c9:=by kernel_rfl
 c20:=by kernel_rfl
 c21:=by kernel_rfl
 c37:=by kernel_rfl
 c46:=by kernel_rfl
 c51:=by kernel_rfl
 c53:=by kernel_rfl
 c75:=by kernel_rfl
 c80:=by kernel_rfl
 c85:=by kernel_rfl
 c127:=by kernel_rfl
 c143:=by kernel_rfl
 c145:=by kernel_rfl
 c167:=by kernel_rfl
 c168:=by kernel_rfl
 c171:=by kernel_rfl
 c173:=by kernel_rfl
 c175:=by kernel_rfl
 c210:=by kernel_rfl
 c212:=by kernel_rfl
 c213:=by kernel_rfl
 c232:=by kernel_rfl
 c233:=by kernel_rfl }
open Go.RowKit in
theorem Tryz.strconv_ParseInt_10_at64_ok (s:ByteArray) (hmax:s.size<=9223372036854775806) (v:Int) (h:Lib.parseIntB 64 s.data.toList=.ok v) (w:World) :
  Calls Tryz.prog 321 #[.string s,.int .i64 10,.int .i64 64] w fun e w'=>e=.returned (.tuple #[.int .i64 v,.nilIface])/\(w'=w∨∃t,w'=Lib.bytesWorld w 5 t):=Any.strconv_ParseInt_10_at64_ok Tryz.laysC174 s hmax v h w
def Tryz.laysSlF6_f291_ren:Go.Shelf.Ren:=⟨fun|6=>291|15=>319|14=>318|28=>340|29=>302|20=>332|21=>333|22=>334|23=>335|24=>336|25=>337|26=>338|27=>339|46=>348|47=>349|48=>350|49=>351|50=>352|57=>355|n=>n,fun|22=>198|24=>3|25=>363|3=>3|39=>283|0=>0|53=>339|55=>207|4=>4|46=>399|45=>398|50=>247|5=>5|9=>9|66=>412|70=>416|76=>419|77=>420|n=>n,fun|n=>n⟩
theorem Tryz.laysSlF6_f291:Go.Proofs.SlLaysF.n6 Tryz.prog Tryz.laysSlF6_f291_ren:={
 mixed:=by kernel_rfl
 f6:=⟨Tryz.f291.name,by decide,Tryz.func291.trans (congrArg some (by kernel_rfl))⟩
 f14:=⟨Tryz.f318.name,by decide,Tryz.func318.trans (congrArg some (by kernel_rfl))⟩
 f15:=Tryz.func319.trans (congrArg some (by kernel_rfl))
 f20:=⟨Tryz.f332.name,by decide,Tryz.func332.trans (congrArg some (by kernel_rfl))⟩
 f21:=⟨Tryz.f333.name,by decide,Tryz.func333.trans (congrArg some (by kernel_rfl))⟩
 f22:=⟨Tryz.f334.name,by decide,Tryz.func334.trans (congrArg some (by kernel_rfl))⟩
 f23:=⟨Tryz.f335.name,by decide,Tryz.func335.trans (congrArg some (by kernel_rfl))⟩
 f24:=⟨Tryz.f336.name,by decide,Tryz.func336.trans (congrArg some (by kernel_rfl))⟩
 f25:=⟨Tryz.f337.name,by decide,Tryz.func337.trans (congrArg some (by kernel_rfl))⟩
 f26:=⟨Tryz.f338.name,by decide,Tryz.func338.trans (congrArg some (by kernel_rfl))⟩
 f27:=⟨Tryz.f339.name,by decide,Tryz.func339.trans (congrArg some (by kernel_rfl))⟩
 f28:=Tryz.func340.trans (congrArg some (by kernel_rfl))
 f29:=Tryz.func302.trans (congrArg some (by kernel_rfl))
 f46:=⟨Tryz.f348.name,by decide,Tryz.func348.trans (congrArg some (by kernel_rfl))⟩
 f47:=Tryz.func349.trans (congrArg some (by kernel_rfl))
 f48:=Tryz.func350.trans (congrArg some (by kernel_rfl))
 f49:=⟨Tryz.f351.name,by decide,Tryz.func351.trans (congrArg some (by kernel_rfl))⟩
 f50:=⟨Tryz.f352.name,by decide,Tryz.func352.trans (congrArg some (by kernel_rfl))⟩
 f57:=⟨Tryz.f355.name,by decide,Tryz.func355.trans (congrArg some (by kernel_rfl))⟩
 t0:=Tryz.underlying0
 a0:=Tryz.isAgg0
 z0:=Tryz.sizeOf0
 v0:=Tryz.zeroValue0
 t3:=Tryz.underlying3
 a3:=Tryz.isAgg3
 z3:=Tryz.sizeOf3
 v3:=Tryz.zeroValue3
 t4:=Tryz.underlying4
 a4:=Tryz.isAgg4
 z4:=Tryz.sizeOf4
 v4:=Tryz.zeroValue4
 t5:=Tryz.underlying5
 a5:=Tryz.isAgg5
 z5:=Tryz.sizeOf5
 v5:=Tryz.zeroValue5
 t9:=Tryz.underlying9
 a9:=Tryz.isAgg9
 z9:=Tryz.sizeOf9
 v9:=Tryz.zeroValue9
 t22:=Tryz.underlying198
 a22:=Tryz.isAgg198
 z22:=Tryz.sizeOf198
 v22:=Tryz.zeroValue198
 a24:=Tryz.isAgg3
 z24:=Tryz.sizeOf3
 t25:=Tryz.underlying363
 a25:=Tryz.isAgg363
 z25:=Tryz.sizeOf363
 v25:=Tryz.zeroValue363
 t39:=Tryz.underlying283
 a39:=Tryz.isAgg283
 z39:=Tryz.sizeOf283
 v39:=Tryz.zeroValue283
 t45:=Tryz.underlying398
 a45:=Tryz.isAgg398
 z45:=Tryz.sizeOf398
 v45:=Tryz.zeroValue398
 t46:=Tryz.underlying399
 a46:=Tryz.isAgg399
 z46:=Tryz.sizeOf399
 v46:=Tryz.zeroValue399
 t50:=Tryz.underlying247
 a50:=Tryz.isAgg247
 z50:=Tryz.sizeOf247
 v50:=Tryz.zeroValue247
 t53:=Tryz.underlying339
 a53:=Tryz.isAgg339
 z53:=Tryz.sizeOf339
 v53:=Tryz.zeroValue339
 t55:=Tryz.underlying207
 a55:=Tryz.isAgg207
 z55:=Tryz.sizeOf207
 v55:=Tryz.zeroValue207
 t66:=Tryz.underlying412
 a66:=Tryz.isAgg412
 z66:=Tryz.sizeOf412
 v66:=Tryz.zeroValue412
 t70:=Tryz.underlying416
 a70:=Tryz.isAgg416
 z70:=Tryz.sizeOf416
 v70:=Tryz.zeroValue416
 t76:=Tryz.underlying419
 a76:=Tryz.isAgg419
 z76:=Tryz.sizeOf419
 v76:=Tryz.zeroValue419
 t77:=Tryz.underlying420
 a77:=Tryz.isAgg420
 z77:=Tryz.sizeOf420
 v77:=Tryz.zeroValue420 }
open Go.RowKit Go.Lib Go.Sort in
theorem Tryz.sortInt {α:Type} [Inhabited α] (enc:α->Value) (h1:OneCell enc) (cf:α->α->Int) (hO:SWO (ltOf cf)) (g:Nat) (cb:Array Value) (blk off cap:Nat) (d:Array α) (w:World) (eg:∀args w,(callFunc g args).run Tryz.prog w=.ok (.enter g args) w) (hcmp:CmpLays1 Tryz.prog g cb enc cf blk off d.size w) (hH:Holds enc w blk off d) (hblk:blk<w.heap.size) (hsz:d.size<4611686018427387904) :
  Calls Tryz.prog 291 #[.slice (some ⟨blk,off,none⟩) d.size cap,.func (.func g) #[] cb] w fun e w'=>
   e=.returned (.tuple #[])/\∃d' n os,PermIn 0 d.size d d'/\SortedIn (ltOf cf) 0 d.size d'/\w'=sortWorld enc w blk off n d' os:=Any.slices_SortFunc Tryz.laysSlF6_f291 enc h1 cf hO g cb blk off cap d w eg hcmp hH hblk hsz
end Go.Proofs
namespace Go.Proofs.YtpieeldbamklkaaGreatDoor
open Go.RowKit Num
theorem M6:((List.range 1001).all fun n=>match Lib.parseIntB 64 (Yg (n:Int)) with|.ok v=>v==(n:Int)|_=>false)=true:=by kernel_rfl
theorem P3 {n:Nat} (h:n<=1000):Lib.parseIntB 64 (Yg (n:Int))=.ok (n:Int):=by
 have:=List.all_eq_true.1 M6 n (List.mem_range.2 (by omega))
 revert this;cases Lib.parseIntB 64 (Yg (n:Int)) with
 | ok v=>intro h;rw[beq_iff_eq] at h;rw[h]
 | _=>intro h;cases h
theorem AL {n:Nat} (h:n<=1000):Ret 294 #[.string ⟨(canon (n:Int)).toArray⟩] (.tuple #[.int .i64 (n:Int),.bool true]):=fun w hG=>by
 have hl:(canon (n:Int)).length<=100:=Nt (Zn (n:Int) 4 (by omega)) (by decide)
 have hp:=NH (n:Int);have hs:=P3 h;have hz:(⟨(Yg (n:Int)).toArray⟩:ByteArray).size<=9223372036854775806:=by
  show (Yg (n:Int)).toArray.size<=_
  have:=NJ (n:Int) (by omega) (by omega)
  simp;omega
 have C1:=Lh (LS (canon (n:Int)) w (by exact Nt hl (by decide)))
 have C2:=Lh (fun w'=>Tryz.strconv_ParseInt_10_at64_ok ⟨(Yg (n:Int)).toArray⟩ hz (n:Int) hs w')
 rw[hp] at C1;obtain⟨s,hse⟩:∃s,s=canon (n:Int):=⟨_,rfl⟩
 obtain⟨p,hpe⟩:∃p,p=Yg (n:Int):=⟨_,rfl⟩
 rw[<-hse] at C1 ⊢;rw[<-hpe] at C1 C2;clear hl hp hs hz hse hpe;go_enter Tryz.func294,Tryz.ntmps294;go_wp2_with fail;refine C1.out.mono ?_;rintro e w1 ⟨rfl,hb1⟩;go_wp2_with fail;refine (C2.out w1).mono ?_;rintro e w2 ⟨rfl,hw2⟩;have hb2:Below w1.heap.size w1 w2:=by
  rcases hw2 with rfl|⟨t,rfl⟩
  ·exact Below.refl _ _
  ·exact bytesWorld_below _ _ _
 have hb:=bto hb1 hb2;clear hw2 hb1 hb2 C1 C2;go_wp2;go_ret2;exact⟨rfl,hb⟩
def zsC (zs:List Int):Array Value:=M3 (zs.map canon)
def izC (zs:List Int):Array Value:=(zs.map (fun z=>Value.int .i64 z)).toArray
def Tx (js:List Nat):Array Value:=(js.map (fun (k:Nat)=>Value.int .i64 (k:Int))).toArray
theorem T4 {zs:List Int} {k:Nat} {z:Int} (h:zs[k]?=some z):(zsC zs)[k]?=some (.string ⟨(canon z).toArray⟩):=Q8 (by simp[h])
theorem Q9 (zs:List Int) (k:Nat) (z:Int):(zsC zs).setIfInBounds k (.string ⟨(canon z).toArray⟩)=zsC (zs.set k z):=by
 unfold zsC M3;simp[List.map_set]
theorem Cl (zs:List Int) (k:Nat) (z:Int):(izC zs).setIfInBounds k (.int .i64 z)=izC (zs.set k z):=by
 unfold izC;simp[List.map_set]
theorem Ie {js:List Nat} {k j:Nat} (h:js[k]?=some j):(Tx js)[k]?=some (.int .i64 (j:Int)):=by simp[Tx,h]
theorem Cm (js:List Nat):izC (js.map (fun (k:Nat)=>(k:Int)))=Tx js:=by simp[izC,Tx]
section
variable {α:Type} [Inhabited α]
theorem O8 (enc:α->Value) (w:World) (bo:Nat) (cs:Array Value) (t:TypeId) (h:w.heap[bo]?=some (.cells cs t (0,0))) (d':Array α) (hs:d'.size=cs.size) (m:Nat) (os:Array Obj) :
  (Sort.grow (Sort.putRow enc (Sort.ahead w m) bo 0 d') os).heap[bo]?=some (.cells (d'.map enc) t (0,0))/\Zr (fun b=>b=bo) w (Sort.grow (Sort.putRow enc (Sort.ahead w m) bo 0 d') os):=by
 have hb:bo<w.heap.size:=(Ag.1 h).1;have e:Sort.putCells enc 0 d' cs=d'.map enc:=by
  apply Array.ext
  ·simp[Sort.putCells,hs]
  ·intro i h1 h2;have h3:i<d'.size:=by simpa using h2
   simp only[Sort.putCells,Array.getElem_mapIdx,Array.getElem_map];rw[if_pos (by omega),Nat.sub_zero,getElem!_pos d' i h3]
 refine⟨?_,rfl,rfl,rfl,?_,fun k hk hne=>?_⟩
 ·rw[Sort.heap_grow_old _ _ (by rw[Sort.size_putRow];exact hb)]
  unfold Sort.putRow Sort.mapBlock Sort.ahead;simp only[Array.getElem?_modify,if_true,h,Option.map_some,Sort.onCells,e]
 ·rw[Sort.size_grow,Sort.size_putRow];exact Nat.le_add_right _ _
 ·have hne:bo≠k:=fun e=>hne e.symm
  rw[Sort.heap_grow_old _ _ (by rw[Sort.size_putRow];exact hk)]
  unfold Sort.putRow Sort.mapBlock Sort.ahead;simp only[Array.getElem?_modify,if_neg hne]
end
theorem Ed (args:Array Value) (w:World):(callFunc 292 args).run Tryz.prog w=.ok (.enter 292 args) w:=by kernel_rfl
theorem ZaF {w0 w:World} {bx br bo n:Nat} {t:TypeId} (rs:List (List UInt8)) (hG:ZP w0) (hb:Below w0.heap.size w0 w) (hbo1:w0.heap.size<=bo) (hbx:Blk w bx #[.slice (some ⟨br,0,none⟩) n n]) (hbr:Blk w br (M3 rs)) (hbo:w.heap[bo]?=some (.cells (Tx (List.range n)) t (0,0)))
  (hn:rs.length=n) (hn0:0<n) (hn1:n<=100000) (hrl:∀r∈rs,r.length<=100000) (hne:bx≠bo) (hne2:br≠bo) :
  Calls Tryz.prog 291 #[.slice (some ⟨bo,0,none⟩) n n,.func (.func 292) #[] #[.pointer (some ⟨bx,0,none⟩)]] w fun e w'=>e=.returned (.tuple #[])/\
   (∃js:List Nat,js.Perm (List.range n)/\js.Pairwise (QR fun i=>val (rs.getD i []))/\w'.heap[bo]?=some (.cells (Tx js) t (0,0)))/\Zr (fun b=>b=bo) w w':=by
 obtain⟨m,rfl⟩:∃m,n=m+1:=⟨n-1,by omega⟩
 have hlt:∀x y:Fin (m+1),ltOf (fun x y:Fin (m+1)=>K9 rs x y) x y=true↔QR (fun i=>val (rs.getD i [])) x y:=fun x y=>by
  unfold ltOf;rw[decide_eq_true_iff];exact Cj rs x y
 have hO:=Ec (fun i=>val (rs.getD i [])) _ hlt
 have hd:(List.finRange (m+1)).toArray.size=m+1:=by simp
 have hcs:(Tx (List.range (m+1))).size=m+1:=by simp[Tx]
 have hlow:∀k,k=bo->w0.heap.size<=k:=fun k hk=>by rw[hk];exact hbo1
 have hH:Sort.Holds (fun x:Fin (m+1)=>Value.int .i64 (x.val:Int)) w bo 0 (List.finRange (m+1)).toArray:=fun j hj=>by
  rw[hd] at hj;rw[Nat.zero_add];refine⟨?_,Zq hbo j⟩;rw[Zh hbo j,Ie (j:=j) (by simp[hj]),getElem!_pos _ j (by rw[hd];exact hj)]
  simp
 have hcmp:CmpLays1 Tryz.prog 292 #[.pointer (some ⟨bx,0,none⟩)] (fun x:Fin (m+1)=>Value.int .i64 (x.val:Int)) (fun x y:Fin (m+1)=>K9 rs x y) bo 0 (List.finRange (m+1)).toArray.size w:=fun q os dk hs x y=>by
  rw[hd] at hs;obtain⟨h1,h2⟩:=O8 (fun x:Fin (m+1)=>Value.int .i64 (x.val:Int)) w bo _ t hbo dk (by rw[hs,hcs]) q os
  have hx:∃r,rs[x.val]?=some r:=⟨_,List.getElem?_eq_getElem (by rw[hn];exact x.isLt)⟩
  have hy:∃r,rs[y.val]?=some r:=⟨_,List.getElem?_eq_getElem (by rw[hn];exact y.isLt)⟩
  obtain⟨ri,hri⟩:=hx;obtain⟨rk,hrk⟩:=hy;have hk:=Go.Proofs.YtpieeldbamklkaaGreatDoorMono.calls_grown (ZaD bx br (m+1) (m+1) rs x.val y.val ri rk _ (hG.below (h2.lower hb hlow)) (hbx.keepX h2 hne) (hbr.keepX h2 hne2) hri hrk hn (hrl ri (Lm hri)) (hrl rk (Lm hrk)));have e:orZ (Zx (val rk) (val ri)) (QP (x.val:Int) (y.val:Int))=K9 rs x y:=by
   unfold K9;rw[List.getD_eq_getElem?_getD,List.getD_eq_getElem?_getD,hri,hrk];rfl
  rw[e] at hk;exact hk
 have key:=Tryz.sortInt (fun x:Fin (m+1)=>Value.int .i64 (x.val:Int)) (fun _=>rfl) (fun x y:Fin (m+1)=>K9 rs x y) hO 292 #[.pointer (some ⟨bx,0,none⟩)] bo 0 (m+1) (List.finRange (m+1)).toArray w Ed hcmp hH (Ag.1 hbo).1 (Nat.lt_of_le_of_lt (by rw[hd];exact hn1) (by decide))
 rw[hd] at key;refine key.mono ?_;rintro e w' ⟨he,d',q,os,hp,hs,hw⟩;obtain⟨j1,j2⟩:=ZaE (fun i=>val (rs.getD i [])) _ hlt d' hp hs
 have hsz:d'.size=(Tx (List.range (m+1))).size:=by rw[hcs];exact hp.1.trans hd
 obtain⟨h1,h2⟩:=O8 (fun x:Fin (m+1)=>Value.int .i64 (x.val:Int)) w bo _ t hbo d' hsz q os
 have hw2:w'=Sort.grow (Sort.putRow (fun x:Fin (m+1)=>Value.int .i64 (x.val:Int)) (Sort.ahead w q) bo 0 d') os:=hw
 rw[hw2];refine⟨he,⟨_,j1,j2,h1.trans ?_⟩,h2⟩;congr 2;apply Array.ext';simp[Tx]
theorem Tl:(Tryz.prog.info? 32).map (fun i=>(i.zero,i.size,i.bytes))=some (some (.string ⟨#[]⟩),1,16):=by kernel_rfl
theorem Ge:(Tryz.prog.info? 3).map (fun i=>(i.zero,i.size,i.bytes))=some (some (.int .i64 0),1,8):=by kernel_rfl
theorem Ee (n:Nat) (hn:n<=100000) (w:World) :
  (Instr.makeSlice 50 (.int .i64 (n:Int)) (.int .i64 (n:Int))).run Tryz.prog w=.ok (.slice (some ⟨w.heap.size,0,none⟩) n n) (w.alloc (.cells (zsC (List.replicate n 0)) 32)):=by
 obtain⟨i0,hi,hz0,hz1,hz2⟩:=info_parts Tl;rw[VB 50 32 i0 (.string ⟨#[]⟩) Tryz.underlying50 hi hz0 .i64 .i64 n n (Nl _) (by rw[hz2];omega) (by omega) w,hz1]
 have:madeCells (Value.string ⟨#[]⟩).cells (n*1)=zsC (List.replicate n 0):=by
  apply Array.ext';show (madeCells #[Value.string ⟨#[]⟩] (n*1)).toList=_;have e:(canon 0).toArray=#[]:=by decide
  rw[toList_madeCells_one];simp[zsC,M3,List.map_replicate,e]
 rw[this]
theorem Ef (n:Nat) (hn:n<=100000) (w:World) :
  (Instr.makeSlice 198 (.int .i64 (n:Int)) (.int .i64 (n:Int))).run Tryz.prog w=.ok (.slice (some ⟨w.heap.size,0,none⟩) n n) (w.alloc (.cells (izC (List.replicate n 0)) 3)):=by
 obtain⟨i0,hi,hz0,hz1,hz2⟩:=info_parts Ge;rw[VB 198 3 i0 (.int .i64 0) Tryz.underlying198 hi hz0 .i64 .i64 n n (Nl _) (by rw[hz2];omega) (by omega) w,hz1]
 have:madeCells (Value.int .i64 0).cells (n*1)=izC (List.replicate n 0):=by
  apply Array.ext';show (madeCells #[Value.int .i64 0] (n*1)).toList=_;rw[toList_madeCells_one];simp[izC]
 rw[this]
structure Zbi (w:World) (bp br bx n:Nat) (wx:World):Prop where
 lp:w.heap.size<=bp
 lr:w.heap.size<=br
 lx:w.heap.size<=bx
 pr:bp≠br
 px:bp≠bx
 rx:br≠bx
 p:wx.heap[bp]?=some (.cells (zsC (List.replicate n 0)) 32 (0,0))
 r:wx.heap[br]?=some (.cells (zsC (List.replicate n 0)) 32 (0,0))
 x:Blk wx bx #[.slice (some ⟨br,0,none⟩) n n]
 below:Below w.heap.size w wx
structure AM (w0 w:World) (bp br bx bo n:Nat) (Q R I:List Int) (k:Nat) (wr:World):Prop where
 below:Below w0.heap.size w0 wr
 bw:Zr (fun b=>b=bp∨b=br∨b=bo) w wr
 p:wr.heap[bp]?=some (.cells (zsC (Ym Q k)) 32 (0,0))
 r:wr.heap[br]?=some (.cells (zsC (Ym R k)) 32 (0,0))
 o:wr.heap[bo]?=some (.cells (izC (Ym I k)) 3 (0,0))
 x:Blk wr bx #[.slice (some ⟨br,0,none⟩) n n]
theorem al3 (w1:World) (a b c:Obj):(((w1.alloc a).alloc b).alloc c).drew.heap[w1.heap.size]?=some a/\(((w1.alloc a).alloc b).alloc c).drew.heap[w1.heap.size+1]?=some b/\(((w1.alloc a).alloc b).alloc c).drew.heap[w1.heap.size+1+1]?=some c/\Below w1.heap.size w1 (((w1.alloc a).alloc b).alloc c).drew:=by
 have h0:(((w1.alloc a).alloc b).alloc c).drew.heap=((w1.heap.push a).push b).push c:=rfl;refine⟨?_,?_,?_,?_⟩
 ·rw[h0];simp only[Array.getElem?_push,Array.size_push];rw[if_neg (by omega),if_neg (by omega),if_pos trivial]
 ·rw[h0];simp only[Array.getElem?_push,Array.size_push];rw[if_neg (by omega),if_pos trivial]
 ·rw[h0];simp only[Array.getElem?_push,Array.size_push];rw[if_pos trivial]
 ·exact BO (bto (bto (Zd w1 a) (Zd _ b)) (Zd _ c))
theorem Wv:∀(Q:List Int) (k:Nat),(∀q∈Q,0<=q)->0<=(Q.take k).sum/\(Q.take k).sum<=Q.sum
 | [],k,_=>by simp
 | q::t,0,h=>by
  have h1:=(Wv t 0 (fun x hx=>h x (List.mem_cons_of_mem _ hx))).2
  have h2:=h q List.mem_cons_self;simp at h1 ⊢;omega
 | q::t,k+1,h=>by
  have h1:=Wv t k (fun x hx=>h x (List.mem_cons_of_mem _ hx))
  have h2:=h q List.mem_cons_self;simp only[List.take_succ_cons,List.sum_cons];omega
theorem AN {z:Int} {T:List UInt8} (hT:T.length<=5000) (h0:0<=z) (h1:z<=val T+1000):(canon z).length<=5100:=by
 obtain⟨N,hN⟩:∃N,N=5000:=⟨_,rfl⟩
 rw[<-hN] at hT;have h:=Zo (l:=T) hT;refine Nt (Zn z (N+1) ?_) (by omega)
 have e:(10:Nat) ^ (N+1)=10 ^ N*10:=Nat.pow_succ ..;rw[e];have h3:(1000:Nat)<=10 ^ N:=Nt (by decide:1000<=10 ^ 3) (Nat.pow_le_pow_right (by decide) (by omega))
 generalize (10:Nat) ^ N=P at *;omega
theorem XI {a b:Int} {k:Nat} (h:0<=a/\a<=b) (hb:(canon b).length<=k):(canon a).length<=k+1:=by
 have h1:=Zo hb;rw[Zg] at h1;exact Zn a k (by omega)
theorem Jb {T S:Int} {zs:List Int} {k:Nat} {z:Int} (h:zs[k]?=some z):(WO T S zs)[k]?=some (T*z / S)/\(VF T S zs)[k]?=some (T*z % S):=by
 simp[WO,VF,h]
theorem TN {Q:List Int} {k:Nat} {q:Int} (h:Q[k]?=some q):(Q.take (k+1)).sum=(Q.take k).sum+q:=by
 obtain⟨hk,rfl⟩:=Lg.1 h;rw[List.take_succ_eq_append_getElem hk,List.sum_append];simp
def Zbj (w:World) (T:Int) (zs:List Int) (n:Nat) (e:Ending) (w':World):Prop:=
 ∃bp ps,e=.returned (.slice (some ⟨bp,0,none⟩) n n)/\w.heap.size<=bp/\w'.heap[bp]?=some (.cells (zsC ps) 32 (0,0))/\P2 T zs ps/\Below w.heap.size w w'
theorem If:∀(ws:List (List UInt8)),(∀r∈ws,0<=val r)->0<=Wt ws
 | [],_=>Int.le_refl _
 | r::t,h=>by
  have h1:=If t (fun x hx=>h x (List.mem_cons_of_mem _ hx))
  have h2:=h r List.mem_cons_self;rw[O2];omega
theorem Jc (R:List Int) (i:Nat):val ((R.map canon).getD i [])=R.getD i 0:=by
 rw[List.getD_eq_getElem?_getD,List.getD_eq_getElem?_getD,List.getElem?_map];cases R[i]? with
 | none=>rfl
 | some z=>simp[Zg]
theorem Gf (n:Nat):izC ((List.range n).map (fun (k:Nat)=>(k:Int)))=Tx (List.range n):=Cm _
theorem VZ {a b:Int} (h:0<b):YB a b=a / b/\Wy a b=a % b:=by
 unfold YB Wy;exact⟨if_pos (by omega),if_pos (by omega)⟩
theorem O9 {w:World} {A:Option Addr} {ws:List (List UInt8)} {n:Nat} (c:Nat) {T:List UInt8} (hG:GE w) (hI:Uk w A ws n) (hT:T.length<=5000) (h0:1<=n) (hn1:n<=1000) (hpos:∀r∈ws,0<=val r) (hS:Wt ws≠0) (hT0:0<=val T) :
  Calls Tryz.prog 242 #[.string ⟨T.toArray⟩,.slice A n c] w (Zbj w (val T) (ws.map val) n):=by
 have hS0:0<Wt ws:=by
  have:0<=Wt ws:=If ws hpos
  omega
 obtain⟨S,hSe⟩:∃S,S=Wt ws:=⟨_,rfl⟩
 obtain⟨zs,hzs⟩:∃zs,zs=ws.map val:=⟨_,rfl⟩
 have hzS:zs.sum=S:=by rw[hzs,hSe];rfl
 rw[<-hzs];obtain⟨Q,hQ⟩:∃Q,Q=WO (val T) S zs:=⟨_,rfl⟩
 obtain⟨R,hR⟩:∃R,R=VF (val T) S zs:=⟨_,rfl⟩
 obtain⟨I,hIe⟩:∃I,I=(List.range n).map (fun (k:Nat)=>(k:Int)):=⟨_,rfl⟩
 have hzl:zs.length=n:=by rw[hzs,List.length_map];exact hI.len
 have hQl:Q.length=n:=by rw[hQ];simp[WO,hzl]
 have hRl:R.length=n:=by rw[hR];simp[VF,hzl]
 have hIl:I.length=n:=by rw[hIe];simp
 have hSl:(canon S).length<=2008:=by rw[hSe];exact MO 2000 ws hI.sm (by rw[hI.len];omega)
 have C0:=Lh (FW c hG.g hI);have HI:=Lh hI.mem;have HSM:=Lh hI.sm;have HN:=Lh hI.len;obtain⟨hm0,hm1⟩:=J9 (val T) zs (by rw[hzS,hSe];exact hS0)
 rw[hzS,<-hQ] at hm0 hm1;rw[hzl] at hm1;have hmk1:=fun w=>Ee n (by omega) w
 have hmk2:=fun w=>Ef n (by omega) w
 have hQn:∀q∈Q,0<=q:=fun q hq=>by
  rw[hQ] at hq;obtain⟨z,hz,rfl⟩:=List.mem_map.1 hq;rw[hzs] at hz;obtain⟨r,hr,rfl⟩:=List.mem_map.1 hz;exact Int.ediv_nonneg (Int.mul_nonneg hT0 (hpos r hr)) (by rw[hSe];omega)
 have HQN:Hid (∀k,0<=(Q.take k).sum/\(Q.take k).sum<=val T):=fun k=>by
  have:=Wv Q k hQn
  omega
 have HQM:Hid (∀q∈Q,0<=q/\q<=val T):=fun q hq=>by
  refine⟨hQn q hq,?_⟩;obtain⟨i,hi⟩:=List.getElem?_of_mem hq;have h1:=TN hi;have h2:=(Wv Q (i+1) hQn).2;have h3:=(Wv Q i hQn).1;omega
 rw[<-hSe] at C0 hS0;have HSS:=Lh hS0;have HP:Hid (∀js:List Nat,js.Perm (List.range n)->js.Pairwise (QR fun i=>R.getD i 0)->P2 (val T) zs (Wu Q (js.take (val T-Q.sum).toNat))):=fun js h1 h2=>by
  have:=Eb (val T) zs (by rw[hzS];exact hS0) js (by rw[hzl];exact h1) (by rw[hzS,<-hR];exact h2)
  rw[hzS,<-hQ] at this;exact this
 have HQ:=Lh hQ;have HR:=Lh hR;have HZS:=Lh hzs;have HIE:=Lh hIe;have HQL:=Lh hQl;have HRL:=Lh hRl;have HIL:=Lh hIl;have HM:=Lh (And.intro hm0 hm1);clear hSe hzS hQ hR hIe hzs hzl hQl hRl hIl hI hpos hS hS0 hm0 hm1 hQn;go_enter Tryz.func242,Tryz.ntmps242;go_wp2_with fail
 with_reducible refine (C0.out).mono ?_
 rintro e w1 ⟨rfl,hb1⟩
 go_upto_region 2 with fail
 go_cut [6,7] from 18 to 23 (fun s6 s7 wx=>∃bp br bx,s6=.slice (some ⟨bp,0,none⟩) n n/\s7=.pointer (some ⟨bx,0,none⟩)/\Zbi w1 bp br bx n wx)
 case first=>
  clear C0
  go_region
  all_goals (go_wp2_with fail)
  all_goals go_meet
  all_goals first
   | (refine⟨_,w1.heap.size,_,rfl,rfl,⟨by omega,by omega,by omega,by omega,by omega,by omega,?_,?_,⟨50,?_⟩,?_⟩⟩<;>first|exact (al3 _ _ _ _).1|exact (al3 _ _ _ _).2.1|exact (al3 _ _ _ _).2.2.1|exact (al3 _ _ _ _).2.2.2)
   | (refine⟨_,w1.heap.size+1,_,rfl,rfl,⟨by omega,by omega,by omega,by omega,by omega,by omega,?_,?_,⟨50,?_⟩,?_⟩⟩<;>first|exact (al3 _ _ _ _).1|exact (al3 _ _ _ _).2.1|exact (al3 _ _ _ _).2.2.1|exact (al3 _ _ _ _).2.2.2)
   | (refine⟨_,w1.heap.size+1+1,_,rfl,rfl,⟨by omega,by omega,by omega,by omega,by omega,by omega,?_,?_,⟨50,?_⟩,?_⟩⟩<;>first|exact (al3 _ _ _ _).1|exact (al3 _ _ _ _).2.1|exact (al3 _ _ _ _).2.2.1|exact (al3 _ _ _ _).2.2.2)
 case rest=>
  rename World=>wx
  obtain⟨bp,br,bx,rfl,rfl,HNw⟩:=hcut;have hbW:=bto hb1 HNw.below;have hbo:=Zd wx (.cells (izC (List.replicate n 0)) 3);have HPW:Hid (AM w wx bp br bx wx.heap.size n Q R I 0 (wx.alloc (.cells (izC (List.replicate n 0)) 3))):=by
   have l1:=(Ag.1 HNw.p).1;have l2:=(Ag.1 HNw.r).1;refine⟨bto hbW hbo,Zr.of_below hbo,?_,?_,?_,HNw.x.below hbo⟩
   ·rw[T3,HQL.out];exact (hbo.block _ l1).trans HNw.p
   ·rw[T3,HRL.out];exact (hbo.block _ l2).trans HNw.r
   ·rw[T3,HIL.out];simp[World.alloc,-World.alloc_eq]
  have hpr:=HNw.pr;have hpx:=HNw.px;have hrx:=HNw.rx;have hpo:bp≠wx.heap.size:=fun e=>by have:=(Ag.1 HNw.p).1;omega
  have hro:br≠wx.heap.size:=fun e=>by have:=(Ag.1 HNw.r).1;omega
  have hxo:bx≠wx.heap.size:=fun e=>by have:=HNw.x.lt;omega
  have hlp:=Nt hb1.size HNw.lp;have hlr:=Nt hb1.size HNw.lr;have hlo:w.heap.size<=wx.heap.size:=hbW.size;have HL:=Lh (And.intro hlp (And.intro hlr hlo));have HNE:=Lh (And.intro hpr (And.intro hpx (And.intro hrx (And.intro hpo (And.intro hro hxo)))));clear hmk1 HNw hbo hbW hb1 hpr hpx hrx hpo hro hxo hlp hlr hlo;go_wp2_with fail;clear hmk2
  go_loopw [9,10,11,30] (fun mv _ _ iv wr=>∃(k:Nat) (m:List UInt8),k<=n/\mv=.string ⟨m.toArray⟩/\iv=.int .i64 (k:Int)/\Hid (m.length<=5100/\val m=val T-(Q.take k).sum/\(1<=k->m=canon (val m)))/\Hid (AM w wx bp br bx wx.heap.size n Q R I k wr)) (fun _ _ _ iv _=>n-(intOf iv).toNat)
  case atStart=>exact⟨0,T,Nat.zero_le _,rfl,rfl,⟨by omega,by simp,fun h=>by omega⟩,HPW.out⟩
  case round=>
   clear HPW;obtain⟨k,m,hk,rfl,rfl,HMV,HPW⟩:=hrel;have hbw:=HPW.out.below
   by_cases hlk:k<n
   rotate_left
   ·have e1:decide (k<n)=false:=Df hlk;have e2:decide ((k:Int)<(n:Int))=false:=Df (by omega)
    have hlp:=HL.out.1;have hlo:=HL.out.2.2;obtain⟨hpr,hpx,hrx,hpo,hro,hxo⟩:=HNE.out;have HPn:Hid (wr.heap[bp]?=some (.cells (zsC Q) 32 (0,0))):=by
     have h:=HPW.out.p;rw[Qi Q k (by have:=HQL.out;omega)] at h
     exact h
    have hRn:Blk wr br (M3 (R.map canon)):=by
     have h:=HPW.out.r;rw[Qi R k (by have:=HRL.out;omega)] at h
     exact⟨_,h⟩
    have hOn:wr.heap[wx.heap.size]?=some (.cells (Tx (List.range n)) 3 (0,0)):=by
     have h:=HPW.out.o;rw[Qi I k (by have:=HIL.out;omega),HIE.out,Gf] at h
     exact h
    have hXn:=HPW.out.x;obtain⟨z,hz⟩:∃z:Nat,(z:Int)=val T-Q.sum:=⟨(val T-Q.sum).toNat,by have:=HM.out;omega⟩
    have hzn:z<n:=by have:=HM.out;omega
    obtain rfl:m=canon (z:Int):=by
     rw[HMV.out.2.2 (by omega),HMV.out.2.1,List.take_of_length_le (by have:=HQL.out;omega),hz]
    have HZ:=Lh hz
    have CS:=Lh (ZaF (R.map canon) hG.g hbw hlo hXn hRn hOn (by rw[List.length_map];exact HRL.out) (by omega) (by omega) (fun r hr=>by
     obtain⟨x,hx,rfl⟩:=List.mem_map.1 hr;rw[HR.out] at hx;obtain⟨y,hy,rfl⟩:=List.mem_map.1 hx;have h1:=Int.emod_nonneg (val T*y) (Int.ne_of_gt HSS.out);have h2:=Int.emod_lt_of_pos (val T*y) HSS.out
     exact Nt (XI (by omega) hSl) (by decide)) hxo hro)
    have CM:=Lh (AL (n:=z) (by omega))
    have hz1:(z:Int)<=(n:Int):=by omega
    clear HMV HPW hz hXn hRn hOn hk hlk;go_wp2_with fail;refine CS.out.mono ?_;rintro e w7 ⟨rfl,⟨js,hj1,hj2,hj3⟩,hb7⟩;clear e1 e2 CS;rw[show (fun i=>val ((R.map canon).getD i []))=fun i=>R.getD i 0 from funext (Jc R)] at hj2
    have hb8:=hb7.lower hbw (fun k hk=>by rw[hk];exact hlo)
    have HP7:Hid (w7.heap[bp]?=some (.cells (zsC Q) 32 (0,0))):=(hb7.block _ (Ag.1 HPn.out).1 hpo).trans HPn.out;have HO7:=Lh hj3;have HJ1:=Lh hj1;have HJ2:=Lh hj2;clear hbw hb7 hj1 hj2 hj3 HPn;go_wp2_with fail
    with_reducible refine (CM.out.of hG.g hb8).mono ?_
    rintro e w8 ⟨rfl,hb9⟩;have hb:=bto hb8 hb9;have HP8:Hid (w8.heap[bp]?=some (.cells (zsC Q) 32 (0,0))):=(hb9.block _ (Ag.1 HP7.out).1).trans HP7.out;have HO8:Hid (w8.heap[wx.heap.size]?=some (.cells (Tx js) 3 (0,0))):=(hb9.block _ (Ag.1 HO7.out).1).trans HO7.out;have HNE:=Lh hpo;clear hb8 hb9 HP7 HO7 CM hpr hpx hrx hpo hro hxo;go_wp2_with fail
    rename World=>wo
    go_loopw [15,73] (fun _ iv wr=>∃t:Nat,t<=z/\iv=.int .i64 (t:Int)/\Hid (Below w.heap.size w wr)/\Hid (wr.heap[bp]?=some (.cells (zsC (Wu Q (js.take t))) 32 (0,0)))/\Hid (wr.heap[wx.heap.size]?=some (.cells (Tx js) 3 (0,0)))) (fun _ iv _=>z-(intOf iv).toNat)
    case atStart=>exact⟨0,Nat.zero_le _,rfl,hb,HP8.out,HO8.out⟩
    case round=>
     clear HP8 HO8 hb;obtain⟨t,ht,rfl,HB,HPt,HOt⟩:=hrel;have hb:=HB.out
     by_cases hlt:t<z
     rotate_left
     ·have e1:decide (t<z)=false:=Df hlt;have e2:decide ((t:Int)<(z:Int))=false:=Df (by omega)
      go_wp2;go_ret;refine⟨bp,_,rfl,hlp,HPt.out,?_,HB.out⟩;have h:=HP.out js HJ1.out HJ2.out;have e:(val T-Q.sum).toNat=t:=by have:=HZ.out;omega
      rw[e] at h;exact h
     have e1:decide (t<z)=true:=Dt hlt;have e2:decide ((t:Int)<(z:Int))=true:=Dt (by omega)
     have hjl:js.length=n:=by rw[HJ1.out.length_eq,List.length_range]
     obtain⟨j,hj⟩:∃j,js[t]?=some j:=⟨_,List.getElem?_eq_getElem (by omega)⟩
     have hjn:j<n:=List.mem_range.1 (HJ1.out.subset (Lm hj));obtain⟨y,hy⟩:∃y,Q[j]?=some y:=⟨_,List.getElem?_eq_getElem (by have:=HQL.out;omega)⟩
     have hyb:=HQM.out y (Lm hy);obtain⟨x,hxe⟩:∃x,x=y+((js.take t).count j:Int):=⟨_,rfl⟩
     have hx:(Wu Q (js.take t))[j]?=some x:=by rw[SI,hy,hxe];rfl
     have hcnt:(js.take t).count j<=1000:=Nt List.count_le_length (by rw[List.length_take];omega)
     have hxl:(canon x).length<=5100:=AN hT (by omega) (by omega)
     have CA:=Lh (Xa (l:=canon x) (l':=[49]) (z:=x+1) (by omega) (by decide) (by rw[Zg];rfl))
     have HT:Hid (js.take (t+1)=js.take t++[j]):=by
      show _=_;obtain⟨h1,rfl⟩:=Lg.1 hj;exact List.take_succ_eq_append_getElem h1
     have q0:wr.cell? ⟨wx.heap.size,t,none⟩=some (.int .i64 (j:Int)):=(Zh HOt.out t).trans (Ie hj);have q1:wr.cell? ⟨bp,j,none⟩=some (.string ⟨(canon x).toArray⟩):=(Zh HPt.out j).trans (T4 hx);have HX:=Lh hx;clear hjl hj hy hyb hxe hcnt hxl hx;go_wp2_with fail
     with_reducible refine (CA.out.of hG.g hb).mono ?_
     rintro e w9 ⟨rfl,hb9⟩;clear q0 q1 e1 e2 CA;have HB9:=Lh (bto hb hb9);have HP9:Hid (w9.heap[bp]?=some (.cells (zsC (Wu Q (js.take t))) 32 (0,0))):=(hb9.block _ (Ag.1 HPt.out).1).trans HPt.out;have HO9:Hid (w9.heap[wx.heap.size]?=some (.cells (Tx js) 3 (0,0))):=(hb9.block _ (Ag.1 HOt.out).1).trans HOt.out;have q1:w9.cell? ⟨bp,j,none⟩=some (.string ⟨(canon x).toArray⟩):=(Zh HP9.out j).trans (T4 HX.out);have q2:w9.frozen? ⟨bp,j,none⟩=false:=Zq HP9.out j;have HPN:Hid ((w9.setCell ⟨bp,j,none⟩ (.string ⟨(canon (x+1)).toArray⟩)).heap[bp]?=some (.cells (zsC (Wu Q (js.take (t+1)))) 32 (0,0))):=by
      have h:=Yd (o:=j) (Value.string ⟨(canon (x+1)).toArray⟩) HP9.out;rw[Q9,Ea HX.out,<-Ja,<-HT.out] at h;exact h
     have HON:Hid ((w9.setCell ⟨bp,j,none⟩ (.string ⟨(canon (x+1)).toArray⟩)).heap[wx.heap.size]?=some (.cells (Tx js) 3 (0,0))):=(Below.heap_setCell w9 ⟨bp,j,none⟩ _ _ (Ne.symm HNE.out)).trans HO9.out;have HBN:Hid (Below w.heap.size w (w9.setCell ⟨bp,j,none⟩ (.string ⟨(canon (x+1)).toArray⟩))):=HB9.out.setCell (p:=⟨bp,j,none⟩) hlp _;clear hb hb9 HB HPt HOt HB9 HP9 HO9 HX HT;go_wp2;go_roundw
     case rel=>exact⟨t+1,by omega,by go_num,HBN.out,HPN.out,HON.out⟩
     case measure=>simp[intOf];omega
   have e1:decide (k<n)=true:=Dt hlk;have e2:decide ((k:Int)<(n:Int))=true:=Dt (by omega)
   obtain⟨u,hu⟩:∃u,ws[k]?=some u:=⟨_,List.getElem?_eq_getElem (by have:=HN.out;omega)⟩
   obtain⟨b,o,rfl,hbs,p0⟩:=(HI.out.below hbw) k u hu;have hz:zs[k]?=some (val u):=by rw[HZS.out,List.getElem?_map,hu];rfl
   obtain⟨q,hq⟩:∃q,q=val T*val u / S:=⟨_,rfl⟩
   obtain⟨r,hr⟩:∃r,r=val T*val u % S:=⟨_,rfl⟩
   have hqk:Q[k]?=some q:=by rw[HQ.out,(Jb hz).1,hq]
   have hrk:R[k]?=some r:=by rw[HR.out,(Jb hz).2,hr]
   have hul:=HSM.out u (Lm hu);have hd:=VZ (a:=val T*val u) HSS.out;have hml:=ZG T u;have HC1:=Lh (JW (l:=T) (l':=u) (by omega) (by omega) rfl)
   have HC2:=Lh (TI (l:=canon (val T*val u)) (l':=canon S) (q:=q) (r:=r) (by omega) (by omega) (by rw[Zg];exact Int.ne_of_gt HSS.out) (by rw[Zg,Zg,hd.1,hq]) (by rw[Zg,Zg,hd.2,hr]))
   have hqm:=HQM.out q (Lm hqk);have hql:(canon q).length<=5100:=AN hT hqm.1 (by omega)
   have hmlen:=HMV.out.1;obtain⟨mm,hmm⟩:∃mm,mm=val m-q:=⟨_,rfl⟩
   have HC3:=Lh (Wk (l:=m) (l':=canon q) (z:=mm) (by omega) (by omega) (by rw[Zg,hmm]))
   have HMV2:Hid ((canon mm).length<=5100/\val (canon mm)=val T-(Q.take (k+1)).sum/\(1<=k+1->canon mm=canon (val (canon mm)))):=by
    have h1:=HMV.out.2.1;have h2:=TN hqk;have h3:=HQN.out (k+1);refine⟨AN hT (by omega) (by omega),by rw[Zg];omega,fun _=>by rw[Zg]⟩
   have HQK:=Lh hqk;have HRK:=Lh hrk;obtain⟨tu,htu⟩:∃tu,tu=canon (val T*val u):=⟨_,rfl⟩
   rw[<-htu] at HC1 HC2;obtain⟨ss,hss⟩:∃ss,ss=canon S:=⟨_,rfl⟩
   rw[<-hss] at HC2 ⊢;clear hu hz hq hr hqk hrk hul hd hml hqm hql hmlen hmm htu hss;go_wp2_with fail;clear p0 e1 e2;obtain⟨-,-,hlo⟩:=HL.out;have hlp:=HL.out.1;have hlr:=HL.out.2.1;obtain⟨hpr,hpx,hrx,hpo,hro,hxo⟩:=HNE.out;obtain⟨F,hF⟩:∃F:Fx,F=fun b=>if b=bp then some (.cells (zsC (Ym Q k)) 32 (0,0)) else if b=br then some (.cells (zsC (Ym R k)) 32 (0,0)) else none:=⟨_,rfl⟩
   have f1:F bp=some (.cells (zsC (Ym Q k)) 32 (0,0)):=by rw[hF];exact if_pos rfl
   have f2:F br=some (.cells (zsC (Ym R k)) 32 (0,0)):=by rw[hF];exact (if_neg (Ne.symm hpr)).trans (if_pos rfl)
   have hX:∀b,F b≠none->b=bp∨b=br:=fun b hb=>by
    rw[hF] at hb;dsimp only at hb
    by_cases h1:b=bp
    ·exact .inl h1
    ·by_cases h2:b=br
     ·exact .inr h2
     ·rw[if_neg h1,if_neg h2] at hb;exact absurd rfl hb
   have HFF:Hid (∀b ob,F b=some ob->wr.heap[b]?=some ob):=fun b ob h=>by
    rw[hF] at h;dsimp only at h
    by_cases h1:b=bp
    ·rw[if_pos h1] at h;rw[h1,<-h];exact HPW.out.p
    ·rw[if_neg h1] at h
     by_cases h2:b=br
     ·rw[if_pos h2] at h;rw[h2,<-h];exact HPW.out.r
     ·rw[if_neg h2] at h;cases h
   have hnx:¬(F bx≠none):=fun h=>by
    rcases hX bx h with e|e
    ·exact hpx e.symm
    ·exact hrx e.symm
   have hno:¬(F wx.heap.size≠none):=fun h=>by
    rcases hX _ h with e|e
    ·exact hpo e.symm
    ·exact hro e.symm
   have hlow:∀k,F k≠none->w.heap.size<=k:=fun k hk=>by
    rcases hX k hk with e|e
    ·rw[e];exact hlp
    ·rw[e];exact hlr
   have HX:=Lh HPW.out.x;have f2b:(fun k'=>if k'=bp then some (Obj.cells ((zsC (Ym Q k)).setIfInBounds k (.string ⟨(canon q).toArray⟩)) 32 (0,0)) else F k') br=some (.cells (zsC (Ym R k)) 32 (0,0)):=(if_neg (Ne.symm hpr)).trans f2
   have hql:=HQL.out;have hrl:=HRL.out;obtain⟨tch,htch⟩:∃tch:Nat->List Nat,tch=fun b=>if b=bp then [14] else if b=br then [16] else []:=⟨_,rfl⟩
   clear hF;refine Z0 tch F (by kernel_rfl) (by kernel_rfl) (by kernel_rfl) HFF.out ?_
   refine Zj _ rfl (fun wz hw=>by go_simp;try with_reducible rfl) ?_
   simp only[Act.put,StT,StZ,StS,Nat.reduceAdd];refine Zj _ rfl (fun wz hw=>by go_simp;try with_reducible rfl) ?_
   simp only[Act.put,StT,StZ,StS,Nat.reduceAdd];refine Zj _ rfl (fun wz hw=>by have q0:=(HX.out.keepX hw hnx).c 0;go_simp;try with_reducible rfl) ?_
   simp only[Act.put,StT,StZ,StS,Nat.reduceAdd];refine Zj _ rfl (fun wz hw=>by go_simp;try with_reducible rfl) ?_
   simp only[Act.put,StT,StZ,StS,Nat.reduceAdd];refine Zj _ rfl (fun wz hw=>by go_simp;try with_reducible rfl) ?_
   simp only[Act.put,StT,StZ,StS,Nat.reduceAdd];refine Zj _ rfl (fun wz hw=>by go_simp;try with_reducible rfl) ?_
   simp only[Act.put,StT,StZ,StS,Nat.reduceAdd];refine Yp _ _ _ rfl (fun wz hw=>by go_simp;try with_reducible rfl) (fun wz hw=>HC1.out.of hG.g (hw.lower hbw hlow)) ?_
   simp only[Act.put,StT,StZ,StS,Nat.reduceAdd];refine Zj _ rfl (fun wz hw=>by go_simp;try with_reducible rfl) ?_
   simp only[Act.put,StT,StZ,StS,Nat.reduceAdd];refine Yp _ _ _ rfl (fun wz hw=>by go_simp;try with_reducible rfl) (fun wz hw=>HC2.out.of hG.g (hw.lower hbw hlow)) ?_
   simp only[Act.put,StT,StZ,StS,Nat.reduceAdd];refine Zj _ rfl (fun wz hw=>by go_simp;try with_reducible rfl) ?_
   simp only[Act.put,StT,StZ,StS,Nat.reduceAdd];refine Zj _ rfl (fun wz hw=>by go_simp;try with_reducible rfl) ?_
   simp only[Act.put,StT,StZ,StS,Nat.reduceAdd];refine Zj _ rfl (fun wz hw=>by go_simp;try with_reducible rfl) ?_
   simp only[Act.put,StT,StZ,StS,Nat.reduceAdd];refine Zj _ rfl (fun wz hw=>by go_simp;try with_reducible rfl) ?_
   simp only[Act.put,StT,StZ,StS,Nat.reduceAdd];refine Zj (.pointer (some ⟨bp,k,none⟩)) rfl (fun wz hw=>by go_simp;try with_reducible rfl) ?_
   simp only[Act.put,StT,StZ,StS,Nat.reduceAdd];refine Xs bp k (zsC (Ym Q k)) (.string ⟨(canon q).toArray⟩) 32 f1 (by simp[htch]) (fun j oj hj=>ZJ (l:=[14]) (by kernel_rfl) j oj (by simpa [htch] using hj)) rfl (fun wz hw hc hf=>by have q0:=(hc k).trans (T4 (VY (Nl k) (by omega)));have q1:=hf k;clear hc hf;go_simp;try with_reducible rfl) ?_
   simp only[Act.put,Nat.reduceAdd];refine Zj (.pointer (some ⟨br,k,none⟩)) rfl (fun wz hw=>by go_simp;try with_reducible rfl) ?_
   simp only[Act.put,StT,StZ,StS,Nat.reduceAdd];refine Xs br k (zsC (Ym R k)) (.string ⟨(canon r).toArray⟩) 32 f2b (by simp[htch,Ne.symm hpr]) (fun j oj hj=>ZJ (l:=[16]) (by kernel_rfl) j oj (by simpa [htch,Ne.symm hpr] using hj)) rfl (fun wz hw hc hf=>by have q0:=(hc k).trans (T4 (VY (Nl k) (by omega)));have q1:=hf k;clear hc hf;go_simp;try with_reducible rfl) ?_
   simp only[Act.put,Nat.reduceAdd];refine Y9 (fun w4 hF4=>?_)
   have hb4:=hF4.below.lower hbw hlow;have HP4:Hid (w4.heap[bp]?=some (.cells (zsC (Ym Q (k+1))) 32 (0,0))):=by
    have h:=hF4.box bp _ ((if_neg hpr).trans (if_pos rfl));rw[Q9,Qj HQK.out] at h;exact h
   have HR4:Hid (w4.heap[br]?=some (.cells (zsC (Ym R (k+1))) 32 (0,0))):=by
    have h:=hF4.box br _ (if_pos rfl);rw[Q9,Qj HRK.out] at h;exact h
   have HO4:Hid (w4.heap[wx.heap.size]?=some (.cells (izC (Ym I k)) 3 (0,0))):=(hF4.below.block _ (Ag.1 HPW.out.o).1 hno).trans HPW.out.o;have HX4:Hid (Blk w4 bx #[.slice (some ⟨br,0,none⟩) n n]):=HPW.out.x.keepX hF4.below hnx
   have HB4:Hid (Zr (fun b=>b=bp∨b=br∨b=wx.heap.size) wx w4):=HPW.out.bw.trans ⟨hF4.below.os,hF4.below.tape,hF4.below.output,hF4.below.size,fun j hj hn=>hF4.below.block j hj (fun h=>hn (by
    rcases hX j h with e|e
    ·exact .inl e
    ·exact .inr (.inl e)))⟩
   have HNE:=Lh (And.intro hpr (And.intro hpx (And.intro hrx (And.intro hpo (And.intro hro hxo)))));have q0:w4.cell? ⟨bp,k,none⟩=some (.string ⟨(canon q).toArray⟩):=(Zh HP4.out k).trans (T4 ((SH (Nat.lt_succ_self k) (by omega)).trans HQK.out))
   clear hF4 HX HPW HFF f1 f2 f2b hX hnx hno hlow htch HC1 HC2 hbw hpr hpx hrx hpo hro hxo hlp hlr;go_wp2_with fail
   with_reducible refine (HC3.out.of hG.g hb4).mono ?_
   rintro e w5 ⟨rfl,hb5⟩;clear q0 HC3;have hb6:=bto hb4 hb5;have HP5:Hid (w5.heap[bp]?=some (.cells (zsC (Ym Q (k+1))) 32 (0,0))):=(hb5.block _ (Ag.1 HP4.out).1).trans HP4.out;have HR5:Hid (w5.heap[br]?=some (.cells (zsC (Ym R (k+1))) 32 (0,0))):=(hb5.block _ (Ag.1 HR4.out).1).trans HR4.out;have HO5:Hid (w5.heap[wx.heap.size]?=some (.cells (izC (Ym I k)) 3 (0,0))):=(hb5.block _ (Ag.1 HO4.out).1).trans HO4.out;have HX5:=Lh (HX4.out.below hb5);have HB5:=Lh (HB4.out.trans (Zr.of_below hb5));clear hb4 hb5 HP4 HR4 HO4 HX4 HB4 hql hrl;have HIK:Hid (I[k]?=some (k:Int)):=by
    show _=_;rw[HIE.out,List.getElem?_map,List.getElem?_range hlk];rfl
   have hil:=HIL.out
   have q0:w5.cell? ⟨wx.heap.size,k,none⟩=some (.int .i64 0):=(Zh HO5.out k).trans (by
    have h:=VY (f:=I) (i:=k) (Nl k) (by omega)
    simp[izC,h])
   have q1:w5.frozen? ⟨wx.heap.size,k,none⟩=false:=Zq HO5.out k;clear hil;have HPW:Hid (AM w wx bp br bx wx.heap.size n Q R I (k+1) (w5.setCell ⟨wx.heap.size,k,none⟩ (.int .i64 (k:Int)))):=by
    obtain⟨hpr,hpx,hrx,hpo,hro,hxo⟩:=HNE.out;refine⟨hb6.setCell (p:=⟨wx.heap.size,k,none⟩) hlo _,HB5.out.trans (ZR (g:=wx.heap.size) (.inr (.inr rfl)) [.int .i64 (k:Int)] k w5),?_,?_,?_,HX5.out.setO hxo⟩
    ·exact (Below.heap_setCell w5 ⟨wx.heap.size,k,none⟩ _ bp hpo).trans HP5.out
    ·exact (Below.heap_setCell w5 ⟨wx.heap.size,k,none⟩ _ br hro).trans HR5.out
    ·have h:=Yd (o:=k) (Value.int .i64 (k:Int)) HO5.out;rw[Cl,Qj HIK.out] at h;exact h
   clear HP5 HR5 HO5 HX5 HB5 HIK hb6 HQK HRK;obtain⟨W6,hW6⟩:∃W6,W6=w5.setCell ⟨wx.heap.size,k,none⟩ (.int .i64 (k:Int)):=⟨_,rfl⟩
   go_wp2;go_roundw
   case rel=>exact⟨k+1,canon mm,by omega,rfl,by go_num,HMV2.out,HPW.out⟩
   case measure=>simp[intOf];omega
def NV (T p a:Int):Int:=rnd (Rat.divInt (T*p) a) 1
def WP (x:Lot) (q:List UInt8):Lot:={ x with q:=q,cost:=canon (NV (val x.cost) (val q) (val x.q)),used:=if x.used=[] then [] else q }
def WA (x:Lot) (q:List UInt8):Lot:={ x with q:=canon (val x.q-val q),cost:=canon (val x.cost-NV (val x.cost) (val q) (val x.q)),used:=if x.used=[] then [] else canon (val x.q-val q) }
def stepT (s:List Lot×List Lot) (p:Pk):List Lot×List Lot:=
 if (s.1.getD (ZO (isLt p.lot) s.1 0).toNat ⟨[],[],0,0,[],[],[]⟩).q=p.q then
  (s.1.eraseIdx (ZO (isLt p.lot) s.1 0).toNat,s.2++[s.1.getD (ZO (isLt p.lot) s.1 0).toNat ⟨[],[],0,0,[],[],[]⟩])
 else (s.1.set (ZO (isLt p.lot) s.1 0).toNat (WA (s.1.getD (ZO (isLt p.lot) s.1 0).toNat ⟨[],[],0,0,[],[],[]⟩) p.q),s.2++[WP (s.1.getD (ZO (isLt p.lot) s.1 0).toNat ⟨[],[],0,0,[],[],[]⟩) p.q])
def Yr (s:List Lot×List Lot) (ps:List Pk):List Lot×List Lot:=ps.foldl stepT s
def VA (xs:List Lot) (done:List Pk):List Pk->Int
 | []=>0
 | p::t=>if ZO (isLt p.lot) xs 0<0 then 6 else if done.any (Z1 p.lot)=true then 5 else if ¬p.q=canon (val p.q) then 1 else if val p.q<=0 then 2 else
   if val (xs.getD (ZO (isLt p.lot) xs 0).toNat ⟨[],[],0,0,[],[],[]⟩).q<val p.q then 15 else VA xs (done++[p]) t
structure Cn (xs:List Lot) (p:Pk):Prop where
 lot:∃x∈xs,x.id=p.lot/\x.q=canon (val x.q)/\val p.q<=val x.q
 can:p.q=canon (val p.q)
 pos:0<val p.q
structure P4 (xs:List Lot) (ps:List Pk):Prop where
 nd:(xs.map (·.id)).Nodup
 all:∀p∈ps,Cn xs p
 pnd:(ps.map (·.lot)).Nodup
theorem P5 {xs:List Lot} (hc:∀x∈xs,x.q=canon (val x.q)):∀(ps done:List Pk),VA xs done ps=0->(∀p∈ps,Cn xs p)/\(ps.map (·.lot)).Nodup/\∀p∈ps,∀d∈done,d.lot≠p.lot
 | [],_,_=>⟨fun _ h=>by (cases h),by simp,fun _ h=>by (cases h)⟩
 | p::t,done,h=>by
  unfold VA at h
  by_cases h1:ZO (isLt p.lot) xs 0<0
  ·rw[if_pos h1] at h;exact absurd h (by decide)
  rw[if_neg h1] at h
  by_cases h2:done.any (Z1 p.lot)=true
  ·rw[if_pos h2] at h;exact absurd h (by decide)
  rw[if_neg h2] at h
  by_cases h3:¬p.q=canon (val p.q)
  ·rw[if_pos h3] at h;exact absurd h (by decide)
  rw[if_neg h3] at h
  by_cases h4:val p.q<=0
  ·rw[if_pos h4] at h;exact absurd h (by decide)
  rw[if_neg h4] at h;obtain⟨i,x,e,hx,hp,-⟩:=Vz _ _ _ (Int.not_lt.1 h1);rw[e,Nat.zero_add,Int.toNat_natCast,List.getD_eq_getElem?_getD,hx,Option.getD_some] at h
  by_cases h5:val x.q<val p.q
  ·rw[if_pos h5] at h;exact absurd h (by decide)
  rw[if_neg h5] at h;obtain⟨a1,a2,a3⟩:=P5 hc t (done++[p]) h;have hm:=Lm hx;have hid:x.id=p.lot:=by simpa [isLt] using hp
  refine⟨fun r hr=>?_,?_,fun r hr d hd=>?_⟩
  ·rcases List.mem_cons.1 hr with rfl|hr
   ·exact⟨⟨x,hm,hid,hc x hm,by omega⟩,Decidable.not_not.1 h3,by omega⟩
   ·exact a1 r hr
  ·rw[List.map_cons,List.nodup_cons];refine⟨fun hc=>?_,a2⟩
   obtain⟨r,hr,er⟩:=List.mem_map.1 hc;exact a3 r hr p (by simp) er.symm
  ·rcases List.mem_cons.1 hr with rfl|hr
   ·intro he;apply h2;rw[List.any_eq_true];exact⟨d,hd,by simp[Z1,he]⟩
   ·exact a3 r hr d (by simp[hd])
theorem Ig {g:Lot->Int} {x:Lot} (y:Lot):∀{xs:List Lot} {k:Nat},xs[k]?=some x->((xs.set k y).map g).sum=(xs.map g).sum-g x+g y
 | [],k,h=>by simp at h
 | a::t,0,h=>by simp at h;subst h;simp;omega
 | a::t,k+1,h=>by
  have ih:=Ig (g:=g) (x:=x) y (xs:=t) (k:=k) (by simpa using h)
  simp only[List.set_cons_succ,List.map_cons,List.sum_cons,ih];omega
theorem Na {g:Lot->Int} {x:Lot}:∀{xs:List Lot} {k:Nat},xs[k]?=some x->((xs.eraseIdx k).map g).sum=(xs.map g).sum-g x
 | [],k,h=>by simp at h
 | a::t,0,h=>by simp at h;subst h;simp;omega
 | a::t,k+1,h=>by
  have ih:=Na (g:=g) (x:=x) (xs:=t) (k:=k) (by simpa using h)
  simp only[List.eraseIdx_cons_succ,List.map_cons,List.sum_cons,ih];omega
theorem Un {α:Type} {x y:α}:∀{xs:List α} {k:Nat},xs[k]?=some x->y∈xs->y≠x->y∈xs.eraseIdx k
 | [],k,h,_,_=>by simp at h
 | a::t,0,h,hy,hne=>by
  simp at h;subst h;rcases List.mem_cons.1 hy with rfl|hy
  ·exact absurd rfl hne
  ·simpa using hy
 | a::t,k+1,h,hy,hne=>by
  rw[List.eraseIdx_cons_succ];rcases List.mem_cons.1 hy with rfl|hy
  ·simp
  ·exact List.mem_cons_of_mem _ (Un (by simpa using h) hy hne)
theorem T5 {α:Type} {x y:α} (z:α):∀{xs:List α} {k:Nat},xs[k]?=some x->y∈xs->y≠x->y∈xs.set k z
 | [],k,h,_,_=>by simp at h
 | a::t,0,h,hy,hne=>by
  simp at h;subst h;rcases List.mem_cons.1 hy with rfl|hy
  ·exact absurd rfl hne
  ·simp[hy]
 | a::t,k+1,h,hy,hne=>by
  rw[List.set_cons_succ];rcases List.mem_cons.1 hy with rfl|hy
  ·simp
  ·exact List.mem_cons_of_mem _ (T5 z (by simpa using h) hy hne)
theorem Co {xs:List Lot} {k:Nat} {x y:Lot} (h:xs[k]?=some x) (e:y.id=x.id):(xs.set k y).map (·.id)=xs.map (·.id):=by
 rw[List.map_set,e];apply List.ext_getElem?;intro j;rw[List.getElem?_set]
 split
 ·rename_i hj;subst hj
  split
  ·simp[h]
  ·rename_i hlt;simp at hlt;simp[List.getElem?_eq_none hlt]
 ·rfl
theorem M7 {xs t:List Lot} {p:Pk} (h:Cn xs p) (hn:(xs.map (·.id)).Nodup) :
  ∃(k:Nat) (x:Lot),ZO (isLt p.lot) xs 0=(k:Int)/\xs[k]?=some x/\x.id=p.lot/\x.q=canon (val x.q)/\val p.q<=val x.q/\
   stepT (xs,t) p=if x.q=p.q then (xs.eraseIdx k,t++[x]) else (xs.set k (WA x p.q),t++[WP x p.q]):=by
 obtain⟨x,hx,hid,hq,hle⟩:=h.lot;have hany:xs.any (isLt p.lot)=true:=List.any_eq_true.2 ⟨x,hx,by simp[isLt,hid]⟩
 obtain⟨i,y,e,hy,hp,-⟩:=Vz _ _ _ ((UT (isLt p.lot) xs 0).2 hany);rw[Nat.zero_add] at e;have hyid:y.id=p.lot:=by simpa [isLt] using hp
 have hxy:y=x:=by
  obtain⟨j,hj⟩:=List.getElem?_of_mem hx;obtain⟨hi,-⟩:=Lg.1 hy;obtain⟨hj',-⟩:=Lg.1 hj;have h1:(xs.map (·.id))[i]?=some p.lot:=by simp[hy,hyid]
  have h2:(xs.map (·.id))[j]?=some p.lot:=by simp[hj,hid]
  have:i=j:=(List.getElem?_inj (by simpa using hi) hn).1 (h1.trans h2.symm)
  subst this;rw[hy] at hj;cases hj;rfl
 subst hxy;refine⟨i,y,e,hy,hid,hq,hle,?_⟩;unfold stepT;simp only[e,Int.toNat_natCast,List.getD_eq_getElem?_getD,hy,Option.getD_some]
def ZaG (g:Lot->Int):Prop:=∀x q,g (WP x q)+g (WA x q)=g x
theorem Ih (f:Lot->Int) (h:∀x q,f (WP x q)+f (WA x q)=f x) (I:List UInt8):ZaG (fun x=>if x.ins==I then f x else 0):=fun x q=>by
 show (if x.ins==I then f (WP x q) else 0)+(if x.ins==I then f (WA x q) else 0)=if x.ins==I then f x else 0
 split
 ·exact h x q
 ·rfl
theorem ZaH (x:Lot) (q:List UInt8):val (WP x q).q+val (WA x q).q=val x.q:=by
 show val q+val (canon (val x.q-val q))=_;rw[Zg];omega
theorem ZaI (x:Lot) (q:List UInt8):val (WP x q).cost+val (WA x q).cost=val x.cost:=by
 show val (canon (NV (val x.cost) (val q) (val x.q)))+val (canon (val x.cost-NV (val x.cost) (val q) (val x.q)))=_;rw[Zg,Zg];omega
theorem T6 (f:Lot->Int) (I:List UInt8):∀xs:List Lot,((xs.filter (fun x=>x.ins==I)).map f).sum=(xs.map (fun x=>if x.ins==I then f x else 0)).sum
 | []=>rfl
 | a::t=>by
  have ih:=T6 f I t
  by_cases h:(a.ins==I)=true
  ·rw[List.filter_cons_of_pos (p:=fun x:Lot=>x.ins==I) h,List.map_cons,List.map_cons,List.sum_cons,List.sum_cons,ih,if_pos h]
  ·rw[List.filter_cons_of_neg (p:=fun x:Lot=>x.ins==I) h,List.map_cons,List.sum_cons,ih,if_neg h];omega
structure ZaJ (xs t:List Lot) (ps:List Pk) (s:List Lot×List Lot):Prop where
 sum:∀g,ZaG g->(s.1.map g).sum+(s.2.map g).sum=(xs.map g).sum+(t.map g).sum
 qs:s.2.map (·.q)=t.map (·.q)++ps.map (·.q)
 ids:s.2.map (·.id)=t.map (·.id)++ps.map (·.lot)
 len:s.1.length<=xs.length
theorem M8 {xs t:List Lot} {p:Pk} {ps:List Pk} (h:P4 xs (p::ps)):P4 (stepT (xs,t) p).1 ps/\ZaJ xs t [p] (stepT (xs,t) p)/\
  (∀y∈(stepT (xs,t) p).1,y∈xs∨∃x∈xs,x.id=p.lot/\y=WA x p.q)/\(∀y∈(stepT (xs,t) p).2,y∈t∨∃x∈xs,x.id=p.lot/\(y=x∨(0<val p.q/\val p.q<val x.q/\y=WP x p.q)))/\
  (∀x∈xs,x.id≠p.lot->x∈(stepT (xs,t) p).1)/\(∀y∈(stepT (xs,t) p).1,y.id≠p.lot->y∈xs):=by
 have hp:=h.all p List.mem_cons_self;obtain⟨k,x,ek,hx,hid,hcq,hle,es⟩:=M7 (t:=t) hp h.nd;have hnd:=h.pnd;rw[List.map_cons,List.nodup_cons] at hnd;have hother:∀r∈ps,r.lot≠p.lot:=fun r hr e=>hnd.1 (List.mem_map.2 ⟨r,hr,e⟩)
 have hxm:=Lm hx;have hkeep:∀(W:List Lot),(∀y∈xs,y≠x->y∈W)->∀r∈ps,Cn W r:=fun W hW r hr=>by
  obtain⟨⟨y,hy,h1,h2,h3⟩,h4,h5⟩:=h.all r (List.mem_cons_of_mem _ hr);refine⟨⟨y,hW y hy (fun e=>?_),h1,h2,h3⟩,h4,h5⟩
  subst e;exact hother r hr (h1.symm.trans hid)
 rw[es]
 by_cases hq:x.q=p.q
 ·rw[if_pos hq];refine⟨⟨?_,hkeep _ (fun y hy hne=>Un hx hy hne),hnd.2⟩,⟨fun g _=>?_,?_,?_,?_⟩,fun y hy=>.inl (List.mem_of_mem_eraseIdx hy),fun y hy=>?_,fun y hy hne=>Un hx hy (fun e=>hne (e ▸ hid)),fun y hy _=>List.mem_of_mem_eraseIdx hy⟩
  ·exact List.Nodup.sublist ((List.eraseIdx_sublist _ _).map _) h.nd
  ·simp only[Na hx,List.map_append,List.sum_append,List.map_cons,List.map_nil,List.sum_cons,List.sum_nil];omega
  ·simp[hq]
  ·simp[hid]
  ·exact (List.eraseIdx_sublist _ _).length_le
  ·rcases List.mem_append.1 hy with hy|hy
   ·exact .inl hy
   ·simp at hy;subst hy;exact .inr ⟨y,hxm,hid,.inl rfl⟩
 ·rw[if_neg hq];have hlt:val p.q<val x.q:=by
   rcases Int.lt_or_le (val p.q) (val x.q) with h1|h1
   ·exact h1
   ·exfalso;apply hq;rw[hcq,hp.can];congr 1;omega
  refine⟨⟨?_,hkeep _ (fun y hy hne=>T5 _ hx hy hne),hnd.2⟩,⟨fun g hg=>?_,?_,?_,?_⟩,fun y hy=>?_,fun y hy=>?_,fun y hy hne=>T5 _ hx hy (fun e=>hne (e ▸ hid)),fun y hy hne=>?_⟩
  ·show ((xs.set k (WA x p.q)).map (·.id)).Nodup
   rw[Co (x:=x) (y:=WA x p.q) hx rfl];exact h.nd
  ·have:=hg x p.q
   simp only[Ig (WA x p.q) hx,List.map_append,List.sum_append,List.map_cons,List.map_nil,List.sum_cons,List.sum_nil];omega
  ·simp[WP]
  ·simp[WP,hid]
  ·simp
  ·rcases List.mem_or_eq_of_mem_set hy with hy|hy
   ·exact .inl hy
   ·exact .inr ⟨x,hxm,hid,hy⟩
  ·rcases List.mem_append.1 hy with hy|hy
   ·exact .inl hy
   ·simp at hy;exact .inr ⟨x,hxm,hid,.inr ⟨hp.pos,hlt,hy⟩⟩
  ·rcases List.mem_or_eq_of_mem_set hy with hy|hy
   ·exact hy
   ·subst hy;exact absurd hid hne
theorem M9:∀(ps:List Pk) (xs t:List Lot),P4 xs ps->ZaJ xs t ps (Yr (xs,t) ps)/\
  (∀y∈(Yr (xs,t) ps).2,y∈t∨∃p∈ps,∃x∈xs,x.id=p.lot/\(y=x∨(0<val p.q/\val p.q<val x.q/\y=WP x p.q)))/\
  (∀y∈(Yr (xs,t) ps).1,y∈xs∨∃p∈ps,∃x∈xs,x.id=p.lot/\y=WA x p.q)
 | [],xs,t,h=>⟨⟨fun _ _=>rfl,by simp[Yr],by simp[Yr],Nl _⟩,fun y hy=>.inl hy,fun y hy=>.inl hy⟩
 | p::ps,xs,t,h=>by
  obtain⟨h1,h2,h3,h4,h5,h6⟩:=M8 (t:=t) h;obtain⟨s1,s2⟩:∃s1,s1=(stepT (xs,t) p).1:=⟨_,rfl⟩
  obtain⟨t1,t2⟩:∃t1,t1=(stepT (xs,t) p).2:=⟨_,rfl⟩
  obtain⟨r1,r2,r3⟩:=M9 ps s1 t1 (s2 ▸ h1);have es:Yr (xs,t) (p::ps)=Yr (s1,t1) ps:=by
   rw[s2,t2];rfl
  have hnd:=h.pnd;rw[List.map_cons,List.nodup_cons] at hnd;have hother:∀r∈ps,r.lot≠p.lot:=fun r hr e=>hnd.1 (List.mem_map.2 ⟨r,hr,e⟩)
  rw[es];rw[<-s2] at h3 h5 h6;rw[<-t2] at h4;refine⟨⟨fun g hg=>?_,?_,?_,?_⟩,fun y hy=>?_,fun y hy=>?_⟩
  ·have a1:=r1.sum g hg;have a2:=h2.sum g hg;rw[<-s2,<-t2] at a2;omega
  ·have a2:=h2.qs;rw[<-t2] at a2;rw[r1.qs,a2];simp
  ·have a2:=h2.ids;rw[<-t2] at a2;rw[r1.ids,a2];simp
  ·have a2:=h2.len;rw[<-s2] at a2;exact Nt r1.len a2
  ·rcases r2 y hy with hy|⟨r,hr,x,hx,hxid,hyx⟩
   ·rcases h4 y hy with hy|⟨x,hx,hxid,hyx⟩
    ·exact .inl hy
    ·exact .inr ⟨p,List.mem_cons_self,x,hx,hxid,hyx⟩
   ·exact .inr ⟨r,List.mem_cons_of_mem _ hr,x,h6 x hx (fun e=>hother r hr (hxid.symm.trans e)),hxid,hyx⟩
  ·rcases r3 y hy with hy|⟨r,hr,x,hx,hxid,hyx⟩
   ·rcases h3 y hy with hy|⟨x,hx,hxid,hyx⟩
    ·exact .inl hy
    ·exact .inr ⟨p,List.mem_cons_self,x,hx,hxid,hyx⟩
   ·exact .inr ⟨r,List.mem_cons_of_mem _ hr,x,h6 x hx (fun e=>hother r hr (hxid.symm.trans e)),hxid,hyx⟩
end Go.Proofs.YtpieeldbamklkaaGreatDoor
