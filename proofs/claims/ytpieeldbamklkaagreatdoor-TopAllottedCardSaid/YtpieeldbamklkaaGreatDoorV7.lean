/- Texts put together: Rs Rt Ru Rv Gd Ge Gf Gg. -/
import Derived.Test.YtpieeldbamklkaaGreatDoorV6
set_option maxHeartbeats 8000000
set_option maxRecDepth 100000
open Go.Proofs.Tryz
namespace Go.Proofs.YtpieeldbamklkaaGreatDoor
open Go.RowKit Go.Shelf Num
attribute [local go_sem] Oper.semAt_some
theorem ZcE (bl bt:Nat) (A:Option Addr) (xs:List Lot) (n c:Nat) (T:List UInt8) (hn:xs.length=n) (hT:T.length<=4900) (hq:∀x∈xs,x.q.length<=2000) (hS0:Tx T (xs.map (·.q))=0)
  (m lw:Nat) (S0:World->Prop) (S:Nat->Obj->List (Lot×List UInt8)->World->Prop)
  (hK0:∀W,S0 W->GE W/\Y7 W A xs/\Blk W bl #[.slice A n c]/\Blk W bt #[Zg T]) (hIn:∀b0 ob W W',S0 W->Below W.heap.size W W'->W.heap.size<=b0->W'.heap[b0]?=some ob->S b0 ob [] W')
  (hSB:∀b0 ob ys W,S b0 ob ys W->Y7 W A xs/\W.heap[b0]?=some ob) (hSm:∀b0 ob ys W W',S b0 ob ys W->Below W.heap.size W W'->S b0 ob ys W')
  (hY:∀zs,UK (val T) (xs.map (fun x=>val x.q)) zs->∀b0 ob ys y W,S b0 ob ys W->(xs.zip (zs.map canon))[ys.length]?=some y->YieldAt Fence.wide (m-1) prog lw #[(Value.agg #[.string ⟨List.toArray y.1.id⟩,.string ⟨List.toArray y.1.ins⟩,Zi y.1.acq,Zi y.1.opn,.string ⟨List.toArray y.1.q⟩,.string ⟨List.toArray y.1.cost⟩,.string ⟨List.toArray y.1.used⟩]),Zg y.2] W fun e W'=>e=.returned (.bool true)/\S b0 ob (ys++[y]) W')
  (W:World) (hS:S0 W):CallsIn Fence.wide m prog 216 (#[.func (.yield lw) #[] #[],.pointer (some ⟨bl,0,none⟩),.pointer (some ⟨bt,0,none⟩)]) W fun e W'=>(∃v,e=.returned v)/\∃zs b0 ob,UK (val T) (xs.map (fun x=>val x.q)) zs/\S b0 ob (xs.zip (zs.map canon)) W':=by
 obtain⟨-,s2,-⟩:=SJ hS0;rw[List.length_map,hn] at s2;have HB:=Lh hSB;have HM:=Lh hSm;have HY:=Lh hY;have HX:=Lh hS;have HK0:=Lh hK0;have HIN:=Lh hIn;have HS0:=Lh hS0;have HQL:=Lh hq;have HN:=Lh hn;have hbl':=(hK0 _ hS).2.2.1;have q0:W.cell? ⟨bl,0,none⟩=some (.slice A n c):=hbl'.c 0;obtain⟨B,hB⟩:∃B,B=W.heap.size:=⟨_,rfl⟩
 have HBS:=Lh hB;have h0:Hid (W.ownsRow B 32 1 (.slice none 0 0) 0 (UG ((xs.map (·.q)).take 0))):=World.ownsRow_nil W B 32 1
 have HBe:Hid (Below W.heap.size W W):=Below.refl _ _;clear hSB hSm hY hS hn hbl' hS0 hq hB hK0 hIn;refine callsIn_of_wp func216 rfl trivial ?_ rfl;simp only[ntmps216,List.size_toArray,List.length_cons,List.length_nil,Nat.reduceAdd,Nat.reduceSub,Array.replicate_succ,Array.replicate_zero,List.push_toArray,List.append_toArray,List.nil_append,List.cons_append]
 gi_wp2_with fail
 clear q0
 gi_loopw [4,6,13] (fun qv _ iv wr=>∃(k:Nat) (v:Value),k<=n/\v=qv/\iv=Zi (k:Int)/\Hid (wr.ownsRow B 32 1 v k (UG ((xs.map (·.q)).take k)))/\Hid (Below W.heap.size W wr)) (fun _ _ iv _=>n-(intOf iv).toNat)
 case atStart=>exact⟨0,_,Nat.zero_le _,rfl,rfl,h0.out,HBe.out⟩
 case round=>
  clear h0 HBe;obtain⟨k,v,hk,rfl,rfl,HO,HBL⟩:=hrel
  by_cases hlk:k<n
  ·have e1:decide (k<n)=true:=Dt hlk;have e2:decide ((k:Int)<(n:Int))=true:=Dt (by omega)
   obtain⟨x,hx⟩:∃x,xs[k]?=some x:=⟨_,List.getElem?_eq_getElem (by have:=HN.out;omega)⟩
   obtain⟨b,o,rfl,hbs,hcells⟩:=((HK0.out _ HX.out).2.1.below HBL.out) k x hx;have p0:=hcells.c0;have p1:=hcells.c1;have p2:=hcells.c2;have p3:=hcells.c3;have p4:=hcells.c4;have p5:=hcells.c5;have p6:=hcells.c6;have hbA:=Zh wr (.cells (Zn x) 130);have Y1:=Lh (Yq.new wr x 130);have q4:=Y1.out.c4;have hbq:=Zh (wr.alloc (.cells (Zn x) 130)) (.cells #[Zg x.q] 32);obtain⟨i0,hi,hz0,hz1,hz2⟩:=info_parts QG;have HAN:Hid (((wr.alloc (.cells (Zn x) 130)).alloc (.cells #[Zg x.q] 32)).heap[wr.heap.size+1]?=some (.cells #[Zg x.q] 32)):=by
    have h:=ZJ (wr.alloc (.cells (Zn x) 130)) (.cells #[Zg x.q] 32);rw[show (wr.alloc (.cells (Zn x) 130)).heap.size=wr.heap.size+1 by simp] at h
    exact h
   have HAZ:Hid (((wr.alloc (.cells (Zn x) 130)).alloc (.cells #[Zg x.q] 32)).heap.size=wr.heap.size+2):=by show _=_;simp
   have HCZ:Hid (B<=wr.heap.size):=by show _<=_;rw[HBS.out];exact HBL.out.size
   have HX5:=Lh hx;have HBQ:=Lh (bto hbA hbq);clear hbs hcells hx hbA hbq;refine wpIn_wide.2 ?_;go_wp2_with (at_builtin;refine ZW rfl _ _ 50 rfl B 32 i0 (Zj) 1 16 underlying50 hi hz0 hz1 hz2 rfl (by decide) _ _ _ rfl (Yt HO.out HBQ.out) ⟨wr.heap.size+1,0,none⟩ 1 1 [Zg x.q] rfl rfl ?c1 ?c2 ?c3 ?c4 ?c5 ?_)
   case c1=>
    intro j u hu;have hj:j<1:=YG hu
    match j,hj with
    | 0,_=>cases hu;exact Zk HAN.out 0
   case c2=>
    intro u hu;simp only[List.mem_cons,List.not_mem_nil,or_false] at hu;subst hu;rfl
   case c3=>unfold maxLen;omega
   case c4=>omega
   case c5=>exact Nt HCZ.out (Nt (Nat.le_add_right _ _) (Nat.le_of_eq HAZ.out.symm))
   intro v' w5 hown' hgrow hfresh;have HO':Hid (w5.ownsRow B 32 1 v' (k+1) (UG ((xs.map (·.q)).take (k+1)))):=by
    have hq:(xs.map (·.q))[k]?=some x.q:=by simp[HX5.out]
    obtain⟨hk2,hxe⟩:=Lg.1 hq;show w5.ownsRow _ _ _ _ _ _;rw[List.take_succ_eq_append_getElem hk2,hxe,NX];exact hown'
   have HBL':Hid (Below W.heap.size W w5):=by
    have h1:=bto HBL.out HBQ.out
    exact h1.grown hgrow h1.size (fun g hg=>by
     have:=(World.ownsRow.lt HO.out g hg).1
     have:=HBS.out
     omega)
   clear hown' hgrow hfresh HO HBL HBQ HAN HAZ HCZ p0 p1 p2 p3 p4 p5 p6 q4 e1 e2 HX5 Y1 hi hz0 hz1 hz2;go_wp2;go_roundw
   case rel=>exact⟨k+1,v',by omega,rfl,by go_num,HO'.out,HBL'.out⟩
   case measure=>simp[intOf];omega
  ·have hkm:k=n:=by omega
   subst hkm;have e1:decide (k<k)=false:=Df (by omega)
   have e2:decide ((k:Int)<(k:Int))=false:=Df (by omega)
   have hfm:Hid ((xs.map (·.q)).take k=xs.map (·.q)):=by show _=_;rw[List.take_of_length_le (by rw[List.length_map];have:=HN.out;omega)]
   obtain⟨A3,c3,rfl⟩:∃A3 c3,v=.slice A3 k c3:=by
    rcases HO.out.2 with ⟨e,h0⟩|⟨g,cap,cur,e,-⟩
    ·exact⟨none,0,by rw[e,h0]⟩
    ·exact⟨_,_,e⟩
   have HI:Hid (WR wr A3 (xs.map (·.q)) k):=by
    refine⟨by rw[List.length_map,HN.out],by omega,fun r hr=>?_,?_⟩
    ·obtain⟨y,hy,rfl⟩:=List.mem_map.1 hr;exact HQL.out y hy
    ·have h:=HO.out;rw[hfm.out] at h;exact Hi h (by rw[List.length_map,HN.out])
   obtain⟨hG0,hL0,hbl0,hbt0⟩:=HK0.out _ HX.out;have q0:wr.cell? ⟨bt,0,none⟩=some (Zg T):=(hbt0.below HBL.out).c 0;have KS:=Lh (DN (T:=T) c3 (hG0.below HBL.out) HI.out hT HS0.out);have HBL0:=Lh (hbl0.below HBL.out);clear HO hfm HI hG0 hL0 hbl0 hbt0
   gi_wp2_with fail
   refine⟨trivial,fun h=>(by cases h),?_⟩
   (refine (callsIn_wide.2 KS.out).mono ?_)
   rintro e w6 ⟨bp,zs,rfl,hgp,hcp,hsp,hb6⟩;rw[List.map_map] at hsp;have hsp:UK (val T) (xs.map (fun x=>val x.q)) zs:=hsp
   have HSI:Hid (S bp (.cells (zsC zs) 32 (0,0)) [] w6):=HIN.out _ _ _ _ HX.out (bto HBL.out hb6) (Nt HBL.out.size hgp) hcp;have hzl:zs.length=k:=by rw[hsp.sum.2,List.length_map,HN.out]
   have HZL:=Lh hzl;have HYY:=Lh (HY.out zs hsp);have HSP:=Lh hsp;have q1:w6.cell? ⟨bl,0,none⟩=some (.slice A k c):=(HBL0.out.below hb6).c 0;clear q0 KS HBL0 hcp hgp hb6 hzl hsp HY HIN HX HBL HK0 e1 e2
   gi_wp2_with fail
   clear q1
   gi_loopw [9,10,31] (fun _ _ iv wr=>∃(j:Nat) (ys:List (Lot×List UInt8)),j<=k/\iv=Zi (j:Int)/\Hid (ys=(xs.zip (zs.map canon)).take j)/\Hid (S bp (.cells (zsC zs) 32 (0,0)) ys wr)) (fun _ _ iv _=>k-(intOf iv).toNat)
   case atStart=>exact⟨0,[],Nat.zero_le _,rfl,rfl,HSI.out⟩
   case round=>
    clear HSI;obtain⟨j,ys,hj,rfl,HYS,HS⟩:=hrel
    by_cases hlj:j<k
    rotate_left
    ·have HE:Hid (S bp (.cells (zsC zs) 32 (0,0)) (xs.zip (zs.map canon)) wr):=by
      have h:=HS.out;rw[HYS.out,List.take_of_length_le (by rw[List.length_zip];have:=HN.out;omega)] at h
      exact h
     have e1:decide (j<k)=false:=Df hlj;have e2:decide ((j:Int)<(k:Int))=false:=Df (by omega)
     clear HYS HS HYY
     gi_wp2
     go_end0
     exact⟨⟨_,rfl⟩,zs,_,_,HSP.out,HE.out⟩
    have e1:decide (j<k)=true:=Dt hlj;have e2:decide ((j:Int)<(k:Int))=true:=Dt (by omega)
    obtain⟨x,hx⟩:∃x,xs[j]?=some x:=⟨_,List.getElem?_eq_getElem (by have:=HN.out;omega)⟩
    obtain⟨z,hz⟩:∃z,zs[j]?=some z:=⟨_,List.getElem?_eq_getElem (by have:=HZL.out;omega)⟩
    obtain⟨hLA,hbp⟩:=HB.out _ _ _ _ HS.out;obtain⟨b,o,rfl,hbs,hcells⟩:=hLA j x hx;have p0:=hcells.c0;have p1:=hcells.c1;have p2:=hcells.c2;have p3:=hcells.c3;have p4:=hcells.c4;have p5:=hcells.c5;have p6:=hcells.c6;have hbA:=Zh wr (.cells (Zn x) 130);have Y1:=Lh (Yq.new wr x 130);have HBP:=Lh (Zv hbp hbA);have HZC:Hid ((zsC zs)[j]?=some (Zg (canon z))):=SR (by rw[List.getElem?_map,hz];rfl)
    have HZ:=Lh YS;have hzip:(xs.zip (zs.map canon))[j]?=some (x,canon z):=by
     rw[List.getElem?_zip_eq_some];exact⟨hx,by rw[List.getElem?_map,hz];rfl⟩
    have hyl:ys.length=j:=by
     rw[HYS.out,List.length_take,List.length_zip,List.length_map,HN.out,HZL.out];omega
    have HSA:=Lh (HM.out _ _ _ _ _ HS.out hbA);have HYD:Hid (∀W',S bp (.cells (zsC zs) 32 (0,0)) ys W'->YieldAt Fence.wide (m-1) prog lw #[(Value.agg (Zn x)),Zg (canon z)] W' fun e W''=>e=.returned (.bool true)/\S bp (.cells (zsC zs) 32 (0,0)) (ys++[(x,canon z)]) W''):=fun W' h=>HYY.out bp _ ys (x,canon z) W' h (by rw[hyl];exact hzip)
    have HYS2:Hid (ys++[(x,canon z)]=(xs.zip (zs.map canon)).take (j+1)):=by
     show _=_;obtain⟨h1,h2⟩:=Lg.1 hzip;rw[List.take_succ_eq_append_getElem h1,h2,<-HYS.out]
    clear hx hz hLA hbp hbs hcells hbA hzip hyl HYS HS HYY
    gi_wp2_with fail
    refine VB (by simp) (by simp) (by kernel_rfl) (by kernel_rfl) (by kernel_rfl) (by kernel_rfl) (by kernel_rfl) ?_
    simp only[List.dropLast_cons_cons,List.dropLast_singleton,List.getLast_cons_cons,List.getLast_singleton];refine PeV ?_;refine PkV (.agg (Zn x)) (fun _=>rfl) (fun ρ wz hw=>Zo 130 _ rfl wr.heap.size 0 rfl (lcs x) _ (Yj (Y1.out.below hw)).out underlying130 rfl (by rw[HZ.out];rfl)) ?_
    iterate 2 refine PeV ?_
    refine PeV (v:=.pointer (some ⟨bp,j,none⟩)) ?_;refine PeW (fun ρ wz hw=>by have q0:wz.cell? ⟨bp,j,none⟩=some (Zg (canon z)):=(Zk (Zv HBP.out hw) j).trans HZC.out;go_simp;try rfl) ?_
    intro ρ w21 hF;dsimp only;have HX3:=Lh (HM.out _ _ _ _ _ HSA.out hF.below);clear hF HSA p0 p1 p2 p3 p4 p5 p6 Y1 HBP;obtain⟨fn,tmps,assign,body,hyr,hR⟩:=HYD.out w21 HX3.out
    gi_wp2
    refine⟨fun h=>(by cases h),hR.mono ?_⟩
    rintro e W3 ⟨rfl,hS3⟩;have HX4:=Lh hS3;clear hS3 hR hyr e1 e2
    gi_wp2
    go_roundw
    case rel=>exact⟨j+1,_,by omega,by go_num,HYS2.out,HX4.out⟩
    case measure=>simp[intOf];omega
end Go.Proofs.YtpieeldbamklkaaGreatDoor
namespace Go.Proofs.YtpieeldbamklkaaGreatDoor
open Go.RowKit Go.Shelf Num
theorem DU (A:Option Addr) (n c:Nat) (T:List UInt8) (w:World) :
  Calls prog 169 #[.slice A n c,Zg T] w fun e w'=>e=.returned (.func (.func 216) #[] #[.pointer (some ⟨w.heap.size,0,none⟩),.pointer (some ⟨w.heap.size+1,0,none⟩)])/\w'=(w.alloc (.cells #[.slice A n c] 44)).alloc (.cells #[Zg T] 32):=by
 go_enter func169,ntmps169;go_wp2_with fail;go_ret;exact⟨rfl,rfl⟩
theorem LV (args:Array Value) (w:World):(callFunc 216 args).run prog w=.ok (.enter 216 args) w:=by kernel_rfl
theorem Fs {w:World} {bf:Nat} {P Fe:List UInt8} (v:Value) (hG:GE w) (h0:w.cell? ⟨bf,10,none⟩=some (Zg P)) (h1:w.cell? ⟨bf,11,none⟩=some (Zg Fe)) (hP:P.length<=2000) (hF:Fe.length<=2000) :
  Calls prog 95 #[v,.pointer (some ⟨bf,0,none⟩)] w fun e w'=>e=.returned (Zg (canon (val P-val Fe)))/\Below w.heap.size w w':=by
 have K:=Lh (Vg (l:=P) (l':=Fe) (z:=val P-val Fe) (by omega) (by omega) rfl)
 go_enter func95,ntmps95;go_wp2_with fail
 refine (K.out.e.of hG (Below.refl _ _)).mono ?_
 rintro e w1 ⟨rfl,hb1⟩;go_wp2;go_ret;exact⟨rfl,hb1⟩
theorem DV {w:World} {bl bf bm:Nat} {A Ap:Option Addr} {n c np cp:Nat} {ins q:List UInt8} {mt:Int} {R:Value->Int->World->Prop} (h0:w.cell? ⟨bl,0,none⟩=some (.slice A n c)) (h1:w.cell? ⟨bf,5,none⟩=some (Zg ins)) (h2:w.cell? ⟨bf,9,none⟩=some (Zg q)) (h3:w.cell? ⟨bm,0,none⟩=some (Zi mt)) (h4:w.cell? ⟨bf,18,none⟩=some (.slice Ap np cp))
  (hK:Calls prog 93 #[.slice A n c,Zg ins,Zg q,Zi mt,.slice Ap np cp] w fun e w'=>∃v err,e=.returned (.tuple #[v,Zi err])/\R v err w') :
  Calls prog 92 #[.pointer (some ⟨bl,0,none⟩),.pointer (some ⟨bf,0,none⟩),.pointer (some ⟨bm,0,none⟩)] w fun e w'=>∃v err,e=.returned (.tuple #[v,Zi err])/\R v err w':=by
 have HK:=Lh hK;clear hK;go_enter func92,ntmps92;go_wp2_with fail
 refine HK.out.mono ?_
 rintro e w1 ⟨v,err,rfl,hR⟩;have HR:=Lh hR;clear hR;go_wp2;refine bodyPost_ret (v:=.tuple #[v,Zi err]) (by simp[results,results92,go_sem]) rfl ?_
 exact⟨v,err,rfl,HR.out⟩
structure Gn where
 fact:List UInt8
 lot:List UInt8
 ins:List UInt8
 acq:Int
 day:Int
 q:List UInt8
 pro:List UInt8
 cost:List UInt8
abbrev gnC (x:Gn):Array Value:=#[Zg x.fact,Zg x.lot,Zg x.ins,Zi x.acq,Zi x.day,Zg x.q,Zg x.pro,Zg x.cost,Zj,Zj]
def Ua (x:Gn):List Value:=[Zg x.fact,Zg x.lot,Zg x.ins,Zi x.acq,Zi x.day,Zg x.q,Zg x.pro,Zg x.cost,Zj,Zj]
def Yo (xs:List Gn):List Value:=xs.flatMap Ua
theorem OV (x:Gn):(Ua x).length=10:=rfl
theorem Q8 (x:Gn) (xs:List Gn):Yo (x::xs)=Ua x++Yo xs:=List.flatMap_cons
theorem T9 (xs ys:List Gn):Yo (xs++ys)=Yo xs++Yo ys:=List.flatMap_append
theorem N4:∀{xs:List Gn} {i:Nat} {x:Gn},xs[i]?=some x->∀j,j<10->(Yo xs)[i*10+j]?=(Ua x)[j]?
 | [],i,x,h=>by simp at h
 | y::xs,0,x,h=>by
  have:y=x:=by simpa using h
  subst this;intro j hj;rw[Q8,Nat.zero_mul,Nat.zero_add,List.getElem?_append_left (by rw[OV];exact hj)]
 | y::xs,i+1,x,h=>by
  intro j hj;have h1:=N4 (xs:=xs) (i:=i) (x:=x) (by simpa using h) j hj
  rw[Q8,List.getElem?_append_right (by rw[OV];omega),OV,show (i+1)*10+j-10=i*10+j by omega]
  exact h1
theorem OW (x:Gn):∀u∈Ua x,u.oneCell'=true:=by
 intro u hu;simp only[Ua,List.mem_cons,List.not_mem_nil,or_false] at hu;rcases hu with rfl|rfl|rfl|rfl|rfl|rfl|rfl|rfl|rfl|rfl<;>rfl
theorem QH:(prog.info? 89).map (fun i=>(i.zero,i.size,i.bytes))=some (some (.agg #[Zj,Zj,Zj,Zi 0,Zi 0,Zj,Zj,Zj,Zj,Zj]),10,144):=by kernel_rfl
structure Sp where
 fact:List UInt8
 lot:List UInt8
 q:List UInt8
 cost:List UInt8
def LW (x:Sp):List Value:=[Zg x.fact,Zg x.lot,Zj,Zg x.q,Zj,Zg x.cost]
def Ux (xs:List Sp):List Value:=xs.flatMap LW
theorem J5 (xs ys:List Sp):Ux (xs++ys)=Ux xs++Ux ys:=List.flatMap_append
theorem DX (x:Sp):∀u∈LW x,u.oneCell'=true:=by
 intro u hu;simp only[LW,List.mem_cons,List.not_mem_nil,or_false] at hu;rcases hu with rfl|rfl|rfl|rfl|rfl|rfl<;>rfl
theorem Ft:(prog.info? 136).map (fun i=>(i.zero,i.size,i.bytes))=some (some (.agg #[Zj,Zj,Zj,Zj,Zj,Zj]),6,96):=by kernel_rfl
theorem ZcF (a b:Int) {n:Int} (hn0:0<=n) (hn1:n<=120) (w:World):Calls prog 176 #[Zi a,Zi b,Zi n] w fun e w'=>(∃r:Bool,e=.returned (.bool r))/\Below w.heap.size w w':=by
 have CP:=Lh (Zdf a hn0 hn1 w);go_enter func176,ntmps176;go_wp2_with fail;refine CP.out.mono ?_;rintro e w1 ⟨⟨D,E,rfl⟩,hb1⟩;clear CP;obtain⟨t,ht⟩:∃t,(E==0)=t:=⟨_,rfl⟩
 obtain⟨s,hs⟩:∃s,decide (D<b)=s:=⟨_,rfl⟩
 cases t with
 | false=>
  go_wp2;go_ret;exact⟨⟨_,rfl⟩,hb1⟩
 | true=>
  go_wp2;go_ret;exact⟨⟨_,rfl⟩,hb1⟩
def PH (w:World) (A:Option Addr) (gs:List Gn):Prop:=∀(i:Nat) (x:Gn),gs[i]?=some x->∃b o,A=some ⟨b,o,none⟩/\b<w.heap.size/\w.cell? ⟨b,o+i*10,none⟩=some (Zg x.fact)/\w.cell? ⟨b,o+i*10+1,none⟩=some (Zg x.lot)/\w.cell? ⟨b,o+i*10+2,none⟩=some (Zg x.ins)/\w.cell? ⟨b,o+i*10+3,none⟩=some (Zi x.acq)/\w.cell? ⟨b,o+i*10+4,none⟩=some (Zi x.day)/\w.cell? ⟨b,o+i*10+5,none⟩=some (Zg x.q)/\w.cell? ⟨b,o+i*10+6,none⟩=some (Zg x.pro)/\w.cell? ⟨b,o+i*10+7,none⟩=some (Zg x.cost)/\w.cell? ⟨b,o+i*10+8,none⟩=some (Zj)/\w.cell? ⟨b,o+i*10+9,none⟩=some (Zj)
theorem PH.below {w w':World} {A:Option Addr} {gs:List Gn} (h:PH w A gs) (hb:Below w.heap.size w w'):PH w' A gs:=fun i x hx=>by
 obtain⟨b,o,hA,hl,h0,h1,h2,h3,h4,h5,h6,h7,h8,h9⟩:=h i x hx;exact⟨b,o,hA,Nat.lt_of_lt_of_le hl hb.size,(hb.cell (p:=⟨b,_,none⟩) hl).trans h0,(hb.cell (p:=⟨b,_,none⟩) hl).trans h1,(hb.cell (p:=⟨b,_,none⟩) hl).trans h2,(hb.cell (p:=⟨b,_,none⟩) hl).trans h3,(hb.cell (p:=⟨b,_,none⟩) hl).trans h4,(hb.cell (p:=⟨b,_,none⟩) hl).trans h5,(hb.cell (p:=⟨b,_,none⟩) hl).trans h6,(hb.cell (p:=⟨b,_,none⟩) hl).trans h7,(hb.cell (p:=⟨b,_,none⟩) hl).trans h8,(hb.cell (p:=⟨b,_,none⟩) hl).trans h9⟩
def OX (w:World) (A:Option Addr) (zs:List Int):Prop:=∀(i:Nat) (x:Int),zs[i]?=some x->∃b o,A=some ⟨b,o,none⟩/\b<w.heap.size/\w.cell? ⟨b,o+i,none⟩=some (Zi x)
theorem OX.below {w w':World} {A:Option Addr} {zs:List Int} (h:OX w A zs) (hb:Below w.heap.size w w'):OX w' A zs:=fun i x hx=>by
 obtain⟨b,o,hA,hl,h0⟩:=h i x hx;exact⟨b,o,hA,Nat.lt_of_lt_of_le hl hb.size,(hb.cell (p:=⟨b,_,none⟩) hl).trans h0⟩
theorem ZcG (f:Nat) (hcall:∀(args:Array Value) w,(callFunc f args).run prog w=.ok (.enter f args) w) (G:Prop) (caps:Array Value) {A:Option Addr} {rs:List Int} {n:Nat} (c:Nat) {w:World} (hn:rs.length=n) (hn2:n<=1000000000) (h:OX w A rs)
  (hp:∀x∈rs,∀w',Below w.heap.size w w'->Calls prog f (#[Zi x]++caps) w' fun e w''=>(∃r:Bool,e=.returned (.bool r)/\(G->r=false))/\Below w'.heap.size w' w'') :
  Calls prog 282 #[.slice A n c,.func (Fn.func f) #[] caps] w fun e w'=>(∃z:Int,e=.returned (Zi z)/\(G->z<0))/\Below w.heap.size w w':=by
 have HI:=Lh h;have HP:=Lh hp;have hn1:rs.length<=n:=by omega
 have hn3:n<=rs.length:=by omega
 clear h hp hn;go_enter func282,ntmps282;go_wp2_with fail
 go_loopw [8] (fun iv wr=>∃k:Nat,k<=n/\iv=Zi (k:Int)/\Below w.heap.size w wr) (fun iv _=>n-(intOf iv).toNat)
 case atStart=>exact⟨0,Nat.zero_le _,rfl,Below.refl _ _⟩
 case round=>
  obtain⟨k,hk,rfl,hb⟩:=hrel
  by_cases hlt:k<n
  ·obtain⟨x,hx⟩:∃x,rs[k]?=some x:=⟨_,List.getElem?_eq_getElem (by omega)⟩
   obtain⟨b,o,rfl,hbs,p0⟩:=(HI.out.below hb) k x hx;have CP:=Lh (HP.out x (Lm hx) wr hb);have e1:decide (k<n)=true:=Dt hlt;clear hx;go_wp2_with fail
   refine CP.out.mono ?_
   rintro e w2 ⟨⟨r,rfl,hr⟩,hb2⟩;replace hb:=bto hb hb2;have HR:=Lh hr;clear hb2 CP hr p0;cases r with
   | true=>
    go_wp2;go_ret;exact⟨⟨_,rfl,fun h=>absurd (HR.out h) (by decide)⟩,hb⟩
   | false=>
    go_wp2;go_roundw
    case rel=>exact⟨k+1,by omega,by go_num,hb⟩
    case measure=>simp[intOf];omega
  ·have e1:decide (k<n)=false:=Df hlt;go_wp2;go_ret;exact⟨⟨_,rfl,fun _=>by decide⟩,hb⟩
theorem ZcH (f:Nat) (hcall:∀(args:Array Value) w,(callFunc f args).run prog w=.ok (.enter f args) w) (G:Prop) (caps:Array Value) {A:Option Addr} {rs:List Int} {n:Nat} (c:Nat) {w:World} (hn:rs.length=n) (hn2:n<=1000000000) (h:OX w A rs)
  (hp:∀x∈rs,∀w',Below w.heap.size w w'->Calls prog f (#[Zi x]++caps) w' fun e w''=>(∃r:Bool,e=.returned (.bool r)/\(G->r=false))/\Below w'.heap.size w' w'') :
  Calls prog 222 #[.slice A n c,.func (Fn.func f) #[] caps] w fun e w'=>(∃r:Bool,e=.returned (.bool r)/\(G->r=false))/\Below w.heap.size w w':=by
 have C1:=Lh (ZcG f hcall G caps c hn hn2 h hp);clear hn h hp;go_enter func222,ntmps222;go_wp2_with fail;refine C1.out.mono ?_;rintro e w2 ⟨⟨z,rfl,hz⟩,hb⟩;have HZ:=Lh hz;clear hz C1
 by_cases g:0<=z
 ·have e1:decide (0<=z)=true:=Dt g;go_wp2;go_ret;exact⟨⟨_,rfl,fun h=>absurd (HZ.out h) (by omega)⟩,hb⟩
 ·have e1:decide (0<=z)=false:=Df g;go_wp2;go_ret;exact⟨⟨_,rfl,fun _=>rfl⟩,hb⟩
theorem ZcI (f:Nat) (hcall:∀(args:Array Value) w,(callFunc f args).run prog w=.ok (.enter f args) w) (G:Prop) (caps:Array Value) {A:Option Addr} {rs:List Int} {n:Nat} (c:Nat) {w:World} (hn:rs.length=n) (hn2:n<=1000000000) (h:OX w A rs)
  (hp:∀x∈rs,∀w',Below w.heap.size w w'->Calls prog f (#[Zi x]++caps) w' fun e w''=>(∃r:Bool,e=.returned (.bool r)/\(G->r=false))/\Below w'.heap.size w' w'') :
  Calls prog 313 #[.slice A n c,.func (Fn.func f) #[] caps] w fun e w'=>(∃z:Int,e=.returned (Zi z)/\(G->z<0))/\Below w.heap.size w w':=by
 have HI:=Lh h;have HP:=Lh hp;have hn1:rs.length<=n:=by omega
 have hn3:n<=rs.length:=by omega
 clear h hp hn;go_enter func313,ntmps313;go_wp2_with fail
 go_loopw [8] (fun iv wr=>∃k:Nat,k<=n/\iv=Zi (k:Int)/\Below w.heap.size w wr) (fun iv _=>n-(intOf iv).toNat)
 case atStart=>exact⟨0,Nat.zero_le _,rfl,Below.refl _ _⟩
 case round=>
  obtain⟨k,hk,rfl,hb⟩:=hrel
  by_cases hlt:k<n
  ·obtain⟨x,hx⟩:∃x,rs[k]?=some x:=⟨_,List.getElem?_eq_getElem (by omega)⟩
   obtain⟨b,o,rfl,hbs,p0⟩:=(HI.out.below hb) k x hx;have CP:=Lh (HP.out x (Lm hx) wr hb);have e1:decide (k<n)=true:=Dt hlt;clear hx;go_wp2_with fail
   refine CP.out.mono ?_
   rintro e w2 ⟨⟨r,rfl,hr⟩,hb2⟩;replace hb:=bto hb hb2;have HR:=Lh hr;clear hb2 CP hr p0;cases r with
   | true=>
    go_wp2;go_ret;exact⟨⟨_,rfl,fun h=>absurd (HR.out h) (by decide)⟩,hb⟩
   | false=>
    go_wp2;go_roundw
    case rel=>exact⟨k+1,by omega,by go_num,hb⟩
    case measure=>simp[intOf];omega
  ·have e1:decide (k<n)=false:=Df hlt;go_wp2;go_ret;exact⟨⟨_,rfl,fun _=>by decide⟩,hb⟩
theorem ZcJ (f:Nat) (hcall:∀(args:Array Value) w,(callFunc f args).run prog w=.ok (.enter f args) w) (G:Prop) (caps:Array Value) {A:Option Addr} {rs:List Int} {n:Nat} (c:Nat) {w:World} (hn:rs.length=n) (hn2:n<=1000000000) (h:OX w A rs)
  (hp:∀x∈rs,∀w',Below w.heap.size w w'->Calls prog f (#[Zi x]++caps) w' fun e w''=>(∃r:Bool,e=.returned (.bool r)/\(G->r=false))/\Below w'.heap.size w' w'') :
  Calls prog 280 #[.slice A n c,.func (Fn.func f) #[] caps] w fun e w'=>(∃r:Bool,e=.returned (.bool r)/\(G->r=false))/\Below w.heap.size w w':=by
 have C1:=Lh (ZcI f hcall G caps c hn hn2 h hp);clear hn h hp;go_enter func280,ntmps280;go_wp2_with fail;refine C1.out.mono ?_;rintro e w2 ⟨⟨z,rfl,hz⟩,hb⟩;have HZ:=Lh hz;clear hz C1
 by_cases g:0<=z
 ·have e1:decide (0<=z)=true:=Dt g;go_wp2;go_ret;exact⟨⟨_,rfl,fun h=>absurd (HZ.out h) (by omega)⟩,hb⟩
 ·have e1:decide (0<=z)=false:=Df g;go_wp2;go_ret;exact⟨⟨_,rfl,fun _=>rfl⟩,hb⟩
theorem ZcK (f:Nat) (hcall:∀(args:Array Value) w,(callFunc f args).run prog w=.ok (.enter f args) w) (G:Prop) (caps:Array Value) {A:Option Addr} {rs:List Gn} {n:Nat} (c:Nat) {w:World} (hn:rs.length=n) (hn2:n<=1000000000) (h:PH w A rs)
  (hp:∀x∈rs,∀w',Below w.heap.size w w'->Calls prog f (#[.agg (gnC x)]++caps) w' fun e w''=>(∃r:Bool,e=.returned (.bool r)/\(G->r=false))/\Below w'.heap.size w' w'') :
  Calls prog 217 #[.slice A n c,.func (Fn.func f) #[] caps] w fun e w'=>(∃z:Int,e=.returned (Zi z)/\(G->z<0))/\Below w.heap.size w w':=by
 have HI:=Lh h;have HP:=Lh hp;have hn1:rs.length<=n:=by omega
 have hn3:n<=rs.length:=by omega
 clear h hp hn;go_enter func217,ntmps217;go_wp2_with fail
 go_loopw [8] (fun iv wr=>∃k:Nat,k<=n/\iv=Zi (k:Int)/\Below w.heap.size w wr) (fun iv _=>n-(intOf iv).toNat)
 case atStart=>exact⟨0,Nat.zero_le _,rfl,Below.refl _ _⟩
 case round=>
  obtain⟨k,hk,rfl,hb⟩:=hrel
  by_cases hlt:k<n
  ·obtain⟨x,hx⟩:∃x,rs[k]?=some x:=⟨_,List.getElem?_eq_getElem (by omega)⟩
   obtain⟨b,o,rfl,hbs,p0,p1,p2,p3,p4,p5,p6,p7,p8,p9⟩:=(HI.out.below hb) k x hx;have CP:=Lh (HP.out x (Lm hx) wr hb);have e1:decide (k<n)=true:=Dt hlt;clear hx;go_wp2_with fail
   refine CP.out.mono ?_
   rintro e w2 ⟨⟨r,rfl,hr⟩,hb2⟩;replace hb:=bto hb hb2;have HR:=Lh hr;clear hb2 CP hr p0 p1 p2 p3 p4 p5 p6 p7 p8 p9;cases r with
   | true=>
    go_wp2;go_ret;exact⟨⟨_,rfl,fun h=>absurd (HR.out h) (by decide)⟩,hb⟩
   | false=>
    go_wp2;go_roundw
    case rel=>exact⟨k+1,by omega,by go_num,hb⟩
    case measure=>simp[intOf];omega
  ·have e1:decide (k<n)=false:=Df hlt;go_wp2;go_ret;exact⟨⟨_,rfl,fun _=>by decide⟩,hb⟩
theorem ZcL (f:Nat) (hcall:∀(args:Array Value) w,(callFunc f args).run prog w=.ok (.enter f args) w) (G:Prop) (caps:Array Value) {A:Option Addr} {rs:List Gn} {n:Nat} (c:Nat) {w:World} (hn:rs.length=n) (hn2:n<=1000000000) (h:PH w A rs)
  (hp:∀x∈rs,∀w',Below w.heap.size w w'->Calls prog f (#[.agg (gnC x)]++caps) w' fun e w''=>(∃r:Bool,e=.returned (.bool r)/\(G->r=false))/\Below w'.heap.size w' w'') :
  Calls prog 170 #[.slice A n c,.func (Fn.func f) #[] caps] w fun e w'=>(∃r:Bool,e=.returned (.bool r)/\(G->r=false))/\Below w.heap.size w w':=by
 have C1:=Lh (ZcK f hcall G caps c hn hn2 h hp);clear hn h hp;go_enter func170,ntmps170;go_wp2_with fail;refine C1.out.mono ?_;rintro e w2 ⟨⟨z,rfl,hz⟩,hb⟩;have HZ:=Lh hz;clear hz C1
 by_cases g:0<=z
 ·have e1:decide (0<=z)=true:=Dt g;go_wp2;go_ret;exact⟨⟨_,rfl,fun h=>absurd (HZ.out h) (by omega)⟩,hb⟩
 ·have e1:decide (0<=z)=false:=Df g;go_wp2;go_ret;exact⟨⟨_,rfl,fun _=>rfl⟩,hb⟩
theorem Zag (z:Int) (w:World):Calls prog 281 #[Zi z] w fun e w'=>e=.returned (.bool (decide (z < -25567)||decide (84005<z)))/\w'=w:=by
 by_cases h:z < -25567
 ·have e1:decide (z < -25567)=true:=Dt h;go_enter func281,ntmps281;go_wp2;go_ret;exact⟨ZR (by simp[h]),rfl⟩
 ·have e1:decide (z < -25567)=false:=Df h;go_enter func281,ntmps281;go_wp2;go_ret;exact⟨ZR (by simp),rfl⟩
theorem Zah (z:Int) (w:World):Calls prog 281 #[Zi z] w fun e w'=>(∃r:Bool,e=.returned (.bool r)/\(False->r=false))/\Below w.heap.size w w':=
 (Zag z w).mono (fun e w' h=>⟨⟨_,h.1,False.elim⟩,by rw[h.2];exact Below.refl _ _⟩)
theorem Fu (args:Array Value) (w:World):(callFunc 281 args).run prog w=.ok (.enter 281 args) w:=by kernel_rfl
theorem ZbN {A:Option Addr} {rs:List Int} {n:Nat} (c:Nat) {w:World} (hn:rs.length=n) (hn2:n<=1000000000) (h:OX w A rs):Calls prog 219 #[.slice A n c] w fun e w'=>(∃r:Bool,e=.returned (.bool r))/\Below w.heap.size w w':=by
 have C:=Lh (ZcJ 281 Fu False #[] c hn hn2 h (fun x _ w' _=>Zah x w'))
 clear h hn;go_enter func219,ntmps219;go_wp2_with fail;refine C.out.mono ?_;rintro e w1 ⟨⟨r,rfl,-⟩,hb⟩;clear C;go_wp2;go_ret;exact⟨⟨_,rfl⟩,hb⟩
theorem DY (w:World) (t:TypeId) (a b:Int):OX (w.alloc (.cells #[Zi a,Zi b] t)) (some ⟨w.heap.size,0,none⟩) [a,b]:=fun i x hx=>by
 have h:=Blk.new w #[Zi a,Zi b] t;obtain⟨hi,rfl⟩:=Lg.1 hx;refine⟨w.heap.size,0,rfl,h.lt,?_⟩
 match i,hi with
 | 0,_=>exact h.c 0
 | 1,_=>exact h.c 1
theorem DZ (w:World) (t:TypeId) (a b c d e:List UInt8):SF (w.alloc (.cells #[Zg a,Zg b,Zg c,Zg d,Zg e] t)) (some ⟨w.heap.size,0,none⟩) [a,b,c,d,e]:=fun i x hx=>by
 have h:=Blk.new w #[Zg a,Zg b,Zg c,Zg d,Zg e] t;obtain⟨hi,rfl⟩:=Lg.1 hx;refine⟨w.heap.size,0,rfl,h.lt,?_⟩
 match i,hi with
 | 0,_=>exact h.c 0
 | 1,_=>exact h.c 1
 | 2,_=>exact h.c 2
 | 3,_=>exact h.c 3
 | 4,_=>exact h.c 4
theorem Zai {l:List UInt8} (hl:l.length<=1000000) {t:Bool} (ht:decide (val l<0)=t):Ret 220 #[Zg l] (.bool t):=fun w hG=>by
 obtain⟨c,hc⟩:∃c,ZH (val l) (val [])=c:=⟨_,rfl⟩
 have C:=Lh (ZF (l:=l) (l':=[]) (by omega) (by decide) hc w hG)
 have HT:Hid (decide (c<0)=t):=by
  show _=_;rw[<-ht,<-hc];have h0:val ([]:List UInt8)=0:=by decide
  rw[h0];unfold ZH
  split
  ·rename_i h;rw[Dt h];rfl
  ·rename_i h;rw[Df h];split<;>rfl
 clear hc ht;go_enter func220,ntmps220;go_wp2_with fail;refine C.out.mono ?_;rintro e w1 ⟨rfl,hb⟩;clear C;go_wp2;go_ret;exact⟨ZR HT.out,hb⟩
structure GnS (x:Gn):Prop where
 fact:x.fact.length<=100000
 lot:x.lot.length<=100000
 ins:x.ins.length<=100000
 q:x.q.length<=100000
 pro:x.pro.length<=100000
 cost:x.cost.length<=100000
def Q9 (x:Gn):List UInt8:=if val x.cost-val x.pro<0 then [] else canon (val x.cost-val x.pro)
theorem Fv (x:Gn):0<=val (Q9 x):=by
 unfold Q9
 split
 ·decide
 ·rw[Zm];omega
theorem Zdo (K:Nat) {a b:List UInt8} (ha:a.length<=K) (hb:b.length<=K):(canon (val a-val b)).length<=K+2:=by
 have h1:=Zw ha;have h2:=Zw hb;refine Zu _ (K+1) ?_;rw[Nat.pow_succ];omega
theorem Za3 {x:Gn} (h:GnS x):(canon (val x.cost-val x.pro)).length<=200000:=Nt (Zdo 100000 h.cost h.pro) (by decide)
theorem Fw {x:Gn} (h:GnS x):(Q9 x).length<=200000:=by
 unfold Q9
 split
 ·exact Nat.zero_le _
 ·exact Za3 h
theorem ZcM {x:Gn} (hs:GnS x):Ret 221 #[.agg (gnC x)] (Zg (Q9 x)):=fun w hG=>by
 have hb0:=Zh w (.cells (gnC x) 89);have X0:Hid (Blk (w.alloc (.cells (gnC x) 89)) w.heap.size (gnC x)):=Blk.new w _ 89;have q6:(w.alloc (.cells (gnC x) 89)).cell? ⟨w.heap.size,6,none⟩=some (Zg x.pro):=X0.out.c 6;have q7:(w.alloc (.cells (gnC x) 89)).cell? ⟨w.heap.size,7,none⟩=some (Zg x.cost):=X0.out.c 7;obtain⟨z,hz⟩:∃z,val x.cost-val x.pro=z:=⟨_,rfl⟩
 have hl:=Za3 hs;have hc:=hs.cost;have hp:=hs.pro;rw[hz] at hl;obtain⟨R,hR⟩:∃R,Q9 x=R:=⟨_,rfl⟩
 have hv:R=if z<0 then [] else canon z:=by rw[<-hR];unfold Q9;rw[hz]
 rw[hR];obtain⟨l,hll⟩:∃l,canon z=l:=⟨_,rfl⟩
 have hvl:val l=z:=by rw[<-hll,Zm]
 have C1:=Lh (Vg (l:=x.cost) (l':=x.pro) (by omega) (by omega) hz)
 rw[hll] at C1 hl hv;have HV:=Lh hv;obtain⟨t,ht⟩:∃t,decide (val l<0)=t:=⟨_,rfl⟩
 have C2:=Lh (Zai (l:=l) (by omega) ht)
 have HT:Hid (decide (z<0)=t):=by rw[hvl] at ht;exact ht
 have HG:=Lh hG;clear hs hz hl hc hp hv hR hll hvl ht X0 hG;go_enter func221,ntmps221;go_wp2_with fail;refine (C1.out.of HG.out hb0).mono ?_;rintro e w1 ⟨rfl,hb1⟩;replace hb1:=bto hb0 hb1;clear q6 q7 C1 hb0;go_wp2_with fail;refine (C2.out.of HG.out hb1).mono ?_;rintro e w2 ⟨rfl,hb2⟩;replace hb2:=bto hb1 hb2;clear hb1 C2;cases t with
 | true=>
  go_wp2;go_ret;exact⟨by rw[HV.out,if_pos (of_decide_eq_true HT.out)];rfl,hb2⟩
 | false=>
  go_wp2;go_ret;exact⟨by rw[HV.out,if_neg (of_decide_eq_false HT.out)];rfl,hb2⟩
theorem ZbO {x:Gn} (hs:GnS x) {w:World} (hG:GE w):Calls prog 172 #[.agg (gnC x)] w fun e w'=>(∃E:Int,e=.returned (Zi E))/\Below w.heap.size w w':=by
 have hb0:=Zh w (.cells (gnC x) 89);have X0:Hid (Blk (w.alloc (.cells (gnC x) 89)) w.heap.size (gnC x)):=Blk.new w _ 89;have HG:=Lh hG;have HS:=Lh hs;obtain⟨n1,hn1⟩:∃n1,YE x.fact=n1:=⟨_,rfl⟩
 obtain⟨n2,hn2⟩:∃n2,idB x.lot=n2:=⟨_,rfl⟩
 obtain⟨n3,hn3⟩:∃n3,YE x.ins=n3:=⟨_,rfl⟩
 have C1:=Lh (Ret.e (TH (l:=x.fact) (by have:=hs.fact;omega)))
 have C2:=Lh (Zbx (s:=x.lot) (by have:=hs.lot;omega))
 have C3:=Lh (Ret.e (TH (l:=x.ins) (by have:=hs.ins;omega)))
 rw[hn1] at C1;rw[hn2] at C2;rw[hn3] at C3;have q0:(w.alloc (.cells (gnC x) 89)).cell? ⟨w.heap.size,0,none⟩=some (Zg x.fact):=X0.out.c 0;clear hn1 hn2 hn3 hs hG;go_enter func172,ntmps172;go_wp2_with fail;refine (C1.out.of HG.out hb0).mono ?_;rintro e w1 ⟨rfl,hb1⟩;have X1:=Lh (X0.out.below hb1);have HB1:=Lh (bto hb0 hb1);clear q0 C1 hb0 hb1 X0;cases n1 with
 | false=>
  go_wp2;go_ret;exact⟨⟨_,rfl⟩,HB1.out⟩
 | true=>
 have q1:w1.cell? ⟨w.heap.size,1,none⟩=some (Zg x.lot):=X1.out.c 1;go_wp2_with fail;refine (C2.out.of HG.out HB1.out).mono ?_;rintro e w2 ⟨rfl,hb2⟩;have X2:=Lh (X1.out.below hb2);have HB2:=Lh (bto HB1.out hb2);clear q1 C2 hb2 X1 HB1;cases n2 with
 | false=>
  go_wp2;go_ret;exact⟨⟨_,rfl⟩,HB2.out⟩
 | true=>
 have q2:w2.cell? ⟨w.heap.size,2,none⟩=some (Zg x.ins):=X2.out.c 2;go_wp2_with fail;refine (C3.out.of HG.out HB2.out).mono ?_;rintro e w3 ⟨rfl,hb3⟩;have X3:=Lh (X2.out.below hb3);have HB3:=Lh (bto HB2.out hb3);clear q2 C3 hb3 X2 HB2;cases n3 with
 | false=>
  go_wp2;go_ret;exact⟨⟨_,rfl⟩,HB3.out⟩
 | true=>
 have q3:w3.cell? ⟨w.heap.size,3,none⟩=some (Zi x.acq):=X3.out.c 3;have q4:w3.cell? ⟨w.heap.size,4,none⟩=some (Zi x.day):=X3.out.c 4;go_wp2_with fail;refine (ZbN (rs:=[x.acq,x.day]) (n:=2) 2 rfl (by decide) (DY _ _ _ _)).mono ?_
 rintro e w4 ⟨⟨r,rfl⟩,hb4⟩;have hb4':=bto (Zh w3 (.cells #[Zi x.acq,Zi x.day] 39)) hb4;have X4:=Lh (X3.out.below hb4');have HB4:=Lh (bto HB3.out hb4');clear q3 q4 hb4 hb4' X3 HB3;cases r with
 | false=>
  go_wp2;go_ret;exact⟨⟨_,rfl⟩,HB4.out⟩
 | true=>
 have q3:w4.cell? ⟨w.heap.size,3,none⟩=some (Zi x.acq):=X4.out.c 3;have q4:w4.cell? ⟨w.heap.size,4,none⟩=some (Zi x.day):=X4.out.c 4
 by_cases hd:x.day<x.acq
 ·have e1:decide (x.day<x.acq)=true:=Dt hd;go_wp2;go_ret;exact⟨⟨_,rfl⟩,HB4.out⟩
 have e1:decide (x.day<x.acq)=false:=Df hd;have q5:w4.cell? ⟨w.heap.size,5,none⟩=some (Zg x.q):=X4.out.c 5;have q6:w4.cell? ⟨w.heap.size,6,none⟩=some (Zg x.pro):=X4.out.c 6;have q7:w4.cell? ⟨w.heap.size,7,none⟩=some (Zg x.cost):=X4.out.c 7;have q8:w4.cell? ⟨w.heap.size,8,none⟩=some (Zj):=X4.out.c 8;have q9:w4.cell? ⟨w.heap.size,9,none⟩=some (Zj):=X4.out.c 9;have hst:=DZ w4 32 x.q x.pro x.cost [] [];have hb5:=Zh w4 (.cells #[Zg x.q,Zg x.pro,Zg x.cost,Zj,Zj] 32);have HI:=Lh hst;have HLEN:Hid (∀r∈[x.q,x.pro,x.cost,[],[]],r.length<=100000):=by
  intro r hr;have h1:=HS.out.q;have h2:=HS.out.pro;have h3:=HS.out.cost;simp only[List.mem_cons,List.not_mem_nil,or_false] at hr;rcases hr with rfl|rfl|rfl|rfl|rfl<;>first|assumption|exact Nat.zero_le _
 have HB5:=Lh (bto HB4.out hb5);have X5:=Lh (X4.out.below hb5);obtain⟨W,hW⟩:∃W,W=w4.alloc (.cells #[Zg x.q,Zg x.pro,Zg x.cost,Zj,Zj] 32):=⟨_,rfl⟩
 clear hst hb5 HB4 X4 hd;obtain⟨bk,hbk⟩:∃bk,bk=w4.heap.size:=⟨_,rfl⟩
 rw[<-hbk] at HI;go_wp2_with fail;rw[<-hbk,<-hW];rw[<-hW] at HI HB5 X5;clear hbk hW q5 q6 q7 q8 q9
 go_loopw [45] (fun iv wr=>∃k:Nat,k<=5/\iv=Zi (k:Int)/\Below W.heap.size W wr) (fun iv _=>5-(intOf iv).toNat)
 case atStart=>exact⟨0,by decide,rfl,Below.refl _ _⟩
 case round=>
 obtain⟨k,hk,rfl,hb⟩:=hrel
 by_cases hlt:k<5
 ·obtain⟨r,hr⟩:∃r,[x.q,x.pro,x.cost,[],[]][k]?=some r:=⟨_,List.getElem?_eq_getElem (by simpa using hlt)⟩
  obtain⟨b,o,hbo,hbs,p0⟩:=(HI.out.below hb) k r hr;cases hbo;rw[Nat.zero_add] at p0;have hrl:=HLEN.out r (Lm hr);obtain⟨c,hc⟩:∃c:Int,(if r=canon (val r) then 0 else 1)=c:=⟨_,rfl⟩
  have CK:=Lh (Yv (l:=r) (by omega) hc)
  have e1:decide ((k:Int)<5)=true:=Dt (by omega)
  have e2:decide (k<5)=true:=Dt hlt;clear hr hrl hc;go_wp2_with fail;refine (CK.out.of HG.out.g (bto HB5.out hb)).mono ?_;rintro e w6 ⟨rfl,hb6⟩;replace hb:=bto hb hb6;clear hb6 CK p0
  by_cases h0:c=0
  ·have e3:decide (c=0)=true:=Dt h0;subst h0;go_wp2;go_roundw
   case rel=>exact⟨k+1,by omega,by go_num,hb⟩
   case measure=>simp[intOf];omega
  ·have e3:(c != 0)=true:=V0 (OB h0);clear h0;go_wp2;go_ret;exact⟨⟨_,rfl⟩,bto HB5.out hb⟩
 have e1:decide ((k:Int)<5)=false:=Df (by omega)
 have e2:decide (k<5)=false:=Df hlt;have X6:=Lh (X5.out.below hb);have HB6:=Lh (bto HB5.out hb);clear hb HI HLEN;obtain⟨t1,ht1⟩:∃t,decide (val x.q<0)=t:=⟨_,rfl⟩
 obtain⟨t2,ht2⟩:∃t,decide (val x.cost<0)=t:=⟨_,rfl⟩
 obtain⟨c,hc⟩:∃c,ZH (val []) (val x.q)=c:=⟨_,rfl⟩
 have N1:=Lh (Zai (l:=x.q) (by have:=HS.out.q;omega) ht1)
 have N2:=Lh (Zai (l:=x.cost) (by have:=HS.out.cost;omega) ht2)
 have CE:=Lh (Zai (l:=[]) (by decide) (t:=false) (by decide))
 have CC0:=Lh (ZF (l:=[]) (l':=x.q) (by decide) (by have:=HS.out.q;omega) hc)
 clear ht1 ht2 hc;have q5:wr.cell? ⟨w.heap.size,5,none⟩=some (Zg x.q):=X6.out.c 5;go_wp2_with fail;refine (N1.out.of HG.out.g HB6.out).mono ?_;rintro e w7 ⟨rfl,hb7⟩;have X7:=Lh (X6.out.below hb7);have HB7:=Lh (bto HB6.out hb7);clear q5 N1 hb7 X6 HB6 X5 HB5 e1 e2 hlt hk;cases t1 with
 | true=>
  go_wp2;go_ret;exact⟨⟨_,rfl⟩,HB7.out⟩
 | false=>
 have q7:w7.cell? ⟨w.heap.size,7,none⟩=some (Zg x.cost):=X7.out.c 7;go_wp2_with fail;refine (N2.out.of HG.out.g HB7.out).mono ?_;rintro e w8 ⟨rfl,hb8⟩;have X8:=Lh (X7.out.below hb8);have HB8:=Lh (bto HB7.out hb8);clear q7 N2 hb8 X7 HB7;cases t2 with
 | true=>
  go_wp2;go_ret;exact⟨⟨_,rfl⟩,HB8.out⟩
 | false=>
 have q9:w8.cell? ⟨w.heap.size,9,none⟩=some (Zj):=X8.out.c 9;go_wp2_with fail;refine (CE.out.of HG.out.g HB8.out).mono ?_;rintro e w9 ⟨rfl,hb9⟩;have X9:=Lh (X8.out.below hb9);have HB9:=Lh (bto HB8.out hb9);clear q9 hb9 X8 HB8;have q9:w9.cell? ⟨w.heap.size,9,none⟩=some (Zj):=X9.out.c 9;have q5:w9.cell? ⟨w.heap.size,5,none⟩=some (Zg x.q):=X9.out.c 5;go_wp2_with fail;refine (CC0.out.of HG.out.g HB9.out).mono ?_;rintro e w10 ⟨rfl,hb10⟩;have X15:=Lh (X9.out.below hb10);have HB10:=Lh (bto HB9.out hb10);clear q9 q5 hb10 X9 HB9 CC0
 by_cases hc:0<c
 ·have e1:decide (0<c)=true:=Dt hc;clear hc;go_wp2;go_ret;exact⟨⟨_,rfl⟩,HB10.out⟩
 have e1:decide (0<c)=false:=Df hc;have HG15:=Lh (HG.out.below HB10.out);obtain⟨L,hL⟩:∃L,Q9 x=L:=⟨_,rfl⟩
 have CL:=Lh (ZcM HS.out);have hll:=Fw HS.out;have hlv:=Fv x;rw[hL] at CL hll hlv;obtain⟨d,hd⟩:∃d,ZH (val []) (val L)=d:=⟨_,rfl⟩
 have hd0:decide (0<d)=false:=Df (by
  have h0:val ([]:List UInt8)=0:=by decide
  rw[<-hd,h0];unfold ZH
  split
  ·omega
  ·rw[if_neg (by omega)];omega)
 have CC:=Lh (ZF (l:=[]) (l':=L) (by decide) (by omega) hd)
 clear hc hL hll hlv hd;go_wp2_with fail;clear e1;refine Zx (by kernel_rfl) (by kernel_rfl) ?_
 refine PeV ?_;refine PeW (fun ρ wz hw=>by have q8:wz.cell? ⟨w.heap.size,8,none⟩=some (Zj):=(X15.out.below hw).c 8;go_simp;try rfl) ?_
 refine PeC (fun wz hw=>CE.out.of HG15.out.g hw) ?_
 iterate 2 refine PeV ?_
 refine PeW (fun ρ wz hw=>by have q8:wz.cell? ⟨w.heap.size,8,none⟩=some (Zj):=(X15.out.below hw).c 8;go_simp;try rfl) ?_
 refine PeW (fun ρ wz hw=>by have q0:wz.cell? ⟨w.heap.size,0,none⟩=some (Zg x.fact):=(X15.out.below hw).c 0;have q1:wz.cell? ⟨w.heap.size,1,none⟩=some (Zg x.lot):=(X15.out.below hw).c 1;have q2:wz.cell? ⟨w.heap.size,2,none⟩=some (Zg x.ins):=(X15.out.below hw).c 2;have q3:wz.cell? ⟨w.heap.size,3,none⟩=some (Zi x.acq):=(X15.out.below hw).c 3;have q4:wz.cell? ⟨w.heap.size,4,none⟩=some (Zi x.day):=(X15.out.below hw).c 4;have q5:wz.cell? ⟨w.heap.size,5,none⟩=some (Zg x.q):=(X15.out.below hw).c 5;have q6:wz.cell? ⟨w.heap.size,6,none⟩=some (Zg x.pro):=(X15.out.below hw).c 6;have q7:wz.cell? ⟨w.heap.size,7,none⟩=some (Zg x.cost):=(X15.out.below hw).c 7;have q8:wz.cell? ⟨w.heap.size,8,none⟩=some (Zj):=(X15.out.below hw).c 8;have q9:wz.cell? ⟨w.heap.size,9,none⟩=some (Zj):=(X15.out.below hw).c 9;go_simp;try rfl) ?_
 refine PeC (fun wz hw=>CL.out.of HG15.out.g hw) ?_
 refine PeC (fun wz hw=>CC.out.of HG15.out.g hw) ?_
 refine PeV (v:=.bool false) ?_
 iterate 3 refine PeV ?_
 refine PeW (fun ρ wz hw=>by have q9:wz.cell? ⟨w.heap.size,9,none⟩=some (Zj):=(X15.out.below hw).c 9;go_simp;try rfl) ?_
 iterate 3 refine PeV ?_
 refine PeW (fun ρ wz hw=>by have q8:wz.cell? ⟨w.heap.size,8,none⟩=some (Zj):=(X15.out.below hw).c 8;go_simp;try rfl) ?_
 iterate 3 refine PeV ?_
 refine ZY (fun ρ w11 hF=>?_)
 have HB11:=Lh (bto HB10.out hF.below);clear hF CE CL CC HG15 X15;go_wp2;go_ret;exact⟨⟨_,rfl⟩,HB11.out⟩
theorem LX {w:World} {B:Nat} {v:Value} {gs:List Gn} (h:w.ownsRow B 89 10 v gs.length (Yo gs)):∃A c,v=.slice A gs.length c/\gs.length<=c/\PH w A gs:=by
 rcases h.2 with ⟨e,h0⟩|⟨g,cap,cur,e,-,h1,h2,-,h3,h4⟩
 ·have h0:gs=[]:=List.eq_nil_of_length_eq_zero h0;subst h0;exact⟨none,0,e,Nl _,fun i x hx=>by simp at hx⟩
 ·refine⟨_,cap,e,h2,fun i x hx=>?_⟩
  have hlt:=(Lg.1 hx).1;have hr:=(Ag.1 h1).1;have key:∀j u,j<10->(Ua x)[j]?=some u->w.cell? ⟨g,0+i*10+j,none⟩=some u:=fun j u hj hu=>by
   rw[Nat.zero_add,Zk h1,<-Array.getElem?_toList,<-hu,<-N4 hx j hj,<-h4,List.getElem?_take,if_pos (by omega)]
  exact⟨g,0,rfl,hr,key 0 _ (by decide) rfl,key 1 _ (by decide) rfl,key 2 _ (by decide) rfl,key 3 _ (by decide) rfl,key 4 _ (by decide) rfl,key 5 _ (by decide) rfl,key 6 _ (by decide) rfl,key 7 _ (by decide) rfl,key 8 _ (by decide) rfl,key 9 _ (by decide) rfl⟩
theorem OY {w w':World} {B k sz:Nat} {ty:TypeId} {v:Value} {cs:List Value} (h:w.ownsRow B ty sz v k cs) (hb:Below w.heap.size w w'):w'.ownsRow B ty sz v k cs:=by
 refine⟨h.1,?_⟩;rcases h.2 with h2|⟨g,cap,cur,e,hB,hg,r⟩
 ·exact .inl h2
 ·exact .inr ⟨g,cap,cur,e,hB,Zv hg hb,r⟩
theorem N5 {w w':World} {B k sz:Nat} {ty:TypeId} {u v:Value} {cs:List Value} (h:w.ownsRow B ty sz v k cs) (hg:w.grownBy w' u.ownBlock) (hd:Dis v u):w'.ownsRow B ty sz v k cs:=World.ownsRow.kept h hg (by
 cases hv:v.ownBlock with
 | none=>exact .inl rfl
 | some g=>exact .inr (fun e=>hd g hv e.symm))
structure DvS (w:World) (v1 v2:Value) (l1 l2 gs:List Gn) (k:Nat) (W:World):Prop where
 r1:W.ownsRow w.heap.size 89 10 v1 l1.length (Yo l1)
 r2:W.ownsRow w.heap.size 89 10 v2 l2.length (Yo l2)
 dis:Dis v1 v2
 below:Below w.heap.size w W
 m1:∀x∈l1,x∈gs
 n1:l1.length<=k
 n2:l2.length<=k
section
variable {w W W':World} {v1 v2 v':Value} {l1 l2 gs:List Gn} {k:Nat} {x:Gn}
theorem DvS.below2 (h:DvS w v1 v2 l1 l2 gs k W) (hb:Below W.heap.size W W'):DvS w v1 v2 l1 l2 gs k W':=⟨OY h.r1 hb,OY h.r2 hb,h.dis,bto h.below hb,h.m1,h.n1,h.n2⟩
theorem DvS.turn1 (h:DvS w v1 v2 l1 l2 gs k W) (hx:gs[k]?=some x) (ho:W'.ownsRow w.heap.size 89 10 v' (l1.length+1) (Yo l1++Ua x)) (hg:W.grownBy W' v1.ownBlock) (hf:∀g,v'.ownBlock=some g->v1.ownBlock=some g∨W.heap.size<=g):DvS w v' v2 (l1++[x]) l2 gs (k+1) W':=by
 refine⟨?_,N5 h.r2 hg h.dis.symm,Dis.fresh h.dis hf (fun g hg=>(World.ownsRow.lt h.r2 g hg).2),h.below.grown hg h.below.size (fun g hg=>(World.ownsRow.lt h.r1 g hg).1),?_,?_,Nat.le_succ_of_le h.n2⟩
 ·rw[List.length_append,List.length_singleton,T9,show Yo [x]=Ua x by simp[Yo]]
  exact ho
 ·intro y hy;rcases List.mem_append.1 hy with hy|hy
  ·exact h.m1 y hy
  ·rw[List.mem_singleton.1 hy];exact Lm hx
 ·rw[List.length_append,List.length_singleton];have:=h.n1;omega
theorem DvS.turn2 (h:DvS w v1 v2 l1 l2 gs k W) (_hx:gs[k]?=some x) (ho:W'.ownsRow w.heap.size 89 10 v' (l2.length+1) (Yo l2++Ua x)) (hg:W.grownBy W' v2.ownBlock) (hf:∀g,v'.ownBlock=some g->v2.ownBlock=some g∨W.heap.size<=g):DvS w v1 v' l1 (l2++[x]) gs (k+1) W':=by
 refine⟨N5 h.r1 hg h.dis,?_,(Dis.fresh h.dis.symm hf (fun g hg=>(World.ownsRow.lt h.r1 g hg).2)).symm,h.below.grown hg h.below.size (fun g hg=>(World.ownsRow.lt h.r2 g hg).1),h.m1,Nat.le_succ_of_le h.n1,?_⟩
 ·rw[List.length_append,List.length_singleton,T9,show Yo [x]=Ua x by simp[Yo]]
  exact ho
 ·rw[List.length_append,List.length_singleton];have:=h.n2;omega
end
theorem Zaj (f:Nat) (hcall:∀(args:Array Value) w,(callFunc f args).run prog w=.ok (.enter f args) w) (caps:Array Value) {A:Option Addr} {gs:List Gn} {n:Nat} (c:Nat) {w:World} (hn:gs.length=n) (hn2:n<=1000000) (h:PH w A gs)
  (hp:∀x∈gs,∀w',Below w.heap.size w w'->Calls prog f (#[.agg (gnC x)]++caps) w' fun e w''=>(∃r:Bool,e=.returned (.bool r))/\Below w'.heap.size w' w'') :
  Calls prog 174 #[.slice A n c,.func (Fn.func f) #[] caps] w fun e w'=>(∃A1 c1 l1 v2,e=.returned (.tuple #[.slice A1 l1.length c1,v2])/\l1.length<=n/\(∀x∈l1,x∈gs)/\PH w' A1 l1)/\Below w.heap.size w w':=by
 have HI:=Lh h;have HP:=Lh hp;have hn1:gs.length<=n:=by omega
 have hn3:n<=gs.length:=by omega
 clear h hp hn;have HST:Hid (DvS w (.slice none 0 0) (.slice none 0 0) [] [] gs 0 w):=⟨⟨rfl,.inl ⟨rfl,rfl⟩⟩,⟨rfl,.inl ⟨rfl,rfl⟩⟩,fun g hg=>(by cases hg),Below.refl _ _,fun x hx=>(by cases hx),Nl _,Nl _⟩
 go_enter func174,ntmps174;go_wp2_with fail
 go_loopw [6,7,12] (fun u1 u2 iv wr=>∃(k:Nat) (v1 v2:Value) (l1 l2:List Gn),k<=n/\v1=u1/\v2=u2/\iv=Zi (k:Int)/\Hid (DvS w v1 v2 l1 l2 gs k wr)) (fun _ _ iv _=>n-(intOf iv).toNat)
 case atStart=>exact⟨0,_,_,[],[],Nat.zero_le _,rfl,rfl,rfl,HST.out⟩
 case round=>
 clear HST;obtain⟨k,v1,v2,l1,l2,hk,rfl,rfl,rfl,HS⟩:=hrel
 by_cases hlt:k<n
 ·obtain⟨x,hx⟩:∃x,gs[k]?=some x:=⟨_,List.getElem?_eq_getElem (by omega)⟩
  obtain⟨b,o,rfl,hbs,p0,p1,p2,p3,p4,p5,p6,p7,p8,p9⟩:=(HI.out.below HS.out.below) k x hx;have hbA:=Zh wr (.cells (gnC x) 89);have X1:Hid (Blk (wr.alloc (.cells (gnC x) 89)) wr.heap.size (gnC x)):=Blk.new wr _ 89;have CP:=Lh (HP.out x (Lm hx) _ (bto HS.out.below hbA));have HX:=Lh hx;have e1:decide (k<n)=true:=Dt hlt;have e2:decide ((k:Int)<(n:Int))=true:=Dt (by omega)
  replace HS:=Lh (HS.out.below2 hbA);clear hx hbA;have q0:(wr.alloc (.cells (gnC x) 89)).cell? ⟨wr.heap.size,0,none⟩=some (Zg x.fact):=X1.out.c 0;have q1:(wr.alloc (.cells (gnC x) 89)).cell? ⟨wr.heap.size,1,none⟩=some (Zg x.lot):=X1.out.c 1;have q2:(wr.alloc (.cells (gnC x) 89)).cell? ⟨wr.heap.size,2,none⟩=some (Zg x.ins):=X1.out.c 2;have q3:(wr.alloc (.cells (gnC x) 89)).cell? ⟨wr.heap.size,3,none⟩=some (Zi x.acq):=X1.out.c 3;have q4:(wr.alloc (.cells (gnC x) 89)).cell? ⟨wr.heap.size,4,none⟩=some (Zi x.day):=X1.out.c 4;have q5:(wr.alloc (.cells (gnC x) 89)).cell? ⟨wr.heap.size,5,none⟩=some (Zg x.q):=X1.out.c 5;have q6:(wr.alloc (.cells (gnC x) 89)).cell? ⟨wr.heap.size,6,none⟩=some (Zg x.pro):=X1.out.c 6;have q7:(wr.alloc (.cells (gnC x) 89)).cell? ⟨wr.heap.size,7,none⟩=some (Zg x.cost):=X1.out.c 7;have q8:(wr.alloc (.cells (gnC x) 89)).cell? ⟨wr.heap.size,8,none⟩=some (Zj):=X1.out.c 8;have q9:(wr.alloc (.cells (gnC x) 89)).cell? ⟨wr.heap.size,9,none⟩=some (Zj):=X1.out.c 9;go_wp2_with fail
  refine CP.out.mono ?_
  rintro e w2 ⟨⟨r,rfl⟩,hb2⟩;have X2:=Lh (X1.out.below hb2);clear CP X1 p0 p1 p2 p3 p4 p5 p6 p7 p8 p9 q0 q1 q2 q3 q4 q5 q6 q7 q8 q9 hbs e1 e2;cases r with
  | true=>
   have q0:w2.cell? ⟨wr.heap.size,0,none⟩=some (Zg x.fact):=X2.out.c 0;have q1:w2.cell? ⟨wr.heap.size,1,none⟩=some (Zg x.lot):=X2.out.c 1;have q2:w2.cell? ⟨wr.heap.size,2,none⟩=some (Zg x.ins):=X2.out.c 2;have q3:w2.cell? ⟨wr.heap.size,3,none⟩=some (Zi x.acq):=X2.out.c 3;have q4:w2.cell? ⟨wr.heap.size,4,none⟩=some (Zi x.day):=X2.out.c 4;have q5:w2.cell? ⟨wr.heap.size,5,none⟩=some (Zg x.q):=X2.out.c 5;have q6:w2.cell? ⟨wr.heap.size,6,none⟩=some (Zg x.pro):=X2.out.c 6;have q7:w2.cell? ⟨wr.heap.size,7,none⟩=some (Zg x.cost):=X2.out.c 7;have q8:w2.cell? ⟨wr.heap.size,8,none⟩=some (Zj):=X2.out.c 8;have q9:w2.cell? ⟨wr.heap.size,9,none⟩=some (Zj):=X2.out.c 9;obtain⟨i0,hi,hz0,hz1,hz2⟩:=info_parts QH;have HII:=Lh (And.intro hi (And.intro hz0 (And.intro hz1 hz2)));have hbq:=Zh w2 (.cells (gnC x) 89);have HNW:Hid ((w2.alloc (.cells (gnC x) 89)).heap[w2.heap.size]?=some (.cells (gnC x) 89 (0,0))):=ZJ w2 (.cells (gnC x) 89);have HS2:=Lh (HS.out.below2 (bto hb2 hbq));have HLO:Hid (w.heap.size<=(w2.alloc (.cells (gnC x) 89)).heap.size):=HS2.out.below.size;have HL:Hid (∀g,v2.ownBlock=some g->g<(w2.alloc (.cells (gnC x) 89)).heap.size):=fun g hg=>(World.ownsRow.lt HS2.out.r2 g hg).2
   have hln:=HS2.out.n1;have HO:=Lh HS2.out.r1;obtain⟨m,hm⟩:∃m,l1.length=m:=⟨_,rfl⟩
   rw[hm] at hln HO;have HM:=Lh hm;clear hm hi hz0 hz1 hz2 hbq hb2 HS X2;go_wp2_with (at_builtin;refine ZW rfl _ _ 56 rfl w.heap.size 89 i0 (.agg #[Zj,Zj,Zj,Zi 0,Zi 0,Zj,Zj,Zj,Zj,Zj]) 10 144 underlying56 HII.out.1 HII.out.2.1 HII.out.2.2.1 HII.out.2.2.2 rfl (by decide) _ _ _ rfl HO.out ⟨w2.heap.size,0,none⟩ 1 1 (Ua x) rfl rfl ?c1 ?c2 ?c3 ?c4 ?c5 ?_)
   case c1=>
    intro j u hu;rw[Lib.add_plain];have hj:j<10:=YG hu;show (w2.alloc (.cells (gnC x) 89)).cell? ⟨w2.heap.size,0+j,none⟩=some u;rw[Nat.zero_add,Zk HNW.out j,<-hu];show (List.toArray (Ua x))[j]?=_;rw[List.getElem?_toArray]
   case c2=>exact OW _
   case c3=>unfold maxLen;omega
   case c4=>omega
   case c5=>exact HLO.out
   intro v' w5 hown hgrow hfresh;have HS5:=Lh (HS2.out.turn1 HX.out (by rw[HM.out];exact hown) hgrow (fun g hg=>(hfresh g hg).imp id (fun h=>by rw[World.size_alloc];exact h)))
   clear hown hgrow hfresh HS2 HO HM HNW HLO HII HL q0 q1 q2 q3 q4 q5 q6 q7 q8 q9;go_wp2;go_roundw
   case rel=>exact⟨k+1,_,_,l1++[x],l2,by omega,rfl,rfl,by go_num,HS5.out⟩
   case measure=>simp[intOf];omega
  | false=>
   have q0:w2.cell? ⟨wr.heap.size,0,none⟩=some (Zg x.fact):=X2.out.c 0;have q1:w2.cell? ⟨wr.heap.size,1,none⟩=some (Zg x.lot):=X2.out.c 1;have q2:w2.cell? ⟨wr.heap.size,2,none⟩=some (Zg x.ins):=X2.out.c 2;have q3:w2.cell? ⟨wr.heap.size,3,none⟩=some (Zi x.acq):=X2.out.c 3;have q4:w2.cell? ⟨wr.heap.size,4,none⟩=some (Zi x.day):=X2.out.c 4;have q5:w2.cell? ⟨wr.heap.size,5,none⟩=some (Zg x.q):=X2.out.c 5;have q6:w2.cell? ⟨wr.heap.size,6,none⟩=some (Zg x.pro):=X2.out.c 6;have q7:w2.cell? ⟨wr.heap.size,7,none⟩=some (Zg x.cost):=X2.out.c 7;have q8:w2.cell? ⟨wr.heap.size,8,none⟩=some (Zj):=X2.out.c 8;have q9:w2.cell? ⟨wr.heap.size,9,none⟩=some (Zj):=X2.out.c 9;obtain⟨i0,hi,hz0,hz1,hz2⟩:=info_parts QH;have HII:=Lh (And.intro hi (And.intro hz0 (And.intro hz1 hz2)));have hbq:=Zh w2 (.cells (gnC x) 89);have HNW:Hid ((w2.alloc (.cells (gnC x) 89)).heap[w2.heap.size]?=some (.cells (gnC x) 89 (0,0))):=ZJ w2 (.cells (gnC x) 89);have HS2:=Lh (HS.out.below2 (bto hb2 hbq));have HLO:Hid (w.heap.size<=(w2.alloc (.cells (gnC x) 89)).heap.size):=HS2.out.below.size;have HL:Hid (∀g,v1.ownBlock=some g->g<(w2.alloc (.cells (gnC x) 89)).heap.size):=fun g hg=>(World.ownsRow.lt HS2.out.r1 g hg).2
   have hln:=HS2.out.n2;have HO:=Lh HS2.out.r2;obtain⟨m,hm⟩:∃m,l2.length=m:=⟨_,rfl⟩
   rw[hm] at hln HO;have HM:=Lh hm;clear hm hi hz0 hz1 hz2 hbq hb2 HS X2;go_wp2_with (at_builtin;refine ZW rfl _ _ 56 rfl w.heap.size 89 i0 (.agg #[Zj,Zj,Zj,Zi 0,Zi 0,Zj,Zj,Zj,Zj,Zj]) 10 144 underlying56 HII.out.1 HII.out.2.1 HII.out.2.2.1 HII.out.2.2.2 rfl (by decide) _ _ _ rfl HO.out ⟨w2.heap.size,0,none⟩ 1 1 (Ua x) rfl rfl ?c1 ?c2 ?c3 ?c4 ?c5 ?_)
   case c1=>
    intro j u hu;rw[Lib.add_plain];have hj:j<10:=YG hu;show (w2.alloc (.cells (gnC x) 89)).cell? ⟨w2.heap.size,0+j,none⟩=some u;rw[Nat.zero_add,Zk HNW.out j,<-hu];show (List.toArray (Ua x))[j]?=_;rw[List.getElem?_toArray]
   case c2=>exact OW _
   case c3=>unfold maxLen;omega
   case c4=>omega
   case c5=>exact HLO.out
   intro v' w5 hown hgrow hfresh;have HS5:=Lh (HS2.out.turn2 HX.out (by rw[HM.out];exact hown) hgrow (fun g hg=>(hfresh g hg).imp id (fun h=>by rw[World.size_alloc];exact h)))
   clear hown hgrow hfresh HS2 HO HM HNW HLO HII HL q0 q1 q2 q3 q4 q5 q6 q7 q8 q9;go_wp2;go_roundw
   case rel=>exact⟨k+1,_,_,l1,l2++[x],by omega,rfl,rfl,by go_num,HS5.out⟩
   case measure=>simp[intOf];omega
 ·have hkn:k=n:=by omega
  subst hkn;have e1:decide (k<k)=false:=Df (by omega)
  have e2:decide ((k:Int)<(k:Int))=false:=Df (by omega)
  obtain⟨A1,c1,rfl,-,hat⟩:=LX HS.out.r1;have HAT:=Lh hat;clear hat;go_wp2;refine Q6 (s:=4) (t:=5) rfl rfl rfl rfl ⟨⟨A1,c1,l1,v2,rfl,HS.out.n1,HS.out.m1,HAT.out⟩,HS.out.below⟩
theorem gM1 {z:Int} (h0:0<=z) (h1:z<=120) (w:World):Calls prog 223 #[Zi z] w fun e w'=>e=.returned (.bool false)/\w'=w:=by
 have e1:decide (z<0)=false:=Df (by omega)
 have e2:decide (120<z)=false:=Df (by omega)
 go_enter func223,ntmps223;go_wp2;go_ret;exact⟨rfl,rfl⟩
theorem Fy (args:Array Value) (w:World):(callFunc 223 args).run prog w=.ok (.enter 223 args) w:=by kernel_rfl
theorem Fz (args:Array Value) (w:World):(callFunc 171 args).run prog w=.ok (.enter 171 args) w:=by kernel_rfl
theorem FA (args:Array Value) (w:World):(callFunc 175 args).run prog w=.ok (.enter 175 args) w:=by kernel_rfl
theorem Zak {z:Int} (h0:0<=z) (h1:z<=120) {A:Option Addr} (c:Nat) {w:World} (h:OX w A [z]):Calls prog 173 #[.slice A 1 c] w fun e w'=>e=.returned (Zi 0)/\Below w.heap.size w w':=by
 have C:=Lh (ZcH 223 Fy True #[] (rs:=[z]) (n:=1) c rfl (by decide) h (fun x hx w' _=>by
  have hx:x=z:=List.mem_singleton.1 hx;subst hx
  exact (gM1 h0 h1 w').mono (fun e w2 h=>⟨⟨_,h.1,fun _=>rfl⟩,by rw[h.2];exact Below.refl _ _⟩)))
 clear h;go_enter func173,ntmps173;go_wp2_with fail;refine C.out.mono ?_;rintro e w1 ⟨⟨r,rfl,hr⟩,hb⟩;have hr:=hr trivial;subst hr;clear C;go_wp2;go_ret;exact⟨rfl,hb⟩
theorem ZcN {x:Gn} (hs:GnS x) {w:World} (hG:GE w):Calls prog 171 #[.agg (gnC x)] w fun e w'=>(∃r:Bool,e=.returned (.bool r))/\Below w.heap.size w w':=by
 have hb0:=Zh w (.cells (gnC x) 89);have X0:Hid (Blk (w.alloc (.cells (gnC x) 89)) w.heap.size (gnC x)):=Blk.new w _ 89;have q0:(w.alloc (.cells (gnC x) 89)).cell? ⟨w.heap.size,0,none⟩=some (Zg x.fact):=X0.out.c 0;have q1:(w.alloc (.cells (gnC x) 89)).cell? ⟨w.heap.size,1,none⟩=some (Zg x.lot):=X0.out.c 1;have q2:(w.alloc (.cells (gnC x) 89)).cell? ⟨w.heap.size,2,none⟩=some (Zg x.ins):=X0.out.c 2;have q3:(w.alloc (.cells (gnC x) 89)).cell? ⟨w.heap.size,3,none⟩=some (Zi x.acq):=X0.out.c 3;have q4:(w.alloc (.cells (gnC x) 89)).cell? ⟨w.heap.size,4,none⟩=some (Zi x.day):=X0.out.c 4;have q5:(w.alloc (.cells (gnC x) 89)).cell? ⟨w.heap.size,5,none⟩=some (Zg x.q):=X0.out.c 5;have q6:(w.alloc (.cells (gnC x) 89)).cell? ⟨w.heap.size,6,none⟩=some (Zg x.pro):=X0.out.c 6;have q7:(w.alloc (.cells (gnC x) 89)).cell? ⟨w.heap.size,7,none⟩=some (Zg x.cost):=X0.out.c 7;have q8:(w.alloc (.cells (gnC x) 89)).cell? ⟨w.heap.size,8,none⟩=some (Zj):=X0.out.c 8;have q9:(w.alloc (.cells (gnC x) 89)).cell? ⟨w.heap.size,9,none⟩=some (Zj):=X0.out.c 9;have C:=Lh (ZbO hs (hG.below hb0));have HB0:=Lh hb0;clear hs hG X0 hb0;go_enter func171,ntmps171;go_wp2_with fail;refine C.out.mono ?_;rintro e w1 ⟨⟨E,rfl⟩,hb⟩;have HB1:=Lh (bto HB0.out hb);clear C hb;obtain⟨t,ht⟩:∃t,(E != 0)=t:=⟨_,rfl⟩
 go_wp2;go_ret;exact⟨⟨_,rfl⟩,HB1.out⟩
theorem ZcO (x:Gn) {m:Int} (h0:0<=m) (h1:m<=120) {bm:Nat} {w:World} (hm:Blk w bm #[Zi m]):Calls prog 175 #[.agg (gnC x),.pointer (some ⟨bm,0,none⟩)] w fun e w'=>(∃r:Bool,e=.returned (.bool r))/\Below w.heap.size w w':=by
 have hb0:=Zh w (.cells (gnC x) 89);have X0:Hid (Blk (w.alloc (.cells (gnC x) 89)) w.heap.size (gnC x)):=Blk.new w _ 89;have q3:(w.alloc (.cells (gnC x) 89)).cell? ⟨w.heap.size,3,none⟩=some (Zi x.acq):=X0.out.c 3;have q4:(w.alloc (.cells (gnC x) 89)).cell? ⟨w.heap.size,4,none⟩=some (Zi x.day):=X0.out.c 4;have p0:(w.alloc (.cells (gnC x) 89)).cell? ⟨bm,0,none⟩=some (Zi m):=(hm.below hb0).c 0;have C:=Lh (ZcF x.acq x.day h0 h1 (w.alloc (.cells (gnC x) 89)));have HB0:=Lh hb0;clear X0 hb0 hm;go_enter func175,ntmps175;go_wp2_with fail;refine C.out.mono ?_;rintro e w1 ⟨⟨t,rfl⟩,hb⟩;have HB1:=Lh (bto HB0.out hb);clear C hb;go_wp2;go_ret;exact⟨⟨_,rfl⟩,HB1.out⟩
theorem D3 (w:World) (t:TypeId) (a:Int):OX (w.alloc (.cells #[Zi a] t)) (some ⟨w.heap.size,0,none⟩) [a]:=fun i x hx=>by
 have h:=Blk.new w #[Zi a] t;obtain⟨hi,rfl⟩:=Lg.1 hx;refine⟨w.heap.size,0,rfl,h.lt,?_⟩
 match i,hi with
 | 0,_=>exact h.c 0
theorem ZbP {A:Option Addr} {gs:List Gn} {n:Nat} (c:Nat) {w:World} {m:Int} (h0:0<=m) (h1:m<=120) (hG:GE w) (hn:gs.length=n) (hn2:n<=1000000) (h:PH w A gs) (hs:∀x∈gs,GnS x) :
  Calls prog 96 #[.slice A n c,Zi m] w fun e w'=>(e=.returned (.tuple #[.slice none 0 0,.slice none 0 0,Zi 1])∨∃A1 c1 l1 v2,e=.returned (.tuple #[.slice A1 l1.length c1,v2,Zi 0])/\l1.length<=n/\(∀x∈l1,x∈gs)/\PH w' A1 l1)/\Below w.heap.size w w':=by
 have hb0:=Zh w (.cells #[Zi m] 3);have X0:Hid (Blk (w.alloc (.cells #[Zi m] 3)) w.heap.size #[Zi m]):=Blk.new w _ 3;have C1:=Lh (ZcL 171 Fz False #[] c hn (Nt hn2 (by decide)) (h.below hb0) (fun x hx w' hb=>(ZcN (hs x hx) (hG.below (bto hb0 hb))).mono (fun e w2 h=>⟨h.1.elim fun r hr=>⟨r,hr,False.elim⟩,h.2⟩)))
 have CD:=Lh (fun (w':World) (hb:Below w.heap.size w w') (hm:Blk w' w.heap.size #[Zi m])=>Zaj 175 FA #[.pointer (some ⟨w.heap.size,0,none⟩)] c hn hn2 (h.below hb) (fun x _ w2 hb2=>ZcO x h0 h1 (hm.below hb2)))
 have HB0:=Lh hb0;clear h hn hG hs hb0;go_enter func96,ntmps96;go_wp2_with fail;refine C1.out.mono ?_;rintro e w1 ⟨⟨r,rfl,-⟩,hb1⟩;have X1:=Lh (X0.out.below hb1);have HB1:=Lh (bto HB0.out hb1);clear C1 hb1 X0 HB0;cases r with
 | true=>
  go_wp2;refine bodyPost_ret (v:=.tuple #[.slice none 0 0,.slice none 0 0,Zi 1]) ?_ rfl ⟨.inl rfl,HB1.out⟩;simp[results,results96,go_sem]
 | false=>
 have q0:w1.cell? ⟨w.heap.size,0,none⟩=some (Zi m):=X1.out.c 0;go_wp2_with fail;refine (Zak h0 h1 1 (D3 _ _ _)).mono ?_;rintro e w2 ⟨rfl,hb2⟩;have hb2':=bto (Zh w1 (.cells #[Zi m] 3)) hb2;have HB2:=Lh (bto HB1.out hb2');have X2:=Lh (X1.out.below hb2');clear hb2 hb2' X1 HB1 q0;go_wp2_with fail;refine (CD.out _ HB2.out X2.out).mono ?_;rintro e w3 ⟨⟨A1,c1,l1,v2,rfl,hl,hm,hat⟩,hb3⟩;have HB3:=Lh (bto HB2.out hb3);have HH:=Lh (And.intro hl (And.intro hm hat));clear hl hm hat hb3 CD X2 HB2;go_wp2;refine bodyPost_ret (v:=.tuple #[.slice A1 l1.length c1,v2,Zi 0]) ?_ rfl ⟨.inr ⟨A1,c1,l1,v2,rfl,HH.out⟩,HB3.out⟩;simp[results,results96,go_sem]
end Go.Proofs.YtpieeldbamklkaaGreatDoor
