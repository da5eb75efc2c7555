/- Texts put together: Om Ut On By Rb. -/
import Derived.Test.YtpieeldbamklkaaGreatDoorA4
import Derived.Deep.DeepCutAuto
set_option maxHeartbeats 8000000
set_option maxRecDepth 100000
namespace Go.Proofs.YtpieeldbamklkaaGreatDoor
open Go.RowKit Num
theorem NS:(Tryz.prog.info? 32).map (fun i=>(i.zero,i.size,i.bytes))=some (some (.string ⟨#[]⟩),1,16):=by kernel_rfl
theorem G8:(Tryz.prog.info? 3).map (fun i=>(i.zero,i.size,i.bytes))=some (some (.int .i64 0),1,8):=by kernel_rfl
theorem Dy (n:Nat) (hn:n<=100000) (w:World) :
  (Instr.makeSlice 50 (.int .i64 (n:Int)) (.int .i64 (n:Int))).run Tryz.prog w=.ok (.slice (some ⟨w.heap.size,0,none⟩) n n) (w.alloc (.cells (zsC (List.replicate n 0)) 32)):=by
 obtain⟨i0,hi,hz0,hz1,hz2⟩:=info_parts NS;rw[Wo 50 32 i0 (.string ⟨#[]⟩) Tryz.underlying50 hi hz0 .i64 .i64 n n (Nl _) (by rw[hz2];omega) (by omega) w,hz1]
 have:madeCells (Value.string ⟨#[]⟩).cells (n*1)=zsC (List.replicate n 0):=by
  apply Array.ext';show (madeCells #[Value.string ⟨#[]⟩] (n*1)).toList=_;have e:(canon 0).toArray=#[]:=by decide
  rw[toList_madeCells_one];simp[zsC,LN,List.map_replicate,e]
 rw[this]
theorem Dz (n:Nat) (hn:n<=100000) (w:World) :
  (Instr.makeSlice 198 (.int .i64 (n:Int)) (.int .i64 (n:Int))).run Tryz.prog w=.ok (.slice (some ⟨w.heap.size,0,none⟩) n n) (w.alloc (.cells (izC (List.replicate n 0)) 3)):=by
 obtain⟨i0,hi,hz0,hz1,hz2⟩:=info_parts G8;rw[Wo 198 3 i0 (.int .i64 0) Tryz.underlying198 hi hz0 .i64 .i64 n n (Nl _) (by rw[hz2];omega) (by omega) w,hz1]
 have:madeCells (Value.int .i64 0).cells (n*1)=izC (List.replicate n 0):=by
  apply Array.ext';show (madeCells #[Value.int .i64 0] (n*1)).toList=_;rw[toList_madeCells_one];simp[izC]
 rw[this]
structure Zc0 (w:World) (bp br bx n:Nat) (wx:World):Prop where
 lp:w.heap.size<=bp
 lr:w.heap.size<=br
 lx:w.heap.size<=bx
 pr:bp≠br
 px:bp≠bx
 rx:br≠bx
 p:wx.heap[bp]?=some (.cells (zsC (List.replicate n 0)) 32 (0,0))
 r:wx.heap[br]?=some (.cells (zsC (List.replicate n 0)) 32 (0,0))
 x:Blk wx bx #[.slice (some ⟨br,0,none⟩) n n]
 below:Below w.heap.size w wx
structure Zbr (w0 w:World) (bp br bx bo n:Nat) (Q R I:List Int) (k:Nat) (wr:World):Prop where
 below:Below w0.heap.size w0 wr
 bw:Zl (fun b=>b=bp∨b=br∨b=bo) w wr
 p:wr.heap[bp]?=some (.cells (zsC (Ys Q k)) 32 (0,0))
 r:wr.heap[br]?=some (.cells (zsC (Ys R k)) 32 (0,0))
 o:wr.heap[bo]?=some (.cells (izC (Ys I k)) 3 (0,0))
 x:Blk wr bx #[.slice (some ⟨br,0,none⟩) n n]
theorem al3 (w1:World) (a b c:Obj):(((w1.alloc a).alloc b).alloc c).drew.heap[w1.heap.size]?=some a/\(((w1.alloc a).alloc b).alloc c).drew.heap[w1.heap.size+1]?=some b/\(((w1.alloc a).alloc b).alloc c).drew.heap[w1.heap.size+1+1]?=some c/\Below w1.heap.size w1 (((w1.alloc a).alloc b).alloc c).drew:=by
 have h0:(((w1.alloc a).alloc b).alloc c).drew.heap=((w1.heap.push a).push b).push c:=rfl;refine⟨?_,?_,?_,?_⟩
 ·rw[h0];simp only[Array.getElem?_push,Array.size_push];rw[if_neg (by omega),if_neg (by omega),if_pos trivial]
 ·rw[h0];simp only[Array.getElem?_push,Array.size_push];rw[if_neg (by omega),if_pos trivial]
 ·rw[h0];simp only[Array.getElem?_push,Array.size_push];rw[if_pos trivial]
 ·exact ZaN (bto (bto (Zb w1 a) (Zb _ b)) (Zb _ c))
theorem WF:∀(Q:List Int) (k:Nat),(∀q∈Q,0<=q)->0<=(Q.take k).sum/\(Q.take k).sum<=Q.sum
 | [],k,_=>by simp
 | q::t,0,h=>by
  have h1:=(WF t 0 (fun x hx=>h x (List.mem_cons_of_mem _ hx))).2
  have h2:=h q List.mem_cons_self;simp at h1 ⊢;omega
 | q::t,k+1,h=>by
  have h1:=WF t k (fun x hx=>h x (List.mem_cons_of_mem _ hx))
  have h2:=h q List.mem_cons_self;simp only[List.take_succ_cons,List.sum_cons];omega
theorem Zbs {z:Int} {T:List UInt8} (hT:T.length<=5000) (h0:0<=z) (h1:z<=val T+1000):(canon z).length<=5100:=by
 obtain⟨N,hN⟩:∃N,N=5000:=⟨_,rfl⟩
 rw[<-hN] at hT;have h:=Zz (l:=T) hT;refine Nt (Zo z (N+1) ?_) (by omega)
 have e:(10:Nat) ^ (N+1)=10 ^ N*10:=Nat.pow_succ ..;rw[e];have h3:(1000:Nat)<=10 ^ N:=Nt (by decide:1000<=10 ^ 3) (Nat.pow_le_pow_right (by decide) (by omega))
 generalize (10:Nat) ^ N=P at *;omega
theorem XH {a b:Int} {k:Nat} (h:0<=a/\a<=b) (hb:(canon b).length<=k):(canon a).length<=k+1:=by
 have h1:=Zz hb;rw[Zj] at h1;exact Zo a k (by omega)
theorem JJ {T S:Int} {zs:List Int} {k:Nat} {z:Int} (h:zs[k]?=some z):(WX T S zs)[k]?=some (T*z / S)/\(VH T S zs)[k]?=some (T*z % S):=by
 simp[WX,VH,h]
theorem TU {Q:List Int} {k:Nat} {q:Int} (h:Q[k]?=some q):(Q.take (k+1)).sum=(Q.take k).sum+q:=by
 obtain⟨hk,rfl⟩:=Lg.1 h;rw[List.take_succ_eq_append_getElem hk,List.sum_append];simp
def Zc1 (w:World) (T:Int) (zs:List Int) (n:Nat) (e:Ending) (w':World):Prop:=
 ∃bp ps,e=.returned (.slice (some ⟨bp,0,none⟩) n n)/\w.heap.size<=bp/\w'.heap[bp]?=some (.cells (zsC ps) 32 (0,0))/\OQ T zs ps/\Below w.heap.size w w'
theorem IX:∀(ws:List (List UInt8)),(∀r∈ws,0<=val r)->0<=WC ws
 | [],_=>Int.le_refl _
 | r::t,h=>by
  have h1:=IX t (fun x hx=>h x (List.mem_cons_of_mem _ hx))
  have h2:=h r List.mem_cons_self;rw[NL];omega
theorem JK (R:List Int) (i:Nat):val ((R.map canon).getD i [])=R.getD i 0:=by
 rw[List.getD_eq_getElem?_getD,List.getD_eq_getElem?_getD,List.getElem?_map];cases R[i]? with
 | none=>rfl
 | some z=>simp[Zj]
theorem G9 (n:Nat):izC ((List.range n).map (fun (k:Nat)=>(k:Int)))=TE (List.range n):=AS _
theorem DC {a b:Int} (h:0<b):WU a b=a / b/\Ul a b=a % b:=by
 unfold WU Ul;exact⟨if_pos (by omega),if_pos (by omega)⟩
theorem NT {w:World} {A:Option Addr} {ws:List (List UInt8)} {n:Nat} (c:Nat) {T:List UInt8} (hG:GE w) (hI:Uo w A ws n) (hT:T.length<=5000) (h0:1<=n) (hn1:n<=1000) (hpos:∀r∈ws,0<=val r) (hS:WC ws≠0) (hT0:0<=val T) :
  Calls Tryz.prog 242 #[.string ⟨T.toArray⟩,.slice A n c] w (Zc1 w (val T) (ws.map val) n):=by
 have hS0:0<WC ws:=by
  have:0<=WC ws:=IX ws hpos
  omega
 obtain⟨S,hSe⟩:∃S,S=WC ws:=⟨_,rfl⟩
 obtain⟨zs,hzs⟩:∃zs,zs=ws.map val:=⟨_,rfl⟩
 have hzS:zs.sum=S:=by rw[hzs,hSe];rfl
 rw[<-hzs];obtain⟨Q,hQ⟩:∃Q,Q=WX (val T) S zs:=⟨_,rfl⟩
 obtain⟨R,hR⟩:∃R,R=VH (val T) S zs:=⟨_,rfl⟩
 obtain⟨I,hIe⟩:∃I,I=(List.range n).map (fun (k:Nat)=>(k:Int)):=⟨_,rfl⟩
 have hzl:zs.length=n:=by rw[hzs,List.length_map];exact hI.len
 have hQl:Q.length=n:=by rw[hQ];simp[WX,hzl]
 have hRl:R.length=n:=by rw[hR];simp[VH,hzl]
 have hIl:I.length=n:=by rw[hIe];simp
 have hSl:(canon S).length<=2008:=by rw[hSe];exact LD 2000 ws hI.sm (by rw[hI.len];omega)
 have C0:=Lh (Dg c hG.g hI);have HI:=Lh hI.mem;have HSM:=Lh hI.sm;have HN:=Lh hI.len;obtain⟨hm0,hm1⟩:=IV (val T) zs (by rw[hzS,hSe];exact hS0)
 rw[hzS,<-hQ] at hm0 hm1;rw[hzl] at hm1;have hmk1:=fun w=>Dy n (by omega) w
 have hmk2:=fun w=>Dz n (by omega) w
 have hQn:∀q∈Q,0<=q:=fun q hq=>by
  rw[hQ] at hq;obtain⟨z,hz,rfl⟩:=List.mem_map.1 hq;rw[hzs] at hz;obtain⟨r,hr,rfl⟩:=List.mem_map.1 hz;exact Int.ediv_nonneg (Int.mul_nonneg hT0 (hpos r hr)) (by rw[hSe];omega)
 have HQN:Hid (∀k,0<=(Q.take k).sum/\(Q.take k).sum<=val T):=fun k=>by
  have:=WF Q k hQn
  omega
 have HQM:Hid (∀q∈Q,0<=q/\q<=val T):=fun q hq=>by
  refine⟨hQn q hq,?_⟩;obtain⟨i,hi⟩:=List.getElem?_of_mem hq;have h1:=TU hi;have h2:=(WF Q (i+1) hQn).2;have h3:=(WF Q i hQn).1;omega
 rw[<-hSe] at C0 hS0;have HSS:=Lh hS0;have HP:Hid (∀js:List Nat,js.Perm (List.range n)->js.Pairwise (Ph fun i=>R.getD i 0)->OQ (val T) zs (WE Q (js.take (val T-Q.sum).toNat))):=fun js h1 h2=>by
  have:=Dv (val T) zs (by rw[hzS];exact hS0) js (by rw[hzl];exact h1) (by rw[hzS,<-hR];exact h2)
  rw[hzS,<-hQ] at this;exact this
 have HQ:=Lh hQ;have HR:=Lh hR;have HZS:=Lh hzs;have HIE:=Lh hIe;have HQL:=Lh hQl;have HRL:=Lh hRl;have HIL:=Lh hIl;have HM:=Lh (And.intro hm0 hm1);clear hSe hzS hQ hR hIe hzs hzl hQl hRl hIl hI hpos hS hS0 hm0 hm1 hQn;go_enter Tryz.func242,Tryz.ntmps242;go_wp2_with fail
 with_reducible refine (C0.out).mono ?_
 rintro e w1 ⟨rfl,hb1⟩
 go_upto_region 2 with fail
 go_cut [6,7] from 18 to 23 (fun s6 s7 wx=>∃bp br bx,s6=.slice (some ⟨bp,0,none⟩) n n/\s7=.pointer (some ⟨bx,0,none⟩)/\Zc0 w1 bp br bx n wx)
 case first=>
  clear C0
  go_region
  all_goals (go_wp2_with fail)
  all_goals go_meet
  all_goals first
   | (refine⟨_,w1.heap.size,_,rfl,rfl,⟨by omega,by omega,by omega,by omega,by omega,by omega,?_,?_,⟨50,?_⟩,?_⟩⟩<;>first|exact (al3 _ _ _ _).1|exact (al3 _ _ _ _).2.1|exact (al3 _ _ _ _).2.2.1|exact (al3 _ _ _ _).2.2.2)
   | (refine⟨_,w1.heap.size+1,_,rfl,rfl,⟨by omega,by omega,by omega,by omega,by omega,by omega,?_,?_,⟨50,?_⟩,?_⟩⟩<;>first|exact (al3 _ _ _ _).1|exact (al3 _ _ _ _).2.1|exact (al3 _ _ _ _).2.2.1|exact (al3 _ _ _ _).2.2.2)
   | (refine⟨_,w1.heap.size+1+1,_,rfl,rfl,⟨by omega,by omega,by omega,by omega,by omega,by omega,?_,?_,⟨50,?_⟩,?_⟩⟩<;>first|exact (al3 _ _ _ _).1|exact (al3 _ _ _ _).2.1|exact (al3 _ _ _ _).2.2.1|exact (al3 _ _ _ _).2.2.2)
 case rest=>
  rename World=>wx
  obtain⟨bp,br,bx,rfl,rfl,HNw⟩:=hcut;have hbW:=bto hb1 HNw.below;have hbo:=Zb wx (.cells (izC (List.replicate n 0)) 3);have HPW:Hid (Zbr w wx bp br bx wx.heap.size n Q R I 0 (wx.alloc (.cells (izC (List.replicate n 0)) 3))):=by
   have l1:=(Ag.1 HNw.p).1;have l2:=(Ag.1 HNw.r).1;refine⟨bto hbW hbo,Zl.of_below hbo,?_,?_,?_,HNw.x.below hbo⟩
   ·rw[Se,HQL.out];exact (hbo.block _ l1).trans HNw.p
   ·rw[Se,HRL.out];exact (hbo.block _ l2).trans HNw.r
   ·rw[Se,HIL.out];simp[World.alloc,-World.alloc_eq]
  have hpr:=HNw.pr;have hpx:=HNw.px;have hrx:=HNw.rx;have hpo:bp≠wx.heap.size:=fun e=>by have:=(Ag.1 HNw.p).1;omega
  have hro:br≠wx.heap.size:=fun e=>by have:=(Ag.1 HNw.r).1;omega
  have hxo:bx≠wx.heap.size:=fun e=>by have:=HNw.x.lt;omega
  have hlp:=Nt hb1.size HNw.lp;have hlr:=Nt hb1.size HNw.lr;have hlo:w.heap.size<=wx.heap.size:=hbW.size;have HL:=Lh (And.intro hlp (And.intro hlr hlo));have HNE:=Lh (And.intro hpr (And.intro hpx (And.intro hrx (And.intro hpo (And.intro hro hxo)))));clear hmk1 HNw hbo hbW hb1 hpr hpx hrx hpo hro hxo hlp hlr hlo;go_wp2_with fail;clear hmk2
  go_loopw [9,10,11,30] (fun mv _ _ iv wr=>∃(k:Nat) (m:List UInt8),k<=n/\mv=.string ⟨m.toArray⟩/\iv=.int .i64 (k:Int)/\Hid (m.length<=5100/\val m=val T-(Q.take k).sum/\(1<=k->m=canon (val m)))/\Hid (Zbr w wx bp br bx wx.heap.size n Q R I k wr)) (fun _ _ _ iv _=>n-(intOf iv).toNat)
  case atStart=>exact⟨0,T,Nat.zero_le _,rfl,rfl,⟨by omega,by simp,fun h=>by omega⟩,HPW.out⟩
  case round=>
   clear HPW;obtain⟨k,m,hk,rfl,rfl,HMV,HPW⟩:=hrel;have hbw:=HPW.out.below
   by_cases hlk:k<n
   rotate_left
   ·have e1:decide (k<n)=false:=Df hlk;have e2:decide ((k:Int)<(n:Int))=false:=Df (by omega)
    have hlp:=HL.out.1;have hlo:=HL.out.2.2;obtain⟨hpr,hpx,hrx,hpo,hro,hxo⟩:=HNE.out;have HPn:Hid (wr.heap[bp]?=some (.cells (zsC Q) 32 (0,0))):=by
     have h:=HPW.out.p;rw[Qw Q k (by have:=HQL.out;omega)] at h
     exact h
    have hRn:Blk wr br (LN (R.map canon)):=by
     have h:=HPW.out.r;rw[Qw R k (by have:=HRL.out;omega)] at h
     exact⟨_,h⟩
    have hOn:wr.heap[wx.heap.size]?=some (.cells (TE (List.range n)) 3 (0,0)):=by
     have h:=HPW.out.o;rw[Qw I k (by have:=HIL.out;omega),HIE.out,G9] at h
     exact h
    have hXn:=HPW.out.x;obtain⟨z,hz⟩:∃z:Nat,(z:Int)=val T-Q.sum:=⟨(val T-Q.sum).toNat,by have:=HM.out;omega⟩
    have hzn:z<n:=by have:=HM.out;omega
    obtain rfl:m=canon (z:Int):=by
     rw[HMV.out.2.2 (by omega),HMV.out.2.1,List.take_of_length_le (by have:=HQL.out;omega),hz]
    have HZ:=Lh hz
    have CS:=Lh (Zch (R.map canon) hG.g hbw hlo hXn hRn hOn (by rw[List.length_map];exact HRL.out) (by omega) (by omega) (fun r hr=>by
     obtain⟨x,hx,rfl⟩:=List.mem_map.1 hr;rw[HR.out] at hx;obtain⟨y,hy,rfl⟩:=List.mem_map.1 hx;have h1:=Int.emod_nonneg (val T*y) (Int.ne_of_gt HSS.out);have h2:=Int.emod_lt_of_pos (val T*y) HSS.out
     exact Nt (XH (by omega) hSl) (by decide)) hxo hro)
    have CM:=Lh (Zbq (n:=z) (by omega))
    have hz1:(z:Int)<=(n:Int):=by omega
    clear HMV HPW hz hXn hRn hOn hk hlk;go_wp2_with fail;refine CS.out.mono ?_;rintro e w7 ⟨rfl,⟨js,hj1,hj2,hj3⟩,hb7⟩;clear e1 e2 CS;rw[show (fun i=>val ((R.map canon).getD i []))=fun i=>R.getD i 0 from funext (JK R)] at hj2
    have hb8:=hb7.lower hbw (fun k hk=>by rw[hk];exact hlo)
    have HP7:Hid (w7.heap[bp]?=some (.cells (zsC Q) 32 (0,0))):=(hb7.block _ (Ag.1 HPn.out).1 hpo).trans HPn.out;have HO7:=Lh hj3;have HJ1:=Lh hj1;have HJ2:=Lh hj2;clear hbw hb7 hj1 hj2 hj3 HPn;go_wp2_with fail
    with_reducible refine (CM.out.of hG.g hb8).mono ?_
    rintro e w8 ⟨rfl,hb9⟩;have hb:=bto hb8 hb9;have HP8:Hid (w8.heap[bp]?=some (.cells (zsC Q) 32 (0,0))):=(hb9.block _ (Ag.1 HP7.out).1).trans HP7.out;have HO8:Hid (w8.heap[wx.heap.size]?=some (.cells (TE js) 3 (0,0))):=(hb9.block _ (Ag.1 HO7.out).1).trans HO7.out;have HNE:=Lh hpo;clear hb8 hb9 HP7 HO7 CM hpr hpx hrx hpo hro hxo;go_wp2_with fail
    rename World=>wo
    go_loopw [15,73] (fun _ iv wr=>∃t:Nat,t<=z/\iv=.int .i64 (t:Int)/\Hid (Below w.heap.size w wr)/\Hid (wr.heap[bp]?=some (.cells (zsC (WE Q (js.take t))) 32 (0,0)))/\Hid (wr.heap[wx.heap.size]?=some (.cells (TE js) 3 (0,0)))) (fun _ iv _=>z-(intOf iv).toNat)
    case atStart=>exact⟨0,Nat.zero_le _,rfl,hb,HP8.out,HO8.out⟩
    case round=>
     clear HP8 HO8 hb;obtain⟨t,ht,rfl,HB,HPt,HOt⟩:=hrel;have hb:=HB.out
     by_cases hlt:t<z
     rotate_left
     ·have e1:decide (t<z)=false:=Df hlt;have e2:decide ((t:Int)<(z:Int))=false:=Df (by omega)
      go_wp2;go_ret;refine⟨bp,_,rfl,hlp,HPt.out,?_,HB.out⟩;have h:=HP.out js HJ1.out HJ2.out;have e:(val T-Q.sum).toNat=t:=by have:=HZ.out;omega
      rw[e] at h;exact h
     have e1:decide (t<z)=true:=Dt hlt;have e2:decide ((t:Int)<(z:Int))=true:=Dt (by omega)
     have hjl:js.length=n:=by rw[HJ1.out.length_eq,List.length_range]
     obtain⟨j,hj⟩:∃j,js[t]?=some j:=⟨_,List.getElem?_eq_getElem (by omega)⟩
     have hjn:j<n:=List.mem_range.1 (HJ1.out.subset (Lm hj));obtain⟨y,hy⟩:∃y,Q[j]?=some y:=⟨_,List.getElem?_eq_getElem (by have:=HQL.out;omega)⟩
     have hyb:=HQM.out y (Lm hy);obtain⟨x,hxe⟩:∃x,x=y+((js.take t).count j:Int):=⟨_,rfl⟩
     have hx:(WE Q (js.take t))[j]?=some x:=by rw[SX,hy,hxe];rfl
     have hcnt:(js.take t).count j<=1000:=Nt List.count_le_length (by rw[List.length_take];omega)
     have hxl:(canon x).length<=5100:=Zbs hT (by omega) (by omega)
     have CA:=Lh (UU (l:=canon x) (l':=[49]) (z:=x+1) (by omega) (by decide) (by rw[Zj];rfl))
     have HT:Hid (js.take (t+1)=js.take t++[j]):=by
      show _=_;obtain⟨h1,rfl⟩:=Lg.1 hj;exact List.take_succ_eq_append_getElem h1
     have q0:wr.cell? ⟨wx.heap.size,t,none⟩=some (.int .i64 (j:Int)):=(Zg HOt.out t).trans (IW hj);have q1:wr.cell? ⟨bp,j,none⟩=some (.string ⟨(canon x).toArray⟩):=(Zg HPt.out j).trans (Sf hx);have HX:=Lh hx;clear hjl hj hy hyb hxe hcnt hxl hx;go_wp2_with fail
     with_reducible refine (CA.out.of hG.g hb).mono ?_
     rintro e w9 ⟨rfl,hb9⟩;clear q0 q1 e1 e2 CA;have HB9:=Lh (bto hb hb9);have HP9:Hid (w9.heap[bp]?=some (.cells (zsC (WE Q (js.take t))) 32 (0,0))):=(hb9.block _ (Ag.1 HPt.out).1).trans HPt.out;have HO9:Hid (w9.heap[wx.heap.size]?=some (.cells (TE js) 3 (0,0))):=(hb9.block _ (Ag.1 HOt.out).1).trans HOt.out;have q1:w9.cell? ⟨bp,j,none⟩=some (.string ⟨(canon x).toArray⟩):=(Zg HP9.out j).trans (Sf HX.out);have q2:w9.frozen? ⟨bp,j,none⟩=false:=Zm HP9.out j;have HPN:Hid ((w9.setCell ⟨bp,j,none⟩ (.string ⟨(canon (x+1)).toArray⟩)).heap[bp]?=some (.cells (zsC (WE Q (js.take (t+1)))) 32 (0,0))):=by
      have h:=Yj (o:=j) (Value.string ⟨(canon (x+1)).toArray⟩) HP9.out;rw[PG,Du HX.out,<-JI,<-HT.out] at h;exact h
     have HON:Hid ((w9.setCell ⟨bp,j,none⟩ (.string ⟨(canon (x+1)).toArray⟩)).heap[wx.heap.size]?=some (.cells (TE js) 3 (0,0))):=(Below.heap_setCell w9 ⟨bp,j,none⟩ _ _ (Ne.symm HNE.out)).trans HO9.out;have HBN:Hid (Below w.heap.size w (w9.setCell ⟨bp,j,none⟩ (.string ⟨(canon (x+1)).toArray⟩))):=HB9.out.setCell (p:=⟨bp,j,none⟩) hlp _;clear hb hb9 HB HPt HOt HB9 HP9 HO9 HX HT;go_wp2;go_roundw
     case rel=>exact⟨t+1,by omega,by go_num,HBN.out,HPN.out,HON.out⟩
     case measure=>simp[intOf];omega
   have e1:decide (k<n)=true:=Dt hlk;have e2:decide ((k:Int)<(n:Int))=true:=Dt (by omega)
   obtain⟨u,hu⟩:∃u,ws[k]?=some u:=⟨_,List.getElem?_eq_getElem (by have:=HN.out;omega)⟩
   obtain⟨b,o,rfl,hbs,p0⟩:=(HI.out.below hbw) k u hu;have hz:zs[k]?=some (val u):=by rw[HZS.out,List.getElem?_map,hu];rfl
   obtain⟨q,hq⟩:∃q,q=val T*val u / S:=⟨_,rfl⟩
   obtain⟨r,hr⟩:∃r,r=val T*val u % S:=⟨_,rfl⟩
   have hqk:Q[k]?=some q:=by rw[HQ.out,(JJ hz).1,hq]
   have hrk:R[k]?=some r:=by rw[HR.out,(JJ hz).2,hr]
   have hul:=HSM.out u (Lm hu);have hd:=DC (a:=val T*val u) HSS.out;have hml:=Z2 T u;have HC1:=Lh (ZaL (l:=T) (l':=u) (by omega) (by omega) rfl)
   have HC2:=Lh (ID (l:=canon (val T*val u)) (l':=canon S) (q:=q) (r:=r) (by omega) (by omega) (by rw[Zj];exact Int.ne_of_gt HSS.out) (by rw[Zj,Zj,hd.1,hq]) (by rw[Zj,Zj,hd.2,hr]))
   have hqm:=HQM.out q (Lm hqk);have hql:(canon q).length<=5100:=Zbs hT hqm.1 (by omega)
   have hmlen:=HMV.out.1;obtain⟨mm,hmm⟩:∃mm,mm=val m-q:=⟨_,rfl⟩
   have HC3:=Lh (Um (l:=m) (l':=canon q) (z:=mm) (by omega) (by omega) (by rw[Zj,hmm]))
   have HMV2:Hid ((canon mm).length<=5100/\val (canon mm)=val T-(Q.take (k+1)).sum/\(1<=k+1->canon mm=canon (val (canon mm)))):=by
    have h1:=HMV.out.2.1;have h2:=TU hqk;have h3:=HQN.out (k+1);refine⟨Zbs hT (by omega) (by omega),by rw[Zj];omega,fun _=>by rw[Zj]⟩
   have HQK:=Lh hqk;have HRK:=Lh hrk;obtain⟨tu,htu⟩:∃tu,tu=canon (val T*val u):=⟨_,rfl⟩
   rw[<-htu] at HC1 HC2;obtain⟨ss,hss⟩:∃ss,ss=canon S:=⟨_,rfl⟩
   rw[<-hss] at HC2 ⊢;clear hu hz hq hr hqk hrk hul hd hml hqm hql hmlen hmm htu hss;go_wp2_with fail;clear p0 e1 e2;obtain⟨-,-,hlo⟩:=HL.out;have hlp:=HL.out.1;have hlr:=HL.out.2.1;obtain⟨hpr,hpx,hrx,hpo,hro,hxo⟩:=HNE.out;obtain⟨F,hF⟩:∃F:Fx,F=fun b=>if b=bp then some (.cells (zsC (Ys Q k)) 32 (0,0)) else if b=br then some (.cells (zsC (Ys R k)) 32 (0,0)) else none:=⟨_,rfl⟩
   have f1:F bp=some (.cells (zsC (Ys Q k)) 32 (0,0)):=by rw[hF];exact if_pos rfl
   have f2:F br=some (.cells (zsC (Ys R k)) 32 (0,0)):=by rw[hF];exact (if_neg (Ne.symm hpr)).trans (if_pos rfl)
   have hX:∀b,F b≠none->b=bp∨b=br:=fun b hb=>by
    rw[hF] at hb;dsimp only at hb
    by_cases h1:b=bp
    ·exact .inl h1
    ·by_cases h2:b=br
     ·exact .inr h2
     ·rw[if_neg h1,if_neg h2] at hb;exact absurd rfl hb
   have HFF:Hid (∀b ob,F b=some ob->wr.heap[b]?=some ob):=fun b ob h=>by
    rw[hF] at h;dsimp only at h
    by_cases h1:b=bp
    ·rw[if_pos h1] at h;rw[h1,<-h];exact HPW.out.p
    ·rw[if_neg h1] at h
     by_cases h2:b=br
     ·rw[if_pos h2] at h;rw[h2,<-h];exact HPW.out.r
     ·rw[if_neg h2] at h;cases h
   have hnx:¬(F bx≠none):=fun h=>by
    rcases hX bx h with e|e
    ·exact hpx e.symm
    ·exact hrx e.symm
   have hno:¬(F wx.heap.size≠none):=fun h=>by
    rcases hX _ h with e|e
    ·exact hpo e.symm
    ·exact hro e.symm
   have hlow:∀k,F k≠none->w.heap.size<=k:=fun k hk=>by
    rcases hX k hk with e|e
    ·rw[e];exact hlp
    ·rw[e];exact hlr
   have HX:=Lh HPW.out.x;have f2b:(fun k'=>if k'=bp then some (Obj.cells ((zsC (Ys Q k)).setIfInBounds k (.string ⟨(canon q).toArray⟩)) 32 (0,0)) else F k') br=some (.cells (zsC (Ys R k)) 32 (0,0)):=(if_neg (Ne.symm hpr)).trans f2
   have hql:=HQL.out;have hrl:=HRL.out;obtain⟨tch,htch⟩:∃tch:Nat->List Nat,tch=fun b=>if b=bp then [14] else if b=br then [16] else []:=⟨_,rfl⟩
   clear hF;refine Zw tch F (by kernel_rfl) (by kernel_rfl) (by kernel_rfl) HFF.out ?_
   refine Zi _ rfl (fun wz hw=>by go_simp;try with_reducible rfl) ?_
   simp only[Act.put,StT,StZ,StS,Nat.reduceAdd];refine Zi _ rfl (fun wz hw=>by go_simp;try with_reducible rfl) ?_
   simp only[Act.put,StT,StZ,StS,Nat.reduceAdd];refine Zi _ rfl (fun wz hw=>by have q0:=(HX.out.keepX hw hnx).c 0;go_simp;try with_reducible rfl) ?_
   simp only[Act.put,StT,StZ,StS,Nat.reduceAdd];refine Zi _ rfl (fun wz hw=>by go_simp;try with_reducible rfl) ?_
   simp only[Act.put,StT,StZ,StS,Nat.reduceAdd];refine Zi _ rfl (fun wz hw=>by go_simp;try with_reducible rfl) ?_
   simp only[Act.put,StT,StZ,StS,Nat.reduceAdd];refine Zi _ rfl (fun wz hw=>by go_simp;try with_reducible rfl) ?_
   simp only[Act.put,StT,StZ,StS,Nat.reduceAdd];refine Zu _ _ _ rfl (fun wz hw=>by go_simp;try with_reducible rfl) (fun wz hw=>HC1.out.of hG.g (hw.lower hbw hlow)) ?_
   simp only[Act.put,StT,StZ,StS,Nat.reduceAdd];refine Zi _ rfl (fun wz hw=>by go_simp;try with_reducible rfl) ?_
   simp only[Act.put,StT,StZ,StS,Nat.reduceAdd];refine Zu _ _ _ rfl (fun wz hw=>by go_simp;try with_reducible rfl) (fun wz hw=>HC2.out.of hG.g (hw.lower hbw hlow)) ?_
   simp only[Act.put,StT,StZ,StS,Nat.reduceAdd];refine Zi _ rfl (fun wz hw=>by go_simp;try with_reducible rfl) ?_
   simp only[Act.put,StT,StZ,StS,Nat.reduceAdd];refine Zi _ rfl (fun wz hw=>by go_simp;try with_reducible rfl) ?_
   simp only[Act.put,StT,StZ,StS,Nat.reduceAdd];refine Zi _ rfl (fun wz hw=>by go_simp;try with_reducible rfl) ?_
   simp only[Act.put,StT,StZ,StS,Nat.reduceAdd];refine Zi _ rfl (fun wz hw=>by go_simp;try with_reducible rfl) ?_
   simp only[Act.put,StT,StZ,StS,Nat.reduceAdd];refine Zi (.pointer (some ⟨bp,k,none⟩)) rfl (fun wz hw=>by go_simp;try with_reducible rfl) ?_
   simp only[Act.put,StT,StZ,StS,Nat.reduceAdd];refine Xv bp k (zsC (Ys Q k)) (.string ⟨(canon q).toArray⟩) 32 f1 (by simp[htch]) (fun j oj hj=>Zq (l:=[14]) (by kernel_rfl) j oj (by simpa [htch] using hj)) rfl (fun wz hw hc hf=>by have q0:=(hc k).trans (Sf (V0 (Nl k) (by omega)));have q1:=hf k;clear hc hf;go_simp;try with_reducible rfl) ?_
   simp only[Act.put,Nat.reduceAdd];refine Zi (.pointer (some ⟨br,k,none⟩)) rfl (fun wz hw=>by go_simp;try with_reducible rfl) ?_
   simp only[Act.put,StT,StZ,StS,Nat.reduceAdd];refine Xv br k (zsC (Ys R k)) (.string ⟨(canon r).toArray⟩) 32 f2b (by simp[htch,Ne.symm hpr]) (fun j oj hj=>Zq (l:=[16]) (by kernel_rfl) j oj (by simpa [htch,Ne.symm hpr] using hj)) rfl (fun wz hw hc hf=>by have q0:=(hc k).trans (Sf (V0 (Nl k) (by omega)));have q1:=hf k;clear hc hf;go_simp;try with_reducible rfl) ?_
   simp only[Act.put,Nat.reduceAdd];refine ZY (fun w4 hF4=>?_)
   have hb4:=hF4.below.lower hbw hlow;have HP4:Hid (w4.heap[bp]?=some (.cells (zsC (Ys Q (k+1))) 32 (0,0))):=by
    have h:=hF4.box bp _ ((if_neg hpr).trans (if_pos rfl));rw[PG,Qx HQK.out] at h;exact h
   have HR4:Hid (w4.heap[br]?=some (.cells (zsC (Ys R (k+1))) 32 (0,0))):=by
    have h:=hF4.box br _ (if_pos rfl);rw[PG,Qx HRK.out] at h;exact h
   have HO4:Hid (w4.heap[wx.heap.size]?=some (.cells (izC (Ys I k)) 3 (0,0))):=(hF4.below.block _ (Ag.1 HPW.out.o).1 hno).trans HPW.out.o;have HX4:Hid (Blk w4 bx #[.slice (some ⟨br,0,none⟩) n n]):=HPW.out.x.keepX hF4.below hnx
   have HB4:Hid (Zl (fun b=>b=bp∨b=br∨b=wx.heap.size) wx w4):=HPW.out.bw.trans ⟨hF4.below.os,hF4.below.tape,hF4.below.output,hF4.below.size,fun j hj hn=>hF4.below.block j hj (fun h=>hn (by
    rcases hX j h with e|e
    ·exact .inl e
    ·exact .inr (.inl e)))⟩
   have HNE:=Lh (And.intro hpr (And.intro hpx (And.intro hrx (And.intro hpo (And.intro hro hxo)))));have q0:w4.cell? ⟨bp,k,none⟩=some (.string ⟨(canon q).toArray⟩):=(Zg HP4.out k).trans (Sf ((SU (Nat.lt_succ_self k) (by omega)).trans HQK.out))
   clear hF4 HX HPW HFF f1 f2 f2b hX hnx hno hlow htch HC1 HC2 hbw hpr hpx hrx hpo hro hxo hlp hlr;go_wp2_with fail
   with_reducible refine (HC3.out.of hG.g hb4).mono ?_
   rintro e w5 ⟨rfl,hb5⟩;clear q0 HC3;have hb6:=bto hb4 hb5;have HP5:Hid (w5.heap[bp]?=some (.cells (zsC (Ys Q (k+1))) 32 (0,0))):=(hb5.block _ (Ag.1 HP4.out).1).trans HP4.out;have HR5:Hid (w5.heap[br]?=some (.cells (zsC (Ys R (k+1))) 32 (0,0))):=(hb5.block _ (Ag.1 HR4.out).1).trans HR4.out;have HO5:Hid (w5.heap[wx.heap.size]?=some (.cells (izC (Ys I k)) 3 (0,0))):=(hb5.block _ (Ag.1 HO4.out).1).trans HO4.out;have HX5:=Lh (HX4.out.below hb5);have HB5:=Lh (HB4.out.trans (Zl.of_below hb5));clear hb4 hb5 HP4 HR4 HO4 HX4 HB4 hql hrl;have HIK:Hid (I[k]?=some (k:Int)):=by
    show _=_;rw[HIE.out,List.getElem?_map,List.getElem?_range hlk];rfl
   have hil:=HIL.out
   have q0:w5.cell? ⟨wx.heap.size,k,none⟩=some (.int .i64 0):=(Zg HO5.out k).trans (by
    have h:=V0 (f:=I) (i:=k) (Nl k) (by omega)
    simp[izC,h])
   have q1:w5.frozen? ⟨wx.heap.size,k,none⟩=false:=Zm HO5.out k;clear hil;have HPW:Hid (Zbr w wx bp br bx wx.heap.size n Q R I (k+1) (w5.setCell ⟨wx.heap.size,k,none⟩ (.int .i64 (k:Int)))):=by
    obtain⟨hpr,hpx,hrx,hpo,hro,hxo⟩:=HNE.out;refine⟨hb6.setCell (p:=⟨wx.heap.size,k,none⟩) hlo _,HB5.out.trans (ZW (g:=wx.heap.size) (.inr (.inr rfl)) [.int .i64 (k:Int)] k w5),?_,?_,?_,HX5.out.setO hxo⟩
    ·exact (Below.heap_setCell w5 ⟨wx.heap.size,k,none⟩ _ bp hpo).trans HP5.out
    ·exact (Below.heap_setCell w5 ⟨wx.heap.size,k,none⟩ _ br hro).trans HR5.out
    ·have h:=Yj (o:=k) (Value.int .i64 (k:Int)) HO5.out;rw[AR,Qx HIK.out] at h;exact h
   clear HP5 HR5 HO5 HX5 HB5 HIK hb6 HQK HRK;obtain⟨W6,hW6⟩:∃W6,W6=w5.setCell ⟨wx.heap.size,k,none⟩ (.int .i64 (k:Int)):=⟨_,rfl⟩
   go_wp2;go_roundw
   case rel=>exact⟨k+1,canon mm,by omega,rfl,by go_num,HMV2.out,HPW.out⟩
   case measure=>simp[intOf];omega
def MI (T p a:Int):Int:=rnd (Rat.divInt (T*p) a) 1
def WY (x:Lot) (q:List UInt8):Lot:={ x with q:=q,cost:=canon (MI (val x.cost) (val q) (val x.q)),used:=if x.used=[] then [] else q }
def WI (x:Lot) (q:List UInt8):Lot:={ x with q:=canon (val x.q-val q),cost:=canon (val x.cost-MI (val x.cost) (val q) (val x.q)),used:=if x.used=[] then [] else canon (val x.q-val q) }
def stepT (s:List Lot×List Lot) (p:Pk):List Lot×List Lot:=
 if (s.1.getD (ZG (isLt p.lot) s.1 0).toNat ⟨[],[],0,0,[],[],[]⟩).q=p.q then
  (s.1.eraseIdx (ZG (isLt p.lot) s.1 0).toNat,s.2++[s.1.getD (ZG (isLt p.lot) s.1 0).toNat ⟨[],[],0,0,[],[],[]⟩])
 else (s.1.set (ZG (isLt p.lot) s.1 0).toNat (WI (s.1.getD (ZG (isLt p.lot) s.1 0).toNat ⟨[],[],0,0,[],[],[]⟩) p.q),s.2++[WY (s.1.getD (ZG (isLt p.lot) s.1 0).toNat ⟨[],[],0,0,[],[],[]⟩) p.q])
def Yw (s:List Lot×List Lot) (ps:List Pk):List Lot×List Lot:=ps.foldl stepT s
def VB (xs:List Lot) (done:List Pk):List Pk->Int
 | []=>0
 | p::t=>if ZG (isLt p.lot) xs 0<0 then 6 else if done.any (Yb p.lot)=true then 5 else if ¬p.q=canon (val p.q) then 1 else if val p.q<=0 then 2 else
   if val (xs.getD (ZG (isLt p.lot) xs 0).toNat ⟨[],[],0,0,[],[],[]⟩).q<val p.q then 15 else VB xs (done++[p]) t
structure AT (xs:List Lot) (p:Pk):Prop where
 lot:∃x∈xs,x.id=p.lot/\x.q=canon (val x.q)/\val p.q<=val x.q
 can:p.q=canon (val p.q)
 pos:0<val p.q
structure OS (xs:List Lot) (ps:List Pk):Prop where
 nd:(xs.map (·.id)).Nodup
 all:∀p∈ps,AT xs p
 pnd:(ps.map (·.lot)).Nodup
theorem OT {xs:List Lot} (hc:∀x∈xs,x.q=canon (val x.q)):∀(ps done:List Pk),VB xs done ps=0->(∀p∈ps,AT xs p)/\(ps.map (·.lot)).Nodup/\∀p∈ps,∀d∈done,d.lot≠p.lot
 | [],_,_=>⟨fun _ h=>by (cases h),by simp,fun _ h=>by (cases h)⟩
 | p::t,done,h=>by
  unfold VB at h
  by_cases h1:ZG (isLt p.lot) xs 0<0
  ·rw[if_pos h1] at h;exact absurd h (by decide)
  rw[if_neg h1] at h
  by_cases h2:done.any (Yb p.lot)=true
  ·rw[if_pos h2] at h;exact absurd h (by decide)
  rw[if_neg h2] at h
  by_cases h3:¬p.q=canon (val p.q)
  ·rw[if_pos h3] at h;exact absurd h (by decide)
  rw[if_neg h3] at h
  by_cases h4:val p.q<=0
  ·rw[if_pos h4] at h;exact absurd h (by decide)
  rw[if_neg h4] at h;obtain⟨i,x,e,hx,hp,-⟩:=VA _ _ _ (Int.not_lt.1 h1);rw[e,Nat.zero_add,Int.toNat_natCast,List.getD_eq_getElem?_getD,hx,Option.getD_some] at h
  by_cases h5:val x.q<val p.q
  ·rw[if_pos h5] at h;exact absurd h (by decide)
  rw[if_neg h5] at h;obtain⟨a1,a2,a3⟩:=OT hc t (done++[p]) h;have hm:=Lm hx;have hid:x.id=p.lot:=by simpa [isLt] using hp
  refine⟨fun r hr=>?_,?_,fun r hr d hd=>?_⟩
  ·rcases List.mem_cons.1 hr with rfl|hr
   ·exact⟨⟨x,hm,hid,hc x hm,by omega⟩,Decidable.not_not.1 h3,by omega⟩
   ·exact a1 r hr
  ·rw[List.map_cons,List.nodup_cons];refine⟨fun hc=>?_,a2⟩
   obtain⟨r,hr,er⟩:=List.mem_map.1 hc;exact a3 r hr p (by simp) er.symm
  ·rcases List.mem_cons.1 hr with rfl|hr
   ·intro he;apply h2;rw[List.any_eq_true];exact⟨d,hd,by simp[Yb,he]⟩
   ·exact a3 r hr d (by simp[hd])
theorem IY {g:Lot->Int} {x:Lot} (y:Lot):∀{xs:List Lot} {k:Nat},xs[k]?=some x->((xs.set k y).map g).sum=(xs.map g).sum-g x+g y
 | [],k,h=>by simp at h
 | a::t,0,h=>by simp at h;subst h;simp;omega
 | a::t,k+1,h=>by
  have ih:=IY (g:=g) (x:=x) y (xs:=t) (k:=k) (by simpa using h)
  simp only[List.set_cons_succ,List.map_cons,List.sum_cons,ih];omega
theorem NU {g:Lot->Int} {x:Lot}:∀{xs:List Lot} {k:Nat},xs[k]?=some x->((xs.eraseIdx k).map g).sum=(xs.map g).sum-g x
 | [],k,h=>by simp at h
 | a::t,0,h=>by simp at h;subst h;simp;omega
 | a::t,k+1,h=>by
  have ih:=NU (g:=g) (x:=x) (xs:=t) (k:=k) (by simpa using h)
  simp only[List.eraseIdx_cons_succ,List.map_cons,List.sum_cons,ih];omega
theorem Uu {α:Type} {x y:α}:∀{xs:List α} {k:Nat},xs[k]?=some x->y∈xs->y≠x->y∈xs.eraseIdx k
 | [],k,h,_,_=>by simp at h
 | a::t,0,h,hy,hne=>by
  simp at h;subst h;rcases List.mem_cons.1 hy with rfl|hy
  ·exact absurd rfl hne
  ·simpa using hy
 | a::t,k+1,h,hy,hne=>by
  rw[List.eraseIdx_cons_succ];rcases List.mem_cons.1 hy with rfl|hy
  ·simp
  ·exact List.mem_cons_of_mem _ (Uu (by simpa using h) hy hne)
theorem Sg {α:Type} {x y:α} (z:α):∀{xs:List α} {k:Nat},xs[k]?=some x->y∈xs->y≠x->y∈xs.set k z
 | [],k,h,_,_=>by simp at h
 | a::t,0,h,hy,hne=>by
  simp at h;subst h;rcases List.mem_cons.1 hy with rfl|hy
  ·exact absurd rfl hne
  ·simp[hy]
 | a::t,k+1,h,hy,hne=>by
  rw[List.set_cons_succ];rcases List.mem_cons.1 hy with rfl|hy
  ·simp
  ·exact List.mem_cons_of_mem _ (Sg z (by simpa using h) hy hne)
theorem AU {xs:List Lot} {k:Nat} {x y:Lot} (h:xs[k]?=some x) (e:y.id=x.id):(xs.set k y).map (·.id)=xs.map (·.id):=by
 rw[List.map_set,e];apply List.ext_getElem?;intro j;rw[List.getElem?_set]
 split
 ·rename_i hj;subst hj
  split
  ·simp[h]
  ·rename_i hlt;simp at hlt;simp[List.getElem?_eq_none hlt]
 ·rfl
theorem LR {xs t:List Lot} {p:Pk} (h:AT xs p) (hn:(xs.map (·.id)).Nodup) :
  ∃(k:Nat) (x:Lot),ZG (isLt p.lot) xs 0=(k:Int)/\xs[k]?=some x/\x.id=p.lot/\x.q=canon (val x.q)/\val p.q<=val x.q/\
   stepT (xs,t) p=if x.q=p.q then (xs.eraseIdx k,t++[x]) else (xs.set k (WI x p.q),t++[WY x p.q]):=by
 obtain⟨x,hx,hid,hq,hle⟩:=h.lot;have hany:xs.any (isLt p.lot)=true:=List.any_eq_true.2 ⟨x,hx,by simp[isLt,hid]⟩
 obtain⟨i,y,e,hy,hp,-⟩:=VA _ _ _ ((U7 (isLt p.lot) xs 0).2 hany);rw[Nat.zero_add] at e;have hyid:y.id=p.lot:=by simpa [isLt] using hp
 have hxy:y=x:=by
  obtain⟨j,hj⟩:=List.getElem?_of_mem hx;obtain⟨hi,-⟩:=Lg.1 hy;obtain⟨hj',-⟩:=Lg.1 hj;have h1:(xs.map (·.id))[i]?=some p.lot:=by simp[hy,hyid]
  have h2:(xs.map (·.id))[j]?=some p.lot:=by simp[hj,hid]
  have:i=j:=(List.getElem?_inj (by simpa using hi) hn).1 (h1.trans h2.symm)
  subst this;rw[hy] at hj;cases hj;rfl
 subst hxy;refine⟨i,y,e,hy,hid,hq,hle,?_⟩;unfold stepT;simp only[e,Int.toNat_natCast,List.getD_eq_getElem?_getD,hy,Option.getD_some]
def Zci (g:Lot->Int):Prop:=∀x q,g (WY x q)+g (WI x q)=g x
theorem IZ (f:Lot->Int) (h:∀x q,f (WY x q)+f (WI x q)=f x) (I:List UInt8):Zci (fun x=>if x.ins==I then f x else 0):=fun x q=>by
 show (if x.ins==I then f (WY x q) else 0)+(if x.ins==I then f (WI x q) else 0)=if x.ins==I then f x else 0
 split
 ·exact h x q
 ·rfl
theorem Zcj (x:Lot) (q:List UInt8):val (WY x q).q+val (WI x q).q=val x.q:=by
 show val q+val (canon (val x.q-val q))=_;rw[Zj];omega
theorem Zck (x:Lot) (q:List UInt8):val (WY x q).cost+val (WI x q).cost=val x.cost:=by
 show val (canon (MI (val x.cost) (val q) (val x.q)))+val (canon (val x.cost-MI (val x.cost) (val q) (val x.q)))=_;rw[Zj,Zj];omega
theorem Si (f:Lot->Int) (I:List UInt8):∀xs:List Lot,((xs.filter (fun x=>x.ins==I)).map f).sum=(xs.map (fun x=>if x.ins==I then f x else 0)).sum
 | []=>rfl
 | a::t=>by
  have ih:=Si f I t
  by_cases h:(a.ins==I)=true
  ·rw[List.filter_cons_of_pos (p:=fun x:Lot=>x.ins==I) h,List.map_cons,List.map_cons,List.sum_cons,List.sum_cons,ih,if_pos h]
  ·rw[List.filter_cons_of_neg (p:=fun x:Lot=>x.ins==I) h,List.map_cons,List.sum_cons,ih,if_neg h];omega
structure Zcl (xs t:List Lot) (ps:List Pk) (s:List Lot×List Lot):Prop where
 sum:∀g,Zci g->(s.1.map g).sum+(s.2.map g).sum=(xs.map g).sum+(t.map g).sum
 qs:s.2.map (·.q)=t.map (·.q)++ps.map (·.q)
 ids:s.2.map (·.id)=t.map (·.id)++ps.map (·.lot)
 len:s.1.length<=xs.length
theorem LS {xs t:List Lot} {p:Pk} {ps:List Pk} (h:OS xs (p::ps)):OS (stepT (xs,t) p).1 ps/\Zcl xs t [p] (stepT (xs,t) p)/\
  (∀y∈(stepT (xs,t) p).1,y∈xs∨∃x∈xs,x.id=p.lot/\y=WI x p.q)/\(∀y∈(stepT (xs,t) p).2,y∈t∨∃x∈xs,x.id=p.lot/\(y=x∨(0<val p.q/\val p.q<val x.q/\y=WY x p.q)))/\
  (∀x∈xs,x.id≠p.lot->x∈(stepT (xs,t) p).1)/\(∀y∈(stepT (xs,t) p).1,y.id≠p.lot->y∈xs):=by
 have hp:=h.all p List.mem_cons_self;obtain⟨k,x,ek,hx,hid,hcq,hle,es⟩:=LR (t:=t) hp h.nd;have hnd:=h.pnd;rw[List.map_cons,List.nodup_cons] at hnd;have hother:∀r∈ps,r.lot≠p.lot:=fun r hr e=>hnd.1 (List.mem_map.2 ⟨r,hr,e⟩)
 have hxm:=Lm hx;have hkeep:∀(W:List Lot),(∀y∈xs,y≠x->y∈W)->∀r∈ps,AT W r:=fun W hW r hr=>by
  obtain⟨⟨y,hy,h1,h2,h3⟩,h4,h5⟩:=h.all r (List.mem_cons_of_mem _ hr);refine⟨⟨y,hW y hy (fun e=>?_),h1,h2,h3⟩,h4,h5⟩
  subst e;exact hother r hr (h1.symm.trans hid)
 rw[es]
 by_cases hq:x.q=p.q
 ·rw[if_pos hq];refine⟨⟨?_,hkeep _ (fun y hy hne=>Uu hx hy hne),hnd.2⟩,⟨fun g _=>?_,?_,?_,?_⟩,fun y hy=>.inl (List.mem_of_mem_eraseIdx hy),fun y hy=>?_,fun y hy hne=>Uu hx hy (fun e=>hne (e ▸ hid)),fun y hy _=>List.mem_of_mem_eraseIdx hy⟩
  ·exact List.Nodup.sublist ((List.eraseIdx_sublist _ _).map _) h.nd
  ·simp only[NU hx,List.map_append,List.sum_append,List.map_cons,List.map_nil,List.sum_cons,List.sum_nil];omega
  ·simp[hq]
  ·simp[hid]
  ·exact (List.eraseIdx_sublist _ _).length_le
  ·rcases List.mem_append.1 hy with hy|hy
   ·exact .inl hy
   ·simp at hy;subst hy;exact .inr ⟨y,hxm,hid,.inl rfl⟩
 ·rw[if_neg hq];have hlt:val p.q<val x.q:=by
   rcases Int.lt_or_le (val p.q) (val x.q) with h1|h1
   ·exact h1
   ·exfalso;apply hq;rw[hcq,hp.can];congr 1;omega
  refine⟨⟨?_,hkeep _ (fun y hy hne=>Sg _ hx hy hne),hnd.2⟩,⟨fun g hg=>?_,?_,?_,?_⟩,fun y hy=>?_,fun y hy=>?_,fun y hy hne=>Sg _ hx hy (fun e=>hne (e ▸ hid)),fun y hy hne=>?_⟩
  ·show ((xs.set k (WI x p.q)).map (·.id)).Nodup
   rw[AU (x:=x) (y:=WI x p.q) hx rfl];exact h.nd
  ·have:=hg x p.q
   simp only[IY (WI x p.q) hx,List.map_append,List.sum_append,List.map_cons,List.map_nil,List.sum_cons,List.sum_nil];omega
  ·simp[WY]
  ·simp[WY,hid]
  ·simp
  ·rcases List.mem_or_eq_of_mem_set hy with hy|hy
   ·exact .inl hy
   ·exact .inr ⟨x,hxm,hid,hy⟩
  ·rcases List.mem_append.1 hy with hy|hy
   ·exact .inl hy
   ·simp at hy;exact .inr ⟨x,hxm,hid,.inr ⟨hp.pos,hlt,hy⟩⟩
  ·rcases List.mem_or_eq_of_mem_set hy with hy|hy
   ·exact hy
   ·subst hy;exact absurd hid hne
theorem LU:∀(ps:List Pk) (xs t:List Lot),OS xs ps->Zcl xs t ps (Yw (xs,t) ps)/\
  (∀y∈(Yw (xs,t) ps).2,y∈t∨∃p∈ps,∃x∈xs,x.id=p.lot/\(y=x∨(0<val p.q/\val p.q<val x.q/\y=WY x p.q)))/\
  (∀y∈(Yw (xs,t) ps).1,y∈xs∨∃p∈ps,∃x∈xs,x.id=p.lot/\y=WI x p.q)
 | [],xs,t,h=>⟨⟨fun _ _=>rfl,by simp[Yw],by simp[Yw],Nl _⟩,fun y hy=>.inl hy,fun y hy=>.inl hy⟩
 | p::ps,xs,t,h=>by
  obtain⟨h1,h2,h3,h4,h5,h6⟩:=LS (t:=t) h;obtain⟨s1,s2⟩:∃s1,s1=(stepT (xs,t) p).1:=⟨_,rfl⟩
  obtain⟨t1,t2⟩:∃t1,t1=(stepT (xs,t) p).2:=⟨_,rfl⟩
  obtain⟨r1,r2,r3⟩:=LU ps s1 t1 (s2 ▸ h1);have es:Yw (xs,t) (p::ps)=Yw (s1,t1) ps:=by
   rw[s2,t2];rfl
  have hnd:=h.pnd;rw[List.map_cons,List.nodup_cons] at hnd;have hother:∀r∈ps,r.lot≠p.lot:=fun r hr e=>hnd.1 (List.mem_map.2 ⟨r,hr,e⟩)
  rw[es];rw[<-s2] at h3 h5 h6;rw[<-t2] at h4;refine⟨⟨fun g hg=>?_,?_,?_,?_⟩,fun y hy=>?_,fun y hy=>?_⟩
  ·have a1:=r1.sum g hg;have a2:=h2.sum g hg;rw[<-s2,<-t2] at a2;omega
  ·have a2:=h2.qs;rw[<-t2] at a2;rw[r1.qs,a2];simp
  ·have a2:=h2.ids;rw[<-t2] at a2;rw[r1.ids,a2];simp
  ·have a2:=h2.len;rw[<-s2] at a2;exact Nt r1.len a2
  ·rcases r2 y hy with hy|⟨r,hr,x,hx,hxid,hyx⟩
   ·rcases h4 y hy with hy|⟨x,hx,hxid,hyx⟩
    ·exact .inl hy
    ·exact .inr ⟨p,List.mem_cons_self,x,hx,hxid,hyx⟩
   ·exact .inr ⟨r,List.mem_cons_of_mem _ hr,x,h6 x hx (fun e=>hother r hr (hxid.symm.trans e)),hxid,hyx⟩
  ·rcases r3 y hy with hy|⟨r,hr,x,hx,hxid,hyx⟩
   ·rcases h3 y hy with hy|⟨x,hx,hxid,hyx⟩
    ·exact .inl hy
    ·exact .inr ⟨p,List.mem_cons_self,x,hx,hxid,hyx⟩
   ·exact .inr ⟨r,List.mem_cons_of_mem _ hr,x,h6 x hx (fun e=>hother r hr (hxid.symm.trans e)),hxid,hyx⟩
def Qy (T:Int) (zs qs:List Int):Prop:=(0<=T/\OQ T zs qs)∨(T<0/\∃ps,OQ (-T) zs ps/\qs=ps.map (fun z=>-z))
theorem I0:∀ps:List Int,(ps.map (fun z=>-z)).sum = -ps.sum
 | []=>rfl
 | p::t=>by simp only[List.map_cons,List.sum_cons,I0 t];omega
theorem Qy.sum {T:Int} {zs qs:List Int} (h:Qy T zs qs):qs.sum=T/\qs.length=zs.length:=by
 rcases h with ⟨-,h⟩|⟨-,ps,h,rfl⟩
 ·exact⟨h.sum,h.len⟩
 ·rw[I0,h.sum,List.length_map];exact⟨by omega,h.len⟩
theorem Qy.bd {T:Int} {zs qs:List Int} {N:Nat} (hz:∀z∈zs,0<=z/\z.natAbs<10 ^ N) (hT:T.natAbs<10 ^ N) (h:Qy T zs qs):∀q∈qs,(canon q).length<=N+N+2:=by
 have key:∀(T:Int) (ps:List Int),T.natAbs<10 ^ N->OQ T zs ps->∀q∈ps,q.natAbs<10 ^ (N+N+1):=fun T ps hT h q hq=>by
  obtain⟨k,hk⟩:=List.getElem?_of_mem hq;have h1:=h.at' k;have hk2:k<zs.length:=by
   have:=(Lg.1 hk).1
   rw[h.len] at this;exact this
  obtain⟨z,hzk⟩:∃z,zs[k]?=some z:=⟨_,List.getElem?_eq_getElem hk2⟩
  rw[(JJ hzk).1,hk] at h1;have hzz:=(hz z (Lm hzk)).2;have h2:(T*z / zs.sum).natAbs<=(T*z).natAbs:=Int.natAbs_ediv_le_natAbs _ _;have h3:(T*z).natAbs<10 ^ N*10 ^ N:=by
   rw[Int.natAbs_mul];exact Nat.mul_lt_mul'' hT hzz
  have e:(10:Nat) ^ (N+N+1)=10 ^ N*10 ^ N*10:=by rw[Nat.pow_succ,Nat.pow_add]
  rw[e];generalize (10:Nat) ^ N*10 ^ N=P at *;simp only[Option.map_some,Option.some.injEq] at h1;omega
 intro q hq;rcases h with ⟨-,h⟩|⟨-,ps,h,rfl⟩
 ·exact Zo q (N+N+1) (key T qs hT h q hq)
 ·obtain⟨p,hp,rfl⟩:=List.mem_map.1 hq;refine Zo _ (N+N+1) ?_;rw[Int.natAbs_neg];exact key (-T) ps (by rw[Int.natAbs_neg];exact hT) h p hp
def Zcm (w:World) (T:Int) (zs:List Int) (n:Nat) (e:Ending) (w':World):Prop:=
 ∃bp ps,e=.returned (.slice (some ⟨bp,0,none⟩) n n)/\w.heap.size<=bp/\w'.heap[bp]?=some (.cells (zsC ps) 32 (0,0))/\Qy T zs ps/\Below w.heap.size w w'
def Ns (ps:List Int) (k:Nat):List Int:=(ps.take k).map (fun z=>-z)++ps.drop k
theorem I3 {ps:List Int} {k:Nat} {x:Int} (h:ps[k]?=some x):(Ns ps k)[k]?=some x:=by
 have hk:=(Lg.1 h).1;unfold Ns;rw[List.getElem?_append_right (by rw[List.length_map,List.length_take];omega),List.length_map,List.length_take,Nat.min_eq_left (Nat.le_of_lt hk),Nat.sub_self,List.getElem?_drop]
 exact h
theorem DD {ps:List Int} {k:Nat} {x:Int} (h:ps[k]?=some x):(Ns ps k).set k (-x)=Ns ps (k+1):=by
 obtain⟨hk,rfl⟩:=Lg.1 h;unfold Ns;rw[List.set_append_right _ _ (by rw[List.length_map,List.length_take];omega),List.length_map,List.length_take,Nat.min_eq_left (Nat.le_of_lt hk),Nat.sub_self,List.drop_eq_getElem_cons hk,List.set_cons_zero,List.take_succ_eq_append_getElem hk,List.map_append,List.append_assoc]
 rfl
theorem DF (ps:List Int):Ns ps ps.length=ps.map (fun z=>-z):=by simp[Ns]
theorem AV {w:World} {A:Option Addr} {ws:List (List UInt8)} {n:Nat} (c:Nat) {T:List UInt8} (hG:GE w) (hI:Uo w A ws n) (hT:T.length<=4900) (h0:1<=n) (hn1:n<=1000) (hpos:∀r∈ws,0<=val r) (hS:WC ws≠0) :
  Calls Tryz.prog 189 #[.string ⟨T.toArray⟩,.slice A n c] w (Zcm w (val T) (ws.map val) n):=by
 have hb:=Below.refl w.heap.size w;have C1:=Lh (Tt (l:=T) (by omega))
 by_cases hT0:0<=val T
 ·have e0:decide (val T<0)=false:=Df (by omega)
  rw[e0] at C1;have C2:=Lh (fun (w':World) (hb':Below w.heap.size w w')=>NT c (hG.below hb') (hI.below hb') (T:=T) (by omega) h0 hn1 hpos hS hT0)
  have HT0:=Lh hT0;clear e0 hI hpos hS hT0;go_enter Tryz.func189,Tryz.ntmps189;go_wp2_with fail
  with_reducible refine (C1.out.of hG.g hb).mono ?_
  rintro e w1 ⟨rfl,hb1⟩;go_wp2_with fail;refine (C2.out w1 hb1).mono ?_;rintro e w2 ⟨bp,ps,rfl,h1,h2,h3,h4⟩;have HR:Hid (Zcm w (val T) (ws.map val) n (.returned (.slice (some ⟨bp,0,none⟩) n n)) w2):=⟨bp,ps,rfl,Nt hb1.size h1,h2,.inl ⟨HT0.out,h3⟩,bto hb1 h4⟩;clear h1 h2 h3 h4 C1 C2 hb hb1;go_wp2;go_ret;exact HR.out
 ·have e0:decide (val T<0)=true:=Dt (by omega)
  rw[e0] at C1;have hTl:(canon (-val T)).length<=5000:=by
   have:=Zz (l:=T) hT
   refine Nt (Zo (-val T) 4900 (by rw[Int.natAbs_neg];exact this)) (by decide)
  have C2:=Lh (ZaK (l:=T) (by omega) rfl)
  have C3:=Lh (fun (w':World) (hb':Below w.heap.size w w')=>NT c (hG.below hb') (hI.below hb') (T:=canon (-val T)) hTl h0 hn1 hpos hS (by rw[Zj];omega))
  have HB:Hid (∀ps,OQ (-val T) (ws.map val) ps->∀q∈ps,(canon q).length<=10002):=fun ps hp=>by
   obtain⟨N,hN⟩:∃N,N=5000:=⟨_,rfl⟩
   have hz:∀z∈ws.map val,0<=z/\z.natAbs<10 ^ N:=fun z hz=>by
    obtain⟨r,hr,rfl⟩:=List.mem_map.1 hz;exact⟨hpos r hr,Zz (by have:=hI.sm r hr;omega)⟩
   have:=Qy.bd (N:=N) hz (T:=-val T) (by rw[Int.natAbs_neg];exact Zz (by omega)) (.inl ⟨by omega,hp⟩)
   intro q hq
   have:=this q hq
   omega
  rw[Zj] at C3;have HT0:Hid (val T<0):=by show _<_;omega
  have HL:Hid ((ws.map val).length=n):=by show _=_;rw[List.length_map];exact hI.len
  obtain⟨nt,hnt⟩:∃nt,nt=canon (-val T):=⟨_,rfl⟩
  rw[<-hnt] at C2 C3;clear e0 hI hpos hS hT0 hTl hnt;go_enter Tryz.func189,Tryz.ntmps189;go_wp2_with fail
  with_reducible refine (C1.out.of hG.g hb).mono ?_
  rintro e w1 ⟨rfl,hb1⟩;go_wp2_with fail
  with_reducible refine (C2.out.of hG.g hb1).mono ?_
  rintro e w2 ⟨rfl,hb2⟩;replace hb1:=bto hb1 hb2;go_wp2_with fail;refine (C3.out w2 hb1).mono ?_;rintro e w3 ⟨bp,ps,rfl,h1,h2,h3,h4⟩;have HP:=Lh h3;have HL2:Hid (ps.length=n):=h3.len.trans HL.out;have hlp:=Nt hb1.size h1;have HR:=Lh h2;have HB3:=Lh (bto hb1 h4);clear h1 h2 h3 h4 C1 C2 C3 hb hb1 hb2;go_wp2_with fail
  go_loopw [6,19] (fun _ iv wr=>∃k:Nat,k<=n/\iv=.int .i64 (k:Int)/\Hid (wr.heap[bp]?=some (.cells (zsC (Ns ps k)) 32 (0,0)))/\Hid (Below w.heap.size w wr)) (fun _ iv _=>n-(intOf iv).toNat)
  case atStart=>exact⟨0,Nat.zero_le _,rfl,HR.out,HB3.out⟩
  case round=>
   clear HR HB3;obtain⟨k,hk,rfl,HR,HB3⟩:=hrel
   by_cases hlk:k<n
   rotate_left
   ·have e1:decide (k<n)=false:=Df hlk;have e2:decide ((k:Int)<(n:Int))=false:=Df (by omega)
    go_wp2;go_ret;refine⟨bp,_,rfl,hlp,HR.out,.inr ⟨HT0.out,ps,HP.out,?_⟩,HB3.out⟩;have e:k=ps.length:=by have:=HL2.out;omega
    rw[e,DF]
   have e1:decide (k<n)=true:=Dt hlk;have e2:decide ((k:Int)<(n:Int))=true:=Dt (by omega)
   obtain⟨x,hx⟩:∃x,ps[k]?=some x:=⟨_,List.getElem?_eq_getElem (by have:=HL2.out;omega)⟩
   have hxl:=HB.out ps HP.out x (Lm hx);have CN:=Lh (ZaK (l:=canon x) (z:=-x) (by omega) (by rw[Zj]))
   have q0:wr.cell? ⟨bp,k,none⟩=some (.string ⟨(canon x).toArray⟩):=(Zg HR.out k).trans (Sf (I3 hx));have hb:=HB3.out;have HX:=Lh hx;clear hx hxl;go_wp2_with fail
   with_reducible refine (CN.out.of hG.g hb).mono ?_
   rintro e w4 ⟨rfl,hb4⟩;clear q0 e1 e2 CN;have HR4:Hid (w4.heap[bp]?=some (.cells (zsC (Ns ps k)) 32 (0,0))):=(hb4.block _ (Ag.1 HR.out).1).trans HR.out;have q1:w4.cell? ⟨bp,k,none⟩=some (.string ⟨(canon x).toArray⟩):=(Zg HR4.out k).trans (Sf (I3 HX.out));have q2:w4.frozen? ⟨bp,k,none⟩=false:=Zm HR4.out k;have HRN:Hid ((w4.setCell ⟨bp,k,none⟩ (.string ⟨(canon (-x)).toArray⟩)).heap[bp]?=some (.cells (zsC (Ns ps (k+1))) 32 (0,0))):=by
    have h:=Yj (o:=k) (Value.string ⟨(canon (-x)).toArray⟩) HR4.out;rw[PG,DD HX.out] at h;exact h
   have HBN:Hid (Below w.heap.size w (w4.setCell ⟨bp,k,none⟩ (.string ⟨(canon (-x)).toArray⟩))):=(bto hb hb4).setCell (p:=⟨bp,k,none⟩) hlp _;clear hb hb4 HR HB3 HR4 HX;go_wp2;go_roundw
   case rel=>exact⟨k+1,by omega,by go_num,HRN.out,HBN.out⟩
   case measure=>simp[intOf];omega
def Zcn (w:World) (T:Int) (zs:List Int) (n:Nat) (e:Ending) (w':World):Prop:=
 ∃bp ps,e=.returned (.tuple #[.slice (some ⟨bp,0,none⟩) n n,.int .i64 0])/\w.heap.size<=bp/\w'.heap[bp]?=some (.cells (zsC ps) 32 (0,0))/\Qy T zs ps/\Below w.heap.size w w'
theorem Zbt {w:World} {A:Option Addr} {ws:List (List UInt8)} {n:Nat} (c:Nat) {T:List UInt8} (hG:GE w) (hI:Uo w A ws n) (hT:T.length<=4900) (h:LE T ws=0) :
  Calls Tryz.prog 124 #[.string ⟨T.toArray⟩,.slice A n c] w (Zcn w (val T) (ws.map val) n):=by
 obtain⟨s1,s2,-,s4,s5⟩:=MA h;have hl:=hI.len;have C1:=Lh (Zbm c (T:=T) (by omega) hG.g hI)
 have C2:=Lh (fun (w':World) (hb':Below w.heap.size w w')=>AV c (hG.below hb') (hI.below hb') (T:=T) hT (by omega) (by omega) (fun r hr=>(s4 r hr).2) s5)
 rw[h] at C1;clear hI h s1 s2 s4 s5 hl;go_enter Tryz.func124,Tryz.ntmps124;go_wp2_with fail;refine C1.out.mono ?_;rintro e w1 ⟨rfl,hb1⟩;go_wp2_with fail;refine (C2.out w1 hb1).mono ?_;rintro e w2 ⟨bp,ps,rfl,h1,h2,h3,h4⟩;have HR:Hid (Zcn w (val T) (ws.map val) n (.returned (.tuple #[.slice (some ⟨bp,0,none⟩) n n,.int .i64 0])) w2):=⟨bp,ps,rfl,Nt hb1.size h1,h2,h3,bto hb1 h4⟩;clear h1 h2 h3 h4 C1 C2 hb1;go_wp2;go_ret2;exact HR.out
theorem AW {l l':List UInt8} {q:Rat} {k:Nat} (h:IsQ l l' q) (b:Bd k q) (hk:k<=90000) {z:Int} (e:rnd q 1=z):Ret 57 #[(Value.agg #[Value.string ⟨l.toArray⟩,Value.string ⟨l'.toArray⟩]),.int .i64 1] (.tuple #[.string ⟨(canon z).toArray⟩,.int .i64 0]):=by
 subst e
 by_cases h0:q.num % q.den=0
 ·exact GL h b hk 1 rfl h0
 ·exact GM h b hk 1 rfl h0
theorem Zbu {T p a:List UInt8} (hTl:T.length<=2000) (hpl:p.length<=2000) (hal:a.length<=2000) (hT:T=canon (val T)) (hp:p=canon (val p)) (ha:a=canon (val a)) (h0:0<=val p) (h1:val p<=val a) (h2:0<val a) :
  Ret 277 #[.string ⟨T.toArray⟩,.string ⟨p.toArray⟩,.string ⟨a.toArray⟩] (.tuple #[.string ⟨(canon (MI (val T) (val p) (val a))).toArray⟩,.string ⟨(canon (val T-MI (val T) (val p) (val a))).toArray⟩,.int .i64 0]):=fun w hG=>by
 have hb:=Below.refl w.heap.size w;have K1:=Lh (Yz (l:=T) (c:=0) (by omega) (if_pos hT))
 have K2:=Lh (Yz (l:=p) (c:=0) (by omega) (if_pos hp))
 have K3:=Lh (Yz (l:=a) (c:=0) (by omega) (if_pos ha))
 have N1:=Lh (Tt (l:=a) (by omega))
 have N2:=Lh (Tt (l:=p) (by omega))
 rw[Df (by omega:¬val a<0)] at N1
 rw[Df (by omega:¬val p<0)] at N2
 obtain⟨cp,hcp⟩:∃cp,cp=ZI (val p) (val a):=⟨_,rfl⟩
 have hc0:cp<=0:=by rw[hcp];unfold ZI;split<;>(try split)<;>omega
 have CC:=Lh (ZM (l:=p) (l':=a) (by omega) (by omega) hcp.symm)
 have e1:decide (0<cp)=false:=Df (by omega)
 have hml:=Z2 T p;have CM:=Lh (ZaL (l:=T) (l':=p) (by omega) (by omega) rfl)
 obtain⟨q,hq⟩:∃q,q=Rat.divInt (val T*val p) (val a):=⟨_,rfl⟩
 have CN:=Lh (Zb4 (l:=canon (val T*val p)) (l':=a) (r:=q) (by omega) (by omega) (by omega) (by rw[Zj,hq]))
 obtain⟨N,hN⟩:∃N,N=4001:=⟨_,rfl⟩
 have hbq:Bd N q:=by
  rw[hq];refine VQ ?_ (Zz (by omega)) (by omega)
  have:=Zz (l:=canon (val T*val p)) (k:=N) (by omega)
  rwa [Zj] at this
 obtain⟨s,hs⟩:∃s,s=MI (val T) (val p) (val a):=⟨_,rfl⟩
 have CR:=Lh (AW (Zs hbq (by omega)) hbq (by omega) (z:=s) (by rw[hs,hq];rfl))
 have hsl:(canon s).length<=100000:=by
  have h3:=Zbg q 1;have h4:=Jq q;have h5:=hbq.1;have e5:s=rnd q 1:=by rw[hs,hq];rfl
  have h6:s.natAbs<10 ^ (N+1):=by
   have e:(10:Nat) ^ (N+1)=10 ^ N*10:=Nat.pow_succ ..;have h7:1<=(10:Nat) ^ N:=Nat.pow_pos (by decide)
   rw[e];generalize (10:Nat) ^ N=P at *;omega
  exact Nt (Zo s (N+1) h6) (by omega)
 have CS:=Lh (Um (l:=T) (l':=canon s) (z:=val T-s) (by omega) (by omega) (by rw[Zj]))
 have ha1:(a==[])=false:=by
  rw[Bn];intro hc;rw[hc] at h2;exact absurd h2 (by decide)
 have ha2:a.isEmpty=false:=by
  rw[List.isEmpty_eq_false_iff];intro hc;rw[hc] at h2;exact absurd h2 (by decide)
 rw[<-hs];obtain⟨mt,hmt⟩:∃mt,mt=canon (val T*val p):=⟨_,rfl⟩
 rw[<-hmt] at CM CN;obtain⟨ss,hss⟩:∃ss,ss=canon s:=⟨_,rfl⟩
 rw[<-hss] at CR CS ⊢;obtain⟨rr,hrr⟩:∃rr,rr=canon (val T-s):=⟨_,rfl⟩
 rw[<-hrr] at CS ⊢;clear hT hp ha hcp hq hN hbq hs hsl hmt hss hrr hml h0 h1 h2 hTl hpl hal;go_enter Tryz.func277,Tryz.ntmps277;go_wp2_with fail
 with_reducible refine (K1.out.of hG hb).mono ?_
 rintro e w1 ⟨rfl,hb1⟩;replace hb:=bto hb hb1;go_wp2_with fail
 with_reducible refine (K2.out.of hG hb).mono ?_
 rintro e w2 ⟨rfl,hb2⟩;replace hb:=bto hb hb2;go_wp2_with fail
 with_reducible refine (K3.out.of hG hb).mono ?_
 rintro e w3 ⟨rfl,hb3⟩;replace hb:=bto hb hb3;clear hb1 hb2 hb3 K1 K2 K3;go_wp2_with fail
 with_reducible refine (N1.out.of hG hb).mono ?_
 rintro e w4 ⟨rfl,hb4⟩;replace hb:=bto hb hb4;go_wp2_with fail
 with_reducible refine (N2.out.of hG hb).mono ?_
 rintro e w5 ⟨rfl,hb5⟩;replace hb:=bto hb hb5;go_wp2_with fail
 with_reducible refine (CC.out.of hG hb).mono ?_
 rintro e w6 ⟨rfl,hb6⟩;replace hb:=bto hb hb6;clear hb4 hb5 hb6 N1 N2 CC;go_wp2_with fail
 with_reducible refine (CM.out.of hG hb).mono ?_
 rintro e w7 ⟨rfl,hb7⟩;replace hb:=bto hb hb7;go_wp2_with fail
 with_reducible refine (CN.out.of hG hb).mono ?_
 rintro e w8 ⟨rfl,hb8⟩;replace hb:=bto hb hb8;have x9:=Z0.new w8 (.string ⟨(fN q).toArray⟩) (.string ⟨(fD q).toArray⟩) 34;have hbA:=Zb w8 (.cells #[.string ⟨(fN q).toArray⟩,.string ⟨(fD q).toArray⟩] 34);replace hb:=bto hb hbA;have p0:=x9.c0;have p1:=x9.c1;clear hb7 hb8 hbA x9 CM CN e1 ha1 ha2;go_wp2_with fail
 with_reducible refine (CR.out.of hG hb).mono ?_
 rintro e w9 ⟨rfl,hb9⟩;replace hb:=bto hb hb9;clear p0 p1 hb9 CR;go_wp2_with fail
 with_reducible refine (CS.out.of hG hb).mono ?_
 rintro e w10 ⟨rfl,hb10⟩;replace hb:=bto hb hb10;clear hb10 CS;go_wp2;refine bodyPost_ret (v:=.tuple #[.string ⟨ss.toArray⟩,.string ⟨rr.toArray⟩,.int .i64 0]) (by simp[results,Tryz.results277,go_sem]) rfl ?_
 exact⟨rfl,hb⟩
section
variable {P:Program} {ops:Array Oper} {C:World->Prop} {Q:St->Bx->Prop} {rest:List Oper} {i:Nat} {a:St} {B:Bx} {o:Oper}
theorem Qz (k j:Nat) (ok:Oper) (d:Tmp) (cs:Array Value) (vs:List Value) (t:TypeId) (hp:B k=some (false,.cells cs t (0,0))) (hk:ops[k]?=some ok) (hd:ok.dst=some d) (hl:d∈o.looksAt ops)
  (hw:∀ρ,Region.wanted o (yielded ops (a ρ).tmps)=true)
  (h:∀ρ w,C w->(∀m,w.cell? ⟨ρ k,m,none⟩=cs[m]?)->(∀m,w.frozen? ⟨ρ k,m,none⟩=false)->(execOp (a ρ).eval o).run P w=.ok .skip (w.setCells (ρ k) j vs))
  (hn:Yg P ops C Q rest (i+1) (fun ρ=>(a ρ).put o.dst undef) (fun l=>if l=k then some (true,.cells (YR cs j vs) t (0,0)) else B l)):Yg P ops C Q (o::rest) i a B:=
 ⟨.put k (.cells cs t (0,0)) (.cells (YR cs j vs) t (0,0)),hp,⟨.inr ⟨ok,d,hk,hd,hl⟩,fun ρ=>⟨hw ρ,fun w hc hb=>
  ⟨_,h ρ w hc (fun m=>Zg hb m) (fun m=>Zm hb m),Ts (ρ k) t vs j cs w hb⟩⟩⟩,hn⟩
end
theorem Zc2 (w1:World) (a b c:Obj):(((w1.alloc a).alloc b).alloc c).heap[w1.heap.size]?=some a/\(((w1.alloc a).alloc b).alloc c).heap[w1.heap.size+1]?=some b/\(((w1.alloc a).alloc b).alloc c).heap[w1.heap.size+1+1]?=some c/\Below w1.heap.size w1 (((w1.alloc a).alloc b).alloc c):=by
 have h0:(((w1.alloc a).alloc b).alloc c).heap=((w1.heap.push a).push b).push c:=rfl;refine⟨?_,?_,?_,?_⟩
 ·rw[h0];simp only[Array.getElem?_push,Array.size_push];rw[if_neg (by omega),if_neg (by omega),if_pos trivial]
 ·rw[h0];simp only[Array.getElem?_push,Array.size_push];rw[if_neg (by omega),if_pos trivial]
 ·rw[h0];simp only[Array.getElem?_push,Array.size_push];rw[if_pos trivial]
 ·exact bto (bto (Zb w1 a) (Zb _ b)) (Zb _ c)
structure Zc3 (w:World) (b:Nat) (x:Lot):Prop where
 out:w.rangeAt b 0 (lcs x)
theorem Vf {w:World} {b:Nat} {x:Lot} (h:Blk w b #[Value.string ⟨x.id.toArray⟩,Value.string ⟨x.ins.toArray⟩,Value.int .i64 x.acq,Value.int .i64 x.opn,Value.string ⟨x.q.toArray⟩,Value.string ⟨x.cost.toArray⟩,Value.string ⟨x.used.toArray⟩]):Zc3 w b x:=⟨fun j v hv=>by
 have hj:j<7:=VZ hv;rw[Nat.zero_add]
 match j,hj with
 | 0,_=>cases hv;exact h.c 0
 | 1,_=>cases hv;exact h.c 1
 | 2,_=>cases hv;exact h.c 2
 | 3,_=>cases hv;exact h.c 3
 | 4,_=>cases hv;exact h.c 4
 | 5,_=>cases hv;exact h.c 5
 | 6,_=>cases hv;exact h.c 6⟩
theorem hset {w:World} {b o:Nat} {cs:Array Value} {t:TypeId} (v:Value) (h:w.heap[b]?=some (.cells cs t (0,0))):(w.setCell ⟨b,o,none⟩ v).heap[b]?=some (.cells (cs.setIfInBounds o v) t (0,0)):=Yj v h
theorem hoth {w:World} {b c o:Nat} {ob:Obj} {v:Value} (h:w.heap[b]?=some ob) (hn:b≠c):(w.setCell ⟨c,o,none⟩ v).heap[b]?=some ob:=(Below.heap_setCell w ⟨c,o,none⟩ v b hn).trans h
theorem Zk {w w':World} {b:Nat} {ob:Obj} (h:w.heap[b]?=some ob) (hb:Below w.heap.size w w'):w'.heap[b]?=some ob:=(hb.block _ (Ag.1 h).1).trans h
theorem V7 {w:World} {b:Nat} {c0 c1 c2 c3 c4 c5 c6:Value} (hc:∀m,w.cell? ⟨b,m,none⟩=#[c0,c1,c2,c3,c4,c5,c6][m]?) (hf:∀m,w.frozen? ⟨b,m,none⟩=false):w.there b 0 7:=fun j hj=>by
 refine⟨?_,hf _⟩;rw[Nat.zero_add,hc]
 match j,hj with
 | 0,_|1,_|2,_|3,_|4,_|5,_|6,_=>rfl
theorem Zc4 {x:Lot} (hs:OD x) (hx:UK x=0) {q:List UInt8} (hql:q.length<=1000) (hq:q=canon (val q)) (h0:0<val q) (h1:val q<val x.q) :
  Vu 215 #[(Value.agg #[Value.string ⟨x.id.toArray⟩,Value.string ⟨x.ins.toArray⟩,Value.int .i64 x.acq,Value.int .i64 x.opn,Value.string ⟨x.q.toArray⟩,Value.string ⟨x.cost.toArray⟩,Value.string ⟨x.used.toArray⟩]),.string ⟨q.toArray⟩] (.tuple #[(Value.agg #[Value.string ⟨List.toArray (WY x q).id⟩,Value.string ⟨List.toArray (WY x q).ins⟩,Value.int .i64 (WY x q).acq,Value.int .i64 (WY x q).opn,Value.string ⟨List.toArray (WY x q).q⟩,Value.string ⟨List.toArray (WY x q).cost⟩,Value.string ⟨List.toArray (WY x q).used⟩]),(Value.agg #[Value.string ⟨List.toArray (WI x q).id⟩,Value.string ⟨List.toArray (WI x q).ins⟩,Value.int .i64 (WI x q).acq,Value.int .i64 (WI x q).opn,Value.string ⟨List.toArray (WI x q).q⟩,Value.string ⟨List.toArray (WI x q).cost⟩,Value.string ⟨List.toArray (WI x q).used⟩]),.int .i64 0]):=fun w hG=>by
 obtain⟨-,-,-,-,-,x1,x2,x3,x4,x5,x6⟩:=IJ hx;have hl4:=hs.q;have hl5:=hs.cost;have HZ:=Lh Tv;have K1:=Lh (E8 hs);rw[hx] at K1;have K2:=Lh (Yz (l:=q) (c:=0) (by omega) (if_pos hq))
 obtain⟨ca,hca⟩:∃ca,ca=ZI (val q) 0:=⟨_,rfl⟩
 have ca1:0<ca:=by rw[hca];exact (LA (val q)).2.2.1.2 h0
 have KC1:=Lh (ZM (l:=q) (l':=[]) (by omega) (by decide) hca.symm)
 obtain⟨cb,hcb⟩:∃cb,cb=ZI (val q) (val x.q):=⟨_,rfl⟩
 have cb1:cb<0:=by rw[hcb];unfold ZI;rw[if_pos h1];decide
 have KC2:=Lh (ZM (l:=q) (l':=x.q) (by omega) (by omega) hcb.symm)
 have g1:decide (ca<=0)=false:=Df (by omega)
 have g2:decide (0<=cb)=false:=Df (by omega)
 have KS:=Lh (Um (l:=x.q) (l':=q) (z:=val x.q-val q) (by omega) (by omega) rfl)
 have KH:=Lh (Zbu (T:=x.cost) (p:=q) (a:=x.q) (by omega) (by omega) (by omega) x2 hq x1 (by omega) (by omega) (by omega))
 obtain⟨xa,hxa⟩:∃xa,xa=WY x q:=⟨_,rfl⟩
 obtain⟨xb,hxb⟩:∃xb,xb=WI x q:=⟨_,rfl⟩
 have HXA:=Lh hxa;have HXB:=Lh hxb;obtain⟨d,hd⟩:∃d,d=canon (val x.q-val q):=⟨_,rfl⟩
 obtain⟨sa,hsa⟩:∃sa,sa=canon (MI (val x.cost) (val q) (val x.q)):=⟨_,rfl⟩
 obtain⟨sb,hsb⟩:∃sb,sb=canon (val x.cost-MI (val x.cost) (val q) (val x.q)):=⟨_,rfl⟩
 have HA1:Hid (x.used=[]->#[Value.string ⟨xa.id.toArray⟩,Value.string ⟨xa.ins.toArray⟩,Value.int .i64 xa.acq,Value.int .i64 xa.opn,Value.string ⟨xa.q.toArray⟩,Value.string ⟨xa.cost.toArray⟩,Value.string ⟨xa.used.toArray⟩]=#[.string ⟨x.id.toArray⟩,.string ⟨x.ins.toArray⟩,.int .i64 x.acq,.int .i64 x.opn,.string ⟨q.toArray⟩,.string ⟨sa.toArray⟩,.string ⟨x.used.toArray⟩]/\#[Value.string ⟨xb.id.toArray⟩,Value.string ⟨xb.ins.toArray⟩,Value.int .i64 xb.acq,Value.int .i64 xb.opn,Value.string ⟨xb.q.toArray⟩,Value.string ⟨xb.cost.toArray⟩,Value.string ⟨xb.used.toArray⟩]=#[.string ⟨x.id.toArray⟩,.string ⟨x.ins.toArray⟩,.int .i64 x.acq,.int .i64 x.opn,.string ⟨d.toArray⟩,.string ⟨sb.toArray⟩,.string ⟨x.used.toArray⟩]):=fun hu=>by
  rw[hxa,hxb,hd,hsa,hsb];simp only[WY,WI,hu];exact⟨rfl,rfl⟩
 have HA2:Hid (x.used≠[]->#[Value.string ⟨xa.id.toArray⟩,Value.string ⟨xa.ins.toArray⟩,Value.int .i64 xa.acq,Value.int .i64 xa.opn,Value.string ⟨xa.q.toArray⟩,Value.string ⟨xa.cost.toArray⟩,Value.string ⟨xa.used.toArray⟩]=#[.string ⟨x.id.toArray⟩,.string ⟨x.ins.toArray⟩,.int .i64 x.acq,.int .i64 x.opn,.string ⟨q.toArray⟩,.string ⟨sa.toArray⟩,.string ⟨q.toArray⟩]/\#[Value.string ⟨xb.id.toArray⟩,Value.string ⟨xb.ins.toArray⟩,Value.int .i64 xb.acq,Value.int .i64 xb.opn,Value.string ⟨xb.q.toArray⟩,Value.string ⟨xb.cost.toArray⟩,Value.string ⟨xb.used.toArray⟩]=#[.string ⟨x.id.toArray⟩,.string ⟨x.ins.toArray⟩,.int .i64 x.acq,.int .i64 x.opn,.string ⟨d.toArray⟩,.string ⟨sb.toArray⟩,.string ⟨d.toArray⟩]):=fun hu=>by
  rw[hxa,hxb,hd,hsa,hsb];simp only[WY,WI,if_neg hu];exact⟨trivial,trivial⟩
 rw[<-hxa,<-hxb];rw[<-hd] at KS;rw[<-hsa,<-hsb] at KH;obtain⟨a1,a2,a3,a4⟩:=Zc2 w (.cells #[Value.string ⟨x.id.toArray⟩,Value.string ⟨x.ins.toArray⟩,Value.int .i64 x.acq,Value.int .i64 x.opn,Value.string ⟨x.q.toArray⟩,Value.string ⟨x.cost.toArray⟩,Value.string ⟨x.used.toArray⟩] 130) (.cells #[.string ⟨#[]⟩,.string ⟨#[]⟩,.int .i64 0,.int .i64 0,.string ⟨#[]⟩,.string ⟨#[]⟩,.string ⟨#[]⟩] 130) (.cells #[.string ⟨#[]⟩,.string ⟨#[]⟩,.int .i64 0,.int .i64 0,.string ⟨#[]⟩,.string ⟨#[]⟩,.string ⟨#[]⟩] 130);have B2:Blk (((w.alloc (.cells #[Value.string ⟨x.id.toArray⟩,Value.string ⟨x.ins.toArray⟩,Value.int .i64 x.acq,Value.int .i64 x.opn,Value.string ⟨x.q.toArray⟩,Value.string ⟨x.cost.toArray⟩,Value.string ⟨x.used.toArray⟩] 130)).alloc (.cells #[.string ⟨#[]⟩,.string ⟨#[]⟩,.int .i64 0,.int .i64 0,.string ⟨#[]⟩,.string ⟨#[]⟩,.string ⟨#[]⟩] 130)).alloc (.cells #[.string ⟨#[]⟩,.string ⟨#[]⟩,.int .i64 0,.int .i64 0,.string ⟨#[]⟩,.string ⟨#[]⟩,.string ⟨#[]⟩] 130)) w.heap.size #[Value.string ⟨x.id.toArray⟩,Value.string ⟨x.ins.toArray⟩,Value.int .i64 x.acq,Value.int .i64 x.opn,Value.string ⟨x.q.toArray⟩,Value.string ⟨x.cost.toArray⟩,Value.string ⟨x.used.toArray⟩]:=⟨_,a1⟩;have p0:=B2.c 0;have p1:=B2.c 1;have p2:=B2.c 2;have p3:=B2.c 3;have p4:=B2.c 4;have p5:=B2.c 5;have p6:=B2.c 6;have B2H:=Lh B2;have A2:=Lh a2;have A3:=Lh a3;have HUS:=Lh x6;have hb:=a4;clear hx hq h0 h1 hca hcb hxa hxb hd hsa hsb x1 x2 x3 x4 x5 x6 B2 a1 a2 a3 a4 hl4 hl5 hs;go_enter Tryz.func215,Tryz.ntmps215;go_wp2_with fail
 with_reducible refine (K1.out.of hG hb).mono ?_
 rintro e w1 ⟨rfl,hb1⟩;clear p0 p1 p2 p3 p4 p5 p6 K1;have x2:=B2H.out.below hb1;have H4:Hid (w1.heap[w.heap.size+1]?=some (.cells #[.string ⟨#[]⟩,.string ⟨#[]⟩,.int .i64 0,.int .i64 0,.string ⟨#[]⟩,.string ⟨#[]⟩,.string ⟨#[]⟩] 130 (0,0))):=(hb1.block _ (Ag.1 A2.out).1).trans A2.out;have H5:Hid (w1.heap[w.heap.size+1+1]?=some (.cells #[.string ⟨#[]⟩,.string ⟨#[]⟩,.int .i64 0,.int .i64 0,.string ⟨#[]⟩,.string ⟨#[]⟩,.string ⟨#[]⟩] 130 (0,0))):=(hb1.block _ (Ag.1 A3.out).1).trans A3.out;replace hb:=bto hb hb1;clear hb1 B2H A2 A3;obtain⟨b4,hb4⟩:∃b4,b4=w.heap.size+1:=⟨_,rfl⟩
 obtain⟨b5,hb5⟩:∃b5,b5=w.heap.size+1+1:=⟨_,rfl⟩
 obtain⟨b2,hb2⟩:∃b2,b2=w.heap.size:=⟨_,rfl⟩
 have l4:w.heap.size<=b4:=by omega
 have l5:w.heap.size<=b5:=by omega
 have l2:w.heap.size<=b2:=by omega
 have hne45:b4≠b5:=by omega
 have hlt4:b4<w1.heap.size:=by rw[hb4];exact (Ag.1 H4.out).1
 have hlt5:b5<w1.heap.size:=by rw[hb5];exact (Ag.1 H5.out).1
 have hlt2:b2<w1.heap.size:=by rw[hb2];exact x2.lt
 rw[<-hb2] at x2;rw[<-hb4] at H4;rw[<-hb5] at H5;have HB4:=Lh hb4;have HB5:=Lh hb5;rw[<-hb5,<-hb4,<-hb2];clear hb4 hb5 hb2;go_wp2_with fail
 with_reducible refine (K2.out.e.of hG hb).mono ?_
 rintro e w2 ⟨rfl,hb2⟩;replace hb:=bto hb hb2;replace x2:=x2.below hb2;replace H4:=Lh ((hb2.block _ hlt4).trans H4.out);replace H5:=Lh ((hb2.block _ hlt5).trans H5.out);replace hlt4:=Nat.lt_of_lt_of_le hlt4 hb2.size;replace hlt5:=Nat.lt_of_lt_of_le hlt5 hb2.size;clear hb2 K2;go_wp2_with fail
 with_reducible refine (KC1.out.e.of hG hb).mono ?_
 rintro e w3 ⟨rfl,hb3⟩;replace hb:=bto hb hb3;replace x2:=x2.below hb3;replace H4:=Lh ((hb3.block _ hlt4).trans H4.out);replace H5:=Lh ((hb3.block _ hlt5).trans H5.out);replace hlt4:=Nat.lt_of_lt_of_le hlt4 hb3.size;replace hlt5:=Nat.lt_of_lt_of_le hlt5 hb3.size;clear hb3 KC1;have q4:=x2.c 4;go_wp2_with fail
 with_reducible refine (KC2.out.e.of hG hb).mono ?_
 rintro e w4 ⟨rfl,hb4⟩;replace hb:=bto hb hb4;replace x2:=x2.below hb4;replace H4:=Lh ((hb4.block _ hlt4).trans H4.out);replace H5:=Lh ((hb4.block _ hlt5).trans H5.out);replace hlt4:=Nat.lt_of_lt_of_le hlt4 hb4.size;replace hlt5:=Nat.lt_of_lt_of_le hlt5 hb4.size;clear hb4 q4 KC2;go_wp2_with fail;clear g1 g2 ca1 cb1;refine Zt (by kernel_rfl) (by kernel_rfl) ?_
 iterate 2
  refine Zd (.agg #[Value.string ⟨x.id.toArray⟩,Value.string ⟨x.ins.toArray⟩,Value.int .i64 x.acq,Value.int .i64 x.opn,Value.string ⟨x.q.toArray⟩,Value.string ⟨x.cost.toArray⟩,Value.string ⟨x.used.toArray⟩]) (fun _=>rfl) (fun ρ wz hw=>ZP 130 _ rfl b2 0 rfl (lcs x) _ (Vf (x2.below hw)).out Tryz.underlying130 rfl (by rw[HZ.out];rfl)) ?_
  simp only[Act.put,StT,StZ,StS,Nat.reduceAdd]
 iterate 2
  refine SH (fun b=>.pointer (some ⟨b,0,none⟩)) (.cells #[.string ⟨#[]⟩,.string ⟨#[]⟩,.int .i64 0,.int .i64 0,.string ⟨#[]⟩,.string ⟨#[]⟩,.string ⟨#[]⟩] 130) rfl (fun _=>rfl) (fun ρ wz hw=>by go_simp;try with_reducible rfl) ?_
  simp only[Act.put,StT,StZ,StS,Nat.reduceAdd]
 refine Qz 2 0 _ 7 #[.string ⟨#[]⟩,.string ⟨#[]⟩,.int .i64 0,.int .i64 0,.string ⟨#[]⟩,.string ⟨#[]⟩,.string ⟨#[]⟩] (lcs x) 130 rfl rfl rfl (by decide) (fun _=>rfl) (fun ρ wz hw hc hf=>Zn 130 _ _ rfl (ρ 2) 0 #[Value.string ⟨x.id.toArray⟩,Value.string ⟨x.ins.toArray⟩,Value.int .i64 x.acq,Value.int .i64 x.opn,Value.string ⟨x.q.toArray⟩,Value.string ⟨x.cost.toArray⟩,Value.string ⟨x.used.toArray⟩] rfl rfl (V7 hc hf) (by rw[HZ.out];rfl) (Ur x)) ?_
 simp only[Act.put,Nat.reduceAdd];refine Qz 3 0 _ 8 #[.string ⟨#[]⟩,.string ⟨#[]⟩,.int .i64 0,.int .i64 0,.string ⟨#[]⟩,.string ⟨#[]⟩,.string ⟨#[]⟩] (lcs x) 130 rfl rfl rfl (by decide) (fun _=>rfl) (fun ρ wz hw hc hf=>Zn 130 _ _ rfl (ρ 3) 0 #[Value.string ⟨x.id.toArray⟩,Value.string ⟨x.ins.toArray⟩,Value.int .i64 x.acq,Value.int .i64 x.opn,Value.string ⟨x.q.toArray⟩,Value.string ⟨x.cost.toArray⟩,Value.string ⟨x.used.toArray⟩] rfl rfl (V7 hc hf) (by rw[HZ.out];rfl) (Ur x)) ?_
 simp only[Act.put,Nat.reduceAdd];intro ρ w5 hF;dsimp only;have H7:Hid (w5.heap[ρ 2]?=some (.cells #[Value.string ⟨x.id.toArray⟩,Value.string ⟨x.ins.toArray⟩,Value.int .i64 x.acq,Value.int .i64 x.opn,Value.string ⟨x.q.toArray⟩,Value.string ⟨x.cost.toArray⟩,Value.string ⟨x.used.toArray⟩] 130 (0,0))):=(hF.box 2 _ _ rfl).2;have H8:Hid (w5.heap[ρ 3]?=some (.cells #[Value.string ⟨x.id.toArray⟩,Value.string ⟨x.ins.toArray⟩,Value.int .i64 x.acq,Value.int .i64 x.opn,Value.string ⟨x.q.toArray⟩,Value.string ⟨x.cost.toArray⟩,Value.string ⟨x.used.toArray⟩] 130 (0,0))):=(hF.box 3 _ _ rfl).2;have l7:=(hF.box 2 _ _ rfl).1;have l8:=(hF.box 3 _ _ rfl).1;have hne78:ρ 2≠ρ 3:=fun e=>by have:=hF.ne 2 3 (by simp) (by simp) e;omega
 have hbF:=hF.below;clear hF;generalize ρ 2=b7 at *;generalize ρ 3=b8 at *;have hlt2:=x2.lt;have hw4:=hb.size;have m7:w.heap.size<=b7:=Nt hw4 l7;have m8:w.heap.size<=b8:=Nt hw4 l8;have n74:b7≠b4:=by omega
 have n75:b7≠b5:=by omega
 have n84:b8≠b4:=by omega
 have n85:b8≠b5:=by omega
 have n27:b2≠b7:=by omega
 have n28:b2≠b8:=by omega
 have n87:b8≠b7:=Ne.symm hne78;have H2:Hid (Blk w5 b2 #[Value.string ⟨x.id.toArray⟩,Value.string ⟨x.ins.toArray⟩,Value.int .i64 x.acq,Value.int .i64 x.opn,Value.string ⟨x.q.toArray⟩,Value.string ⟨x.cost.toArray⟩,Value.string ⟨x.used.toArray⟩]):=x2.below hbF;replace H4:=Lh (Zk H4.out hbF);replace H5:=Lh (Zk H5.out hbF);replace hb:=bto hb hbF;clear hbF x2 hlt2 hlt4 hlt5 l7 l8 hw4;have q4:=H2.out.c 4;go_wp2_with fail
 with_reducible refine (KS.out.e.of hG hb).mono ?_
 rintro e w6 ⟨rfl,hb6⟩;clear q4 KS;replace H2:=Lh (H2.out.below hb6);replace H4:=Lh (Zk H4.out hb6);replace H5:=Lh (Zk H5.out hb6);replace H7:=Lh (Zk H7.out hb6);replace H8:=Lh (Zk H8.out hb6);replace hb:=bto hb hb6;clear hb6;have q4:=H2.out.c 4;have q5:=H2.out.c 5;have r1:w6.cell? ⟨b7,4,none⟩=some (.string ⟨x.q.toArray⟩):=Zg H7.out 4;have r2:w6.frozen? ⟨b7,4,none⟩=false:=Zm H7.out 4;have r3:w6.cell? ⟨b8,4,none⟩=some (.string ⟨x.q.toArray⟩):=Zg H8.out 4;have r4:w6.frozen? ⟨b8,4,none⟩=false:=Zm H8.out 4;replace hb:=(hb.setCell (p:=⟨b7,4,none⟩) m7 (.string ⟨q.toArray⟩)).setCell (p:=⟨b8,4,none⟩) m8 (.string ⟨d.toArray⟩);go_wp2_with fail
 with_reducible refine (KH.out.e.of hG hb).mono ?_
 rintro e w7 ⟨rfl,hb7⟩;clear q4 q5 r1 r2 r3 r4 KH;replace H2:=Lh (((H2.out.setO n27).setO n28).below hb7);replace H4:=Lh (Zk (hoth (hoth H4.out (Ne.symm n74)) (Ne.symm n84)) hb7);replace H5:=Lh (Zk (hoth (hoth H5.out (Ne.symm n75)) (Ne.symm n85)) hb7);replace H7:=Lh (Zk (hoth (hset _ H7.out) hne78) hb7);replace H8:=Lh (Zk (hset _ (hoth H8.out n87)) hb7);replace hb:=bto hb hb7;clear hb7;have q6:=H2.out.c 6;have r1:w7.cell? ⟨b7,5,none⟩=some (.string ⟨x.cost.toArray⟩):=Zg H7.out 5;have r2:w7.frozen? ⟨b7,5,none⟩=false:=Zm H7.out 5;have r3:w7.cell? ⟨b8,5,none⟩=some (.string ⟨x.cost.toArray⟩):=Zg H8.out 5;have r4:w7.frozen? ⟨b8,5,none⟩=false:=Zm H8.out 5;replace hb:=(hb.setCell (p:=⟨b7,5,none⟩) m7 (.string ⟨sa.toArray⟩)).setCell (p:=⟨b8,5,none⟩) m8 (.string ⟨sb.toArray⟩);have HB:=Lh hb;clear hb;obtain⟨W9,hW9⟩:∃W9,W9=(w7.setCell ⟨b7,5,none⟩ (.string ⟨sa.toArray⟩)).setCell ⟨b8,5,none⟩ (.string ⟨sb.toArray⟩):=⟨_,rfl⟩
 have H4b:Hid (W9.heap[b4]?=some (.cells #[.string ⟨#[]⟩,.string ⟨#[]⟩,.int .i64 0,.int .i64 0,.string ⟨#[]⟩,.string ⟨#[]⟩,.string ⟨#[]⟩] 130 (0,0))):=by show _=_;rw[hW9];exact hoth (hoth H4.out (Ne.symm n74)) (Ne.symm n84)
 have H5b:Hid (W9.heap[b5]?=some (.cells #[.string ⟨#[]⟩,.string ⟨#[]⟩,.int .i64 0,.int .i64 0,.string ⟨#[]⟩,.string ⟨#[]⟩,.string ⟨#[]⟩] 130 (0,0))):=by show _=_;rw[hW9];exact hoth (hoth H5.out (Ne.symm n75)) (Ne.symm n85)
 have H7b:Hid (W9.heap[b7]?=some (.cells #[.string ⟨x.id.toArray⟩,.string ⟨x.ins.toArray⟩,.int .i64 x.acq,.int .i64 x.opn,.string ⟨q.toArray⟩,.string ⟨sa.toArray⟩,.string ⟨x.used.toArray⟩] 130 (0,0))):=by show _=_;rw[hW9];exact hoth (hset _ H7.out) hne78
 have H8b:Hid (W9.heap[b8]?=some (.cells #[.string ⟨x.id.toArray⟩,.string ⟨x.ins.toArray⟩,.int .i64 x.acq,.int .i64 x.opn,.string ⟨d.toArray⟩,.string ⟨sb.toArray⟩,.string ⟨x.used.toArray⟩] 130 (0,0))):=by show _=_;rw[hW9];exact hset _ (hoth H8.out n87)
 rw[<-hW9] at HB;have HW9:=Lh hW9;clear H4 H5 H7 H8 H2 hW9;have hn7:∀{F:Fx},(∀b,F b≠none->b=b4∨b=b5)->¬(F b7≠none):=fun h hc=>by rcases h b7 hc with e|e<;>omega
 have hn8:∀{F:Fx},(∀b,F b≠none->b=b4∨b=b5)->¬(F b8≠none):=fun h hc=>by rcases h b8 hc with e|e<;>omega
 by_cases hu:x.used=[]
 ·have e1:(x.used==[])=true:=by rw[hu];rfl
  have e2:x.used.isEmpty=true:=by rw[hu];rfl
  have K7:Hid (Blk W9 b7 #[Value.string ⟨xa.id.toArray⟩,Value.string ⟨xa.ins.toArray⟩,Value.int .i64 xa.acq,Value.int .i64 xa.opn,Value.string ⟨xa.q.toArray⟩,Value.string ⟨xa.cost.toArray⟩,Value.string ⟨xa.used.toArray⟩]):=by rw[(HA1.out hu).1];exact⟨130,H7b.out⟩
  have K8:Hid (Blk W9 b8 #[Value.string ⟨xb.id.toArray⟩,Value.string ⟨xb.ins.toArray⟩,Value.int .i64 xb.acq,Value.int .i64 xb.opn,Value.string ⟨xb.q.toArray⟩,Value.string ⟨xb.cost.toArray⟩,Value.string ⟨xb.used.toArray⟩]):=by rw[(HA1.out hu).2];exact⟨130,H8b.out⟩
  have H4:=H4b;have H5:=H5b;clear hu HA1 HA2 H7b H8b H4b H5b;go_wp2_with fail;rw[<-HW9.out];clear q6 r1 r2 r3 r4 e1 e2;have hne:=hne45;obtain⟨F,hF⟩:∃F:Fx,F=fun b=>if b=b4 then some (.cells #[.string ⟨#[]⟩,.string ⟨#[]⟩,.int .i64 0,.int .i64 0,.string ⟨#[]⟩,.string ⟨#[]⟩,.string ⟨#[]⟩] 130 (0,0)) else if b=b5 then some (.cells #[.string ⟨#[]⟩,.string ⟨#[]⟩,.int .i64 0,.int .i64 0,.string ⟨#[]⟩,.string ⟨#[]⟩,.string ⟨#[]⟩] 130 (0,0)) else none:=⟨_,rfl⟩
  have f1:F b4=some (.cells #[.string ⟨#[]⟩,.string ⟨#[]⟩,.int .i64 0,.int .i64 0,.string ⟨#[]⟩,.string ⟨#[]⟩,.string ⟨#[]⟩] 130 (0,0)):=by rw[hF];exact if_pos rfl
  have f2:F b5=some (.cells #[.string ⟨#[]⟩,.string ⟨#[]⟩,.int .i64 0,.int .i64 0,.string ⟨#[]⟩,.string ⟨#[]⟩,.string ⟨#[]⟩] 130 (0,0)):=by rw[hF];exact (if_neg (Ne.symm hne)).trans (if_pos rfl)
  have hX:∀b,F b≠none->b=b4∨b=b5:=fun b hb=>by
   rw[hF] at hb;dsimp only at hb
   by_cases h1:b=b4
   ·exact .inl h1
   ·by_cases h2:b=b5
    ·exact .inr h2
    ·rw[if_neg h1,if_neg h2] at hb;exact absurd rfl hb
  have HFF:Hid (∀b ob,F b=some ob->W9.heap[b]?=some ob):=fun b ob h=>by
   rw[hF] at h;dsimp only at h
   by_cases h1:b=b4
   ·rw[if_pos h1] at h;rw[h1,<-h];exact H4.out
   ·rw[if_neg h1] at h
    by_cases h2:b=b5
    ·rw[if_pos h2] at h;rw[h2,<-h];exact H5.out
    ·rw[if_neg h2] at h;cases h
  obtain⟨tch,htch⟩:∃tch:Nat->List Nat,tch=fun b=>if b=b4 then [2] else if b=b5 then [3] else []:=⟨_,rfl⟩
  clear hF;have f2b:(fun kb=>if kb=b4 then some (Obj.cells (YR #[.string ⟨#[]⟩,.string ⟨#[]⟩,.int .i64 0,.int .i64 0,.string ⟨#[]⟩,.string ⟨#[]⟩,.string ⟨#[]⟩] 0 (lcs xa)) 130 (0,0)) else F kb) b5=some (.cells #[.string ⟨#[]⟩,.string ⟨#[]⟩,.int .i64 0,.int .i64 0,.string ⟨#[]⟩,.string ⟨#[]⟩,.string ⟨#[]⟩] 130 (0,0)):=(if_neg (Ne.symm hne)).trans f2
  refine Zw tch F (by kernel_rfl) (by kernel_rfl) (by kernel_rfl) HFF.out ?_
  refine Zi (.agg #[Value.string ⟨xa.id.toArray⟩,Value.string ⟨xa.ins.toArray⟩,Value.int .i64 xa.acq,Value.int .i64 xa.opn,Value.string ⟨xa.q.toArray⟩,Value.string ⟨xa.cost.toArray⟩,Value.string ⟨xa.used.toArray⟩]) rfl (fun wz hw=>ZP 130 _ rfl b7 0 rfl (lcs xa) _ (Vf (K7.out.keepX hw (hn7 hX))).out Tryz.underlying130 rfl (by rw[HZ.out];rfl)) ?_
  simp only[Act.put,StT,StZ,StS,Nat.reduceAdd];refine Zi (.agg #[Value.string ⟨xb.id.toArray⟩,Value.string ⟨xb.ins.toArray⟩,Value.int .i64 xb.acq,Value.int .i64 xb.opn,Value.string ⟨xb.q.toArray⟩,Value.string ⟨xb.cost.toArray⟩,Value.string ⟨xb.used.toArray⟩]) rfl (fun wz hw=>ZP 130 _ rfl b8 0 rfl (lcs xb) _ (Vf (K8.out.keepX hw (hn8 hX))).out Tryz.underlying130 rfl (by rw[HZ.out];rfl)) ?_
  simp only[Act.put,StT,StZ,StS,Nat.reduceAdd];refine ZO b4 0 #[.string ⟨#[]⟩,.string ⟨#[]⟩,.int .i64 0,.int .i64 0,.string ⟨#[]⟩,.string ⟨#[]⟩,.string ⟨#[]⟩] (lcs xa) 130 f1 (by simp[htch]) (fun j oj hj=>Zq (l:=[2]) (by kernel_rfl) j oj (by simpa [htch] using hj)) rfl (fun wz hw hc hf=>Zn 130 _ _ rfl b4 0 #[Value.string ⟨xa.id.toArray⟩,Value.string ⟨xa.ins.toArray⟩,Value.int .i64 xa.acq,Value.int .i64 xa.opn,Value.string ⟨xa.q.toArray⟩,Value.string ⟨xa.cost.toArray⟩,Value.string ⟨xa.used.toArray⟩] rfl rfl (V7 hc hf) (by rw[HZ.out];rfl) (Ur xa)) ?_
  simp only[Act.put,Nat.reduceAdd];refine ZO b5 0 #[.string ⟨#[]⟩,.string ⟨#[]⟩,.int .i64 0,.int .i64 0,.string ⟨#[]⟩,.string ⟨#[]⟩,.string ⟨#[]⟩] (lcs xb) 130 f2b (by simp[htch,Ne.symm hne]) (fun j oj hj=>Zq (l:=[3]) (by kernel_rfl) j oj (by simpa [htch,Ne.symm hne] using hj)) rfl (fun wz hw hc hf=>Zn 130 _ _ rfl b5 0 #[Value.string ⟨xb.id.toArray⟩,Value.string ⟨xb.ins.toArray⟩,Value.int .i64 xb.acq,Value.int .i64 xb.opn,Value.string ⟨xb.q.toArray⟩,Value.string ⟨xb.cost.toArray⟩,Value.string ⟨xb.used.toArray⟩] rfl rfl (V7 hc hf) (by rw[HZ.out];rfl) (Ur xb)) ?_
  simp only[Act.put,Nat.reduceAdd];refine Zi _ rfl (fun wz hw=>by go_simp;try with_reducible rfl) ?_
  simp only[Act.put,StT,StZ,StS,Nat.reduceAdd];refine ZY (fun wf hFf=>?_)
  have k4:Blk wf b4 #[Value.string ⟨xa.id.toArray⟩,Value.string ⟨xa.ins.toArray⟩,Value.int .i64 xa.acq,Value.int .i64 xa.opn,Value.string ⟨xa.q.toArray⟩,Value.string ⟨xa.cost.toArray⟩,Value.string ⟨xa.used.toArray⟩]:=⟨130,hFf.box b4 _ ((if_neg hne).trans (if_pos rfl))⟩;have k5:Blk wf b5 #[Value.string ⟨xb.id.toArray⟩,Value.string ⟨xb.ins.toArray⟩,Value.int .i64 xb.acq,Value.int .i64 xb.opn,Value.string ⟨xb.q.toArray⟩,Value.string ⟨xb.cost.toArray⟩,Value.string ⟨xb.used.toArray⟩]:=⟨130,hFf.box b5 _ (if_pos rfl)⟩;have hbf:=hFf.below.lower HB.out (fun k hk=>by rcases hX k hk with e|e<;>rw[e]<;>assumption)
  have c0:=k4.c 0;have d0:=k5.c 0;have c1:=k4.c 1;have d1:=k5.c 1;have c2:=k4.c 2;have d2:=k5.c 2;have c3:=k4.c 3;have d3:=k5.c 3;have c4:=k4.c 4;have d4:=k5.c 4;have c5:=k4.c 5;have d5:=k5.c 5;have c6:=k4.c 6;have d6:=k5.c 6;clear hFf f1 f2 f2b hX HFF htch k4 k5;go_wp2;refine bodyPost_ret (v:=.tuple #[(Value.agg #[Value.string ⟨xa.id.toArray⟩,Value.string ⟨xa.ins.toArray⟩,Value.int .i64 xa.acq,Value.int .i64 xa.opn,Value.string ⟨xa.q.toArray⟩,Value.string ⟨xa.cost.toArray⟩,Value.string ⟨xa.used.toArray⟩]),(Value.agg #[Value.string ⟨xb.id.toArray⟩,Value.string ⟨xb.ins.toArray⟩,Value.int .i64 xb.acq,Value.int .i64 xb.opn,Value.string ⟨xb.q.toArray⟩,Value.string ⟨xb.cost.toArray⟩,Value.string ⟨xb.used.toArray⟩]),.int .i64 0]) (by simp[results,Tryz.results215,go_sem,c0,c1,c2,c3,c4,c5,c6,d0,d1,d2,d3,d4,d5,d6]) rfl ?_
  exact⟨by rw[HXA.out,HXB.out],hbf⟩
 ·have e1:(x.used==[])=false:=by rw[Bn];exact hu
  have e2:x.used.isEmpty=false:=by rw[List.isEmpty_eq_false_iff];exact hu
  have H7:=H7b;have H8:=H8b;obtain⟨ha1,ha2⟩:=HA2.out hu;have HA:=Lh (And.intro ha1 ha2);clear hu HA1 HA2 H7b H8b ha1 ha2;go_wp2_with fail;rw[<-HW9.out];clear q6 r1 r2 r3 r4 e1 e2 HW9;have hne:=hne78;obtain⟨F,hF⟩:∃F:Fx,F=fun b=>if b=b7 then some (.cells #[.string ⟨x.id.toArray⟩,.string ⟨x.ins.toArray⟩,.int .i64 x.acq,.int .i64 x.opn,.string ⟨q.toArray⟩,.string ⟨sa.toArray⟩,.string ⟨x.used.toArray⟩] 130 (0,0)) else if b=b8 then some (.cells #[.string ⟨x.id.toArray⟩,.string ⟨x.ins.toArray⟩,.int .i64 x.acq,.int .i64 x.opn,.string ⟨d.toArray⟩,.string ⟨sb.toArray⟩,.string ⟨x.used.toArray⟩] 130 (0,0)) else none:=⟨_,rfl⟩
  have f1:F b7=some (.cells #[.string ⟨x.id.toArray⟩,.string ⟨x.ins.toArray⟩,.int .i64 x.acq,.int .i64 x.opn,.string ⟨q.toArray⟩,.string ⟨sa.toArray⟩,.string ⟨x.used.toArray⟩] 130 (0,0)):=by rw[hF];exact if_pos rfl
  have f2:F b8=some (.cells #[.string ⟨x.id.toArray⟩,.string ⟨x.ins.toArray⟩,.int .i64 x.acq,.int .i64 x.opn,.string ⟨d.toArray⟩,.string ⟨sb.toArray⟩,.string ⟨x.used.toArray⟩] 130 (0,0)):=by rw[hF];exact (if_neg (Ne.symm hne)).trans (if_pos rfl)
  have hX:∀b,F b≠none->b=b7∨b=b8:=fun b hb=>by
   rw[hF] at hb;dsimp only at hb
   by_cases h1:b=b7
   ·exact .inl h1
   ·by_cases h2:b=b8
    ·exact .inr h2
    ·rw[if_neg h1,if_neg h2] at hb;exact absurd rfl hb
  have HFF:Hid (∀b ob,F b=some ob->W9.heap[b]?=some ob):=fun b ob h=>by
   rw[hF] at h;dsimp only at h
   by_cases h1:b=b7
   ·rw[if_pos h1] at h;rw[h1,<-h];exact H7.out
   ·rw[if_neg h1] at h
    by_cases h2:b=b8
    ·rw[if_pos h2] at h;rw[h2,<-h];exact H8.out
    ·rw[if_neg h2] at h;cases h
  obtain⟨tch,htch⟩:∃tch:Nat->List Nat,tch=fun b=>if b=b7 then [1,5] else if b=b8 then [3,7] else []:=⟨_,rfl⟩
  clear hF;have f2b:(fun kb=>if kb=b7 then some (Obj.cells (Array.setIfInBounds (#[.string ⟨x.id.toArray⟩,.string ⟨x.ins.toArray⟩,.int .i64 x.acq,.int .i64 x.opn,.string ⟨q.toArray⟩,.string ⟨sa.toArray⟩,.string ⟨x.used.toArray⟩]) 6 (.string ⟨q.toArray⟩)) 130 (0,0)) else F kb) b8=some (.cells #[.string ⟨x.id.toArray⟩,.string ⟨x.ins.toArray⟩,.int .i64 x.acq,.int .i64 x.opn,.string ⟨d.toArray⟩,.string ⟨sb.toArray⟩,.string ⟨x.used.toArray⟩] 130 (0,0)):=(if_neg (Ne.symm hne)).trans f2
  refine Zw tch F (by kernel_rfl) (by kernel_rfl) (by kernel_rfl) HFF.out ?_
  refine Zi _ rfl (fun wz hw=>by go_simp;try with_reducible rfl) ?_
  simp only[Act.put,StT,StZ,StS,Nat.reduceAdd];refine Yp b7 #[.string ⟨x.id.toArray⟩,.string ⟨x.ins.toArray⟩,.int .i64 x.acq,.int .i64 x.opn,.string ⟨q.toArray⟩,.string ⟨sa.toArray⟩,.string ⟨x.used.toArray⟩] 130 (.string ⟨q.toArray⟩) f1 (by simp[htch]) rfl (fun wz hw hc=>by have q0:wz.cell? ⟨b7,4,none⟩=some (.string ⟨q.toArray⟩):=hc 4;clear hc;go_simp;try with_reducible rfl) ?_
  simp only[Act.put,StT,StZ,StS,Nat.reduceAdd];refine Zi _ rfl (fun wz hw=>by go_simp;try with_reducible rfl) ?_
  simp only[Act.put,StT,StZ,StS,Nat.reduceAdd];refine Yp b8 #[.string ⟨x.id.toArray⟩,.string ⟨x.ins.toArray⟩,.int .i64 x.acq,.int .i64 x.opn,.string ⟨d.toArray⟩,.string ⟨sb.toArray⟩,.string ⟨x.used.toArray⟩] 130 (.string ⟨d.toArray⟩) f2 (by simp[htch,Ne.symm hne]) rfl (fun wz hw hc=>by have q0:wz.cell? ⟨b8,4,none⟩=some (.string ⟨d.toArray⟩):=hc 4;clear hc;go_simp;try with_reducible rfl) ?_
  simp only[Act.put,StT,StZ,StS,Nat.reduceAdd];refine Zi _ rfl (fun wz hw=>by go_simp;try with_reducible rfl) ?_
  simp only[Act.put,StT,StZ,StS,Nat.reduceAdd];refine Xv b7 6 #[.string ⟨x.id.toArray⟩,.string ⟨x.ins.toArray⟩,.int .i64 x.acq,.int .i64 x.opn,.string ⟨q.toArray⟩,.string ⟨sa.toArray⟩,.string ⟨x.used.toArray⟩] (.string ⟨q.toArray⟩) 130 f1 (by simp[htch]) (fun j oj hj=>Zq (l:=[1,5]) (by kernel_rfl) j oj (by simpa [htch] using hj)) rfl (fun wz hw hc hf=>by have q0:wz.cell? ⟨b7,6,none⟩=some (.string ⟨x.used.toArray⟩):=hc 6;have q1:=hf 6;clear hc hf;go_simp;try with_reducible rfl) ?_
  simp only[Act.put,Nat.reduceAdd];refine Zi _ rfl (fun wz hw=>by go_simp;try with_reducible rfl) ?_
  simp only[Act.put,StT,StZ,StS,Nat.reduceAdd];refine Xv b8 6 #[.string ⟨x.id.toArray⟩,.string ⟨x.ins.toArray⟩,.int .i64 x.acq,.int .i64 x.opn,.string ⟨d.toArray⟩,.string ⟨sb.toArray⟩,.string ⟨x.used.toArray⟩] (.string ⟨d.toArray⟩) 130 f2b (by simp[htch,Ne.symm hne]) (fun j oj hj=>Zq (l:=[3,7]) (by kernel_rfl) j oj (by simpa [htch,Ne.symm hne] using hj)) rfl (fun wz hw hc hf=>by have q0:wz.cell? ⟨b8,6,none⟩=some (.string ⟨x.used.toArray⟩):=hc 6;have q1:=hf 6;clear hc hf;go_simp;try with_reducible rfl) ?_
  simp only[Act.put,Nat.reduceAdd];refine ZY (fun w9 hF9=>?_)
  have K7:Hid (Blk w9 b7 #[Value.string ⟨xa.id.toArray⟩,Value.string ⟨xa.ins.toArray⟩,Value.int .i64 xa.acq,Value.int .i64 xa.opn,Value.string ⟨xa.q.toArray⟩,Value.string ⟨xa.cost.toArray⟩,Value.string ⟨xa.used.toArray⟩]):=by rw[HA.out.1];exact⟨130,hF9.box b7 _ ((if_neg hne).trans (if_pos rfl))⟩
  have K8:Hid (Blk w9 b8 #[Value.string ⟨xb.id.toArray⟩,Value.string ⟨xb.ins.toArray⟩,Value.int .i64 xb.acq,Value.int .i64 xb.opn,Value.string ⟨xb.q.toArray⟩,Value.string ⟨xb.cost.toArray⟩,Value.string ⟨xb.used.toArray⟩]):=by rw[HA.out.2];exact⟨130,hF9.box b8 _ (if_pos rfl)⟩
  have H4:Hid (w9.heap[b4]?=some (.cells #[.string ⟨#[]⟩,.string ⟨#[]⟩,.int .i64 0,.int .i64 0,.string ⟨#[]⟩,.string ⟨#[]⟩,.string ⟨#[]⟩] 130 (0,0))):=(hF9.below.block _ (Ag.1 H4b.out).1 (fun hc=>by rcases hX _ hc with e|e<;>omega)).trans H4b.out
  have H5:Hid (w9.heap[b5]?=some (.cells #[.string ⟨#[]⟩,.string ⟨#[]⟩,.int .i64 0,.int .i64 0,.string ⟨#[]⟩,.string ⟨#[]⟩,.string ⟨#[]⟩] 130 (0,0))):=(hF9.below.block _ (Ag.1 H5b.out).1 (fun hc=>by rcases hX _ hc with e|e<;>omega)).trans H5b.out
  have HB9:=Lh (hF9.below.lower HB.out (fun k hk=>by rcases hX k hk with e|e<;>rw[e]<;>assumption))
  clear hF9 f1 f2 f2b hX HFF htch H7 H8 H4b H5b HA HB hne;go_wp2_with fail;have hne:=hne45;obtain⟨F,hF⟩:∃F:Fx,F=fun b=>if b=b4 then some (.cells #[.string ⟨#[]⟩,.string ⟨#[]⟩,.int .i64 0,.int .i64 0,.string ⟨#[]⟩,.string ⟨#[]⟩,.string ⟨#[]⟩] 130 (0,0)) else if b=b5 then some (.cells #[.string ⟨#[]⟩,.string ⟨#[]⟩,.int .i64 0,.int .i64 0,.string ⟨#[]⟩,.string ⟨#[]⟩,.string ⟨#[]⟩] 130 (0,0)) else none:=⟨_,rfl⟩
  have f1:F b4=some (.cells #[.string ⟨#[]⟩,.string ⟨#[]⟩,.int .i64 0,.int .i64 0,.string ⟨#[]⟩,.string ⟨#[]⟩,.string ⟨#[]⟩] 130 (0,0)):=by rw[hF];exact if_pos rfl
  have f2:F b5=some (.cells #[.string ⟨#[]⟩,.string ⟨#[]⟩,.int .i64 0,.int .i64 0,.string ⟨#[]⟩,.string ⟨#[]⟩,.string ⟨#[]⟩] 130 (0,0)):=by rw[hF];exact (if_neg (Ne.symm hne)).trans (if_pos rfl)
  have hX:∀b,F b≠none->b=b4∨b=b5:=fun b hb=>by
   rw[hF] at hb;dsimp only at hb
   by_cases h1:b=b4
   ·exact .inl h1
   ·by_cases h2:b=b5
    ·exact .inr h2
    ·rw[if_neg h1,if_neg h2] at hb;exact absurd rfl hb
  have HFF:Hid (∀b ob,F b=some ob->w9.heap[b]?=some ob):=fun b ob h=>by
   rw[hF] at h;dsimp only at h
   by_cases h1:b=b4
   ·rw[if_pos h1] at h;rw[h1,<-h];exact H4.out
   ·rw[if_neg h1] at h
    by_cases h2:b=b5
    ·rw[if_pos h2] at h;rw[h2,<-h];exact H5.out
    ·rw[if_neg h2] at h;cases h
  obtain⟨tch,htch⟩:∃tch:Nat->List Nat,tch=fun b=>if b=b4 then [2] else if b=b5 then [3] else []:=⟨_,rfl⟩
  clear hF;have f2b:(fun kb=>if kb=b4 then some (Obj.cells (YR #[.string ⟨#[]⟩,.string ⟨#[]⟩,.int .i64 0,.int .i64 0,.string ⟨#[]⟩,.string ⟨#[]⟩,.string ⟨#[]⟩] 0 (lcs xa)) 130 (0,0)) else F kb) b5=some (.cells #[.string ⟨#[]⟩,.string ⟨#[]⟩,.int .i64 0,.int .i64 0,.string ⟨#[]⟩,.string ⟨#[]⟩,.string ⟨#[]⟩] 130 (0,0)):=(if_neg (Ne.symm hne)).trans f2
  refine Zw tch F (by kernel_rfl) (by kernel_rfl) (by kernel_rfl) HFF.out ?_
  refine Zi (.agg #[Value.string ⟨xa.id.toArray⟩,Value.string ⟨xa.ins.toArray⟩,Value.int .i64 xa.acq,Value.int .i64 xa.opn,Value.string ⟨xa.q.toArray⟩,Value.string ⟨xa.cost.toArray⟩,Value.string ⟨xa.used.toArray⟩]) rfl (fun wz hw=>ZP 130 _ rfl b7 0 rfl (lcs xa) _ (Vf (K7.out.keepX hw (hn7 hX))).out Tryz.underlying130 rfl (by rw[HZ.out];rfl)) ?_
  simp only[Act.put,StT,StZ,StS,Nat.reduceAdd];refine Zi (.agg #[Value.string ⟨xb.id.toArray⟩,Value.string ⟨xb.ins.toArray⟩,Value.int .i64 xb.acq,Value.int .i64 xb.opn,Value.string ⟨xb.q.toArray⟩,Value.string ⟨xb.cost.toArray⟩,Value.string ⟨xb.used.toArray⟩]) rfl (fun wz hw=>ZP 130 _ rfl b8 0 rfl (lcs xb) _ (Vf (K8.out.keepX hw (hn8 hX))).out Tryz.underlying130 rfl (by rw[HZ.out];rfl)) ?_
  simp only[Act.put,StT,StZ,StS,Nat.reduceAdd];refine ZO b4 0 #[.string ⟨#[]⟩,.string ⟨#[]⟩,.int .i64 0,.int .i64 0,.string ⟨#[]⟩,.string ⟨#[]⟩,.string ⟨#[]⟩] (lcs xa) 130 f1 (by simp[htch]) (fun j oj hj=>Zq (l:=[2]) (by kernel_rfl) j oj (by simpa [htch] using hj)) rfl (fun wz hw hc hf=>Zn 130 _ _ rfl b4 0 #[Value.string ⟨xa.id.toArray⟩,Value.string ⟨xa.ins.toArray⟩,Value.int .i64 xa.acq,Value.int .i64 xa.opn,Value.string ⟨xa.q.toArray⟩,Value.string ⟨xa.cost.toArray⟩,Value.string ⟨xa.used.toArray⟩] rfl rfl (V7 hc hf) (by rw[HZ.out];rfl) (Ur xa)) ?_
  simp only[Act.put,Nat.reduceAdd];refine ZO b5 0 #[.string ⟨#[]⟩,.string ⟨#[]⟩,.int .i64 0,.int .i64 0,.string ⟨#[]⟩,.string ⟨#[]⟩,.string ⟨#[]⟩] (lcs xb) 130 f2b (by simp[htch,Ne.symm hne]) (fun j oj hj=>Zq (l:=[3]) (by kernel_rfl) j oj (by simpa [htch,Ne.symm hne] using hj)) rfl (fun wz hw hc hf=>Zn 130 _ _ rfl b5 0 #[Value.string ⟨xb.id.toArray⟩,Value.string ⟨xb.ins.toArray⟩,Value.int .i64 xb.acq,Value.int .i64 xb.opn,Value.string ⟨xb.q.toArray⟩,Value.string ⟨xb.cost.toArray⟩,Value.string ⟨xb.used.toArray⟩] rfl rfl (V7 hc hf) (by rw[HZ.out];rfl) (Ur xb)) ?_
  simp only[Act.put,Nat.reduceAdd];refine Zi _ rfl (fun wz hw=>by go_simp;try with_reducible rfl) ?_
  simp only[Act.put,StT,StZ,StS,Nat.reduceAdd];refine ZY (fun wf hFf=>?_)
  have k4:Blk wf b4 #[Value.string ⟨xa.id.toArray⟩,Value.string ⟨xa.ins.toArray⟩,Value.int .i64 xa.acq,Value.int .i64 xa.opn,Value.string ⟨xa.q.toArray⟩,Value.string ⟨xa.cost.toArray⟩,Value.string ⟨xa.used.toArray⟩]:=⟨130,hFf.box b4 _ ((if_neg hne).trans (if_pos rfl))⟩;have k5:Blk wf b5 #[Value.string ⟨xb.id.toArray⟩,Value.string ⟨xb.ins.toArray⟩,Value.int .i64 xb.acq,Value.int .i64 xb.opn,Value.string ⟨xb.q.toArray⟩,Value.string ⟨xb.cost.toArray⟩,Value.string ⟨xb.used.toArray⟩]:=⟨130,hFf.box b5 _ (if_pos rfl)⟩;have hbf:=hFf.below.lower HB9.out (fun k hk=>by rcases hX k hk with e|e<;>rw[e]<;>assumption)
  have c0:=k4.c 0;have d0:=k5.c 0;have c1:=k4.c 1;have d1:=k5.c 1;have c2:=k4.c 2;have d2:=k5.c 2;have c3:=k4.c 3;have d3:=k5.c 3;have c4:=k4.c 4;have d4:=k5.c 4;have c5:=k4.c 5;have d5:=k5.c 5;have c6:=k4.c 6;have d6:=k5.c 6;clear hFf f1 f2 f2b hX HFF htch k4 k5;go_wp2;refine bodyPost_ret (v:=.tuple #[(Value.agg #[Value.string ⟨xa.id.toArray⟩,Value.string ⟨xa.ins.toArray⟩,Value.int .i64 xa.acq,Value.int .i64 xa.opn,Value.string ⟨xa.q.toArray⟩,Value.string ⟨xa.cost.toArray⟩,Value.string ⟨xa.used.toArray⟩]),(Value.agg #[Value.string ⟨xb.id.toArray⟩,Value.string ⟨xb.ins.toArray⟩,Value.int .i64 xb.acq,Value.int .i64 xb.opn,Value.string ⟨xb.q.toArray⟩,Value.string ⟨xb.cost.toArray⟩,Value.string ⟨xb.used.toArray⟩]),.int .i64 0]) (by simp[results,Tryz.results215,go_sem,c0,c1,c2,c3,c4,c5,c6,d0,d1,d2,d3,d4,d5,d6]) rfl ?_
  exact⟨by rw[HXA.out,HXB.out],hbf⟩
end Go.Proofs.YtpieeldbamklkaaGreatDoor
