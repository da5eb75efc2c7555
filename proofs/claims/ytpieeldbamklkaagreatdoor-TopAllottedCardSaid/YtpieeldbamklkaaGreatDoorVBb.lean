/- Bb: intf intg gcda gcdb pow rat fraca fracb fracc fracd -/
import Derived.Test.YtpieeldbamklkaaGreatDoorVBdiv
import Derived.Test.YtpieeldbamklkaaGreatDoorVBint
import Derived.RangeFuncNested
import Derived.RangeFuncBound
import Derived.RangeFuncCalls
import Derived.RangeFuncLeaves
import Derived.Shelf.Abstract
import Derived.Shelf.RegionOpen
import Derived.WalkKit
import Derived.OwnWalkIn
import Derived.TacticsInMore
import Derived.LoopNIn
import Derived.LoopIn
set_option maxHeartbeats 4000000
set_option maxRecDepth 100000
open Go.Proofs.Tryz
namespace Go.Proofs.YtpieeldbamklkaaGreatDoor
open Go.RowKit Num
theorem Oy (l l':List UInt8) (w:World) (hl:l.length<=100000000) (hl':l'.length<=100000000) (hG:Yb w) (h0:val l'≠0) (hs:Z1 l=Z1 l'∨(val l).natAbs % (val l').natAbs=0) :
  Calls prog 137 #[.string ⟨l.toArray⟩,.string ⟨l'.toArray⟩] w (Jg w (Vb (val l) (val l')) (Un (val l) (val l'))):=by
 have hY:0<(val l').natAbs:=by omega
 have hq:Vb (val l) (val l')=sgn (Z1 l != Z1 l') ((val l).natAbs / (val l').natAbs)/\Un (val l) (val l')=sgn (Z1 l') ((val l).natAbs % (val l').natAbs):=by
  by_cases hsame:Z1 l=Z1 l'
  ·have:=Er (X:=(val l).natAbs) hsame hY
   rwa [Vd,Vd] at this
  ·have h1:(val l).natAbs % (val l').natAbs=0:=by rcases hs with h|h;exact absurd h hsame;exact h
   have:=GG (X:=(val l).natAbs) hsame hY h1
   rwa [Vd,Vd] at this
 rw[hq.1,hq.2];clear hq;obtain⟨nx,hnx⟩:∃b,Z1 l=b:=⟨_,rfl⟩
 obtain⟨ny,hny⟩:∃b,Z1 l'=b:=⟨_,rfl⟩
 rw[hnx,hny] at hs ⊢;have hlq:(grp ((val l).natAbs / (val l').natAbs)).length<=100000000:=Nt (ZD _ _ (Nat.div_le_self _ _)) (Nt (Wy l) hl);have hlr:(grp ((val l).natAbs % (val l').natAbs)).length<=100000000:=Nt (ZD _ _ (Nat.mod_le _ _)) (Nt (Wy l) hl);have hcond:(nx != ny)=true->(grp ((val l).natAbs % (val l').natAbs)).length=0:=by
  intro h1;rcases hs with h2|h2
  ·rw[h2] at h1;simp at h1
  ·rw[h2];rfl
 obtain⟨rl,hrl⟩:∃rl,rl=(grp ((val l).natAbs % (val l').natAbs)).length:=⟨_,rfl⟩
 rw[<-hrl] at hcond hlr;have HRL:=Lh hrl;have HY:=Lh hY;obtain⟨nl,hnl⟩:∃nl,nl=(grp (val l').natAbs).length:=⟨_,rfl⟩
 have hnl1:((nl:Int)==0)=false:=by
  have:nl≠0:=by intro e;rw[e] at hnl;have:=(Wd _).1 (List.eq_nil_of_length_eq_zero hnl.symm);omega
  simp;omega
 have HNL:=Lh hnl;have HNX:=Lh hnx;have HNY:=Lh hny;have h4:(nx=ny)∨(nx=true/\ny=false/\rl=0)∨(nx=false/\ny=true/\rl=0):=by
  cases nx<;>cases ny<;>simp at hcond ⊢<;>exact hcond
 clear hrl hY hs hnl hnx hny hcond;go_enter func137,ntmps137;go_wp2_with fail
 refine (Ys l _ hl).mono ?_
 rintro e w1 ⟨A,n,c,rfl,hn,ho1,hb1⟩;rw[HNX.out];go_wp2_with fail
 refine (Ys l' _ hl').mono ?_
 rintro e w2 ⟨A',n',c',rfl,hn',ho2,hb2⟩;rw[HNY.out];obtain rfl:nl=n':=by have:=ZG ho2;rw[<-HNL.out] at this;exact this
 go_wp2_with fail;have hbx:=bto (Zh w2 (.cells #[.bool nx,.slice A n c] 122)) (Zh _ (.cells #[.bool ny,.slice A' nl c'] 122));obtain⟨W,hW⟩:∃W,W=(w2.alloc (.cells #[.bool nx,.slice A n c] 122)).alloc (.cells #[.bool ny,.slice A' nl c'] 122):=⟨_,rfl⟩
 obtain⟨b0,hb0⟩:∃b,b=w2.heap.size:=⟨_,rfl⟩
 obtain⟨b1,hb1'⟩:∃b,b=w2.heap.size+1:=⟨_,rfl⟩
 have k0:W.cell? ⟨b0,0,none⟩=some (.bool nx):=by rw[hW,hb0];simp[go_sem]
 have k2:W.cell? ⟨b1,0,none⟩=some (.bool ny):=by rw[hW,hb1'];simp[go_sem]
 have l1:b1<W.heap.size:=by rw[hW,hb1'];simp
 have l0:b0<W.heap.size:=by omega
 rw[<-hW] at hbx;rw[<-hW,<-hb1',<-hb0];have hbW:Below w.heap.size w W:=bto hb1 (bto hb2 hbx);have HO1:=Lh (own_below ho1 (bto hb2 hbx));have HO2:=Lh (own_below ho2 hbx);clear hW ho1 ho2 hb0 hb1' hb1 hb2 hbx
 refine (TX A A' n c nl c' _ _ _ _ _ (by exact HO1.out) (by exact HO2.out) (Nat.ne_of_gt HY.out) hn).mono ?_
 rintro e w3 ⟨vq,vr,rfl,hmq,hmr,hb3⟩;obtain⟨Aq,cq,rfl⟩:=hmq.form;obtain⟨Ar,cr,rfl⟩:=hmr.form;rw[<-HRL.out];have k0:w3.cell? ⟨b0,0,none⟩=some (.bool nx):=(hb3.cell (p:=⟨b0,0,none⟩) l0).trans k0;have k2:w3.cell? ⟨b1,0,none⟩=some (.bool ny):=(hb3.cell (p:=⟨b1,0,none⟩) l1).trans k2;have l0:b0<w3.heap.size:=Nat.lt_of_lt_of_le l0 hb3.size;have l1:b1<w3.heap.size:=Nat.lt_of_lt_of_le l1 hb3.size;have hbW:=bto hbW hb3;have HG3:=Lh (hG.below hbW);clear hG;have HMQ:=Lh (show w3.ownsRow 0 207 1 (.slice Aq _ cq) _ (U (grp ((val l).natAbs / (val l').natAbs))) from hmq)
 have HMR:=Lh (show w3.ownsRow 0 207 1 (.slice Ar rl cr) rl (U (grp ((val l).natAbs % (val l').natAbs))) from by rw[HRL.out];exact hmr)
 have HLQ:=Lh hlq;have HLR:=Lh hlr;have hbc:=bdr w3;have q0:=(hbc.cell (p:=⟨b0,0,none⟩) l0).trans k0;have q2:=(hbc.cell (p:=⟨b1,0,none⟩) l1).trans k2;clear hlq hlr;clear hmq hmr;have HBW:=Lh hbW;clear hbW hn hn' hl hl';rcases h4 with rfl|⟨rfl,rfl,rfl⟩|⟨rfl,rfl,rfl⟩
 ·have hnn:(nx != nx)=false:=by cases nx<;>rfl
  go_wp2_with fail
  go_region_held3 (fun w'=>w'.cell? ⟨b0,0,none⟩=some (.bool nx)/\w'.cell? ⟨b1,0,none⟩=some (.bool nx))
   (first
    | go_keep
    | (dsimp only;exact⟨q0,q2⟩))
   (first
    | (go_at_call 56;with_reducible refine (Yr _ Aq _ cq _ _ _ (by exact own_below HMQ.out hbc) (by exact HG3.out.below hbc) (Nt HLQ.out (by decide))).mono ?_;rintro e w4 ⟨rfl,hb4⟩;have hbc:=bto hbc hb4;have q0:=(hbc.cell (p:=⟨b0,0,none⟩) l0).trans k0;have q2:=(hbc.cell (p:=⟨b1,0,none⟩) l1).trans k2)
    | (go_at_call 56;with_reducible refine (Yr _ Ar _ cr _ _ _ (by exact own_below HMR.out hbc) (by exact HG3.out.below hbc) (Nt HLR.out (by decide))).mono ?_;rintro e w4 ⟨rfl,hb4⟩;have hbc:=bto hbc hb4;have q0:=(hbc.cell (p:=⟨b0,0,none⟩) l0).trans k0;have q2:=(hbc.cell (p:=⟨b1,0,none⟩) l1).trans k2))
  all_goals (
   go_wp2
   go_ret3
   exact⟨by rw[hnn];rfl,bto HBW.out hbc⟩)
 ·go_wp2_with fail
  go_region_held3 (fun w'=>w'.cell? ⟨b0,0,none⟩=some (.bool true)/\w'.cell? ⟨b1,0,none⟩=some (.bool false))
   (first
    | go_keep
    | (dsimp only;exact⟨q0,q2⟩))
   (first
    | (go_at_call 56;with_reducible refine (Yr _ Aq _ cq _ _ _ (by exact own_below HMQ.out hbc) (by exact HG3.out.below hbc) (Nt HLQ.out (by decide))).mono ?_;rintro e w4 ⟨rfl,hb4⟩;have hbc:=bto hbc hb4;have q0:=(hbc.cell (p:=⟨b0,0,none⟩) l0).trans k0;have q2:=(hbc.cell (p:=⟨b1,0,none⟩) l1).trans k2)
    | (go_at_call 56;with_reducible refine (Yr _ Ar _ cr _ _ _ (by exact own_below HMR.out hbc) (by exact HG3.out.below hbc) (Nt HLR.out (by decide))).mono ?_;rintro e w4 ⟨rfl,hb4⟩;have hbc:=bto hbc hb4;have q0:=(hbc.cell (p:=⟨b0,0,none⟩) l0).trans k0;have q2:=(hbc.cell (p:=⟨b1,0,none⟩) l1).trans k2))
  all_goals (
   go_wp2
   go_ret3
   exact⟨rfl,bto HBW.out hbc⟩)
 ·go_wp2_with fail
  go_region_held3 (fun w'=>w'.cell? ⟨b0,0,none⟩=some (.bool false)/\w'.cell? ⟨b1,0,none⟩=some (.bool true))
   (first
    | go_keep
    | (dsimp only;exact⟨q0,q2⟩))
   (first
    | (go_at_call 56;with_reducible refine (Yr _ Aq _ cq _ _ _ (by exact own_below HMQ.out hbc) (by exact HG3.out.below hbc) (Nt HLQ.out (by decide))).mono ?_;rintro e w4 ⟨rfl,hb4⟩;have hbc:=bto hbc hb4;have q0:=(hbc.cell (p:=⟨b0,0,none⟩) l0).trans k0;have q2:=(hbc.cell (p:=⟨b1,0,none⟩) l1).trans k2)
    | (go_at_call 56;with_reducible refine (Yr _ Ar _ cr _ _ _ (by exact own_below HMR.out hbc) (by exact HG3.out.below hbc) (Nt HLR.out (by decide))).mono ?_;rintro e w4 ⟨rfl,hb4⟩;have hbc:=bto hbc hb4;have q0:=(hbc.cell (p:=⟨b0,0,none⟩) l0).trans k0;have q2:=(hbc.cell (p:=⟨b1,0,none⟩) l1).trans k2))
  all_goals (
   go_wp2
   go_ret3
   exact⟨rfl,bto HBW.out hbc⟩)
theorem Zci (w:World):(w.alloc (.cells #[.int .u64 1] 207)).ownsRow 0 207 1 (.slice (some ⟨w.heap.size,0,none⟩) 1 1) 1 (U (grp 1)):=PP w 1
theorem GI (l l':List UInt8) (w:World) (hl:l.length<=100000000) (hl':l'.length<=100000000) (hG:Yb w) (h0:val l'≠0) (hs:Z1 l≠Z1 l') (hr:(val l).natAbs % (val l').natAbs≠0) :
  Calls prog 137 #[.string ⟨l.toArray⟩,.string ⟨l'.toArray⟩] w (Jg w (Vb (val l) (val l')) (Un (val l) (val l'))):=by
 have hY:0<(val l').natAbs:=by omega
 have hq:Vb (val l) (val l')=sgn (Z1 l != Z1 l') ((val l).natAbs / (val l').natAbs+1)/\Un (val l) (val l')=sgn (Z1 l') ((val l').natAbs-(val l).natAbs % (val l').natAbs):=by
  have:=GH (X:=(val l).natAbs) hs hY hr
  rwa [Vd,Vd] at this
 rw[hq.1,hq.2];clear hq;obtain⟨nx,hnx⟩:∃b,Z1 l=b:=⟨_,rfl⟩
 obtain⟨ny,hny⟩:∃b,Z1 l'=b:=⟨_,rfl⟩
 rw[hnx,hny] at hs ⊢;have hlq:(grp ((val l).natAbs / (val l').natAbs)).length<=100000000:=Nt (ZD _ _ (Nat.div_le_self _ _)) (Nt (Wy l) hl);have hlr:(grp ((val l).natAbs % (val l').natAbs)).length<=100000000:=Nt (ZD _ _ (Nat.mod_le _ _)) (Nt (Wy l) hl);have hlq1:(grp ((val l).natAbs / (val l').natAbs+1)).length<=100000002:=by
  have:=QZ ((val l).natAbs / (val l').natAbs) 1
  have h1:(grp 1).length=1:=by decide
  omega
 have hlr1:(grp ((val l').natAbs-(val l).natAbs % (val l').natAbs)).length<=100000000:=Nt (ZD _ _ (Nat.sub_le _ _)) (Nt (Wy l') hl');have hrle:(val l).natAbs % (val l').natAbs<=(val l').natAbs:=Nat.le_of_lt (Nat.mod_lt _ hY);obtain⟨rl,hrl⟩:∃rl,rl=(grp ((val l).natAbs % (val l').natAbs)).length:=⟨_,rfl⟩
 rw[<-hrl] at hlr;have hrl0:decide (0<rl)=true:=by
  have:rl≠0:=by intro e;rw[e] at hrl;have:=(Wd _).1 (List.eq_nil_of_length_eq_zero hrl.symm);omega
  simp;omega
 have HLQ1:=Lh hlq1;have HLR1:=Lh hlr1;have HRLE:=Lh hrle;have HRL:=Lh hrl;have HY:=Lh hY;obtain⟨nl,hnl⟩:∃nl,nl=(grp (val l').natAbs).length:=⟨_,rfl⟩
 have hnl1:((nl:Int)==0)=false:=by
  have:nl≠0:=by intro e;rw[e] at hnl;have:=(Wd _).1 (List.eq_nil_of_length_eq_zero hnl.symm);omega
  simp;omega
 have HNL:=Lh hnl;have HNX:=Lh hnx;have HNY:=Lh hny;have h4:(nx=true/\ny=false)∨(nx=false/\ny=true):=by
  cases nx<;>cases ny<;>simp at hs ⊢
 clear hrl hY hs hr hnl hnx hny hlq1 hlr1 hrle;go_enter func137,ntmps137;go_wp2_with fail
 refine (Ys l _ hl).mono ?_
 rintro e w1 ⟨A,n,c,rfl,hn,ho1,hb1⟩;rw[HNX.out];go_wp2_with fail
 refine (Ys l' _ hl').mono ?_
 rintro e w2 ⟨A',n',c',rfl,hn',ho2,hb2⟩;rw[HNY.out];obtain rfl:nl=n':=by have:=ZG ho2;rw[<-HNL.out] at this;exact this
 go_wp2_with fail;have hbx:=bto (Zh w2 (.cells #[.bool nx,.slice A n c] 122)) (Zh _ (.cells #[.bool ny,.slice A' nl c'] 122));obtain⟨W,hW⟩:∃W,W=(w2.alloc (.cells #[.bool nx,.slice A n c] 122)).alloc (.cells #[.bool ny,.slice A' nl c'] 122):=⟨_,rfl⟩
 obtain⟨b0,hb0⟩:∃b,b=w2.heap.size:=⟨_,rfl⟩
 obtain⟨b1,hb1'⟩:∃b,b=w2.heap.size+1:=⟨_,rfl⟩
 have k0:W.cell? ⟨b0,0,none⟩=some (.bool nx):=by rw[hW,hb0];simp[go_sem]
 have k2:W.cell? ⟨b1,0,none⟩=some (.bool ny):=by rw[hW,hb1'];simp[go_sem]
 have k3:W.cell? ⟨b1,1,none⟩=some (.slice A' nl c'):=by rw[hW,hb1'];simp[go_sem]
 have l1:b1<W.heap.size:=by rw[hW,hb1'];simp
 have l0:b0<W.heap.size:=by omega
 rw[<-hW] at hbx;rw[<-hW,<-hb1',<-hb0];have hbW:Below w.heap.size w W:=bto hb1 (bto hb2 hbx);have HO1:=Lh (own_below ho1 (bto hb2 hbx));have HO2:=Lh (own_below ho2 hbx);clear hW ho1 ho2 hb0 hb1' hb1 hb2 hbx
 refine (TX A A' n c nl c' _ _ _ _ _ (by exact HO1.out) (by exact HO2.out) (Nat.ne_of_gt HY.out) hn).mono ?_
 rintro e w3 ⟨vq,vr,rfl,hmq,hmr,hb3⟩;obtain⟨Aq,cq,rfl⟩:=hmq.form;obtain⟨Ar,cr,rfl⟩:=hmr.form;rw[<-HRL.out];have k0:w3.cell? ⟨b0,0,none⟩=some (.bool nx):=(hb3.cell (p:=⟨b0,0,none⟩) l0).trans k0;have k2:w3.cell? ⟨b1,0,none⟩=some (.bool ny):=(hb3.cell (p:=⟨b1,0,none⟩) l1).trans k2;have k3:w3.cell? ⟨b1,1,none⟩=some (.slice A' nl c'):=(hb3.cell (p:=⟨b1,1,none⟩) l1).trans k3;have HO2:=Lh (own_below HO2.out hb3);have l0:b0<w3.heap.size:=Nat.lt_of_lt_of_le l0 hb3.size;have l1:b1<w3.heap.size:=Nat.lt_of_lt_of_le l1 hb3.size;have hbW:=bto hbW hb3;have HG3:=Lh (hG.below hbW);clear hG;have HMQ:=Lh (show w3.ownsRow 0 207 1 (.slice Aq _ cq) _ (U (grp ((val l).natAbs / (val l').natAbs))) from hmq)
 have HMR:=Lh (show w3.ownsRow 0 207 1 (.slice Ar rl cr) rl (U (grp ((val l).natAbs % (val l').natAbs))) from by rw[HRL.out];exact hmr)
 have HLQ:=Lh hlq;have HLR:=Lh hlr;have hbc:=bdr w3;have q0:=(hbc.cell (p:=⟨b0,0,none⟩) l0).trans k0;have q2:=(hbc.cell (p:=⟨b1,0,none⟩) l1).trans k2;have q3:=(hbc.cell (p:=⟨b1,1,none⟩) l1).trans k3;clear hlq hlr;clear hmq hmr;have HBW:=Lh hbW;clear hbW hn hl hl';rcases h4 with ⟨rfl,rfl⟩|⟨rfl,rfl⟩
 ·go_wp2_with fail
  go_region_held3 (fun w'=>w'.cell? ⟨b0,0,none⟩=some (.bool true)/\w'.cell? ⟨b1,0,none⟩=some (.bool false)/\w'.cell? ⟨b1,1,none⟩=some (.slice A' nl c'))
   (first
    | go_keep
    | (dsimp only;exact⟨q0,q2,q3⟩))
   (first
    | (go_at_call 127;with_reducible refine (Vq A' Ar nl c' rl cr _ _ _ _ _ (by exact own_below HO2.out hbc) (by exact own_below HMR.out hbc) (by omega) HRLE.out).mono ?_;rintro e w5 ⟨v5,rfl,hm,hb5⟩;obtain⟨A5,c5,rfl⟩:=hm.form;have hbc:=bto hbc hb5;have hp:=hp.below hb5;have q0:=(hbc.cell (p:=⟨b0,0,none⟩) l0).trans k0;have q2:=(hbc.cell (p:=⟨b1,0,none⟩) l1).trans k2;have q3:=(hbc.cell (p:=⟨b1,1,none⟩) l1).trans k3)
    | (go_at_call 125;with_reducible refine (Oc Aq _ _ cq 1 1 _ 1 _ _ _ (by exact own_below HMQ.out (bto (Zh w3 (.cells #[.int .u64 1] 207)) (bdr _))) (by exact own_below (Zci w3) (bdr _)) (Nt HLQ.out (by decide)) (by decide)).mono ?_;rintro e w6 ⟨v6,rfl,hp,hb6⟩;obtain⟨A6,c6,rfl⟩:=hp.form;have hbc:=bto (bto (Zh w3 (.cells #[.int .u64 1] 207)) (bdr _)) hb6;have q0:=(hbc.cell (p:=⟨b0,0,none⟩) l0).trans k0;have q2:=(hbc.cell (p:=⟨b1,0,none⟩) l1).trans k2;have q3:=(hbc.cell (p:=⟨b1,1,none⟩) l1).trans k3))
  have hbc:=bto hbc (bdr _);have q0:=(hbc.cell (p:=⟨b0,0,none⟩) l0).trans k0;have q2:=(hbc.cell (p:=⟨b1,0,none⟩) l1).trans k2;have q3:=(hbc.cell (p:=⟨b1,1,none⟩) l1).trans k3;go_wp2_with fail
  go_region_held3 (fun w'=>w'.cell? ⟨b0,0,none⟩=some (.bool true)/\w'.cell? ⟨b1,0,none⟩=some (.bool false)/\w'.cell? ⟨b1,1,none⟩=some (.slice A' nl c'))
    (first
     | go_keep
     | (dsimp only;exact⟨q0,q2,q3⟩))
    (first
     | (go_at_call 56;have hzz:=Yr true A6 _ c6 _ _ _ (hp.below (bdr w5)) (HG3.out.below hbc) (Nt HLQ1.out (by decide));with_reducible refine hzz.mono ?_;rintro e w4 ⟨rfl,hb4⟩;have hbc:=bto hbc hb4;have q0:=(hbc.cell (p:=⟨b0,0,none⟩) l0).trans k0;have q2:=(hbc.cell (p:=⟨b1,0,none⟩) l1).trans k2;have q3:=(hbc.cell (p:=⟨b1,1,none⟩) l1).trans k3)
     | (go_at_call 56;have hzz:=Yr false A5 _ c5 _ _ _ (hm.below (bto (bdr w5) hb4)) (HG3.out.below hbc) (Nt HLR1.out (by decide));with_reducible refine hzz.mono ?_;rintro e w4 ⟨rfl,hb4⟩;have hbc:=bto hbc hb4;have q0:=(hbc.cell (p:=⟨b0,0,none⟩) l0).trans k0;have q2:=(hbc.cell (p:=⟨b1,0,none⟩) l1).trans k2;have q3:=(hbc.cell (p:=⟨b1,1,none⟩) l1).trans k3))
  go_wp2
  go_ret3
  exact⟨rfl,bto HBW.out hbc⟩
 ·go_wp2_with fail
  go_region_held3 (fun w'=>w'.cell? ⟨b0,0,none⟩=some (.bool false)/\w'.cell? ⟨b1,0,none⟩=some (.bool true)/\w'.cell? ⟨b1,1,none⟩=some (.slice A' nl c'))
   (first
    | go_keep
    | (dsimp only;exact⟨q0,q2,q3⟩))
   (first
    | (go_at_call 127;with_reducible refine (Vq A' Ar nl c' rl cr _ _ _ _ _ (by exact own_below HO2.out hbc) (by exact own_below HMR.out hbc) (by omega) HRLE.out).mono ?_;rintro e w5 ⟨v5,rfl,hm,hb5⟩;obtain⟨A5,c5,rfl⟩:=hm.form;have hbc:=bto hbc hb5;have hp:=hp.below hb5;have q0:=(hbc.cell (p:=⟨b0,0,none⟩) l0).trans k0;have q2:=(hbc.cell (p:=⟨b1,0,none⟩) l1).trans k2;have q3:=(hbc.cell (p:=⟨b1,1,none⟩) l1).trans k3)
    | (go_at_call 125;with_reducible refine (Oc Aq _ _ cq 1 1 _ 1 _ _ _ (by exact own_below HMQ.out (bto (Zh w3 (.cells #[.int .u64 1] 207)) (bdr _))) (by exact own_below (Zci w3) (bdr _)) (Nt HLQ.out (by decide)) (by decide)).mono ?_;rintro e w6 ⟨v6,rfl,hp,hb6⟩;obtain⟨A6,c6,rfl⟩:=hp.form;have hbc:=bto (bto (Zh w3 (.cells #[.int .u64 1] 207)) (bdr _)) hb6;have q0:=(hbc.cell (p:=⟨b0,0,none⟩) l0).trans k0;have q2:=(hbc.cell (p:=⟨b1,0,none⟩) l1).trans k2;have q3:=(hbc.cell (p:=⟨b1,1,none⟩) l1).trans k3))
  have hbc:=bto hbc (bdr _);have q0:=(hbc.cell (p:=⟨b0,0,none⟩) l0).trans k0;have q2:=(hbc.cell (p:=⟨b1,0,none⟩) l1).trans k2;have q3:=(hbc.cell (p:=⟨b1,1,none⟩) l1).trans k3;go_wp2_with fail
  go_region_held3 (fun w'=>w'.cell? ⟨b0,0,none⟩=some (.bool false)/\w'.cell? ⟨b1,0,none⟩=some (.bool true)/\w'.cell? ⟨b1,1,none⟩=some (.slice A' nl c'))
    (first
     | go_keep
     | (dsimp only;exact⟨q0,q2,q3⟩))
    (first
     | (go_at_call 56;have hzz:=Yr true A6 _ c6 _ _ _ (hp.below (bdr w5)) (HG3.out.below hbc) (Nt HLQ1.out (by decide));with_reducible refine hzz.mono ?_;rintro e w4 ⟨rfl,hb4⟩;have hbc:=bto hbc hb4;have q0:=(hbc.cell (p:=⟨b0,0,none⟩) l0).trans k0;have q2:=(hbc.cell (p:=⟨b1,0,none⟩) l1).trans k2;have q3:=(hbc.cell (p:=⟨b1,1,none⟩) l1).trans k3)
     | (go_at_call 56;have hzz:=Yr true A5 _ c5 _ _ _ (hm.below (bto (bdr w5) hb4)) (HG3.out.below hbc) (Nt HLR1.out (by decide));with_reducible refine hzz.mono ?_;rintro e w4 ⟨rfl,hb4⟩;have hbc:=bto hbc hb4;have q0:=(hbc.cell (p:=⟨b0,0,none⟩) l0).trans k0;have q2:=(hbc.cell (p:=⟨b1,0,none⟩) l1).trans k2;have q3:=(hbc.cell (p:=⟨b1,1,none⟩) l1).trans k3))
  go_wp2
  go_ret3
  exact⟨rfl,bto HBW.out hbc⟩
theorem UT (l l':List UInt8) (w:World) (hl:l.length<=100000000) (hl':l'.length<=100000000) (hG:Yb w) (h0:val l'≠0) :
  Calls prog 137 #[.string ⟨l.toArray⟩,.string ⟨l'.toArray⟩] w (Jg w (Vb (val l) (val l')) (Un (val l) (val l'))):=by
 by_cases hs:Z1 l=Z1 l'
 ·exact Oy l l' w hl hl' hG h0 (.inl hs)
 ·by_cases hr:(val l).natAbs % (val l').natAbs=0
  ·exact Oy l l' w hl hl' hG h0 (.inr hr)
  ·exact GI l l' w hl hl' hG h0 hs hr
open Go.Shelf
attribute [local go_sem] Oper.semAt_some
def Box (W:World) (b:Nat) (v:Value):Prop:=W.heap[b]?=some (.cells #[v] 120 (0,0))
theorem Box.cell {W:World} {b:Nat} {v:Value} (h:Box W b v):W.cell? ⟨b,0,none⟩=some v:=by unfold Box at h;simp[World.cell?,h]
theorem Box.frozen {W:World} {b:Nat} {v:Value} (h:Box W b v):W.frozen? ⟨b,0,none⟩=false:=by unfold Box at h;simp[World.frozen?,h]
theorem Box.lt {W:World} {b:Nat} {v:Value} (h:Box W b v):b<W.heap.size:=(Ag.1 h).1
theorem Box.set {W:World} {b:Nat} {v:Value} (h:Box W b v) (u:Value):Box (W.setCell ⟨b,0,none⟩ u) b u:=by
 unfold Box at *;obtain⟨hlt,hk⟩:=Ag.1 h;show (W.heap.modify b _)[b]?=_;rw[Array.getElem?_eq_getElem (by rw[Array.size_modify];exact hlt),Array.getElem_modify_self,hk]
 rfl
theorem Box.other {W W':World} {b:Nat} {v:Value} (h:Box W b v) (e:W'.heap[b]?=W.heap[b]?):Box W' b v:=e.trans h
theorem Box.far {W:World} {b b':Nat} {v:Value} (h:Box W b v) (e:b≠b') (u:Value):Box (W.setCell ⟨b',0,none⟩ u) b v:=h.other (Below.heap_setCell W ⟨b',0,none⟩ u b e)
theorem Box.below {W W':World} {b:Nat} {v:Value} (h:Box W b v) (k:Below W.heap.size W W'):Box W' b v:=h.other (k.block b h.lt)
theorem Oz {W W':World} {base n:Nat} {v:Value} {xs:List Value} (h:W.ownsRow base 207 1 v n xs)
  (hk:∀(k:Nat) (cur:Array Value),W.heap[k]?=some (Obj.cells cur 207 (0,0))->W'.heap[k]?=W.heap[k]?):W'.ownsRow base 207 1 v n xs:=by
 refine⟨h.1,?_⟩;rcases h.2 with h0|⟨g,cap,cur,hv,hb1,hh,hr⟩
 ·exact .inl h0
 ·exact .inr ⟨g,cap,cur,hv,hb1,(hk g cur hh).trans hh,hr⟩
theorem PQ {W:World} {base n b:Nat} {v z u:Value} {xs:List Value} (h:W.ownsRow base 207 1 v n xs) (hb:Box W b z):(W.setCell ⟨b,0,none⟩ u).ownsRow base 207 1 v n xs:=
 Oz h fun k cur hk=>Below.heap_setCell W ⟨b,0,none⟩ u k (fun e=>by
  subst e;unfold Box at hb;rw[hb] at hk;simp at hk)
def Has (W:World) (b m:Nat):Prop:=∃A n c,Box W b (.slice A n c)/\W.ownsRow 0 207 1 (.slice A n c) n (U (grp m))/\n<=100000000
theorem Zcj {l l':List Nat} (h:U l=U l'):l=l':=by
 unfold U at h;refine (List.map_inj_right (fun a b e=>?_)).1 h
 simp at e;exact Int.ofNat.inj e
theorem Av {W:World} {base base' n n':Nat} {v:Value} {xs ys:List Value} {e:TypeId} (h:W.ownsRow base e 1 v n xs) (h':W.ownsRow base' e 1 v n' ys):xs=ys:=by
 rcases h.2 with ⟨h0,h1⟩|⟨g,cap,cur,hv,hb1,hh,_,_,_,hr⟩
 ·rcases h'.2 with ⟨h0',h1'⟩|⟨g',cap',cur',hv',_⟩
  ·have:=h.1;have:=h'.1;subst h1 h1'
   rw[List.eq_nil_of_length_eq_zero (l:=xs) (by omega),List.eq_nil_of_length_eq_zero (l:=ys) (by omega)]
  ·rw[h0] at hv';simp at hv'
 ·rcases h'.2 with ⟨h0',h1'⟩|⟨g',cap',cur',hv',_,hh',_,_,_,hr'⟩
  ·rw[h0'] at hv;simp at hv
  ·rw[hv] at hv';simp at hv';obtain⟨rfl,rfl,rfl⟩:=hv';rw[hh] at hh';simp at hh';subst hh';rw[<-hr,<-hr']
theorem Has.uniq {W:World} {b m m':Nat} (h:Has W b m) (h':Has W b m'):m=m':=by
 obtain⟨A,n,c,hb,ho,_⟩:=h;obtain⟨A',n',c',hb',ho',_⟩:=h';unfold Box at hb hb';rw[hb] at hb';simp at hb';obtain⟨rfl,rfl,rfl⟩:=hb'
 have:=Zcj (Av ho ho')
 rw[<-YQ m,<-YQ m',this]
open Classical in
noncomputable def Ew (W:World) (b:Nat):Nat:=if h:∃m,Has W b m then Classical.choose h else 0
theorem Ll {W:World} {b m:Nat} (h:Has W b m):Ew W b=m:=by
 unfold Ew;rw[dif_pos ⟨m,h⟩];exact (Classical.choose_spec (⟨m,h⟩:∃m,Has W b m)).uniq h
def Wj (W:World) (l bo:Nat) (R R':Loop) (p:Value):World:=((W.putObj l (.loop R')).setCell ⟨bo,0,none⟩ p).putObj l (.loop R)
theorem XQ {W:World} {l bo k:Nat} {R R':Loop} {p:Value} (h1:k≠l) (h2:k≠bo):(Wj W l bo R R' p).heap[k]?=W.heap[k]?:=by
 unfold Wj;rw[World.putObj_heap_other h1,Below.heap_setCell _ _ _ _ (by exact h2),World.putObj_heap_other h1]
theorem Ln {W:World} {l bo:Nat} {R R':Loop} {p:Value}:(Wj W l bo R R' p).heap.size=W.heap.size:=by
 simp[Wj]
theorem OA {W:World} {l bo base n:Nat} {R R':Loop} {p v z:Value} {xs:List Value} (h:W.ownsRow base 207 1 v n xs) (hb:Box W bo z) (hl:W.heap[l]?=some (.loop R)):(Wj W l bo R R' p).ownsRow base 207 1 v n xs:=
 Oz h fun k cur hk=>XQ (fun e=>by subst e;rw[hl] at hk;simp at hk) (fun e=>by subst e;unfold Box at hb;rw[hb] at hk;simp at hk)
theorem Lo {W:World} {l bo:Nat} {R R':Loop} {p:Value} (hl:W.heap[l]?=some (.loop R)):(Wj W l bo R R' p).heap[l]?=some (.loop R):=by
 unfold Wj;exact World.putObj_heap_same (by simp;exact (Ag.1 hl).1)
theorem Jm {W:World} {l bo:Nat} {R R':Loop} {p z:Value} (hb:Box W bo z) (e:bo≠l):Box (Wj W l bo R R' p) bo p:=by
 have h1:Box (W.putObj l (.loop R')) bo z:=hb.other (World.putObj_heap_other e);have h2:=h1.set p;exact h2.other (World.putObj_heap_other e)
theorem Lp {w W:World} {l bo:Nat} {R R':Loop} {p:Value} (h:Below w.heap.size w W) (e4:w.heap.size<=l) (e1:w.heap.size<=bo):Below w.heap.size w (Wj W l bo R R' p):=
 h.trans ⟨rfl,rfl,rfl,by rw[Ln];exact Nl _,fun k hk=>XQ (by omega) (by omega)⟩
theorem GJ (m l bo bm bn D:Nat) (R R':Loop) (w W:World) (x y:Nat)
  (hY:∀(W:World) (A A':Option Addr) (n c n' c':Nat) (z:Value),W.heap[l]?=some (.loop R)->Box W bo z->YieldAt Fence.wide (m-1) prog l #[.slice A n c,.slice A' n' c'] W fun e W'=>e=.returned (.bool true)/\W'=Wj W l bo R R' (.slice A n c))
  (d1:bm≠bo) (d2:bn≠bo) (d3:bm≠l) (d4:bn≠l) (d5:bo≠l) (d6:bm≠bn) (d7:D≠l) (d8:D≠bo) (d9:D≠bm) (d10:D≠bn)
  (e1:w.heap.size<=bo) (e2:w.heap.size<=bm) (e3:w.heap.size<=bn) (e4:w.heap.size<=l)
  (hl:W.heap[l]?=some (.loop R)) (hD:W.heap[D]?=some (.deferred (some []))) (ho:∃z,Box W bo z) (hm:Has W bm x) (hn:Has W bn y) (hw:Below w.heap.size w W) :
  CallsIn Fence.wide m prog 307 #[.func (.yield l) #[] #[],.pointer (some ⟨bm,0,none⟩),.pointer (some ⟨bn,0,none⟩)] W fun e W'=>(∃v,e=.returned v)/\
   W'.heap[l]?=some (.loop R)/\W'.heap[D]?=some (.deferred (some []))/\Has W' bo (Nat.gcd x y)/\Below w.heap.size w W':=by
 refine callsIn_of_wp func307 rfl trivial ?_ rfl;simp only[ntmps307,List.size_toArray,List.length_cons,List.length_nil,Nat.reduceAdd,Nat.reduceSub,Array.replicate_succ,Array.replicate_zero,List.push_toArray,List.append_toArray,List.nil_append,List.cons_append]
 gi_wp2
 gi_loopw [4] (fun _ wr=>∃(x' y':Nat),Nat.gcd x' y'=Nat.gcd x y/\wr.heap[l]?=some (.loop R)/\wr.heap[D]?=some (.deferred (some []))/\(∃z,Box wr bo z)/\Has wr bm x'/\Has wr bn y'/\Below w.heap.size w wr)
  (fun _ wr=>Ew wr bn)
 case atStart=>exact⟨x,y,rfl,hl,hD,ho,hm,hn,hw⟩
 case round=>
  obtain⟨x',y',hg,hl,hD,⟨z,hz⟩,hm,hn,hw⟩:=hrel;have hny:=Ll hn;have hm':=hm;have hn':=hn;obtain⟨A,n,c,hbm,hom,hnm⟩:=hm;obtain⟨A',n',c',hbn,hon,hnn⟩:=hn;have c1:=hbm.cell;have c2:=hbn.cell;obtain⟨fn,tmps,assign,body,hy,hR⟩:=hY wr A A' n c n' c' z hl hz
  gi_wp2
  refine⟨fun h=>(by cases h),hR.mono ?_⟩
  rintro e W3 ⟨rfl,hW3⟩;have b0:=Jm (R:=R) (R':=R') (p:=.slice A n c) hz d5;have b1:=hbm.other (XQ (W:=wr) (R:=R) (R':=R') (p:=.slice A n c) d3 d1);have b2:=hbn.other (XQ (W:=wr) (R:=R) (R':=R') (p:=.slice A n c) d4 d2);have o1:=OA (R':=R') (p:=.slice A n c) hom hz hl;have o2:=OA (R':=R') (p:=.slice A n c) hon hz hl;have hl3:=Lo (bo:=bo) (R':=R') (p:=.slice A n c) hl;have hD3:=(XQ (W:=wr) (R:=R) (R':=R') (p:=.slice A n c) d7 d8).trans hD;have hw3:=Lp (R:=R) (R':=R') (p:=.slice A n c) hw e4 e1;rw[<-hW3] at b0 b1 b2 o1 o2 hl3 hD3 hw3;have c1:=b1.cell;have c2:=b2.cell;have f1:=b1.frozen;have f2:=b2.frozen;have HO1:=Lh o1;have HO2:=Lh o2;have HG:=Lh hg;have HL:=Lh (ZG hon);clear hW3 hR hy hY
  by_cases hy0:y'=0
  ·subst hy0;obtain rfl:n'=0:=by exact HL.out.symm.trans rfl
   gi_wp2
   go_end0
   refine⟨⟨_,rfl⟩,hl3,hD3,⟨A,n,c,b0,?_,hnm⟩,hw3⟩;rw[<-HG.out,Nat.gcd_zero_right];exact o1
  ·have hn0:decide (0<n')=true:=by
    have h1:=HL.out
    have:n'≠0:=by intro e;rw[e] at h1;exact hy0 ((Wd _).1 (List.eq_nil_of_length_eq_zero h1))
    simp;omega
   gi_wp2_with fail
   refine⟨trivial,fun h=>(by cases h),?_⟩
   refine (callsIn_wide.2 (TX A A' n c n' c' _ _ _ _ _ (by exact HO1.out) (by exact HO2.out) hy0 hnm)).mono ?_
   rintro e w4 ⟨vq,vr,rfl,hmq,hmr,hb4⟩;obtain⟨Aq,cq,rfl⟩:=hmq.form;obtain⟨Ar,cr,rfl⟩:=hmr.form;have b2:=b2.below hb4;have b1:=b1.below hb4;have b0:=b0.below hb4;have c1:=b1.cell;have c2:=b2.cell;have f1:=b1.frozen;have f2:=b2.frozen
   gi_wp2
   have hn4:(grp (x' % y')).length<=100000000:=by
    have h1:=ZD (x' % y') y' (Nat.le_of_lt (Nat.mod_lt _ (Nat.pos_of_ne_zero hy0)))
    have:=HL.out;omega
   have hl4:=(hb4.block l (Ag.1 hl3).1).trans hl3;have hD4:=(hb4.block D (Ag.1 hD3).1).trans hD3;have hw4:=hw3.trans (hb4.mono hw3.size);have hnew:Has ((w4.setCell ⟨bm,0,none⟩ (.slice A' n' c')).setCell ⟨bn,0,none⟩ (.slice Ar (grp (x' % y')).length cr)) bn (x' % y'):=⟨Ar,_,cr,(b2.far (Ne.symm d6) _).set _,PQ (PQ (YC hmr (Nat.zero_le _)) b1) (b2.far (Ne.symm d6) _),hn4⟩;go_roundw
   case rel=>
    refine⟨y',x' % y',?_,?_,?_,⟨_,(b0.far (Ne.symm d1) _).far (Ne.symm d2) _⟩,⟨A',n',c',(b1.set _).far d6 _,PQ (PQ (own_below HO2.out hb4) b1) (b2.far (Ne.symm d6) _),hnn⟩,hnew,?_⟩
    ·rw[<-HG.out,Nat.gcd_comm y',<-Nat.gcd_rec,Nat.gcd_comm]
    ·exact (Below.heap_setCell _ ⟨bn,0,none⟩ _ l (Ne.symm d4)).trans ((Below.heap_setCell _ ⟨bm,0,none⟩ _ l (Ne.symm d3)).trans hl4)
    ·exact (Below.heap_setCell _ ⟨bn,0,none⟩ _ D d10).trans ((Below.heap_setCell _ ⟨bm,0,none⟩ _ D d9).trans hD4)
    ·exact (hw4.setCell (p:=⟨bm,0,none⟩) e2 _).setCell (p:=⟨bn,0,none⟩) e3 _
   case measure=>rw[Ll hnew,hny];exact Nat.mod_lt _ (Nat.pos_of_ne_zero hy0)
end Go.Proofs.YtpieeldbamklkaaGreatDoor
namespace Go.Proofs.YtpieeldbamklkaaGreatDoor
open Go.RowKit Go.Shelf Num
attribute [local go_sem] Oper.semAt_some
theorem VA {n:Nat} {P:Program} {g:Operand} {ps:Array Tmp} {assign body:Code} {Q:Exit->Act->World->Prop} {a:Act} {w:World} {gf:Nat} {lb:Array Value}
  (hg:a.eval g=.func (.func gf) #[] lb) (eg:∀args w,(callFunc gf args).run P w=.ok (.enter gf args) w)
  (H:∀(fn:FuncId) (R:Loop),R={ state:=.ready,pending:=none,fn,tmps:=a.tmps,params:=ps,assign,body,defers:=w.heap.size }->
   CallsIn Fence.wide (n-1) P gf (#[.func (.yield (w.heap.size+1)) #[] #[]]++lb) ((w.alloc (.deferred (some []))).alloc (.loop R)) fun e W'=>
    (∃v,e=.returned v)/\W'.heap[w.heap.size+1]?=some (.loop R)/\Q .normal { a with defers:={ target:=.collected w.heap.size,args:=#[] }::a.defers } (W'.putObj (w.heap.size+1) (.loop { R with state:=.exhausted }))) :
  (Code.rangeFunc g ps assign body).wpIn Fence.wide n P Q a w:=by
 refine wpIn_rangeFunc ?_;intro fn _;obtain⟨R,hR⟩:∃R:Loop,R={ state:=.ready,pending:=none,fn,tmps:=a.tmps,params:=ps,assign,body,defers:=w.heap.size }:=⟨_,rfl⟩
 have HH:=H fn R hR;obtain⟨W1,hW1⟩:∃W1,W1=(w.alloc (.deferred (some []))).alloc (.loop R):=⟨_,rfl⟩
 rw[<-hW1] at HH
 refine⟨w.heap.size+1,[{ target:=.collected w.heap.size,args:=#[] }],W1,{ target:=.fn (.func gf) lb,args:=#[.func (.yield (w.heap.size+1)) #[] #[]] },W1,gf,
  #[.func (.yield (w.heap.size+1)) #[] #[]]++lb,W1,?_,?_,fun _ _=>trivial,?_,(fun h=>by cases h),?_⟩
 ·rw[hW1,hR];exact run_enterLoop_outer _ _ _ _ _
 ·simp only[resolve,hg];simp[go_sem]
 ·simp[invoke,go_sem,eg]
 ·refine HH.mono ?_;rintro e W' ⟨⟨v,rfl⟩,hl,hQ⟩;have he:=run_endLoop (P:=P) hl (by rw[hR];simp)
  have hp:R.pending=none:=by rw[hR]
  exact⟨none,_,he.trans (by rw[hp]),hQ⟩
theorem GK (A A':Option Addr) (n c n' c':Nat) (w:World) :
  Calls prog 268 #[.slice A n c,.slice A' n' c'] w fun e w'=>e=.returned (.func (.func 307) #[] #[.pointer (some ⟨w.heap.size,0,none⟩),.pointer (some ⟨w.heap.size+1,0,none⟩)])/\w'=(w.alloc (.cells #[.slice A n c] 120)).alloc (.cells #[.slice A' n' c'] 120):=by
 go_enter func268,ntmps268;go_wp2_with fail;go_ret;exact⟨rfl,rfl⟩
theorem IC (l l':List UInt8) (w:World) (hl:l.length<=100000000) (hl':l'.length<=100000000) (hG:Yb w) :
  Calls prog 207 #[.string ⟨l.toArray⟩,.string ⟨l'.toArray⟩] w fun e w'=>e=.returned (.string ⟨(canon (Int.gcd (val l) (val l'):Int)).toArray⟩)/\Below w.heap.size w w':=by
 have hfd:∀(b:Bool) (A:Option Addr) (n c:Nat) (w:World),(Instr.field 122 (.agg #[.bool b,.slice A n c]) 1).run prog w=.ok (.slice A n c) w:=fun _ _ _ _ _=>by kernel_rfl
 refine (callsIn_wide (n:=5)).1 ?_;refine callsIn_of_wp_marks func207 rfl trivial ?_ rfl;simp only[ntmps207,List.size_toArray,List.length_cons,List.length_nil,Nat.reduceAdd,Nat.reduceSub,Array.replicate_succ,Array.replicate_zero,List.push_toArray,List.append_toArray,List.nil_append,List.cons_append]
 gi_wp2_with (first
  | (refine⟨trivial,?_⟩;gi_at_call 55;(with_reducible refine (callsIn_wide.2 (Ys l _ hl)).mono ?_);rintro e w1 ⟨A,n,c,rfl,hn,ho1,hb1⟩)
  | (refine⟨trivial,?_⟩;gi_at_call 55;(with_reducible refine (callsIn_wide.2 (Ys l' _ hl')).mono ?_);rintro e w2 ⟨A',n',c',rfl,hn',ho2,hb2⟩)
  | (refine⟨trivial,?_⟩;gi_at_call 268;(with_reducible refine (callsIn_wide.2 (GK _ _ _ _ _ _ _)).mono ?_);rintro e w3 ⟨rfl,hw3⟩))
 refine VA (gf:=307) (lb:=#[.pointer (some ⟨w2.heap.size,0,none⟩),.pointer (some ⟨w2.heap.size+1,0,none⟩)]) rfl (enters_of func307 (by kernel_rfl) rfl) ?_
 intro fn R hR;obtain⟨W0,hW0⟩:∃W0,W0=(w2.alloc (.cells #[.slice A n c] 120)).alloc (.cells #[.slice A' n' c'] 120):=⟨_,rfl⟩
 have hsz:W0.heap.size=w2.heap.size+2:=by rw[hW0];simp
 have hbA:Below w2.heap.size w2 W0:=by rw[hW0];exact bto (Zh _ _) (Zh _ _)
 have x1:Box W0 w2.heap.size (.slice A n c):=by rw[hW0];unfold Box;exact (Below.heap_alloc _ _ _ (by simp)).trans (World.alloc_heap_new _ _)
 have x2:Box W0 (w2.heap.size+1) (.slice A' n' c'):=by
  rw[hW0];unfold Box
  have:=World.alloc_heap_new (w2.alloc (.cells #[.slice A n c] 120)) (.cells #[.slice A' n' c'] 120)
  rwa [World.size_alloc] at this
 rw[<-hW0] at hR ⊢;obtain⟨W1,hW1⟩:∃W1,W1=(W0.alloc (.deferred (some []))).alloc (.loop R):=⟨_,rfl⟩
 have hbB:Below W0.heap.size W0 W1:=by rw[hW1];exact bto (Zh _ _) (Zh _ _)
 have hD:W1.heap[W0.heap.size]?=some (.deferred (some [])):=by rw[hW1];exact (Below.heap_alloc _ _ _ (by simp)).trans (World.alloc_heap_new _ _)
 have hL:W1.heap[W0.heap.size+1]?=some (.loop R):=by
  rw[hW1]
  have:=World.alloc_heap_new (W0.alloc (.deferred (some []))) (.loop R)
  rwa [World.size_alloc] at this
 rw[<-hW1];have hbo:Box (w.alloc (.cells #[.slice none 0 0] 120)) w.heap.size (.slice none 0 0):=World.alloc_heap_new _ _;have hwb:w.heap.size+1<=w2.heap.size:=by have h1:=hb1.size;have h2:=hb2.size;simp at h1;omega
 have hb12:=bto hb1 (bto hb2 (bto hbA hbB));have hwW:=bto (Zh w (.cells #[.slice none 0 0] 120)) hb12;have hlo:w.heap.size≠W0.heap.size+1:=by omega
 have hY:∀(W:World) (A A':Option Addr) (n c n' c':Nat) (z:Value),W.heap[W0.heap.size+1]?=some (.loop R)->Box W w.heap.size z->YieldAt Fence.wide (4-1) prog (W0.heap.size+1) #[.slice A n c,.slice A' n' c'] W fun e W'=>e=.returned (.bool true)/\W'=Wj W (W0.heap.size+1) w.heap.size R { R with state:=.busy } (.slice A n c):=by
  clear hW0 hsz hbA x1 x2 hW1 hbB hD hL hb12 hwW hwb hb1 hb2 ho1 ho2;revert hlo;generalize W0.heap.size+1=lw;intro hlo W A2 A2' n2 c2 n2' c2' z hl hz;have hy:=run_yield (P:=prog) (args:=#[.slice A2 n2 c2,.slice A2' n2' c2']) hl (by rw[hR];rfl)
  refine⟨R.fn,_,R.assign,R.body,hy,roundIn_of_wpIn trivial ?_⟩;have hz2:Box (W.putObj lw (.loop { R with state:=.busy })) w.heap.size z:=hz.other (World.putObj_heap_other hlo)
  have hbr:=run_beginRound (P:=prog) hl (by rw[hR])
  have hl3:((W.putObj lw (.loop { R with state:=.busy })).setCell ⟨w.heap.size,0,none⟩ (.slice A2 n2 c2)).heap[lw]?=some (.loop { R with state:=.busy }):=(Below.heap_setCell _ ⟨w.heap.size,0,none⟩ _ _ (Ne.symm hlo)).trans (World.putObj_heap_same (Ag.1 hl).1)
  have her:=run_endRound (P:=prog) none hl3;have hfin:((W.putObj lw (.loop { R with state:=.busy })).setCell ⟨w.heap.size,0,none⟩ (.slice A2 n2 c2)).putObj lw (.loop { R with state:=.ready,pending:=none })=Wj W lw w.heap.size R { R with state:=.busy } (.slice A2 n2 c2):=by rw[hR];rfl
  obtain⟨fin,hfn⟩:∃fin,fin=Wj W lw w.heap.size R { R with state:=.busy } (.slice A2 n2 c2):=⟨_,rfl⟩
  have her:(Instr.endRound lw none).run prog ((W.putObj lw (.loop { R with state:=.busy })).setCell ⟨w.heap.size,0,none⟩ (.slice A2 n2 c2))=.ok (.bool true) fin:=by rw[hfn,<-hfin];exact her
  rw[<-hfn];obtain⟨Wb,hWb⟩:∃Wb,Wb=W.putObj lw (.loop { R with state:=.busy }):=⟨_,rfl⟩
  rw[<-hWb] at hz2 hbr her;have c1:=hz2.cell;have f1:=hz2.frozen;have HB:=Lh hbr;have HE:=Lh her;clear hWb hfn hfin hl3 hbr her hy hl hz hlo hz2 hG hl';rw[hR];clear hR
  gi_wp2
  refine⟨_,HB.out,?_⟩
  gi_wp2
  exact⟨_,_,HE.out,rfl,rfl⟩
 have key:=GJ (5-1) (W0.heap.size+1) w.heap.size w2.heap.size (w2.heap.size+1) W0.heap.size R { R with state:=.busy } w W1 (val l).natAbs (val l').natAbs hY (by omega) (by omega) (by omega) (by omega) (by omega) (by omega) (by omega) (by omega) (by omega) (by omega) (by omega) (by omega) (by omega) (by omega) hL hD ⟨_,hbo.below hb12⟩
  ⟨A,n,c,x1.below hbB,YC (own_below ho1 (bto hb2 (bto hbA hbB))) (Nat.zero_le _),hn⟩ ⟨A',n',c',x2.below hbB,YC (own_below ho2 (bto hbA hbB)) (Nat.zero_le _),hn'⟩ hwW
 refine key.mono ?_;rintro e W2 ⟨hv,hl2,hD2,⟨A3,n3,c3,b3,o3,hn3⟩,hw2⟩;refine⟨hv,hl2,?_⟩;have hDl:W0.heap.size≠W0.heap.size+1:=by omega
 have hwD:w.heap.size<=W0.heap.size:=by omega
 obtain⟨W3,hW3⟩:∃W3,W3=W2.putObj (W0.heap.size+1) (.loop { R with state:=.exhausted }):=⟨_,rfl⟩
 have hD3:W3.heap[W0.heap.size]?=some (.deferred (some [])):=by rw[hW3];exact (World.putObj_heap_other hDl).trans hD2
 have b3':Box W3 w.heap.size (.slice A3 n3 c3):=by rw[hW3];exact b3.other (World.putObj_heap_other hlo)
 have o3':W3.ownsRow 0 207 1 (.slice A3 n3 c3) n3 (U (grp (Nat.gcd (val l).natAbs (val l').natAbs))):=by
  rw[hW3];exact Oz o3 fun k cur hk=>World.putObj_heap_other (fun e=>by subst e;rw[hl2] at hk;simp at hk)
 have hw3:Below w.heap.size w W3:=by
  rw[hW3];exact hw2.trans ⟨rfl,rfl,rfl,by simp,fun k hk=>World.putObj_heap_other (by omega)⟩
 rw[<-hW3];have HG3:=Lh (hG.below hw3);have HO3:=Lh o3';have HD3:=Lh hD3;have c3':=b3'.cell;have HWD:=Lh hwD;clear hW3 hR hY key hlo hDl hwD hl2 hD2 b3 o3 hw2 hW1 hbB hD hL hb12 hwW hwb hsz hbA x1 x2 hb1 hb2 ho1 ho2 hG o3' b3' hD3 hW0
 gi_wp2_with (refine⟨trivial,?_⟩;gi_at_call 56;refine (callsIn_wide.2 (Yr false A3 n3 c3 _ _ _ HO3.out HG3.out (Nt hn3 (by decide)))).mono ?_;rintro e w5 ⟨rfl,hb5⟩)
 have hD5:=(hb5.block W0.heap.size (Ag.1 HD3.out).1).trans HD3.out;refine⟨by simp,.inl ⟨_,_,rfl,run_takeDeferred hD5,?_⟩⟩
 refine⟨_,results_tmp rfl _ _ _,?_⟩;refine⟨rfl,(bto hw3 hb5).trans ⟨rfl,rfl,rfl,by simp,fun k hk=>World.putObj_heap_other (by have:=HWD.out;omega)⟩⟩
end Go.Proofs.YtpieeldbamklkaaGreatDoor
namespace Go.Proofs.YtpieeldbamklkaaGreatDoor
open Go.RowKit Num
def Mu (d:Int):Int:=if d=0 then 1 else d
theorem Ve (d:Int):Mu d≠0:=by unfold Mu;split<;>omega
def fv (l l':List UInt8):Rat:=Rat.divInt (val l) (Mu (val l'))
def fN (q:Rat):List UInt8:=canon q.num
def fD (q:Rat):List UInt8:=if q.den=1 then [] else canon (q.den:Int)
theorem UU (q:Rat):val (fN q)=q.num:=Zm _
theorem Aw (q:Rat):Mu (val (fD q))=(q.den:Int):=by
 unfold fD
 split
 ·next h=>rw[Mr,h];rfl
 ·have:=q.den_nz
  rw[Zm,Mu,if_neg (by omega)]
theorem Ax (q:Rat):fv (fN q) (fD q)=q:=by
 unfold fv;rw[UU,Aw,Rat.num_divInt_den]
theorem Ex (a b:Int) (hb:b≠0):Int.gcd a b≠0:=by
 rw[ne_eq,Int.gcd_eq_zero_iff];omega
theorem ID (a b:Int) (hb:0<b):Vb a (Int.gcd a b)=(Rat.divInt a b).num/\Vb b (Int.gcd a b)=((Rat.divInt a b).den:Int):=by
 have hg:=Ex a b (by omega)
 have hg':0<(Int.gcd a b:Int):=by omega
 rw[Rat.num_divInt,Rat.den_divInt,if_neg (by omega),Int.gcd_comm b a,Int.sign_eq_one_of_pos hb,Int.one_mul]
 unfold Vb;rw[if_pos hg',if_pos hg'];refine⟨rfl,?_⟩;rw[Int.natCast_ediv];congr 1;omega
theorem Ay (a b:Int) (hb:b<0):Vb (-a) (Int.gcd (-a) (-b))=(Rat.divInt a b).num/\Vb (-b) (Int.gcd (-a) (-b))=((Rat.divInt a b).den:Int):=by
 have:=ID (-a) (-b) (by omega)
 rwa [Rat.neg_divInt_neg] at this
theorem Ey (q:Rat):(canon (q.den:Int)=[49]↔q.den=1):=by
 constructor
 ·intro h;have h1:canon (1:Int)=[49]:=by decide
  have:=Nx (h.trans h1.symm)
  omega
 ·intro h;rw[h];decide
def Bd (k:Nat) (q:Rat):Prop:=q.num.natAbs<10 ^ k/\q.den<10 ^ k
theorem Vr {a b:Int} {k:Nat} (ha:a.natAbs<10 ^ k) (hb:b.natAbs<10 ^ k) (hk:b≠0):Bd k (Rat.divInt a b):=by
 constructor
 ·rw[Rat.num_divInt];refine Nat.lt_of_le_of_lt ?_ ha;refine Nt (Int.natAbs_ediv_le_natAbs _ _) ?_;rw[Int.natAbs_mul,Int.natAbs_sign_of_ne_zero hk,Nat.one_mul];exact Nl _
 ·rw[Rat.den_divInt,if_neg hk];exact Nat.lt_of_le_of_lt (Nat.div_le_self _ _) hb
theorem Az {j k:Nat} {q:Rat} (h:Bd j q) (hjk:j<=k):Bd k q:=
 ⟨Nat.lt_of_lt_of_le h.1 (Nat.pow_le_pow_right (by decide) hjk),Nat.lt_of_lt_of_le h.2 (Nat.pow_le_pow_right (by decide) hjk)⟩
theorem TY {k:Nat} {q:Rat} (h:Bd k q):(fN q).length<=k+1/\(fD q).length<=k+1:=by
 refine⟨Zu _ _ h.1,?_⟩;unfold fD;split
 ·simp
 ·exact Zu _ _ (by simpa using h.2)
theorem AA {l:List UInt8} {k:Nat} (h:l.length<=k) (hk:1<=k):(Mu (val l)).natAbs<10 ^ k:=by
 have h1:=TU l;have h2:10 ^ l.length<=10 ^ k:=Nat.pow_le_pow_right (by decide) h
 have h3:10 ^ 1<=10 ^ k:=Nat.pow_le_pow_right (by decide) hk
 unfold Mu;split
 ·simp at h3 ⊢;omega
 ·omega
theorem ZaZ {l l':List UInt8} {k:Nat} (h:l.length<=k) (h':l'.length<=k) (hk:1<=k):Bd k (fv l l'):=
 Vr (Zw h) (AA h' hk) (Ve _)
theorem XS {a b i j:Nat} (ha:a<10 ^ i) (hb:b<10 ^ j):a*b<10 ^ (i+j):=by
 rw[Nat.pow_add];exact Nat.mul_lt_mul'' ha hb
theorem Zbm {k:Nat} {q:Rat} (h:Bd k q):Bd k (-q):=by
 refine⟨?_,?_⟩
 ·rw[Rat.neg_num,Int.natAbs_neg];exact h.1
 ·rw[Rat.neg_den];exact h.2
theorem Lq (k:Nat):10 ^ k+10 ^ k<=10 ^ (k+1):=by rw[Nat.pow_succ];omega
theorem Zbn {i j:Nat} {p q:Rat} (h:Bd i p) (k:Bd j q):Bd (i+j+1) (p+q):=by
 rw[Rat.add_def',<-Rat.divInt_ofNat];have h1:=XS h.1 k.2;have h2:=XS k.1 h.2;have h3:=XS h.2 k.2;have h4:=Lq (i+j);rw[Nat.add_comm j i] at h2;refine Vr ?_ ?_ ?_
 ·have:=Int.natAbs_add_le (p.num*q.den) (q.num*p.den)
  rw[Int.natAbs_mul,Int.natAbs_mul,Int.natAbs_natCast,Int.natAbs_natCast] at this;omega
 ·rw[Int.natAbs_natCast];omega
 ·have:=Nat.mul_ne_zero p.den_nz q.den_nz;omega
theorem Zbo {i j:Nat} {p q:Rat} (h:Bd i p) (k:Bd j q):Bd (i+j+1) (p-q):=by
 rw[Rat.sub_eq_add_neg];exact Zbn h (Zbm k)
theorem Zbp {i j:Nat} {p q:Rat} (h:Bd i p) (k:Bd j q):Bd (i+j) (p*q):=by
 rw[Rat.mul_def',<-Rat.divInt_ofNat];refine Vr ?_ ?_ ?_
 ·rw[Int.natAbs_mul];exact XS h.1 k.1
 ·rw[Int.natAbs_natCast];exact XS h.2 k.2
 ·have:=Nat.mul_ne_zero p.den_nz q.den_nz;omega
theorem Ez {a:Int} {k:Nat} (h:a.natAbs<10 ^ k) (hk:1<=k):Bd k (a:Rat):=by
 refine⟨h,?_⟩
 have:10 ^ 1<=10 ^ k:=Nat.pow_le_pow_right (by decide) hk
 show 1<10 ^ k;omega
theorem cmp0 (d:Int):ZH d (val [])=if d<0 then -1 else if 0<d then 1 else 0:=by rw[Mr];rfl
theorem TF (a b:Int) (hb:b≠0) (k:Nat) (h:b.natAbs<10 ^ k):(canon (Int.gcd a b:Int)).length<=k+1:=
 Zu _ _ (by
  rw[Int.natAbs_natCast]
  exact Nat.lt_of_le_of_lt (Nat.le_of_dvd (by omega) (Int.gcd_dvd_natAbs_right a b)) h)
theorem Q1 (l l':List UInt8) (w:World) (hl:l.length<=1000000) (hl':l'.length<=1000000) (hG:Yb w) (h0:val l'≠0) :
  Calls prog 154 #[.string ⟨l.toArray⟩,.string ⟨l'.toArray⟩] w fun e w'=>e=.returned (.tuple #[.string ⟨(canon (Rat.divInt (val l) (val l')).num).toArray⟩,.string ⟨(canon ((Rat.divInt (val l) (val l')).den:Int)).toArray⟩])/\Below w.heap.size w w':=by
 have hv:=TU l';have hc:=cmp0 (val l')
 by_cases hneg:val l'<0
 ·have hr:=Ay (val l) (val l') hneg;have hg0:=Ex (-val l) (-val l') (by omega)
  have hgl:(canon (Int.gcd (-val l) (-val l'):Int)).length<=100000000:=Nt (TF _ _ (by omega) l'.length (by rw[Int.natAbs_neg];exact hv)) (by omega)
  have h1:(canon (-val l)).length<=100000000:=Nt (Zu _ l.length (by rw[Int.natAbs_neg];exact TU l)) (by omega)
  have h2:(canon (-val l')).length<=100000000:=Nt (Zu _ l'.length (by rw[Int.natAbs_neg];exact hv)) (by omega)
  rw[if_pos hneg] at hc;rw[<-hr.1,<-hr.2];obtain⟨g,hg⟩:∃g:Nat,g=Int.gcd (-val l) (-val l'):=⟨_,rfl⟩
  rw[<-hg] at hg0 hgl ⊢;have HGD:=Lh hg;clear hg;have HC:=Lh hc;have HG0:=Lh hg0;clear hr hc hg0 hneg hv h0;go_enter func154,ntmps154;go_wp2_with fail
  refine (YV l' [] _ (Nt hl' (by decide)) (by decide)).mono ?_
  rintro e w1 ⟨rfl,hb1⟩;rw[HC.out];go_wp2_with fail
  refine (Mt l _ (Nt hl (by decide)) (by exact hG.below hb1)).mono ?_
  rintro e w2 ⟨rfl,hb2⟩;have hb2:=bto hb1 hb2;go_wp2_with fail
  refine (Mt l' _ (Nt hl' (by decide)) (by exact hG.below hb2)).mono ?_
  rintro e w3 ⟨rfl,hb3⟩;have hb3:=bto hb2 hb3;go_wp2_with fail
  refine (IC _ _ _ h1 h2 (by exact hG.below hb3)).mono ?_
  rintro e w4 ⟨rfl,hb4⟩;have hb4:=bto hb3 hb4;rw[Zm,Zm,<-HGD.out];go_wp2_with fail
  refine (UT _ _ _ h1 hgl (by exact hG.below hb4) (by rw[Zm];have:=HG0.out;omega)).mono ?_
  rintro e w5 ⟨rfl,hb5⟩;have hb5:=bto hb4 hb5;rw[Zm,Zm];go_wp2_with fail
  refine (UT _ _ _ h2 hgl (by exact hG.below hb5) (by rw[Zm];have:=HG0.out;omega)).mono ?_
  rintro e w6 ⟨rfl,hb6⟩;have hb6:=bto hb5 hb6;rw[Zm,Zm];go_wp2;go_ret2;exact⟨rfl,hb6⟩
 ·have hp:0<val l':=by omega
  have hr:=ID (val l) (val l') hp;have hg0:=Ex (val l) (val l') (by omega)
  have hgl:(canon (Int.gcd (val l) (val l'):Int)).length<=100000000:=Nt (TF _ _ (by omega) l'.length hv) (by omega)
  rw[if_neg hneg,if_pos hp] at hc;rw[<-hr.1,<-hr.2];have HC:=Lh hc;have HG0:=Lh hg0;clear hr hc hg0 hneg hv h0 hp;go_enter func154,ntmps154;go_wp2_with fail
  refine (YV l' [] _ (Nt hl' (by decide)) (by decide)).mono ?_
  rintro e w1 ⟨rfl,hb1⟩;rw[HC.out];go_wp2_with fail
  refine (IC _ _ _ (Nt hl (by decide)) (Nt hl' (by decide)) (by exact hG.below hb1)).mono ?_
  rintro e w4 ⟨rfl,hb4⟩;have hb4:=bto hb1 hb4;go_wp2_with fail
  refine (UT _ _ _ (Nt hl (by decide)) hgl (by exact hG.below hb4) (by rw[Zm];have:=HG0.out;omega)).mono ?_
  rintro e w5 ⟨rfl,hb5⟩;have hb5:=bto hb4 hb5;rw[Zm];go_wp2_with fail
  refine (UT _ _ _ (Nt hl' (by decide)) hgl (by exact hG.below hb5) (by rw[Zm];have:=HG0.out;omega)).mono ?_
  rintro e w6 ⟨rfl,hb6⟩;have hb6:=bto hb5 hb6;rw[Zm];go_wp2;go_ret2;exact⟨rfl,hb6⟩
theorem UV (l l':List UInt8) (w:World) (hl:l.length<=1000000) (hl':l'.length<=1000000) (hG:Yb w) (h0:val l'≠0) :
  Calls prog 80 #[.string ⟨l.toArray⟩,.string ⟨l'.toArray⟩] w fun e w'=>e=.returned (Value.agg #[.string ⟨List.toArray (fN (Rat.divInt (val l) (val l')))⟩,.string ⟨List.toArray (fD (Rat.divInt (val l) (val l')))⟩])/\Below w.heap.size w w':=by
 have hr:∀w:World,Yb w->_:=fun w hG=>Q1 l l' w hl hl' hG h0
 have hd:=Ey (Rat.divInt (val l) (val l'));have hf:fD (Rat.divInt (val l) (val l'))=if (Rat.divInt (val l) (val l')).den=1 then [] else canon ((Rat.divInt (val l) (val l')).den:Int):=rfl
 have hfn:fN (Rat.divInt (val l) (val l'))=canon (Rat.divInt (val l) (val l')).num:=rfl;rw[hf,hfn];obtain⟨N,hN⟩:∃N,N=canon (Rat.divInt (val l) (val l')).num:=⟨_,rfl⟩
 obtain⟨D,hD⟩:∃D,D=canon ((Rat.divInt (val l) (val l')).den:Int):=⟨_,rfl⟩
 rw[<-hN,<-hD];simp only[<-hN,<-hD] at hr hd;have HR:=Lh hr;clear hr hf hfn hN hD h0
 by_cases h:(Rat.divInt (val l) (val l')).den=1
 ·rw[if_pos h];have hD1:=hd.2 h;subst hD1;clear hd h;go_enter func80,ntmps80;go_wp2_with fail
  refine (HR.out _ (by exact hG.below (Zh _ _))).mono ?_
  rintro e w1 ⟨rfl,hb1⟩;have hx:=(Xa.new w (.string ⟨#[]⟩) (.string ⟨#[]⟩) 34).below hb1;have c0:=hx.c0;have c1:=hx.c1;have f0:=hx.f0;have f1:=hx.f1;go_wp2_with fail;have hy:=hx.set (.string ⟨N.toArray⟩) (.string ⟨#[]⟩);have d0:=hy.c0;have d1:=hy.c1;refine bodyPost_ret (v:=.agg #[.string ⟨N.toArray⟩,.string ⟨#[]⟩]) (by simp[results,results80,go_sem,d0,d1]) rfl ?_
  exact⟨rfl,ZS (bto (Zh _ _) hb1) (Nl _) _ _⟩
 ·rw[if_neg h];have h1:(D==[49])=false:=by rw[Bn];exact fun e=>h (hd.1 e)
  clear hd h;go_enter func80,ntmps80;go_wp2_with fail
  refine (HR.out _ (by exact hG.below (Zh _ _))).mono ?_
  rintro e w1 ⟨rfl,hb1⟩;have hx:=(Xa.new w (.string ⟨#[]⟩) (.string ⟨#[]⟩) 34).below hb1;have c0:=hx.c0;have c1:=hx.c1;have f0:=hx.f0;have f1:=hx.f1;go_wp2_with fail;have hy:=hx.set (.string ⟨N.toArray⟩) (.string ⟨D.toArray⟩);have d0:=hy.c0;have d1:=hy.c1;refine bodyPost_ret (v:=.agg #[.string ⟨N.toArray⟩,.string ⟨D.toArray⟩]) (by simp[results,results80,go_sem,d0,d1]) rfl ?_
  exact⟨rfl,ZS (bto (Zh _ _) hb1) (Nl _) _ _⟩
def pd (l':List UInt8):List UInt8:=if val l'=0 then [49] else l'
theorem WP (l':List UInt8):val (pd l')=Mu (val l'):=by
 unfold pd Mu;split
 ·decide
 ·rfl
theorem Qq {l':List UInt8} {k:Nat} (h:l'.length<=k) (hk:1<=k):(pd l').length<=k:=by
 unfold pd;split
 ·exact hk
 ·exact h
theorem Xm (l l':List UInt8) (w:World) (hl':l'.length<=1000000) :
  Calls prog 69 #[(Value.agg #[.string ⟨l.toArray⟩,.string ⟨l'.toArray⟩])] w fun e w'=>e=.returned (.tuple #[.string ⟨l.toArray⟩,.string ⟨(pd l').toArray⟩])/\Below w.heap.size w w':=by
 have hc:=cmp0 (val l');unfold pd
 by_cases h:val l'=0
 ·rw[if_pos h];have hc:ZH (val l') (val [])=0:=by rw[hc];simp[h]
  have HC:=Lh hc;clear hc h;go_enter func69,ntmps69;go_wp2_with fail
  refine (YV l' [] _ (Nt hl' (by decide)) (by decide)).mono ?_
  rintro e w1 ⟨rfl,hb1⟩;rw[HC.out];have hx:=(Xa.new w (.string ⟨l.toArray⟩) (.string ⟨l'.toArray⟩) 34).below hb1;have c0:=hx.c0;have c1:=hx.c1;go_wp2_with fail;go_ret2;exact⟨rfl,bto (Zh _ _) hb1⟩
 ·rw[if_neg h];obtain⟨cz,hcz⟩:∃cz,cz=ZH (val l') (val []):=⟨_,rfl⟩
  have hc:(cz==0)=false:=by rw[hcz,hc];by_cases h1:val l'<0<;>simp[h1];omega
  have HC:=Lh hcz;clear hcz h;go_enter func69,ntmps69;go_wp2_with fail
  refine (YV l' [] _ (Nt hl' (by decide)) (by decide)).mono ?_
  rintro e w1 ⟨rfl,hb1⟩;rw[<-HC.out];have hx:=(Xa.new w (.string ⟨l.toArray⟩) (.string ⟨l'.toArray⟩) 34).below hb1;have c0:=hx.c0;have c1:=hx.c1;go_wp2_with fail
  go_region_held3 (fun w'=>w'.cell? ⟨w.heap.size,0,none⟩=some (.string ⟨l.toArray⟩)/\w'.cell? ⟨w.heap.size,1,none⟩=some (.string ⟨l'.toArray⟩))
   (first|go_keep|(dsimp only;exact⟨c0,c1⟩)) (fail)
  go_wp2;go_ret2;exact⟨rfl,bto (Zh _ _) (bto hb1 (bdr _))⟩
theorem AB (l l':List UInt8) (w:World) (hl:l.length<=1000000) (hl':l'.length<=1000000) (hG:Yb w) :
  Calls prog 80 #[.string ⟨l.toArray⟩,.string ⟨(pd l').toArray⟩] w fun e w'=>e=.returned (Value.agg #[.string ⟨List.toArray (fN (fv l l'))⟩,.string ⟨List.toArray (fD (fv l l'))⟩])/\Below w.heap.size w w':=by
 have:=UV l (pd l') w hl (Qq hl' (by decide)) hG (by rw[WP];exact Ve _)
 rw[WP] at this;exact this
theorem Jn (l l':List UInt8) (w:World) (hl:l.length<=1000000) (hl':l'.length<=1000000) (hG:Yb w) :
  Calls prog 154 #[.string ⟨l.toArray⟩,.string ⟨(pd l').toArray⟩] w fun e w'=>e=.returned (.tuple #[.string ⟨(fN (fv l l')).toArray⟩,.string ⟨(canon ((fv l l').den:Int)).toArray⟩])/\Below w.heap.size w w':=by
 have:=Q1 l (pd l') w hl (Qq hl' (by decide)) hG (by rw[WP];exact Ve _)
 rw[WP] at this;exact this
theorem GL (l l':List UInt8) (w:World) (hl:l.length<=1000000) (hl':l'.length<=1000000) (hG:Yb w) :
  Calls prog 136 #[(Value.agg #[.string ⟨l.toArray⟩,.string ⟨l'.toArray⟩])] w fun e w'=>e=.returned (.tuple #[.string ⟨(fN (fv l l')).toArray⟩,.string ⟨(canon ((fv l l').den:Int)).toArray⟩])/\Below w.heap.size w w':=by
 go_enter func136,ntmps136;go_wp2_with fail
 refine (Xm l l' _ hl').mono ?_
 rintro e w1 ⟨rfl,hb1⟩;have hb1:=bto (Zh _ _) hb1;go_wp2_with fail
 refine (Jn l l' _ hl hl' (by exact hG.below hb1)).mono ?_
 rintro e w2 ⟨rfl,hb2⟩;go_wp2;go_ret2;exact⟨rfl,bto hb1 hb2⟩
theorem AC (l l':List UInt8) (w:World) (hl:l.length<=1000000) (hl':l'.length<=1000000) (hG:Yb w) (h0:val l'≠0) :
  Calls prog 46 #[.string ⟨l.toArray⟩,.string ⟨l'.toArray⟩] w fun e w'=>e=.returned (.tuple #[(Value.agg #[.string ⟨List.toArray (fN (Rat.divInt (val l) (val l')))⟩,.string ⟨List.toArray (fD (Rat.divInt (val l) (val l')))⟩]),.int .i64 0])/\Below w.heap.size w w':=by
 have hm:∀w:World,Yb w->_:=fun w hG=>UV l l' w hl hl' hG h0
 have hc:=cmp0 (val l');obtain⟨cz,hcz⟩:∃cz,cz=ZH (val l') (val []):=⟨_,rfl⟩
 have hc:(cz==0)=false:=by rw[hcz,hc];by_cases h1:val l'<0<;>simp[h1];omega
 have HC:=Lh hcz;obtain⟨q,hq⟩:∃q,q=Rat.divInt (val l) (val l'):=⟨_,rfl⟩
 simp only[<-hq] at hm ⊢;clear hcz h0 hq;go_enter func46,ntmps46;go_wp2_with fail
 refine (YV l' [] _ (Nt hl' (by decide)) (by decide)).mono ?_
 rintro e w1 ⟨rfl,hb1⟩;rw[<-HC.out];have hx:=(Xa.new w (.string ⟨#[]⟩) (.string ⟨#[]⟩) 34).below hb1;have hb1:=bto (Zh _ _) hb1;go_wp2_with fail
 refine (hm _ (by exact hG.below hb1)).mono ?_
 rintro e w2 ⟨rfl,hb2⟩;have hx:=hx.below hb2;have hb2:=bto hb1 hb2;have c0:=hx.c0;have c1:=hx.c1;have f0:=hx.f0;have f1:=hx.f1;go_wp2_with fail;have hy:=hx.set (.string ⟨(fN q).toArray⟩) (.string ⟨(fD q).toArray⟩);have d0:=hy.c0;have d1:=hy.c1;refine bodyPost_ret (v:=.tuple #[(Value.agg #[.string ⟨List.toArray (fN q)⟩,.string ⟨List.toArray (fD q)⟩]),.int .i64 0]) (by simp[results,results46,go_sem,d0,d1]) rfl ?_
 exact⟨rfl,ZS hb2 (Nl _) _ _⟩
theorem Zbq (l:List UInt8):Rat.divInt (val l) (val [49])=(val l:Rat):=by
 have:val [49]=((1:Nat):Int):=by decide
 rw[this];exact (Rat.num_divInt_den ((val l:Rat)))
theorem Zbr (l:List UInt8) (w:World) (hl:l.length<=1000000) (hG:Yb w) :
  Calls prog 31 #[.string ⟨l.toArray⟩] w fun e w'=>e=.returned (Value.agg #[.string ⟨List.toArray (fN ((val l:Rat)))⟩,.string ⟨List.toArray (fD ((val l:Rat)))⟩])/\Below w.heap.size w w':=by
 have hm:∀w:World,Yb w->_:=fun w hG=>UV l [49] w hl (by decide) hG (by decide)
 obtain⟨q,hq⟩:∃q,q=(val l:Rat):=⟨_,rfl⟩
 simp only[Zbq,<-hq] at hm;rw[<-hq];clear hq;go_enter func31,ntmps31;go_wp2_with fail
 refine (hm _ (by exact hG.below (Zh _ _))).mono ?_
 rintro e w2 ⟨rfl,hb2⟩;have hx:=(Xa.new w (.string ⟨#[]⟩) (.string ⟨#[]⟩) 34).below hb2;have hb2:=bto (Zh _ _) hb2;have c0:=hx.c0;have c1:=hx.c1;have f0:=hx.f0;have f1:=hx.f1;go_wp2_with fail;have hy:=hx.set (.string ⟨(fN q).toArray⟩) (.string ⟨(fD q).toArray⟩);have d0:=hy.c0;have d1:=hy.c1;refine bodyPost_ret (v:=(Value.agg #[.string ⟨List.toArray (fN q)⟩,.string ⟨List.toArray (fD q)⟩])) (by simp[results,results31,go_sem,d0,d1]) rfl ?_
 exact⟨rfl,ZS hb2 (Nl _) _ _⟩
theorem Yf (a b:List UInt8):(canon (val a*val b)).length<=a.length+b.length+1:=
 Zu _ _ (by rw[Int.natAbs_mul];exact XS (TU a) (TU b))
theorem AD (a b c d:List UInt8) (m:Nat) (w:World) (ha:a.length<=1000000) (hb:b.length<=1000000) (hc':c.length<=1000000) (hd:d.length<=1000000) (hG:Yb w) (hm:m<w.heap.size) (hc:w.cell? ⟨m,0,none⟩=some (.func (.func 68) #[] #[])) :
  Calls prog 113 #[.string ⟨a.toArray⟩,.string ⟨b.toArray⟩,.string ⟨c.toArray⟩,.string ⟨d.toArray⟩,.pointer (some ⟨m,0,none⟩)] w fun e w'=>e=.returned (.tuple #[.string ⟨(canon (val a*val d-val c*val b)).toArray⟩,.string ⟨(canon (val b*val d)).toArray⟩])/\Below w.heap.size w w':=by
 have h1:(canon (val a*val d)).length<=100000000:=Nt (Yf a d) (by omega)
 have h2:(canon (val c*val b)).length<=100000000:=Nt (Yf c b) (by omega)
 have ha:=Nt ha (show 1000000<=100000000 by decide)
 have hb:=Nt hb (show 1000000<=100000000 by decide)
 have hc':=Nt hc' (show 1000000<=100000000 by decide)
 have hd:=Nt hd (show 1000000<=100000000 by decide)
 have hbc:=bdr w;have q:=(hbc.cell (p:=⟨m,0,none⟩) hm).trans hc;go_enter func113,ntmps113;go_wp2_with fail
 go_region_held3 (fun w'=>w'.cell? ⟨m,0,none⟩=some (.func (.func 68) #[] #[]))
  (first|go_keep|(dsimp only;exact q))
  (first
   | (go_at_call 68;with_reducible refine Calls.mono (Ms _ _ _ (by assumption) (by assumption) (by exact hG.below hbc)) ?_;rintro e w1 ⟨rfl,hb1⟩;have hbc:=bto hbc hb1;have q:=(hbc.cell (p:=⟨m,0,none⟩) hm).trans hc)
   | (go_at_call 22;with_reducible refine Calls.mono (Lj _ _ _ (by assumption) (by assumption) (by exact hG.below hbc)) ?_;rintro e w1 ⟨rfl,hb1⟩;rw[Zm,Zm];have hbc:=bto hbc hb1;have q:=(hbc.cell (p:=⟨m,0,none⟩) hm).trans hc))
 go_wp2;go_ret2;exact⟨rfl,hbc⟩
theorem AE (a b c d:List UInt8) (m:Nat) (w:World) (ha:a.length<=1000000) (hb:b.length<=1000000) (hc':c.length<=1000000) (hd:d.length<=1000000) (hG:Yb w) (hm:m<w.heap.size) (hc:w.cell? ⟨m,0,none⟩=some (.func (.func 68) #[] #[])) :
  Calls prog 114 #[.string ⟨a.toArray⟩,.string ⟨b.toArray⟩,.string ⟨c.toArray⟩,.string ⟨d.toArray⟩,.pointer (some ⟨m,0,none⟩)] w fun e w'=>e=.returned (.tuple #[.string ⟨(canon (val a*val c)).toArray⟩,.string ⟨(canon (val b*val d)).toArray⟩])/\Below w.heap.size w w':=by
 have ha:=Nt ha (show 1000000<=100000000 by decide)
 have hb:=Nt hb (show 1000000<=100000000 by decide)
 have hc':=Nt hc' (show 1000000<=100000000 by decide)
 have hd:=Nt hd (show 1000000<=100000000 by decide)
 have hbc:=bdr w;have q:=(hbc.cell (p:=⟨m,0,none⟩) hm).trans hc;go_enter func114,ntmps114;go_wp2_with fail
 go_region_held3 (fun w'=>w'.cell? ⟨m,0,none⟩=some (.func (.func 68) #[] #[]))
  (first|go_keep|(dsimp only;exact q))
  (first
   | (go_at_call 68;with_reducible refine Calls.mono (Ms _ _ _ (by assumption) (by assumption) (by exact hG.below hbc)) ?_;rintro e w1 ⟨rfl,hb1⟩;have hbc:=bto hbc hb1;have q:=(hbc.cell (p:=⟨m,0,none⟩) hm).trans hc))
 go_wp2;go_ret2;exact⟨rfl,hbc⟩
end Go.Proofs.YtpieeldbamklkaaGreatDoor
