/- Bc: frace fracf fracg frach fraci qlaw -/
import Derived.Test.YtpieeldbamklkaaGreatDoorVBb
import Derived.Laws.EntriesVeiled
import Derived.Laws.Concat
set_option maxHeartbeats 2000000
set_option maxRecDepth 100000
open Go.Proofs.Tryz
namespace Go.Proofs.YtpieeldbamklkaaGreatDoor
open Go.RowKit Num
theorem UW (w:World) :
  Calls prog 48 #[] w fun e w'=>e=.returned (.agg #[.func (.func 112) #[] #[.pointer (some ⟨w.heap.size+1,0,none⟩)],.func (.func 113) #[] #[.pointer (some ⟨w.heap.size+1,0,none⟩)],.func (.func 114) #[] #[.pointer (some ⟨w.heap.size+1,0,none⟩)],.func (.func 115) #[] #[.pointer (some ⟨w.heap.size+1,0,none⟩)]])/\
   w.heap.size+1<w'.heap.size/\w'.cell? ⟨w.heap.size+1,0,none⟩=some (.func (.func 68) #[] #[])/\Below w.heap.size w w':=by
 go_enter func48,ntmps48;go_wp2_with fail;refine bodyPost_ret (v:=.agg #[.func (.func 112) #[] #[.pointer (some ⟨w.heap.size+1,0,none⟩)],.func (.func 113) #[] #[.pointer (some ⟨w.heap.size+1,0,none⟩)],.func (.func 114) #[] #[.pointer (some ⟨w.heap.size+1,0,none⟩)],.func (.func 115) #[] #[.pointer (some ⟨w.heap.size+1,0,none⟩)]]) (by simp[results,results48,go_sem]) rfl ?_
 exact⟨rfl,by simp,by simp[go_sem],bto (Zh _ _) (Zh _ _)⟩
theorem Ni {a b c d:List UInt8} {i j:Nat} (ha:a.length<=i) (hb:b.length<=j) (hc:c.length<=i) (hd:d.length<=j):(canon (val a*val b+val c*val d)).length<=i+j+2/\(canon (val a*val b-val c*val d)).length<=i+j+2:=by
 have h1:=XS (Zw ha) (Zw hb);have h2:=XS (Zw hc) (Zw hd);have h3:=Lq (i+j);rw[<-Int.natAbs_mul] at h1 h2;exact⟨Zu _ (i+j+1) (by omega),Zu _ (i+j+1) (by omega)⟩
theorem Jo (l l' k k':List UInt8) (m:Nat) (w:World) (hl:l.length<=100000) (hl':l'.length<=100000) (hk:k.length<=100000) (hk':k'.length<=100000) (hG:Yb w) (hm:m<w.heap.size) (hc:w.cell? ⟨m,0,none⟩=some (.func (.func 68) #[] #[])) :
  Calls prog 47 #[.func (.func 113) #[] #[.pointer (some ⟨m,0,none⟩)],(Value.agg #[.string ⟨l.toArray⟩,.string ⟨l'.toArray⟩]),(Value.agg #[.string ⟨k.toArray⟩,.string ⟨k'.toArray⟩])] w fun e w'=>e=.returned (Value.agg #[.string ⟨List.toArray (fN (fv l l'-fv k k'))⟩,.string ⟨List.toArray (fD (fv l l'-fv k k'))⟩])/\Below w.heap.size w w':=by
 have hpl:=Qq hl' (show 1<=100000 by decide)
 have hpk:=Qq hk' (show 1<=100000 by decide)
 have hv:Rat.divInt ((val l*val (pd k')-val k*val (pd l'))) ((val (pd l')*val (pd k')))=fv l l'-fv k k':=by
  unfold fv;rw[Rat.divInt_sub_divInt _ _ (Ve _) (Ve _)];rw[WP,WP]
 have hnl:(canon ((val l*val (pd k')-val k*val (pd l')))).length<=1000000:=by
  have hl':=hpl;have hk':=hpk;exact Nt (Ni hl hk' hk hl').2 (by decide)
 have hdl:(canon ((val (pd l')*val (pd k')))).length<=1000000:=Nt (Yf _ _) (by omega)
 have hne:val (canon ((val (pd l')*val (pd k'))))≠0:=by rw[Zm,WP,WP];exact Int.mul_ne_zero (Ve _) (Ve _)
 have hmd:∀w:World,Yb w->_:=fun w hG=>UV (canon ((val l*val (pd k')-val k*val (pd l')))) (canon ((val (pd l')*val (pd k')))) w hnl hdl hG hne
 simp only[Zm,hv] at hmd;have hop:∀w:World,Yb w->_->_->_:=fun w hG hm hc=>AD l (pd l') k (pd k') m w (Nt hl (by decide)) (Nt hpl (by decide)) (Nt hk (by decide)) (Nt hpk (by decide)) hG hm hc
 obtain⟨q,hq⟩:∃q,q=fv l l'-fv k k':=⟨_,rfl⟩
 obtain⟨N,hN⟩:∃N,N=canon ((val l*val (pd k')-val k*val (pd l'))):=⟨_,rfl⟩
 obtain⟨D,hD⟩:∃D,D=canon ((val (pd l')*val (pd k'))):=⟨_,rfl⟩
 simp only[<-hq,<-hN,<-hD] at hmd hop ⊢;have HM:=Lh hmd;have HO:=Lh hop;have HC:=Lh hc;clear hq hN hD hmd hop hv hnl hdl hne hc;go_enter func47,ntmps47;go_wp2_with fail
 refine (Xm l l' _ (Nt hl' (by decide))).mono ?_
 rintro e w1 ⟨rfl,hb1⟩;have hx0:=((Xa.new (w.alloc (.cells #[.string ⟨l.toArray⟩,.string ⟨l'.toArray⟩] 34)) (.string ⟨k.toArray⟩) (.string ⟨k'.toArray⟩) 34).below (Zh _ (.cells #[.string ⟨#[]⟩,.string ⟨#[]⟩] 34))).below hb1;have hx:=(Xa.new ((w.alloc (.cells #[.string ⟨l.toArray⟩,.string ⟨l'.toArray⟩] 34)).alloc (.cells #[.string ⟨k.toArray⟩,.string ⟨k'.toArray⟩] 34)) (.string ⟨#[]⟩) (.string ⟨#[]⟩) 34).below hb1;have hb1:=bto (bto (bto (Zh w (.cells #[.string ⟨l.toArray⟩,.string ⟨l'.toArray⟩] 34)) (Zh _ (.cells #[.string ⟨k.toArray⟩,.string ⟨k'.toArray⟩] 34))) (Zh _ (.cells #[.string ⟨#[]⟩,.string ⟨#[]⟩] 34))) hb1;rw[World.size_alloc] at hx0;rw[World.size_alloc,World.size_alloc] at hx;have e0:=hx0.c0;have e1:=hx0.c1;go_wp2_with fail
 refine (Xm k k' _ (Nt hk' (by decide))).mono ?_
 rintro e w2 ⟨rfl,hb2⟩;have hx:=hx.below hb2;have hb2:=bto hb1 hb2;clear e0 e1 hx0;go_wp2_with fail
 refine (HO.out _ (by exact hG.below hb2) (by exact Nat.lt_of_lt_of_le hm hb2.size) (by exact (hb2.cell (p:=⟨m,0,none⟩) hm).trans HC.out)).mono ?_
 rintro e w3 ⟨rfl,hb3⟩;have hx:=hx.below hb3;have hb3:=bto hb2 hb3;go_wp2_with fail
 refine (HM.out _ (by exact hG.below hb3)).mono ?_
 rintro e w4 ⟨rfl,hb4⟩;have hx:=hx.below hb4;have hb4:=bto hb3 hb4;have c0:=hx.c0;have c1:=hx.c1;have f0:=hx.f0;have f1:=hx.f1;go_wp2_with fail;have hy:=hx.set (.string ⟨(fN q).toArray⟩) (.string ⟨(fD q).toArray⟩);have d0:=hy.c0;have d1:=hy.c1;refine bodyPost_ret (v:=(Value.agg #[.string ⟨List.toArray (fN q)⟩,.string ⟨List.toArray (fD q)⟩])) (by simp[results,results47,go_sem,d0,d1]) rfl ?_
 exact⟨rfl,ZS hb4 (by omega) _ _⟩
theorem Jp (l l' k k':List UInt8) (m:Nat) (w:World) (hl:l.length<=100000) (hl':l'.length<=100000) (hk:k.length<=100000) (hk':k'.length<=100000) (hG:Yb w) (hm:m<w.heap.size) (hc:w.cell? ⟨m,0,none⟩=some (.func (.func 68) #[] #[])) :
  Calls prog 47 #[.func (.func 114) #[] #[.pointer (some ⟨m,0,none⟩)],(Value.agg #[.string ⟨l.toArray⟩,.string ⟨l'.toArray⟩]),(Value.agg #[.string ⟨k.toArray⟩,.string ⟨k'.toArray⟩])] w fun e w'=>e=.returned (Value.agg #[.string ⟨List.toArray (fN (fv l l'*fv k k'))⟩,.string ⟨List.toArray (fD (fv l l'*fv k k'))⟩])/\Below w.heap.size w w':=by
 have hpl:=Qq hl' (show 1<=100000 by decide)
 have hpk:=Qq hk' (show 1<=100000 by decide)
 have hv:Rat.divInt ((val l*val k)) ((val (pd l')*val (pd k')))=fv l l'*fv k k':=by
  unfold fv;rw[Rat.divInt_mul_divInt];rw[WP,WP]
 have hnl:(canon ((val l*val k))).length<=1000000:=by
  have hl':=hpl;have hk':=hpk;exact Nt (Yf _ _) (by omega)
 have hdl:(canon ((val (pd l')*val (pd k')))).length<=1000000:=Nt (Yf _ _) (by omega)
 have hne:val (canon ((val (pd l')*val (pd k'))))≠0:=by rw[Zm,WP,WP];exact Int.mul_ne_zero (Ve _) (Ve _)
 have hmd:∀w:World,Yb w->_:=fun w hG=>UV (canon ((val l*val k))) (canon ((val (pd l')*val (pd k')))) w hnl hdl hG hne
 simp only[Zm,hv] at hmd;have hop:∀w:World,Yb w->_->_->_:=fun w hG hm hc=>AE l (pd l') k (pd k') m w (Nt hl (by decide)) (Nt hpl (by decide)) (Nt hk (by decide)) (Nt hpk (by decide)) hG hm hc
 obtain⟨q,hq⟩:∃q,q=fv l l'*fv k k':=⟨_,rfl⟩
 obtain⟨N,hN⟩:∃N,N=canon ((val l*val k)):=⟨_,rfl⟩
 obtain⟨D,hD⟩:∃D,D=canon ((val (pd l')*val (pd k'))):=⟨_,rfl⟩
 simp only[<-hq,<-hN,<-hD] at hmd hop ⊢;have HM:=Lh hmd;have HO:=Lh hop;have HC:=Lh hc;clear hq hN hD hmd hop hv hnl hdl hne hc;go_enter func47,ntmps47;go_wp2_with fail
 refine (Xm l l' _ (Nt hl' (by decide))).mono ?_
 rintro e w1 ⟨rfl,hb1⟩;have hx0:=((Xa.new (w.alloc (.cells #[.string ⟨l.toArray⟩,.string ⟨l'.toArray⟩] 34)) (.string ⟨k.toArray⟩) (.string ⟨k'.toArray⟩) 34).below (Zh _ (.cells #[.string ⟨#[]⟩,.string ⟨#[]⟩] 34))).below hb1;have hx:=(Xa.new ((w.alloc (.cells #[.string ⟨l.toArray⟩,.string ⟨l'.toArray⟩] 34)).alloc (.cells #[.string ⟨k.toArray⟩,.string ⟨k'.toArray⟩] 34)) (.string ⟨#[]⟩) (.string ⟨#[]⟩) 34).below hb1;have hb1:=bto (bto (bto (Zh w (.cells #[.string ⟨l.toArray⟩,.string ⟨l'.toArray⟩] 34)) (Zh _ (.cells #[.string ⟨k.toArray⟩,.string ⟨k'.toArray⟩] 34))) (Zh _ (.cells #[.string ⟨#[]⟩,.string ⟨#[]⟩] 34))) hb1;rw[World.size_alloc] at hx0;rw[World.size_alloc,World.size_alloc] at hx;have e0:=hx0.c0;have e1:=hx0.c1;go_wp2_with fail
 refine (Xm k k' _ (Nt hk' (by decide))).mono ?_
 rintro e w2 ⟨rfl,hb2⟩;have hx:=hx.below hb2;have hb2:=bto hb1 hb2;clear e0 e1 hx0;go_wp2_with fail
 refine (HO.out _ (by exact hG.below hb2) (by exact Nat.lt_of_lt_of_le hm hb2.size) (by exact (hb2.cell (p:=⟨m,0,none⟩) hm).trans HC.out)).mono ?_
 rintro e w3 ⟨rfl,hb3⟩;have hx:=hx.below hb3;have hb3:=bto hb2 hb3;go_wp2_with fail
 refine (HM.out _ (by exact hG.below hb3)).mono ?_
 rintro e w4 ⟨rfl,hb4⟩;have hx:=hx.below hb4;have hb4:=bto hb3 hb4;have c0:=hx.c0;have c1:=hx.c1;have f0:=hx.f0;have f1:=hx.f1;go_wp2_with fail;have hy:=hx.set (.string ⟨(fN q).toArray⟩) (.string ⟨(fD q).toArray⟩);have d0:=hy.c0;have d1:=hy.c1;refine bodyPost_ret (v:=(Value.agg #[.string ⟨List.toArray (fN q)⟩,.string ⟨List.toArray (fD q)⟩])) (by simp[results,results47,go_sem,d0,d1]) rfl ?_
 exact⟨rfl,ZS hb4 (by omega) _ _⟩
theorem IE (l l' k k':List UInt8) (w:World) (hl:l.length<=100000) (hl':l'.length<=100000) (hk:k.length<=100000) (hk':k'.length<=100000) (hG:Yb w) :
  Calls prog 34 #[(Value.agg #[.string ⟨l.toArray⟩,.string ⟨l'.toArray⟩]),(Value.agg #[.string ⟨k.toArray⟩,.string ⟨k'.toArray⟩])] w fun e w'=>e=.returned ((Value.agg #[.string ⟨List.toArray (fN (fv l l'-fv k k'))⟩,.string ⟨List.toArray (fD (fv l l'-fv k k'))⟩]))/\Below w.heap.size w w':=by
 have hap:∀(m:Nat) (w:World),Yb w->_->_->_:=fun m w hG hm hc=>Jo l l' k k' m w hl hl' hk hk' hG hm hc
 obtain⟨q,hq⟩:∃q,q=fv l l'-fv k k':=⟨_,rfl⟩
 simp only[<-hq] at hap ⊢;have HA:=Lh hap;clear hq hap;have hix:∀(p1 p2 p3 p4:Value) (w:World),(Instr.index 110 (.agg #[.func (.func 112) #[] #[p1],.func (.func 113) #[] #[p2],.func (.func 114) #[] #[p3],.func (.func 115) #[] #[p4]]) (.int .i64 1)).run prog w=.ok (.func (.func 113) #[] #[p2]) w:=fun _ _ _ _ _=>by kernel_rfl
 have X0:=((Xa.new w (.string ⟨l.toArray⟩) (.string ⟨l'.toArray⟩) 34).below (Zh _ (.cells #[.string ⟨k.toArray⟩,.string ⟨k'.toArray⟩] 34))).below (Zh _ (.cells #[.string ⟨#[]⟩,.string ⟨#[]⟩] 34));have X1:=(Xa.new (w.alloc (.cells #[.string ⟨l.toArray⟩,.string ⟨l'.toArray⟩] 34)) (.string ⟨k.toArray⟩) (.string ⟨k'.toArray⟩) 34).below (Zh _ (.cells #[.string ⟨#[]⟩,.string ⟨#[]⟩] 34));have X2:=Xa.new ((w.alloc (.cells #[.string ⟨l.toArray⟩,.string ⟨l'.toArray⟩] 34)).alloc (.cells #[.string ⟨k.toArray⟩,.string ⟨k'.toArray⟩] 34)) (.string ⟨#[]⟩) (.string ⟨#[]⟩) 34;have hbW:=bto (Zh w (.cells #[.string ⟨l.toArray⟩,.string ⟨l'.toArray⟩] 34)) (bto (Zh _ (.cells #[.string ⟨k.toArray⟩,.string ⟨k'.toArray⟩] 34)) (Zh _ (.cells #[.string ⟨#[]⟩,.string ⟨#[]⟩] 34)));rw[World.size_alloc] at X1;rw[World.size_alloc,World.size_alloc] at X2;obtain⟨W,hW⟩:∃W,W=((w.alloc (.cells #[.string ⟨l.toArray⟩,.string ⟨l'.toArray⟩] 34)).alloc (.cells #[.string ⟨k.toArray⟩,.string ⟨k'.toArray⟩] 34)).alloc (.cells #[.string ⟨#[]⟩,.string ⟨#[]⟩] 34):=⟨_,rfl⟩
 obtain⟨b0,hb0⟩:∃b,b=w.heap.size:=⟨_,rfl⟩
 obtain⟨b1,hb1⟩:∃b,b=w.heap.size+1:=⟨_,rfl⟩
 obtain⟨b2,hb2⟩:∃b,b=w.heap.size+1+1:=⟨_,rfl⟩
 rw[<-hW] at X0 X1 X2 hbW;rw[<-hb0] at X0;rw[<-hb1] at X1;rw[<-hb2] at X2;have d02:¬b0=b2:=by omega
 have d12:¬b1=b2:=by omega
 have d20:¬b2=b0:=by omega
 have d21:¬b2=b1:=by omega
 have hwb:w.heap.size<=b2:=by omega
 have HW:=Lh (And.intro hW (And.intro hb0 (And.intro hb1 hb2)));clear hW hb0 hb1 hb2;go_enter func34,ntmps34;go_wp2_with fail;rw[<-HW.out.1,<-HW.out.2.2.2,<-HW.out.2.2.1,<-HW.out.2.1];have hbc:=bdr W;have x0:=X0.below hbc;have x1:=X1.below hbc;have x2:=X2.below hbc;have q0:=x0.c0;have q1:=x0.c1;have q2:=x1.c0;have q3:=x1.c1;have c0:=x2.c0;have c1:=x2.c1;have f0:=x2.f0;have f1:=x2.f1
 go_region_held3 (fun w'=>w'.cell? ⟨b0,0,none⟩=some (.string ⟨l.toArray⟩)/\w'.cell? ⟨b0,1,none⟩=some (.string ⟨l'.toArray⟩)/\w'.cell? ⟨b1,0,none⟩=some (.string ⟨k.toArray⟩)/\w'.cell? ⟨b1,1,none⟩=some (.string ⟨k'.toArray⟩))
  (first|go_keep|(dsimp only;exact⟨q0,q1,q2,q3⟩))
  (first
   | (go_at_call 48;(with_reducible refine Calls.mono (UW _) ?_);rintro e w1 ⟨rfl,hm1,hc1,hb1⟩;have hm1:W.heap.size+1<w1.heap.size:=hm1;have hc1:w1.cell? ⟨W.heap.size+1,0,none⟩=some (.func (.func 68) #[] #[]):=hc1;have hbc:=bto hbc hb1;have x0:=X0.below hbc;have x1:=X1.below hbc;have x2:=X2.below hbc;have q0:=x0.c0;have q1:=x0.c1;have q2:=x1.c0;have q3:=x1.c1;have c0:=x2.c0;have c1:=x2.c1;have f0:=x2.f0;have f1:=x2.f1)
   | (go_at_call 47;(with_reducible refine Calls.mono (HA.out _ _ (by exact (hG.below hbW).below hbc) (by exact hm1) (by exact hc1)) ?_);rintro e w2 ⟨rfl,hb2⟩;have hbc:=bto hbc hb2;have x0:=X0.below hbc;have x1:=X1.below hbc;have x2:=X2.below hbc;have q0:=x0.c0;have q1:=x0.c1;have q2:=x1.c0;have q3:=x1.c1;have c0:=x2.c0;have c1:=x2.c1;have f0:=x2.f0;have f1:=x2.f1))
 go_wp2;have hy:=x2.set (.string ⟨(fN q).toArray⟩) (.string ⟨(fD q).toArray⟩);have z0:=hy.c0;have z1:=hy.c1;refine bodyPost_ret (v:=(Value.agg #[.string ⟨List.toArray (fN q)⟩,.string ⟨List.toArray (fD q)⟩])) (by simp[results,results34,go_sem,z0,z1]) rfl ?_
 exact⟨rfl,ZS (bto hbW hbc) hwb _ _⟩
theorem AG (l l' k k':List UInt8) (w:World) (hl:l.length<=100000) (hl':l'.length<=100000) (hk:k.length<=100000) (hk':k'.length<=100000) (hG:Yb w) :
  Calls prog 12 #[(Value.agg #[.string ⟨l.toArray⟩,.string ⟨l'.toArray⟩]),(Value.agg #[.string ⟨k.toArray⟩,.string ⟨k'.toArray⟩])] w fun e w'=>e=.returned ((Value.agg #[.string ⟨List.toArray (fN (fv l l'*fv k k'))⟩,.string ⟨List.toArray (fD (fv l l'*fv k k'))⟩]))/\Below w.heap.size w w':=by
 have hap:∀(m:Nat) (w:World),Yb w->_->_->_:=fun m w hG hm hc=>Jp l l' k k' m w hl hl' hk hk' hG hm hc
 obtain⟨q,hq⟩:∃q,q=fv l l'*fv k k':=⟨_,rfl⟩
 simp only[<-hq] at hap ⊢;have HA:=Lh hap;clear hq hap;have hix:∀(p1 p2 p3 p4:Value) (w:World),(Instr.index 110 (.agg #[.func (.func 112) #[] #[p1],.func (.func 113) #[] #[p2],.func (.func 114) #[] #[p3],.func (.func 115) #[] #[p4]]) (.int .i64 2)).run prog w=.ok (.func (.func 114) #[] #[p3]) w:=fun _ _ _ _ _=>by kernel_rfl
 have X0:=((Xa.new w (.string ⟨l.toArray⟩) (.string ⟨l'.toArray⟩) 34).below (Zh _ (.cells #[.string ⟨k.toArray⟩,.string ⟨k'.toArray⟩] 34))).below (Zh _ (.cells #[.string ⟨#[]⟩,.string ⟨#[]⟩] 34));have X1:=(Xa.new (w.alloc (.cells #[.string ⟨l.toArray⟩,.string ⟨l'.toArray⟩] 34)) (.string ⟨k.toArray⟩) (.string ⟨k'.toArray⟩) 34).below (Zh _ (.cells #[.string ⟨#[]⟩,.string ⟨#[]⟩] 34));have X2:=Xa.new ((w.alloc (.cells #[.string ⟨l.toArray⟩,.string ⟨l'.toArray⟩] 34)).alloc (.cells #[.string ⟨k.toArray⟩,.string ⟨k'.toArray⟩] 34)) (.string ⟨#[]⟩) (.string ⟨#[]⟩) 34;have hbW:=bto (Zh w (.cells #[.string ⟨l.toArray⟩,.string ⟨l'.toArray⟩] 34)) (bto (Zh _ (.cells #[.string ⟨k.toArray⟩,.string ⟨k'.toArray⟩] 34)) (Zh _ (.cells #[.string ⟨#[]⟩,.string ⟨#[]⟩] 34)));rw[World.size_alloc] at X1;rw[World.size_alloc,World.size_alloc] at X2;obtain⟨W,hW⟩:∃W,W=((w.alloc (.cells #[.string ⟨l.toArray⟩,.string ⟨l'.toArray⟩] 34)).alloc (.cells #[.string ⟨k.toArray⟩,.string ⟨k'.toArray⟩] 34)).alloc (.cells #[.string ⟨#[]⟩,.string ⟨#[]⟩] 34):=⟨_,rfl⟩
 obtain⟨b0,hb0⟩:∃b,b=w.heap.size:=⟨_,rfl⟩
 obtain⟨b1,hb1⟩:∃b,b=w.heap.size+1:=⟨_,rfl⟩
 obtain⟨b2,hb2⟩:∃b,b=w.heap.size+1+1:=⟨_,rfl⟩
 rw[<-hW] at X0 X1 X2 hbW;rw[<-hb0] at X0;rw[<-hb1] at X1;rw[<-hb2] at X2;have d02:¬b0=b2:=by omega
 have d12:¬b1=b2:=by omega
 have d20:¬b2=b0:=by omega
 have d21:¬b2=b1:=by omega
 have hwb:w.heap.size<=b2:=by omega
 have HW:=Lh (And.intro hW (And.intro hb0 (And.intro hb1 hb2)));clear hW hb0 hb1 hb2;go_enter func12,ntmps12;go_wp2_with fail;rw[<-HW.out.1,<-HW.out.2.2.2,<-HW.out.2.2.1,<-HW.out.2.1];have hbc:=bdr W;have x0:=X0.below hbc;have x1:=X1.below hbc;have x2:=X2.below hbc;have q0:=x0.c0;have q1:=x0.c1;have q2:=x1.c0;have q3:=x1.c1;have c0:=x2.c0;have c1:=x2.c1;have f0:=x2.f0;have f1:=x2.f1
 go_region_held3 (fun w'=>w'.cell? ⟨b0,0,none⟩=some (.string ⟨l.toArray⟩)/\w'.cell? ⟨b0,1,none⟩=some (.string ⟨l'.toArray⟩)/\w'.cell? ⟨b1,0,none⟩=some (.string ⟨k.toArray⟩)/\w'.cell? ⟨b1,1,none⟩=some (.string ⟨k'.toArray⟩))
  (first|go_keep|(dsimp only;exact⟨q0,q1,q2,q3⟩))
  (first
   | (go_at_call 48;(with_reducible refine Calls.mono (UW _) ?_);rintro e w1 ⟨rfl,hm1,hc1,hb1⟩;have hm1:W.heap.size+1<w1.heap.size:=hm1;have hc1:w1.cell? ⟨W.heap.size+1,0,none⟩=some (.func (.func 68) #[] #[]):=hc1;have hbc:=bto hbc hb1;have x0:=X0.below hbc;have x1:=X1.below hbc;have x2:=X2.below hbc;have q0:=x0.c0;have q1:=x0.c1;have q2:=x1.c0;have q3:=x1.c1;have c0:=x2.c0;have c1:=x2.c1;have f0:=x2.f0;have f1:=x2.f1)
   | (go_at_call 47;(with_reducible refine Calls.mono (HA.out _ _ (by exact (hG.below hbW).below hbc) (by exact hm1) (by exact hc1)) ?_);rintro e w2 ⟨rfl,hb2⟩;have hbc:=bto hbc hb2;have x0:=X0.below hbc;have x1:=X1.below hbc;have x2:=X2.below hbc;have q0:=x0.c0;have q1:=x0.c1;have q2:=x1.c0;have q3:=x1.c1;have c0:=x2.c0;have c1:=x2.c1;have f0:=x2.f0;have f1:=x2.f1))
 go_wp2;have hy:=x2.set (.string ⟨(fN q).toArray⟩) (.string ⟨(fD q).toArray⟩);have z0:=hy.c0;have z1:=hy.c1;refine bodyPost_ret (v:=(Value.agg #[.string ⟨List.toArray (fN q)⟩,.string ⟨List.toArray (fD q)⟩])) (by simp[results,results12,go_sem,z0,z1]) rfl ?_
 exact⟨rfl,ZS (bto hbW hbc) hwb _ _⟩
def Mv (p q:Rat):Int:=ZH (p-q).num 0
theorem EA {l l' k k':List UInt8} {i:Nat} (h1:l.length<=i) (h2:l'.length<=i) (h3:k.length<=i) (h4:k'.length<=i) (hi:1<=i):(fN (fv l l'-fv k k')).length<=2*i+2/\(fD (fv l l'-fv k k')).length<=2*i+2:=by
 have h:=TY (Zbo (ZaZ h1 h2 hi) (ZaZ h3 h4 hi));omega
theorem Lr (l l' k k':List UInt8) (w:World) (hl:l.length<=100000) (hl':l'.length<=100000) (hk:k.length<=100000) (hk':k'.length<=100000) (hG:Yb w) :
  Calls prog 24 #[(Value.agg #[.string ⟨l.toArray⟩,.string ⟨l'.toArray⟩]),(Value.agg #[.string ⟨k.toArray⟩,.string ⟨k'.toArray⟩])] w fun e w'=>e=.returned (.int .i64 (Mv (fv l l') (fv k k')))/\Below w.heap.size w w':=by
 have hs:∀w:World,Yb w->_:=fun w hG=>IE l l' k k' w hl hl' hk hk' hG
 have hlen:=EA hl hl' hk hk' (by decide)
 have hcz:Mv (fv l l') (fv k k')=ZH (val (fN (fv l l'-fv k k'))) (val []):=by unfold Mv;rw[UU,Mr]
 rw[hcz];obtain⟨q,hq⟩:∃q,q=fv l l'-fv k k':=⟨_,rfl⟩
 simp only[<-hq] at hs hlen ⊢;have HS:=Lh hs;clear hq hs hcz;go_enter func24,ntmps24;go_wp2_with fail;have hb0:=bto (Zh w (.cells #[.string ⟨l.toArray⟩,.string ⟨l'.toArray⟩] 34)) (Zh _ (.cells #[.string ⟨k.toArray⟩,.string ⟨k'.toArray⟩] 34))
 refine (HS.out _ (by exact hG.below hb0)).mono ?_
 rintro e w1 ⟨rfl,hb1⟩;have hb1:=bto hb0 hb1;go_wp2_with fail
 refine (Xm _ _ _ (by exact Nt hlen.2 (by decide))).mono ?_
 rintro e w2 ⟨rfl,hb2⟩;have hb2:=bto hb1 hb2;go_wp2_with fail
 refine (YV _ [] _ (by exact Nt hlen.1 (by decide)) (by decide)).mono ?_
 rintro e w3 ⟨rfl,hb3⟩;have hb3:=bto hb2 hb3;go_wp2;go_ret;exact⟨rfl,hb3⟩
theorem GM (l l':List UInt8) (w:World) (hl:l.length<=100000) (hl':l'.length<=100000) (hG:Yb w) :
  Calls prog 83 #[(Value.agg #[.string ⟨l.toArray⟩,.string ⟨l'.toArray⟩])] w fun e w'=>e=.returned (.int .i64 (if l=fN (fv l l')/\l'=fD (fv l l') then 0 else 1))/\Below w.heap.size w w':=by
 have hm:∀w:World,Yb w->_:=fun w hG=>AB l l' w (Nt hl (by decide)) (Nt hl' (by decide)) hG
 obtain⟨q,hq⟩:∃q,q=fv l l':=⟨_,rfl⟩
 simp only[<-hq] at hm ⊢;have HM:=Lh hm;clear hq hm;have X0:=Xa.new w (.string ⟨l.toArray⟩) (.string ⟨l'.toArray⟩) 34;have hbW:=Zh w (.cells #[.string ⟨l.toArray⟩,.string ⟨l'.toArray⟩] 34);obtain⟨W,hW⟩:∃W,W=w.alloc (.cells #[.string ⟨l.toArray⟩,.string ⟨l'.toArray⟩] 34):=⟨_,rfl⟩
 rw[<-hW] at X0 hbW;have HW:=Lh hW;clear hW;have hbc:=bdr W;have x0:=X0.below hbc;have q0:=x0.c0;have q1:=x0.c1
 by_cases h:l=fN q/\l'=fD q
 ·rw[if_pos h];have h1:(l==fN q)=true:=by rw[beq_iff_eq];exact h.1
  have h2:(l'==fD q)=true:=by rw[beq_iff_eq];exact h.2
  clear h;go_enter func83,ntmps83;go_wp2_with fail;rw[<-HW.out]
  go_region_held3 (fun w'=>w'.cell? ⟨w.heap.size,0,none⟩=some (.string ⟨l.toArray⟩)/\w'.cell? ⟨w.heap.size,1,none⟩=some (.string ⟨l'.toArray⟩))
   (first|go_keep|(dsimp only;exact⟨q0,q1⟩))
   (first
    | (go_at_call 69;(with_reducible refine Calls.mono (Xm l l' _ (Nt hl' (by decide))) ?_);rintro e w1 ⟨rfl,hb1⟩;have hbc:=bto hbc hb1;have x0:=X0.below hbc;have q0:=x0.c0;have q1:=x0.c1)
    | (go_at_call 80;(with_reducible refine Calls.mono (HM.out _ (by exact (hG.below hbW).below hbc)) ?_);rintro e w1 ⟨rfl,hb1⟩;have hbc:=bto hbc hb1;have x0:=X0.below hbc;have q0:=x0.c0;have q1:=x0.c1))
  go_wp2;go_ret;exact⟨rfl,bto hbW hbc⟩
 ·rw[if_neg h]
  by_cases h3:l=fN q
  ·have h1:(l==fN q)=true:=by rw[beq_iff_eq];exact h3
   have h2:(l'==fD q)=false:=by rw[Bn];exact fun e=>h ⟨h3,e⟩
   clear h h3;go_enter func83,ntmps83;go_wp2_with fail;rw[<-HW.out]
   go_region_held3 (fun w'=>w'.cell? ⟨w.heap.size,0,none⟩=some (.string ⟨l.toArray⟩)/\w'.cell? ⟨w.heap.size,1,none⟩=some (.string ⟨l'.toArray⟩))
    (first|go_keep|(dsimp only;exact⟨q0,q1⟩))
    (first
     | (go_at_call 69;(with_reducible refine Calls.mono (Xm l l' _ (Nt hl' (by decide))) ?_);rintro e w1 ⟨rfl,hb1⟩;have hbc:=bto hbc hb1;have x0:=X0.below hbc;have q0:=x0.c0;have q1:=x0.c1)
     | (go_at_call 80;(with_reducible refine Calls.mono (HM.out _ (by exact (hG.below hbW).below hbc)) ?_);rintro e w1 ⟨rfl,hb1⟩;have hbc:=bto hbc hb1;have x0:=X0.below hbc;have q0:=x0.c0;have q1:=x0.c1))
   go_wp2;go_ret;exact⟨rfl,bto hbW hbc⟩
  ·have h1:(l==fN q)=false:=by rw[Bn];exact h3
   clear h h3;go_enter func83,ntmps83;go_wp2_with fail;rw[<-HW.out]
   go_region_held3 (fun w'=>w'.cell? ⟨w.heap.size,0,none⟩=some (.string ⟨l.toArray⟩)/\w'.cell? ⟨w.heap.size,1,none⟩=some (.string ⟨l'.toArray⟩))
    (first|go_keep|(dsimp only;exact⟨q0,q1⟩))
    (first
     | (go_at_call 69;(with_reducible refine Calls.mono (Xm l l' _ (Nt hl' (by decide))) ?_);rintro e w1 ⟨rfl,hb1⟩;have hbc:=bto hbc hb1;have x0:=X0.below hbc;have q0:=x0.c0;have q1:=x0.c1)
     | (go_at_call 80;(with_reducible refine Calls.mono (HM.out _ (by exact (hG.below hbW).below hbc)) ?_);rintro e w1 ⟨rfl,hb1⟩;have hbc:=bto hbc hb1;have x0:=X0.below hbc;have q0:=x0.c0;have q1:=x0.c1))
   go_wp2;go_ret;exact⟨rfl,bto hbW hbc⟩
def Z3 (z:Int):List UInt8:=if z=0 then [48] else canon z
theorem Mw (z:Int):Mq (canon z)=Z3 z:=by unfold Mq Z3;rw[Zm]
end Go.Proofs.YtpieeldbamklkaaGreatDoor
