/- Bdiv: divb -/
import Derived.Test.YtpieeldbamklkaaGreatDoorVBk
import Derived.Deep.RegionWith
set_option maxHeartbeats 4000000
set_option maxRecDepth 100000
open Go.Proofs.Tryz
namespace Go.Proofs.YtpieeldbamklkaaGreatDoor
open Go.RowKit Num
structure DW (w0 wr:World) (ga gb gq L ca k cb:Nat) (A B Q:List Nat):Prop where
 hab:ga<gb
 hbq:gb<gq
 h0a:w0.heap.size<=ga
 a:wr.ownsRow w0.heap.size 207 1 (.slice (some ⟨ga,0,none⟩) L ca) L (U A)
 b:wr.ownsRow w0.heap.size 207 1 (.slice (some ⟨gb,0,none⟩) k cb) k (U B)
 q:Row wr gq Q
 below:Below w0.heap.size w0 wr
section
variable {w0 wr:World} {ga gb gq L ca k cb:Nat} {A B Q:List Nat}
theorem DW.setA (h:DW w0 wr ga gb gq L ca k cb A B Q) (i y:Nat) {z:Int} (hz:z=y):DW w0 (wr.setCell ⟨ga,i,none⟩ (.int .u64 z)) ga gb gq L ca k cb (A.set i y) B Q:=by
 have h1:=h.hab;have h2:=h.hbq;refine⟨h1,h2,h.h0a,Um h.a i y hz,Ss h.b (by simp[Value.ownBlock];omega) _,?_,h.below.setCell (p:=⟨ga,i,none⟩) h.h0a _⟩
 exact (Below.heap_setCell wr ⟨ga,i,none⟩ _ gq (by simp;omega)).trans h.q
theorem DW.setQ (h:DW w0 wr ga gb gq L ca k cb A B Q) (i y:Nat) {z:Int} (hz:z=y):DW w0 (wr.setCell ⟨gq,i,none⟩ (.int .u64 z)) ga gb gq L ca k cb A B (Q.set i y):=by
 have h1:=h.hab;have h2:=h.hbq;have h3:=h.h0a;exact⟨h1,h2,h3,Ss h.a (by simp[Value.ownBlock];omega) _,Ss h.b (by simp[Value.ownBlock];omega) _,h.q.setI i y hz,h.below.setCell (p:=⟨gq,i,none⟩) (by simp;omega) _⟩
theorem DW.drewN (h:DW w0 wr ga gb gq L ca k cb A B Q) (n:Nat):DW w0 (wr.drewN n) ga gb gq L ca k cb A B Q:=
 ⟨h.hab,h.hbq,h.h0a,own_below h.a (below_drewN wr n),own_below h.b (below_drewN wr n),h.q,Mj h.below n⟩
theorem DW.drew (h:DW w0 wr ga gb gq L ca k cb A B Q):DW w0 wr.drew ga gb gq L ca k cb A B Q:=h.drewN 1
theorem DW.cellA (h:DW w0 wr ga gb gq L ca k cb A B Q) {i x:Nat} (hx:A[i]?=some x):wr.cell? ⟨ga,i,none⟩=some (.int .u64 (x:Int)):=by
 have hi:i<L:=by
  have:=ZG h.a
  have:=(Lg.1 hx).1
  omega
 obtain⟨g,x',h1,h2,_,_,h3,_⟩:=Wh h.a hi;injection h1 with h1
 injection h1 with h1
 subst h1;rw[hx] at h2;injection h2 with h2
 subst h2;exact h3
theorem DW.frozenA (h:DW w0 wr ga gb gq L ca k cb A B Q) (i:Nat):wr.frozen? ⟨ga,i,none⟩=false:=h.a.frozenAt i
theorem DW.cellB (h:DW w0 wr ga gb gq L ca k cb A B Q) {i x:Nat} (hx:B[i]?=some x):wr.cell? ⟨gb,i,none⟩=some (.int .u64 (x:Int)):=by
 have hi:i<k:=by
  have:=ZG h.b
  have:=(Lg.1 hx).1
  omega
 obtain⟨g,x',h1,h2,_,_,h3,_⟩:=Wh h.b hi;injection h1 with h1
 injection h1 with h1
 subst h1;rw[hx] at h2;injection h2 with h2
 subst h2;exact h3
end
theorem Iz (w:World) (s:Nat) (h1:1<=s) (h2:s<BASE):(w.alloc (.cells #[.int .u64 (s:Int)] 207)).ownsRow 0 207 1 (.slice (some ⟨w.heap.size,0,none⟩) 1 1) 1 (U (grp s)):=by
 have h:=PP w s
 rwa [show [s]=grp s by rw[<-Iy s h2];exact (VW [] s (by omega)).symm] at h
theorem As {y n yh:Nat} (hl:(grp y).length=n) (h:(grp y)[n-1]?=some yh):1<=yh:=by
 have hn:=Si y;unfold norm at hn;rw[List.getLast?_eq_getElem?,hl,h] at hn;simp at hn;omega
theorem Jh {x n s:Nat} (hl:(grp x).length=n) (hs:s<1000000000):(grp (x*s)).length<=n+1:=by
 refine We _ _ ?_;have h1:=Xe x;rw[hl] at h1;have h2:x*s<BASE ^ n*BASE:=Nat.mul_lt_mul'' h1 hs
 rwa [<-Nat.pow_succ] at h2
theorem Ji (A A':Option Addr) (n c n' c':Nat) (x y:Nat) (w:World) (base base':Nat) (h:w.ownsRow base 207 1 (.slice A n c) n (U (grp x))) (h':w.ownsRow base' 207 1 (.slice A' n' c') n' (U (grp y)))
  (hxy:y<=x) (hn:n<=100000000) (hn2:2<=n') :
  Calls prog 202 #[.slice A n c,.slice A' n' c'] w (PO w x y):=by
 obtain⟨i0,hi,hz0,hz1,hz2⟩:=info_parts UO;have hge:=Jc hxy;have hge2:¬Wi x y<0:=fun h1=>by have:=(XN x y).1 h1;omega
 have hlx:=ZG h;have hly:=ZG h';have hnn:n'<=n:=by have:=ZD y x hxy;omega
 obtain⟨_,hc2⟩:=Xk h;obtain⟨hc1',hc2'⟩:=Xk h';unfold maxLen at hc2 hc2';obtain⟨g,yh,rfl,hyh,_,hgl,hcell,_⟩:=Wh h' (k:=n'-1) (by omega)
 have hyb:yh<1000000000:=ZT y yh (Lm hyh);have hn1:((n':Int)==1)=false:=by simp;omega
 obtain⟨s,hs⟩:∃s,s=1000000000 / (yh+1):=⟨_,rfl⟩
 have hs1:1<=s:=by rw[hs,Nat.le_div_iff_mul_le (by omega)];omega
 have hyh1:=As hly hyh;have hs2:s<1000000000:=by rw[hs];exact Nat.div_lt_self (by omega) (by omega)
 have hsc:(1000000000:Int) / ((yh:Int)+1)=(s:Int):=by rw[hs,Int.natCast_ediv];rfl
 have HS:=Lh hs;have HH:=Lh h;have HH':=Lh h';have HLX:=Lh hlx;have HLY:=Lh hly;clear h h' hyh hs hlx hly;go_enter func202,ntmps202
 go_wp2_with (first
  | (go_at_call 126;refine (YU A _ n c n' c' x y _ base base' HH.out HH'.out).mono ?_;rintro e w1 ⟨rfl,kd,rfl⟩))
 have hbl:=Zh w (.cells #[.int .u64 (s:Int)] 207)
 refine (Qo A _ n c 1 1 x s _ base 0 (by exact own_below HH.out (bto hbl (below_drewN _ kd))) (by exact own_below (Iz w s hs1 hs2) (below_drewN _ kd)) (by omega) (by omega)).mono ?_
 rintro e w2 ⟨va,rfl,hma,hb2⟩;obtain⟨Aa,ca0,rfl⟩:=hma.form;have hsz2:w.heap.size+1<=w2.heap.size:=by have:=hb2.size;simpa using this
 have hb2':Below w.heap.size w w2:=bto (bto hbl (below_drewN _ kd)) hb2;have hmo:w2.ownsRow w.heap.size 207 1 (.slice Aa (grp (x*s)).length ca0) (grp (x*s)).length (U (grp (x*s))):=YC hma (by simp)
 have hLa:(grp (x*s)).length<=n+1:=Jh HLX.out hs2;obtain⟨La,hLa0⟩:∃La,La=(grp (x*s)).length:=⟨_,rfl⟩
 rw[<-hLa0] at hLa hmo ⊢;have HLA:=Lh hLa0;clear hma hLa0 hb2;go_wp2_with (at_builtin;refine wpList_append_own _ rfl _ _ 120 rfl w.heap.size 207 i0 (.int .u64 0) 1 8 underlying120 hi hz0 hz1 hz2 rfl (by decide) _ _ _ rfl (hmo.alloc _) ⟨w2.heap.size,0,none⟩ 2 2 (U [0,0]) rfl rfl ?c1 (ZaY [0,0]) ?c3 ?c4 ?c5 ?_)
 case c1=>
  intro j u hj;rw[Lib.add_plain,Nat.zero_add,World.cell?_alloc_new];simpa using hj
 case c3=>unfold maxLen;omega
 case c4=>omega
 case c5=>simp;omega
 intro v' w3 hown3 hgrow _;have hb3:Below w.heap.size w w3:=(hb2'.alloc (by omega) _).grown hgrow (by simp;omega) (W7 hmo)
 have hsz3:=hb3.size;obtain⟨A3,ca,rfl⟩:=P4 hown3;have hown3':w3.ownsRow w.heap.size 207 1 (.slice A3 (La+2) ca) (La+2) (U (grp (x*s)++[0,0])):=by simpa using hown3
 obtain⟨ga,_,rfl,_,hga,hga3,_,_⟩:=Wh hown3' (k:=0) (by omega)
 obtain⟨hca1,hca2⟩:=Xk hown3';unfold maxLen at hca2;have HO3:=Lh hown3';clear hown3 hown3' hgrow hmo;have hbl3:=Zh w3 (.cells #[.int .u64 (s:Int)] 207);go_wp2_with fail
 refine (Qo _ _ n' c' 1 1 y s _ base' 0 (by exact own_below HH'.out (bto hb3 hbl3)) (by exact Iz w3 s hs1 hs2) (by omega) (by omega)).mono ?_
 rintro e w4 ⟨vb,rfl,hmb,hb4⟩;obtain⟨Ab,cb,rfl⟩:=hmb.form;obtain⟨k,hk0⟩:∃k,k=(grp (y*s)).length:=⟨_,rfl⟩
 have hmo:w4.ownsRow (w3.heap.size+1) 207 1 (.slice Ab (grp (y*s)).length cb) (grp (y*s)).length (U (grp (y*s))):=YC hmb (by simp)
 have hk2:2<=k:=by
  have:=ZD y (y*s) (Nat.le_mul_of_pos_right _ (by omega))
  have:=HLY.out
  omega
 have hkL:k<=La:=by
  have:=ZD (y*s) (x*s) (Nat.mul_le_mul_right _ hxy)
  have:=HLA.out
  omega
 rw[<-hk0] at hmo ⊢;have HK:=Lh hk0;obtain⟨gb,_,rfl,_,hgb,hgb4,_,_⟩:=Wh hmo (k:=0) (by omega)
 obtain⟨hcb1,hcb2⟩:=Xk hmo;unfold maxLen at hcb2;have hb4':Below w.heap.size w w4:=bto hb3 (bto hbl3 hb4);have hsz4:=hb4'.size;have HDW:Hid (DW w (w4.alloc (Gl (La+2-k))) ga gb w4.heap.size (La+2) ca k cb (grp (x*s)++[0,0]) (grp (y*s)) (List.replicate (La+2-k) 0)):=
  ⟨by omega,hgb4,hga,own_below HO3.out (bto hbl3 (bto hb4 (Zh _ _))),YC (own_below hmo (Zh _ _)) (by omega),Sk _ _,bto hb4' (Zh _ _)⟩
 have HDI:Hid (Va (grp (x*s)++[0,0]) [] (La+2) k (La+2-k) (y*s) (x*s)):=by
  have:=Va.start HK.out.symm hk2 (Nat.mul_le_mul_right s hxy)
  rw[<-HLA.out] at this;exact this
 have hmk:∀W:World,(Instr.makeSlice 120 (.int .i64 ((La:Int)+2-k)) (.int .i64 ((La:Int)+2-k))).run prog W=.ok (.slice (some ⟨W.heap.size,0,none⟩) (La+2-k) (La+2-k)) (W.alloc (Gl (La+2-k))):=fun W=>by
  have:=Sj 120 underlying120 (La+2-k) (La+2-k) ((La+2-k:Nat):Int) rfl (Nl _) (by omega) W
  rw[show ((La+2-k:Nat):Int)=(La:Int)+2-k by omega] at this
  exact this
 clear hmo hmb hk0 hb4 hbl3 hcell hsc;go_wp2;clear hmk;have hbk:y*s<BASE ^ k:=by have:=Xe (y*s);rwa [<-HK.out] at this
 obtain⟨bh,hbh⟩:∃bh,(grp (y*s))[k-1]?=some bh:=⟨_,List.getElem?_eq_getElem (by have:=HK.out;omega)⟩
 obtain⟨bm,hbm⟩:∃bm,(grp (y*s))[k-2]?=some bm:=⟨_,List.getElem?_eq_getElem (by have:=HK.out;omega)⟩
 have hbhb:bh<1000000000:=ZT _ bh (Lm hbh);have hbmb:bm<1000000000:=ZT _ bm (Lm hbm);obtain⟨htb1,htb2,hbh1⟩:=Em HK.out.symm hk2 hbh hbm;have HBK:=Lh hbk;have HBH:=Lh hbh;have HBM:=Lh hbm;have HTB:=Lh (And.intro htb1 htb2);clear hbk hbh hbm htb1 htb2
 go_loopw [13] (fun iv wr=>∃(t:Nat) (Al qs:List Nat),t<=La+2-k/\iv=.int .i64 ((t:Int)-1)/\Hid (Va Al qs (La+2) k t (y*s) (x*s))/\Hid (DW w wr ga gb w4.heap.size (La+2) ca k cb Al (grp (y*s)) (List.replicate t 0++qs))) (fun iv _=>(intOf iv+1).toNat)
 case atStart=>exact⟨La+2-k,_,[],Nl _,by congr 1;omega,HDI,by simpa using HDW⟩
 case round=>
  clear HDI HDW;obtain⟨t,Al,qs,ht,rfl,HDI,HDW⟩:=hrel
  by_cases ht0:t=0
  ·subst ht0;obtain⟨hq1,hr1,hqs,hrs⟩:=HDI.out.fin HBK.out;have hall:=HDI.out.1;have hql:=HDI.out.2.2.2.2.1;have hq:=HDW.out.q;rw[List.replicate_zero,List.nil_append] at hq;have hoq:=hq.own (base:=0) (n:=La+2-k) (Nat.zero_le _) (by omega) (by unfold maxLen;omega)
   rw[List.take_of_length_le (by omega),show qs.length=La+2-k by omega] at hoq
   have hoa:=M7 HDW.out.a (k:=k) (by omega) (by simp)
   have hca:=Ul hoa;rw[Je hs1] at hq1;have HQ:Hid (YJ qs=grp (x / y)):=by show _=_;rw[WY qs hqs,hq1]
   rw[WY _ hrs,hr1] at hca;have HA2:Hid (YJ (Al.take k)=grp (x*s % (y*s))):=by show _=_;rw[WY _ hrs,hr1]
   have HMOD:Hid (x*s % (y*s) / s=x % y):=Jf hs1;have hl2:(grp (x*s % (y*s))).length<=1000000000:=by
    have h1:=ZD _ _ (Nat.mod_le (x*s) (y*s))
    have:=HLA.out
    omega
   have HOA:=Lh hoa;have HOQ:=Lh hoq;have HCA:=Lh hca;have HBW:=Lh HDW.out.below;clear hq1 hr1 hqs hrs hall hql hq hoq hoa hca
   go_wp2_with (first
    | (go_at_call_of 130 (Value.slice (some ⟨ga,0,none⟩) k ca);refine (VL _ k ca (Al.take k) _ _ HOA.out).mono ?_;rintro e w5 ⟨he,rfl⟩;rw[HA2.out] at he;subst he)
    | (go_at_call 266;refine (Oq _ _ ca _ s _ _ HCA.out hl2 hs1 (by omega)).mono ?_;rintro e w6 ⟨vr,r6,rfl,_,hm6,hb6⟩;obtain⟨A6,c6,rfl⟩:=hm6.form;have hoq6:=own_below HOQ.out hb6)
    | (go_at_call 130;refine (VL _ (La+2-k) (La+2-k) qs _ _ hoq6).mono ?_;rintro e w7 ⟨rfl,rfl⟩))
   go_ret2;refine⟨_,_,rfl,UP (Ul hoq6) HQ.out,?_,bto HBW.out hb6⟩;rw[<-HMOD.out];exact hm6.base (Nat.zero_le _)
  ·obtain⟨j,rfl⟩:∃j,t=j+1:=⟨t-1,by omega⟩
   obtain⟨uh,huh⟩:∃u,Al[j+k]?=some u:=⟨_,List.getElem?_eq_getElem (by have:=HDI.out.1;omega)⟩
   obtain⟨um,hum⟩:∃u,Al[j+k-1]?=some u:=⟨_,List.getElem?_eq_getElem (by have:=HDI.out.1;omega)⟩
   obtain⟨ul,hul⟩:∃u,Al[j+k-2]?=some u:=⟨_,List.getElem?_eq_getElem (by have:=HDI.out.1;omega)⟩
   have huhb:uh<1000000000:=HDI.out.2.1 uh (Lm huh);have humb:um<1000000000:=HDI.out.2.1 um (Lm hum);have hulb:ul<1000000000:=HDI.out.2.1 ul (Lm hul);have hcuh:=HDW.out.cellA huh;have hcum:=HDW.out.cellA hum;have hcul:=HDW.out.cellA hul;have hcbh:=HDW.out.cellB HBH.out;have hcbm:=HDW.out.cellB HBM.out;obtain⟨top,htop⟩:∃top,top=uh*1000000000+um:=⟨_,rfl⟩
   have htopc:(uh:Int)*1000000000+um=(top:Int):=by omega
   obtain⟨q0,hq0⟩:∃q0,q0=top / bh:=⟨_,rfl⟩
   have hq0c:(top:Int) / bh=(q0:Int):=by rw[hq0,Int.natCast_ediv]
   have htopb:top<1000000000000000000:=by omega
   have hq0b:q0<=top:=by rw[hq0];exact Nat.div_le_self _ _
   have HTOP:=Lh htop;have HQ0:=Lh hq0;have HUH:=Lh huh;have HUM:=Lh hum;have HUL:=Lh hul;clear htop hq0 huh hum hul;go_wp2
   go_quiet (fail)
   go_upto_block 2 with fail
   go_cut [15] (fun s15 wx=>∃g:Nat,s15=.int .u64 (g:Int)/\g<=999999999/\Hid (TE (top*BASE+ul) (bh*BASE+bm) g/\g*(bh*BASE+bm)<=top*BASE+ul)/\∃q,wx=wr.drewN q)
   case first=>
    go_wp2
    go_loopw [15] (fun s15 wx=>∃g:Nat,s15=.int .u64 (g:Int)/\g<=999999999/\g*bh<=top/\Hid (TE (top*BASE+ul) (bh*BASE+bm) g)/\∃q,wx=wr.drewN q) (fun s15 _=>(intOf s15).toNat)
    case atStart=>
     refine⟨min q0 999999999,?_,Nat.min_le_right _ _,?_,?_,_,rfl⟩
     ·rcases Nat.le_total q0 999999999 with h1|h1
      ·rw[Nat.min_eq_left h1];congr 1;omega
      ·rw[Nat.min_eq_right h1];congr 1;omega
     ·rw[HQ0.out];exact Nt (Nat.mul_le_mul_right _ (Nat.min_le_left _ _)) (Nat.div_mul_le_self _ _)
     ·rcases TE.start (top:=top) (ul:=ul) (bm:=bm) hbh1 with h1|h1
      ·rw[HQ0.out];exact h1
      ·unfold BASE at h1;omega
    case round=>
     obtain⟨gs,rfl,hgs,hgt,HGU,q,rfl⟩:=hrel;obtain⟨p1,hp1⟩:∃p,p=gs*bh:=⟨_,rfl⟩
     obtain⟨p2,hp2⟩:∃p,p=gs*bm:=⟨_,rfl⟩
     have hp1c:(gs:Int)*bh=(p1:Int):=by rw[hp1];rfl
     have hp2c:(gs:Int)*bm=(p2:Int):=by rw[hp2];rfl
     have hp2b:p2<=999999999*999999999:=by rw[hp2];exact Nat.mul_le_mul hgs (by omega)
     rw[<-hp1] at hgt;have HP1:=Lh hp1;have HP2:=Lh hp2;clear hp1 hp2
     by_cases hl:p1+1000000000<=top
     ·have hl1:decide ((1000000000:Int)<=(top:Int)-p1)=true:=by simp;omega
      go_wp2
      go_quiet (fail)
      go_wp2
      go_meet
      refine⟨gs,rfl,hgs,⟨HGU.out,Ot (by rw[<-HP1.out];exact hgt) ?_⟩,_,World.drewN_drewN _ _ _⟩
      rw[<-HP1.out,<-HP2.out];unfold BASE;omega
     ·have hl1:decide ((1000000000:Int)<=(top:Int)-p1)=false:=by simp;omega
      by_cases hok:p2<=(top-p1)*1000000000+ul
      ·have hok1:decide ((p2:Int)<=((top:Int)-p1)*1000000000+ul)=true:=by simp;omega
       go_wp2
       go_quiet (fail)
       go_wp2
       go_meet
       refine⟨gs,rfl,hgs,⟨HGU.out,Ot (by rw[<-HP1.out];exact hgt) ?_⟩,_,World.drewN_drewN _ _ _⟩
       rw[<-HP1.out,<-HP2.out];exact hok
      ·have hok1:decide ((p2:Int)<=((top:Int)-p1)*1000000000+ul)=false:=by simp;omega
       obtain⟨hg1,hdown⟩:=HGU.out.down (by rw[<-HP1.out];exact hgt) (by rw[<-HP1.out,<-HP2.out];unfold BASE;omega)
       have HDN:=Lh hdown;clear hdown;go_wp2
       go_quiet (fail)
       go_wp2;go_roundw
       case rel=>
        refine⟨gs-1,by congr 1;omega,by omega,?_,HDN,_,rfl⟩
        refine Nt (Nat.mul_le_mul_right _ (Nat.sub_le _ _)) ?_;rw[<-HP1.out];exact hgt
       case measure=>simp[intOf];omega
   case rest=>
    obtain⟨gs,rfl,hgs,HGG,q,rfl⟩:=hcut;have HSUB0:Hid (QY (Al.drop j) (grp (y*s)) gs [] 0 0):=⟨rfl,fun x hx=>by simp at hx,by omega,by simp[gv]⟩
    have HDW1:=Lh (HDW.out.drewN q);clear hcuh hcum hcul hcbh hcbm htopc hq0c;go_wp2
    go_loopw [17,136] (fun bv rv wx=>∃(r br:Nat) (ps:List Nat),r<=k/\rv=.int .i64 (r:Int)/\bv=.int .u64 (br:Int)/\br<=999999999/\Hid (QY (Al.drop j) (grp (y*s)) gs ps r br)/\Hid (DW w wx ga gb w4.heap.size (La+2) ca k cb (Xq Al j ps r) (grp (y*s)) (List.replicate (j+1) 0++qs))) (fun _ rv _=>k-(intOf rv).toNat)
    case atStart=>exact⟨0,0,[],by omega,rfl,rfl,by omega,HSUB0,by rw[NA];exact HDW1⟩
    case round=>
     clear HSUB0 HDW1;obtain⟨r,br,ps,hr,rfl,rfl,hbr,HSU,HD⟩:=hrel;have hpl:=HSU.out.1;have hall:=HDI.out.1
     by_cases hrk:r<k
     ·obtain⟨xr,hxr⟩:∃u,Al[j+r]?=some u:=⟨_,List.getElem?_eq_getElem (by omega)⟩
      obtain⟨yr,hyr⟩:∃u,(grp (y*s))[r]?=some u:=⟨_,List.getElem?_eq_getElem (by have:=HK.out;omega)⟩
      have hxrb:xr<1000000000:=HDI.out.2.1 xr (Lm hxr);have hyrb:yr<1000000000:=ZT _ yr (Lm hyr);have hcx:=HD.out.cellA (i:=j+r) (x:=xr) (by rw[Sn hpl (by omega) (Nl _)];exact hxr)
      have hfx:=HD.out.frozenA (j+r);have hcy:=HD.out.cellB hyr;obtain⟨p,hp⟩:∃p,p=gs*yr:=⟨_,rfl⟩
      have hpc:(gs:Int)*yr=(p:Int):=by rw[hp];rfl
      have hpb:p<=999999999*999999999:=by rw[hp];exact Nat.mul_le_mul hgs (by omega)
      have hne:¬gb=ga:=by have:=HD.out.hab;omega
      have hne':¬ga=gb:=by have:=HD.out.hab;omega
      have HP:=Lh hp;have HXR:=Lh hxr;have HYR:=Lh hyr;have HPL:=Lh hpl;have HALL:=Lh hall;clear hp hxr hyr hpl hall
      by_cases hlt:xr<(p+br) % 1000000000
      ·go_wp2;go_roundw
       case rel=>
        refine⟨r+1,(p+br) / 1000000000+1,ps++[xr+1000000000-(p+br) % 1000000000],by omega,by go_num,congrArg (Value.int .u64) (by omega),by omega,HSU.out.step (by rw[List.getElem?_drop];exact HXR.out) HYR.out (by unfold BASE;omega) (by omega) (by rw[<-HP.out];unfold BASE;omega),?_⟩
        have h1:=(HD.out.setA (j+r) (xr+1000000000) (z:=(xr:Int)+1000000000) (by omega)).setA (j+r) (xr+1000000000-(p+br) % 1000000000) (z:=(xr:Int)+1000000000-((p:Int)+br) % 1000000000) (by omega)
        rw[List.set_set,UQ HPL.out (by rw[HALL.out];omega)] at h1
        exact h1
       case measure=>simp[intOf];omega
      ·go_wp2;go_roundw
       case rel=>
        refine⟨r+1,(p+br) / 1000000000,ps++[xr-(p+br) % 1000000000],by omega,by go_num,congrArg (Value.int .u64) (by omega),by omega,HSU.out.step (by rw[List.getElem?_drop];exact HXR.out) HYR.out (by unfold BASE;omega) (by omega) (by rw[<-HP.out];unfold BASE;omega),?_⟩
        have h1:=HD.out.setA (j+r) (xr-(p+br) % 1000000000) (z:=(xr:Int)-((p:Int)+br) % 1000000000) (by omega)
        rw[UQ HPL.out (by rw[HALL.out];omega)] at h1
        exact h1
       case measure=>simp[intOf];omega
     ·obtain rfl:k=r:=by omega
      have hgb:gv (grp (y*s))=y*s:=YQ _;have hcu:=HD.out.cellA (i:=j+k) (x:=uh) (by rw[Sn hpl (by omega) (Nl _)];exact HUH.out)
      have hfu:=HD.out.frozenA (j+k);have hcq:=HD.out.q.cell (Mo j qs);have hfq:=HD.out.q.frozen j;obtain⟨hu3,hul3⟩:=HDI.out.tops HBK.out hk2 HUH.out HUM.out HUL.out;obtain⟨hfin1,hfin2⟩:=HGG.out.1.fin HGG.out.2 (U:=gv (Al.drop j)) (b:=y*s) (P:=BASE ^ (k-2)) (by rw[HTOP.out];exact hu3) HTB.out.1 hul3 HTB.out.2 (Ah HTB.out.1 hbh1) HDI.out.lt
      have hqa:¬w4.heap.size=ga:=by have:=HD.out.hab;have:=HD.out.hbq;omega
      have hqa':¬ga=w4.heap.size:=by have:=HD.out.hab;have:=HD.out.hbq;omega
      have HPL:=Lh hpl;have HALL:=Lh hall;have HF1:=Lh hfin1;have HF2:=Lh hfin2;have HGB:=Lh hgb;clear hpl hall hfin1 hfin2 hgb hu3 hul3
      by_cases hub:br<=uh
      ·have HN:=Lh (Zbi HDI.out HBK.out HGB.out HK.out.symm HSU.out HUH.out hub HF1.out hgs);go_wp2;go_roundw
       case rel=>
        refine⟨j,Xq Al j (ps++[uh-br]) (k+1),gs::qs,by omega,by congr 1,HN,?_⟩
        have h1:=(HD.out.setA (j+k) (uh-br) (z:=(uh:Int)-br) (by omega)).setQ j gs rfl
        rw[UQ HPL.out (by rw[HALL.out];omega),Oo] at h1
        exact h1
       case measure=>simp[intOf]
      ·obtain⟨hg1,hgle,hgfin⟩:=HF2.out (Zbj HDI.out HBK.out HGB.out HK.out.symm HSU.out HUH.out (by omega))
       have HR3:Hid (∀(ps2:List Nat) (cy:Nat),ps2.length=k->small ps2->cy<=1->gv ps2+BASE ^ k*cy=gv ps+y*s->br<=uh+cy/\Va (Xq Al j (ps2++[uh+cy-br]) (k+1)) ((gs-1)::qs) (La+2) k j (y*s) (x*s)):=
        fun ps2 cy h1 h2 h3 h4=>Zbk HDI.out HBK.out HGB.out HK.out.symm HSU.out HUH.out (by omega) hg1 hgle hgfin hgs h1 h2 h3 h4
       have HPS:=Lh HSU.out.2.1;clear hgle hgfin hcq hfq;go_wp2;obtain⟨wo,hwo⟩:∃wo:World,wo=wr:=⟨_,rfl⟩
       clear hwo
       go_loopw [20,200] (fun cv rv wx=>∃(r cy:Nat) (ps2:List Nat),r<=k/\rv=.int .i64 (r:Int)/\cv=.int .u64 (cy:Int)/\cy<=1/\Hid (P9 ps (grp (y*s)) ps2 r cy)/\Hid (DW w wx ga gb w4.heap.size (La+2) ca k cb (Xq (Xq Al j ps k) j ps2 r) (grp (y*s)) (List.replicate (j+1) 0++qs))) (fun _ rv _=>k-(intOf rv).toNat)
       case atStart=>exact⟨0,0,[],by omega,rfl,rfl,by omega,⟨rfl,fun x hx=>by simp at hx,by simp[gv]⟩,by rw[NA];exact HD⟩
       case round=>
        clear HD hcu hfu;obtain⟨r,cy,ps2,hr,rfl,rfl,hcy,HPA,HD⟩:=hrel;have HA1:Hid ((Xq Al j ps k).length=La+2):=by show _=_;rw[Ou HPL.out (by rw[HALL.out];omega),HALL.out]
        by_cases hrk:r<k
        ·obtain⟨vr,hvr⟩:∃u,ps[r]?=some u:=⟨_,List.getElem?_eq_getElem (by rw[HPL.out];exact hrk)⟩
         obtain⟨yr,hyr⟩:∃u,(grp (y*s))[r]?=some u:=⟨_,List.getElem?_eq_getElem (by have:=HK.out;omega)⟩
         have hvrb:vr<1000000000:=HPS.out vr (Lm hvr);have hyrb:yr<1000000000:=ZT _ yr (Lm hyr);have hcx:=HD.out.cellA (i:=j+r) (x:=vr) (by rw[Sn HPA.out.1 (by rw[HA1.out];omega) (Nl _),Ai HPL.out (by rw[HALL.out];omega) hrk];exact hvr)
         have hfx:=HD.out.frozenA (j+r);have hcy':=HD.out.cellB hyr;have hne:¬gb=ga:=by have:=HD.out.hab;omega
         have hne':¬ga=gb:=by have:=HD.out.hab;omega
         have HVR:=Lh hvr;have HYR:=Lh hyr;clear hvr hyr;go_wp2
         go_region
         all_goals go_wp2
         all_goals go_roundw
         case rel=>
          refine⟨r+1,(vr+cy+yr) / 1000000000,ps2++[(vr+cy+yr) % 1000000000],by omega,by go_num,congrArg (Value.int .u64) (by omega),by omega,HPA.out.step HVR.out yr (.inl HYR.out) rfl,?_⟩
          have h1:=(HD.out.setA (j+r) (vr+(yr+cy)) (z:=(vr:Int)+(yr+cy)) (by omega)).setA (j+r) ((vr+cy+yr) % 1000000000) (z:=((vr:Int)+(yr+cy)) % 1000000000) (by omega)
          rw[List.set_set,UQ HPA.out.1 (by rw[HA1.out];omega)] at h1
          exact h1.drew
         case measure=>simp[intOf];omega
        ·obtain rfl:k=r:=by omega
         have hv2:gv ps2+BASE ^ k*cy=gv ps+y*s:=by
          rw[HPA.out.2.2,List.take_of_length_le (by rw[HPL.out];omega),List.take_of_length_le (by rw[<-HK.out];omega),HGB.out]
         obtain⟨hbr3,hn3⟩:=HR3.out ps2 cy HPA.out.1 HPA.out.2.1 hcy hv2;have HN:=Lh hn3;have hcu:=HD.out.cellA (i:=j+k) (x:=uh) (by rw[Sn HPA.out.1 (by rw[HA1.out];omega) (Nl _),Sn HPL.out (by rw[HALL.out];omega) (Nl _)];exact HUH.out)
         have hfu:=HD.out.frozenA (j+k);have hcq:=HD.out.q.cell (Mo j qs);have hfq:=HD.out.q.frozen j;clear hv2 hn3;go_wp2;go_roundw
         case rel=>
          refine⟨j,Xq Al j (ps2++[uh+cy-br]) (k+1),(gs-1)::qs,by omega,by congr 1,HN,?_⟩
          have h1:=(HD.out.setA (j+k) (uh+cy-br) (z:=(uh:Int)+cy-br) (by omega)).setQ j (gs-1) (z:=(gs:Int)-1) (by omega)
          rw[UQ HPA.out.1 (by rw[HA1.out];omega),GD HPL.out (by rw[HALL.out];omega),Oo] at h1
          exact h1
         case measure=>simp[intOf]
theorem TX (A A':Option Addr) (n c n' c':Nat) (x y:Nat) (w:World) (base base':Nat) (h:w.ownsRow base 207 1 (.slice A n c) n (U (grp x))) (h':w.ownsRow base' 207 1 (.slice A' n' c') n' (U (grp y)))
  (hy:y≠0) (hn:n<=100000000):Calls prog 202 #[.slice A n c,.slice A' n' c'] w (PO w x y):=by
 rcases Nat.lt_or_ge x y with hlt|hge
 ·exact GC A A' n c n' c' x y w base base' h h' hlt
 ·have hl:=ZG h';have h0:n'≠0:=by intro e;rw[e] at hl;exact hy ((Wd y).1 (List.eq_nil_of_length_eq_zero hl))
  by_cases h1:n'=1
  ·subst h1;exact Jd A A' n c c' x y w base base' h h' hge (by omega)
  ·exact Ji A A' n c n' c' x y w base base' h h' hge hn (by omega)
end Go.Proofs.YtpieeldbamklkaaGreatDoor
