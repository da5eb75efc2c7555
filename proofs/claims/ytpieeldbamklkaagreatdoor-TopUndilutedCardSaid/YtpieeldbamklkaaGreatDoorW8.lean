/- Texts put together: Rn Ro Uv Rp Rq Rs Rt Ru Rv Rw Rx Ry Rz Zp. -/
import Derived.Test.YtpieeldbamklkaaGreatDoorW7
import Derived.OwnWalkIn
set_option maxHeartbeats 8000000
set_option maxRecDepth 100000
namespace Go.Proofs.YtpieeldbamklkaaGreatDoor
open Go.RowKit Num
structure Cs (xs:List Lot) (ps:List Pk) (k:Nat) (s:List Lot×List Lot):Prop where
 ok:P4 s.1 (ps.drop k)
 old:∀p∈ps.drop k,∀y∈s.1,y.id=p.lot->y∈xs
 len:s.1.length<=xs.length
 tak:s.2.length=k
theorem Jh {xs:List Lot} {ps:List Pk} (h:P4 xs ps):Cs xs ps 0 (xs,[]):=⟨h,fun _ _ _ hy _=>hy,Nl _,rfl⟩
theorem drop_at {α:Type} {ps:List α} {k:Nat} {p:α} (h:ps[k]?=some p):ps.drop k=p::ps.drop (k+1):=by
 obtain⟨hk,rfl⟩:=Lg.1 h;exact List.drop_eq_getElem_cons hk
theorem Gq {xs:List Lot} {ps:List Pk} {k:Nat} {s:List Lot×List Lot} {p:Pk} (h:Cs xs ps k s) (hp:ps[k]?=some p):Cs xs ps (k+1) (stepT s p)/\Yr s (ps.drop k)=Yr (stepT s p) (ps.drop (k+1)):=by
 have hok:=h.ok;have hold:=h.old;rw[drop_at hp] at hok hold;obtain⟨h1,h2,-,-,-,h6⟩:=M8 (xs:=s.1) (t:=s.2) hok;have hnd:=hok.pnd;rw[List.map_cons,List.nodup_cons] at hnd;refine⟨⟨h1,fun r hr y hy e=>hold r (List.mem_cons_of_mem _ hr) y (h6 y hy (fun e2=>hnd.1 (List.mem_map.2 ⟨r,hr,e ▸ e2⟩))) e,Nt h2.len h.len,?_⟩,by rw[drop_at hp];rfl⟩
 have h3:=congrArg List.length h2.qs;simp only[List.length_map,List.length_append,List.length_cons,List.length_nil] at h3
 have:=h.tak
 show (stepT (s.1,s.2) p).2.length=_;omega
theorem Vs (w1:World) (a b:Obj):((w1.alloc a).alloc b).heap[w1.heap.size]?=some a/\((w1.alloc a).alloc b).heap[w1.heap.size+1]?=some b/\Below w1.heap.size w1 ((w1.alloc a).alloc b)/\((w1.alloc a).alloc b).heap.size=w1.heap.size+2:=by
 have h1:=ZF w1 a;have h2:=ZF (w1.alloc a) b;have hb1:=Zd w1 a;have hb2:=Zd (w1.alloc a) b;have e:(w1.alloc a).heap.size=w1.heap.size+1:=by simp
 rw[e] at h2;exact⟨Zw h1 hb2,h2,bto hb1 hb2,by simp⟩
structure T8 (w:World) (B g cp:Nat) (s:List Lot×List Lot) (v:Value) (W:World):Prop where
 below:Below w.heap.size w W
 lo:w.heap.size<=g
 gb:g<B
 le:B<=W.heap.size
 row:YD W g s.1
 cap:s.1.length<=cp
 tak:WR W B v s.2
theorem T8.go {w W W':World} {B g cp:Nat} {s:List Lot×List Lot} {v:Value} (h:T8 w B g cp s v W) (hb:Below W.heap.size W W'):T8 w B g cp s v W':=
 ⟨bto h.below hb,h.lo,h.gb,Nt h.le hb.size,h.row.below hb,h.cap,h.tak.below hb⟩
theorem T8.app {w W W':World} {B g cp n:Nat} {s:List Lot×List Lot} {v v':Value} {x:Lot} (h:T8 w B g cp s v W) (hn:s.2.length=n) (ho:W'.ownsRow B 130 7 v' (n+1) (Z8 s.2++lcs x)) (hg:W.grownBy W' v.ownBlock):T8 w B g cp (s.1,s.2++[x]) v' W':=by
 have hov:∀k,v.ownBlock=some k->B<=k:=fun k hk=>(h.tak.block k hk).1
 have hgb:=h.gb;have hlo:=h.lo;refine⟨h.below.grown hg h.below.size (fun k hk=>by have:=hov k hk;omega),h.lo,h.gb,Nt h.le hg.size,?_,h.cap,WR.app ho hn⟩
 obtain⟨cur,hc,hr⟩:=h.row;exact⟨cur,(hg.block g (Ag.1 hc).1 (fun e=>by have:=hov g e.symm;omega)).trans hc,hr⟩
theorem T8.turn {w W W':World} {B g cp:Nat} {s:List Lot×List Lot} {l:List Lot} {v:Value} (h:T8 w B g cp s v W) (hx:Zr (fun b=>b=g) W W') (hr:YD W' g l) (hl:l.length<=s.1.length):T8 w B g cp (l,s.2) v W':=by
 have hgb:=h.gb;have hlo:=h.lo;refine⟨⟨hx.os.trans h.below.os,hx.tape.trans h.below.tape,hx.output.trans h.below.output,Nt h.below.size hx.size,fun k hk=>?_⟩,h.lo,h.gb,Nt h.le hx.size,hr,Nt hl h.cap,h.tak.keepX hx (fun k hk e=>by have:=(h.tak.block k hk).1;omega)⟩
 have:=h.below.size
 exact (hx.block k (by omega) (by omega)).trans (h.below.block k hk)
theorem ZaP {w:World} {A Ap:Option Addr} {xs:List Lot} {ps:List Pk} {n np:Nat} (c cp:Nat) (hG:GE w) (hL:Xl w A xs n) (hn0:0<n) (hV:Vj xs=0) (hP:UG w Ap ps) (hpn:ps.length=np) (hpc:np<=cp) (hpn2:np<=100000) (hps:∀p∈ps,p.lot.length<=1000/\p.q.length<=1000) (hQ:VA xs [] ps=0) (hok:P4 xs ps) :
  Calls Tryz.prog 168 #[.slice A n c,.slice Ap np cp] w fun e w'=>∃g cr v B,e=.returned (.tuple #[.slice (some ⟨g,0,none⟩) (Yr (xs,[]) ps).1.length cr,v,.int .i64 0])/\T8 w B g cr (Yr (xs,[]) ps) v w':=by
 obtain⟨Z,hZ⟩:∃Z,Z=Yr (xs,[]) ps:=⟨_,rfl⟩
 rw[<-hZ];have HZ:Hid (Z=Yr (xs,[]) (ps.drop 0)):=hZ;clear hZ;have hn2:=hL.big;have hvs:∀x∈xs,UF x=0:=by
  unfold Vj at hV
  by_cases h1:1000<xs.length
  ·rw[if_pos h1] at hV;exact absurd hV (by decide)
  ·rw[if_neg h1] at hV;exact (PP _ _ hV).1
 have K1:=Lh (Qb c hG hL);rw[hV] at K1;have HL:=Lh hL;have HP:=Lh hP;have HPS:=Lh hps;have HVS:=Lh hvs;have hp1:ps.length<=np:=by omega
 have hp2:np<=ps.length:=by omega
 have HI:=Lh (Jh hok);have HG:=Lh hG;have HPN:=Lh hpn;have HQ:=Lh hQ;clear hL hP hps hV hvs hok hQ hpn;go_enter Tryz.func168,Tryz.ntmps168;go_wp2_with fail
 with_reducible refine K1.out.mono ?_
 rintro e w1 ⟨rfl,hb1⟩;clear K1;have K2:=Lh (Gp (w:=w1) c cp (hG.below hb1) (HL.out.below hb1) (HP.out.below hb1) HPN.out hpc hpn2 (fun p hp=>⟨(HPS.out p hp).1,by have:=(HPS.out p hp).2;omega⟩))
 rw[HQ.out] at K2;go_wp2_with fail
 with_reducible refine K2.out.mono ?_
 rintro e w2 ⟨rfl,hb2⟩;replace hb2:=bto hb1 hb2;clear K2 hb1;have K3:=Lh (AU A xs n c w2 HL.out.len hn0 (by omega) ((HL.out.below hb2).mem))
 go_wp2_with fail
 with_reducible refine K3.out.mono ?_
 rintro e w3 ⟨v0,rfl,hrow,hb3⟩;clear K3;obtain⟨g,cr,rfl,hgB,hgc,hlr⟩:=hrow.row (by rw[HL.out.len];exact hn0)
 obtain⟨B,hB⟩:∃B,B=w3.heap.size:=⟨_,rfl⟩
 have hb23:=bto hb2 hb3;have HC:Hid (T8 w B g cr (xs,[]) (.slice none 0 0) w3):=⟨hb23,Nt hb2.size hgB,by rw[hB];exact hlr.lt,by rw[hB];exact Nl _,hlr,hgc,Es _ _⟩
 clear hrow hb2 hb3 hb23 hlr hgB hgc hB;go_wp2_with fail
 go_loopw [8,9,11,12,13,14,15,16,17,31,35,60] (fun rv tv _ _ _ _ _ _ _ iv _ _ wr=>∃(k:Nat) (s:List Lot×List Lot) (v:Value),k<=np/\v=tv/\iv=.int .i64 (k:Int)/\rv=.slice (some ⟨g,0,none⟩) s.1.length cr/\Hid (T8 w B g cr s v wr)/\Hid (Cs xs ps k s)/\Hid (Z=Yr s (ps.drop k))) (fun _ _ _ _ _ _ _ _ _ iv _ _ _=>np-(intOf iv).toNat)
 case atStart=>exact⟨0,(xs,[]),_,Nat.zero_le _,rfl,rfl,rfl,HC.out,HI.out,HZ.out⟩
 case round=>
  clear HC HI HZ;obtain⟨k,s,v,hk,rfl,rfl,rfl,HC,HI,HZ⟩:=hrel
  by_cases hlk:k<np
  rotate_left
  ·have HQ:Hid (Z=s):=by
    have h:=HZ.out;rw[List.drop_of_length_le (by omega)] at h
    exact h
   have e1:decide (k<np)=false:=Df hlk;have e2:decide ((k:Int)<(np:Int))=false:=Df (by omega)
   have hfin:=HC.out;rw[<-HQ.out] at hfin;have HF:=Lh hfin;rw[<-HQ.out];clear HZ HC HI hfin;go_wp2;refine bodyPost_ret (v:=.tuple #[.slice (some ⟨g,0,none⟩) Z.1.length cr,v,.int .i64 0]) (by simp[results,Tryz.results168,go_sem]) rfl ?_
   exact⟨g,cr,_,B,rfl,HF.out⟩
  have e1:decide (k<np)=true:=Dt hlk;have e2:decide ((k:Int)<(np:Int))=true:=Dt (by omega)
  obtain⟨p,hp⟩:∃p,ps[k]?=some p:=⟨_,List.getElem?_eq_getElem (by have:=HPN.out;omega)⟩
  have hpz:=HPS.out p (Lm hp);have hsl:=HI.out.len;have hst:=HI.out.tak;have hLn:=HL.out.len;have hok:=HI.out.ok;have hold:=HI.out.old;obtain⟨hI2,hZ2⟩:=Gq HI.out hp;have HI2:=Lh hI2;have HZ2:=Lh (HZ.out.trans hZ2);rw[drop_at hp] at hok hold;obtain⟨i,x,hzi,hxi,hxid,hxq,hle,hes⟩:=M7 (xs:=s.1) (t:=s.2) (hok.all p List.mem_cons_self) hok.nd;have hpk:=hok.all p List.mem_cons_self;have hpc2:=hpk.can;have hpp:=hpk.pos;have hxin:=hold p List.mem_cons_self x (Lm hxi) hxid;have hxs:=HL.out.sm x hxin;have hxe:=HVS.out x hxin;have hiN:i<s.1.length:=Ep hxi;have HES:Hid (stepT s p=if x.q=p.q then (s.1.eraseIdx i,s.2++[x]) else (s.1.set i (WA x p.q),s.2++[WP x p.q])):=hes
  obtain⟨m,hm⟩:∃m,m=s.1.length:=⟨_,rfl⟩
  rw[<-hm] at hiN hsl ⊢;have hmc:m<=cr:=by rw[hm];exact HC.out.cap
  obtain⟨bp,op,rfl,hbps,p0,p1⟩:=(HP.out.below HC.out.below) k p hp;have hbA:=Zd wr (.cells #[.string ⟨p.lot.toArray⟩,.string ⟨p.q.toArray⟩] 195);have X1:=Lh (Blk.new wr #[.string ⟨p.lot.toArray⟩,.string ⟨p.q.toArray⟩] 195);have q0:=X1.out.c 0;replace HC:=Lh (HC.out.go hbA);have KF:=Lh (BR cr p.lot hm.symm (by omega) HC.out.row.lotAt)
  have hpos:F7 (ZO (isLt p.lot) s.1 0)=(i:Int):=by rw[hzi];exact if_pos (by omega)
  have hdec:decide (0<=ZO (isLt p.lot) s.1 0)=true:=Dt (by rw[hzi];omega)
  rw[hpos,hdec] at KF;have HXI:=Lh hxi;have HXQ:=Lh hxq;have HPC:=Lh hpc2;have HXE:=Lh hxe;have HHL:=Lh hle;have HPP:=Lh hpp;clear hxq hpc2 hxid hxe hle hpp;obtain⟨bx,hbx⟩:∃bx,bx=wr.heap.size:=⟨_,rfl⟩
  rw[<-hbx] at X1 q0;have HBX:=Lh hbx;have HM:=Lh hm;have hkc:(k:Int)<=(cp:Int):=by omega
  clear hp hbA HZ HI hI2 hZ2 hok hold hzi hxi hes hpk hxin hbx hm hpos hdec hbps;go_wp2_with fail;rw[<-HBX.out]
  with_reducible refine KF.out.mono ?_
  rintro e w4 ⟨rfl,hb4⟩;clear p0 p1 q0 KF e1 e2;replace X1:=Lh (X1.out.below hb4);replace HC:=Lh (HC.out.go hb4);clear hb4;have hcells:=HC.out.row.cells HXI.out;have p0:=hcells.c0;have p1:=hcells.c1;have p2:=hcells.c2;have p3:=hcells.c3;have p4:=hcells.c4;have p5:=hcells.c5;have p6:=hcells.c6;have hbA:=Zd w4 (.cells #[Value.string ⟨x.id.toArray⟩,Value.string ⟨x.ins.toArray⟩,Value.int .i64 x.acq,Value.int .i64 x.opn,Value.string ⟨x.q.toArray⟩,Value.string ⟨x.cost.toArray⟩,Value.string ⟨x.used.toArray⟩] 130);have Y1:=Lh (Xf.new w4 x 130);obtain⟨by0,hby⟩:∃b,b=w4.heap.size:=⟨_,rfl⟩
  rw[<-hby] at Y1;have HBY:=Lh hby;have q0:=Y1.out.c0;have q1:=Y1.out.c1;have q2:=Y1.out.c2;have q3:=Y1.out.c3;have q4:=Y1.out.c4;have q5:=Y1.out.c5;have q6:=Y1.out.c6;have r1:=(X1.out.below hbA).c 1;have HC2:=Lh (HC.out.go hbA);have HCZ:Hid (B<=w4.heap.size):=HC.out.le;have X2:=Lh (X1.out.below hbA);clear hcells hby;obtain⟨i0,hi,hz0,hz1,hz2⟩:=info_parts UQ;have hmb:m<=100000:=by omega
  have hkb:k<100000:=by omega
  have HOW:Hid ((w4.alloc (.cells #[Value.string ⟨x.id.toArray⟩,Value.string ⟨x.ins.toArray⟩,Value.int .i64 x.acq,Value.int .i64 x.opn,Value.string ⟨x.q.toArray⟩,Value.string ⟨x.cost.toArray⟩,Value.string ⟨x.used.toArray⟩] 130)).ownsRow B 130 7 v k (Z8 s.2)):=by
   have h:=HC2.out.tak;unfold WR at h;rw[hst] at h;exact h
  have HST:=Lh hst
  by_cases g1:x.q=p.q
  ·have t1:(x.q==p.q)=true:=by rw[g1];simp
   have HE1:Hid (stepT s p=(s.1.eraseIdx i,s.2++[x])):=HES.out.trans (if_pos g1);have hbq:=Zd (w4.alloc (.cells #[Value.string ⟨x.id.toArray⟩,Value.string ⟨x.ins.toArray⟩,Value.int .i64 x.acq,Value.int .i64 x.opn,Value.string ⟨x.q.toArray⟩,Value.string ⟨x.cost.toArray⟩,Value.string ⟨x.used.toArray⟩] 130)) (.cells #[Value.string ⟨x.id.toArray⟩,Value.string ⟨x.ins.toArray⟩,Value.int .i64 x.acq,Value.int .i64 x.opn,Value.string ⟨x.q.toArray⟩,Value.string ⟨x.cost.toArray⟩,Value.string ⟨x.used.toArray⟩] 130);have HAN:Hid (((w4.alloc (.cells #[Value.string ⟨x.id.toArray⟩,Value.string ⟨x.ins.toArray⟩,Value.int .i64 x.acq,Value.int .i64 x.opn,Value.string ⟨x.q.toArray⟩,Value.string ⟨x.cost.toArray⟩,Value.string ⟨x.used.toArray⟩] 130)).alloc (.cells #[Value.string ⟨x.id.toArray⟩,Value.string ⟨x.ins.toArray⟩,Value.int .i64 x.acq,Value.int .i64 x.opn,Value.string ⟨x.q.toArray⟩,Value.string ⟨x.cost.toArray⟩,Value.string ⟨x.used.toArray⟩] 130)).heap[w4.heap.size+1]?=some (.cells #[Value.string ⟨x.id.toArray⟩,Value.string ⟨x.ins.toArray⟩,Value.int .i64 x.acq,Value.int .i64 x.opn,Value.string ⟨x.q.toArray⟩,Value.string ⟨x.cost.toArray⟩,Value.string ⟨x.used.toArray⟩] 130)):=by
    have h:=ZF (w4.alloc (.cells #[Value.string ⟨x.id.toArray⟩,Value.string ⟨x.ins.toArray⟩,Value.int .i64 x.acq,Value.int .i64 x.opn,Value.string ⟨x.q.toArray⟩,Value.string ⟨x.cost.toArray⟩,Value.string ⟨x.used.toArray⟩] 130)) (.cells #[Value.string ⟨x.id.toArray⟩,Value.string ⟨x.ins.toArray⟩,Value.int .i64 x.acq,Value.int .i64 x.opn,Value.string ⟨x.q.toArray⟩,Value.string ⟨x.cost.toArray⟩,Value.string ⟨x.used.toArray⟩] 130);rw[show (w4.alloc (.cells #[Value.string ⟨x.id.toArray⟩,Value.string ⟨x.ins.toArray⟩,Value.int .i64 x.acq,Value.int .i64 x.opn,Value.string ⟨x.q.toArray⟩,Value.string ⟨x.cost.toArray⟩,Value.string ⟨x.used.toArray⟩] 130)).heap.size=w4.heap.size+1 by simp] at h
    exact h
   have HAZ:Hid (((w4.alloc (.cells #[Value.string ⟨x.id.toArray⟩,Value.string ⟨x.ins.toArray⟩,Value.int .i64 x.acq,Value.int .i64 x.opn,Value.string ⟨x.q.toArray⟩,Value.string ⟨x.cost.toArray⟩,Value.string ⟨x.used.toArray⟩] 130)).alloc (.cells #[Value.string ⟨x.id.toArray⟩,Value.string ⟨x.ins.toArray⟩,Value.int .i64 x.acq,Value.int .i64 x.opn,Value.string ⟨x.q.toArray⟩,Value.string ⟨x.cost.toArray⟩,Value.string ⟨x.used.toArray⟩] 130)).heap.size=w4.heap.size+2):=by show _=_;simp
   clear g1 HES HC hbA hsl hLn hst;go_wp2_with (at_builtin;refine ZM rfl _ _ 44 rfl B 130 i0 (.agg #[.string ⟨#[]⟩,.string ⟨#[]⟩,.int .i64 0,.int .i64 0,.string ⟨#[]⟩,.string ⟨#[]⟩,.string ⟨#[]⟩]) 7 96 Tryz.underlying44 hi hz0 hz1 hz2 rfl (by decide) _ _ _ rfl (Zz HOW.out hbq) ⟨w4.heap.size+1,0,none⟩ 1 1 (lcs x) rfl rfl ?c1 ?c2 ?c3 ?c4 ?c5 ?_)
   case c1=>
    intro j u hu;have hj:j<7:=VU hu
    match j,hj with
    | 0,_=>cases hu;exact Zh HAN.out 0
    | 1,_=>cases hu;exact Zh HAN.out 1
    | 2,_=>cases hu;exact Zh HAN.out 2
    | 3,_=>cases hu;exact Zh HAN.out 3
    | 4,_=>cases hu;exact Zh HAN.out 4
    | 5,_=>cases hu;exact Zh HAN.out 5
    | 6,_=>cases hu;exact Zh HAN.out 6
   case c2=>exact fun u hu=>VT [x] u (by rw[XZ];exact hu)
   case c3=>unfold maxLen;omega
   case c4=>omega
   case c5=>have:=HCZ.out;have:=HAZ.out;omega
   intro v' w5 hown' hgrow hfresh;have HC3:=Lh ((HC2.out.go hbq).app HST.out hown' hgrow);obtain⟨cur,hcur,hct,hcs⟩:=HC3.out.row;rw[<-HM.out] at hct hcs;have KD:=Lh (Zbr g m cr i cur s.1 w5 HM.out.symm hiN hmc hcur hcs hct);clear hown' hgrow hfresh hcur hct hcs HC2 HOW hbq p0 p1 p2 p3 p4 p5 p6 q0 q1 q2 q3 q4 q5 q6 r1 t1 hi hz0 hz1 hz2;go_wp2_with fail
   with_reducible refine KD.out.mono ?_
   rintro e w6 ⟨rfl,hlr,hbx⟩;have HC4:Hid (T8 w B g cr (stepT s p) v' w6):=by
    rw[HE1.out];exact HC3.out.turn hbx hlr (by show (s.1.eraseIdx i).length<=s.1.length;rw[TO HM.out.symm hiN,<-HM.out];omega)
   have hsz:m-1=(stepT s p).1.length:=by rw[HE1.out];exact (TO HM.out.symm hiN).symm
   have HSZ:Hid (∀z,Value.slice (some ⟨g,0,none⟩) (m-1) z=.slice (some ⟨g,0,none⟩) (stepT s p).1.length z):=fun z=>by rw[hsz]
   clear hlr hbx KD HC3 hsz;go_wp2;go_roundw
   case rel=>exact⟨k+1,stepT s p,v',by omega,rfl,by go_num,HSZ.out _,HC4.out,HI2.out,HZ2.out⟩
   case measure=>simp[intOf];omega
  ·have t1:(x.q==p.q)=false:=by simp[g1]
   have HE1:Hid (stepT s p=(s.1.set i (WA x p.q),s.2++[WP x p.q])):=HES.out.trans (if_neg g1);have hlt:val p.q<val x.q:=by
    rcases Int.lt_or_le (val p.q) (val x.q) with h1|h1
    ·exact h1
    ·exfalso
     have h2:=HHL.out;apply g1;rw[HXQ.out,HPC.out];congr 1;omega
   have KC:=Lh (Zbm hxs HXE.out (q:=p.q) hpz.2 HPC.out HPP.out hlt);obtain⟨xa,hxa⟩:∃xa,xa=WP x p.q:=⟨_,rfl⟩
   obtain⟨xb,hxb⟩:∃xb,xb=WA x p.q:=⟨_,rfl⟩
   rw[<-hxa,<-hxb] at KC HE1;clear g1 HES HC hbA hlt hxa hxb hsl hLn hst;go_wp2_with fail
   with_reducible refine (KC.out.of HG.out HC2.out.below).mono ?_
   rintro e w5 ⟨rfl,hb5⟩;clear p0 p1 p2 p3 p4 p5 p6 q0 q1 q2 q3 q4 q5 q6 r1 t1;replace HC2:=Lh (HC2.out.go hb5);replace HOW:=Lh (Zz HOW.out hb5);have hvb:∀b,v.ownBlock=some b->b<w5.heap.size:=fun b hb=>(HC2.out.tak.block b hb).2
   go_upto_region 17 with fail
   obtain⟨hA1,hA2,hA3,hA4⟩:=Vs w5 (.cells #[Value.string ⟨xa.id.toArray⟩,Value.string ⟨xa.ins.toArray⟩,Value.int .i64 xa.acq,Value.int .i64 xa.opn,Value.string ⟨xa.q.toArray⟩,Value.string ⟨xa.cost.toArray⟩,Value.string ⟨xa.used.toArray⟩] 130) (.cells #[Value.string ⟨xb.id.toArray⟩,Value.string ⟨xb.ins.toArray⟩,Value.int .i64 xb.acq,Value.int .i64 xb.opn,Value.string ⟨xb.q.toArray⟩,Value.string ⟨xb.cost.toArray⟩,Value.string ⟨xb.used.toArray⟩] 130);obtain⟨w7,hw7⟩:∃w7,w7=(w5.alloc (.cells #[Value.string ⟨xa.id.toArray⟩,Value.string ⟨xa.ins.toArray⟩,Value.int .i64 xa.acq,Value.int .i64 xa.opn,Value.string ⟨xa.q.toArray⟩,Value.string ⟨xa.cost.toArray⟩,Value.string ⟨xa.used.toArray⟩] 130)).alloc (.cells #[Value.string ⟨xb.id.toArray⟩,Value.string ⟨xb.ins.toArray⟩,Value.int .i64 xb.acq,Value.int .i64 xb.opn,Value.string ⟨xb.q.toArray⟩,Value.string ⟨xb.cost.toArray⟩,Value.string ⟨xb.used.toArray⟩] 130):=⟨_,rfl⟩
   rw[<-hw7] at hA1 hA2 hA3 hA4 ⊢;obtain⟨ba,hba⟩:∃ba,ba=w5.heap.size:=⟨_,rfl⟩
   rw[<-hba] at hA1 hA2 hA4 hvb ⊢;have q0:=Zh hA1 0;have q1:=Zh hA1 1;have q2:=Zh hA1 2;have q3:=Zh hA1 3;have q4:=Zh hA1 4;have q5:=Zh hA1 5;have q6:=Zh hA1 6;replace HC2:=Lh (HC2.out.go hA3);replace HOW:=Lh (Zz HOW.out hA3);replace HCZ:=Lh HC2.out.le;have hbq:=Zd w7 (.cells #[Value.string ⟨xa.id.toArray⟩,Value.string ⟨xa.ins.toArray⟩,Value.int .i64 xa.acq,Value.int .i64 xa.opn,Value.string ⟨xa.q.toArray⟩,Value.string ⟨xa.cost.toArray⟩,Value.string ⟨xa.used.toArray⟩] 130);have HAN:=Lh (ZF w7 (.cells #[Value.string ⟨xa.id.toArray⟩,Value.string ⟨xa.ins.toArray⟩,Value.int .i64 xa.acq,Value.int .i64 xa.opn,Value.string ⟨xa.q.toArray⟩,Value.string ⟨xa.cost.toArray⟩,Value.string ⟨xa.used.toArray⟩] 130));have HAZ:Hid ((w7.alloc (.cells #[Value.string ⟨xa.id.toArray⟩,Value.string ⟨xa.ins.toArray⟩,Value.int .i64 xa.acq,Value.int .i64 xa.opn,Value.string ⟨xa.q.toArray⟩,Value.string ⟨xa.cost.toArray⟩,Value.string ⟨xa.used.toArray⟩] 130)).heap.size=w7.heap.size+1):=by show _=_;simp
   have HB2:=Lh hA2;have HVB:=Lh hvb;have HA4:=Lh hA4;clear hw7 hba hA1 hA2 hA3 hA4 hvb hb5;go_wp2_with (at_builtin;refine ZM rfl _ _ 44 rfl B 130 i0 (.agg #[.string ⟨#[]⟩,.string ⟨#[]⟩,.int .i64 0,.int .i64 0,.string ⟨#[]⟩,.string ⟨#[]⟩,.string ⟨#[]⟩]) 7 96 Tryz.underlying44 hi hz0 hz1 hz2 rfl (by decide) _ _ _ rfl (Zz HOW.out hbq) ⟨w7.heap.size,0,none⟩ 1 1 (lcs xa) rfl rfl ?c1 ?c2 ?c3 ?c4 ?c5 ?_)
   case c1=>
    intro j u hu;have hj:j<7:=VU hu
    match j,hj with
    | 0,_=>cases hu;exact Zh HAN.out 0
    | 1,_=>cases hu;exact Zh HAN.out 1
    | 2,_=>cases hu;exact Zh HAN.out 2
    | 3,_=>cases hu;exact Zh HAN.out 3
    | 4,_=>cases hu;exact Zh HAN.out 4
    | 5,_=>cases hu;exact Zh HAN.out 5
    | 6,_=>cases hu;exact Zh HAN.out 6
   case c2=>exact fun u hu=>VT [xa] u (by rw[XZ];exact hu)
   case c3=>unfold maxLen;omega
   case c4=>omega
   case c5=>have:=HCZ.out;have:=HAZ.out;omega
   intro v' w8 hown' hgrow hfresh;have HC3:=Lh ((HC2.out.go hbq).app HST.out hown' hgrow);have h16:w8.heap[ba+1]?=some (.cells #[Value.string ⟨xb.id.toArray⟩,Value.string ⟨xb.ins.toArray⟩,Value.int .i64 xb.acq,Value.int .i64 xb.opn,Value.string ⟨xb.q.toArray⟩,Value.string ⟨xb.cost.toArray⟩,Value.string ⟨xb.used.toArray⟩] 130):=by
    have h1:=Zw HB2.out hbq;refine (hgrow.block (ba+1) (Ag.1 h1).1 (fun e=>?_)).trans h1
    have:=HVB.out _ e.symm
    omega
   have q0:=Zh h16 0;have q1:=Zh h16 1;have q2:=Zh h16 2;have q3:=Zh h16 3;have q4:=Zh h16 4;have q5:=Zh h16 5;have q6:=Zh h16 6;have hM2:=HM.out;have HTH:=Lh (HC3.out.row.there (i:=i) (by rw[<-hM2];exact hiN))
   have HIZ:=Lh Tj;obtain⟨w9,hw9⟩:∃w9,w9=w8.setCells g (i*7) (#[Value.string ⟨xb.id.toArray⟩,Value.string ⟨xb.ins.toArray⟩,Value.int .i64 xb.acq,Value.int .i64 xb.opn,Value.string ⟨xb.q.toArray⟩,Value.string ⟨xb.cost.toArray⟩,Value.string ⟨xb.used.toArray⟩]).toList:=⟨_,rfl⟩
   have HW9:=Lh hw9;have HC4:Hid (T8 w B g cr (stepT s p) v' w9):=by
    rw[HE1.out,hw9];exact HC3.out.turn (ZR (X:=fun b=>b=g) rfl _ _ _) (HC3.out.row.set xb (by rw[<-hM2];exact hiN)) (Nat.le_of_eq List.length_set)
   have hsz:m=(stepT s p).1.length:=by rw[HE1.out,hM2];exact List.length_set.symm
   have HSZ:Hid (∀z,Value.slice (some ⟨g,0,none⟩) m z=.slice (some ⟨g,0,none⟩) (stepT s p).1.length z):=fun z=>by rw[<-hsz]
   clear hown' hgrow hfresh HC2 HOW hbq h16 HC3 hw9 hsz hM2 hi hz0 hz1 hz2;go_wp2_with (refine wpList_store_mid rfl 130 (.tmp 75) (.tmp 74) rfl g (i*7) #[Value.string ⟨xb.id.toArray⟩,Value.string ⟨xb.ins.toArray⟩,Value.int .i64 xb.acq,Value.int .i64 xb.opn,Value.string ⟨xb.q.toArray⟩,Value.string ⟨xb.cost.toArray⟩,Value.string ⟨xb.used.toArray⟩] rfl rfl HTH.out (by rw[HIZ.out];rfl) (Ul xb) ?_;rw[<-HW9.out])
   go_roundw
   case rel=>exact⟨k+1,stepT s p,v',by omega,rfl,by go_num,HSZ.out _,HC4.out,HI2.out,HZ2.out⟩
   case measure=>simp[intOf];omega
def ofI (I:List UInt8) (xs:List Lot):List Lot:=xs.filter (fun x=>x.ins==I)
theorem AV {xs:List Lot} (hn:(xs.map (·.id)).Nodup) {x y:Lot} (hx:x∈xs) (hy:y∈xs) (e:x.id=y.id):x=y:=by
 obtain⟨i,hi⟩:=List.getElem?_of_mem hx;obtain⟨j,hj⟩:=List.getElem?_of_mem hy;obtain⟨hi1,-⟩:=Lg.1 hi;have h1:(xs.map (·.id))[i]?=some x.id:=by simp[hi]
 have h2:(xs.map (·.id))[j]?=some x.id:=by simp[hj,e]
 have:i=j:=(List.getElem?_inj (by simpa using hi1) hn).1 (h1.trans h2.symm)
 subst this;rw[hi] at hj;exact Option.some.inj hj
theorem Ik (f:Lot->Int) (I:List UInt8):∀ys:List Lot,(∀y∈ys,y.ins=I)->(ys.map (fun x=>if x.ins==I then f x else 0)).sum=(ys.map f).sum
 | [],_=>rfl
 | a::t,h=>by
  have ih:=Ik f I t (fun y hy=>h y (List.mem_cons_of_mem _ hy))
  have ha:(a.ins==I)=true:=by simpa using h a List.mem_cons_self
  rw[List.map_cons,List.map_cons,List.sum_cons,List.sum_cons,ih,if_pos ha]
theorem Gr {xs:List Lot} {I:List UInt8} {Q:Int} {out:List Pk} {rem:List UInt8} (hn:(xs.map (·.id)).Nodup) (hc:∀x∈xs,x.q=canon (val x.q)) (hi:Yw (ofI I xs) Q (out,rem)) (hr:val rem=0) (hp:VA xs [] out=0) :
  (((Yr (xs,[]) out).2).map (fun x=>val x.q)).sum=Q/\
  ((ofI I (Yr (xs,[]) out).1).map (fun x=>val x.q)).sum+(((Yr (xs,[]) out).2).map (fun x=>val x.q)).sum=((ofI I xs).map (fun x=>val x.q)).sum/\
  ((ofI I (Yr (xs,[]) out).1).map (fun x=>val x.cost)).sum+(((Yr (xs,[]) out).2).map (fun x=>val x.cost)).sum=((ofI I xs).map (fun x=>val x.cost)).sum/\
  (Yr (xs,[]) out).2.length=out.length/\(Yr (xs,[]) out).2.map (·.q)=out.map (·.q)/\(∀y∈(Yr (xs,[]) out).2,y.ins=I):=by
 obtain⟨a1,a2,-⟩:=P5 hc out [] hp;obtain⟨r,h2,h3⟩:=M9 out xs [] ⟨hn,a1,a2⟩;have hs:=hi.sum;have hsum:YV out=Q:=by
  have:YV out+val rem=Q:=hs
  omega
 have hins:∀y∈(Yr (xs,[]) out).2,y.ins=I:=fun y hy=>by
  rcases h2 y hy with hy|⟨p,hpm,x,hx,hid,hyx⟩
  ·cases hy
  ·obtain⟨z,hz,hzid⟩:=hi.mem p hpm;have hzx:=List.mem_filter.1 hz
   have:x=z:=AV hn hx hzx.1 (hid.trans hzid.symm)
   subst this;have hI:x.ins=I:=by simpa using hzx.2
   rcases hyx with rfl|⟨-,-,rfl⟩
   ·exact hI
   ·exact hI
 have hqs:=r.qs;simp only[List.map_nil,List.nil_append] at hqs;have hQ:(((Yr (xs,[]) out).2).map (fun x=>val x.q)).sum=Q:=by
  have:((Yr (xs,[]) out).2).map (fun x=>val x.q)=(((Yr (xs,[]) out).2).map (·.q)).map val:=by rw[List.map_map];rfl
  rw[this,hqs,<-hsum];unfold YV;rw[List.map_map];rfl
 have g1:=r.sum _ (Ih (fun x=>val x.q) ZaH I)
 have g2:=r.sum _ (Ih (fun x=>val x.cost) ZaI I)
 rw[Ik _ I _ hins] at g1 g2;simp only[List.map_nil,List.sum_nil,Int.add_zero] at g1 g2;rw[<-T6,<-T6] at g1 g2;refine⟨hQ,g1,g2,?_,hqs,hins⟩
 have:=congrArg List.length hqs
 simpa using this
def Xu (ws:List (List UInt8)):List Value:=ws.map stV
theorem Gs (ws:List (List UInt8)):(Xu ws).length=ws.length:=List.length_map ..
theorem Gt (ws:List (List UInt8)) (r:List UInt8):Xu (ws++[r])=Xu ws++[.string ⟨r.toArray⟩]:=by simp[Xu,stV]
theorem Il {w:World} {B n c:Nat} {A:Option Addr} {ws:List (List UInt8)} (h:w.ownsRow B 32 1 (.slice A n c) n (Xu ws)) (hn:ws.length=n):Xb w A ws:=fun i r hr=>by
 have hi:=(Lg.1 hr).1;have hv:(Xu ws)[i]?=some (.string ⟨r.toArray⟩):=by simp[Xu,stV,hr]
 rcases h.2 with ⟨e,h0⟩|⟨g,cap,cur,e,hB,hg,h1,h2,h3,h4⟩
 ·omega
 ·injection e with e1 e2 e3
  refine⟨g,0,e1,(Ag.1 hg).1,?_⟩;rw[Zh hg,<-hv,<-h4,List.getElem?_take,if_pos (by omega),Array.getElem?_toList,Nat.zero_add]
open Go.Shelf
attribute [local go_sem] Oper.semAt_some
theorem ZaQ (bl bt:Nat) (A:Option Addr) (xs:List Lot) (n c:Nat) (T:List UInt8) (hn:xs.length=n) (hT:T.length<=4900) (hq:∀x∈xs,x.q.length<=2000) (hS0:MP T (xs.map (·.q))=0)
  (m lw:Nat) (S0:World->Prop) (S:Nat->Obj->List (Lot×List UInt8)->World->Prop)
  (hK0:∀W,S0 W->GE W/\Vw W A xs/\Blk W bl #[.slice A n c]/\Blk W bt #[.string ⟨T.toArray⟩]) (hIn:∀b0 ob W W',S0 W->Below W.heap.size W W'->W.heap.size<=b0->W'.heap[b0]?=some ob->S b0 ob [] W')
  (hSB:∀b0 ob ys W,S b0 ob ys W->Vw W A xs/\W.heap[b0]?=some ob) (hSm:∀b0 ob ys W W',S b0 ob ys W->Below W.heap.size W W'->S b0 ob ys W')
  (hY:∀zs,Qk (val T) (xs.map (fun x=>val x.q)) zs->∀b0 ob ys y W,S b0 ob ys W->(xs.zip (zs.map canon))[ys.length]?=some y->YieldAt Fence.wide (m-1) Tryz.prog lw #[(Value.agg #[Value.string ⟨List.toArray y.1.id⟩,Value.string ⟨List.toArray y.1.ins⟩,Value.int .i64 y.1.acq,Value.int .i64 y.1.opn,Value.string ⟨List.toArray y.1.q⟩,Value.string ⟨List.toArray y.1.cost⟩,Value.string ⟨List.toArray y.1.used⟩]),.string ⟨y.2.toArray⟩] W fun e W'=>e=.returned (.bool true)/\S b0 ob (ys++[y]) W')
  (W:World) (hS:S0 W):CallsIn Fence.wide m Tryz.prog 216 (#[.func (.yield lw) #[] #[],.pointer (some ⟨bl,0,none⟩),.pointer (some ⟨bt,0,none⟩)]) W fun e W'=>(∃v,e=.returned v)/\∃zs b0 ob,Qk (val T) (xs.map (fun x=>val x.q)) zs/\S b0 ob (xs.zip (zs.map canon)) W':=by
 obtain⟨-,s2,-⟩:=NO hS0;rw[List.length_map,hn] at s2;have HB:=Lh hSB;have HM:=Lh hSm;have HY:=Lh hY;have HX:=Lh hS;have HK0:=Lh hK0;have HIN:=Lh hIn;have HS0:=Lh hS0;have HQL:=Lh hq;have HN:=Lh hn;have hbl':=(hK0 _ hS).2.2.1;have q0:W.cell? ⟨bl,0,none⟩=some (.slice A n c):=hbl'.c 0;obtain⟨B,hB⟩:∃B,B=W.heap.size:=⟨_,rfl⟩
 have HBS:=Lh hB;have h0:Hid (W.ownsRow B 32 1 (.slice none 0 0) 0 (Xu ((xs.map (·.q)).take 0))):=World.ownsRow_nil W B 32 1
 have HBe:Hid (Below W.heap.size W W):=Below.refl _ _;clear hSB hSm hY hS hn hbl' hS0 hq hB hK0 hIn;refine callsIn_of_wp Tryz.func216 rfl trivial ?_ rfl;simp only[Tryz.ntmps216,List.size_toArray,List.length_cons,List.length_nil,Nat.reduceAdd,Nat.reduceSub,Array.replicate_succ,Array.replicate_zero,List.push_toArray,List.append_toArray,List.nil_append,List.cons_append]
 gi_wp2_with fail
 clear q0
 gi_loopw [4,6,13] (fun qv _ iv wr=>∃(k:Nat) (v:Value),k<=n/\v=qv/\iv=.int .i64 (k:Int)/\Hid (wr.ownsRow B 32 1 v k (Xu ((xs.map (·.q)).take k)))/\Hid (Below W.heap.size W wr)) (fun _ _ iv _=>n-(intOf iv).toNat)
 case atStart=>exact⟨0,_,Nat.zero_le _,rfl,rfl,h0.out,HBe.out⟩
 case round=>
  clear h0 HBe;obtain⟨k,v,hk,rfl,rfl,HO,HBL⟩:=hrel
  by_cases hlk:k<n
  ·have e1:decide (k<n)=true:=Dt hlk;have e2:decide ((k:Int)<(n:Int))=true:=Dt (by omega)
   obtain⟨x,hx⟩:∃x,xs[k]?=some x:=⟨_,List.getElem?_eq_getElem (by have:=HN.out;omega)⟩
   obtain⟨b,o,rfl,hbs,hcells⟩:=((HK0.out _ HX.out).2.1.below HBL.out) k x hx;have p0:=hcells.c0;have p1:=hcells.c1;have p2:=hcells.c2;have p3:=hcells.c3;have p4:=hcells.c4;have p5:=hcells.c5;have p6:=hcells.c6;have hbA:=Zd wr (.cells #[Value.string ⟨x.id.toArray⟩,Value.string ⟨x.ins.toArray⟩,Value.int .i64 x.acq,Value.int .i64 x.opn,Value.string ⟨x.q.toArray⟩,Value.string ⟨x.cost.toArray⟩,Value.string ⟨x.used.toArray⟩] 130);have Y1:=Lh (Xf.new wr x 130);have q4:=Y1.out.c4;have hbq:=Zd (wr.alloc (.cells #[Value.string ⟨x.id.toArray⟩,Value.string ⟨x.ins.toArray⟩,Value.int .i64 x.acq,Value.int .i64 x.opn,Value.string ⟨x.q.toArray⟩,Value.string ⟨x.cost.toArray⟩,Value.string ⟨x.used.toArray⟩] 130)) (.cells #[.string ⟨x.q.toArray⟩] 32);obtain⟨i0,hi,hz0,hz1,hz2⟩:=info_parts Tl;have HAN:Hid (((wr.alloc (.cells #[Value.string ⟨x.id.toArray⟩,Value.string ⟨x.ins.toArray⟩,Value.int .i64 x.acq,Value.int .i64 x.opn,Value.string ⟨x.q.toArray⟩,Value.string ⟨x.cost.toArray⟩,Value.string ⟨x.used.toArray⟩] 130)).alloc (.cells #[.string ⟨x.q.toArray⟩] 32)).heap[wr.heap.size+1]?=some (.cells #[.string ⟨x.q.toArray⟩] 32)):=by
    have h:=ZF (wr.alloc (.cells #[Value.string ⟨x.id.toArray⟩,Value.string ⟨x.ins.toArray⟩,Value.int .i64 x.acq,Value.int .i64 x.opn,Value.string ⟨x.q.toArray⟩,Value.string ⟨x.cost.toArray⟩,Value.string ⟨x.used.toArray⟩] 130)) (.cells #[.string ⟨x.q.toArray⟩] 32);rw[show (wr.alloc (.cells #[Value.string ⟨x.id.toArray⟩,Value.string ⟨x.ins.toArray⟩,Value.int .i64 x.acq,Value.int .i64 x.opn,Value.string ⟨x.q.toArray⟩,Value.string ⟨x.cost.toArray⟩,Value.string ⟨x.used.toArray⟩] 130)).heap.size=wr.heap.size+1 by simp] at h
    exact h
   have HAZ:Hid (((wr.alloc (.cells #[Value.string ⟨x.id.toArray⟩,Value.string ⟨x.ins.toArray⟩,Value.int .i64 x.acq,Value.int .i64 x.opn,Value.string ⟨x.q.toArray⟩,Value.string ⟨x.cost.toArray⟩,Value.string ⟨x.used.toArray⟩] 130)).alloc (.cells #[.string ⟨x.q.toArray⟩] 32)).heap.size=wr.heap.size+2):=by show _=_;simp
   have HCZ:Hid (B<=wr.heap.size):=by show _<=_;rw[HBS.out];exact HBL.out.size
   have HX5:=Lh hx;have HBQ:=Lh (bto hbA hbq);clear hbs hcells hx hbA hbq;refine wpIn_wide.2 ?_;go_wp2_with (at_builtin;refine ZM rfl _ _ 50 rfl B 32 i0 (.string ⟨#[]⟩) 1 16 Tryz.underlying50 hi hz0 hz1 hz2 rfl (by decide) _ _ _ rfl (Zz HO.out HBQ.out) ⟨wr.heap.size+1,0,none⟩ 1 1 [.string ⟨x.q.toArray⟩] rfl rfl ?c1 ?c2 ?c3 ?c4 ?c5 ?_)
   case c1=>
    intro j u hu;have hj:j<1:=VU hu
    match j,hj with
    | 0,_=>cases hu;exact Zh HAN.out 0
   case c2=>
    intro u hu;simp only[List.mem_cons,List.not_mem_nil,or_false] at hu;subst hu;rfl
   case c3=>unfold maxLen;omega
   case c4=>omega
   case c5=>have:=HCZ.out;have:=HAZ.out;omega
   intro v' w5 hown' hgrow hfresh;have HO':Hid (w5.ownsRow B 32 1 v' (k+1) (Xu ((xs.map (·.q)).take (k+1)))):=by
    have hq:(xs.map (·.q))[k]?=some x.q:=by simp[HX5.out]
    obtain⟨hk2,hxe⟩:=Lg.1 hq;show w5.ownsRow _ _ _ _ _ _;rw[List.take_succ_eq_append_getElem hk2,hxe,Gt];exact hown'
   have HBL':Hid (Below W.heap.size W w5):=by
    have h1:=bto HBL.out HBQ.out
    exact h1.grown hgrow h1.size (fun g hg=>by
     have:=(World.ownsRow.lt HO.out g hg).1
     have:=HBS.out
     omega)
   clear hown' hgrow hfresh HO HBL HBQ HAN HAZ HCZ p0 p1 p2 p3 p4 p5 p6 q4 e1 e2 HX5 Y1 hi hz0 hz1 hz2;go_wp2;go_roundw
   case rel=>exact⟨k+1,v',by omega,rfl,by go_num,HO'.out,HBL'.out⟩
   case measure=>simp[intOf];omega
  ·have hkm:k=n:=by omega
   subst hkm;have e1:decide (k<k)=false:=Df (by omega)
   have e2:decide ((k:Int)<(k:Int))=false:=Df (by omega)
   have hfm:Hid ((xs.map (·.q)).take k=xs.map (·.q)):=by show _=_;rw[List.take_of_length_le (by rw[List.length_map];have:=HN.out;omega)]
   obtain⟨A3,c3,rfl⟩:∃A3 c3,v=.slice A3 k c3:=by
    rcases HO.out.2 with ⟨e,h0⟩|⟨g,cap,cur,e,-⟩
    ·exact⟨none,0,by rw[e,h0]⟩
    ·exact⟨_,_,e⟩
   have HI:Hid (Uk wr A3 (xs.map (·.q)) k):=by
    refine⟨by rw[List.length_map,HN.out],by omega,fun r hr=>?_,?_⟩
    ·obtain⟨y,hy,rfl⟩:=List.mem_map.1 hr;exact HQL.out y hy
    ·have h:=HO.out;rw[hfm.out] at h;exact Il h (by rw[List.length_map,HN.out])
   obtain⟨hG0,hL0,hbl0,hbt0⟩:=HK0.out _ HX.out;have q0:wr.cell? ⟨bt,0,none⟩=some (.string ⟨T.toArray⟩):=(hbt0.below HBL.out).c 0;have KS:=Lh (AO (T:=T) c3 (hG0.below HBL.out) HI.out hT HS0.out);have HBL0:=Lh (hbl0.below HBL.out);clear HO hfm HI hG0 hL0 hbl0 hbt0
   gi_wp2_with fail
   refine⟨trivial,fun h=>(by cases h),?_⟩
   (with_reducible refine (callsIn_wide.2 KS.out).mono ?_)
   rintro e w6 ⟨bp,zs,rfl,hgp,hcp,hsp,hb6⟩;rw[List.map_map] at hsp;have hsp:Qk (val T) (xs.map (fun x=>val x.q)) zs:=hsp
   have HSI:Hid (S bp (.cells (zsC zs) 32 (0,0)) [] w6):=HIN.out _ _ _ _ HX.out (bto HBL.out hb6) (Nt HBL.out.size hgp) hcp;have hzl:zs.length=k:=by rw[hsp.sum.2,List.length_map,HN.out]
   have HZL:=Lh hzl;have HYY:=Lh (HY.out zs hsp);have HSP:=Lh hsp;have q1:w6.cell? ⟨bl,0,none⟩=some (.slice A k c):=(HBL0.out.below hb6).c 0;clear q0 KS HBL0 hcp hgp hb6 hzl hsp HY HIN HX HBL HK0 e1 e2
   gi_wp2_with fail
   clear q1
   gi_loopw [9,10,31] (fun _ _ iv wr=>∃(j:Nat) (ys:List (Lot×List UInt8)),j<=k/\iv=.int .i64 (j:Int)/\Hid (ys=(xs.zip (zs.map canon)).take j)/\Hid (S bp (.cells (zsC zs) 32 (0,0)) ys wr)) (fun _ _ iv _=>k-(intOf iv).toNat)
   case atStart=>exact⟨0,[],Nat.zero_le _,rfl,rfl,HSI.out⟩
   case round=>
    clear HSI;obtain⟨j,ys,hj,rfl,HYS,HS⟩:=hrel
    by_cases hlj:j<k
    rotate_left
    ·have HE:Hid (S bp (.cells (zsC zs) 32 (0,0)) (xs.zip (zs.map canon)) wr):=by
      have h:=HS.out;rw[HYS.out,List.take_of_length_le (by rw[List.length_zip];have:=HN.out;omega)] at h
      exact h
     have e1:decide (j<k)=false:=Df hlj;have e2:decide ((j:Int)<(k:Int))=false:=Df (by omega)
     clear HYS HS HYY
     gi_wp2
     go_end0
     exact⟨⟨_,rfl⟩,zs,_,_,HSP.out,HE.out⟩
    have e1:decide (j<k)=true:=Dt hlj;have e2:decide ((j:Int)<(k:Int))=true:=Dt (by omega)
    obtain⟨x,hx⟩:∃x,xs[j]?=some x:=⟨_,List.getElem?_eq_getElem (by have:=HN.out;omega)⟩
    obtain⟨z,hz⟩:∃z,zs[j]?=some z:=⟨_,List.getElem?_eq_getElem (by have:=HZL.out;omega)⟩
    obtain⟨hLA,hbp⟩:=HB.out _ _ _ _ HS.out;obtain⟨b,o,rfl,hbs,hcells⟩:=hLA j x hx;have p0:=hcells.c0;have p1:=hcells.c1;have p2:=hcells.c2;have p3:=hcells.c3;have p4:=hcells.c4;have p5:=hcells.c5;have p6:=hcells.c6;have hbA:=Zd wr (.cells #[Value.string ⟨x.id.toArray⟩,Value.string ⟨x.ins.toArray⟩,Value.int .i64 x.acq,Value.int .i64 x.opn,Value.string ⟨x.q.toArray⟩,Value.string ⟨x.cost.toArray⟩,Value.string ⟨x.used.toArray⟩] 130);have Y1:=Lh (Xf.new wr x 130);have HBP:=Lh (Zw hbp hbA);have HZC:Hid ((zsC zs)[j]?=some (.string ⟨(canon z).toArray⟩)):=Q8 (by rw[List.getElem?_map,hz];rfl)
    have HZ:=Lh Tj;have hzip:(xs.zip (zs.map canon))[j]?=some (x,canon z):=by
     rw[List.getElem?_zip_eq_some];exact⟨hx,by rw[List.getElem?_map,hz];rfl⟩
    have hyl:ys.length=j:=by
     rw[HYS.out,List.length_take,List.length_zip,List.length_map,HN.out,HZL.out];omega
    have HSA:=Lh (HM.out _ _ _ _ _ HS.out hbA);have HYD:Hid (∀W',S bp (.cells (zsC zs) 32 (0,0)) ys W'->YieldAt Fence.wide (m-1) Tryz.prog lw #[(Value.agg #[Value.string ⟨x.id.toArray⟩,Value.string ⟨x.ins.toArray⟩,Value.int .i64 x.acq,Value.int .i64 x.opn,Value.string ⟨x.q.toArray⟩,Value.string ⟨x.cost.toArray⟩,Value.string ⟨x.used.toArray⟩]),.string ⟨(canon z).toArray⟩] W' fun e W''=>e=.returned (.bool true)/\S bp (.cells (zsC zs) 32 (0,0)) (ys++[(x,canon z)]) W''):=fun W' h=>HYY.out bp _ ys (x,canon z) W' h (by rw[hyl];exact hzip)
    have HYS2:Hid (ys++[(x,canon z)]=(xs.zip (zs.map canon)).take (j+1)):=by
     show _=_;obtain⟨h1,h2⟩:=Lg.1 hzip;rw[List.take_succ_eq_append_getElem h1,h2,<-HYS.out]
    clear hx hz hLA hbp hbs hcells hbA hzip hyl HYS HS HYY
    gi_wp2_with fail
    refine Vh (by simp) (by simp) (by kernel_rfl) (by kernel_rfl) (by kernel_rfl) (by kernel_rfl) (by kernel_rfl) ?_
    simp only[List.dropLast_cons_cons,List.dropLast_singleton,List.getLast_cons_cons,List.getLast_singleton];refine Zb _ (fun _=>rfl) (fun ρ wz hw=>by go_simp;try with_reducible rfl) ?_
    simp only[Act.put,StT,StZ,StS,Nat.reduceAdd];refine Zb (.agg #[Value.string ⟨x.id.toArray⟩,Value.string ⟨x.ins.toArray⟩,Value.int .i64 x.acq,Value.int .i64 x.opn,Value.string ⟨x.q.toArray⟩,Value.string ⟨x.cost.toArray⟩,Value.string ⟨x.used.toArray⟩]) (fun _=>rfl) (fun ρ wz hw=>ZK 130 _ rfl wr.heap.size 0 rfl (lcs x) _ (WX (Y1.out.below hw)).out Tryz.underlying130 rfl (by rw[HZ.out];rfl)) ?_
    iterate 2
     simp only[Act.put,StT,StZ,StS,Nat.reduceAdd];refine Zb _ (fun _=>rfl) (fun ρ wz hw=>by go_simp;try with_reducible rfl) ?_
    simp only[Act.put,StT,StZ,StS,Nat.reduceAdd];refine Zb (.pointer (some ⟨bp,j,none⟩)) (fun _=>rfl) (fun ρ wz hw=>by go_simp;try with_reducible rfl) ?_
    simp only[Act.put,StT,StZ,StS,Nat.reduceAdd];refine Zb _ (fun _=>rfl) (fun ρ wz hw=>by have q0:wz.cell? ⟨bp,j,none⟩=some (.string ⟨(canon z).toArray⟩):=(Zh (Zw HBP.out hw) j).trans HZC.out;go_simp;try with_reducible rfl) ?_
    simp only[Act.put,StT,StZ,StS,Nat.reduceAdd];intro ρ w21 hF;dsimp only;have HX3:=Lh (HM.out _ _ _ _ _ HSA.out hF.below);clear hF HSA p0 p1 p2 p3 p4 p5 p6 Y1 HBP;obtain⟨fn,tmps,assign,body,hyr,hR⟩:=HYD.out w21 HX3.out
    gi_wp2
    refine⟨fun h=>(by cases h),hR.mono ?_⟩
    rintro e W3 ⟨rfl,hS3⟩;have HX4:=Lh hS3;clear hS3 hR hyr e1 e2
    gi_wp2
    go_roundw
    case rel=>exact⟨j+1,_,by omega,by go_num,HYS2.out,HX4.out⟩
    case measure=>simp[intOf];omega
end Go.Proofs.YtpieeldbamklkaaGreatDoor
namespace Go.Proofs.YtpieeldbamklkaaGreatDoor
open Go.RowKit Go.Shelf Num
theorem Et (A:Option Addr) (n c:Nat) (T:List UInt8) (w:World) :
  Calls Tryz.prog 169 #[.slice A n c,.string ⟨T.toArray⟩] w fun e w'=>e=.returned (.func (.func 216) #[] #[.pointer (some ⟨w.heap.size,0,none⟩),.pointer (some ⟨w.heap.size+1,0,none⟩)])/\w'=(w.alloc (.cells #[.slice A n c] 44)).alloc (.cells #[.string ⟨T.toArray⟩] 32):=by
 go_enter Tryz.func169,Tryz.ntmps169;go_wp2_with fail;go_ret;exact⟨rfl,rfl⟩
theorem Le (args:Array Value) (w:World):(callFunc 216 args).run Tryz.prog w=.ok (.enter 216 args) w:=by kernel_rfl
theorem Gu {w:World} {bf:Nat} {P Fe:List UInt8} (v:Value) (hG:GE w) (h0:w.cell? ⟨bf,10,none⟩=some (.string ⟨P.toArray⟩)) (h1:w.cell? ⟨bf,11,none⟩=some (.string ⟨Fe.toArray⟩)) (hP:P.length<=2000) (hF:Fe.length<=2000) :
  Calls Tryz.prog 95 #[v,.pointer (some ⟨bf,0,none⟩)] w fun e w'=>e=.returned (.string ⟨(canon (val P-val Fe)).toArray⟩)/\Below w.heap.size w w':=by
 have K:=Lh (Wk (l:=P) (l':=Fe) (z:=val P-val Fe) (by omega) (by omega) rfl)
 go_enter Tryz.func95,Tryz.ntmps95;go_wp2_with fail
 with_reducible refine (K.out.e.of hG (Below.refl _ _)).mono ?_
 rintro e w1 ⟨rfl,hb1⟩;go_wp2;go_ret;exact⟨rfl,hb1⟩
theorem AW {w:World} {bl bf bm:Nat} {A Ap:Option Addr} {n c np cp:Nat} {ins q:List UInt8} {mt:Int} {R:Value->Int->World->Prop} (h0:w.cell? ⟨bl,0,none⟩=some (.slice A n c)) (h1:w.cell? ⟨bf,5,none⟩=some (.string ⟨ins.toArray⟩)) (h2:w.cell? ⟨bf,9,none⟩=some (.string ⟨q.toArray⟩)) (h3:w.cell? ⟨bm,0,none⟩=some (.int .i64 mt)) (h4:w.cell? ⟨bf,18,none⟩=some (.slice Ap np cp))
  (hK:Calls Tryz.prog 93 #[.slice A n c,.string ⟨ins.toArray⟩,.string ⟨q.toArray⟩,.int .i64 mt,.slice Ap np cp] w fun e w'=>∃v err,e=.returned (.tuple #[v,.int .i64 err])/\R v err w') :
  Calls Tryz.prog 92 #[.pointer (some ⟨bl,0,none⟩),.pointer (some ⟨bf,0,none⟩),.pointer (some ⟨bm,0,none⟩)] w fun e w'=>∃v err,e=.returned (.tuple #[v,.int .i64 err])/\R v err w':=by
 have HK:=Lh hK;clear hK;go_enter Tryz.func92,Tryz.ntmps92;go_wp2_with fail
 with_reducible refine HK.out.mono ?_
 rintro e w1 ⟨v,err,rfl,hR⟩;have HR:=Lh hR;clear hR;go_wp2;refine bodyPost_ret (v:=.tuple #[v,.int .i64 err]) (by simp[results,Tryz.results92,go_sem]) rfl ?_
 exact⟨v,err,rfl,HR.out⟩
structure Gn where
 fact:List UInt8
 lot:List UInt8
 ins:List UInt8
 acq:Int
 day:Int
 q:List UInt8
 pro:List UInt8
 cost:List UInt8
def Lf (x:Gn):List Value:=[.string ⟨x.fact.toArray⟩,.string ⟨x.lot.toArray⟩,.string ⟨x.ins.toArray⟩,.int .i64 x.acq,.int .i64 x.day,.string ⟨x.q.toArray⟩,.string ⟨x.pro.toArray⟩,.string ⟨x.cost.toArray⟩,.string ⟨#[]⟩,.string ⟨#[]⟩]
def WB (xs:List Gn):List Value:=xs.flatMap Lf
theorem Ji (xs ys:List Gn):WB (xs++ys)=WB xs++WB ys:=List.flatMap_append
theorem Eu (x:Gn):∀u∈Lf x,u.oneCell'=true:=by
 intro u hu;simp only[Lf,List.mem_cons,List.not_mem_nil,or_false] at hu;rcases hu with rfl|rfl|rfl|rfl|rfl|rfl|rfl|rfl|rfl|rfl<;>rfl
theorem Gv:(Tryz.prog.info? 89).map (fun i=>(i.zero,i.size,i.bytes))=some (some (.agg #[.string ⟨#[]⟩,.string ⟨#[]⟩,.string ⟨#[]⟩,.int .i64 0,.int .i64 0,.string ⟨#[]⟩,.string ⟨#[]⟩,.string ⟨#[]⟩,.string ⟨#[]⟩,.string ⟨#[]⟩]),10,144):=by kernel_rfl
structure Sp where
 fact:List UInt8
 lot:List UInt8
 q:List UInt8
 cost:List UInt8
def Li (x:Sp):List Value:=[.string ⟨x.fact.toArray⟩,.string ⟨x.lot.toArray⟩,.string ⟨#[]⟩,.string ⟨x.q.toArray⟩,.string ⟨#[]⟩,.string ⟨x.cost.toArray⟩]
def Uu (xs:List Sp):List Value:=xs.flatMap Li
theorem Jj (xs ys:List Sp):Uu (xs++ys)=Uu xs++Uu ys:=List.flatMap_append
theorem Ev (x:Sp):∀u∈Li x,u.oneCell'=true:=by
 intro u hu;simp only[Li,List.mem_cons,List.not_mem_nil,or_false] at hu;rcases hu with rfl|rfl|rfl|rfl|rfl|rfl<;>rfl
theorem Gw:(Tryz.prog.info? 136).map (fun i=>(i.zero,i.size,i.bytes))=some (some (.agg #[.string ⟨#[]⟩,.string ⟨#[]⟩,.string ⟨#[]⟩,.string ⟨#[]⟩,.string ⟨#[]⟩,.string ⟨#[]⟩]),6,96):=by kernel_rfl
theorem XP {P:Program} {F:Fence} {n0:Nat} {w:World} {ops:Array Oper} {rest:List Oper} {o:Oper} {a:Act} {Q:Exit->Act->World->Prop} (hgd:o.guard=none) (s x:Operand) (t:TypeId)
  (ho:o.op=.call { callee:=.builtin .append,args:=#[s,x],argTypes:=#[t,t] })
  (base:Nat) (e:TypeId) (i:TypeInfo) (z:Value) (size bytes:Nat) (ht:P.underlying t=some (.slice e)) (hi:P.info? e=some i) (hz:i.zero=some z)
  (hsize:i.size=size) (hby:i.bytes=bytes) (hzs:z.cells.size=size) (hsz:0<size)
  (v:Value) (n:Nat) (xs:List Value) (hs:a.eval s=v) (hown:w.ownsRow base e size v n xs)
  (ad:Addr) (m c:Nat) (news:List Value) (hx:a.eval x=.slice (some ad) m c) (hl:news.length=m*size) (hnews:∀j u,news[j]?=some u->w.cell? (ad.add j)=some u) (h1:∀u∈news,u.oneCell'=true)
  (h63:n+m<=maxLen) (hbytes:(n+m)*bytes<=140737488355328) (hbase:base<=w.heap.size)
  (h:∀v' w',w'.ownsRow base e size v' (n+m) (xs++news)->w.grownBy w' v.ownBlock->(∀g,v'.ownBlock=some g->v.ownBlock=some g∨w.heap.size<=g)->wpListIn F n0 P ops Q rest (a.put o.dst v') w'):wpListIn F n0 P ops Q (o::rest) a w:=by
 refine wpListIn_plain hgd fun K hK=>?_
 obtain⟨v',w',hr,h2,h3,-⟩:=run_append_own (P:=P) w base t o.type e i z size bytes ht hi hz hsize hby hzs hsz v n xs hown ad m c news hl hnews h1 h63 hbytes hbase;have h5:=V1 (P:=P) base t o.type e i z size bytes ht hi hz hsize hby hzs hsz v n xs hown ad m c news hl hnews h1 h63 hbytes hr;unfold Oper.wpIn;refine⟨?_,?_⟩
 ·simp[Oper.about,ho,resolve,Target.leads,Sem.run_pure]
 ·rw[Oper.semAt_plain F _ _ (by rw[ho];intro c hc';cases hc')]
  simp[execOp,ho,resolve,invoke,builtin,hs,hx,hr,Result.andThen];exact hK _ _ (h v' w' h2 h3 h5)
theorem SK {P:Program} {F:Fence} {n0:Nat} {w:World} {ops:Array Oper} {rest:List Oper} {op:Oper} {a:Act} {Q:Exit->Act->World->Prop} (hgd:op.guard=none) (ty:TypeId) (x:Operand) (ho:op.op=.load ty x) (b k:Nat) (hx:a.eval x=.pointer (some ⟨b,k,none⟩)) (cs:List Value) {d:TypeDesc} (hc:w.rangeAt b k cs)
  (hu:P.underlying ty=some d) (hd:d.isRow=true) (hi:(P.info? ty).map (·.size)=some cs.length) (h:wpListIn F n0 P ops Q rest (a.put op.dst (.agg cs.toArray)) w):wpListIn F n0 P ops Q (op::rest) a w:=by
 refine wpListIn_plain hgd fun K hK=>?_
 have hr:=ZK (P:=P) (e:=a.eval) ty x ho b k hx cs d hc hu hd hi;unfold Oper.wpIn;refine⟨?_,?_⟩
 ·simp[Oper.about,ho]
 ·rw[Oper.semAt_plain F _ _ (by rw[ho];intro c hc';cases hc'),hr]
  exact hK _ _ h
theorem Vl {P:Program} {F:Fence} {n0:Nat} {w:World} {ops:Array Oper} {rest:List Oper} {op:Oper} {a:Act} {Q:Exit->Act->World->Prop} (hgd:op.guard=none) (ty:TypeId) (x y:Operand) (ho:op.op=.store ty x y)
  (b k:Nat) (cells:Array Value) (hx:a.eval x=.pointer (some ⟨b,k,none⟩)) (hy:a.eval y=.agg cells)
  (ht:w.there b k cells.size) (hi:(P.info? ty).map (·.size)=some cells.size) (h1:cells.all (·.oneCell')=true)
  (h:wpListIn F n0 P ops Q rest (a.put op.dst undef) (w.setCells b k cells.toList)):wpListIn F n0 P ops Q (op::rest) a w:=by
 refine wpListIn_plain hgd fun K hK=>?_
 have hr:=ZQ (P:=P) (e:=a.eval) (w:=w) ty x y ho b k cells hx hy ht hi h1;unfold Oper.wpIn;refine⟨?_,?_⟩
 ·simp[Oper.about,ho]
 ·rw[Oper.semAt_plain F _ _ (by rw[ho];intro c hc';cases hc'),hr]
  exact hK _ _ h
theorem SL {P:Program} (w:World) (b o:Nat) (ty:TypeId) (v:Value) (hc:(w.cell? ⟨b,o,none⟩).isSome=true) (hf:w.frozen? ⟨b,o,none⟩=false) (hi:(P.info? ty).map (·.size)=some 1) (h1:v.oneCell'=true) :
  (storeVar ty ⟨b,o,none⟩ v).run P w=.ok () (w.setCell ⟨b,o,none⟩ v):=by
 have:=run_storeCells_cells (P:=P) b o [v] 0 w (fun j hj=>by
  have:j=0:=by simpa using hj
  subst this;simpa using hc) (fun j hj=>by
  have:j=0:=by simpa using hj
  subst this;simpa using hf) (fun u hu=>by
  simp only[List.mem_cons,List.not_mem_nil,or_false] at hu
  subst hu;exact h1)
 have hcs:v.cells=#[v]:=by cases v<;>first|rfl|cases h1
 cases hq:P.info? ty with
 | none=>simp[hq] at hi
 | some i=>
  have hs:i.size=1:=by simp[hq] at hi;omega
  simp only[Nat.add_zero] at this;simp[storeVar,sizeOf,typeInfo,hq,hcs,hs,this,World.setCells]
theorem UD {P:Program} {e:Operand->Value} {o:Oper} {w:World} (ty:TypeId) (x y:Operand) (ho:o.op=.store ty x y) (b k:Nat) (v:Value) (hx:e x=.pointer (some ⟨b,k,none⟩)) (hy:e y=v)
  (hc:(w.cell? ⟨b,k,none⟩).isSome=true) (hf:w.frozen? ⟨b,k,none⟩=false) (hi:(P.info? ty).map (·.size)=some 1) (h1:v.oneCell'=true):(execOp e o).run P w=.ok .skip (w.setCell ⟨b,k,none⟩ v):=by
 unfold execOp;simp only[ho,hx,hy,Instr.storeAt,Instr.sureAddr,Sem.run_bind,Sem.run_pure,Result.andThen_ok,SL w b k ty v hc hf hi h1]
theorem WG {P:Program} {F:Fence} {n0:Nat} {w:World} {ops:Array Oper} {rest:List Oper} {op:Oper} {a:Act} {Q:Exit->Act->World->Prop} (hgd:op.guard=none) (ty:TypeId) (x y:Operand) (ho:op.op=.store ty x y)
  (b k:Nat) (v:Value) (hx:a.eval x=.pointer (some ⟨b,k,none⟩)) (hy:a.eval y=v)
  (hc:(w.cell? ⟨b,k,none⟩).isSome=true) (hf:w.frozen? ⟨b,k,none⟩=false) (hi:(P.info? ty).map (·.size)=some 1) (h1:v.oneCell'=true)
  (h:wpListIn F n0 P ops Q rest (a.put op.dst undef) (w.setCell ⟨b,k,none⟩ v)):wpListIn F n0 P ops Q (op::rest) a w:=by
 refine wpListIn_plain hgd fun K hK=>?_
 have hr:=UD (P:=P) (e:=a.eval) (w:=w) ty x y ho b k v hx hy hc hf hi h1;unfold Oper.wpIn;refine⟨?_,?_⟩
 ·simp[Oper.about,ho]
 ·rw[Oper.semAt_plain F _ _ (by rw[ho];intro c hc';cases hc'),hr]
  exact hK _ _ h
def NY (fid fins:List UInt8) (day:Int) (y:Lot×List UInt8):Gn:=⟨fid,y.1.id,fins,y.1.acq,day,y.1.q,y.2,y.1.cost⟩
def Lj (fid:List UInt8) (y:Lot×List UInt8):Sp:=⟨fid,y.1.id,y.1.q,y.1.cost⟩
def T9 (g nr cr:Nat) (v1 v2:Value):Array Value:=#[.slice (some ⟨g,0,none⟩) nr cr,v1,v2,.slice none 0 0]
structure WS (w:World) (R:Loop) (Bx d l g nr cr b0:Nat) (ob:Obj) (v1 v2:Value) (gs:List Gn) (ss:List Sp) (W:World):Prop where
 below:Below w.heap.size w W
 loop:W.heap[l]?=some (.loop R)
 dfr:W.heap[d]?=some (.deferred (some []))
 par:W.heap[b0]?=some ob
 lo:Bx<=b0/\Bx<=W.heap.size
 res:W.heap[w.heap.size]?=some (.cells (T9 g nr cr v1 v2) 60 (0,0))
 o1:W.ownsRow Bx 89 10 v1 gs.length (WB gs)
 o2:W.ownsRow Bx 136 6 v2 ss.length (Uu ss)
 dis:Dis v1 v2
 n1:v1.ownBlock≠some b0
 n2:v2.ownBlock≠some b0
section
variable {w:World} {R:Loop} {Bx d l g nr cr b0:Nat} {ob:Obj} {v1 v2:Value} {gs:List Gn} {ss:List Sp} {W W':World}
theorem Uw {w w':World} {B:Nat} (h:Below B w w') {b:Nat} (hb:B<=b) (o:Nat) (y:Value):Below B w (w'.setCell ⟨b,o,none⟩ y):=h.setCell (p:=⟨b,o,none⟩) hb y
theorem WS.mono (h:WS w R Bx d l g nr cr b0 ob v1 v2 gs ss W) (hb:Below W.heap.size W W'):WS w R Bx d l g nr cr b0 ob v1 v2 gs ss W':=
 ⟨bto h.below hb,Zw h.loop hb,Zw h.dfr hb,Zw h.par hb,⟨h.lo.1,Nt h.lo.2 hb.size⟩,Zw h.res hb,Zz h.o1 hb,Zz h.o2 hb,h.dis,h.n1,h.n2⟩
theorem YH {w w':World} {B k sz:Nat} {ty:TypeId} {v:Value} {cs:List Value} (h:w.ownsRow B ty sz v k cs) (hb:∀b,B<=b->b<w.heap.size->w'.heap[b]?=w.heap[b]?):w'.ownsRow B ty sz v k cs:=by
 refine⟨h.1,?_⟩;rcases h.2 with h2|⟨g,cap,cur,e,hB,hg,r⟩
 ·exact .inl h2
 ·exact .inr ⟨g,cap,cur,e,hB,(hb g hB (Ag.1 hg).1).trans hg,r⟩
theorem WS.done {R1 R2:Loop} (hR:R2=R) (hl:l≠d/\w.heap.size<l/\l<Bx) (h:WS w R1 Bx d l g nr cr b0 ob v1 v2 gs ss W):WS w R Bx d l g nr cr b0 ob v1 v2 gs ss (W.putObj l (.loop R2)):=by
 subst hR;have hlo:=h.lo.1;have ho:∀b,b≠l->(W.putObj l (.loop R2)).heap[b]?=W.heap[b]?:=fun b hb=>World.putObj_heap_other (by omega)
 exact⟨YG h.below (by omega),World.putObj_heap_same (Ag.1 h.loop).1,(ho _ (by omega)).trans h.dfr,(ho _ (by omega)).trans h.par,⟨h.lo.1,by simpa using h.lo.2⟩,(ho _ (by omega)).trans h.res,YH h.o1 (fun b hb _=>ho b (by omega)),YH h.o2 (fun b hb _=>ho b (by omega)),h.dis,h.n1,h.n2⟩
theorem WS.grown (h:WS w R Bx d l g nr cr b0 ob v1 v2 gs ss W) (hl:w.heap.size<l/\w.heap.size<d/\l<Bx/\d<Bx) {row:Option Nat} (hr:∀k,row=some k->Bx<=k/\k≠b0) (hg:W.grownBy W' row) :
  Below w.heap.size w W'/\W'.heap[l]?=some (.loop R)/\W'.heap[d]?=some (.deferred (some []))/\W'.heap[b0]?=some ob/\W'.heap[w.heap.size]?=some (.cells (T9 g nr cr v1 v2) 60 (0,0))/\Bx<=W'.heap.size:=by
 have hk:∀k o,W.heap[k]?=some o->(∀x,row=some x->x≠k)->W'.heap[k]?=some o:=fun k o h1 h2=>(hg.block k (Ag.1 h1).1 (fun e=>h2 k e.symm rfl)).trans h1
 have hs:=h.below.size;refine⟨h.below.grown hg hs (fun k hk=>?_),hk _ _ h.loop (fun x e=>?_),hk _ _ h.dfr (fun x e=>?_),hk _ _ h.par (fun x e=>?_),hk _ _ h.res (fun x e=>?_),Nt h.lo.2 hg.size⟩
 ·have:=(hr k hk).1;omega
 ·have:=(hr x e).1;omega
 ·have:=(hr x e).1;omega
 ·exact (hr x e).2
 ·have:=(hr x e).1;omega
theorem WS.r1 (h:WS w R Bx d l g nr cr b0 ob v1 v2 gs ss W):∀k,v1.ownBlock=some k->Bx<=k/\k≠b0:=fun k hk=>⟨(World.ownsRow.lt h.o1 k hk).1,fun e=>h.n1 (by rw[hk,e])⟩
theorem WS.r2 (h:WS w R Bx d l g nr cr b0 ob v1 v2 gs ss W):∀k,v2.ownBlock=some k->Bx<=k/\k≠b0:=fun k hk=>⟨(World.ownsRow.lt h.o2 k hk).1,fun e=>h.n2 (by rw[hk,e])⟩
theorem WS.gain (h:WS w R Bx d l g nr cr b0 ob v1 v2 gs ss W) (hl:w.heap.size<l/\w.heap.size<d/\l<Bx/\d<Bx) {x:Gn} {v1':Value} (ho:W'.ownsRow Bx 89 10 v1' (gs.length+1) (WB gs++Lf x)) (hg:W.grownBy W' v1.ownBlock) (hf:∀k,v1'.ownBlock=some k->v1.ownBlock=some k∨W.heap.size<=k) :
  WS w R Bx d l g nr cr b0 ob v1' v2 (gs++[x]) ss (W'.setCell ⟨w.heap.size,1,none⟩ v1'):=by
 obtain⟨a1,a2,a3,a4,a5,a6⟩:=h.grown hl h.r1 hg;have hlo:=h.lo.1
 have h2:=h.o2.kept hg (by
  cases hv:v2.ownBlock with
  | none=>exact .inl rfl
  | some k=>exact .inr (fun e=>h.dis k e.symm hv))
 have hb0:=(Ag.1 h.par).1;have hoth:∀b,b≠w.heap.size->(W'.setCell ⟨w.heap.size,1,none⟩ v1').heap[b]?=W'.heap[b]?:=fun b hb=>Below.heap_setCell W' ⟨w.heap.size,1,none⟩ v1' b hb
 refine⟨Uw a1 (Nl _) 1 v1',(hoth _ (by omega)).trans a2,(hoth _ (by omega)).trans a3,(hoth _ (by omega)).trans a4,⟨hlo,by simpa using a6⟩,?_,?_,YH h2 (fun b hb _=>hoth b (by omega)),h.dis.fresh hf (fun k hk=>(World.ownsRow.lt h.o2 k hk).2),Lc h.n1 hf hb0,h.n2⟩
 ·exact hset (o:=1) v1' a5
 ·rw[List.length_append,List.length_singleton,Ji,show WB [x]=Lf x by simp[WB]]
  exact YH ho (fun b hb _=>hoth b (by omega))
theorem WS.step (h:WS w R Bx d l g nr cr b0 ob v1 v2 gs ss W) (hl:w.heap.size<l/\w.heap.size<d/\l<Bx/\d<Bx) {x:Sp} {v2':Value} (ho:W'.ownsRow Bx 136 6 v2' (ss.length+1) (Uu ss++Li x)) (hg:W.grownBy W' v2.ownBlock) (hf:∀k,v2'.ownBlock=some k->v2.ownBlock=some k∨W.heap.size<=k) :
  WS w R Bx d l g nr cr b0 ob v1 v2' gs (ss++[x]) (W'.setCell ⟨w.heap.size,2,none⟩ v2'):=by
 obtain⟨a1,a2,a3,a4,a5,a6⟩:=h.grown hl h.r2 hg;have hlo:=h.lo.1
 have h2:=h.o1.kept hg (by
  cases hv:v1.ownBlock with
  | none=>exact .inl rfl
  | some k=>exact .inr (fun e=>h.dis k hv e.symm))
 have hb0:=(Ag.1 h.par).1;have hoth:∀b,b≠w.heap.size->(W'.setCell ⟨w.heap.size,2,none⟩ v2').heap[b]?=W'.heap[b]?:=fun b hb=>Below.heap_setCell W' ⟨w.heap.size,2,none⟩ v2' b hb
 refine⟨Uw a1 (Nl _) 2 v2',(hoth _ (by omega)).trans a2,(hoth _ (by omega)).trans a3,(hoth _ (by omega)).trans a4,⟨hlo,by simpa using a6⟩,?_,YH h2 (fun b hb _=>hoth b (by omega)),?_,(h.dis.symm.fresh hf (fun k hk=>(World.ownsRow.lt h.o1 k hk).2)).symm,h.n1,Lc h.n2 hf hb0⟩
 ·exact hset (o:=2) v2' a5
 ·rw[List.length_append,List.length_singleton,Jj,show Uu [x]=Li x by simp[Uu]]
  exact YH ho (fun b hb _=>hoth b (by omega))
end
def Im (w:World) (R:Loop) (Bx d l g nr cr:Nat) (fid fins:List UInt8) (day:Int) (b0:Nat) (ob:Obj) (ys:List (Lot×List UInt8)) (W:World):Prop:=
 ∃v1 v2,WS w R Bx d l g nr cr b0 ob v1 v2 (ys.map (NY fid fins day)) (ys.map (Lj fid)) W
structure Ct (w:World) (R:Loop) (Bx d l g nr cr bl bt:Nat) (v:Value) (T:List UInt8) (W:World):Prop where
 below:Below w.heap.size w W
 loop:W.heap[l]?=some (.loop R)
 dfr:W.heap[d]?=some (.deferred (some []))
 lo:Bx<=W.heap.size
 res:W.heap[w.heap.size]?=some (.cells (T9 g nr cr (.slice none 0 0) (.slice none 0 0)) 60 (0,0))
 lots:Blk W bl #[v]
 txt:Blk W bt #[.string ⟨T.toArray⟩]
theorem Ct.go {w:World} {R:Loop} {Bx d l g nr cr bl bt:Nat} {v:Value} {T:List UInt8} {W W':World} (h:Ct w R Bx d l g nr cr bl bt v T W) (fid fins:List UInt8) (day:Int) {b0:Nat} {ob:Obj} (hb:Below W.heap.size W W') (h0:W.heap.size<=b0) (h1:W'.heap[b0]?=some ob):Im w R Bx d l g nr cr fid fins day b0 ob [] W':=
 ⟨.slice none 0 0,.slice none 0 0,{ below:=bto h.below hb,loop:=Zw h.loop hb,dfr:=Zw h.dfr hb,par:=h1,lo:=⟨Nt h.lo h0,Nt h.lo hb.size⟩,res:=Zw h.res hb,o1:=World.ownsRow_nil _ _ _ _,o2:=World.ownsRow_nil _ _ _ _,dis:=(fun g hg=>(by cases hg)),n1:=(fun e=>(by cases e)),n2:=(fun e=>(by cases e)) }⟩
def RZ:Array Value:=#[.slice none 0 0,.slice none 0 0,.slice none 0 0,.slice none 0 0]
theorem QH:(Tryz.prog.info? 60).map (·.size)=some 4:=by kernel_rfl
attribute [local go_sem] Oper.semAt_some
theorem Ew:(Tryz.prog.info? 60).map (·.size)=some 4:=by kernel_rfl
theorem Cu:(Tryz.prog.info? 56).map (·.size)=some 1:=by kernel_rfl
theorem Cv:(Tryz.prog.info? 57).map (·.size)=some 1:=by kernel_rfl
theorem UU {w:World} {B k sz:Nat} {ty:TypeId} {v:Value} {cs:List Value} (h:w.ownsRow B ty sz v k cs):v.oneCell'=true:=by
 rcases h.2 with ⟨e,-⟩|⟨g,cap,cur,e,-⟩
 ·rw[e];rfl
 ·rw[e];rfl
structure ZaR (w:World) (g cr:Nat) (rest taken:List Lot) (fid fins:List UInt8) (day:Int) (T:List UInt8) (v1 v2:Value) (W:World):Prop where
 sold:∃zs,Qk (val T) (taken.map (fun x=>val x.q)) zs/\∃B,W.ownsRow B 89 10 v1 taken.length (WB ((taken.zip (zs.map canon)).map (NY fid fins day)))/\W.ownsRow B 136 6 v2 taken.length (Uu ((taken.zip (zs.map canon)).map (Lj fid)))
 row:YD W g rest
 cap:rest.length<=cr
 below:Below w.heap.size w W
theorem Ex {w:World} {A:Option Addr} {n c:Nat} {FC capv capw:Array Value} {fv fw:Nat} {Q:Value->World->Prop} {TK:List Lot->List Lot->Prop} {BD:Prop} {T fid fins:List UInt8} {day:Int} (hG:GE w) (hen:∀(args:Array Value) w,(callFunc fv args).run Tryz.prog w=.ok (.enter fv args) w) (hew:∀(args:Array Value) w,(callFunc fw args).run Tryz.prog w=.ok (.enter fw args) w)
  (hK:∀w',Below w.heap.size w w'->Calls Tryz.prog fv capv w' fun e w''=>∃v,e=.returned (.tuple #[v,.int .i64 0])/\Below w'.heap.size w' w''/\Q v w'')
  (hT:∀v w',Below w.heap.size w w'->Q v w'->Calls Tryz.prog 168 #[.slice A n c,v] w' fun e w''=>(∃err:Int,err≠0/\BD/\e=.returned (.tuple #[.slice none 0 0,.slice none 0 0,.int .i64 err])/\Below w'.heap.size w' w'')∨∃rest taken g cr v2 B,TK rest taken/\e=.returned (.tuple #[.slice (some ⟨g,0,none⟩) rest.length cr,v2,.int .i64 0])/\T8 w' B g cr (rest,taken) v2 w'')
  (hP:∀v w',Below w.heap.size w w'->Calls Tryz.prog fw (#[v]++capw) w' fun e w''=>e=.returned (.string ⟨T.toArray⟩)/\Below w'.heap.size w' w'')
  (c0:FC[0]?=some (.string ⟨fid.toArray⟩)) (c3:FC[3]?=some (.int .i64 day)) (c5:FC[5]?=some (.string ⟨fins.toArray⟩)) (hT2:T.length<=4900) (hTK:∀rest taken,TK rest taken->(∀x∈taken,x.q.length<=2000)/\MP T (taken.map (·.q))=0) :
  Calls Tryz.prog 94 #[.slice A n c,.agg FC,.func (.func fv) #[] capv,.func (.func fw) #[] capw] w fun e w'=>(∃err:Int,err≠0/\BD/\e=.returned (.tuple #[.agg RZ,.int .i64 err])/\Below w.heap.size w w')∨∃rest taken,TK rest taken/\∃g cr v1 v2,e=.returned (.tuple #[.agg (T9 g rest.length cr v1 v2),.int .i64 0])/\ZaR w g cr rest taken fid fins day T v1 v2 w':=by
 have HK:=Lh hK;have HEN:=Lh hen;have HEW:=Lh hew;have HT:=Lh hT;have HP:=Lh hP;have HTA:=Lh hTK;have HC0:=Lh c0;have HC3:=Lh c3;have HC5:=Lh c5;clear hK hen hT hew hP hTK c0 c3 c5;obtain⟨hA,hH,hb,-⟩:=Vs w (.cells FC 48) (.cells RZ 60);have HA:=Lh hA;have HH:=Lh hH;have HB:=Lh hb;have HI:Hid ((Tryz.prog.info? 60).map (·.size)=some RZ.size):=QH
 clear hH hb hA;refine (callsIn_wide (n:=5)).1 ?_;refine callsIn_of_wp_marks Tryz.func94 rfl trivial ?_ rfl;simp only[Tryz.ntmps94,List.size_toArray,List.length_cons,List.length_nil,Nat.reduceAdd,Nat.reduceSub,Array.replicate_succ,Array.replicate_zero,List.push_toArray,List.append_toArray,List.nil_append,List.cons_append]
 gi_wp2_with fail
 rw[HEN.out];refine⟨trivial,fun h=>(by cases h),?_⟩
 refine (callsIn_wide.2 (HK.out _ HB.out)).mono ?_;rintro e w0 ⟨v,rfl,hb0,hq⟩;have KT:=Lh (HT.out v w0 (bto HB.out hb0) hq);clear hq HT
 gi_wp2_with fail
 refine⟨trivial,?_⟩
 (with_reducible refine (callsIn_wide.2 KT.out).mono ?_)
 rintro e w1 (⟨err,hE,hBD,rfl,hb1⟩|⟨rest,taken,g,cr,v2,B,hTK2,rfl,hTk⟩)
 ·clear KT;have g1:decide (err=0)=false:=Df hE;have HBD:=Lh hBD;have HM:Hid (RZ.all (·.oneCell')=true):=all_oneCell_toArray (cs:=[.slice none 0 0,.slice none 0 0,.slice none 0 0,.slice none 0 0]) (fun v hv=>by simp only[List.mem_cons,List.not_mem_nil,or_false] at hv;rcases hv with rfl|rfl|rfl|rfl<;>rfl)
  replace hb1:=bto hb0 hb1;have hH1:=Zw HH.out hb1;have HTH:Hid (w1.there (w.heap.size+1) 0 RZ.size):=fun j hj=>⟨by rw[Zh hH1,Array.getElem?_eq_getElem (by have:j<4:=hj;show 0+j<4;omega)];rfl,Zq hH1 _⟩
  have hb2:=bto HB.out hb1;obtain⟨w2,hw2⟩:∃w2,w2=w1.setCells (w.heap.size+1) 0 RZ.toList:=⟨_,rfl⟩
  have HW2:=Lh hw2;have hbf:Below w.heap.size w w2:=by rw[hw2];exact Lib.below_setCells _ (by omega) _ _ hb2
  have HR:Hid (w2.rangeAt (w.heap.size+1) 0 RZ.toList):=by
   have h1:w2.heap[w.heap.size+1]?=some (.cells RZ 60 (0,0)):=by
    rw[hw2];exact hset (o:=3) _ (hset (o:=2) _ (hset (o:=1) _ (hset (o:=0) _ hH1)))
   exact fun j v hv=>by
    rw[Zh h1,Nat.zero_add,<-hv,Array.getElem?_toList]
  clear hH1 hw2 HK HEN HH HB hb1 hb2
  gi_wp2_with (refine Vl rfl 60 (.tmp 8) (.tmp 35) rfl (w.heap.size+1) 0 RZ rfl rfl HTH.out HI.out HM.out ?_;rw[<-HW2.out])
  refine⟨.tuple #[.agg RZ,.int .i64 err],results_cell_tmp Tryz.f94 8 9 60 RZ (.int .i64 err) rfl rfl rfl HR.out Tryz.underlying60 rfl HI.out,?_⟩;exact .inl ⟨err,hE,HBD.out,rfl,hbf⟩
 obtain⟨hq2,hS0⟩:=HTA.out _ _ hTK2;obtain⟨-,hs2,-⟩:=NO hS0;rw[List.length_map] at hs2;have HS0:=Lh hS0;have HQL:=Lh hq2;have HSZ:=Lh hs2;have HTK:=Lh hTK2;clear KT hq2 hS0 hs2 hTK2 HTA;have hL2:w.heap.size+2<=w0.heap.size:=by have:=hb0.size;simpa using this
 have hwB:=hTk.le;have hlo:=hTk.lo;have hgb:=hTk.gb;obtain⟨A2,c2,hv2⟩:=hTk.tak.formN rfl;have hLT:=hTk.tak.lotAt hv2;subst hv2;have hB1:Below w.heap.size w w1:=bto (bto HB.out hb0) hTk.below;have hF1:w1.heap[w.heap.size]?=some (.cells FC 48 (0,0)):=Zw (Zw HA.out hb0) hTk.below;have hR1:w1.heap[w.heap.size+1]?=some (.cells RZ 60 (0,0)):=Zw (Zw HH.out hb0) hTk.below;have HLK:Hid (YD w1 g rest/\rest.length<=cr):=⟨hTk.row,hTk.cap⟩;have hb2:=Zd w1 (.cells (T9 g rest.length cr (.slice none 0 0) (.slice none 0 0)) 60);have h14:=ZF w1 (.cells (T9 g rest.length cr (.slice none 0 0) (.slice none 0 0)) 60);have hs2:(w1.alloc (.cells (T9 g rest.length cr (.slice none 0 0) (.slice none 0 0)) 60)).heap.size=w1.heap.size+1:=by simp
 obtain⟨W2,hW2⟩:∃W2,W2=w1.alloc (.cells (T9 g rest.length cr (.slice none 0 0) (.slice none 0 0)) 60):=⟨_,rfl⟩
 rw[<-hW2] at hb2 h14 hs2;unfold T9 at hW2;have HW2:=Lh hW2;have KP:=Lh (HP.out (.slice A2 taken.length c2) W2 (bto hB1 hb2));have HR1:=Lh hR1;have HF1:=Lh hF1;have HLT:=Lh hLT;have H14:=Lh h14;have HB1:=Lh hB1;have HB2:=Lh hb2;clear hTk hb0 HA HH HB HK HEN HP hR1 hF1 hLT h14 hB1 hb2 hW2
 gi_wp2_with fail
 rw[<-HW2.out,HEW.out];refine⟨trivial,fun h=>(by cases h),?_⟩
 refine (callsIn_wide.2 KP.out).mono ?_;rintro e w3 ⟨rfl,hb3⟩;have KS:=Lh (Et A2 taken.length c2 T w3);have hs3:=hb3.size;obtain⟨hz1,hz2,hz3,hz4⟩:=Vs w3 (.cells #[.slice A2 taken.length c2] 44) (.cells #[.string ⟨T.toArray⟩] 32);obtain⟨W0,hW0⟩:∃W0,W0=(w3.alloc (.cells #[.slice A2 taken.length c2] 44)).alloc (.cells #[.string ⟨T.toArray⟩] 32):=⟨_,rfl⟩
 rw[<-hW0] at KS hz1 hz2 hz3 hz4;have H30:Hid (Below w1.heap.size w1 W0/\W0.heap[w1.heap.size]?=some (.cells (T9 g rest.length cr (.slice none 0 0) (.slice none 0 0)) 60 (0,0))/\Blk W0 w3.heap.size #[.slice A2 taken.length c2]/\Blk W0 (w3.heap.size+1) #[.string ⟨T.toArray⟩]):=
  ⟨bto (bto HB2.out hb3) hz3,Zw (Zw H14.out hb3) hz3,⟨_,hz1⟩,⟨_,hz2⟩⟩
 clear KP hb3 hz1 hz2 hz3 hW0 HB2 H14 HW2 HEW
 gi_wp2_with fail
 refine⟨trivial,?_⟩
 (with_reducible refine (callsIn_wide.2 KS.out).mono ?_)
 rintro e W0 ⟨rfl,rfl⟩;clear KS
 gi_wp2_with fail
 refine XW (gf:=216) (lb:=#[.pointer (some ⟨w3.heap.size,0,none⟩),.pointer (some ⟨w3.heap.size+1,0,none⟩)]) rfl Le ?_;intro fn R hR;obtain⟨W1,hW1⟩:∃W1,W1=(W0.alloc (.deferred (some []))).alloc (.loop R):=⟨_,rfl⟩
 obtain⟨hD,hL,hbB,hsz1⟩:=Vs W0 (.deferred (some [])) (.loop R);rw[<-hW1] at hD hL hbB hsz1;rw[<-hW1];obtain⟨l,hl⟩:∃l,l=W0.heap.size+1:=⟨_,rfl⟩
 obtain⟨d,hd⟩:∃d,d=W0.heap.size:=⟨_,rfl⟩
 obtain⟨Bx,hBx⟩:∃Bx,Bx=W1.heap.size:=⟨_,rfl⟩
 rw[<-hl] at hL ⊢;rw[<-hd] at hD hR ⊢;have hS0:Ct w1 R Bx d l g rest.length cr w3.heap.size (w3.heap.size+1) (.slice A2 taken.length c2) T W1:=⟨bto H30.out.1 hbB,hL,hD,Nat.le_of_eq hBx,Zw H30.out.2.1 hbB,H30.out.2.2.1.below hbB,H30.out.2.2.2.below hbB⟩;have n1:l≠d/\w1.heap.size<l/\l<Bx:=by omega
 have n2:w1.heap.size<l/\w1.heap.size<d/\l<Bx/\d<Bx:=by omega
 have n4:w.heap.size+2<=g/\g<w1.heap.size:=by omega
 have n3:w.heap.size+1<w1.heap.size/\w.heap.size+1<d/\w.heap.size<=d/\w1.heap.size<=d:=by omega
 clear hW1 hbB hD hL hl hd hs2 hs3 hz4 hsz1 hBx H30 hL2 hwB hlo hgb;have hY:∀zs,Qk (val T) (taken.map (fun x=>val x.q)) zs->∀b0 ob ys y W,Im w1 R Bx d l g rest.length cr fid fins day b0 ob ys W->(taken.zip (zs.map canon))[ys.length]?=some y->YieldAt Fence.wide (5-1-1) Tryz.prog l #[(Value.agg #[Value.string ⟨List.toArray y.1.id⟩,Value.string ⟨List.toArray y.1.ins⟩,Value.int .i64 y.1.acq,Value.int .i64 y.1.opn,Value.string ⟨List.toArray y.1.q⟩,Value.string ⟨List.toArray y.1.cost⟩,Value.string ⟨List.toArray y.1.used⟩]),.string ⟨y.2.toArray⟩] W fun e W'=>e=.returned (.bool true)/\Im w1 R Bx d l g rest.length cr fid fins day b0 ob (ys++[y]) W':=by
  intro zs _ b0 ob ys y W hS hyb;obtain⟨v1,v2,hS⟩:=hS;have hlen:ys.length<1000:=by
   have h1:=(Lg.1 hyb).1;rw[List.length_zip] at h1
   have:=HSZ.out
   omega
  have hy:=run_yield (P:=Tryz.prog) (args:=#[(Value.agg #[Value.string ⟨List.toArray y.1.id⟩,Value.string ⟨List.toArray y.1.ins⟩,Value.int .i64 y.1.acq,Value.int .i64 y.1.opn,Value.string ⟨List.toArray y.1.q⟩,Value.string ⟨List.toArray y.1.cost⟩,Value.string ⟨List.toArray y.1.used⟩]),.string ⟨y.2.toArray⟩]) hS.loop (by rw[hR];rfl)
  refine⟨R.fn,_,R.assign,R.body,hy,roundIn_of_wpIn trivial ?_⟩;have hlW:=(Ag.1 hS.loop).1;have hSa:=hS.mono (Zd W (.cells #[Value.string ⟨List.toArray y.1.id⟩,Value.string ⟨List.toArray y.1.ins⟩,Value.int .i64 y.1.acq,Value.int .i64 y.1.opn,Value.string ⟨List.toArray y.1.q⟩,Value.string ⟨List.toArray y.1.cost⟩,Value.string ⟨List.toArray y.1.used⟩] 130));have hbr:=run_beginRound (P:=Tryz.prog) hSa.loop (by rw[hR])
  have hS1:WS w1 { R with state:=.busy } Bx d l g rest.length cr b0 ob v1 v2 (ys.map (NY fid fins day)) (ys.map (Lj fid)) ((W.alloc (.cells #[Value.string ⟨List.toArray y.1.id⟩,Value.string ⟨List.toArray y.1.ins⟩,Value.int .i64 y.1.acq,Value.int .i64 y.1.opn,Value.string ⟨List.toArray y.1.q⟩,Value.string ⟨List.toArray y.1.cost⟩,Value.string ⟨List.toArray y.1.used⟩] 130)).putObj l (.loop { R with state:=.busy })):=WS.done rfl n1 hSa
  have x4:Blk ((W.alloc (.cells #[Value.string ⟨List.toArray y.1.id⟩,Value.string ⟨List.toArray y.1.ins⟩,Value.int .i64 y.1.acq,Value.int .i64 y.1.opn,Value.string ⟨List.toArray y.1.q⟩,Value.string ⟨List.toArray y.1.cost⟩,Value.string ⟨List.toArray y.1.used⟩] 130)).putObj l (.loop { R with state:=.busy })) W.heap.size #[Value.string ⟨List.toArray y.1.id⟩,Value.string ⟨List.toArray y.1.ins⟩,Value.int .i64 y.1.acq,Value.int .i64 y.1.opn,Value.string ⟨List.toArray y.1.q⟩,Value.string ⟨List.toArray y.1.cost⟩,Value.string ⟨List.toArray y.1.used⟩]:=(Blk.new W _ 130).putO (by omega)
  obtain⟨Wb,hWb⟩:∃Wb,Wb=(W.alloc (.cells #[Value.string ⟨List.toArray y.1.id⟩,Value.string ⟨List.toArray y.1.ins⟩,Value.int .i64 y.1.acq,Value.int .i64 y.1.opn,Value.string ⟨List.toArray y.1.q⟩,Value.string ⟨List.toArray y.1.cost⟩,Value.string ⟨List.toArray y.1.used⟩] 130)).putObj l (.loop { R with state:=.busy }):=⟨_,rfl⟩
  rw[<-hWb] at hbr hS1 x4;have hRe:({ { R with state:=.busy } with state:=.ready,pending:=none }:Loop)=R:=by rw[hR]
  obtain⟨R1,hR1⟩:∃R1,R1={ R with state:=.busy }:=⟨_,rfl⟩
  rw[<-hR1] at hS1 hRe;have hw1W:w1.heap.size<W.heap.size:=by omega
  have hk1:∀k,v1.ownBlock=some k->k<W.heap.size:=fun k hk=>(World.ownsRow.lt hS.o1 k hk).2
  have hk2:∀k,v2.ownBlock=some k->k<W.heap.size:=fun k hk=>(World.ownsRow.lt hS.o2 k hk).2
  have q0:Wb.cell? ⟨w.heap.size,0,none⟩=some (.string ⟨fid.toArray⟩):=(Zh (Zw HF1.out hS1.below) 0).trans HC0.out;have q3:Wb.cell? ⟨w.heap.size,3,none⟩=some (.int .i64 day):=(Zh (Zw HF1.out hS1.below) 3).trans HC3.out;have q5:Wb.cell? ⟨w.heap.size,5,none⟩=some (.string ⟨fins.toArray⟩):=(Zh (Zw HF1.out hS1.below) 5).trans HC5.out;have r1:Wb.cell? ⟨w1.heap.size,1,none⟩=some v1:=Zh hS1.res 1;have p0:Wb.cell? ⟨W.heap.size,0,none⟩=some (.string ⟨List.toArray y.1.id⟩):=x4.c 0;have p2:Wb.cell? ⟨W.heap.size,2,none⟩=some (.int .i64 y.1.acq):=x4.c 2;have p4:Wb.cell? ⟨W.heap.size,4,none⟩=some (.string ⟨List.toArray y.1.q⟩):=x4.c 4;have p5:Wb.cell? ⟨W.heap.size,5,none⟩=some (.string ⟨List.toArray y.1.cost⟩):=x4.c 5;have hG1:=hS1.mono (Zd Wb (.cells #[.string ⟨fid.toArray⟩,.string ⟨List.toArray y.1.id⟩,.string ⟨fins.toArray⟩,.int .i64 y.1.acq,.int .i64 day,.string ⟨List.toArray y.1.q⟩,.string ⟨List.toArray y.2⟩,.string ⟨List.toArray y.1.cost⟩,.string ⟨#[]⟩,.string ⟨#[]⟩] 89));have HNW:Hid ((Wb.alloc (.cells #[.string ⟨fid.toArray⟩,.string ⟨List.toArray y.1.id⟩,.string ⟨fins.toArray⟩,.int .i64 y.1.acq,.int .i64 day,.string ⟨List.toArray y.1.q⟩,.string ⟨List.toArray y.2⟩,.string ⟨List.toArray y.1.cost⟩,.string ⟨#[]⟩,.string ⟨#[]⟩] 89)).heap[Wb.heap.size]?=some (.cells #[.string ⟨fid.toArray⟩,.string ⟨List.toArray y.1.id⟩,.string ⟨fins.toArray⟩,.int .i64 y.1.acq,.int .i64 day,.string ⟨List.toArray y.1.q⟩,.string ⟨List.toArray y.2⟩,.string ⟨List.toArray y.1.cost⟩,.string ⟨#[]⟩,.string ⟨#[]⟩] 89 (0,0))):=ZF Wb (.cells #[.string ⟨fid.toArray⟩,.string ⟨List.toArray y.1.id⟩,.string ⟨fins.toArray⟩,.int .i64 y.1.acq,.int .i64 day,.string ⟨List.toArray y.1.q⟩,.string ⟨List.toArray y.2⟩,.string ⟨List.toArray y.1.cost⟩,.string ⟨#[]⟩,.string ⟨#[]⟩] 89);have HO1:=Lh hG1.o1;rw[List.length_map] at HO1;have HLO:Hid (Bx<=(Wb.alloc (.cells #[.string ⟨fid.toArray⟩,.string ⟨List.toArray y.1.id⟩,.string ⟨fins.toArray⟩,.int .i64 y.1.acq,.int .i64 day,.string ⟨List.toArray y.1.q⟩,.string ⟨List.toArray y.2⟩,.string ⟨List.toArray y.1.cost⟩,.string ⟨#[]⟩,.string ⟨#[]⟩] 89)).heap.size):=hG1.lo.2;have HG1:=Lh hG1;have HX4:Hid (Blk (Wb.alloc (.cells #[.string ⟨fid.toArray⟩,.string ⟨List.toArray y.1.id⟩,.string ⟨fins.toArray⟩,.int .i64 y.1.acq,.int .i64 day,.string ⟨List.toArray y.1.q⟩,.string ⟨List.toArray y.2⟩,.string ⟨List.toArray y.1.cost⟩,.string ⟨#[]⟩,.string ⟨#[]⟩] 89)) W.heap.size #[Value.string ⟨List.toArray y.1.id⟩,Value.string ⟨List.toArray y.1.ins⟩,Value.int .i64 y.1.acq,Value.int .i64 y.1.opn,Value.string ⟨List.toArray y.1.q⟩,Value.string ⟨List.toArray y.1.cost⟩,Value.string ⟨List.toArray y.1.used⟩]):=x4.below (Zd Wb (.cells #[.string ⟨fid.toArray⟩,.string ⟨List.toArray y.1.id⟩,.string ⟨fins.toArray⟩,.int .i64 y.1.acq,.int .i64 day,.string ⟨List.toArray y.1.q⟩,.string ⟨List.toArray y.2⟩,.string ⟨List.toArray y.1.cost⟩,.string ⟨#[]⟩,.string ⟨#[]⟩] 89));obtain⟨i0,hi,hz0,hz1,hz2⟩:=info_parts Gv;obtain⟨j0,hj,hj0,hj1,hj2⟩:=info_parts Gw;have HII:=Lh (And.intro hi (And.intro hz0 (And.intro hz1 hz2)));have HJJ:=Lh (And.intro hj (And.intro hj0 (And.intro hj1 hj2)));have HBr:=Lh hbr;have HRe:=Lh hRe;have HK1:=Lh hk1;have HK2:=Lh hk2;clear hWb hbr hy hS hSa hlW hS1 hRe hR1 hyb hG1 x4 hi hz0 hz1 hz2 hj hj0 hj1 hj2 hk1 hk2 hS0;rw[hR]
  gi_wp2
  refine⟨_,HBr.out,?_⟩
  gi_wp2_with (gi_at_builtin;refine XP rfl _ _ 56 rfl Bx 89 i0 (.agg #[.string ⟨#[]⟩,.string ⟨#[]⟩,.string ⟨#[]⟩,.int .i64 0,.int .i64 0,.string ⟨#[]⟩,.string ⟨#[]⟩,.string ⟨#[]⟩,.string ⟨#[]⟩,.string ⟨#[]⟩]) 10 144 Tryz.underlying56 HII.out.1 HII.out.2.1 HII.out.2.2.1 HII.out.2.2.2 rfl (by decide) _ _ _ rfl HO1.out ⟨Wb.heap.size,0,none⟩ 1 1 (Lf (NY fid fins day y)) rfl rfl ?c1 ?c2 ?c3 ?c4 ?c5 ?_)
  case c1=>
   intro j u hu;rw[Lib.add_plain];have hj:j<10:=VU hu;show (Wb.alloc (.cells #[.string ⟨fid.toArray⟩,.string ⟨List.toArray y.1.id⟩,.string ⟨fins.toArray⟩,.int .i64 y.1.acq,.int .i64 day,.string ⟨List.toArray y.1.q⟩,.string ⟨List.toArray y.2⟩,.string ⟨List.toArray y.1.cost⟩,.string ⟨#[]⟩,.string ⟨#[]⟩] 89)).cell? ⟨Wb.heap.size,0+j,none⟩=some u;rw[Nat.zero_add,Zh HNW.out j,<-hu];show (List.toArray (Lf (NY fid fins day y)))[j]?=_;rw[List.getElem?_toArray]
  case c2=>exact Eu _
  case c3=>unfold maxLen;omega
  case c4=>omega
  case c5=>exact HLO.out
  intro v1' w5 hown hgrow hfresh;replace hown:w5.ownsRow Bx 89 10 v1' ((ys.map (NY fid fins day)).length+1) (WB (ys.map (NY fid fins day))++Lf (NY fid fins day y)):=by rw[List.length_map];exact hown
  have hg6:=HG1.out.grown n2 HG1.out.r1 hgrow;have HG6:=Lh (HG1.out.gain n2 hown hgrow (fun k hk=>(hfresh k hk).imp id (fun h=>by rw[World.size_alloc];exact h)))
  have HC6:Hid ((w5.cell? ⟨w1.heap.size,1,none⟩).isSome=true):=by show _=_;rw[Zh hg6.2.2.2.2.1 1];rfl
  have HF6:Hid (w5.frozen? ⟨w1.heap.size,1,none⟩=false):=Zq hg6.2.2.2.2.1 1;have HV6:=Lh (UU hown);obtain⟨tx,hx4⟩:=HX4.out;have hx5:w5.heap[W.heap.size]?=some (.cells #[Value.string ⟨List.toArray y.1.id⟩,Value.string ⟨List.toArray y.1.ins⟩,Value.int .i64 y.1.acq,Value.int .i64 y.1.opn,Value.string ⟨List.toArray y.1.q⟩,Value.string ⟨List.toArray y.1.cost⟩,Value.string ⟨List.toArray y.1.used⟩] tx (0,0)):=(hgrow.block _ (Ag.1 hx4).1 (fun e=>by have:=HK1.out _ e.symm;omega)).trans hx4
  have hx6:(w5.setCell ⟨w1.heap.size,1,none⟩ v1').heap[W.heap.size]?=some (.cells #[Value.string ⟨List.toArray y.1.id⟩,Value.string ⟨List.toArray y.1.ins⟩,Value.int .i64 y.1.acq,Value.int .i64 y.1.opn,Value.string ⟨List.toArray y.1.q⟩,Value.string ⟨List.toArray y.1.cost⟩,Value.string ⟨List.toArray y.1.used⟩] tx (0,0)):=hoth hx5 (by omega)
  obtain⟨W6,hW6⟩:∃W6,W6=w5.setCell ⟨w1.heap.size,1,none⟩ v1':=⟨_,rfl⟩
  have HW6:=Lh hW6;rw[<-hW6] at HG6 hx6;have HX6:=Lh hx6;clear hown hgrow hfresh hg6 hx4 hx5 hx6 hW6 q0 q3 q5 r1 p0 p2 p4 p5 HG1 HO1 HNW HLO HX4;have q0:W6.cell? ⟨w.heap.size,0,none⟩=some (.string ⟨fid.toArray⟩):=(Zh (Zw HF1.out HG6.out.below) 0).trans HC0.out;have r2:W6.cell? ⟨w1.heap.size,2,none⟩=some v2:=Zh HG6.out.res 2;have p0:W6.cell? ⟨W.heap.size,0,none⟩=some (.string ⟨List.toArray y.1.id⟩):=Zh HX6.out 0;have p4:W6.cell? ⟨W.heap.size,4,none⟩=some (.string ⟨List.toArray y.1.q⟩):=Zh HX6.out 4;have p5:W6.cell? ⟨W.heap.size,5,none⟩=some (.string ⟨List.toArray y.1.cost⟩):=Zh HX6.out 5;have hG1:=HG6.out.mono (Zd W6 (.cells #[.string ⟨fid.toArray⟩,.string ⟨List.toArray y.1.id⟩,.string ⟨#[]⟩,.string ⟨List.toArray y.1.q⟩,.string ⟨#[]⟩,.string ⟨List.toArray y.1.cost⟩] 136));have HNW:Hid ((W6.alloc (.cells #[.string ⟨fid.toArray⟩,.string ⟨List.toArray y.1.id⟩,.string ⟨#[]⟩,.string ⟨List.toArray y.1.q⟩,.string ⟨#[]⟩,.string ⟨List.toArray y.1.cost⟩] 136)).heap[W6.heap.size]?=some (.cells #[.string ⟨fid.toArray⟩,.string ⟨List.toArray y.1.id⟩,.string ⟨#[]⟩,.string ⟨List.toArray y.1.q⟩,.string ⟨#[]⟩,.string ⟨List.toArray y.1.cost⟩] 136 (0,0))):=ZF W6 (.cells #[.string ⟨fid.toArray⟩,.string ⟨List.toArray y.1.id⟩,.string ⟨#[]⟩,.string ⟨List.toArray y.1.q⟩,.string ⟨#[]⟩,.string ⟨List.toArray y.1.cost⟩] 136);have HO2:=Lh hG1.o2;rw[List.length_map] at HO2;have HLO:Hid (Bx<=(W6.alloc (.cells #[.string ⟨fid.toArray⟩,.string ⟨List.toArray y.1.id⟩,.string ⟨#[]⟩,.string ⟨List.toArray y.1.q⟩,.string ⟨#[]⟩,.string ⟨List.toArray y.1.cost⟩] 136)).heap.size):=hG1.lo.2;have HG1:=Lh hG1;clear hG1 HX6
  gi_wp2_with (first|(refine WG rfl 56 (.tmp 66) (.tmp 65) rfl w1.heap.size 1 v1' rfl rfl HC6.out HF6.out Cu HV6.out ?_;rw[<-HW6.out])|(gi_at_builtin;refine XP rfl _ _ 57 rfl Bx 136 j0 (.agg #[.string ⟨#[]⟩,.string ⟨#[]⟩,.string ⟨#[]⟩,.string ⟨#[]⟩,.string ⟨#[]⟩,.string ⟨#[]⟩]) 6 96 Tryz.underlying57 HJJ.out.1 HJJ.out.2.1 HJJ.out.2.2.1 HJJ.out.2.2.2 rfl (by decide) _ _ _ rfl HO2.out ⟨W6.heap.size,0,none⟩ 1 1 (Li (Lj fid y)) rfl rfl ?d1 ?d2 ?d3 ?d4 ?d5 ?_))
  case d1=>
   intro j u hu;rw[Lib.add_plain];show (W6.alloc (.cells #[.string ⟨fid.toArray⟩,.string ⟨List.toArray y.1.id⟩,.string ⟨#[]⟩,.string ⟨List.toArray y.1.q⟩,.string ⟨#[]⟩,.string ⟨List.toArray y.1.cost⟩] 136)).cell? ⟨W6.heap.size,0+j,none⟩=some u;rw[Nat.zero_add,Zh HNW.out j,<-hu];show (List.toArray (Li (Lj fid y)))[j]?=_;rw[List.getElem?_toArray]
  case d2=>exact Ev _
  case d3=>unfold maxLen;omega
  case d4=>omega
  case d5=>exact HLO.out
  intro v2' w7 hown hgrow hfresh;replace hown:w7.ownsRow Bx 136 6 v2' ((ys.map (Lj fid)).length+1) (Uu (ys.map (Lj fid))++Li (Lj fid y)):=by rw[List.length_map];exact hown
  have hg8:=HG1.out.grown n2 HG1.out.r2 hgrow;have HG8:=Lh (HG1.out.step n2 hown hgrow (fun k hk=>(hfresh k hk).imp id (fun h=>by rw[World.size_alloc];exact h)))
  have HC8:Hid ((w7.cell? ⟨w1.heap.size,2,none⟩).isSome=true):=by show _=_;rw[Zh hg8.2.2.2.2.1 2];rfl
  have HF8:Hid (w7.frozen? ⟨w1.heap.size,2,none⟩=false):=Zq hg8.2.2.2.2.1 2;have HV8:=Lh (UU hown);obtain⟨W8,hW8⟩:∃W8,W8=w7.setCell ⟨w1.heap.size,2,none⟩ v2':=⟨_,rfl⟩
  have HW8:=Lh hW8;rw[<-hW8] at HG8;clear hown hgrow hfresh hg8 hW8 q0 r2 p0 p4 p5 HG1 HO2 HNW HLO HC6 HF6 HV6 HW6
  gi_wp2_with (refine WG rfl 57 (.tmp 80) (.tmp 79) rfl w1.heap.size 2 v2' rfl rfl HC8.out HF8.out Cv HV8.out ?_;rw[<-HW8.out])
  refine⟨_,_,run_endRound (P:=Tryz.prog) none HG8.out.loop,rfl,v1',v2',?_⟩;rw[List.map_append,List.map_append];exact WS.done (HRe.out.trans hR) n1 HG8.out
 have key:=ZaQ w3.heap.size (w3.heap.size+1) A2 taken taken.length c2 T rfl hT2 HQL.out HS0.out (5-1) l (Ct w1 R Bx d l g rest.length cr w3.heap.size (w3.heap.size+1) (.slice A2 taken.length c2) T) (Im w1 R Bx d l g rest.length cr fid fins day)
  (fun W h=>⟨hG.below (bto HB1.out h.below),HLT.out.below h.below,h.lots,h.txt⟩) (fun b0 ob W W' h hb h0 h1=>h.go fid fins day hb h0 h1) (fun b0 ob ys W h=>by obtain⟨v1,v2,h⟩:=h;exact⟨HLT.out.below h.below,h.par⟩) (fun b0 ob ys W W' h hb=>by obtain⟨v1,v2,h⟩:=h;exact⟨v1,v2,h.mono hb⟩) hY W1 hS0
 refine key.mono ?_;rintro e Wz ⟨hv,zs,b0,ob,hzs,v1,v2,hS2⟩;refine⟨hv,hS2.loop,?_⟩;have hS3:WS w1 { R with state:=.exhausted } Bx d l g rest.length cr b0 ob v1 v2 _ _ (Wz.putObj l (.loop { R with state:=.exhausted })):=WS.done rfl n1 hS2
 obtain⟨W3,hW3⟩:∃W3,W3=Wz.putObj l (.loop { R with state:=.exhausted }):=⟨_,rfl⟩
 rw[<-hW3] at hS3 ⊢;have hrv:=Zw HR1.out hS3.below;obtain⟨W4,hW4⟩:∃W4,W4=W3.setCells (w.heap.size+1) 0 [.slice (some ⟨g,0,none⟩) rest.length cr,v1,v2,.slice none 0 0]:=⟨_,rfl⟩
 have HW4:=Lh hW4;have HLD:Hid (W3.rangeAt w1.heap.size 0 [.slice (some ⟨g,0,none⟩) rest.length cr,v1,v2,.slice none 0 0]):=ZD hS3.res;have HTH:Hid (W3.there (w.heap.size+1) 0 4):=X5 hrv;have HM:Hid ((#[.slice (some ⟨g,0,none⟩) rest.length cr,v1,v2,.slice none 0 0]:Array Value).all (·.oneCell')=true):=all_oneCell_toArray (cs:=[.slice (some ⟨g,0,none⟩) rest.length cr,v1,v2,.slice none 0 0]) (fun v hv=>by simp only[List.mem_cons,List.not_mem_nil,or_false] at hv;rcases hv with rfl|rfl|rfl|rfl;rfl;exact UU hS3.o1;exact UU hS3.o2;rfl)
 have h4:W4.heap[w.heap.size+1]?=some (.cells (T9 g rest.length cr v1 v2) 60 (0,0)):=by
  rw[hW4];exact hset (o:=3) _ (hset (o:=2) _ (hset (o:=1) _ (hset (o:=0) _ hrv)))
 have h4o:∀b,b≠w.heap.size+1->W4.heap[b]?=W3.heap[b]?:=fun b hb=>by
  rw[hW4];show ((((W3.setCell ⟨w.heap.size+1,0,none⟩ _).setCell ⟨w.heap.size+1,1,none⟩ _).setCell ⟨w.heap.size+1,2,none⟩ _).setCell ⟨w.heap.size+1,3,none⟩ _).heap[b]?=_;exact (Below.heap_setCell _ _ _ b hb).trans ((Below.heap_setCell _ _ _ b hb).trans ((Below.heap_setCell _ _ _ b hb).trans (Below.heap_setCell _ _ _ b hb)))
 have h4b:Below w.heap.size w W4:=by rw[hW4];exact Lib.below_setCells _ (by omega) _ _ (bto HB1.out hS3.below)
 have hD4:W4.heap[d]?=some (.deferred (some [])):=(h4o d (by omega)).trans hS3.dfr
 have HS3:=Lh hS3;have HZS:=Lh hzs;have H4:=Lh h4;have H4O:=Lh h4o;have H4B:=Lh h4b;have HD4:=Lh hD4;have HI4:Hid ((Tryz.prog.info? 60).map (·.size)=some 4):=Ew
 clear hW3 hW4 hS3 hzs h4 h4o h4b hD4 hrv key hY hS2 hS0 hv
 gi_wp2_with (first|(refine SK rfl 60 (.tmp 14) rfl w1.heap.size 0 rfl [.slice (some ⟨g,0,none⟩) rest.length cr,v1,v2,.slice none 0 0] HLD.out Tryz.underlying60 rfl HI4.out ?_)|(refine Vl rfl 60 (.tmp 8) (.tmp 81) rfl (w.heap.size+1) 0 #[.slice (some ⟨g,0,none⟩) rest.length cr,v1,v2,.slice none 0 0] rfl rfl HTH.out HI4.out HM.out ?_;rw[<-HW4.out]))
 refine⟨by simp,.inl ⟨_,_,rfl,run_takeDeferred HD4.out,?_⟩⟩
 have h5:(W4.putObj d (.deferred none)).heap[w.heap.size+1]?=some (.cells (T9 g rest.length cr v1 v2) 60 (0,0)):=(World.putObj_heap_other (by omega)).trans H4.out
 have h5o:∀b,b≠w.heap.size+1->b≠d->(W4.putObj d (.deferred none)).heap[b]?=W3.heap[b]?:=fun b hb hb2=>(World.putObj_heap_other (by omega)).trans (H4O.out b hb)
 have hln:(taken.zip (zs.map canon)).length=taken.length:=by rw[List.length_zip,List.length_map,HZS.out.sum.2,List.length_map];omega
 refine⟨.tuple #[.agg (T9 g rest.length cr v1 v2),.int .i64 0],results_cell_tmp Tryz.f94 8 9 60 (T9 g rest.length cr v1 v2) (.int .i64 0) rfl rfl rfl (ZD h5) Tryz.underlying60 rfl HI4.out,?_⟩;have ho1:=HS3.out.o1;have ho2:=HS3.out.o2;rw[List.length_map,hln] at ho1 ho2;refine .inr ⟨rest,taken,HTK.out,g,cr,v1,v2,rfl,⟨zs,HZS.out,Bx,YH ho1 (fun b hb _=>h5o b (by omega) (by omega)),YH ho2 (fun b hb _=>h5o b (by omega) (by omega))⟩,?_,HLK.out.2,YG H4B.out n3.2.2.1⟩
 obtain⟨cur,hc,hr⟩:=HLK.out.1.below HS3.out.below;exact⟨cur,(h5o g (by omega) (by omega)).trans hc,hr⟩
end Go.Proofs.YtpieeldbamklkaaGreatDoor
namespace Go.Proofs.YtpieeldbamklkaaGreatDoor
open Go.RowKit Go.Shelf Num
theorem Lk {α:Type} [BEq α] [LawfulBEq α]:∀(l m:List α),l.Nodup->(∀x∈l,x∈m)->l.length<=m.length
 | [],_,_,_=>Nat.zero_le _
 | x::t,m,hn,hs=>by
  rw[List.nodup_cons] at hn;have hx:=hs x List.mem_cons_self;have h1:=Lk t (m.erase x) hn.2 (fun y hy=>(List.mem_erase_of_ne (fun e=>hn.1 (by rw[<-e];exact hy))).2 (hs y (List.mem_cons_of_mem _ hy)))
  have h2:=List.length_erase_of_mem hx;have h3:=List.length_pos_of_mem hx;rw[List.length_cons];omega
theorem Cw {xs zs:List Lot} {I q:List UInt8} {m:Int} {ps:List Pk} (hE:chE xs I q m ps=0) (hz:zs.Perm (ofL I xs)) :
  Yw (ofI I xs) (val q) (YF zs (OM (ofL I xs) q m ps))/\val (YF zs (OM (ofL I xs) q m ps)).2=0/\YV (YF zs (OM (ofL I xs) q m ps)).1=val q:=by
 obtain⟨c1,c2,-,-,-,c6,c7⟩:=Jf hE;obtain⟨-,-,l3⟩:=PQ c1;have hn:((ofI I xs).map (·.id)).Nodup:=l3.sublist ((List.filter_sublist).map _)
 have h0:Yw (ofI I xs) (val q) (OM (ofL I xs) q m ps):=by
  have h1:Yw (ofI I xs) (val q) (([],q):List Pk×List UInt8):=⟨by simp[YV],Int.le_of_lt c6,c2,fun p hp=>(by cases hp),by simp,fun p hp=>(by cases hp)⟩
  unfold OM
  split
  ·exact Qg ps h1
  ·exact h1
 exact F4 hz hn c7 h0
def AY (xs:List Lot) (I q:List UInt8) (m:Int) (ps pk:List Pk):Prop:=∃zs,zs.Perm (ofL I xs)/\(m=1->(ofL I xs).length<=20->OI cfF (ofL I xs)->zs=ofL I xs)/\pk=(YF zs (OM (ofL I xs) q m ps)).1
structure PkQ (xs:List Lot) (I q:List UInt8) (pk:List Pk):Prop where
 inv:∃rem,Yw (ofI I xs) (val q) (pk,rem)/\val rem=0
 sm:∀p∈pk,p.lot.length<=1000/\p.q.length<=1000
 len:pk.length<=1000
 pos:0<pk.length
 sum:YV pk=val q
theorem AZ {xs:List Lot} {I q:List UInt8} {m:Int} {ps pk:List Pk} (hE:chE xs I q m ps=0) (hs:∀x∈xs,PO x) (hql:q.length<=900) (h:AY xs I q m ps pk):PkQ xs I q pk:=by
 obtain⟨zs,hz,-,rfl⟩:=h;obtain⟨h1,h2,h3⟩:=Cw (m:=m) (ps:=ps) hE hz;obtain⟨c1,c2,-,-,-,c6,c7⟩:=Jf hE;obtain⟨l1,-,-⟩:=PQ c1;generalize YF zs (OM (ofL I xs) q m ps)=s at *;obtain⟨pk,rem⟩:=s;have hmem:=h1.mem;have hp:=Tk pk (fun p hp=>(h1.pos p hp).1)
 refine⟨⟨rem,h1,h2⟩,fun p hpm=>?_,?_,?_,h3⟩
 ·obtain⟨x,hx,e⟩:=hmem p hpm;have hx2:=hs x (List.mem_filter.1 hx).1;obtain⟨p1,p2⟩:=h1.pos p hpm;refine⟨by rw[<-e];exact hx2.id,?_⟩
  have h4:val p.q<=val q:=by have:=hp.2 p hpm;have h3':YV pk=val q:=h3;omega
  have h5:=Zo (l:=q) (k:=900) hql;rw[p2];exact Nt (Zn _ 900 (by omega)) (by decide)
 ·have h5:=Lk (pk.map (·.lot)) ((ofI I xs).map (·.id)) h1.nd (fun y hy=>by
   obtain⟨p,hpm,rfl⟩:=List.mem_map.1 hy;obtain⟨x,hx,e⟩:=hmem p hpm
   exact List.mem_map.2 ⟨x,hx,e⟩)
  rw[List.length_map,List.length_map] at h5;have h6:(ofI I xs).length<=xs.length:=List.length_filter_le _ _;show pk.length<=1000;omega
 ·cases pk with
  | nil=>have h3':(0:Int)=val q:=h3;omega
  | cons a t=>simp
theorem A4 {xs:List Lot} {I q:List UInt8} {pk:List Pk} (hV:Vj xs=0) (hk:PkQ xs I q pk) (hp:VA xs [] pk=0) :
  P4 xs pk/\((Yr (xs,[]) pk).2).map (·.q)=pk.map (·.q):=by
 obtain⟨l1,l2,l3⟩:=PQ hV;have hc:∀x∈xs,x.q=canon (val x.q):=fun x hx=>(JX (l2 x hx)).2.2.2.2.2.1
 obtain⟨rem,hi,hr⟩:=hk.inv;obtain⟨a1,a2,-⟩:=P5 hc pk [] hp;exact⟨⟨l3,a1,a2⟩,(Gr l3 hc hi hr hp).2.2.2.2.1⟩
end Go.Proofs.YtpieeldbamklkaaGreatDoor
