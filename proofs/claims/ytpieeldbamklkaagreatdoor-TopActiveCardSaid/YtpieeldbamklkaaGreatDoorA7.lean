/- Texts put together: Rj Sd Rk Rn Ro Uv Rp Rq Rs Rt Ru Rv Rw Rx Ry. -/
import Derived.Test.YtpieeldbamklkaaGreatDoorA6
import Derived.WalkKit
import Derived.Deep.RegionLaw
import Derived.Lib.SliceRun
import Derived.Laws.IdiomCopy
import Derived.Lib.SlBuf
import Derived.OwnWalkIn
set_option maxHeartbeats 8000000
set_option maxRecDepth 1000000
namespace Go.Proofs.YtpieeldbamklkaaGreatDoor
open Go.RowKit Num
theorem Zc8 (p r:Pk) (bx:Nat) (w:World) (h:Blk w bx #[.string ⟨r.lot.toArray⟩,.string ⟨r.q.toArray⟩]) :
  Calls Tryz.prog 276 #[.agg #[.string ⟨p.lot.toArray⟩,.string ⟨p.q.toArray⟩],.pointer (some ⟨bx,0,none⟩)] w fun e w'=>e=.returned (.bool (Yb r.lot p))/\Below w.heap.size w w':=by
 have hb:=Zb w (.cells #[.string ⟨p.lot.toArray⟩,.string ⟨p.q.toArray⟩] 195);have x1:=Blk.new w #[.string ⟨p.lot.toArray⟩,.string ⟨p.q.toArray⟩] 195;have p0:=x1.c 0;have p1:=(h.below hb).c 0;have HV:Hid (Yb r.lot p=(p.lot==r.lot)):=rfl;have he:=Tn p.lot r.lot;generalize Yb r.lot p=R at *;clear h x1;go_enter Tryz.func276,Tryz.ntmps276;go_wp2;go_ret;refine⟨Ya ?_,hb⟩;rw[HV.out]<;>first|exact he|rfl
theorem Fi (args:Array Value) (w:World):(callFunc 276 args).run Tryz.prog w=.ok (.enter 276 args) w:=by kernel_rfl
theorem DR {α:Type} {xs:List α} {i:Nat} {x:α} (h:xs[i]?=some x):i<xs.length:=(Lg.1 h).1
theorem JO {xs:List Lot} {ps:List Pk} {k:Nat} {p:Pk} (h:ps[k]?=some p):VB xs (ps.take k) (ps.drop k)=if ZG (isLt p.lot) xs 0<0 then 6 else if (ps.take k).any (Yb p.lot)=true then 5 else if ¬p.q=canon (val p.q) then 1 else if val p.q<=0 then 2 else
   if val (xs.getD (ZG (isLt p.lot) xs 0).toNat ⟨[],[],0,0,[],[],[]⟩).q<val p.q then 15 else VB xs (ps.take (k+1)) (ps.drop (k+1)):=by
 obtain⟨hk,rfl⟩:=Lg.1 h;rw[List.drop_eq_getElem_cons hk,List.take_succ_eq_append_getElem hk];rfl
theorem Fj {w:World} {A Ap:Option Addr} {xs:List Lot} {ps:List Pk} {n np:Nat} (c cp:Nat) (hG:GE w) (hL:Xp w A xs n) (hP:TD w Ap ps) (hpn:ps.length=np) (hpc:np<=cp) (hpn2:np<=100000) (hps:∀p∈ps,p.lot.length<=1000/\p.q.length<=2000) :
  Calls Tryz.prog 213 #[.slice A n c,.pointer none,.slice Ap np cp] w fun e w'=>e=.returned (.int .i64 (VB xs [] ps))/\Below w.heap.size w w':=by
 have hn2:=hL.big;have HL:=Lh hL;have HP:=Lh hP;have HPS:=Lh hps;have HPN:=Lh hpn;have hp1:ps.length<=np:=by omega
 have hp2:np<=ps.length:=by omega
 obtain⟨E,hE⟩:∃E,E=VB xs [] ps:=⟨_,rfl⟩
 rw[<-hE];have HE:Hid (E=VB xs (ps.take 0) (ps.drop 0)):=hE;have hb0:=Below.refl w.heap.size w;clear hL hP hps hpn hE;go_enter Tryz.func213,Tryz.ntmps213;go_wp2_with fail
 go_loopw [7,8,9,10,13,18,25,28,42,48,53,58] (fun _ _ _ _ iv _ _ _ _ _ _ _ wr=>∃k:Nat,k<=np/\iv=.int .i64 (k:Int)/\Hid (E=VB xs (ps.take k) (ps.drop k))/\Below w.heap.size w wr) (fun _ _ _ _ iv _ _ _ _ _ _ _ _=>np-(intOf iv).toNat)
 case atStart=>exact⟨0,Nat.zero_le _,rfl,HE.out,hb0⟩
 case round=>
  clear HE hb0;obtain⟨k,hk,rfl,HE,hb⟩:=hrel
  by_cases hlk:k<np
  rotate_left
  ·have HQ:Hid (E=0):=by
    have h:=HE.out;rw[List.drop_of_length_le (by omega)] at h
    exact h
   have e1:decide (k<np)=false:=Df hlk;have e2:decide ((k:Int)<(np:Int))=false:=Df (by omega)
   clear HE;go_wp2;go_ret;exact⟨ZH HQ.out.symm,hb⟩
  have e1:decide (k<np)=true:=Dt hlk;have e2:decide ((k:Int)<(np:Int))=true:=Dt (by omega)
  obtain⟨p,hp⟩:∃p,ps[k]?=some p:=⟨_,List.getElem?_eq_getElem (by omega)⟩
  have hpz:=HPS.out p (Lm hp);obtain⟨bp,op,rfl,hbps,p0,p1⟩:=(HP.out.below hb) k p hp;have hbA:=Zb wr (.cells #[.string ⟨p.lot.toArray⟩,.string ⟨p.q.toArray⟩] 195);have X1:=Lh (Blk.new wr #[.string ⟨p.lot.toArray⟩,.string ⟨p.q.toArray⟩] 195);have q0:=X1.out.c 0;have HV:=Lh (HE.out.trans (JO hp));replace hb:=bto hb hbA;have KF:=Lh (ZaQ c p.lot HL.out.len hn2 (HL.out.mem.below hb));obtain⟨bx,hbx⟩:∃bx,bx=wr.heap.size:=⟨_,rfl⟩
  rw[<-hbx] at X1 q0;have HBX:=Lh hbx;have hkc:(k:Int)<=(cp:Int):=by omega
  clear hp hbA HE hbx;go_wp2_with fail;rw[<-HBX.out];refine KF.out.mono ?_;rintro e w1 ⟨rfl,hb1⟩;clear p0 p1 q0 KF e1 e2;replace X1:=Lh (X1.out.below hb1);replace hb:=bto hb hb1;clear hb1
  by_cases g1:ZG (isLt p.lot) xs 0<0
  ·have HQ:Hid (E=6):=by show _=_;rw[HV.out,if_pos g1]
   rw[Df (by omega:¬0<=ZG (isLt p.lot) xs 0)]
   clear g1 HV X1;go_wp2;go_ret;exact⟨ZH HQ.out.symm,hb⟩
  have HV1:=Lh (HV.out.trans (if_neg g1));obtain⟨i,x,hzi,hxi,-,-⟩:=VA _ _ _ (Int.not_lt.1 g1);rw[Nat.zero_add] at hzi;have hpos:Dq (ZG (isLt p.lot) xs 0)=(i:Int):=by rw[hzi];exact if_pos (by omega)
  rw[Dt (Int.not_lt.1 g1),hpos];have hxq:xs.getD (ZG (isLt p.lot) xs 0).toNat ⟨[],[],0,0,[],[],[]⟩=x:=by rw[hzi,Int.toNat_natCast,List.getD_eq_getElem?_getD,hxi];rfl
  rw[hxq] at HV1;have hiN:i<n:=by rw[<-HL.out.len];exact DR hxi
  have hxs:=HL.out.sm x (Lm hxi);have KP:=Lh (fun (w':World) (hb':Below w1.heap.size w1 w')=>ZaP _ Fi (Yb p.lot) #[.pointer (some ⟨bx,0,none⟩)] (some ⟨bp,op,none⟩) (ps.take k) k cp w' (by rw[List.length_take];omega) (by omega) (((HP.out.below hb).below hb').take k) (fun r _ w2 hb2=>Zc8 r p bx w2 ((X1.out.below hb').below hb2)))
  have HXI:=Lh hxi;clear g1 HV hzi hxi hpos hxq;go_wp2_with fail;refine Zt (by kernel_rfl) (by kernel_rfl) ?_
  iterate 3
   refine Zd _ (fun _=>rfl) (fun ρ wz hw=>by go_simp;try with_reducible rfl) ?_
   simp only[Act.put,StT,StZ,StS,Nat.reduceAdd]
  iterate 9
   refine YY (fun _=>rfl) ?_
   simp only[Act.put,StT,StZ,StS,Nat.reduceAdd]
  iterate 2
   refine Zd _ (fun _=>rfl) (fun ρ wz hw=>by go_simp;try with_reducible rfl) ?_
   simp only[Act.put,StT,StZ,StS,Nat.reduceAdd]
  intro ρ w2 hF;dsimp only;have hbF:=hF.below;clear hF;go_wp2_with fail;refine (KP.out _ hbF).mono ?_;rintro e w3 ⟨rfl,hb3⟩;replace X1:=Lh ((X1.out.below hbF).below hb3);replace hb:=bto (bto hb hbF) hb3;clear hbF hb3 KP
  by_cases g2:(ps.take k).any (Yb p.lot)=true
  ·have HQ:Hid (E=5):=by show _=_;rw[HV1.out,if_pos g2]
   rw[g2];clear g2 HV1 X1;go_wp2;go_ret;exact⟨ZH HQ.out.symm,hb⟩
  have HV2:=Lh (HV1.out.trans (if_neg g2));rw[Yc g2];have K1:=Lh (Yz (l:=p.q) (by omega) rfl)
  have q1:=X1.out.c 1;clear g2 HV1
  by_cases g3:p.q=canon (val p.q)
  rotate_left
  ·have HQ:Hid (E=1):=by show _=_;rw[HV2.out,if_pos g3]
   rw[if_neg g3] at K1;clear g3 HV2;go_wp2_with fail
   with_reducible refine (K1.out.e.of hG hb).mono ?_
   rintro e w4 ⟨rfl,hb4⟩;replace hb:=bto hb hb4;go_wp2;go_ret;exact⟨ZH HQ.out.symm,hb⟩
  have HV3:=Lh (HV2.out.trans (if_neg (fun h=>h g3)))
  rw[if_pos g3] at K1;clear g3 HV2;go_wp2_with fail
  with_reducible refine (K1.out.e.of hG hb).mono ?_
  rintro e w4 ⟨rfl,hb4⟩;replace X1:=Lh (X1.out.below hb4);replace hb:=bto hb hb4;clear hb4 q1 K1;have q1:=X1.out.c 1;have K2:=Lh (VY (l:=p.q) (by omega))
  by_cases g4:val p.q<=0
  ·have HQ:Hid (E=2):=by show _=_;rw[HV3.out,if_pos g4]
   rw[Df (by omega:¬0<val p.q)] at K2
   clear g4 HV3;go_wp2_with fail
   with_reducible refine (K2.out.e.of hG hb).mono ?_
   rintro e w5 ⟨rfl,hb5⟩;replace hb:=bto hb hb5;go_wp2;go_ret;exact⟨ZH HQ.out.symm,hb⟩
  have HV4:=Lh (HV3.out.trans (if_neg g4));rw[Dt (by omega:0<val p.q)] at K2
  clear g4 HV3;go_wp2_with fail
  with_reducible refine (K2.out.e.of hG hb).mono ?_
  rintro e w5 ⟨rfl,hb5⟩;replace X1:=Lh (X1.out.below hb5);replace hb:=bto hb hb5;clear hb5 q1 K2;obtain⟨b,o,rfl,hbs,hcx⟩:=(HL.out.mem.below hb) i x HXI.out;have HXC:=Lh hcx;obtain⟨cc,hcc⟩:∃cc,cc=ZI (val p.q) (val x.q):=⟨_,rfl⟩
  have hxsq:=hxs.q;have KC:=Lh (ZM (l:=p.q) (l':=x.q) (by omega) (by omega) hcc.symm)
  have hci:0<cc↔val x.q<val p.q:=by
   rw[hcc];unfold ZI
   split
   ·omega
   ·split<;>omega
  obtain⟨bv,hbv⟩:∃bv,bv=decide (0<cc):=⟨_,rfl⟩
  have HBV:=Lh hbv;clear hcx hcc hbv;go_wp2_with fail;refine Zt (by kernel_rfl) (by kernel_rfl) ?_
  refine Zd _ (fun _=>rfl) (fun ρ wz hw=>by go_simp;try with_reducible rfl) ?_
  simp only[Act.put,StT,StZ,StS,Nat.reduceAdd];refine Zd _ (fun _=>rfl) (fun ρ wz hw=>by have q0:=(X1.out.below hw).c 1;go_simp;try with_reducible rfl) ?_
  iterate 2
   simp only[Act.put,StT,StZ,StS,Nat.reduceAdd];refine Zd _ (fun _=>rfl) (fun ρ wz hw=>by go_simp;try with_reducible rfl) ?_
  simp only[Act.put,StT,StZ,StS,Nat.reduceAdd];refine Zd (.pointer (some ⟨b,o+i*7,none⟩)) (fun _=>rfl) (fun ρ wz hw=>by go_simp;try with_reducible rfl) ?_
  simp only[Act.put,StT,StZ,StS,Nat.reduceAdd];refine Zd (.pointer (some ⟨b,o+i*7+4,none⟩)) (fun _=>rfl) (fun ρ wz hw=>by go_simp;try with_reducible rfl) ?_
  simp only[Act.put,StT,StZ,StS,Nat.reduceAdd];refine Zd _ (fun _=>rfl) (fun ρ wz hw=>by have q0:=(HXC.out.below hbs hw).c4;go_simp;try with_reducible rfl) ?_
  simp only[Act.put,StT,StZ,StS,Nat.reduceAdd];refine Zr _ _ _ (fun _=>rfl) (fun ρ wz hw=>by go_simp;try with_reducible rfl) (fun wz hw=>KC.out.e.of hG (bto hb hw)) ?_
  simp only[Act.put,StT,StZ,StS,Nat.reduceAdd];refine Zd (.bool bv) (fun _=>rfl) (fun ρ wz hw=>by rw[HBV.out];go_simp;try with_reducible rfl) ?_
  simp only[Act.put,StT,StZ,StS,Nat.reduceAdd];refine Zd _ (fun _=>rfl) (fun ρ wz hw=>by go_simp;try with_reducible rfl) ?_
  simp only[Act.put,StT,StZ,StS,Nat.reduceAdd];intro ρ w6 hF;dsimp only;replace hb:=bto hb hF.below;clear hF KC HXC X1;have hbv:=HBV.out;clear HBV;cases bv;rotate_left
  ·have g5:val x.q<val p.q:=hci.1 (of_decide_eq_true hbv.symm);have HQ:Hid (E=15):=by show _=_;rw[HV4.out,if_pos g5]
   clear g5 HV4 hci hbv;go_wp2;go_ret;exact⟨ZH HQ.out.symm,hb⟩
  ·have g5:¬val x.q<val p.q:=fun h=>of_decide_eq_false hbv.symm (hci.2 h)
   have HQ:Hid (E=VB xs (ps.take (k+1)) (ps.drop (k+1))):=by show _=_;rw[HV4.out,if_neg g5]
   clear g5 HV4 hci hbv;go_wp2;go_roundw
   case rel=>exact⟨k+1,by omega,by go_num,HQ.out,hb⟩
   case measure=>simp[intOf];omega
theorem DT (cs:Array Value):(Builtin.zeroCells cs 1).toList=cs.toList:=by
 unfold Builtin.zeroCells;rw[Nat.one_mul];apply List.ext_getElem
 ·simp
 ·intro i h1 h2;have hi:i<cs.size:=by simpa using h2
  simp[Nat.mod_eq_of_lt hi,hi]
theorem Nx {P:Program} (w:World) (t e ty:TypeId) (z:Value) (ht:P.underlying t=some (.slice e)) (hv:∀w,(zeroValue e).run P w=.ok z w) (h1:∀u∈z.cells.toList,u.oneCell'=true) (b o c:Nat)
  (hc:∀j,j<z.cells.size->(w.cell? ⟨b,o+j,none⟩).isSome=true) (hf:∀j,j<z.cells.size->w.frozen? ⟨b,o+j,none⟩=false) :
  (Builtin.clear_ #[t] ty #[.slice (some ⟨b,o,none⟩) 1 c]).run P w=.ok (.tuple #[]) (w.setCells b o z.cells.toList):=by
 have hst:=run_storeCells_cells (P:=P) b o z.cells.toList 0 w (by simpa using hc) (by simpa using hf) h1
 simp only[Nat.add_zero] at hst;simp[Builtin.clear_,run_underlying ht,hv,DT,hst]
theorem Ux (b:Nat) {t:TypeId}:∀(vs:List Value) (o:Nat) (w:World) (cur:Array Value),w.heap[b]?=some (.cells cur t (0,0))->o+vs.length<=cur.size->
  ∃cur',(w.setCells b o vs).heap[b]?=some (.cells cur' t (0,0))/\cur'.size=cur.size
 | [],o,w,cur,h,_=>⟨cur,h,rfl⟩
 | v::r,o,w,cur,h,hl=>by
  have h1:(w.setCell ⟨b,o,none⟩ v).heap[b]?=some (.cells (cur.setIfInBounds o v) t (0,0)):=by
   obtain⟨hlt,hk⟩:=Ag.1 h;show (w.heap.modify b _)[b]?=_;rw[Array.getElem?_eq_getElem (by rw[Array.size_modify];exact hlt),Array.getElem_modify_self,hk]
   simp
  obtain⟨cur',e1,e2⟩:=Ux b r (o+1) _ _ h1 (by simp at hl ⊢;omega)
  exact⟨cur',e1,by rw[e2];simp⟩
theorem Zc9 (g n cp k:Nat) (cur:Array Value) (xs:List Lot) (w:World) (hn:xs.length=n) (hk:k<n) (hcap:n<=cp) (hH:w.heap[g]?=some (.cells cur 130 (0,0))) (hsz:n*7<=cur.size) (ht:cur.toList.take (n*7)=Yf xs) :
  Calls Tryz.prog 214 #[.slice (some ⟨g,0,none⟩) n cp,.int .i64 (k:Int),.int .i64 ((k:Int)+1)] w fun e w'=>e=.returned (.slice (some ⟨g,0,none⟩) (n-1) cp)/\YL w' g (xs.eraseIdx k)/\Zl (fun b=>b=g) w w':=by
 have hlt:=(Ag.1 hH).1;have hcell:∀j,j<cur.size->w.cell? ⟨g,j,none⟩=cur[j]?:=fun j _=>Zg hH j
 have hrow:∀j,j<n*7->w.cell? ⟨g,j,none⟩=(Yf xs)[j]?:=fun j hj=>by
  rw[hcell j (by omega),<-ht,List.getElem?_take,if_pos hj,Array.getElem?_toList]
 have hfr:∀j,w.frozen? ⟨g,j,none⟩=false:=fun j=>Zm hH j
 obtain⟨i0,e0,e1,e2,e3⟩:=info_parts UY;obtain⟨news,hnews⟩:∃news,news=(Yf xs).drop ((k+1)*7):=⟨_,rfl⟩
 have hlen:news.length=(n-(k+1))*7:=by rw[hnews,List.length_drop,VT,hn,Nat.sub_mul]
 obtain⟨A,hA,hsrc⟩:∃A:Addr,(if cp=k+1 then (some ⟨g,0,none⟩:Option Addr) else some ⟨g,(k+1)*7,none⟩)=some A/\Hid (∀t u,news[t]?=some u->w.drew.cell? (A.add t)=some u):=by
  by_cases h:cp=k+1
  ·refine⟨⟨g,0,none⟩,by rw[if_pos h],fun t u hu=>?_⟩
   have h0:news.length=0:=by
    rw[hlen];have:n-(k+1)=0:=by omega
    rw[this,Nat.zero_mul]
   rw[List.length_eq_zero_iff.1 h0] at hu;simp at hu
  ·refine⟨⟨g,(k+1)*7,none⟩,by rw[if_neg h],fun t u hu=>?_⟩
   have htl:=(Lg.1 hu).1;rw[Lib.add_plain];show w.cell? _=_;rw[hrow _ (by rw[hlen,Nat.sub_mul] at htl;omega),<-hu,hnews,List.getElem?_drop]
 have s2:Hid (∀u∈news,u.oneCell'=true):=fun u hu=>by
  rw[hnews] at hu;exact VU xs u (List.mem_of_mem_drop hu)
 have s3:Hid (∀t,t<news.length->(w.drew.cell? ⟨g,0+k*7+t,none⟩).isSome=true/\w.drew.frozen? ⟨g,0+k*7+t,none⟩=false):=fun t ht2=>by
  rw[hlen,Nat.sub_mul] at ht2;refine⟨?_,hfr _⟩;show (w.cell? _).isSome=true;rw[hcell _ (by omega),Array.getElem?_eq_getElem (by omega)];rfl
 obtain⟨W1,hW1⟩:∃W1,W1=w.drew.setCells g (0+k*7) news:=⟨_,rfl⟩
 have hH0:w.drew.heap[g]?=some (.cells cur 130 (0,0)):=hH;obtain⟨cur1,hH1,hs1⟩:=Ux g news (0+k*7) w.drew cur hH0 (by rw[hlen,Nat.sub_mul];omega)
 rw[<-hW1] at hH1;have hz:∀w,(zeroValue 130).run Tryz.prog w=.ok (Value.agg #[.string ⟨#[]⟩,.string ⟨#[]⟩,.int .i64 0,.int .i64 0,.string ⟨#[]⟩,.string ⟨#[]⟩,.string ⟨#[]⟩]) w:=Tryz.zeroValue130
 have hcl:∀ty,(Builtin.clear_ #[44] ty #[.slice (some ⟨g,(n-1)*7,none⟩) 1 (cp-(n-1))]).run Tryz.prog W1=.ok (.tuple #[]) (W1.setCells g ((n-1)*7) (Value.agg #[.string ⟨#[]⟩,.string ⟨#[]⟩,.int .i64 0,.int .i64 0,.string ⟨#[]⟩,.string ⟨#[]⟩,.string ⟨#[]⟩]).cells.toList):=
  fun ty=>Nx W1 _ _ ty _ Tryz.underlying44 hz (by decide) g _ _ (fun j hj=>by
   have hj:j<7:=hj
   rw[Zg hH1,Array.getElem?_eq_getElem (by rw[hs1];omega)];rfl) (fun j _=>Zm hH1 _)
 obtain⟨W2,hW2⟩:∃W2,W2=W1.setCells g ((n-1)*7) (Value.agg #[.string ⟨#[]⟩,.string ⟨#[]⟩,.int .i64 0,.int .i64 0,.string ⟨#[]⟩,.string ⟨#[]⟩,.string ⟨#[]⟩]).cells.toList:=⟨_,rfl⟩
 have hlE:(xs.eraseIdx k).length=n-1:=by rw[List.length_eraseIdx_of_lt (by omega),hn]
 obtain⟨cur2,hH2,hs2⟩:=Ux g (Value.agg #[.string ⟨#[]⟩,.string ⟨#[]⟩,.int .i64 0,.int .i64 0,.string ⟨#[]⟩,.string ⟨#[]⟩,.string ⟨#[]⟩]).cells.toList ((n-1)*7) W1 cur1 hH1 (by show (n-1)*7+7<=_;rw[hs1];omega)
 rw[<-hW2] at hH2;have key:∀i x,(xs.eraseIdx k)[i]?=some x->∀r,r<7->W2.cell? ⟨g,i*7+r,none⟩=(lcs x)[r]?:=by
  intro i x hx r hr;have hil:=(Lg.1 hx).1;rw[hlE] at hil;rw[hW2,World.cell?_setCells_out g _ _ _ _ (fun _ _=>.inl (by show i*7+r<_;omega))]
  rw[hW1]
  by_cases hik:i<k
  ·rw[World.cell?_setCells_out g _ _ _ _ (fun _ _=>.inl (by show i*7+r<_;omega))]
   show w.cell? _=_;rw[List.getElem?_eraseIdx_of_lt hik] at hx;rw[hrow _ (by omega),Vq hx r hr]
  ·rw[List.getElem?_eraseIdx_of_ge (by omega)] at hx
   obtain⟨t,rfl⟩:∃t,i=k+t:=⟨i-k,by omega⟩
   have e5:(k+t)*7+r=0+k*7+(t*7+r):=by omega
   have hj:t*7+r<news.length:=by rw[hlen,Nat.sub_mul];omega
   rw[e5,World.cell?_setCells_in g news _ _ (fun j hj=>(s3.out j hj).1) _ hj,<-List.getElem?_eq_getElem hj,hnews,List.getElem?_drop,show (k+1)*7+(t*7+r)=(k+t+1)*7+r by omega,Vq hx r hr]
 have hend:YL W2 g (xs.eraseIdx k)/\Zl (fun b=>b=g) w W2:=by
  constructor
  ·refine⟨cur2,hH2,?_,by rw[hlE];omega⟩
   apply List.ext_getElem?;intro j;rw[List.getElem?_take]
   by_cases hj:j<(xs.eraseIdx k).length*7
   ·rw[if_pos hj,Array.getElem?_toList,<-Zg hH2 j];obtain⟨i,r,rfl,hr⟩:∃i r,j=i*7+r/\r<7:=⟨j / 7,j % 7,by omega,by omega⟩
    have hi:i<(xs.eraseIdx k).length:=by omega
    have hx:=List.getElem?_eq_getElem hi;rw[key i _ hx r hr,Vq hx r hr]
   ·rw[if_neg hj,List.getElem?_eq_none (by rw[VT];omega)]
  ·have h0:Zl (fun b=>b=g) w w.drew:=⟨rfl,rfl,rfl,Nl _,fun _ _ _=>rfl⟩
   rw[hW2,hW1];exact (h0.trans (ZW (X:=fun b=>b=g) rfl _ _ _)).trans (ZW (X:=fun b=>b=g) rfl _ _ _)
 clear key hH2 hs2 hlE;have HE:=Lh hend;have s1:Hid (news.length=(n-(k+1))*7):=hlen;have hW:Hid (W1=w.drew.setCells g (0+k*7) news):=hW1;have hX:Hid (W2=W1.setCells g ((n-1)*7) (Value.agg #[.string ⟨#[]⟩,.string ⟨#[]⟩,.int .i64 0,.int .i64 0,.string ⟨#[]⟩,.string ⟨#[]⟩,.string ⟨#[]⟩]).cells.toList):=hW2;simp only[<-hX.out] at hcl;have HK:Hid (k+(n-(k+1))=n-1):=by show _=_;omega
 have hcl2:∀ty,(Builtin.clear_ #[44] ty #[.slice (some ⟨g,(k+(n-(k+1)))*7,none⟩) (n-(k+(n-(k+1)))) (cp-(k+(n-(k+1))))]).run Tryz.prog W1=.ok (.tuple #[]) W2:=fun ty=>by rw[HK.out,show n-(n-1)=1 by omega];exact hcl ty
 clear hcl;have hic:k<=cp:=by omega
 have hk0:(0:Int)<=(k:Int)+1:=by omega
 have hkn:(k:Int)+1<=(n:Int):=by omega
 have mixed:Tryz.prog.follows .mixedOrders=true:=by kernel_rfl
 have hjc:k+1<=cp:=by omega
 clear hend hW1 hW2 hH1 hH hH0 hs1 hcell hrow hfr hnews hlen hz ht hsz hlt hn;go_enter Tryz.func214,Tryz.ntmps214;go_wp2_with fail
 go_region_law_o (refine step_append_room rfl (.tmp 22) (.tmp 25) 44 rfl 130 i0 7 Tryz.underlying44 e0 e2 g 0 k cp (by simp[Act.eval,Act.put]) A (n-(k+1)) (cp-(k+1)) news (by simp[Act.eval,Act.put]) s1.out hsrc.out s2.out (by omega) s3.out ?_;rw[<-hW.out])
 go_wp2;go_ret;exact⟨by rw[HK.out];rfl,HE.out⟩
def Va (w:World) (B:Nat) (v:Value) (xs:List Lot):Prop:=w.ownsRow B 130 7 v xs.length (Yf xs)
section
variable {w w':World} {B b i:Nat} {u v v':Value} {xs:List Lot}
theorem Va.below (h:Va w B v xs) (hb:Below w.heap.size w w'):Va w' B v xs:=by
 refine⟨h.1,?_⟩;rcases h.2 with h2|⟨g,cap,cur,e,hB,hg,r⟩
 ·exact .inl h2
 ·exact .inr ⟨g,cap,cur,e,hB,(hb.block g (Ag.1 hg).1).trans hg,r⟩
theorem Va.keepX {X:Nat->Prop} (h:Va w B v xs) (hb:Zl X w w') (hx:∀g,v.ownBlock=some g->¬X g):Va w' B v xs:=by
 refine⟨h.1,?_⟩;rcases h.2 with h2|⟨g,cap,cur,e,hB,hg,r⟩
 ·exact .inl h2
 ·exact .inr ⟨g,cap,cur,e,hB,(hb.block g (Ag.1 hg).1 (hx g (by rw[e];rfl))).trans hg,r⟩
theorem Va.block (h:Va w B v xs):∀g,v.ownBlock=some g->B<=g/\g<w.heap.size:=World.ownsRow.lt h
theorem Va.form (h:Va w B v xs):∃A c,v=.slice A xs.length c:=by
 rcases h.2 with ⟨e,hn⟩|⟨g,cap,cur,e,-⟩
 ·exact⟨none,0,by rw[e,hn]⟩
 ·exact⟨_,_,e⟩
theorem Va.formN {n:Nat} (h:Va w B v xs) (hn:xs.length=n):∃A c,v=.slice A n c:=by rw[<-hn];exact h.form
theorem Va.row (h:Va w B v xs) (h0:0<xs.length):∃g c,v=.slice (some ⟨g,0,none⟩) xs.length c/\B<=g/\xs.length<=c/\YL w g xs:=by
 rcases h.2 with ⟨hv,h1⟩|⟨g,cap,cur,hv,hb,hh,hcap,_,hsz,htk⟩
 ·omega
 ·exact⟨g,cap,hv,hb,hcap,cur,hh,htk,by rw[hsz];exact Nat.mul_le_mul_right 7 hcap⟩
theorem Va.lotAt (h:Va w B v xs) {A:Option Addr} {n c:Nat} (e:v=.slice A n c):Vy w A xs:=by
 by_cases h0:0<xs.length
 ·obtain⟨g,c',e2,-,-,hp⟩:=h.row h0;rw[e] at e2;injection e2 with e2
  subst e2;exact hp.lotAt
 ·have:xs=[]:=List.eq_nil_of_length_eq_zero (by omega)
  subst this;exact fun i x hx=>by simp at hx
end
theorem DU (w:World) (B:Nat):Va w B (.slice none 0 0) []:=World.ownsRow_nil w B _ 7
theorem Va.app {w:World} {B n:Nat} {v:Value} {xs:List Lot} {x:Lot} (h:w.ownsRow B 130 7 v (n+1) (Yf xs++lcs x)) (hn:xs.length=n):Va w B v (xs++[x]):=by
 unfold Va;rw[List.length_append,List.length_singleton,hn,NK];exact h
theorem TV {α:Type} {xs:List α} {k n:Nat} (hn:xs.length=n) (hk:k<n):(xs.eraseIdx k).length=n-1:=by rw[List.length_eraseIdx_of_lt (by omega),hn]
theorem Zbz (A:Option Addr) (ps:List Lot) (n c:Nat) (w:World) (hn:ps.length=n) (h0:0<n) (hn2:n<=1000000) (h:Vy w A ps) :
  Calls Tryz.prog 58 #[.slice A n c] w fun e w'=>∃v,e=.returned v/\Va w' w.heap.size v ps/\Below w.heap.size w w':=by
 obtain⟨x0,hx0⟩:∃x,ps[0]?=some x:=⟨_,List.getElem?_eq_getElem (by omega)⟩
 obtain⟨b,o,rfl,hbs,-⟩:=h 0 x0 hx0;obtain⟨i0,e0,e1,e2,e3⟩:=info_parts UY;refine (AnyE.slices_Clone Tryz.cloneLt i0 _ 7 96 e0 e1 e2 e3 rfl (by decide) Tryz.sizeOf130 b o n c (Yf ps) w (by rw[VT,hn]) (by unfold maxLen;omega) (by omega) (fun j u hu=>?_) (VU ps)).mono ?_
 ·obtain⟨x,h1,h2⟩:=Qr hu;obtain⟨b',o',hA,-,hc⟩:=h (j / 7) x h1;cases hA;have hlt:j % 7<7:=Nat.mod_lt _ (by decide)
  have ej:o+j=o+j / 7*7+j % 7:=by omega
  rw[ej];generalize j % 7=m at *
  match m,hlt with
  | 0,_=>cases h2;exact hc.c0
  | 1,_=>cases h2;exact hc.c1
  | 2,_=>cases h2;exact hc.c2
  | 3,_=>cases h2;exact hc.c3
  | 4,_=>cases h2;exact hc.c4
  | 5,_=>cases h2;exact hc.c5
  | 6,_=>cases h2;exact hc.c6
 ·rintro e w' ⟨v,rfl,hown,-,hb⟩;have hown':w'.ownsRow w.heap.size 130 7 v n (Yf ps):=hown;subst hn;exact⟨v,rfl,hown',hb⟩
structure AZ (xs:List Lot) (ps:List Pk) (k:Nat) (s:List Lot×List Lot):Prop where
 ok:OS s.1 (ps.drop k)
 old:∀p∈ps.drop k,∀y∈s.1,y.id=p.lot->y∈xs
 len:s.1.length<=xs.length
 tak:s.2.length=k
theorem JP {xs:List Lot} {ps:List Pk} (h:OS xs ps):AZ xs ps 0 (xs,[]):=⟨h,fun _ _ _ hy _=>hy,Nl _,rfl⟩
theorem drop_at {α:Type} {ps:List α} {k:Nat} {p:α} (h:ps[k]?=some p):ps.drop k=p::ps.drop (k+1):=by
 obtain⟨hk,rfl⟩:=Lg.1 h;exact List.drop_eq_getElem_cons hk
theorem Fl {xs:List Lot} {ps:List Pk} {k:Nat} {s:List Lot×List Lot} {p:Pk} (h:AZ xs ps k s) (hp:ps[k]?=some p):AZ xs ps (k+1) (stepT s p)/\Yw s (ps.drop k)=Yw (stepT s p) (ps.drop (k+1)):=by
 have hok:=h.ok;have hold:=h.old;rw[drop_at hp] at hok hold;obtain⟨h1,h2,-,-,-,h6⟩:=LS (xs:=s.1) (t:=s.2) hok;have hnd:=hok.pnd;rw[List.map_cons,List.nodup_cons] at hnd;refine⟨⟨h1,fun r hr y hy e=>hold r (List.mem_cons_of_mem _ hr) y (h6 y hy (fun e2=>hnd.1 (List.mem_map.2 ⟨r,hr,e ▸ e2⟩))) e,Nt h2.len h.len,?_⟩,by rw[drop_at hp];rfl⟩
 have h3:=congrArg List.length h2.qs;simp only[List.length_map,List.length_append,List.length_cons,List.length_nil] at h3
 have:=h.tak
 show (stepT (s.1,s.2) p).2.length=_;omega
theorem Xi (w1:World) (a b:Obj):((w1.alloc a).alloc b).heap[w1.heap.size]?=some a/\((w1.alloc a).alloc b).heap[w1.heap.size+1]?=some b/\Below w1.heap.size w1 ((w1.alloc a).alloc b)/\((w1.alloc a).alloc b).heap.size=w1.heap.size+2:=by
 have h1:=ZJ w1 a;have h2:=ZJ (w1.alloc a) b;have hb1:=Zb w1 a;have hb2:=Zb (w1.alloc a) b;have e:(w1.alloc a).heap.size=w1.heap.size+1:=by simp
 rw[e] at h2;exact⟨Zk h1 hb2,h2,bto hb1 hb2,by simp⟩
structure Sk (w:World) (B g cp:Nat) (s:List Lot×List Lot) (v:Value) (W:World):Prop where
 below:Below w.heap.size w W
 lo:w.heap.size<=g
 gb:g<B
 le:B<=W.heap.size
 row:YL W g s.1
 cap:s.1.length<=cp
 tak:Va W B v s.2
theorem Sk.go {w W W':World} {B g cp:Nat} {s:List Lot×List Lot} {v:Value} (h:Sk w B g cp s v W) (hb:Below W.heap.size W W'):Sk w B g cp s v W':=
 ⟨bto h.below hb,h.lo,h.gb,Nt h.le hb.size,h.row.below hb,h.cap,h.tak.below hb⟩
theorem Sk.app {w W W':World} {B g cp n:Nat} {s:List Lot×List Lot} {v v':Value} {x:Lot} (h:Sk w B g cp s v W) (hn:s.2.length=n) (ho:W'.ownsRow B 130 7 v' (n+1) (Yf s.2++lcs x)) (hg:W.grownBy W' v.ownBlock):Sk w B g cp (s.1,s.2++[x]) v' W':=by
 have hov:∀k,v.ownBlock=some k->B<=k:=fun k hk=>(h.tak.block k hk).1
 have hgb:=h.gb;have hlo:=h.lo;refine⟨h.below.grown hg h.below.size (fun k hk=>by have:=hov k hk;omega),h.lo,h.gb,Nt h.le hg.size,?_,h.cap,Va.app ho hn⟩
 obtain⟨cur,hc,hr⟩:=h.row;exact⟨cur,(hg.block g (Ag.1 hc).1 (fun e=>by have:=hov g e.symm;omega)).trans hc,hr⟩
theorem Sk.turn {w W W':World} {B g cp:Nat} {s:List Lot×List Lot} {l:List Lot} {v:Value} (h:Sk w B g cp s v W) (hx:Zl (fun b=>b=g) W W') (hr:YL W' g l) (hl:l.length<=s.1.length):Sk w B g cp (l,s.2) v W':=by
 have hgb:=h.gb;have hlo:=h.lo;refine⟨⟨hx.os.trans h.below.os,hx.tape.trans h.below.tape,hx.output.trans h.below.output,Nt h.below.size hx.size,fun k hk=>?_⟩,h.lo,h.gb,Nt h.le hx.size,hr,Nt hl h.cap,h.tak.keepX hx (fun k hk e=>by have:=(h.tak.block k hk).1;omega)⟩
 have:=h.below.size
 exact (hx.block k (by omega) (by omega)).trans (h.below.block k hk)
theorem Zcr {w:World} {A Ap:Option Addr} {xs:List Lot} {ps:List Pk} {n np:Nat} (c cp:Nat) (hG:GE w) (hL:Xp w A xs n) (hn0:0<n) (hV:Vp xs=0) (hP:TD w Ap ps) (hpn:ps.length=np) (hpc:np<=cp) (hpn2:np<=100000) (hps:∀p∈ps,p.lot.length<=1000/\p.q.length<=1000) (hQ:VB xs [] ps=0) (hok:OS xs ps) :
  Calls Tryz.prog 168 #[.slice A n c,.slice Ap np cp] w fun e w'=>∃g cr v B,e=.returned (.tuple #[.slice (some ⟨g,0,none⟩) (Yw (xs,[]) ps).1.length cr,v,.int .i64 0])/\Sk w B g cr (Yw (xs,[]) ps) v w':=by
 obtain⟨Z,hZ⟩:∃Z,Z=Yw (xs,[]) ps:=⟨_,rfl⟩
 rw[<-hZ];have HZ:Hid (Z=Yw (xs,[]) (ps.drop 0)):=hZ;clear hZ;have hn2:=hL.big;have hvs:∀x∈xs,UK x=0:=by
  unfold Vp at hV
  by_cases h1:1000<xs.length
  ·rw[if_pos h1] at hV;exact absurd hV (by decide)
  ·rw[if_neg h1] at hV;exact (OE _ _ hV).1
 have K1:=Lh (Qq c hG hL);rw[hV] at K1;have HL:=Lh hL;have HP:=Lh hP;have HPS:=Lh hps;have HVS:=Lh hvs;have hp1:ps.length<=np:=by omega
 have hp2:np<=ps.length:=by omega
 have HI:=Lh (JP hok);have HG:=Lh hG;have HPN:=Lh hpn;have HQ:=Lh hQ;clear hL hP hps hV hvs hok hQ hpn;go_enter Tryz.func168,Tryz.ntmps168;go_wp2_with fail
 with_reducible refine K1.out.mono ?_
 rintro e w1 ⟨rfl,hb1⟩;clear K1;have K2:=Lh (Fj (w:=w1) c cp (hG.below hb1) (HL.out.below hb1) (HP.out.below hb1) HPN.out hpc hpn2 (fun p hp=>⟨(HPS.out p hp).1,by have:=(HPS.out p hp).2;omega⟩))
 rw[HQ.out] at K2;go_wp2_with fail
 with_reducible refine K2.out.mono ?_
 rintro e w2 ⟨rfl,hb2⟩;replace hb2:=bto hb1 hb2;clear K2 hb1;have K3:=Lh (Zbz A xs n c w2 HL.out.len hn0 (by omega) ((HL.out.below hb2).mem))
 go_wp2_with fail
 with_reducible refine K3.out.mono ?_
 rintro e w3 ⟨v0,rfl,hrow,hb3⟩;clear K3;obtain⟨g,cr,rfl,hgB,hgc,hlr⟩:=hrow.row (by rw[HL.out.len];exact hn0)
 obtain⟨B,hB⟩:∃B,B=w3.heap.size:=⟨_,rfl⟩
 have hb23:=bto hb2 hb3;have HC:Hid (Sk w B g cr (xs,[]) (.slice none 0 0) w3):=⟨hb23,Nt hb2.size hgB,by rw[hB];exact hlr.lt,by rw[hB];exact Nl _,hlr,hgc,DU _ _⟩
 clear hrow hb2 hb3 hb23 hlr hgB hgc hB;go_wp2_with fail
 go_loopw [8,9,11,12,13,14,15,16,17,31,35,60] (fun rv tv _ _ _ _ _ _ _ iv _ _ wr=>∃(k:Nat) (s:List Lot×List Lot) (v:Value),k<=np/\v=tv/\iv=.int .i64 (k:Int)/\rv=.slice (some ⟨g,0,none⟩) s.1.length cr/\Hid (Sk w B g cr s v wr)/\Hid (AZ xs ps k s)/\Hid (Z=Yw s (ps.drop k))) (fun _ _ _ _ _ _ _ _ _ iv _ _ _=>np-(intOf iv).toNat)
 case atStart=>exact⟨0,(xs,[]),_,Nat.zero_le _,rfl,rfl,rfl,HC.out,HI.out,HZ.out⟩
 case round=>
  clear HC HI HZ;obtain⟨k,s,v,hk,rfl,rfl,rfl,HC,HI,HZ⟩:=hrel
  by_cases hlk:k<np
  rotate_left
  ·have HQ:Hid (Z=s):=by
    have h:=HZ.out;rw[List.drop_of_length_le (by omega)] at h
    exact h
   have e1:decide (k<np)=false:=Df hlk;have e2:decide ((k:Int)<(np:Int))=false:=Df (by omega)
   have hfin:=HC.out;rw[<-HQ.out] at hfin;have HF:=Lh hfin;rw[<-HQ.out];clear HZ HC HI hfin;go_wp2;refine bodyPost_ret (v:=.tuple #[.slice (some ⟨g,0,none⟩) Z.1.length cr,v,.int .i64 0]) (by simp[results,Tryz.results168,go_sem]) rfl ?_
   exact⟨g,cr,_,B,rfl,HF.out⟩
  have e1:decide (k<np)=true:=Dt hlk;have e2:decide ((k:Int)<(np:Int))=true:=Dt (by omega)
  obtain⟨p,hp⟩:∃p,ps[k]?=some p:=⟨_,List.getElem?_eq_getElem (by have:=HPN.out;omega)⟩
  have hpz:=HPS.out p (Lm hp);have hsl:=HI.out.len;have hst:=HI.out.tak;have hLn:=HL.out.len;have hok:=HI.out.ok;have hold:=HI.out.old;obtain⟨hI2,hZ2⟩:=Fl HI.out hp;have HI2:=Lh hI2;have HZ2:=Lh (HZ.out.trans hZ2);rw[drop_at hp] at hok hold;obtain⟨i,x,hzi,hxi,hxid,hxq,hle,hes⟩:=LR (xs:=s.1) (t:=s.2) (hok.all p List.mem_cons_self) hok.nd;have hpk:=hok.all p List.mem_cons_self;have hpc2:=hpk.can;have hpp:=hpk.pos;have hxin:=hold p List.mem_cons_self x (Lm hxi) hxid;have hxs:=HL.out.sm x hxin;have hxe:=HVS.out x hxin;have hiN:i<s.1.length:=DR hxi;have HES:Hid (stepT s p=if x.q=p.q then (s.1.eraseIdx i,s.2++[x]) else (s.1.set i (WI x p.q),s.2++[WY x p.q])):=hes
  obtain⟨m,hm⟩:∃m,m=s.1.length:=⟨_,rfl⟩
  rw[<-hm] at hiN hsl ⊢;have hmc:m<=cr:=by rw[hm];exact HC.out.cap
  obtain⟨bp,op,rfl,hbps,p0,p1⟩:=(HP.out.below HC.out.below) k p hp;have hbA:=Zb wr (.cells #[.string ⟨p.lot.toArray⟩,.string ⟨p.q.toArray⟩] 195);have X1:=Lh (Blk.new wr #[.string ⟨p.lot.toArray⟩,.string ⟨p.q.toArray⟩] 195);have q0:=X1.out.c 0;replace HC:=Lh (HC.out.go hbA);have KF:=Lh (ZaQ cr p.lot hm.symm (by omega) HC.out.row.lotAt)
  have hpos:Dq (ZG (isLt p.lot) s.1 0)=(i:Int):=by rw[hzi];exact if_pos (by omega)
  have hdec:decide (0<=ZG (isLt p.lot) s.1 0)=true:=Dt (by rw[hzi];omega)
  rw[hpos,hdec] at KF;have HXI:=Lh hxi;have HXQ:=Lh hxq;have HPC:=Lh hpc2;have HXE:=Lh hxe;have HHL:=Lh hle;have HPP:=Lh hpp;clear hxq hpc2 hxid hxe hle hpp;obtain⟨bx,hbx⟩:∃bx,bx=wr.heap.size:=⟨_,rfl⟩
  rw[<-hbx] at X1 q0;have HBX:=Lh hbx;have HM:=Lh hm;have hkc:(k:Int)<=(cp:Int):=by omega
  clear hp hbA HZ HI hI2 hZ2 hok hold hzi hxi hes hpk hxin hbx hm hpos hdec hbps;go_wp2_with fail;rw[<-HBX.out]
  with_reducible refine KF.out.mono ?_
  rintro e w4 ⟨rfl,hb4⟩;clear p0 p1 q0 KF e1 e2;replace X1:=Lh (X1.out.below hb4);replace HC:=Lh (HC.out.go hb4);clear hb4;have hcells:=HC.out.row.cells HXI.out;have p0:=hcells.c0;have p1:=hcells.c1;have p2:=hcells.c2;have p3:=hcells.c3;have p4:=hcells.c4;have p5:=hcells.c5;have p6:=hcells.c6;have hbA:=Zb w4 (.cells #[Value.string ⟨x.id.toArray⟩,Value.string ⟨x.ins.toArray⟩,Value.int .i64 x.acq,Value.int .i64 x.opn,Value.string ⟨x.q.toArray⟩,Value.string ⟨x.cost.toArray⟩,Value.string ⟨x.used.toArray⟩] 130);have Y1:=Lh (Xh.new w4 x 130);obtain⟨by0,hby⟩:∃b,b=w4.heap.size:=⟨_,rfl⟩
  rw[<-hby] at Y1;have HBY:=Lh hby;have q0:=Y1.out.c0;have q1:=Y1.out.c1;have q2:=Y1.out.c2;have q3:=Y1.out.c3;have q4:=Y1.out.c4;have q5:=Y1.out.c5;have q6:=Y1.out.c6;have r1:=(X1.out.below hbA).c 1;have HC2:=Lh (HC.out.go hbA);have HCZ:Hid (B<=w4.heap.size):=HC.out.le;have X2:=Lh (X1.out.below hbA);clear hcells hby;obtain⟨i0,hi,hz0,hz1,hz2⟩:=info_parts UY;have hmb:m<=100000:=by omega
  have hkb:k<100000:=by omega
  have HOW:Hid ((w4.alloc (.cells #[Value.string ⟨x.id.toArray⟩,Value.string ⟨x.ins.toArray⟩,Value.int .i64 x.acq,Value.int .i64 x.opn,Value.string ⟨x.q.toArray⟩,Value.string ⟨x.cost.toArray⟩,Value.string ⟨x.used.toArray⟩] 130)).ownsRow B 130 7 v k (Yf s.2)):=by
   have h:=HC2.out.tak;unfold Va at h;rw[hst] at h;exact h
  have HST:=Lh hst
  by_cases g1:x.q=p.q
  ·have t1:(x.q==p.q)=true:=by rw[g1];simp
   have HE1:Hid (stepT s p=(s.1.eraseIdx i,s.2++[x])):=HES.out.trans (if_pos g1);have hbq:=Zb (w4.alloc (.cells #[Value.string ⟨x.id.toArray⟩,Value.string ⟨x.ins.toArray⟩,Value.int .i64 x.acq,Value.int .i64 x.opn,Value.string ⟨x.q.toArray⟩,Value.string ⟨x.cost.toArray⟩,Value.string ⟨x.used.toArray⟩] 130)) (.cells #[Value.string ⟨x.id.toArray⟩,Value.string ⟨x.ins.toArray⟩,Value.int .i64 x.acq,Value.int .i64 x.opn,Value.string ⟨x.q.toArray⟩,Value.string ⟨x.cost.toArray⟩,Value.string ⟨x.used.toArray⟩] 130);have HAN:Hid (((w4.alloc (.cells #[Value.string ⟨x.id.toArray⟩,Value.string ⟨x.ins.toArray⟩,Value.int .i64 x.acq,Value.int .i64 x.opn,Value.string ⟨x.q.toArray⟩,Value.string ⟨x.cost.toArray⟩,Value.string ⟨x.used.toArray⟩] 130)).alloc (.cells #[Value.string ⟨x.id.toArray⟩,Value.string ⟨x.ins.toArray⟩,Value.int .i64 x.acq,Value.int .i64 x.opn,Value.string ⟨x.q.toArray⟩,Value.string ⟨x.cost.toArray⟩,Value.string ⟨x.used.toArray⟩] 130)).heap[w4.heap.size+1]?=some (.cells #[Value.string ⟨x.id.toArray⟩,Value.string ⟨x.ins.toArray⟩,Value.int .i64 x.acq,Value.int .i64 x.opn,Value.string ⟨x.q.toArray⟩,Value.string ⟨x.cost.toArray⟩,Value.string ⟨x.used.toArray⟩] 130)):=by
    have h:=ZJ (w4.alloc (.cells #[Value.string ⟨x.id.toArray⟩,Value.string ⟨x.ins.toArray⟩,Value.int .i64 x.acq,Value.int .i64 x.opn,Value.string ⟨x.q.toArray⟩,Value.string ⟨x.cost.toArray⟩,Value.string ⟨x.used.toArray⟩] 130)) (.cells #[Value.string ⟨x.id.toArray⟩,Value.string ⟨x.ins.toArray⟩,Value.int .i64 x.acq,Value.int .i64 x.opn,Value.string ⟨x.q.toArray⟩,Value.string ⟨x.cost.toArray⟩,Value.string ⟨x.used.toArray⟩] 130);rw[show (w4.alloc (.cells #[Value.string ⟨x.id.toArray⟩,Value.string ⟨x.ins.toArray⟩,Value.int .i64 x.acq,Value.int .i64 x.opn,Value.string ⟨x.q.toArray⟩,Value.string ⟨x.cost.toArray⟩,Value.string ⟨x.used.toArray⟩] 130)).heap.size=w4.heap.size+1 by simp] at h
    exact h
   have HAZ:Hid (((w4.alloc (.cells #[Value.string ⟨x.id.toArray⟩,Value.string ⟨x.ins.toArray⟩,Value.int .i64 x.acq,Value.int .i64 x.opn,Value.string ⟨x.q.toArray⟩,Value.string ⟨x.cost.toArray⟩,Value.string ⟨x.used.toArray⟩] 130)).alloc (.cells #[Value.string ⟨x.id.toArray⟩,Value.string ⟨x.ins.toArray⟩,Value.int .i64 x.acq,Value.int .i64 x.opn,Value.string ⟨x.q.toArray⟩,Value.string ⟨x.cost.toArray⟩,Value.string ⟨x.used.toArray⟩] 130)).heap.size=w4.heap.size+2):=by show _=_;simp
   clear g1 HES HC hbA hsl hLn hst;go_wp2_with (at_builtin;refine ZS rfl _ _ 44 rfl B 130 i0 (.agg #[.string ⟨#[]⟩,.string ⟨#[]⟩,.int .i64 0,.int .i64 0,.string ⟨#[]⟩,.string ⟨#[]⟩,.string ⟨#[]⟩]) 7 96 Tryz.underlying44 hi hz0 hz1 hz2 rfl (by decide) _ _ _ rfl (ZN HOW.out hbq) ⟨w4.heap.size+1,0,none⟩ 1 1 (lcs x) rfl rfl ?c1 ?c2 ?c3 ?c4 ?c5 ?_)
   case c1=>
    intro j u hu;have hj:j<7:=VZ hu
    match j,hj with
    | 0,_=>cases hu;exact Zg HAN.out 0
    | 1,_=>cases hu;exact Zg HAN.out 1
    | 2,_=>cases hu;exact Zg HAN.out 2
    | 3,_=>cases hu;exact Zg HAN.out 3
    | 4,_=>cases hu;exact Zg HAN.out 4
    | 5,_=>cases hu;exact Zg HAN.out 5
    | 6,_=>cases hu;exact Zg HAN.out 6
   case c2=>exact fun u hu=>VU [x] u (by rw[We];exact hu)
   case c3=>unfold maxLen;omega
   case c4=>omega
   case c5=>have:=HCZ.out;have:=HAZ.out;omega
   intro v' w5 hown' hgrow hfresh;have HC3:=Lh ((HC2.out.go hbq).app HST.out hown' hgrow);obtain⟨cur,hcur,hct,hcs⟩:=HC3.out.row;rw[<-HM.out] at hct hcs;have KD:=Lh (Zc9 g m cr i cur s.1 w5 HM.out.symm hiN hmc hcur hcs hct);clear hown' hgrow hfresh hcur hct hcs HC2 HOW hbq p0 p1 p2 p3 p4 p5 p6 q0 q1 q2 q3 q4 q5 q6 r1 t1 hi hz0 hz1 hz2;go_wp2_with fail
   with_reducible refine KD.out.mono ?_
   rintro e w6 ⟨rfl,hlr,hbx⟩;have HC4:Hid (Sk w B g cr (stepT s p) v' w6):=by
    rw[HE1.out];exact HC3.out.turn hbx hlr (by show (s.1.eraseIdx i).length<=s.1.length;rw[TV HM.out.symm hiN,<-HM.out];omega)
   have hsz:m-1=(stepT s p).1.length:=by rw[HE1.out];exact (TV HM.out.symm hiN).symm
   have HSZ:Hid (∀z,Value.slice (some ⟨g,0,none⟩) (m-1) z=.slice (some ⟨g,0,none⟩) (stepT s p).1.length z):=fun z=>by rw[hsz]
   clear hlr hbx KD HC3 hsz;go_wp2;go_roundw
   case rel=>exact⟨k+1,stepT s p,v',by omega,rfl,by go_num,HSZ.out _,HC4.out,HI2.out,HZ2.out⟩
   case measure=>simp[intOf];omega
  ·have t1:(x.q==p.q)=false:=by simp[g1]
   have HE1:Hid (stepT s p=(s.1.set i (WI x p.q),s.2++[WY x p.q])):=HES.out.trans (if_neg g1);have hlt:val p.q<val x.q:=by
    rcases Int.lt_or_le (val p.q) (val x.q) with h1|h1
    ·exact h1
    ·exfalso
     have h2:=HHL.out;apply g1;rw[HXQ.out,HPC.out];congr 1;omega
   have KC:=Lh (Zc4 hxs HXE.out (q:=p.q) hpz.2 HPC.out HPP.out hlt);obtain⟨xa,hxa⟩:∃xa,xa=WY x p.q:=⟨_,rfl⟩
   obtain⟨xb,hxb⟩:∃xb,xb=WI x p.q:=⟨_,rfl⟩
   rw[<-hxa,<-hxb] at KC HE1;clear g1 HES HC hbA hlt hxa hxb hsl hLn hst;go_wp2_with fail
   with_reducible refine (KC.out.of HG.out HC2.out.below).mono ?_
   rintro e w5 ⟨rfl,hb5⟩;clear p0 p1 p2 p3 p4 p5 p6 q0 q1 q2 q3 q4 q5 q6 r1 t1;replace HC2:=Lh (HC2.out.go hb5);replace HOW:=Lh (ZN HOW.out hb5);have hvb:∀b,v.ownBlock=some b->b<w5.heap.size:=fun b hb=>(HC2.out.tak.block b hb).2
   go_upto_region 17 with fail
   obtain⟨hA1,hA2,hA3,hA4⟩:=Xi w5 (.cells #[Value.string ⟨xa.id.toArray⟩,Value.string ⟨xa.ins.toArray⟩,Value.int .i64 xa.acq,Value.int .i64 xa.opn,Value.string ⟨xa.q.toArray⟩,Value.string ⟨xa.cost.toArray⟩,Value.string ⟨xa.used.toArray⟩] 130) (.cells #[Value.string ⟨xb.id.toArray⟩,Value.string ⟨xb.ins.toArray⟩,Value.int .i64 xb.acq,Value.int .i64 xb.opn,Value.string ⟨xb.q.toArray⟩,Value.string ⟨xb.cost.toArray⟩,Value.string ⟨xb.used.toArray⟩] 130);obtain⟨w7,hw7⟩:∃w7,w7=(w5.alloc (.cells #[Value.string ⟨xa.id.toArray⟩,Value.string ⟨xa.ins.toArray⟩,Value.int .i64 xa.acq,Value.int .i64 xa.opn,Value.string ⟨xa.q.toArray⟩,Value.string ⟨xa.cost.toArray⟩,Value.string ⟨xa.used.toArray⟩] 130)).alloc (.cells #[Value.string ⟨xb.id.toArray⟩,Value.string ⟨xb.ins.toArray⟩,Value.int .i64 xb.acq,Value.int .i64 xb.opn,Value.string ⟨xb.q.toArray⟩,Value.string ⟨xb.cost.toArray⟩,Value.string ⟨xb.used.toArray⟩] 130):=⟨_,rfl⟩
   rw[<-hw7] at hA1 hA2 hA3 hA4 ⊢;obtain⟨ba,hba⟩:∃ba,ba=w5.heap.size:=⟨_,rfl⟩
   rw[<-hba] at hA1 hA2 hA4 hvb ⊢;have q0:=Zg hA1 0;have q1:=Zg hA1 1;have q2:=Zg hA1 2;have q3:=Zg hA1 3;have q4:=Zg hA1 4;have q5:=Zg hA1 5;have q6:=Zg hA1 6;replace HC2:=Lh (HC2.out.go hA3);replace HOW:=Lh (ZN HOW.out hA3);replace HCZ:=Lh HC2.out.le;have hbq:=Zb w7 (.cells #[Value.string ⟨xa.id.toArray⟩,Value.string ⟨xa.ins.toArray⟩,Value.int .i64 xa.acq,Value.int .i64 xa.opn,Value.string ⟨xa.q.toArray⟩,Value.string ⟨xa.cost.toArray⟩,Value.string ⟨xa.used.toArray⟩] 130);have HAN:=Lh (ZJ w7 (.cells #[Value.string ⟨xa.id.toArray⟩,Value.string ⟨xa.ins.toArray⟩,Value.int .i64 xa.acq,Value.int .i64 xa.opn,Value.string ⟨xa.q.toArray⟩,Value.string ⟨xa.cost.toArray⟩,Value.string ⟨xa.used.toArray⟩] 130));have HAZ:Hid ((w7.alloc (.cells #[Value.string ⟨xa.id.toArray⟩,Value.string ⟨xa.ins.toArray⟩,Value.int .i64 xa.acq,Value.int .i64 xa.opn,Value.string ⟨xa.q.toArray⟩,Value.string ⟨xa.cost.toArray⟩,Value.string ⟨xa.used.toArray⟩] 130)).heap.size=w7.heap.size+1):=by show _=_;simp
   have HB2:=Lh hA2;have HVB:=Lh hvb;have HA4:=Lh hA4;clear hw7 hba hA1 hA2 hA3 hA4 hvb hb5;go_wp2_with (at_builtin;refine ZS rfl _ _ 44 rfl B 130 i0 (.agg #[.string ⟨#[]⟩,.string ⟨#[]⟩,.int .i64 0,.int .i64 0,.string ⟨#[]⟩,.string ⟨#[]⟩,.string ⟨#[]⟩]) 7 96 Tryz.underlying44 hi hz0 hz1 hz2 rfl (by decide) _ _ _ rfl (ZN HOW.out hbq) ⟨w7.heap.size,0,none⟩ 1 1 (lcs xa) rfl rfl ?c1 ?c2 ?c3 ?c4 ?c5 ?_)
   case c1=>
    intro j u hu;have hj:j<7:=VZ hu
    match j,hj with
    | 0,_=>cases hu;exact Zg HAN.out 0
    | 1,_=>cases hu;exact Zg HAN.out 1
    | 2,_=>cases hu;exact Zg HAN.out 2
    | 3,_=>cases hu;exact Zg HAN.out 3
    | 4,_=>cases hu;exact Zg HAN.out 4
    | 5,_=>cases hu;exact Zg HAN.out 5
    | 6,_=>cases hu;exact Zg HAN.out 6
   case c2=>exact fun u hu=>VU [xa] u (by rw[We];exact hu)
   case c3=>unfold maxLen;omega
   case c4=>omega
   case c5=>have:=HCZ.out;have:=HAZ.out;omega
   intro v' w8 hown' hgrow hfresh;have HC3:=Lh ((HC2.out.go hbq).app HST.out hown' hgrow);have h16:w8.heap[ba+1]?=some (.cells #[Value.string ⟨xb.id.toArray⟩,Value.string ⟨xb.ins.toArray⟩,Value.int .i64 xb.acq,Value.int .i64 xb.opn,Value.string ⟨xb.q.toArray⟩,Value.string ⟨xb.cost.toArray⟩,Value.string ⟨xb.used.toArray⟩] 130):=by
    have h1:=Zk HB2.out hbq;refine (hgrow.block (ba+1) (Ag.1 h1).1 (fun e=>?_)).trans h1
    have:=HVB.out _ e.symm
    omega
   have q0:=Zg h16 0;have q1:=Zg h16 1;have q2:=Zg h16 2;have q3:=Zg h16 3;have q4:=Zg h16 4;have q5:=Zg h16 5;have q6:=Zg h16 6;have hM2:=HM.out;have HTH:=Lh (HC3.out.row.there (i:=i) (by rw[<-hM2];exact hiN))
   have HIZ:=Lh Tv;obtain⟨w9,hw9⟩:∃w9,w9=w8.setCells g (i*7) (#[Value.string ⟨xb.id.toArray⟩,Value.string ⟨xb.ins.toArray⟩,Value.int .i64 xb.acq,Value.int .i64 xb.opn,Value.string ⟨xb.q.toArray⟩,Value.string ⟨xb.cost.toArray⟩,Value.string ⟨xb.used.toArray⟩]).toList:=⟨_,rfl⟩
   have HW9:=Lh hw9;have HC4:Hid (Sk w B g cr (stepT s p) v' w9):=by
    rw[HE1.out,hw9];exact HC3.out.turn (ZW (X:=fun b=>b=g) rfl _ _ _) (HC3.out.row.set xb (by rw[<-hM2];exact hiN)) (Nat.le_of_eq List.length_set)
   have hsz:m=(stepT s p).1.length:=by rw[HE1.out,hM2];exact List.length_set.symm
   have HSZ:Hid (∀z,Value.slice (some ⟨g,0,none⟩) m z=.slice (some ⟨g,0,none⟩) (stepT s p).1.length z):=fun z=>by rw[<-hsz]
   clear hown' hgrow hfresh HC2 HOW hbq h16 HC3 hw9 hsz hM2 hi hz0 hz1 hz2;go_wp2_with (refine wpList_store_mid rfl 130 (.tmp 75) (.tmp 74) rfl g (i*7) #[Value.string ⟨xb.id.toArray⟩,Value.string ⟨xb.ins.toArray⟩,Value.int .i64 xb.acq,Value.int .i64 xb.opn,Value.string ⟨xb.q.toArray⟩,Value.string ⟨xb.cost.toArray⟩,Value.string ⟨xb.used.toArray⟩] rfl rfl HTH.out (by rw[HIZ.out];rfl) (Ur xb) ?_;rw[<-HW9.out])
   go_roundw
   case rel=>exact⟨k+1,stepT s p,v',by omega,rfl,by go_num,HSZ.out _,HC4.out,HI2.out,HZ2.out⟩
   case measure=>simp[intOf];omega
def ofI (I:List UInt8) (xs:List Lot):List Lot:=xs.filter (fun x=>x.ins==I)
theorem ZbA {xs:List Lot} (hn:(xs.map (·.id)).Nodup) {x y:Lot} (hx:x∈xs) (hy:y∈xs) (e:x.id=y.id):x=y:=by
 obtain⟨i,hi⟩:=List.getElem?_of_mem hx;obtain⟨j,hj⟩:=List.getElem?_of_mem hy;obtain⟨hi1,-⟩:=Lg.1 hi;have h1:(xs.map (·.id))[i]?=some x.id:=by simp[hi]
 have h2:(xs.map (·.id))[j]?=some x.id:=by simp[hj,e]
 have:i=j:=(List.getElem?_inj (by simpa using hi1) hn).1 (h1.trans h2.symm)
 subst this;rw[hi] at hj;exact Option.some.inj hj
theorem I4 (f:Lot->Int) (I:List UInt8):∀ys:List Lot,(∀y∈ys,y.ins=I)->(ys.map (fun x=>if x.ins==I then f x else 0)).sum=(ys.map f).sum
 | [],_=>rfl
 | a::t,h=>by
  have ih:=I4 f I t (fun y hy=>h y (List.mem_cons_of_mem _ hy))
  have ha:(a.ins==I)=true:=by simpa using h a List.mem_cons_self
  rw[List.map_cons,List.map_cons,List.sum_cons,List.sum_cons,ih,if_pos ha]
theorem Fo {xs:List Lot} {I:List UInt8} {Q:Int} {out:List Pk} {rem:List UInt8} (hn:(xs.map (·.id)).Nodup) (hc:∀x∈xs,x.q=canon (val x.q)) (hi:YC (ofI I xs) Q (out,rem)) (hr:val rem=0) (hp:VB xs [] out=0) :
  (((Yw (xs,[]) out).2).map (fun x=>val x.q)).sum=Q/\
  ((ofI I (Yw (xs,[]) out).1).map (fun x=>val x.q)).sum+(((Yw (xs,[]) out).2).map (fun x=>val x.q)).sum=((ofI I xs).map (fun x=>val x.q)).sum/\
  ((ofI I (Yw (xs,[]) out).1).map (fun x=>val x.cost)).sum+(((Yw (xs,[]) out).2).map (fun x=>val x.cost)).sum=((ofI I xs).map (fun x=>val x.cost)).sum/\
  (Yw (xs,[]) out).2.length=out.length/\(Yw (xs,[]) out).2.map (·.q)=out.map (·.q)/\(∀y∈(Yw (xs,[]) out).2,y.ins=I):=by
 obtain⟨a1,a2,-⟩:=OT hc out [] hp;obtain⟨r,h2,h3⟩:=LU out xs [] ⟨hn,a1,a2⟩;have hs:=hi.sum;have hsum:Y3 out=Q:=by
  have:Y3 out+val rem=Q:=hs
  omega
 have hins:∀y∈(Yw (xs,[]) out).2,y.ins=I:=fun y hy=>by
  rcases h2 y hy with hy|⟨p,hpm,x,hx,hid,hyx⟩
  ·cases hy
  ·obtain⟨z,hz,hzid⟩:=hi.mem p hpm;have hzx:=List.mem_filter.1 hz
   have:x=z:=ZbA hn hx hzx.1 (hid.trans hzid.symm)
   subst this;have hI:x.ins=I:=by simpa using hzx.2
   rcases hyx with rfl|⟨-,-,rfl⟩
   ·exact hI
   ·exact hI
 have hqs:=r.qs;simp only[List.map_nil,List.nil_append] at hqs;have hQ:(((Yw (xs,[]) out).2).map (fun x=>val x.q)).sum=Q:=by
  have:((Yw (xs,[]) out).2).map (fun x=>val x.q)=(((Yw (xs,[]) out).2).map (·.q)).map val:=by rw[List.map_map];rfl
  rw[this,hqs,<-hsum];unfold Y3;rw[List.map_map];rfl
 have g1:=r.sum _ (IZ (fun x=>val x.q) Zcj I)
 have g2:=r.sum _ (IZ (fun x=>val x.cost) Zck I)
 rw[I4 _ I _ hins] at g1 g2;simp only[List.map_nil,List.sum_nil,Int.add_zero] at g1 g2;rw[<-Si,<-Si] at g1 g2;refine⟨hQ,g1,g2,?_,hqs,hins⟩
 have:=congrArg List.length hqs
 simpa using this
def S3 (ws:List (List UInt8)):List Value:=ws.map stV
theorem Fp (ws:List (List UInt8)) (r:List UInt8):S3 (ws++[r])=S3 ws++[.string ⟨r.toArray⟩]:=by simp[S3,stV]
theorem A7 {w:World} {B n c:Nat} {A:Option Addr} {ws:List (List UInt8)} (h:w.ownsRow B 32 1 (.slice A n c) n (S3 ws)) (hn:ws.length=n):U0 w A ws:=fun i r hr=>by
 have hi:=(Lg.1 hr).1;have hv:(S3 ws)[i]?=some (.string ⟨r.toArray⟩):=by simp[S3,stV,hr]
 rcases h.2 with ⟨e,h0⟩|⟨g,cap,cur,e,hB,hg,h1,h2,h3,h4⟩
 ·omega
 ·injection e with e1 e2 e3
  refine⟨g,0,e1,(Ag.1 hg).1,?_⟩;rw[Zg hg,<-hv,<-h4,List.getElem?_take,if_pos (by omega),Array.getElem?_toList,Nat.zero_add]
open Go.Shelf
attribute [local go_sem] Oper.semAt_some
theorem Zcs (bl bt:Nat) (A:Option Addr) (xs:List Lot) (n c:Nat) (T:List UInt8) (hn:xs.length=n) (hT:T.length<=4900) (hq:∀x∈xs,x.q.length<=2000) (hS0:LE T (xs.map (·.q))=0)
  (m lw:Nat) (S0:World->Prop) (S:Nat->Obj->List (Lot×List UInt8)->World->Prop)
  (hK0:∀W,S0 W->GE W/\Vy W A xs/\Blk W bl #[.slice A n c]/\Blk W bt #[.string ⟨T.toArray⟩]) (hIn:∀b0 ob W W',S0 W->Below W.heap.size W W'->W.heap.size<=b0->W'.heap[b0]?=some ob->S b0 ob [] W')
  (hSB:∀b0 ob ys W,S b0 ob ys W->Vy W A xs/\W.heap[b0]?=some ob) (hSm:∀b0 ob ys W W',S b0 ob ys W->Below W.heap.size W W'->S b0 ob ys W')
  (hY:∀zs,Qy (val T) (xs.map (fun x=>val x.q)) zs->∀b0 ob ys y W,S b0 ob ys W->(xs.zip (zs.map canon))[ys.length]?=some y->YieldAt Fence.wide (m-1) Tryz.prog lw #[(Value.agg #[Value.string ⟨List.toArray y.1.id⟩,Value.string ⟨List.toArray y.1.ins⟩,Value.int .i64 y.1.acq,Value.int .i64 y.1.opn,Value.string ⟨List.toArray y.1.q⟩,Value.string ⟨List.toArray y.1.cost⟩,Value.string ⟨List.toArray y.1.used⟩]),.string ⟨y.2.toArray⟩] W fun e W'=>e=.returned (.bool true)/\S b0 ob (ys++[y]) W')
  (W:World) (hS:S0 W):CallsIn Fence.wide m Tryz.prog 216 (#[.func (.yield lw) #[] #[],.pointer (some ⟨bl,0,none⟩),.pointer (some ⟨bt,0,none⟩)]) W fun e W'=>(∃v,e=.returned v)/\∃zs b0 ob,Qy (val T) (xs.map (fun x=>val x.q)) zs/\S b0 ob (xs.zip (zs.map canon)) W':=by
 obtain⟨-,s2,-⟩:=MA hS0;rw[List.length_map,hn] at s2;have HB:=Lh hSB;have HM:=Lh hSm;have HY:=Lh hY;have HX:=Lh hS;have HK0:=Lh hK0;have HIN:=Lh hIn;have HS0:=Lh hS0;have HQL:=Lh hq;have HN:=Lh hn;have hbl':=(hK0 _ hS).2.2.1;have q0:W.cell? ⟨bl,0,none⟩=some (.slice A n c):=hbl'.c 0;obtain⟨B,hB⟩:∃B,B=W.heap.size:=⟨_,rfl⟩
 have HBS:=Lh hB;have h0:Hid (W.ownsRow B 32 1 (.slice none 0 0) 0 (S3 ((xs.map (·.q)).take 0))):=World.ownsRow_nil W B 32 1
 have HBe:Hid (Below W.heap.size W W):=Below.refl _ _;clear hSB hSm hY hS hn hbl' hS0 hq hB hK0 hIn;refine callsIn_of_wp Tryz.func216 rfl trivial ?_ rfl;simp only[Tryz.ntmps216,List.size_toArray,List.length_cons,List.length_nil,Nat.reduceAdd,Nat.reduceSub,Array.replicate_succ,Array.replicate_zero,List.push_toArray,List.append_toArray,List.nil_append,List.cons_append]
 gi_wp2_with fail
 clear q0
 gi_loopw [4,6,13] (fun qv _ iv wr=>∃(k:Nat) (v:Value),k<=n/\v=qv/\iv=.int .i64 (k:Int)/\Hid (wr.ownsRow B 32 1 v k (S3 ((xs.map (·.q)).take k)))/\Hid (Below W.heap.size W wr)) (fun _ _ iv _=>n-(intOf iv).toNat)
 case atStart=>exact⟨0,_,Nat.zero_le _,rfl,rfl,h0.out,HBe.out⟩
 case round=>
  clear h0 HBe;obtain⟨k,v,hk,rfl,rfl,HO,HBL⟩:=hrel
  by_cases hlk:k<n
  ·have e1:decide (k<n)=true:=Dt hlk;have e2:decide ((k:Int)<(n:Int))=true:=Dt (by omega)
   obtain⟨x,hx⟩:∃x,xs[k]?=some x:=⟨_,List.getElem?_eq_getElem (by have:=HN.out;omega)⟩
   obtain⟨b,o,rfl,hbs,hcells⟩:=((HK0.out _ HX.out).2.1.below HBL.out) k x hx;have p0:=hcells.c0;have p1:=hcells.c1;have p2:=hcells.c2;have p3:=hcells.c3;have p4:=hcells.c4;have p5:=hcells.c5;have p6:=hcells.c6;have hbA:=Zb wr (.cells #[Value.string ⟨x.id.toArray⟩,Value.string ⟨x.ins.toArray⟩,Value.int .i64 x.acq,Value.int .i64 x.opn,Value.string ⟨x.q.toArray⟩,Value.string ⟨x.cost.toArray⟩,Value.string ⟨x.used.toArray⟩] 130);have Y1:=Lh (Xh.new wr x 130);have q4:=Y1.out.c4;have hbq:=Zb (wr.alloc (.cells #[Value.string ⟨x.id.toArray⟩,Value.string ⟨x.ins.toArray⟩,Value.int .i64 x.acq,Value.int .i64 x.opn,Value.string ⟨x.q.toArray⟩,Value.string ⟨x.cost.toArray⟩,Value.string ⟨x.used.toArray⟩] 130)) (.cells #[.string ⟨x.q.toArray⟩] 32);obtain⟨i0,hi,hz0,hz1,hz2⟩:=info_parts NS;have HAN:Hid (((wr.alloc (.cells #[Value.string ⟨x.id.toArray⟩,Value.string ⟨x.ins.toArray⟩,Value.int .i64 x.acq,Value.int .i64 x.opn,Value.string ⟨x.q.toArray⟩,Value.string ⟨x.cost.toArray⟩,Value.string ⟨x.used.toArray⟩] 130)).alloc (.cells #[.string ⟨x.q.toArray⟩] 32)).heap[wr.heap.size+1]?=some (.cells #[.string ⟨x.q.toArray⟩] 32)):=by
    have h:=ZJ (wr.alloc (.cells #[Value.string ⟨x.id.toArray⟩,Value.string ⟨x.ins.toArray⟩,Value.int .i64 x.acq,Value.int .i64 x.opn,Value.string ⟨x.q.toArray⟩,Value.string ⟨x.cost.toArray⟩,Value.string ⟨x.used.toArray⟩] 130)) (.cells #[.string ⟨x.q.toArray⟩] 32);rw[show (wr.alloc (.cells #[Value.string ⟨x.id.toArray⟩,Value.string ⟨x.ins.toArray⟩,Value.int .i64 x.acq,Value.int .i64 x.opn,Value.string ⟨x.q.toArray⟩,Value.string ⟨x.cost.toArray⟩,Value.string ⟨x.used.toArray⟩] 130)).heap.size=wr.heap.size+1 by simp] at h
    exact h
   have HAZ:Hid (((wr.alloc (.cells #[Value.string ⟨x.id.toArray⟩,Value.string ⟨x.ins.toArray⟩,Value.int .i64 x.acq,Value.int .i64 x.opn,Value.string ⟨x.q.toArray⟩,Value.string ⟨x.cost.toArray⟩,Value.string ⟨x.used.toArray⟩] 130)).alloc (.cells #[.string ⟨x.q.toArray⟩] 32)).heap.size=wr.heap.size+2):=by show _=_;simp
   have HCZ:Hid (B<=wr.heap.size):=by show _<=_;rw[HBS.out];exact HBL.out.size
   have HX5:=Lh hx;have HBQ:=Lh (bto hbA hbq);clear hbs hcells hx hbA hbq;refine wpIn_wide.2 ?_;go_wp2_with (at_builtin;refine ZS rfl _ _ 50 rfl B 32 i0 (.string ⟨#[]⟩) 1 16 Tryz.underlying50 hi hz0 hz1 hz2 rfl (by decide) _ _ _ rfl (ZN HO.out HBQ.out) ⟨wr.heap.size+1,0,none⟩ 1 1 [.string ⟨x.q.toArray⟩] rfl rfl ?c1 ?c2 ?c3 ?c4 ?c5 ?_)
   case c1=>
    intro j u hu;have hj:j<1:=VZ hu
    match j,hj with
    | 0,_=>cases hu;exact Zg HAN.out 0
   case c2=>
    intro u hu;simp only[List.mem_cons,List.not_mem_nil,or_false] at hu;subst hu;rfl
   case c3=>unfold maxLen;omega
   case c4=>omega
   case c5=>have:=HCZ.out;have:=HAZ.out;omega
   intro v' w5 hown' hgrow hfresh;have HO':Hid (w5.ownsRow B 32 1 v' (k+1) (S3 ((xs.map (·.q)).take (k+1)))):=by
    have hq:(xs.map (·.q))[k]?=some x.q:=by simp[HX5.out]
    obtain⟨hk2,hxe⟩:=Lg.1 hq;show w5.ownsRow _ _ _ _ _ _;rw[List.take_succ_eq_append_getElem hk2,hxe,Fp];exact hown'
   have HBL':Hid (Below W.heap.size W w5):=by
    have h1:=bto HBL.out HBQ.out
    exact h1.grown hgrow h1.size (fun g hg=>by
     have:=(World.ownsRow.lt HO.out g hg).1
     have:=HBS.out
     omega)
   clear hown' hgrow hfresh HO HBL HBQ HAN HAZ HCZ p0 p1 p2 p3 p4 p5 p6 q4 e1 e2 HX5 Y1 hi hz0 hz1 hz2;go_wp2;go_roundw
   case rel=>exact⟨k+1,v',by omega,rfl,by go_num,HO'.out,HBL'.out⟩
   case measure=>simp[intOf];omega
  ·have hkm:k=n:=by omega
   subst hkm;have e1:decide (k<k)=false:=Df (by omega)
   have e2:decide ((k:Int)<(k:Int))=false:=Df (by omega)
   have hfm:Hid ((xs.map (·.q)).take k=xs.map (·.q)):=by show _=_;rw[List.take_of_length_le (by rw[List.length_map];have:=HN.out;omega)]
   obtain⟨A3,c3,rfl⟩:∃A3 c3,v=.slice A3 k c3:=by
    rcases HO.out.2 with ⟨e,h0⟩|⟨g,cap,cur,e,-⟩
    ·exact⟨none,0,by rw[e,h0]⟩
    ·exact⟨_,_,e⟩
   have HI:Hid (Uo wr A3 (xs.map (·.q)) k):=by
    refine⟨by rw[List.length_map,HN.out],by omega,fun r hr=>?_,?_⟩
    ·obtain⟨y,hy,rfl⟩:=List.mem_map.1 hr;exact HQL.out y hy
    ·have h:=HO.out;rw[hfm.out] at h;exact A7 h (by rw[List.length_map,HN.out])
   obtain⟨hG0,hL0,hbl0,hbt0⟩:=HK0.out _ HX.out;have q0:wr.cell? ⟨bt,0,none⟩=some (.string ⟨T.toArray⟩):=(hbt0.below HBL.out).c 0;have KS:=Lh (Zbt (T:=T) c3 (hG0.below HBL.out) HI.out hT HS0.out);have HBL0:=Lh (hbl0.below HBL.out);clear HO hfm HI hG0 hL0 hbl0 hbt0
   gi_wp2_with fail
   refine⟨trivial,fun h=>(by cases h),?_⟩
   (with_reducible refine (callsIn_wide.2 KS.out).mono ?_)
   rintro e w6 ⟨bp,zs,rfl,hgp,hcp,hsp,hb6⟩;rw[List.map_map] at hsp;have hsp:Qy (val T) (xs.map (fun x=>val x.q)) zs:=hsp
   have HSI:Hid (S bp (.cells (zsC zs) 32 (0,0)) [] w6):=HIN.out _ _ _ _ HX.out (bto HBL.out hb6) (Nt HBL.out.size hgp) hcp;have hzl:zs.length=k:=by rw[hsp.sum.2,List.length_map,HN.out]
   have HZL:=Lh hzl;have HYY:=Lh (HY.out zs hsp);have HSP:=Lh hsp;have q1:w6.cell? ⟨bl,0,none⟩=some (.slice A k c):=(HBL0.out.below hb6).c 0;clear q0 KS HBL0 hcp hgp hb6 hzl hsp HY HIN HX HBL HK0 e1 e2
   gi_wp2_with fail
   clear q1
   gi_loopw [9,10,31] (fun _ _ iv wr=>∃(j:Nat) (ys:List (Lot×List UInt8)),j<=k/\iv=.int .i64 (j:Int)/\Hid (ys=(xs.zip (zs.map canon)).take j)/\Hid (S bp (.cells (zsC zs) 32 (0,0)) ys wr)) (fun _ _ iv _=>k-(intOf iv).toNat)
   case atStart=>exact⟨0,[],Nat.zero_le _,rfl,rfl,HSI.out⟩
   case round=>
    clear HSI;obtain⟨j,ys,hj,rfl,HYS,HS⟩:=hrel
    by_cases hlj:j<k
    rotate_left
    ·have HE:Hid (S bp (.cells (zsC zs) 32 (0,0)) (xs.zip (zs.map canon)) wr):=by
      have h:=HS.out;rw[HYS.out,List.take_of_length_le (by rw[List.length_zip];have:=HN.out;omega)] at h
      exact h
     have e1:decide (j<k)=false:=Df hlj;have e2:decide ((j:Int)<(k:Int))=false:=Df (by omega)
     clear HYS HS HYY
     gi_wp2
     go_end0
     exact⟨⟨_,rfl⟩,zs,_,_,HSP.out,HE.out⟩
    have e1:decide (j<k)=true:=Dt hlj;have e2:decide ((j:Int)<(k:Int))=true:=Dt (by omega)
    obtain⟨x,hx⟩:∃x,xs[j]?=some x:=⟨_,List.getElem?_eq_getElem (by have:=HN.out;omega)⟩
    obtain⟨z,hz⟩:∃z,zs[j]?=some z:=⟨_,List.getElem?_eq_getElem (by have:=HZL.out;omega)⟩
    obtain⟨hLA,hbp⟩:=HB.out _ _ _ _ HS.out;obtain⟨b,o,rfl,hbs,hcells⟩:=hLA j x hx;have p0:=hcells.c0;have p1:=hcells.c1;have p2:=hcells.c2;have p3:=hcells.c3;have p4:=hcells.c4;have p5:=hcells.c5;have p6:=hcells.c6;have hbA:=Zb wr (.cells #[Value.string ⟨x.id.toArray⟩,Value.string ⟨x.ins.toArray⟩,Value.int .i64 x.acq,Value.int .i64 x.opn,Value.string ⟨x.q.toArray⟩,Value.string ⟨x.cost.toArray⟩,Value.string ⟨x.used.toArray⟩] 130);have Y1:=Lh (Xh.new wr x 130);have HBP:=Lh (Zk hbp hbA);have HZC:Hid ((zsC zs)[j]?=some (.string ⟨(canon z).toArray⟩)):=PF (by rw[List.getElem?_map,hz];rfl)
    have HZ:=Lh Tv;have hzip:(xs.zip (zs.map canon))[j]?=some (x,canon z):=by
     rw[List.getElem?_zip_eq_some];exact⟨hx,by rw[List.getElem?_map,hz];rfl⟩
    have hyl:ys.length=j:=by
     rw[HYS.out,List.length_take,List.length_zip,List.length_map,HN.out,HZL.out];omega
    have HSA:=Lh (HM.out _ _ _ _ _ HS.out hbA);have HYD:Hid (∀W',S bp (.cells (zsC zs) 32 (0,0)) ys W'->YieldAt Fence.wide (m-1) Tryz.prog lw #[(Value.agg #[Value.string ⟨x.id.toArray⟩,Value.string ⟨x.ins.toArray⟩,Value.int .i64 x.acq,Value.int .i64 x.opn,Value.string ⟨x.q.toArray⟩,Value.string ⟨x.cost.toArray⟩,Value.string ⟨x.used.toArray⟩]),.string ⟨(canon z).toArray⟩] W' fun e W''=>e=.returned (.bool true)/\S bp (.cells (zsC zs) 32 (0,0)) (ys++[(x,canon z)]) W''):=fun W' h=>HYY.out bp _ ys (x,canon z) W' h (by rw[hyl];exact hzip)
    have HYS2:Hid (ys++[(x,canon z)]=(xs.zip (zs.map canon)).take (j+1)):=by
     show _=_;obtain⟨h1,h2⟩:=Lg.1 hzip;rw[List.take_succ_eq_append_getElem h1,h2,<-HYS.out]
    clear hx hz hLA hbp hbs hcells hbA hzip hyl HYS HS HYY
    gi_wp2_with fail
    refine Vo (by simp) (by simp) (by kernel_rfl) (by kernel_rfl) (by kernel_rfl) (by kernel_rfl) (by kernel_rfl) ?_
    simp only[List.dropLast_cons_cons,List.dropLast_singleton,List.getLast_cons_cons,List.getLast_singleton];refine Zd _ (fun _=>rfl) (fun ρ wz hw=>by go_simp;try with_reducible rfl) ?_
    simp only[Act.put,StT,StZ,StS,Nat.reduceAdd];refine Zd (.agg #[Value.string ⟨x.id.toArray⟩,Value.string ⟨x.ins.toArray⟩,Value.int .i64 x.acq,Value.int .i64 x.opn,Value.string ⟨x.q.toArray⟩,Value.string ⟨x.cost.toArray⟩,Value.string ⟨x.used.toArray⟩]) (fun _=>rfl) (fun ρ wz hw=>ZP 130 _ rfl wr.heap.size 0 rfl (lcs x) _ (Vf (Y1.out.below hw)).out Tryz.underlying130 rfl (by rw[HZ.out];rfl)) ?_
    iterate 2
     simp only[Act.put,StT,StZ,StS,Nat.reduceAdd];refine Zd _ (fun _=>rfl) (fun ρ wz hw=>by go_simp;try with_reducible rfl) ?_
    simp only[Act.put,StT,StZ,StS,Nat.reduceAdd];refine Zd (.pointer (some ⟨bp,j,none⟩)) (fun _=>rfl) (fun ρ wz hw=>by go_simp;try with_reducible rfl) ?_
    simp only[Act.put,StT,StZ,StS,Nat.reduceAdd];refine Zd _ (fun _=>rfl) (fun ρ wz hw=>by have q0:wz.cell? ⟨bp,j,none⟩=some (.string ⟨(canon z).toArray⟩):=(Zg (Zk HBP.out hw) j).trans HZC.out;go_simp;try with_reducible rfl) ?_
    simp only[Act.put,StT,StZ,StS,Nat.reduceAdd];intro ρ w21 hF;dsimp only;have HX3:=Lh (HM.out _ _ _ _ _ HSA.out hF.below);clear hF HSA p0 p1 p2 p3 p4 p5 p6 Y1 HBP;obtain⟨fn,tmps,assign,body,hyr,hR⟩:=HYD.out w21 HX3.out
    gi_wp2
    refine⟨fun h=>(by cases h),hR.mono ?_⟩
    rintro e W3 ⟨rfl,hS3⟩;have HX4:=Lh hS3;clear hS3 hR hyr e1 e2
    gi_wp2
    go_roundw
    case rel=>exact⟨j+1,_,by omega,by go_num,HYS2.out,HX4.out⟩
    case measure=>simp[intOf];omega
end Go.Proofs.YtpieeldbamklkaaGreatDoor
namespace Go.Proofs.YtpieeldbamklkaaGreatDoor
open Go.RowKit Go.Shelf Num
theorem DV (A:Option Addr) (n c:Nat) (T:List UInt8) (w:World) :
  Calls Tryz.prog 169 #[.slice A n c,.string ⟨T.toArray⟩] w fun e w'=>e=.returned (.func (.func 216) #[] #[.pointer (some ⟨w.heap.size,0,none⟩),.pointer (some ⟨w.heap.size+1,0,none⟩)])/\w'=(w.alloc (.cells #[.slice A n c] 44)).alloc (.cells #[.string ⟨T.toArray⟩] 32):=by
 go_enter Tryz.func169,Tryz.ntmps169;go_wp2_with fail;go_ret;exact⟨rfl,rfl⟩
theorem LY (args:Array Value) (w:World):(callFunc 216 args).run Tryz.prog w=.ok (.enter 216 args) w:=by kernel_rfl
theorem Fq {w:World} {bf:Nat} {P Fe:List UInt8} (v:Value) (hG:GE w) (h0:w.cell? ⟨bf,10,none⟩=some (.string ⟨P.toArray⟩)) (h1:w.cell? ⟨bf,11,none⟩=some (.string ⟨Fe.toArray⟩)) (hP:P.length<=2000) (hF:Fe.length<=2000) :
  Calls Tryz.prog 95 #[v,.pointer (some ⟨bf,0,none⟩)] w fun e w'=>e=.returned (.string ⟨(canon (val P-val Fe)).toArray⟩)/\Below w.heap.size w w':=by
 have K:=Lh (Um (l:=P) (l':=Fe) (z:=val P-val Fe) (by omega) (by omega) rfl)
 go_enter Tryz.func95,Tryz.ntmps95;go_wp2_with fail
 with_reducible refine (K.out.e.of hG (Below.refl _ _)).mono ?_
 rintro e w1 ⟨rfl,hb1⟩;go_wp2;go_ret;exact⟨rfl,hb1⟩
theorem ZbB {w:World} {bl bf bm:Nat} {A Ap:Option Addr} {n c np cp:Nat} {ins q:List UInt8} {mt:Int} {R:Value->Int->World->Prop} (h0:w.cell? ⟨bl,0,none⟩=some (.slice A n c)) (h1:w.cell? ⟨bf,5,none⟩=some (.string ⟨ins.toArray⟩)) (h2:w.cell? ⟨bf,9,none⟩=some (.string ⟨q.toArray⟩)) (h3:w.cell? ⟨bm,0,none⟩=some (.int .i64 mt)) (h4:w.cell? ⟨bf,18,none⟩=some (.slice Ap np cp))
  (hK:Calls Tryz.prog 93 #[.slice A n c,.string ⟨ins.toArray⟩,.string ⟨q.toArray⟩,.int .i64 mt,.slice Ap np cp] w fun e w'=>∃v err,e=.returned (.tuple #[v,.int .i64 err])/\R v err w') :
  Calls Tryz.prog 92 #[.pointer (some ⟨bl,0,none⟩),.pointer (some ⟨bf,0,none⟩),.pointer (some ⟨bm,0,none⟩)] w fun e w'=>∃v err,e=.returned (.tuple #[v,.int .i64 err])/\R v err w':=by
 have HK:=Lh hK;clear hK;go_enter Tryz.func92,Tryz.ntmps92;go_wp2_with fail
 with_reducible refine HK.out.mono ?_
 rintro e w1 ⟨v,err,rfl,hR⟩;have HR:=Lh hR;clear hR;go_wp2;refine bodyPost_ret (v:=.tuple #[v,.int .i64 err]) (by simp[results,Tryz.results92,go_sem]) rfl ?_
 exact⟨v,err,rfl,HR.out⟩
structure Gn where
 fact:List UInt8
 lot:List UInt8
 ins:List UInt8
 acq:Int
 day:Int
 q:List UInt8
 pro:List UInt8
 cost:List UInt8
def LZ (x:Gn):List Value:=[.string ⟨x.fact.toArray⟩,.string ⟨x.lot.toArray⟩,.string ⟨x.ins.toArray⟩,.int .i64 x.acq,.int .i64 x.day,.string ⟨x.q.toArray⟩,.string ⟨x.pro.toArray⟩,.string ⟨x.cost.toArray⟩,.string ⟨#[]⟩,.string ⟨#[]⟩]
def WJ (xs:List Gn):List Value:=xs.flatMap LZ
theorem JQ (xs ys:List Gn):WJ (xs++ys)=WJ xs++WJ ys:=List.flatMap_append
theorem DX (x:Gn):∀u∈LZ x,u.oneCell'=true:=by
 intro u hu;simp only[LZ,List.mem_cons,List.not_mem_nil,or_false] at hu;rcases hu with rfl|rfl|rfl|rfl|rfl|rfl|rfl|rfl|rfl|rfl<;>rfl
theorem Ft:(Tryz.prog.info? 89).map (fun i=>(i.zero,i.size,i.bytes))=some (some (.agg #[.string ⟨#[]⟩,.string ⟨#[]⟩,.string ⟨#[]⟩,.int .i64 0,.int .i64 0,.string ⟨#[]⟩,.string ⟨#[]⟩,.string ⟨#[]⟩,.string ⟨#[]⟩,.string ⟨#[]⟩]),10,144):=by kernel_rfl
structure Sp where
 fact:List UInt8
 lot:List UInt8
 q:List UInt8
 cost:List UInt8
def L0 (x:Sp):List Value:=[.string ⟨x.fact.toArray⟩,.string ⟨x.lot.toArray⟩,.string ⟨#[]⟩,.string ⟨x.q.toArray⟩,.string ⟨#[]⟩,.string ⟨x.cost.toArray⟩]
def Uy (xs:List Sp):List Value:=xs.flatMap L0
theorem JR (xs ys:List Sp):Uy (xs++ys)=Uy xs++Uy ys:=List.flatMap_append
theorem DY (x:Sp):∀u∈L0 x,u.oneCell'=true:=by
 intro u hu;simp only[L0,List.mem_cons,List.not_mem_nil,or_false] at hu;rcases hu with rfl|rfl|rfl|rfl|rfl|rfl<;>rfl
theorem Fu:(Tryz.prog.info? 136).map (fun i=>(i.zero,i.size,i.bytes))=some (some (.agg #[.string ⟨#[]⟩,.string ⟨#[]⟩,.string ⟨#[]⟩,.string ⟨#[]⟩,.string ⟨#[]⟩,.string ⟨#[]⟩]),6,96):=by kernel_rfl
theorem XP {P:Program} {F:Fence} {n0:Nat} {w:World} {ops:Array Oper} {rest:List Oper} {o:Oper} {a:Act} {Q:Exit->Act->World->Prop} (hgd:o.guard=none) (s x:Operand) (t:TypeId)
  (ho:o.op=.call { callee:=.builtin .append,args:=#[s,x],argTypes:=#[t,t] })
  (base:Nat) (e:TypeId) (i:TypeInfo) (z:Value) (size bytes:Nat) (ht:P.underlying t=some (.slice e)) (hi:P.info? e=some i) (hz:i.zero=some z)
  (hsize:i.size=size) (hby:i.bytes=bytes) (hzs:z.cells.size=size) (hsz:0<size)
  (v:Value) (n:Nat) (xs:List Value) (hs:a.eval s=v) (hown:w.ownsRow base e size v n xs)
  (ad:Addr) (m c:Nat) (news:List Value) (hx:a.eval x=.slice (some ad) m c) (hl:news.length=m*size) (hnews:∀j u,news[j]?=some u->w.cell? (ad.add j)=some u) (h1:∀u∈news,u.oneCell'=true)
  (h63:n+m<=maxLen) (hbytes:(n+m)*bytes<=140737488355328) (hbase:base<=w.heap.size)
  (h:∀v' w',w'.ownsRow base e size v' (n+m) (xs++news)->w.grownBy w' v.ownBlock->(∀g,v'.ownBlock=some g->v.ownBlock=some g∨w.heap.size<=g)->wpListIn F n0 P ops Q rest (a.put o.dst v') w'):wpListIn F n0 P ops Q (o::rest) a w:=by
 refine wpListIn_plain hgd fun K hK=>?_
 obtain⟨v',w',hr,h2,h3,-⟩:=run_append_own (P:=P) w base t o.type e i z size bytes ht hi hz hsize hby hzs hsz v n xs hown ad m c news hl hnews h1 h63 hbytes hbase;have h5:=V8 (P:=P) base t o.type e i z size bytes ht hi hz hsize hby hzs hsz v n xs hown ad m c news hl hnews h1 h63 hbytes hr;unfold Oper.wpIn;refine⟨?_,?_⟩
 ·simp[Oper.about,ho,resolve,Target.leads,Sem.run_pure]
 ·rw[Oper.semAt_plain F _ _ (by rw[ho];intro c hc';cases hc')]
  simp[execOp,ho,resolve,invoke,builtin,hs,hx,hr,Result.andThen];exact hK _ _ (h v' w' h2 h3 h5)
theorem S4 {P:Program} {F:Fence} {n0:Nat} {w:World} {ops:Array Oper} {rest:List Oper} {op:Oper} {a:Act} {Q:Exit->Act->World->Prop} (hgd:op.guard=none) (ty:TypeId) (x:Operand) (ho:op.op=.load ty x) (b k:Nat) (hx:a.eval x=.pointer (some ⟨b,k,none⟩)) (cs:List Value) {d:TypeDesc} (hc:w.rangeAt b k cs)
  (hu:P.underlying ty=some d) (hd:d.isRow=true) (hi:(P.info? ty).map (·.size)=some cs.length) (h:wpListIn F n0 P ops Q rest (a.put op.dst (.agg cs.toArray)) w):wpListIn F n0 P ops Q (op::rest) a w:=by
 refine wpListIn_plain hgd fun K hK=>?_
 have hr:=ZP (P:=P) (e:=a.eval) ty x ho b k hx cs d hc hu hd hi;unfold Oper.wpIn;refine⟨?_,?_⟩
 ·simp[Oper.about,ho]
 ·rw[Oper.semAt_plain F _ _ (by rw[ho];intro c hc';cases hc'),hr]
  exact hK _ _ h
theorem Vr {P:Program} {F:Fence} {n0:Nat} {w:World} {ops:Array Oper} {rest:List Oper} {op:Oper} {a:Act} {Q:Exit->Act->World->Prop} (hgd:op.guard=none) (ty:TypeId) (x y:Operand) (ho:op.op=.store ty x y)
  (b k:Nat) (cells:Array Value) (hx:a.eval x=.pointer (some ⟨b,k,none⟩)) (hy:a.eval y=.agg cells)
  (ht:w.there b k cells.size) (hi:(P.info? ty).map (·.size)=some cells.size) (h1:cells.all (·.oneCell')=true)
  (h:wpListIn F n0 P ops Q rest (a.put op.dst undef) (w.setCells b k cells.toList)):wpListIn F n0 P ops Q (op::rest) a w:=by
 refine wpListIn_plain hgd fun K hK=>?_
 have hr:=Zn (P:=P) (e:=a.eval) (w:=w) ty x y ho b k cells hx hy ht hi h1;unfold Oper.wpIn;refine⟨?_,?_⟩
 ·simp[Oper.about,ho]
 ·rw[Oper.semAt_plain F _ _ (by rw[ho];intro c hc';cases hc'),hr]
  exact hK _ _ h
theorem S5 {P:Program} (w:World) (b o:Nat) (ty:TypeId) (v:Value) (hc:(w.cell? ⟨b,o,none⟩).isSome=true) (hf:w.frozen? ⟨b,o,none⟩=false) (hi:(P.info? ty).map (·.size)=some 1) (h1:v.oneCell'=true) :
  (storeVar ty ⟨b,o,none⟩ v).run P w=.ok () (w.setCell ⟨b,o,none⟩ v):=by
 have:=run_storeCells_cells (P:=P) b o [v] 0 w (fun j hj=>by
  have:j=0:=by simpa using hj
  subst this;simpa using hc) (fun j hj=>by
  have:j=0:=by simpa using hj
  subst this;simpa using hf) (fun u hu=>by
  simp only[List.mem_cons,List.not_mem_nil,or_false] at hu
  subst hu;exact h1)
 have hcs:v.cells=#[v]:=by cases v<;>first|rfl|cases h1
 cases hq:P.info? ty with
 | none=>simp[hq] at hi
 | some i=>
  have hs:i.size=1:=by simp[hq] at hi;omega
  simp only[Nat.add_zero] at this;simp[storeVar,sizeOf,typeInfo,hq,hcs,hs,this,World.setCells]
theorem UH {P:Program} {e:Operand->Value} {o:Oper} {w:World} (ty:TypeId) (x y:Operand) (ho:o.op=.store ty x y) (b k:Nat) (v:Value) (hx:e x=.pointer (some ⟨b,k,none⟩)) (hy:e y=v)
  (hc:(w.cell? ⟨b,k,none⟩).isSome=true) (hf:w.frozen? ⟨b,k,none⟩=false) (hi:(P.info? ty).map (·.size)=some 1) (h1:v.oneCell'=true):(execOp e o).run P w=.ok .skip (w.setCell ⟨b,k,none⟩ v):=by
 unfold execOp;simp only[ho,hx,hy,Instr.storeAt,Instr.sureAddr,Sem.run_bind,Sem.run_pure,Result.andThen_ok,S5 w b k ty v hc hf hi h1]
theorem WP {P:Program} {F:Fence} {n0:Nat} {w:World} {ops:Array Oper} {rest:List Oper} {op:Oper} {a:Act} {Q:Exit->Act->World->Prop} (hgd:op.guard=none) (ty:TypeId) (x y:Operand) (ho:op.op=.store ty x y)
  (b k:Nat) (v:Value) (hx:a.eval x=.pointer (some ⟨b,k,none⟩)) (hy:a.eval y=v)
  (hc:(w.cell? ⟨b,k,none⟩).isSome=true) (hf:w.frozen? ⟨b,k,none⟩=false) (hi:(P.info? ty).map (·.size)=some 1) (h1:v.oneCell'=true)
  (h:wpListIn F n0 P ops Q rest (a.put op.dst undef) (w.setCell ⟨b,k,none⟩ v)):wpListIn F n0 P ops Q (op::rest) a w:=by
 refine wpListIn_plain hgd fun K hK=>?_
 have hr:=UH (P:=P) (e:=a.eval) (w:=w) ty x y ho b k v hx hy hc hf hi h1;unfold Oper.wpIn;refine⟨?_,?_⟩
 ·simp[Oper.about,ho]
 ·rw[Oper.semAt_plain F _ _ (by rw[ho];intro c hc';cases hc'),hr]
  exact hK _ _ h
def ML (fid fins:List UInt8) (day:Int) (y:Lot×List UInt8):Gn:=⟨fid,y.1.id,fins,y.1.acq,day,y.1.q,y.2,y.1.cost⟩
def L4 (fid:List UInt8) (y:Lot×List UInt8):Sp:=⟨fid,y.1.id,y.1.q,y.1.cost⟩
def Sl (g nr cr:Nat) (v1 v2:Value):Array Value:=#[.slice (some ⟨g,0,none⟩) nr cr,v1,v2,.slice none 0 0]
structure Vb (w:World) (R:Loop) (Bx d l g nr cr b0:Nat) (ob:Obj) (v1 v2:Value) (gs:List Gn) (ss:List Sp) (W:World):Prop where
 below:Below w.heap.size w W
 loop:W.heap[l]?=some (.loop R)
 dfr:W.heap[d]?=some (.deferred (some []))
 par:W.heap[b0]?=some ob
 lo:Bx<=b0/\Bx<=W.heap.size
 res:W.heap[w.heap.size]?=some (.cells (Sl g nr cr v1 v2) 60 (0,0))
 o1:W.ownsRow Bx 89 10 v1 gs.length (WJ gs)
 o2:W.ownsRow Bx 136 6 v2 ss.length (Uy ss)
 dis:Dis v1 v2
 n1:v1.ownBlock≠some b0
 n2:v2.ownBlock≠some b0
section
variable {w:World} {R:Loop} {Bx d l g nr cr b0:Nat} {ob:Obj} {v1 v2:Value} {gs:List Gn} {ss:List Sp} {W W':World}
theorem Uz {w w':World} {B:Nat} (h:Below B w w') {b:Nat} (hb:B<=b) (o:Nat) (y:Value):Below B w (w'.setCell ⟨b,o,none⟩ y):=h.setCell (p:=⟨b,o,none⟩) hb y
theorem Vb.mono (h:Vb w R Bx d l g nr cr b0 ob v1 v2 gs ss W) (hb:Below W.heap.size W W'):Vb w R Bx d l g nr cr b0 ob v1 v2 gs ss W':=
 ⟨bto h.below hb,Zk h.loop hb,Zk h.dfr hb,Zk h.par hb,⟨h.lo.1,Nt h.lo.2 hb.size⟩,Zk h.res hb,ZN h.o1 hb,ZN h.o2 hb,h.dis,h.n1,h.n2⟩
theorem Xw {w w':World} {B k sz:Nat} {ty:TypeId} {v:Value} {cs:List Value} (h:w.ownsRow B ty sz v k cs) (hb:∀b,B<=b->b<w.heap.size->w'.heap[b]?=w.heap[b]?):w'.ownsRow B ty sz v k cs:=by
 refine⟨h.1,?_⟩;rcases h.2 with h2|⟨g,cap,cur,e,hB,hg,r⟩
 ·exact .inl h2
 ·exact .inr ⟨g,cap,cur,e,hB,(hb g hB (Ag.1 hg).1).trans hg,r⟩
theorem Vb.done {R1 R2:Loop} (hR:R2=R) (hl:l≠d/\w.heap.size<l/\l<Bx) (h:Vb w R1 Bx d l g nr cr b0 ob v1 v2 gs ss W):Vb w R Bx d l g nr cr b0 ob v1 v2 gs ss (W.putObj l (.loop R2)):=by
 subst hR;have hlo:=h.lo.1;have ho:∀b,b≠l->(W.putObj l (.loop R2)).heap[b]?=W.heap[b]?:=fun b hb=>World.putObj_heap_other (by omega)
 exact⟨Xb h.below (by omega),World.putObj_heap_same (Ag.1 h.loop).1,(ho _ (by omega)).trans h.dfr,(ho _ (by omega)).trans h.par,⟨h.lo.1,by simpa using h.lo.2⟩,(ho _ (by omega)).trans h.res,Xw h.o1 (fun b hb _=>ho b (by omega)),Xw h.o2 (fun b hb _=>ho b (by omega)),h.dis,h.n1,h.n2⟩
theorem Vb.grown (h:Vb w R Bx d l g nr cr b0 ob v1 v2 gs ss W) (hl:w.heap.size<l/\w.heap.size<d/\l<Bx/\d<Bx) {row:Option Nat} (hr:∀k,row=some k->Bx<=k/\k≠b0) (hg:W.grownBy W' row) :
  Below w.heap.size w W'/\W'.heap[l]?=some (.loop R)/\W'.heap[d]?=some (.deferred (some []))/\W'.heap[b0]?=some ob/\W'.heap[w.heap.size]?=some (.cells (Sl g nr cr v1 v2) 60 (0,0))/\Bx<=W'.heap.size:=by
 have hk:∀k o,W.heap[k]?=some o->(∀x,row=some x->x≠k)->W'.heap[k]?=some o:=fun k o h1 h2=>(hg.block k (Ag.1 h1).1 (fun e=>h2 k e.symm rfl)).trans h1
 have hs:=h.below.size;refine⟨h.below.grown hg hs (fun k hk=>?_),hk _ _ h.loop (fun x e=>?_),hk _ _ h.dfr (fun x e=>?_),hk _ _ h.par (fun x e=>?_),hk _ _ h.res (fun x e=>?_),Nt h.lo.2 hg.size⟩
 ·have:=(hr k hk).1;omega
 ·have:=(hr x e).1;omega
 ·have:=(hr x e).1;omega
 ·exact (hr x e).2
 ·have:=(hr x e).1;omega
theorem Vb.r1 (h:Vb w R Bx d l g nr cr b0 ob v1 v2 gs ss W):∀k,v1.ownBlock=some k->Bx<=k/\k≠b0:=fun k hk=>⟨(World.ownsRow.lt h.o1 k hk).1,fun e=>h.n1 (by rw[hk,e])⟩
theorem Vb.r2 (h:Vb w R Bx d l g nr cr b0 ob v1 v2 gs ss W):∀k,v2.ownBlock=some k->Bx<=k/\k≠b0:=fun k hk=>⟨(World.ownsRow.lt h.o2 k hk).1,fun e=>h.n2 (by rw[hk,e])⟩
theorem Vb.gain (h:Vb w R Bx d l g nr cr b0 ob v1 v2 gs ss W) (hl:w.heap.size<l/\w.heap.size<d/\l<Bx/\d<Bx) {x:Gn} {v1':Value} (ho:W'.ownsRow Bx 89 10 v1' (gs.length+1) (WJ gs++LZ x)) (hg:W.grownBy W' v1.ownBlock) (hf:∀k,v1'.ownBlock=some k->v1.ownBlock=some k∨W.heap.size<=k) :
  Vb w R Bx d l g nr cr b0 ob v1' v2 (gs++[x]) ss (W'.setCell ⟨w.heap.size,1,none⟩ v1'):=by
 obtain⟨a1,a2,a3,a4,a5,a6⟩:=h.grown hl h.r1 hg;have hlo:=h.lo.1
 have h2:=h.o2.kept hg (by
  cases hv:v2.ownBlock with
  | none=>exact .inl rfl
  | some k=>exact .inr (fun e=>h.dis k e.symm hv))
 have hb0:=(Ag.1 h.par).1;have hoth:∀b,b≠w.heap.size->(W'.setCell ⟨w.heap.size,1,none⟩ v1').heap[b]?=W'.heap[b]?:=fun b hb=>Below.heap_setCell W' ⟨w.heap.size,1,none⟩ v1' b hb
 refine⟨Uz a1 (Nl _) 1 v1',(hoth _ (by omega)).trans a2,(hoth _ (by omega)).trans a3,(hoth _ (by omega)).trans a4,⟨hlo,by simpa using a6⟩,?_,?_,Xw h2 (fun b hb _=>hoth b (by omega)),h.dis.fresh hf (fun k hk=>(World.ownsRow.lt h.o2 k hk).2),LW h.n1 hf hb0,h.n2⟩
 ·exact hset (o:=1) v1' a5
 ·rw[List.length_append,List.length_singleton,JQ,show WJ [x]=LZ x by simp[WJ]]
  exact Xw ho (fun b hb _=>hoth b (by omega))
theorem Vb.step (h:Vb w R Bx d l g nr cr b0 ob v1 v2 gs ss W) (hl:w.heap.size<l/\w.heap.size<d/\l<Bx/\d<Bx) {x:Sp} {v2':Value} (ho:W'.ownsRow Bx 136 6 v2' (ss.length+1) (Uy ss++L0 x)) (hg:W.grownBy W' v2.ownBlock) (hf:∀k,v2'.ownBlock=some k->v2.ownBlock=some k∨W.heap.size<=k) :
  Vb w R Bx d l g nr cr b0 ob v1 v2' gs (ss++[x]) (W'.setCell ⟨w.heap.size,2,none⟩ v2'):=by
 obtain⟨a1,a2,a3,a4,a5,a6⟩:=h.grown hl h.r2 hg;have hlo:=h.lo.1
 have h2:=h.o1.kept hg (by
  cases hv:v1.ownBlock with
  | none=>exact .inl rfl
  | some k=>exact .inr (fun e=>h.dis k hv e.symm))
 have hb0:=(Ag.1 h.par).1;have hoth:∀b,b≠w.heap.size->(W'.setCell ⟨w.heap.size,2,none⟩ v2').heap[b]?=W'.heap[b]?:=fun b hb=>Below.heap_setCell W' ⟨w.heap.size,2,none⟩ v2' b hb
 refine⟨Uz a1 (Nl _) 2 v2',(hoth _ (by omega)).trans a2,(hoth _ (by omega)).trans a3,(hoth _ (by omega)).trans a4,⟨hlo,by simpa using a6⟩,?_,Xw h2 (fun b hb _=>hoth b (by omega)),?_,(h.dis.symm.fresh hf (fun k hk=>(World.ownsRow.lt h.o1 k hk).2)).symm,h.n1,LW h.n2 hf hb0⟩
 ·exact hset (o:=2) v2' a5
 ·rw[List.length_append,List.length_singleton,JR,show Uy [x]=L0 x by simp[Uy]]
  exact Xw ho (fun b hb _=>hoth b (by omega))
end
def I5 (w:World) (R:Loop) (Bx d l g nr cr:Nat) (fid fins:List UInt8) (day:Int) (b0:Nat) (ob:Obj) (ys:List (Lot×List UInt8)) (W:World):Prop:=
 ∃v1 v2,Vb w R Bx d l g nr cr b0 ob v1 v2 (ys.map (ML fid fins day)) (ys.map (L4 fid)) W
structure A8 (w:World) (R:Loop) (Bx d l g nr cr bl bt:Nat) (v:Value) (T:List UInt8) (W:World):Prop where
 below:Below w.heap.size w W
 loop:W.heap[l]?=some (.loop R)
 dfr:W.heap[d]?=some (.deferred (some []))
 lo:Bx<=W.heap.size
 res:W.heap[w.heap.size]?=some (.cells (Sl g nr cr (.slice none 0 0) (.slice none 0 0)) 60 (0,0))
 lots:Blk W bl #[v]
 txt:Blk W bt #[.string ⟨T.toArray⟩]
theorem A8.go {w:World} {R:Loop} {Bx d l g nr cr bl bt:Nat} {v:Value} {T:List UInt8} {W W':World} (h:A8 w R Bx d l g nr cr bl bt v T W) (fid fins:List UInt8) (day:Int) {b0:Nat} {ob:Obj} (hb:Below W.heap.size W W') (h0:W.heap.size<=b0) (h1:W'.heap[b0]?=some ob):I5 w R Bx d l g nr cr fid fins day b0 ob [] W':=
 ⟨.slice none 0 0,.slice none 0 0,{ below:=bto h.below hb,loop:=Zk h.loop hb,dfr:=Zk h.dfr hb,par:=h1,lo:=⟨Nt h.lo h0,Nt h.lo hb.size⟩,res:=Zk h.res hb,o1:=World.ownsRow_nil _ _ _ _,o2:=World.ownsRow_nil _ _ _ _,dis:=(fun g hg=>(by cases hg)),n1:=(fun e=>(by cases e)),n2:=(fun e=>(by cases e)) }⟩
def RZ:Array Value:=#[.slice none 0 0,.slice none 0 0,.slice none 0 0,.slice none 0 0]
theorem QX:(Tryz.prog.info? 60).map (·.size)=some 4:=by kernel_rfl
end Go.Proofs.YtpieeldbamklkaaGreatDoor
