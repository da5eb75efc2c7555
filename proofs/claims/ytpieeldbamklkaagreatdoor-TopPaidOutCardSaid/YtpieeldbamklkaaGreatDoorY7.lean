/- Texts put together: Rj Sd Rk Rn Kc. -/
import Derived.Test.YtpieeldbamklkaaGreatDoorY6
import Derived.WalkKit
import Derived.Deep.RegionLaw
import Derived.Lib.SliceRun
import Derived.Laws.IdiomCopy
import Derived.Lib.SlBuf
set_option maxHeartbeats 8000000
set_option maxRecDepth 1000000
open Go.Proofs.Tryz
namespace Go.Proofs.YtpieeldbamklkaaGreatDoor
open Go.RowKit Num
theorem ZcF (p r:Pk) (bx:Nat) (w:World) (h:Blk w bx #[.string ⟨r.lot.toArray⟩,.string ⟨r.q.toArray⟩]) :
  Calls prog 276 #[.agg #[.string ⟨p.lot.toArray⟩,.string ⟨p.q.toArray⟩],.pointer (some ⟨bx,0,none⟩)] w fun e w'=>e=.returned (.bool (Z1 r.lot p))/\Below w.heap.size w w':=by
 have hb:=Zb w (.cells #[.string ⟨p.lot.toArray⟩,.string ⟨p.q.toArray⟩] 195);have x1:=Blk.new w #[.string ⟨p.lot.toArray⟩,.string ⟨p.q.toArray⟩] 195;have p0:=x1.c 0;have p1:=(h.below hb).c 0;have HV:Hid (Z1 r.lot p=(p.lot==r.lot)):=rfl;have he:=Tj p.lot r.lot;generalize Z1 r.lot p=R at *;clear h x1;go_enter func276,ntmps276;go_wp2;go_ret;refine⟨ZV ?_,hb⟩;rw[HV.out]<;>first|exact he|rfl
theorem G1 (args:Array Value) (w:World):(callFunc 276 args).run prog w=.ok (.enter 276 args) w:=by kernel_rfl
theorem Dx {α:Type} {xs:List α} {i:Nat} {x:α} (h:xs[i]?=some x):i<xs.length:=(Lg.1 h).1
theorem JQ {xs:List Lot} {ps:List Pk} {k:Nat} {p:Pk} (h:ps[k]?=some p):VO xs (ps.take k) (ps.drop k)=if ZW (isLt p.lot) xs 0<0 then 6 else if (ps.take k).any (Z1 p.lot)=true then 5 else if ¬p.q=canon (val p.q) then 1 else if val p.q<=0 then 2 else
   if val (xs.getD (ZW (isLt p.lot) xs 0).toNat ⟨[],[],0,0,[],[],[]⟩).q<val p.q then 15 else VO xs (ps.take (k+1)) (ps.drop (k+1)):=by
 obtain⟨hk,rfl⟩:=Lg.1 h;rw[List.drop_eq_getElem_cons hk,List.take_succ_eq_append_getElem hk];rfl
theorem G3 {w:World} {A Ap:Option Addr} {xs:List Lot} {ps:List Pk} {n np:Nat} (c cp:Nat) (hG:GE w) (hL:Yf w A xs n) (hP:WB w Ap ps) (hpn:ps.length=np) (hpc:np<=cp) (hpn2:np<=100000) (hps:∀p∈ps,p.lot.length<=1000/\p.q.length<=2000) :
  Calls prog 213 #[.slice A n c,.pointer none,.slice Ap np cp] w fun e w'=>e=.returned (.int .i64 (VO xs [] ps))/\Below w.heap.size w w':=by
 have hn2:=hL.big;have HL:=Lh hL;have HP:=Lh hP;have HPS:=Lh hps;have HPN:=Lh hpn;have hp1:ps.length<=np:=by omega
 have hp2:np<=ps.length:=by omega
 obtain⟨E,hE⟩:∃E,E=VO xs [] ps:=⟨_,rfl⟩
 rw[<-hE];have HE:Hid (E=VO xs (ps.take 0) (ps.drop 0)):=hE;have hb0:=Below.refl w.heap.size w;clear hL hP hps hpn hE;go_enter func213,ntmps213;go_wp2_with fail
 go_loopw [7,8,9,10,13,18,25,28,42,48,53,58] (fun _ _ _ _ iv _ _ _ _ _ _ _ wr=>∃k:Nat,k<=np/\iv=.int .i64 (k:Int)/\Hid (E=VO xs (ps.take k) (ps.drop k))/\Below w.heap.size w wr) (fun _ _ _ _ iv _ _ _ _ _ _ _ _=>np-(intOf iv).toNat)
 case atStart=>exact⟨0,Nat.zero_le _,rfl,HE.out,hb0⟩
 case round=>
  clear HE hb0;obtain⟨k,hk,rfl,HE,hb⟩:=hrel
  by_cases hlk:k<np
  rotate_left
  ·have HQ:Hid (E=0):=by
    have h:=HE.out;rw[List.drop_of_length_le (by omega)] at h
    exact h
   have e1:decide (k<np)=false:=Df hlk;have e2:decide ((k:Int)<(np:Int))=false:=Df (by omega)
   clear HE;go_wp2;go_ret;exact⟨ZU HQ.out.symm,hb⟩
  have e1:decide (k<np)=true:=Dt hlk;have e2:decide ((k:Int)<(np:Int))=true:=Dt (by omega)
  obtain⟨p,hp⟩:∃p,ps[k]?=some p:=⟨_,List.getElem?_eq_getElem (by omega)⟩
  have hpz:=HPS.out p (Lm hp);obtain⟨bp,op,rfl,hbps,p0,p1⟩:=(HP.out.below hb) k p hp;have hbA:=Zb wr (.cells #[.string ⟨p.lot.toArray⟩,.string ⟨p.q.toArray⟩] 195);have X1:=Lh (Blk.new wr #[.string ⟨p.lot.toArray⟩,.string ⟨p.q.toArray⟩] 195);have q0:=X1.out.c 0;have HV:=Lh (HE.out.trans (JQ hp));replace hb:=bto hb hbA;have KF:=Lh (Zas c p.lot HL.out.len hn2 (HL.out.mem.below hb));obtain⟨bx,hbx⟩:∃bx,bx=wr.heap.size:=⟨_,rfl⟩
  rw[<-hbx] at X1 q0;have HBX:=Lh hbx;have hkc:(k:Int)<=(cp:Int):=by omega
  clear hp hbA HE hbx;go_wp2_with fail;rw[<-HBX.out];refine KF.out.mono ?_;rintro e w1 ⟨rfl,hb1⟩;clear p0 p1 q0 KF e1 e2;replace X1:=Lh (X1.out.below hb1);replace hb:=bto hb hb1;clear hb1
  by_cases g1:ZW (isLt p.lot) xs 0<0
  ·have HQ:Hid (E=6):=by show _=_;rw[HV.out,if_pos g1]
   rw[Df (by omega:¬0<=ZW (isLt p.lot) xs 0)]
   clear g1 HV X1;go_wp2;go_ret;exact⟨ZU HQ.out.symm,hb⟩
  have HV1:=Lh (HV.out.trans (if_neg g1));obtain⟨i,x,hzi,hxi,-,-⟩:=VN _ _ _ (Int.not_lt.1 g1);rw[Nat.zero_add] at hzi;have hpos:EZ (ZW (isLt p.lot) xs 0)=(i:Int):=by rw[hzi];exact if_pos (by omega)
  rw[Dt (Int.not_lt.1 g1),hpos];have hxq:xs.getD (ZW (isLt p.lot) xs 0).toNat ⟨[],[],0,0,[],[],[]⟩=x:=by rw[hzi,Int.toNat_natCast,List.getD_eq_getElem?_getD,hxi];rfl
  rw[hxq] at HV1;have hiN:i<n:=by rw[<-HL.out.len];exact Dx hxi
  have hxs:=HL.out.sm x (Lm hxi);have KP:=Lh (fun (w':World) (hb':Below w1.heap.size w1 w')=>EY _ G1 (Z1 p.lot) #[.pointer (some ⟨bx,0,none⟩)] (some ⟨bp,op,none⟩) (ps.take k) k cp w' (by rw[List.length_take];omega) (by omega) (((HP.out.below hb).below hb').take k) (fun r _ w2 hb2=>ZcF r p bx w2 ((X1.out.below hb').below hb2)))
  have HXI:=Lh hxi;clear g1 HV hzi hxi hpos hxq;go_wp2_with fail;refine Zm (by kernel_rfl) (by kernel_rfl) ?_
  iterate 3
   refine KeV ?_;simp only[Act.put,StT,StZ,StS,Nat.reduceAdd]
  iterate 9
   refine Yn (fun _=>rfl) ?_
   simp only[Act.put,StT,StZ,StS,Nat.reduceAdd]
  iterate 2
   refine KeV ?_;simp only[Act.put,StT,StZ,StS,Nat.reduceAdd]
  intro ρ w2 hF;dsimp only;have hbF:=hF.below;clear hF;go_wp2_with fail;refine (KP.out _ hbF).mono ?_;rintro e w3 ⟨rfl,hb3⟩;replace X1:=Lh ((X1.out.below hbF).below hb3);replace hb:=bto (bto hb hbF) hb3;clear hbF hb3 KP
  by_cases g2:(ps.take k).any (Z1 p.lot)=true
  ·have HQ:Hid (E=5):=by show _=_;rw[HV1.out,if_pos g2]
   rw[g2];clear g2 HV1 X1;go_wp2;go_ret;exact⟨ZU HQ.out.symm,hb⟩
  have HV2:=Lh (HV1.out.trans (if_neg g2));rw[YH g2];have K1:=Lh (Yz (l:=p.q) (by omega) rfl)
  have q1:=X1.out.c 1;clear g2 HV1
  by_cases g3:p.q=canon (val p.q)
  rotate_left
  ·have HQ:Hid (E=1):=by show _=_;rw[HV2.out,if_pos g3]
   rw[if_neg g3] at K1;clear g3 HV2;go_wp2_with fail
   refine (K1.out.e.of hG hb).mono ?_
   rintro e w4 ⟨rfl,hb4⟩;replace hb:=bto hb hb4;go_wp2;go_ret;exact⟨ZU HQ.out.symm,hb⟩
  have HV3:=Lh (HV2.out.trans (if_neg (fun h=>h g3)))
  rw[if_pos g3] at K1;clear g3 HV2;go_wp2_with fail
  refine (K1.out.e.of hG hb).mono ?_
  rintro e w4 ⟨rfl,hb4⟩;replace X1:=Lh (X1.out.below hb4);replace hb:=bto hb hb4;clear hb4 q1 K1;have q1:=X1.out.c 1;have K2:=Lh (V7 (l:=p.q) (by omega))
  by_cases g4:val p.q<=0
  ·have HQ:Hid (E=2):=by show _=_;rw[HV3.out,if_pos g4]
   rw[Df (by omega:¬0<val p.q)] at K2
   clear g4 HV3;go_wp2_with fail
   refine (K2.out.e.of hG hb).mono ?_
   rintro e w5 ⟨rfl,hb5⟩;replace hb:=bto hb hb5;go_wp2;go_ret;exact⟨ZU HQ.out.symm,hb⟩
  have HV4:=Lh (HV3.out.trans (if_neg g4));rw[Dt (by omega:0<val p.q)] at K2
  clear g4 HV3;go_wp2_with fail
  refine (K2.out.e.of hG hb).mono ?_
  rintro e w5 ⟨rfl,hb5⟩;replace X1:=Lh (X1.out.below hb5);replace hb:=bto hb hb5;clear hb5 q1 K2;obtain⟨b,o,rfl,hbs,hcx⟩:=(HL.out.mem.below hb) i x HXI.out;have HXC:=Lh hcx;obtain⟨cc,hcc⟩:∃cc,cc=Zy (val p.q) (val x.q):=⟨_,rfl⟩
  have hxsq:=hxs.q;have KC:=Lh (ZA (l:=p.q) (l':=x.q) (by omega) (by omega) hcc.symm)
  have hci:0<cc↔val x.q<val p.q:=by
   rw[hcc];unfold Zy
   split
   ·omega
   ·split<;>omega
  obtain⟨bv,hbv⟩:∃bv,bv=decide (0<cc):=⟨_,rfl⟩
  have HBV:=Lh hbv;clear hcx hcc hbv;go_wp2_with fail;refine Zm (by kernel_rfl) (by kernel_rfl) ?_
  refine KeV ?_;simp only[Act.put,StT,StZ,StS,Nat.reduceAdd];refine KeW (fun ρ wz hw=>by have q0:=(X1.out.below hw).c 1;go_simp;try rfl) ?_
  iterate 2
   simp only[Act.put,StT,StZ,StS,Nat.reduceAdd];refine KeV ?_
  simp only[Act.put,StT,StZ,StS,Nat.reduceAdd];refine KeV (v:=.pointer (some ⟨b,o+i*7,none⟩)) ?_;simp only[Act.put,StT,StZ,StS,Nat.reduceAdd];refine KeV (v:=.pointer (some ⟨b,o+i*7+4,none⟩)) ?_;simp only[Act.put,StT,StZ,StS,Nat.reduceAdd];refine KeW (fun ρ wz hw=>by have q0:=(HXC.out.below hbs hw).c4;go_simp;try rfl) ?_
  simp only[Act.put,StT,StZ,StS,Nat.reduceAdd];refine KeC (fun wz hw=>KC.out.e.of hG (bto hb hw)) ?_
  simp only[Act.put,StT,StZ,StS,Nat.reduceAdd];refine Zw (.bool bv) (fun _=>rfl) (fun ρ wz hw=>by rw[HBV.out];go_simp;try rfl) ?_
  simp only[Act.put,StT,StZ,StS,Nat.reduceAdd];refine KeV ?_;simp only[Act.put,StT,StZ,StS,Nat.reduceAdd];intro ρ w6 hF;dsimp only;replace hb:=bto hb hF.below;clear hF KC HXC X1;have hbv:=HBV.out;clear HBV;cases bv;rotate_left
  ·have g5:val x.q<val p.q:=hci.1 (of_decide_eq_true hbv.symm);have HQ:Hid (E=15):=by show _=_;rw[HV4.out,if_pos g5]
   clear g5 HV4 hci hbv;go_wp2;go_ret;exact⟨ZU HQ.out.symm,hb⟩
  ·have g5:¬val x.q<val p.q:=fun h=>of_decide_eq_false hbv.symm (hci.2 h)
   have HQ:Hid (E=VO xs (ps.take (k+1)) (ps.drop (k+1))):=by show _=_;rw[HV4.out,if_neg g5]
   clear g5 HV4 hci hbv;go_wp2;go_roundw
   case rel=>exact⟨k+1,by omega,by go_num,HQ.out,hb⟩
   case measure=>simp[intOf];omega
theorem Dy (cs:Array Value):(Builtin.zeroCells cs 1).toList=cs.toList:=by
 unfold Builtin.zeroCells;rw[Nat.one_mul];apply List.ext_getElem
 ·simp
 ·intro i h1 h2;have hi:i<cs.size:=by simpa using h2
  simp[Nat.mod_eq_of_lt hi,hi]
theorem O4 {P:Program} (w:World) (t e ty:TypeId) (z:Value) (ht:P.underlying t=some (.slice e)) (hv:∀w,(zeroValue e).run P w=.ok z w) (h1:∀u∈z.cells.toList,u.oneCell'=true) (b o c:Nat)
  (hc:∀j,j<z.cells.size->(w.cell? ⟨b,o+j,none⟩).isSome=true) (hf:∀j,j<z.cells.size->w.frozen? ⟨b,o+j,none⟩=false) :
  (Builtin.clear_ #[t] ty #[.slice (some ⟨b,o,none⟩) 1 c]).run P w=.ok (.tuple #[]) (w.setCells b o z.cells.toList):=by
 have hst:=run_storeCells_cells (P:=P) b o z.cells.toList 0 w (by simpa using hc) (by simpa using hf) h1
 simp only[Nat.add_zero] at hst;simp[Builtin.clear_,run_underlying ht,hv,Dy,hst]
theorem Ux (b:Nat) {t:TypeId}:∀(vs:List Value) (o:Nat) (w:World) (cur:Array Value),w.heap[b]?=some (.cells cur t (0,0))->o+vs.length<=cur.size->
  ∃cur',(w.setCells b o vs).heap[b]?=some (.cells cur' t (0,0))/\cur'.size=cur.size
 | [],o,w,cur,h,_=>⟨cur,h,rfl⟩
 | v::r,o,w,cur,h,hl=>by
  have h1:(w.setCell ⟨b,o,none⟩ v).heap[b]?=some (.cells (cur.setIfInBounds o v) t (0,0)):=by
   obtain⟨hlt,hk⟩:=Ag.1 h;show (w.heap.modify b _)[b]?=_;rw[Array.getElem?_eq_getElem (by rw[Array.size_modify];exact hlt),Array.getElem_modify_self,hk]
   simp
  obtain⟨cur',e1,e2⟩:=Ux b r (o+1) _ _ h1 (by simp at hl ⊢;omega)
  exact⟨cur',e1,by rw[e2];simp⟩
theorem ZcG (g n cp k:Nat) (cur:Array Value) (xs:List Lot) (w:World) (hn:xs.length=n) (hk:k<n) (hcap:n<=cp) (hH:w.heap[g]?=some (.cells cur 130 (0,0))) (hsz:n*7<=cur.size) (ht:cur.toList.take (n*7)=Ye xs) :
  Calls prog 214 #[.slice (some ⟨g,0,none⟩) n cp,.int .i64 (k:Int),.int .i64 ((k:Int)+1)] w fun e w'=>e=.returned (.slice (some ⟨g,0,none⟩) (n-1) cp)/\Yo w' g (xs.eraseIdx k)/\Zq (fun b=>b=g) w w':=by
 have hlt:=(Ag.1 hH).1;have hcell:∀j,j<cur.size->w.cell? ⟨g,j,none⟩=cur[j]?:=fun j _=>Zg hH j
 have hrow:∀j,j<n*7->w.cell? ⟨g,j,none⟩=(Ye xs)[j]?:=fun j hj=>by
  rw[hcell j (by omega),<-ht,List.getElem?_take,if_pos hj,Array.getElem?_toList]
 have hfr:∀j,w.frozen? ⟨g,j,none⟩=false:=fun j=>Zn hH j
 obtain⟨i0,e0,e1,e2,e3⟩:=info_parts U1;obtain⟨news,hnews⟩:∃news,news=(Ye xs).drop ((k+1)*7):=⟨_,rfl⟩
 have hlen:news.length=(n-(k+1))*7:=by rw[hnews,List.length_drop,V3,hn,Nat.sub_mul]
 obtain⟨A,hA,hsrc⟩:∃A:Addr,(if cp=k+1 then (some ⟨g,0,none⟩:Option Addr) else some ⟨g,(k+1)*7,none⟩)=some A/\Hid (∀t u,news[t]?=some u->w.drew.cell? (A.add t)=some u):=by
  by_cases h:cp=k+1
  ·refine⟨⟨g,0,none⟩,by rw[if_pos h],fun t u hu=>?_⟩
   have h0:news.length=0:=by
    rw[hlen];have:n-(k+1)=0:=by omega
    rw[this,Nat.zero_mul]
   rw[List.length_eq_zero_iff.1 h0] at hu;simp at hu
  ·refine⟨⟨g,(k+1)*7,none⟩,by rw[if_neg h],fun t u hu=>?_⟩
   have htl:=(Lg.1 hu).1;rw[Lib.add_plain];show w.cell? _=_;rw[hrow _ (by rw[hlen,Nat.sub_mul] at htl;omega),<-hu,hnews,List.getElem?_drop]
 have s2:Hid (∀u∈news,u.oneCell'=true):=fun u hu=>by
  rw[hnews] at hu;exact V4 xs u (List.mem_of_mem_drop hu)
 have s3:Hid (∀t,t<news.length->(w.drew.cell? ⟨g,0+k*7+t,none⟩).isSome=true/\w.drew.frozen? ⟨g,0+k*7+t,none⟩=false):=fun t ht2=>by
  rw[hlen,Nat.sub_mul] at ht2;refine⟨?_,hfr _⟩;show (w.cell? _).isSome=true;rw[hcell _ (by omega),Array.getElem?_eq_getElem (by omega)];rfl
 obtain⟨W1,hW1⟩:∃W1,W1=w.drew.setCells g (0+k*7) news:=⟨_,rfl⟩
 have hH0:w.drew.heap[g]?=some (.cells cur 130 (0,0)):=hH;obtain⟨cur1,hH1,hs1⟩:=Ux g news (0+k*7) w.drew cur hH0 (by rw[hlen,Nat.sub_mul];omega)
 rw[<-hW1] at hH1;have hz:∀w,(zeroValue 130).run prog w=.ok (Value.agg #[.string ⟨#[]⟩,.string ⟨#[]⟩,.int .i64 0,.int .i64 0,.string ⟨#[]⟩,.string ⟨#[]⟩,.string ⟨#[]⟩]) w:=zeroValue130
 have hcl:∀ty,(Builtin.clear_ #[44] ty #[.slice (some ⟨g,(n-1)*7,none⟩) 1 (cp-(n-1))]).run prog W1=.ok (.tuple #[]) (W1.setCells g ((n-1)*7) (Value.agg #[.string ⟨#[]⟩,.string ⟨#[]⟩,.int .i64 0,.int .i64 0,.string ⟨#[]⟩,.string ⟨#[]⟩,.string ⟨#[]⟩]).cells.toList):=
  fun ty=>O4 W1 _ _ ty _ underlying44 hz (by decide) g _ _ (fun j hj=>by
   have hj:j<7:=hj
   rw[Zg hH1,Array.getElem?_eq_getElem (by rw[hs1];omega)];rfl) (fun j _=>Zn hH1 _)
 obtain⟨W2,hW2⟩:∃W2,W2=W1.setCells g ((n-1)*7) (Value.agg #[.string ⟨#[]⟩,.string ⟨#[]⟩,.int .i64 0,.int .i64 0,.string ⟨#[]⟩,.string ⟨#[]⟩,.string ⟨#[]⟩]).cells.toList:=⟨_,rfl⟩
 have hlE:(xs.eraseIdx k).length=n-1:=by rw[List.length_eraseIdx_of_lt (by omega),hn]
 obtain⟨cur2,hH2,hs2⟩:=Ux g (Value.agg #[.string ⟨#[]⟩,.string ⟨#[]⟩,.int .i64 0,.int .i64 0,.string ⟨#[]⟩,.string ⟨#[]⟩,.string ⟨#[]⟩]).cells.toList ((n-1)*7) W1 cur1 hH1 (by show (n-1)*7+7<=_;rw[hs1];omega)
 rw[<-hW2] at hH2;have key:∀i x,(xs.eraseIdx k)[i]?=some x->∀r,r<7->W2.cell? ⟨g,i*7+r,none⟩=(lcs x)[r]?:=by
  intro i x hx r hr;have hil:=(Lg.1 hx).1;rw[hlE] at hil;rw[hW2,World.cell?_setCells_out g _ _ _ _ (fun _ _=>.inl (by show i*7+r<_;omega))]
  rw[hW1]
  by_cases hik:i<k
  ·rw[World.cell?_setCells_out g _ _ _ _ (fun _ _=>.inl (by show i*7+r<_;omega))]
   show w.cell? _=_;rw[List.getElem?_eraseIdx_of_lt hik] at hx;rw[hrow _ (by omega),Vx hx r hr]
  ·rw[List.getElem?_eraseIdx_of_ge (by omega)] at hx
   obtain⟨t,rfl⟩:∃t,i=k+t:=⟨i-k,by omega⟩
   have e5:(k+t)*7+r=0+k*7+(t*7+r):=by omega
   have hj:t*7+r<news.length:=by rw[hlen,Nat.sub_mul];omega
   rw[e5,World.cell?_setCells_in g news _ _ (fun j hj=>(s3.out j hj).1) _ hj,<-List.getElem?_eq_getElem hj,hnews,List.getElem?_drop,show (k+1)*7+(t*7+r)=(k+t+1)*7+r by omega,Vx hx r hr]
 have hend:Yo W2 g (xs.eraseIdx k)/\Zq (fun b=>b=g) w W2:=by
  constructor
  ·refine⟨cur2,hH2,?_,by rw[hlE];omega⟩
   apply List.ext_getElem?;intro j;rw[List.getElem?_take]
   by_cases hj:j<(xs.eraseIdx k).length*7
   ·rw[if_pos hj,Array.getElem?_toList,<-Zg hH2 j];obtain⟨i,r,rfl,hr⟩:∃i r,j=i*7+r/\r<7:=⟨j / 7,j % 7,by omega,by omega⟩
    have hi:i<(xs.eraseIdx k).length:=by omega
    have hx:=List.getElem?_eq_getElem hi;rw[key i _ hx r hr,Vx hx r hr]
   ·rw[if_neg hj,List.getElem?_eq_none (by rw[V3];omega)]
  ·have h0:Zq (fun b=>b=g) w w.drew:=⟨rfl,rfl,rfl,Nl _,fun _ _ _=>rfl⟩
   rw[hW2,hW1];exact (h0.trans (ZQ (X:=fun b=>b=g) rfl _ _ _)).trans (ZQ (X:=fun b=>b=g) rfl _ _ _)
 clear key hH2 hs2 hlE;have HE:=Lh hend;have s1:Hid (news.length=(n-(k+1))*7):=hlen;have hW:Hid (W1=w.drew.setCells g (0+k*7) news):=hW1;have hX:Hid (W2=W1.setCells g ((n-1)*7) (Value.agg #[.string ⟨#[]⟩,.string ⟨#[]⟩,.int .i64 0,.int .i64 0,.string ⟨#[]⟩,.string ⟨#[]⟩,.string ⟨#[]⟩]).cells.toList):=hW2;simp only[<-hX.out] at hcl;have HK:Hid (k+(n-(k+1))=n-1):=by show _=_;omega
 have hcl2:∀ty,(Builtin.clear_ #[44] ty #[.slice (some ⟨g,(k+(n-(k+1)))*7,none⟩) (n-(k+(n-(k+1)))) (cp-(k+(n-(k+1))))]).run prog W1=.ok (.tuple #[]) W2:=fun ty=>by rw[HK.out,show n-(n-1)=1 by omega];exact hcl ty
 clear hcl;have hic:k<=cp:=by omega
 have hk0:(0:Int)<=(k:Int)+1:=by omega
 have hkn:(k:Int)+1<=(n:Int):=by omega
 have mixed:prog.follows .mixedOrders=true:=by kernel_rfl
 have hjc:k+1<=cp:=by omega
 clear hend hW1 hW2 hH1 hH hH0 hs1 hcell hrow hfr hnews hlen hz ht hsz hlt hn;go_enter func214,ntmps214;go_wp2_with fail
 go_region_law_o (refine step_append_room rfl (.tmp 22) (.tmp 25) 44 rfl 130 i0 7 underlying44 e0 e2 g 0 k cp (by simp[Act.eval,Act.put]) A (n-(k+1)) (cp-(k+1)) news (by simp[Act.eval,Act.put]) s1.out hsrc.out s2.out (by omega) s3.out ?_;rw[<-hW.out])
 go_wp2;go_ret;exact⟨by rw[HK.out];rfl,HE.out⟩
def WM (w:World) (B:Nat) (v:Value) (xs:List Lot):Prop:=w.ownsRow B 130 7 v xs.length (Ye xs)
section
variable {w w':World} {B b i:Nat} {u v v':Value} {xs:List Lot}
theorem WM.below (h:WM w B v xs) (hb:Below w.heap.size w w'):WM w' B v xs:=by
 refine⟨h.1,?_⟩;rcases h.2 with h2|⟨g,cap,cur,e,hB,hg,r⟩
 ·exact .inl h2
 ·exact .inr ⟨g,cap,cur,e,hB,(hb.block g (Ag.1 hg).1).trans hg,r⟩
theorem WM.keepX {X:Nat->Prop} (h:WM w B v xs) (hb:Zq X w w') (hx:∀g,v.ownBlock=some g->¬X g):WM w' B v xs:=by
 refine⟨h.1,?_⟩;rcases h.2 with h2|⟨g,cap,cur,e,hB,hg,r⟩
 ·exact .inl h2
 ·exact .inr ⟨g,cap,cur,e,hB,(hb.block g (Ag.1 hg).1 (hx g (by rw[e];rfl))).trans hg,r⟩
theorem WM.block (h:WM w B v xs):∀g,v.ownBlock=some g->B<=g/\g<w.heap.size:=World.ownsRow.lt h
theorem WM.form (h:WM w B v xs):∃A c,v=.slice A xs.length c:=by
 rcases h.2 with ⟨e,hn⟩|⟨g,cap,cur,e,-⟩
 ·exact⟨none,0,by rw[e,hn]⟩
 ·exact⟨_,_,e⟩
theorem WM.formN {n:Nat} (h:WM w B v xs) (hn:xs.length=n):∃A c,v=.slice A n c:=by rw[<-hn];exact h.form
theorem WM.row (h:WM w B v xs) (h0:0<xs.length):∃g c,v=.slice (some ⟨g,0,none⟩) xs.length c/\B<=g/\xs.length<=c/\Yo w g xs:=by
 rcases h.2 with ⟨hv,h1⟩|⟨g,cap,cur,hv,hb,hh,hcap,_,hsz,htk⟩
 ·omega
 ·exact⟨g,cap,hv,hb,hcap,cur,hh,htk,by rw[hsz];exact Nat.mul_le_mul_right 7 hcap⟩
theorem WM.lotAt (h:WM w B v xs) {A:Option Addr} {n c:Nat} (e:v=.slice A n c):Yc w A xs:=by
 by_cases h0:0<xs.length
 ·obtain⟨g,c',e2,-,-,hp⟩:=h.row h0;rw[e] at e2;injection e2 with e2
  subst e2;exact hp.lotAt
 ·have:xs=[]:=List.eq_nil_of_length_eq_zero (by omega)
  subst this;exact fun i x hx=>by simp at hx
end
theorem Dz (w:World) (B:Nat):WM w B (.slice none 0 0) []:=World.ownsRow_nil w B _ 7
theorem WM.app {w:World} {B n:Nat} {v:Value} {xs:List Lot} {x:Lot} (h:w.ownsRow B 130 7 v (n+1) (Ye xs++lcs x)) (hn:xs.length=n):WM w B v (xs++[x]):=by
 unfold WM;rw[List.length_append,List.length_singleton,hn,Np];exact h
theorem TP {α:Type} {xs:List α} {k n:Nat} (hn:xs.length=n) (hk:k<n):(xs.eraseIdx k).length=n-1:=by rw[List.length_eraseIdx_of_lt (by omega),hn]
theorem DC (A:Option Addr) (ps:List Lot) (n c:Nat) (w:World) (hn:ps.length=n) (h0:0<n) (hn2:n<=1000000) (h:Yc w A ps) :
  Calls prog 58 #[.slice A n c] w fun e w'=>∃v,e=.returned v/\WM w' w.heap.size v ps/\Below w.heap.size w w':=by
 obtain⟨x0,hx0⟩:∃x,ps[0]?=some x:=⟨_,List.getElem?_eq_getElem (by omega)⟩
 obtain⟨b,o,rfl,hbs,-⟩:=h 0 x0 hx0;obtain⟨i0,e0,e1,e2,e3⟩:=info_parts U1;refine (AnyE.slices_Clone Tryz.cloneLt i0 _ 7 96 e0 e1 e2 e3 rfl (by decide) sizeOf130 b o n c (Ye ps) w (by rw[V3,hn]) (by unfold maxLen;omega) (by omega) (fun j u hu=>?_) (V4 ps)).mono ?_
 ·obtain⟨x,h1,h2⟩:=Qz hu;obtain⟨b',o',hA,-,hc⟩:=h (j / 7) x h1;cases hA;have hlt:j % 7<7:=Nat.mod_lt _ (by decide)
  have ej:o+j=o+j / 7*7+j % 7:=by omega
  rw[ej];generalize j % 7=m at *
  match m,hlt with
  | 0,_=>cases h2;exact hc.c0
  | 1,_=>cases h2;exact hc.c1
  | 2,_=>cases h2;exact hc.c2
  | 3,_=>cases h2;exact hc.c3
  | 4,_=>cases h2;exact hc.c4
  | 5,_=>cases h2;exact hc.c5
  | 6,_=>cases h2;exact hc.c6
 ·rintro e w' ⟨v,rfl,hown,-,hb⟩;have hown':w'.ownsRow w.heap.size 130 7 v n (Ye ps):=hown;subst hn;exact⟨v,rfl,hown',hb⟩
structure Aw (xs:List Lot) (ps:List Pk) (k:Nat) (s:List Lot×List Lot):Prop where
 ok:OA s.1 (ps.drop k)
 old:∀p∈ps.drop k,∀y∈s.1,y.id=p.lot->y∈xs
 len:s.1.length<=xs.length
 tak:s.2.length=k
theorem JR {xs:List Lot} {ps:List Pk} (h:OA xs ps):Aw xs ps 0 (xs,[]):=⟨h,fun _ _ _ hy _=>hy,Nl _,rfl⟩
theorem drop_at {α:Type} {ps:List α} {k:Nat} {p:α} (h:ps[k]?=some p):ps.drop k=p::ps.drop (k+1):=by
 obtain⟨hk,rfl⟩:=Lg.1 h;exact List.drop_eq_getElem_cons hk
theorem G4 {xs:List Lot} {ps:List Pk} {k:Nat} {s:List Lot×List Lot} {p:Pk} (h:Aw xs ps k s) (hp:ps[k]?=some p):Aw xs ps (k+1) (stepT s p)/\Yx s (ps.drop k)=Yx (stepT s p) (ps.drop (k+1)):=by
 have hok:=h.ok;have hold:=h.old;rw[drop_at hp] at hok hold;obtain⟨h1,h2,-,-,-,h6⟩:=LE (xs:=s.1) (t:=s.2) hok;have hnd:=hok.pnd;rw[List.map_cons,List.nodup_cons] at hnd;refine⟨⟨h1,fun r hr y hy e=>hold r (List.mem_cons_of_mem _ hr) y (h6 y hy (fun e2=>hnd.1 (List.mem_map.2 ⟨r,hr,e ▸ e2⟩))) e,Nt h2.len h.len,?_⟩,by rw[drop_at hp];rfl⟩
 have h3:=congrArg List.length h2.qs;simp only[List.length_map,List.length_append,List.length_cons,List.length_nil] at h3
 have:=h.tak
 show (stepT (s.1,s.2) p).2.length=_;omega
theorem VH (w1:World) (a b:Obj):((w1.alloc a).alloc b).heap[w1.heap.size]?=some a/\((w1.alloc a).alloc b).heap[w1.heap.size+1]?=some b/\Below w1.heap.size w1 ((w1.alloc a).alloc b)/\((w1.alloc a).alloc b).heap.size=w1.heap.size+2:=by
 have h1:=ZG w1 a;have h2:=ZG (w1.alloc a) b;have hb1:=Zb w1 a;have hb2:=Zb (w1.alloc a) b;have e:(w1.alloc a).heap.size=w1.heap.size+1:=by simp
 rw[e] at h2;exact⟨Zt h1 hb2,h2,bto hb1 hb2,by simp⟩
structure Si (w:World) (B g cp:Nat) (s:List Lot×List Lot) (v:Value) (W:World):Prop where
 below:Below w.heap.size w W
 lo:w.heap.size<=g
 gb:g<B
 le:B<=W.heap.size
 row:Yo W g s.1
 cap:s.1.length<=cp
 tak:WM W B v s.2
theorem Si.go {w W W':World} {B g cp:Nat} {s:List Lot×List Lot} {v:Value} (h:Si w B g cp s v W) (hb:Below W.heap.size W W'):Si w B g cp s v W':=
 ⟨bto h.below hb,h.lo,h.gb,Nt h.le hb.size,h.row.below hb,h.cap,h.tak.below hb⟩
theorem Si.app {w W W':World} {B g cp n:Nat} {s:List Lot×List Lot} {v v':Value} {x:Lot} (h:Si w B g cp s v W) (hn:s.2.length=n) (ho:W'.ownsRow B 130 7 v' (n+1) (Ye s.2++lcs x)) (hg:W.grownBy W' v.ownBlock):Si w B g cp (s.1,s.2++[x]) v' W':=by
 have hov:∀k,v.ownBlock=some k->B<=k:=fun k hk=>(h.tak.block k hk).1
 have hgb:=h.gb;have hlo:=h.lo;refine⟨h.below.grown hg h.below.size (fun k hk=>by have:=hov k hk;omega),h.lo,h.gb,Nt h.le hg.size,?_,h.cap,WM.app ho hn⟩
 obtain⟨cur,hc,hr⟩:=h.row;exact⟨cur,(hg.block g (Ag.1 hc).1 (fun e=>by have:=hov g e.symm;omega)).trans hc,hr⟩
theorem Si.turn {w W W':World} {B g cp:Nat} {s:List Lot×List Lot} {l:List Lot} {v:Value} (h:Si w B g cp s v W) (hx:Zq (fun b=>b=g) W W') (hr:Yo W' g l) (hl:l.length<=s.1.length):Si w B g cp (l,s.2) v W':=by
 have hgb:=h.gb;have hlo:=h.lo;refine⟨⟨hx.os.trans h.below.os,hx.tape.trans h.below.tape,hx.output.trans h.below.output,Nt h.below.size hx.size,fun k hk=>?_⟩,h.lo,h.gb,Nt h.le hx.size,hr,Nt hl h.cap,h.tak.keepX hx (fun k hk e=>by have:=(h.tak.block k hk).1;omega)⟩
 have:=h.below.size
 exact (hx.block k (by omega) (by omega)).trans (h.below.block k hk)
theorem Zb4 {w:World} {A Ap:Option Addr} {xs:List Lot} {ps:List Pk} {n np:Nat} (c cp:Nat) (hG:GE w) (hL:Yf w A xs n) (hn0:0<n) (hV:YM xs=0) (hP:WB w Ap ps) (hpn:ps.length=np) (hpc:np<=cp) (hpn2:np<=100000) (hps:∀p∈ps,p.lot.length<=1000/\p.q.length<=1000) (hQ:VO xs [] ps=0) (hok:OA xs ps) :
  Calls prog 168 #[.slice A n c,.slice Ap np cp] w fun e w'=>∃g cr v B,e=.returned (.tuple #[.slice (some ⟨g,0,none⟩) (Yx (xs,[]) ps).1.length cr,v,.int .i64 0])/\Si w B g cr (Yx (xs,[]) ps) v w':=by
 obtain⟨Z,hZ⟩:∃Z,Z=Yx (xs,[]) ps:=⟨_,rfl⟩
 rw[<-hZ];have HZ:Hid (Z=Yx (xs,[]) (ps.drop 0)):=hZ;clear hZ;have hn2:=hL.big;have hvs:∀x∈xs,UK x=0:=by
  unfold YM at hV
  by_cases h1:1000<xs.length
  ·rw[if_pos h1] at hV;exact absurd hV (by decide)
  ·rw[if_neg h1] at hV;exact (P6 _ _ hV).1
 have K1:=Lh (Tm c hG hL);rw[hV] at K1;have HL:=Lh hL;have HP:=Lh hP;have HPS:=Lh hps;have HVS:=Lh hvs;have hp1:ps.length<=np:=by omega
 have hp2:np<=ps.length:=by omega
 have HI:=Lh (JR hok);have HG:=Lh hG;have HPN:=Lh hpn;have HQ:=Lh hQ;clear hL hP hps hV hvs hok hQ hpn;go_enter func168,ntmps168;go_wp2_with fail
 refine K1.out.mono ?_
 rintro e w1 ⟨rfl,hb1⟩;clear K1;have K2:=Lh (G3 (w:=w1) c cp (hG.below hb1) (HL.out.below hb1) (HP.out.below hb1) HPN.out hpc hpn2 (fun p hp=>⟨(HPS.out p hp).1,by have:=(HPS.out p hp).2;omega⟩))
 rw[HQ.out] at K2;go_wp2_with fail
 refine K2.out.mono ?_
 rintro e w2 ⟨rfl,hb2⟩;replace hb2:=bto hb1 hb2;clear K2 hb1;have K3:=Lh (DC A xs n c w2 HL.out.len hn0 (by omega) ((HL.out.below hb2).mem))
 go_wp2_with fail
 refine K3.out.mono ?_
 rintro e w3 ⟨v0,rfl,hrow,hb3⟩;clear K3;obtain⟨g,cr,rfl,hgB,hgc,hlr⟩:=hrow.row (by rw[HL.out.len];exact hn0)
 obtain⟨B,hB⟩:∃B,B=w3.heap.size:=⟨_,rfl⟩
 have hb23:=bto hb2 hb3;have HC:Hid (Si w B g cr (xs,[]) (.slice none 0 0) w3):=⟨hb23,Nt hb2.size hgB,by rw[hB];exact hlr.lt,by rw[hB];exact Nl _,hlr,hgc,Dz _ _⟩
 clear hrow hb2 hb3 hb23 hlr hgB hgc hB;go_wp2_with fail
 go_loopw [8,9,11,12,13,14,15,16,17,31,35,60] (fun rv tv _ _ _ _ _ _ _ iv _ _ wr=>∃(k:Nat) (s:List Lot×List Lot) (v:Value),k<=np/\v=tv/\iv=.int .i64 (k:Int)/\rv=.slice (some ⟨g,0,none⟩) s.1.length cr/\Hid (Si w B g cr s v wr)/\Hid (Aw xs ps k s)/\Hid (Z=Yx s (ps.drop k))) (fun _ _ _ _ _ _ _ _ _ iv _ _ _=>np-(intOf iv).toNat)
 case atStart=>exact⟨0,(xs,[]),_,Nat.zero_le _,rfl,rfl,rfl,HC.out,HI.out,HZ.out⟩
 case round=>
  clear HC HI HZ;obtain⟨k,s,v,hk,rfl,rfl,rfl,HC,HI,HZ⟩:=hrel
  by_cases hlk:k<np
  rotate_left
  ·have HQ:Hid (Z=s):=by
    have h:=HZ.out;rw[List.drop_of_length_le (by omega)] at h
    exact h
   have e1:decide (k<np)=false:=Df hlk;have e2:decide ((k:Int)<(np:Int))=false:=Df (by omega)
   have hfin:=HC.out;rw[<-HQ.out] at hfin;have HF:=Lh hfin;rw[<-HQ.out];clear HZ HC HI hfin;go_wp2;refine bodyPost_ret (v:=.tuple #[.slice (some ⟨g,0,none⟩) Z.1.length cr,v,.int .i64 0]) (by simp[results,results168,go_sem]) rfl ?_
   exact⟨g,cr,_,B,rfl,HF.out⟩
  have e1:decide (k<np)=true:=Dt hlk;have e2:decide ((k:Int)<(np:Int))=true:=Dt (by omega)
  obtain⟨p,hp⟩:∃p,ps[k]?=some p:=⟨_,List.getElem?_eq_getElem (by have:=HPN.out;omega)⟩
  have hpz:=HPS.out p (Lm hp);have hsl:=HI.out.len;have hst:=HI.out.tak;have hLn:=HL.out.len;have hok:=HI.out.ok;have hold:=HI.out.old;obtain⟨hI2,hZ2⟩:=G4 HI.out hp;have HI2:=Lh hI2;have HZ2:=Lh (HZ.out.trans hZ2);rw[drop_at hp] at hok hold;obtain⟨i,x,hzi,hxi,hxid,hxq,hle,hes⟩:=LD (xs:=s.1) (t:=s.2) (hok.all p List.mem_cons_self) hok.nd;have hpk:=hok.all p List.mem_cons_self;have hpc2:=hpk.can;have hpp:=hpk.pos;have hxin:=hold p List.mem_cons_self x (Lm hxi) hxid;have hxs:=HL.out.sm x hxin;have hxe:=HVS.out x hxin;have hiN:i<s.1.length:=Dx hxi;have HES:Hid (stepT s p=if x.q=p.q then (s.1.eraseIdx i,s.2++[x]) else (s.1.set i (WL x p.q),s.2++[Vb x p.q])):=hes
  obtain⟨m,hm⟩:∃m,m=s.1.length:=⟨_,rfl⟩
  rw[<-hm] at hiN hsl ⊢;have hmc:m<=cr:=by rw[hm];exact HC.out.cap
  obtain⟨bp,op,rfl,hbps,p0,p1⟩:=(HP.out.below HC.out.below) k p hp;have hbA:=Zb wr (.cells #[.string ⟨p.lot.toArray⟩,.string ⟨p.q.toArray⟩] 195);have X1:=Lh (Blk.new wr #[.string ⟨p.lot.toArray⟩,.string ⟨p.q.toArray⟩] 195);have q0:=X1.out.c 0;replace HC:=Lh (HC.out.go hbA);have KF:=Lh (Zas cr p.lot hm.symm (by omega) HC.out.row.lotAt)
  have hpos:EZ (ZW (isLt p.lot) s.1 0)=(i:Int):=by rw[hzi];exact if_pos (by omega)
  have hdec:decide (0<=ZW (isLt p.lot) s.1 0)=true:=Dt (by rw[hzi];omega)
  rw[hpos,hdec] at KF;have HXI:=Lh hxi;have HXQ:=Lh hxq;have HPC:=Lh hpc2;have HXE:=Lh hxe;have HHL:=Lh hle;have HPP:=Lh hpp;clear hxq hpc2 hxid hxe hle hpp;obtain⟨bx,hbx⟩:∃bx,bx=wr.heap.size:=⟨_,rfl⟩
  rw[<-hbx] at X1 q0;have HBX:=Lh hbx;have HM:=Lh hm;have hkc:(k:Int)<=(cp:Int):=by omega
  clear hp hbA HZ HI hI2 hZ2 hok hold hzi hxi hes hpk hxin hbx hm hpos hdec hbps;go_wp2_with fail;rw[<-HBX.out]
  refine KF.out.mono ?_
  rintro e w4 ⟨rfl,hb4⟩;clear p0 p1 q0 KF e1 e2;replace X1:=Lh (X1.out.below hb4);replace HC:=Lh (HC.out.go hb4);clear hb4;have hcells:=HC.out.row.cells HXI.out;have p0:=hcells.c0;have p1:=hcells.c1;have p2:=hcells.c2;have p3:=hcells.c3;have p4:=hcells.c4;have p5:=hcells.c5;have p6:=hcells.c6;have hbA:=Zb w4 (.cells #[.string ⟨x.id.toArray⟩,.string ⟨x.ins.toArray⟩,.int .i64 x.acq,.int .i64 x.opn,.string ⟨x.q.toArray⟩,.string ⟨x.cost.toArray⟩,.string ⟨x.used.toArray⟩] 130);have Y1:=Lh (YS.new w4 x 130);obtain⟨by0,hby⟩:∃b,b=w4.heap.size:=⟨_,rfl⟩
  rw[<-hby] at Y1;have HBY:=Lh hby;have q0:=Y1.out.c0;have q1:=Y1.out.c1;have q2:=Y1.out.c2;have q3:=Y1.out.c3;have q4:=Y1.out.c4;have q5:=Y1.out.c5;have q6:=Y1.out.c6;have r1:=(X1.out.below hbA).c 1;have HC2:=Lh (HC.out.go hbA);have HCZ:Hid (B<=w4.heap.size):=HC.out.le;have X2:=Lh (X1.out.below hbA);clear hcells hby;obtain⟨i0,hi,hz0,hz1,hz2⟩:=info_parts U1;have hmb:m<=100000:=by omega
  have hkb:k<100000:=by omega
  have HOW:Hid ((w4.alloc (.cells #[.string ⟨x.id.toArray⟩,.string ⟨x.ins.toArray⟩,.int .i64 x.acq,.int .i64 x.opn,.string ⟨x.q.toArray⟩,.string ⟨x.cost.toArray⟩,.string ⟨x.used.toArray⟩] 130)).ownsRow B 130 7 v k (Ye s.2)):=by
   have h:=HC2.out.tak;unfold WM at h;rw[hst] at h;exact h
  have HST:=Lh hst
  by_cases g1:x.q=p.q
  ·have t1:(x.q==p.q)=true:=by rw[g1];simp
   have HE1:Hid (stepT s p=(s.1.eraseIdx i,s.2++[x])):=HES.out.trans (if_pos g1);have hbq:=Zb (w4.alloc (.cells #[.string ⟨x.id.toArray⟩,.string ⟨x.ins.toArray⟩,.int .i64 x.acq,.int .i64 x.opn,.string ⟨x.q.toArray⟩,.string ⟨x.cost.toArray⟩,.string ⟨x.used.toArray⟩] 130)) (.cells #[.string ⟨x.id.toArray⟩,.string ⟨x.ins.toArray⟩,.int .i64 x.acq,.int .i64 x.opn,.string ⟨x.q.toArray⟩,.string ⟨x.cost.toArray⟩,.string ⟨x.used.toArray⟩] 130);have HAN:Hid (((w4.alloc (.cells #[.string ⟨x.id.toArray⟩,.string ⟨x.ins.toArray⟩,.int .i64 x.acq,.int .i64 x.opn,.string ⟨x.q.toArray⟩,.string ⟨x.cost.toArray⟩,.string ⟨x.used.toArray⟩] 130)).alloc (.cells #[.string ⟨x.id.toArray⟩,.string ⟨x.ins.toArray⟩,.int .i64 x.acq,.int .i64 x.opn,.string ⟨x.q.toArray⟩,.string ⟨x.cost.toArray⟩,.string ⟨x.used.toArray⟩] 130)).heap[w4.heap.size+1]?=some (.cells #[.string ⟨x.id.toArray⟩,.string ⟨x.ins.toArray⟩,.int .i64 x.acq,.int .i64 x.opn,.string ⟨x.q.toArray⟩,.string ⟨x.cost.toArray⟩,.string ⟨x.used.toArray⟩] 130)):=by
    have h:=ZG (w4.alloc (.cells #[.string ⟨x.id.toArray⟩,.string ⟨x.ins.toArray⟩,.int .i64 x.acq,.int .i64 x.opn,.string ⟨x.q.toArray⟩,.string ⟨x.cost.toArray⟩,.string ⟨x.used.toArray⟩] 130)) (.cells #[.string ⟨x.id.toArray⟩,.string ⟨x.ins.toArray⟩,.int .i64 x.acq,.int .i64 x.opn,.string ⟨x.q.toArray⟩,.string ⟨x.cost.toArray⟩,.string ⟨x.used.toArray⟩] 130);rw[show (w4.alloc (.cells #[.string ⟨x.id.toArray⟩,.string ⟨x.ins.toArray⟩,.int .i64 x.acq,.int .i64 x.opn,.string ⟨x.q.toArray⟩,.string ⟨x.cost.toArray⟩,.string ⟨x.used.toArray⟩] 130)).heap.size=w4.heap.size+1 by simp] at h
    exact h
   have HAZ:Hid (((w4.alloc (.cells #[.string ⟨x.id.toArray⟩,.string ⟨x.ins.toArray⟩,.int .i64 x.acq,.int .i64 x.opn,.string ⟨x.q.toArray⟩,.string ⟨x.cost.toArray⟩,.string ⟨x.used.toArray⟩] 130)).alloc (.cells #[.string ⟨x.id.toArray⟩,.string ⟨x.ins.toArray⟩,.int .i64 x.acq,.int .i64 x.opn,.string ⟨x.q.toArray⟩,.string ⟨x.cost.toArray⟩,.string ⟨x.used.toArray⟩] 130)).heap.size=w4.heap.size+2):=by show _=_;simp
   clear g1 HES HC hbA hsl hLn hst;go_wp2_with (at_builtin;refine ZN rfl _ _ 44 rfl B 130 i0 (.agg #[.string ⟨#[]⟩,.string ⟨#[]⟩,.int .i64 0,.int .i64 0,.string ⟨#[]⟩,.string ⟨#[]⟩,.string ⟨#[]⟩]) 7 96 underlying44 hi hz0 hz1 hz2 rfl (by decide) _ _ _ rfl (Z0 HOW.out hbq) ⟨w4.heap.size+1,0,none⟩ 1 1 (lcs x) rfl rfl ?c1 ?c2 ?c3 ?c4 ?c5 ?_)
   case c1=>
    intro j u hu;have hj:j<7:=VP hu
    match j,hj with
    | 0,_=>cases hu;exact Zg HAN.out 0
    | 1,_=>cases hu;exact Zg HAN.out 1
    | 2,_=>cases hu;exact Zg HAN.out 2
    | 3,_=>cases hu;exact Zg HAN.out 3
    | 4,_=>cases hu;exact Zg HAN.out 4
    | 5,_=>cases hu;exact Zg HAN.out 5
    | 6,_=>cases hu;exact Zg HAN.out 6
   case c2=>exact fun u hu=>V4 [x] u (by rw[We];exact hu)
   case c3=>unfold maxLen;omega
   case c4=>omega
   case c5=>have:=HCZ.out;have:=HAZ.out;omega
   intro v' w5 hown' hgrow hfresh;have HC3:=Lh ((HC2.out.go hbq).app HST.out hown' hgrow);obtain⟨cur,hcur,hct,hcs⟩:=HC3.out.row;rw[<-HM.out] at hct hcs;have KD:=Lh (ZcG g m cr i cur s.1 w5 HM.out.symm hiN hmc hcur hcs hct);clear hown' hgrow hfresh hcur hct hcs HC2 HOW hbq p0 p1 p2 p3 p4 p5 p6 q0 q1 q2 q3 q4 q5 q6 r1 t1 hi hz0 hz1 hz2;go_wp2_with fail
   refine KD.out.mono ?_
   rintro e w6 ⟨rfl,hlr,hbx⟩;have HC4:Hid (Si w B g cr (stepT s p) v' w6):=by
    rw[HE1.out];exact HC3.out.turn hbx hlr (by show (s.1.eraseIdx i).length<=s.1.length;rw[TP HM.out.symm hiN,<-HM.out];omega)
   have hsz:m-1=(stepT s p).1.length:=by rw[HE1.out];exact (TP HM.out.symm hiN).symm
   have HSZ:Hid (∀z,Value.slice (some ⟨g,0,none⟩) (m-1) z=.slice (some ⟨g,0,none⟩) (stepT s p).1.length z):=fun z=>by rw[hsz]
   clear hlr hbx KD HC3 hsz;go_wp2;go_roundw
   case rel=>exact⟨k+1,stepT s p,v',by omega,rfl,by go_num,HSZ.out _,HC4.out,HI2.out,HZ2.out⟩
   case measure=>simp[intOf];omega
  ·have t1:(x.q==p.q)=false:=by simp[g1]
   have HE1:Hid (stepT s p=(s.1.set i (WL x p.q),s.2++[Vb x p.q])):=HES.out.trans (if_neg g1);have hlt:val p.q<val x.q:=by
    rcases Int.lt_or_le (val p.q) (val x.q) with h1|h1
    ·exact h1
    ·exfalso
     have h2:=HHL.out;apply g1;rw[HXQ.out,HPC.out];congr 1;omega
   have KC:=Lh (ZcD hxs HXE.out (q:=p.q) hpz.2 HPC.out HPP.out hlt);obtain⟨xa,hxa⟩:∃xa,xa=Vb x p.q:=⟨_,rfl⟩
   obtain⟨xb,hxb⟩:∃xb,xb=WL x p.q:=⟨_,rfl⟩
   rw[<-hxa,<-hxb] at KC HE1;clear g1 HES HC hbA hlt hxa hxb hsl hLn hst;go_wp2_with fail
   refine (KC.out.of HG.out HC2.out.below).mono ?_
   rintro e w5 ⟨rfl,hb5⟩;clear p0 p1 p2 p3 p4 p5 p6 q0 q1 q2 q3 q4 q5 q6 r1 t1;replace HC2:=Lh (HC2.out.go hb5);replace HOW:=Lh (Z0 HOW.out hb5);have hvb:∀b,v.ownBlock=some b->b<w5.heap.size:=fun b hb=>(HC2.out.tak.block b hb).2
   go_upto_region 17 with fail
   obtain⟨hA1,hA2,hA3,hA4⟩:=VH w5 (.cells #[.string ⟨xa.id.toArray⟩,.string ⟨xa.ins.toArray⟩,.int .i64 xa.acq,.int .i64 xa.opn,.string ⟨xa.q.toArray⟩,.string ⟨xa.cost.toArray⟩,.string ⟨xa.used.toArray⟩] 130) (.cells #[.string ⟨xb.id.toArray⟩,.string ⟨xb.ins.toArray⟩,.int .i64 xb.acq,.int .i64 xb.opn,.string ⟨xb.q.toArray⟩,.string ⟨xb.cost.toArray⟩,.string ⟨xb.used.toArray⟩] 130);obtain⟨w7,hw7⟩:∃w7,w7=(w5.alloc (.cells #[.string ⟨xa.id.toArray⟩,.string ⟨xa.ins.toArray⟩,.int .i64 xa.acq,.int .i64 xa.opn,.string ⟨xa.q.toArray⟩,.string ⟨xa.cost.toArray⟩,.string ⟨xa.used.toArray⟩] 130)).alloc (.cells #[.string ⟨xb.id.toArray⟩,.string ⟨xb.ins.toArray⟩,.int .i64 xb.acq,.int .i64 xb.opn,.string ⟨xb.q.toArray⟩,.string ⟨xb.cost.toArray⟩,.string ⟨xb.used.toArray⟩] 130):=⟨_,rfl⟩
   rw[<-hw7] at hA1 hA2 hA3 hA4 ⊢;obtain⟨ba,hba⟩:∃ba,ba=w5.heap.size:=⟨_,rfl⟩
   rw[<-hba] at hA1 hA2 hA4 hvb ⊢;have q0:=Zg hA1 0;have q1:=Zg hA1 1;have q2:=Zg hA1 2;have q3:=Zg hA1 3;have q4:=Zg hA1 4;have q5:=Zg hA1 5;have q6:=Zg hA1 6;replace HC2:=Lh (HC2.out.go hA3);replace HOW:=Lh (Z0 HOW.out hA3);replace HCZ:=Lh HC2.out.le;have hbq:=Zb w7 (.cells #[.string ⟨xa.id.toArray⟩,.string ⟨xa.ins.toArray⟩,.int .i64 xa.acq,.int .i64 xa.opn,.string ⟨xa.q.toArray⟩,.string ⟨xa.cost.toArray⟩,.string ⟨xa.used.toArray⟩] 130);have HAN:=Lh (ZG w7 (.cells #[.string ⟨xa.id.toArray⟩,.string ⟨xa.ins.toArray⟩,.int .i64 xa.acq,.int .i64 xa.opn,.string ⟨xa.q.toArray⟩,.string ⟨xa.cost.toArray⟩,.string ⟨xa.used.toArray⟩] 130));have HAZ:Hid ((w7.alloc (.cells #[.string ⟨xa.id.toArray⟩,.string ⟨xa.ins.toArray⟩,.int .i64 xa.acq,.int .i64 xa.opn,.string ⟨xa.q.toArray⟩,.string ⟨xa.cost.toArray⟩,.string ⟨xa.used.toArray⟩] 130)).heap.size=w7.heap.size+1):=by show _=_;simp
   have HB2:=Lh hA2;have HVB:=Lh hvb;have HA4:=Lh hA4;clear hw7 hba hA1 hA2 hA3 hA4 hvb hb5;go_wp2_with (at_builtin;refine ZN rfl _ _ 44 rfl B 130 i0 (.agg #[.string ⟨#[]⟩,.string ⟨#[]⟩,.int .i64 0,.int .i64 0,.string ⟨#[]⟩,.string ⟨#[]⟩,.string ⟨#[]⟩]) 7 96 underlying44 hi hz0 hz1 hz2 rfl (by decide) _ _ _ rfl (Z0 HOW.out hbq) ⟨w7.heap.size,0,none⟩ 1 1 (lcs xa) rfl rfl ?c1 ?c2 ?c3 ?c4 ?c5 ?_)
   case c1=>
    intro j u hu;have hj:j<7:=VP hu
    match j,hj with
    | 0,_=>cases hu;exact Zg HAN.out 0
    | 1,_=>cases hu;exact Zg HAN.out 1
    | 2,_=>cases hu;exact Zg HAN.out 2
    | 3,_=>cases hu;exact Zg HAN.out 3
    | 4,_=>cases hu;exact Zg HAN.out 4
    | 5,_=>cases hu;exact Zg HAN.out 5
    | 6,_=>cases hu;exact Zg HAN.out 6
   case c2=>exact fun u hu=>V4 [xa] u (by rw[We];exact hu)
   case c3=>unfold maxLen;omega
   case c4=>omega
   case c5=>have:=HCZ.out;have:=HAZ.out;omega
   intro v' w8 hown' hgrow hfresh;have HC3:=Lh ((HC2.out.go hbq).app HST.out hown' hgrow);have h16:w8.heap[ba+1]?=some (.cells #[.string ⟨xb.id.toArray⟩,.string ⟨xb.ins.toArray⟩,.int .i64 xb.acq,.int .i64 xb.opn,.string ⟨xb.q.toArray⟩,.string ⟨xb.cost.toArray⟩,.string ⟨xb.used.toArray⟩] 130):=by
    have h1:=Zt HB2.out hbq;refine (hgrow.block (ba+1) (Ag.1 h1).1 (fun e=>?_)).trans h1
    have:=HVB.out _ e.symm
    omega
   have q0:=Zg h16 0;have q1:=Zg h16 1;have q2:=Zg h16 2;have q3:=Zg h16 3;have q4:=Zg h16 4;have q5:=Zg h16 5;have q6:=Zg h16 6;have hM2:=HM.out;have HTH:=Lh (HC3.out.row.there (i:=i) (by rw[<-hM2];exact hiN))
   have HIZ:=Lh Tt;obtain⟨w9,hw9⟩:∃w9,w9=w8.setCells g (i*7) (#[.string ⟨xb.id.toArray⟩,.string ⟨xb.ins.toArray⟩,.int .i64 xb.acq,.int .i64 xb.opn,.string ⟨xb.q.toArray⟩,.string ⟨xb.cost.toArray⟩,.string ⟨xb.used.toArray⟩]).toList:=⟨_,rfl⟩
   have HW9:=Lh hw9;have HC4:Hid (Si w B g cr (stepT s p) v' w9):=by
    rw[HE1.out,hw9];exact HC3.out.turn (ZQ (X:=fun b=>b=g) rfl _ _ _) (HC3.out.row.set xb (by rw[<-hM2];exact hiN)) (Nat.le_of_eq List.length_set)
   have hsz:m=(stepT s p).1.length:=by rw[HE1.out,hM2];exact List.length_set.symm
   have HSZ:Hid (∀z,Value.slice (some ⟨g,0,none⟩) m z=.slice (some ⟨g,0,none⟩) (stepT s p).1.length z):=fun z=>by rw[<-hsz]
   clear hown' hgrow hfresh HC2 HOW hbq h16 HC3 hw9 hsz hM2 hi hz0 hz1 hz2;go_wp2_with (refine wpList_store_mid rfl 130 (.tmp 75) (.tmp 74) rfl g (i*7) #[.string ⟨xb.id.toArray⟩,.string ⟨xb.ins.toArray⟩,.int .i64 xb.acq,.int .i64 xb.opn,.string ⟨xb.q.toArray⟩,.string ⟨xb.cost.toArray⟩,.string ⟨xb.used.toArray⟩] rfl rfl HTH.out (by rw[HIZ.out];rfl) (Uw xb) ?_;rw[<-HW9.out])
   go_roundw
   case rel=>exact⟨k+1,stepT s p,v',by omega,rfl,by go_num,HSZ.out _,HC4.out,HI2.out,HZ2.out⟩
   case measure=>simp[intOf];omega
open Go.Shelf
theorem Vl (p q:Bool) (w:World):Calls prog 229 #[.bool p,.bool q] w fun e w'=>∃u,e=.returned u/\Below w.heap.size w w'/\∃b1 b2,u=.func (.func 286) #[] #[.pointer (some ⟨b1,0,none⟩),.pointer (some ⟨b2,0,none⟩)]/\Blk w' b1 #[.bool p]/\Blk w' b2 #[.bool q]:=by
 refine (Dj p q w).mono ?_;rintro e w' ⟨rfl,rfl⟩;obtain⟨h1,h2,h3,-⟩:=VH w (.cells #[.bool p] 4) (.cells #[.bool q] 4);exact⟨_,rfl,h3,_,_,rfl,⟨_,h1⟩,⟨_,h2⟩⟩
theorem ZcH (p r:Pk) (bx:Nat) (w:World) (h:Blk w bx #[.string ⟨r.lot.toArray⟩,.string ⟨r.q.toArray⟩]) :
  Calls prog 289 #[.agg #[.string ⟨p.lot.toArray⟩,.string ⟨p.q.toArray⟩],.pointer (some ⟨bx,0,none⟩)] w fun e w'=>e=.returned (.bool (Z1 r.lot p))/\Below w.heap.size w w':=by
 have hb:=Zb w (.cells #[.string ⟨p.lot.toArray⟩,.string ⟨p.q.toArray⟩] 195);have x1:=Blk.new w #[.string ⟨p.lot.toArray⟩,.string ⟨p.q.toArray⟩] 195;have p0:=x1.c 0;have p1:=(h.below hb).c 0;have HV:Hid (Z1 r.lot p=(p.lot==r.lot)):=rfl;have he:=Tj p.lot r.lot;generalize Z1 r.lot p=R at *;clear h x1;go_enter func289,ntmps289;go_wp2;go_ret;refine⟨ZV ?_,hb⟩;rw[HV.out]<;>first|exact he|rfl
theorem JS (args:Array Value) (w:World):(callFunc 289 args).run prog w=.ok (.enter 289 args) w:=by kernel_rfl
theorem G5 {z v:Int} {M k:Nat} (h:z.natAbs<=k*M) (hv:v.natAbs<=M):(z+v).natAbs<=(k+1)*M:=by
 have h1:=Int.natAbs_add_le z v;rw[Nat.add_mul,Nat.one_mul];omega
theorem LK {z:Int} {k:Nat} (h:z.natAbs<=k*10 ^ 100) (hk:k<=100000):(canon z).length<=100000:=by
 refine Nt (Zl z 106 ?_) (by decide)
 have h2:k*10 ^ 100<=100000*10 ^ 100:=Nat.mul_le_mul_right _ hk;have h3:(100000:Nat)*10 ^ 100<10 ^ 106:=by
  rw[show (106:Nat)=100+6 from rfl,Nat.pow_add,Nat.mul_comm]
  exact Nat.mul_lt_mul_of_pos_left (by decide) (Nat.pow_pos (by decide))
 exact Nat.lt_of_le_of_lt (Nt h h2) h3
theorem ZcI {l:List UInt8} (h:l.length<=100):(val l).natAbs<=10 ^ 100:=Nat.le_of_lt (Zo h)
theorem Za8 {f:Fct} {ps:List Pk} {w:World} (hG:GE w) (hs:OG f) (hp:WB w f.pA ps) (hn:ps.length=f.pN) (hc:f.pN<=f.pC) (hps:∀p∈ps,p.lot.length<=1000/\p.q.length<=100) :
  Calls prog 235 #[.agg (Zi f)] w fun e w'=>(∃E:Int,e=.returned (.int .i64 E)/\(ps=[]->0<=val f.q->E=0))/\Below w.heap.size w w':=by
 have hb0:=Zb w (.cells (Zi f) 48);have x0:Blk (w.alloc (.cells (Zi f) 48)) w.heap.size (Zi f):=Blk.new w _ 48;have q18:(w.alloc (.cells (Zi f) 48)).cell? ⟨w.heap.size,18,none⟩=some (.slice f.pA f.pN f.pC):=x0.c 18;obtain⟨n,hN⟩:∃n,n=f.pN:=⟨_,rfl⟩
 obtain⟨A,hAA⟩:∃A,A=f.pA:=⟨_,rfl⟩
 rw[<-hN] at hn hc q18;rw[<-hAA] at hp q18;have HAA:=Lh hAA;clear hAA;have HQ:=Lh hs.q;have HPS:=Lh hps;have HN:=Lh hn;have HP:=Lh hp;have HG:=Lh hG;clear hs hps hp
 by_cases h64:64<n
 ·have e1:decide (64<n)=true:=Dt h64;have e2:decide (64<(n:Int))=true:=Dt (by omega)
  have HX:Hid (¬ps=[]):=fun h=>by rw[h] at hn;simp at hn;omega
  clear hn hN;go_enter func235,ntmps235;go_wp2;go_ret;exact⟨⟨_,rfl,fun h=>absurd h HX.out⟩,hb0⟩
 have e1:decide (64<n)=false:=Df h64;have e2:decide (64<(n:Int))=false:=Df (by omega)
 have HX0:=Lh x0;clear hn x0;obtain⟨W0,hW0⟩:∃W0,W0=w.alloc (.cells (Zi f) 48):=⟨_,rfl⟩
 have HW0:=Lh hW0;have HNN:=Lh hN;clear hN hW0;go_enter func235,ntmps235;go_wp2_with fail
 go_loopw [3,4,5,6,14] (fun sv _ _ _ iv wr=>∃(k:Nat) (z:Int),k<=n/\sv=.string ⟨List.toArray (canon z)⟩/\iv=.int .i64 (k:Int)/\Hid (z.natAbs<=k*10 ^ 100/\(k=0->z=0))/\Hid (Below w.heap.size w wr)/\Hid (Blk wr w.heap.size (Zi f))) (fun _ _ _ _ iv _=>n-(intOf iv).toNat)
 case atStart=>exact⟨0,0,Nat.zero_le _,rfl,rfl,⟨by simp,fun _=>rfl⟩,hb0,HX0.out⟩
 case round=>
  clear hb0 HX0 q18;obtain⟨k,z,hk,rfl,rfl,HZ,HB,HF⟩:=hrel
  by_cases hlk:k<n
  rotate_left
  ·have e3:decide (k<n)=false:=Df hlk;have e4:decide ((k:Int)<(n:Int))=false:=Df (by omega)
   have q9:wr.cell? ⟨w.heap.size,9,none⟩=some (.string ⟨f.q.toArray⟩):=HF.out.c 9;obtain⟨c,hc⟩:∃c,c=Zy z (val f.q):=⟨_,rfl⟩
   have hq:=HQ.out;have hzl:=LK HZ.out.1 (by omega)
   have CC:=Lh ((ZA (l:=canon z) (l':=f.q) (c:=c) (by omega) (by omega) (by rw[Zh];exact hc.symm)).e)
   have HE:Hid (ps=[]->0<=val f.q->c<=0):=fun h h0=>by
    have h1:=HN.out;rw[h] at h1;have h2:k=0:=by simp at h1;omega
    have h3:=HZ.out.2 h2;rw[hc,h3];unfold Zy
    split
    ·omega
    ·split<;>omega
   have hbq:=HB.out;clear hq hzl hc;go_wp2_with fail
   refine (CC.out.of hG hbq).mono ?_
   rintro e w9 ⟨rfl,hb9⟩
   by_cases h0:0<c
   ·have e5:decide (0<c)=true:=Dt h0;go_wp2;go_ret;exact⟨⟨_,rfl,fun h h1=>absurd h0 (by have:=HE.out h h1;omega)⟩,bto hbq hb9⟩
   ·have e5:decide (0<c)=false:=Df h0;go_wp2;go_ret;exact⟨⟨_,rfl,fun _ _=>rfl⟩,bto hbq hb9⟩
  have e3:decide (k<n)=true:=Dt hlk;have e4:decide ((k:Int)<(n:Int))=true:=Dt (by omega)
  have HE:Hid (¬ps=[]):=fun h=>by
   have h1:=HN.out;rw[h] at h1;simp at h1;omega
  obtain⟨x,hx⟩:∃x,ps[k]?=some x:=⟨_,List.getElem?_eq_getElem (by have:=HN.out;omega)⟩
  obtain⟨b,o,rfl,hbs,p0,p1⟩:=(HP.out.below HB.out) k x hx;obtain⟨hx1,hx2⟩:=HPS.out x (Lm hx);have hbA:=Zb wr (.cells #[.string ⟨x.lot.toArray⟩,.string ⟨x.q.toArray⟩] 195);have y1:Blk (wr.alloc (.cells #[.string ⟨x.lot.toArray⟩,.string ⟨x.q.toArray⟩] 195)) wr.heap.size #[.string ⟨x.lot.toArray⟩,.string ⟨x.q.toArray⟩]:=Blk.new wr _ 195;have hq18:(wr.alloc (.cells #[.string ⟨x.lot.toArray⟩,.string ⟨x.q.toArray⟩] 195)).cell? ⟨w.heap.size,18,none⟩=some (.slice f.pA f.pN f.pC):=(HF.out.below hbA).c 18;rw[<-HNN.out,<-HAA.out] at hq18;have C1:=Lh (ZaR (s:=x.lot) (by omega))
  have HT:=Lh ((HP.out.below (bto HB.out hbA)).take k);have htl:(ps.take k).length=k:=by rw[List.length_take];have:=HN.out;omega
  have HTL:=Lh htl;have HBA:=Lh (bto HB.out hbA);have HFA:=Lh (HF.out.below hbA);have hzb:=G5 HZ.out.1 (ZcI hx2);have HZ2:Hid ((z+val x.q).natAbs<=(k+1)*10 ^ 100/\(k+1=0->z+val x.q=0)):=⟨hzb,fun h=>by omega⟩
  have hzl:=LK HZ.out.1 (by omega)
  have CA:=Lh ((VK (l:=canon z) (l':=x.q) (by omega) (by omega) (z:=z+val x.q) (by rw[Zh])).e)
  have CW:=Lh (My x.q);obtain⟨E2,hE2⟩:∃E2,E2=bwE true false x.q [] (fv x.q []):=⟨_,rfl⟩
  have CB:Hid (∀w' b1 b2,GE w'->Blk w' b1 #[.bool true]->Blk w' b2 #[.bool false]->Calls prog 286 #[.agg #[.string ⟨x.q.toArray⟩,.string ⟨#[]⟩],.pointer (some ⟨b1,0,none⟩),.pointer (some ⟨b2,0,none⟩)] w' fun e w''=>e=.returned (.int .i64 E2)/\Below w'.heap.size w' w''):=fun w' b1 b2 hG' h1 h2=>by
   rw[hE2];exact I5 true false (SH (k:=100) hx2 (by decide) (by decide)) hG' h1 h2
  clear hx hx1 hx2 htl hzb hzl hE2 HZ HF HB;obtain⟨Wp,hWp⟩:∃Wp,Wp=wr.alloc (.cells #[.string ⟨x.lot.toArray⟩,.string ⟨x.q.toArray⟩] 195):=⟨_,rfl⟩
  have q0:Wp.cell? ⟨wr.heap.size,0,none⟩=some (.string ⟨x.lot.toArray⟩):=by rw[hWp];exact y1.c 0
  rw[hWp] at q0;rw[<-hWp] at y1 HT HBA HFA;have HWp:=Lh hWp;have Y1:=Lh y1;clear y1 hWp hbA;go_wp2_with fail;rw[<-HWp.out] at *
  refine (C1.out.of hG HBA.out).mono ?_
  rintro e w2 ⟨rfl,hb2⟩;obtain⟨bl,hbl⟩:∃bl,bl=idB x.lot:=⟨_,rfl⟩
  rw[<-hbl];clear hbl q0 hq18 C1;cases bl with
  | false=>
   go_wp2;go_ret;exact⟨⟨_,rfl,fun h=>absurd h HE.out⟩,bto HBA.out hb2⟩
  | true=>
  have Y2:=Lh (Y1.out.below hb2);have HB2:=Lh (bto HBA.out hb2);have hq18:w2.cell? ⟨w.heap.size,18,none⟩=some (.slice (some ⟨b,o,none⟩) n f.pC):=by
   have h:=(HFA.out.below hb2).c 18;rw[show (Zi f)[18]?=some (.slice f.pA f.pN f.pC) from rfl,<-HNN.out,<-HAA.out] at h
   exact h
  have HF2:=Lh (HFA.out.below hb2);have hT2:=HT.out.below hb2;have C2:=Lh (EY _ JS (Z1 x.lot) #[.pointer (some ⟨wr.heap.size,0,none⟩)] (some ⟨b,o,none⟩) (ps.take k) k f.pC w2 HTL.out (by omega) hT2 (fun p hp w' hb'=>ZcH p x wr.heap.size w' (Y2.out.below hb')))
  have hkc:k<=f.pC:=by omega
  clear hb2 hT2 Y1 HBA HFA HT;go_wp2_with fail
  refine C2.out.mono ?_
  rintro e w3 ⟨rfl,hb3⟩;obtain⟨bl,hbl⟩:∃bl,bl=(ps.take k).any (Z1 x.lot):=⟨_,rfl⟩
  rw[<-hbl];clear hbl hq18 C2;cases bl with
  | true=>
   go_wp2;go_ret;exact⟨⟨_,rfl,fun h=>absurd h HE.out⟩,bto HB2.out hb3⟩
  | false=>
  have Y3:=Lh (Y2.out.below hb3);have HF3:=Lh (HF2.out.below hb3);replace hb3:=bto HB2.out hb3;clear Y2 HF2 HB2;go_wp2_with fail;refine VA (by kernel_rfl) (by kernel_rfl) ?_
  refine OL 229 #[.bool true,.bool false] (fun w u=>∃b1 b2,u=.func (.func 286) #[] #[.pointer (some ⟨b1,0,none⟩),.pointer (some ⟨b2,0,none⟩)]/\Blk w b1 #[.bool true]/\Blk w b2 #[.bool false]) rfl (fun w w' u ⟨b1,b2,e,h1,h2⟩ hb=>⟨b1,b2,e,h1.below hb,h2.below hb⟩) (fun _=>rfl) (fun ρ wz hw=>by go_simp;try rfl) (fun wz hw=>Vl true false wz) ?_
  simp only[Act.put,StT,StZ,StS,Nat.reduceAdd];refine VB _ (fun _=>rfl) (fun ρ wz hw=>by go_simp;try rfl) ?_
  simp only[Act.put,StT,StZ,StS,Nat.reduceAdd];refine VB _ (fun _=>rfl) (fun ρ wz hw=>by have q0:wz.cell? ⟨wr.heap.size,1,none⟩=some (.string ⟨x.q.toArray⟩):=(Y3.out.below hw).c 1;go_simp;try rfl) ?_
  simp only[Act.put,StT,StZ,StS,Nat.reduceAdd];refine GY _ _ _ (fun _=>rfl) (fun ρ wz hw=>by go_simp;try rfl) (fun wz hw=>CW.out.of hG (bto hb3 hw)) ?_
  simp only[Act.put,StT,StZ,StS,Nat.reduceAdd];refine Sf 0 _ _ _ 29 rfl rfl rfl (by decide) (fun _=>rfl) (fun ρ wz hw ⟨b1,b2,e,h1,h2⟩=>⟨286,#[.agg #[.string ⟨x.q.toArray⟩,.string ⟨#[]⟩],.pointer (some ⟨b1,0,none⟩),.pointer (some ⟨b2,0,none⟩)],by simp only[e];go_simp;try rfl,CB.out wz b1 b2 (hG.below (bto hb3 hw)) h1 h2⟩) ?_
  simp only[Act.put,StT,StZ,StS,Nat.reduceAdd];refine VB _ (fun _=>rfl) (fun ρ wz hw=>by go_simp;try rfl) ?_
  simp only[Act.put,StT,StZ,StS,Nat.reduceAdd];intro ρ w4 hF;have Y4:=Lh (Y3.out.below hF.below);have HF4:=Lh (HF3.out.below hF.below);have hb4:=bto hb3 hF.below;clear hF Y3 HF3 hb3 CB CW
  by_cases h0:E2=0
  rotate_left
  ·have e5:decide (E2=0)=false:=Df h0;have e6:(E2==0)=false:=by rw[Bn];exact h0
   go_wp2;go_ret;exact⟨⟨_,rfl,fun h=>absurd h HE.out⟩,hb4⟩
  subst h0;have q1:w4.cell? ⟨wr.heap.size,1,none⟩=some (.string ⟨x.q.toArray⟩):=Y4.out.c 1;go_wp2_with fail
  refine (CA.out.of hG hb4).mono ?_
  rintro e w5 ⟨rfl,hb5⟩;have HF5:=Lh (HF4.out.below hb5);replace hb5:=bto hb4 hb5;clear q1 Y4 HF4 hb4;go_wp2;go_roundw
  case rel=>exact⟨k+1,z+val x.q,by omega,rfl,by go_num,HZ2.out,hb5,HF5.out⟩
  case measure=>simp[intOf];omega
end Go.Proofs.YtpieeldbamklkaaGreatDoor
