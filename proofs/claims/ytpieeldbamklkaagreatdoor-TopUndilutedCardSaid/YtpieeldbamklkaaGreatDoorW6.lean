/- Texts put together: On By Rb Rc Rd Re Aa Bu Rf. -/
import Derived.Test.YtpieeldbamklkaaGreatDoorW5
set_option maxHeartbeats 8000000
set_option maxRecDepth 100000
namespace Go.Proofs.YtpieeldbamklkaaGreatDoor
open Go.RowKit Num
def Qk (T:Int) (zs qs:List Int):Prop:=(0<=T/\P2 T zs qs)∨(T<0/\∃ps,P2 (-T) zs ps/\qs=ps.map (fun z=>-z))
theorem Ii:∀ps:List Int,(ps.map (fun z=>-z)).sum = -ps.sum
 | []=>rfl
 | p::t=>by simp only[List.map_cons,List.sum_cons,Ii t];omega
theorem Qk.sum {T:Int} {zs qs:List Int} (h:Qk T zs qs):qs.sum=T/\qs.length=zs.length:=by
 rcases h with ⟨-,h⟩|⟨-,ps,h,rfl⟩
 ·exact⟨h.sum,h.len⟩
 ·rw[Ii,h.sum,List.length_map];exact⟨by omega,h.len⟩
theorem Qk.bd {T:Int} {zs qs:List Int} {N:Nat} (hz:∀z∈zs,0<=z/\z.natAbs<10 ^ N) (hT:T.natAbs<10 ^ N) (h:Qk T zs qs):∀q∈qs,(canon q).length<=N+N+2:=by
 have key:∀(T:Int) (ps:List Int),T.natAbs<10 ^ N->P2 T zs ps->∀q∈ps,q.natAbs<10 ^ (N+N+1):=fun T ps hT h q hq=>by
  obtain⟨k,hk⟩:=List.getElem?_of_mem hq;have h1:=h.at' k;have hk2:k<zs.length:=by
   have:=(Lg.1 hk).1
   rw[h.len] at this;exact this
  obtain⟨z,hzk⟩:∃z,zs[k]?=some z:=⟨_,List.getElem?_eq_getElem hk2⟩
  rw[(Jb hzk).1,hk] at h1;have hzz:=(hz z (Lm hzk)).2;have h2:(T*z / zs.sum).natAbs<=(T*z).natAbs:=Int.natAbs_ediv_le_natAbs _ _;have h3:(T*z).natAbs<10 ^ N*10 ^ N:=by
   rw[Int.natAbs_mul];exact Nat.mul_lt_mul'' hT hzz
  have e:(10:Nat) ^ (N+N+1)=10 ^ N*10 ^ N*10:=by rw[Nat.pow_succ,Nat.pow_add]
  rw[e];generalize (10:Nat) ^ N*10 ^ N=P at *;simp only[Option.map_some,Option.some.injEq] at h1;omega
 intro q hq;rcases h with ⟨-,h⟩|⟨-,ps,h,rfl⟩
 ·exact Zn q (N+N+1) (key T qs hT h q hq)
 ·obtain⟨p,hp,rfl⟩:=List.mem_map.1 hq;refine Zn _ (N+N+1) ?_;rw[Int.natAbs_neg];exact key (-T) ps (by rw[Int.natAbs_neg];exact hT) h p hp
def ZaK (w:World) (T:Int) (zs:List Int) (n:Nat) (e:Ending) (w':World):Prop:=
 ∃bp ps,e=.returned (.slice (some ⟨bp,0,none⟩) n n)/\w.heap.size<=bp/\w'.heap[bp]?=some (.cells (zsC ps) 32 (0,0))/\Qk T zs ps/\Below w.heap.size w w'
def OJ (ps:List Int) (k:Nat):List Int:=(ps.take k).map (fun z=>-z)++ps.drop k
theorem Ij {ps:List Int} {k:Nat} {x:Int} (h:ps[k]?=some x):(OJ ps k)[k]?=some x:=by
 have hk:=(Lg.1 h).1;unfold OJ;rw[List.getElem?_append_right (by rw[List.length_map,List.length_take];omega),List.length_map,List.length_take,Nat.min_eq_left (Nat.le_of_lt hk),Nat.sub_self,List.getElem?_drop]
 exact h
theorem Eg {ps:List Int} {k:Nat} {x:Int} (h:ps[k]?=some x):(OJ ps k).set k (-x)=OJ ps (k+1):=by
 obtain⟨hk,rfl⟩:=Lg.1 h;unfold OJ;rw[List.set_append_right _ _ (by rw[List.length_map,List.length_take];omega),List.length_map,List.length_take,Nat.min_eq_left (Nat.le_of_lt hk),Nat.sub_self,List.drop_eq_getElem_cons hk,List.set_cons_zero,List.take_succ_eq_append_getElem hk,List.map_append,List.append_assoc]
 rfl
theorem Eh (ps:List Int):OJ ps ps.length=ps.map (fun z=>-z):=by simp[OJ]
theorem Cp {w:World} {A:Option Addr} {ws:List (List UInt8)} {n:Nat} (c:Nat) {T:List UInt8} (hG:GE w) (hI:Uk w A ws n) (hT:T.length<=4900) (h0:1<=n) (hn1:n<=1000) (hpos:∀r∈ws,0<=val r) (hS:Wt ws≠0) :
  Calls Tryz.prog 189 #[.string ⟨T.toArray⟩,.slice A n c] w (ZaK w (val T) (ws.map val) n):=by
 have hb:=Below.refl w.heap.size w;have C1:=Lh (Tg (l:=T) (by omega))
 by_cases hT0:0<=val T
 ·have e0:decide (val T<0)=false:=Df (by omega)
  rw[e0] at C1;have C2:=Lh (fun (w':World) (hb':Below w.heap.size w w')=>O9 c (hG.below hb') (hI.below hb') (T:=T) (by omega) h0 hn1 hpos hS hT0)
  have HT0:=Lh hT0;clear e0 hI hpos hS hT0;go_enter Tryz.func189,Tryz.ntmps189;go_wp2_with fail
  with_reducible refine (C1.out.of hG.g hb).mono ?_
  rintro e w1 ⟨rfl,hb1⟩;go_wp2_with fail;refine (C2.out w1 hb1).mono ?_;rintro e w2 ⟨bp,ps,rfl,h1,h2,h3,h4⟩;have HR:Hid (ZaK w (val T) (ws.map val) n (.returned (.slice (some ⟨bp,0,none⟩) n n)) w2):=⟨bp,ps,rfl,Nt hb1.size h1,h2,.inl ⟨HT0.out,h3⟩,bto hb1 h4⟩;clear h1 h2 h3 h4 C1 C2 hb hb1;go_wp2;go_ret;exact HR.out
 ·have e0:decide (val T<0)=true:=Dt (by omega)
  rw[e0] at C1;have hTl:(canon (-val T)).length<=5000:=by
   have:=Zo (l:=T) hT
   refine Nt (Zn (-val T) 4900 (by rw[Int.natAbs_neg];exact this)) (by decide)
  have C2:=Lh (BN (l:=T) (by omega) rfl)
  have C3:=Lh (fun (w':World) (hb':Below w.heap.size w w')=>O9 c (hG.below hb') (hI.below hb') (T:=canon (-val T)) hTl h0 hn1 hpos hS (by rw[Zg];omega))
  have HB:Hid (∀ps,P2 (-val T) (ws.map val) ps->∀q∈ps,(canon q).length<=10002):=fun ps hp=>by
   obtain⟨N,hN⟩:∃N,N=5000:=⟨_,rfl⟩
   have hz:∀z∈ws.map val,0<=z/\z.natAbs<10 ^ N:=fun z hz=>by
    obtain⟨r,hr,rfl⟩:=List.mem_map.1 hz;exact⟨hpos r hr,Zo (by have:=hI.sm r hr;omega)⟩
   have:=Qk.bd (N:=N) hz (T:=-val T) (by rw[Int.natAbs_neg];exact Zo (by omega)) (.inl ⟨by omega,hp⟩)
   intro q hq
   have:=this q hq
   omega
  rw[Zg] at C3;have HT0:Hid (val T<0):=by show _<_;omega
  have HL:Hid ((ws.map val).length=n):=by show _=_;rw[List.length_map];exact hI.len
  obtain⟨nt,hnt⟩:∃nt,nt=canon (-val T):=⟨_,rfl⟩
  rw[<-hnt] at C2 C3;clear e0 hI hpos hS hT0 hTl hnt;go_enter Tryz.func189,Tryz.ntmps189;go_wp2_with fail
  with_reducible refine (C1.out.of hG.g hb).mono ?_
  rintro e w1 ⟨rfl,hb1⟩;go_wp2_with fail
  with_reducible refine (C2.out.of hG.g hb1).mono ?_
  rintro e w2 ⟨rfl,hb2⟩;replace hb1:=bto hb1 hb2;go_wp2_with fail;refine (C3.out w2 hb1).mono ?_;rintro e w3 ⟨bp,ps,rfl,h1,h2,h3,h4⟩;have HP:=Lh h3;have HL2:Hid (ps.length=n):=h3.len.trans HL.out;have hlp:=Nt hb1.size h1;have HR:=Lh h2;have HB3:=Lh (bto hb1 h4);clear h1 h2 h3 h4 C1 C2 C3 hb hb1 hb2;go_wp2_with fail
  go_loopw [6,19] (fun _ iv wr=>∃k:Nat,k<=n/\iv=.int .i64 (k:Int)/\Hid (wr.heap[bp]?=some (.cells (zsC (OJ ps k)) 32 (0,0)))/\Hid (Below w.heap.size w wr)) (fun _ iv _=>n-(intOf iv).toNat)
  case atStart=>exact⟨0,Nat.zero_le _,rfl,HR.out,HB3.out⟩
  case round=>
   clear HR HB3;obtain⟨k,hk,rfl,HR,HB3⟩:=hrel
   by_cases hlk:k<n
   rotate_left
   ·have e1:decide (k<n)=false:=Df hlk;have e2:decide ((k:Int)<(n:Int))=false:=Df (by omega)
    go_wp2;go_ret;refine⟨bp,_,rfl,hlp,HR.out,.inr ⟨HT0.out,ps,HP.out,?_⟩,HB3.out⟩;have e:k=ps.length:=by have:=HL2.out;omega
    rw[e,Eh]
   have e1:decide (k<n)=true:=Dt hlk;have e2:decide ((k:Int)<(n:Int))=true:=Dt (by omega)
   obtain⟨x,hx⟩:∃x,ps[k]?=some x:=⟨_,List.getElem?_eq_getElem (by have:=HL2.out;omega)⟩
   have hxl:=HB.out ps HP.out x (Lm hx);have CN:=Lh (BN (l:=canon x) (z:=-x) (by omega) (by rw[Zg]))
   have q0:wr.cell? ⟨bp,k,none⟩=some (.string ⟨(canon x).toArray⟩):=(Zh HR.out k).trans (T4 (Ij hx));have hb:=HB3.out;have HX:=Lh hx;clear hx hxl;go_wp2_with fail
   with_reducible refine (CN.out.of hG.g hb).mono ?_
   rintro e w4 ⟨rfl,hb4⟩;clear q0 e1 e2 CN;have HR4:Hid (w4.heap[bp]?=some (.cells (zsC (OJ ps k)) 32 (0,0))):=(hb4.block _ (Ag.1 HR.out).1).trans HR.out;have q1:w4.cell? ⟨bp,k,none⟩=some (.string ⟨(canon x).toArray⟩):=(Zh HR4.out k).trans (T4 (Ij HX.out));have q2:w4.frozen? ⟨bp,k,none⟩=false:=Zq HR4.out k;have HRN:Hid ((w4.setCell ⟨bp,k,none⟩ (.string ⟨(canon (-x)).toArray⟩)).heap[bp]?=some (.cells (zsC (OJ ps (k+1))) 32 (0,0))):=by
    have h:=Yd (o:=k) (Value.string ⟨(canon (-x)).toArray⟩) HR4.out;rw[Q9,Eg HX.out] at h;exact h
   have HBN:Hid (Below w.heap.size w (w4.setCell ⟨bp,k,none⟩ (.string ⟨(canon (-x)).toArray⟩))):=(bto hb hb4).setCell (p:=⟨bp,k,none⟩) hlp _;clear hb hb4 HR HB3 HR4 HX;go_wp2;go_roundw
   case rel=>exact⟨k+1,by omega,by go_num,HRN.out,HBN.out⟩
   case measure=>simp[intOf];omega
def ZaL (w:World) (T:Int) (zs:List Int) (n:Nat) (e:Ending) (w':World):Prop:=
 ∃bp ps,e=.returned (.tuple #[.slice (some ⟨bp,0,none⟩) n n,.int .i64 0])/\w.heap.size<=bp/\w'.heap[bp]?=some (.cells (zsC ps) 32 (0,0))/\Qk T zs ps/\Below w.heap.size w w'
theorem AO {w:World} {A:Option Addr} {ws:List (List UInt8)} {n:Nat} (c:Nat) {T:List UInt8} (hG:GE w) (hI:Uk w A ws n) (hT:T.length<=4900) (h:MP T ws=0) :
  Calls Tryz.prog 124 #[.string ⟨T.toArray⟩,.slice A n c] w (ZaL w (val T) (ws.map val) n):=by
 obtain⟨s1,s2,-,s4,s5⟩:=NO h;have hl:=hI.len;have C1:=Lh (AG c (T:=T) (by omega) hG.g hI)
 have C2:=Lh (fun (w':World) (hb':Below w.heap.size w w')=>Cp c (hG.below hb') (hI.below hb') (T:=T) hT (by omega) (by omega) (fun r hr=>(s4 r hr).2) s5)
 rw[h] at C1;clear hI h s1 s2 s4 s5 hl;go_enter Tryz.func124,Tryz.ntmps124;go_wp2_with fail;refine C1.out.mono ?_;rintro e w1 ⟨rfl,hb1⟩;go_wp2_with fail;refine (C2.out w1 hb1).mono ?_;rintro e w2 ⟨bp,ps,rfl,h1,h2,h3,h4⟩;have HR:Hid (ZaL w (val T) (ws.map val) n (.returned (.tuple #[.slice (some ⟨bp,0,none⟩) n n,.int .i64 0])) w2):=⟨bp,ps,rfl,Nt hb1.size h1,h2,h3,bto hb1 h4⟩;clear h1 h2 h3 h4 C1 C2 hb1;go_wp2;go_ret2;exact HR.out
theorem AP {T p a:List UInt8} (hTl:T.length<=2000) (hpl:p.length<=2000) (hal:a.length<=2000) (hT:T=canon (val T)) (hp:p=canon (val p)) (ha:a=canon (val a)) (h0:0<=val p) (h1:val p<=val a) (h2:0<val a) :
  Ret 277 #[.string ⟨T.toArray⟩,.string ⟨p.toArray⟩,.string ⟨a.toArray⟩] (.tuple #[.string ⟨(canon (NV (val T) (val p) (val a))).toArray⟩,.string ⟨(canon (val T-NV (val T) (val p) (val a))).toArray⟩,.int .i64 0]):=fun w hG=>by
 have hb:=Below.refl w.heap.size w;have K1:=Lh (Yk (l:=T) (c:=0) (by omega) (if_pos hT))
 have K2:=Lh (Yk (l:=p) (c:=0) (by omega) (if_pos hp))
 have K3:=Lh (Yk (l:=a) (c:=0) (by omega) (if_pos ha))
 have N1:=Lh (Tg (l:=a) (by omega))
 have N2:=Lh (Tg (l:=p) (by omega))
 rw[Df (by omega:¬val a<0)] at N1
 rw[Df (by omega:¬val p<0)] at N2
 obtain⟨cp,hcp⟩:∃cp,cp=Zx (val p) (val a):=⟨_,rfl⟩
 have hc0:cp<=0:=by rw[hcp];unfold Zx;split<;>(try split)<;>omega
 have CC:=Lh (Zv (l:=p) (l':=a) (by omega) (by omega) hcp.symm)
 have e1:decide (0<cp)=false:=Df (by omega)
 have hml:=ZG T p;have CM:=Lh (JW (l:=T) (l':=p) (by omega) (by omega) rfl)
 obtain⟨q,hq⟩:∃q,q=Rat.divInt (val T*val p) (val a):=⟨_,rfl⟩
 have CN:=Lh (D3 (l:=canon (val T*val p)) (l':=a) (r:=q) (by omega) (by omega) (by omega) (by rw[Zg,hq]))
 obtain⟨N,hN⟩:∃N,N=4001:=⟨_,rfl⟩
 have hbq:Bd N q:=by
  rw[hq];refine Y7 ?_ (Zo (by omega)) (by omega)
  have:=Zo (l:=canon (val T*val p)) (k:=N) (by omega)
  rwa [Zg] at this
 obtain⟨s,hs⟩:∃s,s=NV (val T) (val p) (val a):=⟨_,rfl⟩
 have CR:=Lh (Az (VC hbq (by omega)) hbq (by omega) (m:=1) (z:=s) (by decide) (by decide) (by rw[hs,hq];rfl))
 have hsl:(canon s).length<=100000:=by
  have h3:=Ay q 1;have h4:=T0 q;have h5:=hbq.1;have e5:s=rnd q 1:=by rw[hs,hq];rfl
  have h6:s.natAbs<10 ^ (N+1):=by
   have e:(10:Nat) ^ (N+1)=10 ^ N*10:=Nat.pow_succ ..;have h7:1<=(10:Nat) ^ N:=Nat.pow_pos (by decide)
   rw[e];generalize (10:Nat) ^ N=P at *;omega
  exact Nt (Zn s (N+1) h6) (by omega)
 have CS:=Lh (Wk (l:=T) (l':=canon s) (z:=val T-s) (by omega) (by omega) (by rw[Zg]))
 have ha1:(a==[])=false:=by
  rw[Bn];intro hc;rw[hc] at h2;exact absurd h2 (by decide)
 have ha2:a.isEmpty=false:=by
  rw[List.isEmpty_eq_false_iff];intro hc;rw[hc] at h2;exact absurd h2 (by decide)
 rw[<-hs];obtain⟨mt,hmt⟩:∃mt,mt=canon (val T*val p):=⟨_,rfl⟩
 rw[<-hmt] at CM CN;obtain⟨ss,hss⟩:∃ss,ss=canon s:=⟨_,rfl⟩
 rw[<-hss] at CR CS ⊢;obtain⟨rr,hrr⟩:∃rr,rr=canon (val T-s):=⟨_,rfl⟩
 rw[<-hrr] at CS ⊢;clear hT hp ha hcp hq hN hbq hs hsl hmt hss hrr hml h0 h1 h2 hTl hpl hal;go_enter Tryz.func277,Tryz.ntmps277;go_wp2_with fail
 with_reducible refine (K1.out.of hG hb).mono ?_
 rintro e w1 ⟨rfl,hb1⟩;replace hb:=bto hb hb1;go_wp2_with fail
 with_reducible refine (K2.out.of hG hb).mono ?_
 rintro e w2 ⟨rfl,hb2⟩;replace hb:=bto hb hb2;go_wp2_with fail
 with_reducible refine (K3.out.of hG hb).mono ?_
 rintro e w3 ⟨rfl,hb3⟩;replace hb:=bto hb hb3;clear hb1 hb2 hb3 K1 K2 K3;go_wp2_with fail
 with_reducible refine (N1.out.of hG hb).mono ?_
 rintro e w4 ⟨rfl,hb4⟩;replace hb:=bto hb hb4;go_wp2_with fail
 with_reducible refine (N2.out.of hG hb).mono ?_
 rintro e w5 ⟨rfl,hb5⟩;replace hb:=bto hb hb5;go_wp2_with fail
 with_reducible refine (CC.out.of hG hb).mono ?_
 rintro e w6 ⟨rfl,hb6⟩;replace hb:=bto hb hb6;clear hb4 hb5 hb6 N1 N2 CC;go_wp2_with fail
 with_reducible refine (CM.out.of hG hb).mono ?_
 rintro e w7 ⟨rfl,hb7⟩;replace hb:=bto hb hb7;go_wp2_with fail
 with_reducible refine (CN.out.of hG hb).mono ?_
 rintro e w8 ⟨rfl,hb8⟩;replace hb:=bto hb hb8;have x9:=Z9.new w8 (.string ⟨(fN q).toArray⟩) (.string ⟨(fD q).toArray⟩) 34;have hbA:=Zd w8 (.cells #[.string ⟨(fN q).toArray⟩,.string ⟨(fD q).toArray⟩] 34);replace hb:=bto hb hbA;have p0:=x9.c0;have p1:=x9.c1;clear hb7 hb8 hbA x9 CM CN e1 ha1 ha2;go_wp2_with fail
 with_reducible refine (CR.out.of hG hb).mono ?_
 rintro e w9 ⟨rfl,hb9⟩;replace hb:=bto hb hb9;clear p0 p1 hb9 CR;go_wp2_with fail
 with_reducible refine (CS.out.of hG hb).mono ?_
 rintro e w10 ⟨rfl,hb10⟩;replace hb:=bto hb hb10;clear hb10 CS;go_wp2;refine bodyPost_ret (v:=.tuple #[.string ⟨ss.toArray⟩,.string ⟨rr.toArray⟩,.int .i64 0]) (by simp[results,Tryz.results277,go_sem]) rfl ?_
 exact⟨rfl,hb⟩
section
variable {P:Program} {ops:Array Oper} {C:World->Prop} {Q:St->Bx->Prop} {rest:List Oper} {i:Nat} {a:St} {B:Bx} {o:Oper}
theorem Nb (k j:Nat) (ok:Oper) (d:Tmp) (cs:Array Value) (vs:List Value) (t:TypeId) (hp:B k=some (false,.cells cs t (0,0))) (hk:ops[k]?=some ok) (hd:ok.dst=some d) (hl:d∈o.looksAt ops)
  (hw:∀ρ,Region.wanted o (yielded ops (a ρ).tmps)=true)
  (h:∀ρ w,C w->(∀m,w.cell? ⟨ρ k,m,none⟩=cs[m]?)->(∀m,w.frozen? ⟨ρ k,m,none⟩=false)->(execOp (a ρ).eval o).run P w=.ok .skip (w.setCells (ρ k) j vs))
  (hn:Ya P ops C Q rest (i+1) (fun ρ=>(a ρ).put o.dst undef) (fun l=>if l=k then some (true,.cells (Xt cs j vs) t (0,0)) else B l)):Ya P ops C Q (o::rest) i a B:=
 ⟨.put k (.cells cs t (0,0)) (.cells (Xt cs j vs) t (0,0)),hp,⟨.inr ⟨ok,d,hk,hd,hl⟩,fun ρ=>⟨hw ρ,fun w hc hb=>
  ⟨_,h ρ w hc (fun m=>Zh hb m) (fun m=>Zq hb m),Ti (ρ k) t vs j cs w hb⟩⟩⟩,hn⟩
end
theorem Zbk (w1:World) (a b c:Obj):(((w1.alloc a).alloc b).alloc c).heap[w1.heap.size]?=some a/\(((w1.alloc a).alloc b).alloc c).heap[w1.heap.size+1]?=some b/\(((w1.alloc a).alloc b).alloc c).heap[w1.heap.size+1+1]?=some c/\Below w1.heap.size w1 (((w1.alloc a).alloc b).alloc c):=by
 have h0:(((w1.alloc a).alloc b).alloc c).heap=((w1.heap.push a).push b).push c:=rfl;refine⟨?_,?_,?_,?_⟩
 ·rw[h0];simp only[Array.getElem?_push,Array.size_push];rw[if_neg (by omega),if_neg (by omega),if_pos trivial]
 ·rw[h0];simp only[Array.getElem?_push,Array.size_push];rw[if_neg (by omega),if_pos trivial]
 ·rw[h0];simp only[Array.getElem?_push,Array.size_push];rw[if_pos trivial]
 ·exact bto (bto (Zd w1 a) (Zd _ b)) (Zd _ c)
structure Zbl (w:World) (b:Nat) (x:Lot):Prop where
 out:w.rangeAt b 0 (lcs x)
theorem WX {w:World} {b:Nat} {x:Lot} (h:Blk w b #[Value.string ⟨x.id.toArray⟩,Value.string ⟨x.ins.toArray⟩,Value.int .i64 x.acq,Value.int .i64 x.opn,Value.string ⟨x.q.toArray⟩,Value.string ⟨x.cost.toArray⟩,Value.string ⟨x.used.toArray⟩]):Zbl w b x:=⟨fun j v hv=>by
 have hj:j<7:=VU hv;rw[Nat.zero_add]
 match j,hj with
 | 0,_=>cases hv;exact h.c 0
 | 1,_=>cases hv;exact h.c 1
 | 2,_=>cases hv;exact h.c 2
 | 3,_=>cases hv;exact h.c 3
 | 4,_=>cases hv;exact h.c 4
 | 5,_=>cases hv;exact h.c 5
 | 6,_=>cases hv;exact h.c 6⟩
theorem hset {w:World} {b o:Nat} {cs:Array Value} {t:TypeId} (v:Value) (h:w.heap[b]?=some (.cells cs t (0,0))):(w.setCell ⟨b,o,none⟩ v).heap[b]?=some (.cells (cs.setIfInBounds o v) t (0,0)):=Yd v h
theorem hoth {w:World} {b c o:Nat} {ob:Obj} {v:Value} (h:w.heap[b]?=some ob) (hn:b≠c):(w.setCell ⟨c,o,none⟩ v).heap[b]?=some ob:=(Below.heap_setCell w ⟨c,o,none⟩ v b hn).trans h
theorem Zw {w w':World} {b:Nat} {ob:Obj} (h:w.heap[b]?=some ob) (hb:Below w.heap.size w w'):w'.heap[b]?=some ob:=(hb.block _ (Ag.1 h).1).trans h
theorem V0 {w:World} {b:Nat} {c0 c1 c2 c3 c4 c5 c6:Value} (hc:∀m,w.cell? ⟨b,m,none⟩=#[c0,c1,c2,c3,c4,c5,c6][m]?) (hf:∀m,w.frozen? ⟨b,m,none⟩=false):w.there b 0 7:=fun j hj=>by
 refine⟨?_,hf _⟩;rw[Nat.zero_add,hc]
 match j,hj with
 | 0,_|1,_|2,_|3,_|4,_|5,_|6,_=>rfl
theorem Zbm {x:Lot} (hs:PO x) (hx:UF x=0) {q:List UInt8} (hql:q.length<=1000) (hq:q=canon (val q)) (h0:0<val q) (h1:val q<val x.q) :
  WN 215 #[(Value.agg #[Value.string ⟨x.id.toArray⟩,Value.string ⟨x.ins.toArray⟩,Value.int .i64 x.acq,Value.int .i64 x.opn,Value.string ⟨x.q.toArray⟩,Value.string ⟨x.cost.toArray⟩,Value.string ⟨x.used.toArray⟩]),.string ⟨q.toArray⟩] (.tuple #[(Value.agg #[Value.string ⟨List.toArray (WP x q).id⟩,Value.string ⟨List.toArray (WP x q).ins⟩,Value.int .i64 (WP x q).acq,Value.int .i64 (WP x q).opn,Value.string ⟨List.toArray (WP x q).q⟩,Value.string ⟨List.toArray (WP x q).cost⟩,Value.string ⟨List.toArray (WP x q).used⟩]),(Value.agg #[Value.string ⟨List.toArray (WA x q).id⟩,Value.string ⟨List.toArray (WA x q).ins⟩,Value.int .i64 (WA x q).acq,Value.int .i64 (WA x q).opn,Value.string ⟨List.toArray (WA x q).q⟩,Value.string ⟨List.toArray (WA x q).cost⟩,Value.string ⟨List.toArray (WA x q).used⟩]),.int .i64 0]):=fun w hG=>by
 obtain⟨-,-,-,-,-,x1,x2,x3,x4,x5,x6⟩:=JX hx;have hl4:=hs.q;have hl5:=hs.cost;have HZ:=Lh Tj;have K1:=Lh (FO hs);rw[hx] at K1;have K2:=Lh (Yk (l:=q) (c:=0) (by omega) (if_pos hq))
 obtain⟨ca,hca⟩:∃ca,ca=Zx (val q) 0:=⟨_,rfl⟩
 have ca1:0<ca:=by rw[hca];exact (O0 (val q)).2.2.1.2 h0
 have KC1:=Lh (Zv (l:=q) (l':=[]) (by omega) (by decide) hca.symm)
 obtain⟨cb,hcb⟩:∃cb,cb=Zx (val q) (val x.q):=⟨_,rfl⟩
 have cb1:cb<0:=by rw[hcb];unfold Zx;rw[if_pos h1];decide
 have KC2:=Lh (Zv (l:=q) (l':=x.q) (by omega) (by omega) hcb.symm)
 have g1:decide (ca<=0)=false:=Df (by omega)
 have g2:decide (0<=cb)=false:=Df (by omega)
 have KS:=Lh (Wk (l:=x.q) (l':=q) (z:=val x.q-val q) (by omega) (by omega) rfl)
 have KH:=Lh (AP (T:=x.cost) (p:=q) (a:=x.q) (by omega) (by omega) (by omega) x2 hq x1 (by omega) (by omega) (by omega))
 obtain⟨xa,hxa⟩:∃xa,xa=WP x q:=⟨_,rfl⟩
 obtain⟨xb,hxb⟩:∃xb,xb=WA x q:=⟨_,rfl⟩
 have HXA:=Lh hxa;have HXB:=Lh hxb;obtain⟨d,hd⟩:∃d,d=canon (val x.q-val q):=⟨_,rfl⟩
 obtain⟨sa,hsa⟩:∃sa,sa=canon (NV (val x.cost) (val q) (val x.q)):=⟨_,rfl⟩
 obtain⟨sb,hsb⟩:∃sb,sb=canon (val x.cost-NV (val x.cost) (val q) (val x.q)):=⟨_,rfl⟩
 have HA1:Hid (x.used=[]->#[Value.string ⟨xa.id.toArray⟩,Value.string ⟨xa.ins.toArray⟩,Value.int .i64 xa.acq,Value.int .i64 xa.opn,Value.string ⟨xa.q.toArray⟩,Value.string ⟨xa.cost.toArray⟩,Value.string ⟨xa.used.toArray⟩]=#[.string ⟨x.id.toArray⟩,.string ⟨x.ins.toArray⟩,.int .i64 x.acq,.int .i64 x.opn,.string ⟨q.toArray⟩,.string ⟨sa.toArray⟩,.string ⟨x.used.toArray⟩]/\#[Value.string ⟨xb.id.toArray⟩,Value.string ⟨xb.ins.toArray⟩,Value.int .i64 xb.acq,Value.int .i64 xb.opn,Value.string ⟨xb.q.toArray⟩,Value.string ⟨xb.cost.toArray⟩,Value.string ⟨xb.used.toArray⟩]=#[.string ⟨x.id.toArray⟩,.string ⟨x.ins.toArray⟩,.int .i64 x.acq,.int .i64 x.opn,.string ⟨d.toArray⟩,.string ⟨sb.toArray⟩,.string ⟨x.used.toArray⟩]):=fun hu=>by
  rw[hxa,hxb,hd,hsa,hsb];simp only[WP,WA,hu];exact⟨rfl,rfl⟩
 have HA2:Hid (x.used≠[]->#[Value.string ⟨xa.id.toArray⟩,Value.string ⟨xa.ins.toArray⟩,Value.int .i64 xa.acq,Value.int .i64 xa.opn,Value.string ⟨xa.q.toArray⟩,Value.string ⟨xa.cost.toArray⟩,Value.string ⟨xa.used.toArray⟩]=#[.string ⟨x.id.toArray⟩,.string ⟨x.ins.toArray⟩,.int .i64 x.acq,.int .i64 x.opn,.string ⟨q.toArray⟩,.string ⟨sa.toArray⟩,.string ⟨q.toArray⟩]/\#[Value.string ⟨xb.id.toArray⟩,Value.string ⟨xb.ins.toArray⟩,Value.int .i64 xb.acq,Value.int .i64 xb.opn,Value.string ⟨xb.q.toArray⟩,Value.string ⟨xb.cost.toArray⟩,Value.string ⟨xb.used.toArray⟩]=#[.string ⟨x.id.toArray⟩,.string ⟨x.ins.toArray⟩,.int .i64 x.acq,.int .i64 x.opn,.string ⟨d.toArray⟩,.string ⟨sb.toArray⟩,.string ⟨d.toArray⟩]):=fun hu=>by
  rw[hxa,hxb,hd,hsa,hsb];simp only[WP,WA,if_neg hu];exact⟨trivial,trivial⟩
 rw[<-hxa,<-hxb];rw[<-hd] at KS;rw[<-hsa,<-hsb] at KH;obtain⟨a1,a2,a3,a4⟩:=Zbk w (.cells #[Value.string ⟨x.id.toArray⟩,Value.string ⟨x.ins.toArray⟩,Value.int .i64 x.acq,Value.int .i64 x.opn,Value.string ⟨x.q.toArray⟩,Value.string ⟨x.cost.toArray⟩,Value.string ⟨x.used.toArray⟩] 130) (.cells #[.string ⟨#[]⟩,.string ⟨#[]⟩,.int .i64 0,.int .i64 0,.string ⟨#[]⟩,.string ⟨#[]⟩,.string ⟨#[]⟩] 130) (.cells #[.string ⟨#[]⟩,.string ⟨#[]⟩,.int .i64 0,.int .i64 0,.string ⟨#[]⟩,.string ⟨#[]⟩,.string ⟨#[]⟩] 130);have B2:Blk (((w.alloc (.cells #[Value.string ⟨x.id.toArray⟩,Value.string ⟨x.ins.toArray⟩,Value.int .i64 x.acq,Value.int .i64 x.opn,Value.string ⟨x.q.toArray⟩,Value.string ⟨x.cost.toArray⟩,Value.string ⟨x.used.toArray⟩] 130)).alloc (.cells #[.string ⟨#[]⟩,.string ⟨#[]⟩,.int .i64 0,.int .i64 0,.string ⟨#[]⟩,.string ⟨#[]⟩,.string ⟨#[]⟩] 130)).alloc (.cells #[.string ⟨#[]⟩,.string ⟨#[]⟩,.int .i64 0,.int .i64 0,.string ⟨#[]⟩,.string ⟨#[]⟩,.string ⟨#[]⟩] 130)) w.heap.size #[Value.string ⟨x.id.toArray⟩,Value.string ⟨x.ins.toArray⟩,Value.int .i64 x.acq,Value.int .i64 x.opn,Value.string ⟨x.q.toArray⟩,Value.string ⟨x.cost.toArray⟩,Value.string ⟨x.used.toArray⟩]:=⟨_,a1⟩;have p0:=B2.c 0;have p1:=B2.c 1;have p2:=B2.c 2;have p3:=B2.c 3;have p4:=B2.c 4;have p5:=B2.c 5;have p6:=B2.c 6;have B2H:=Lh B2;have A2:=Lh a2;have A3:=Lh a3;have HUS:=Lh x6;have hb:=a4;clear hx hq h0 h1 hca hcb hxa hxb hd hsa hsb x1 x2 x3 x4 x5 x6 B2 a1 a2 a3 a4 hl4 hl5 hs;go_enter Tryz.func215,Tryz.ntmps215;go_wp2_with fail
 with_reducible refine (K1.out.of hG hb).mono ?_
 rintro e w1 ⟨rfl,hb1⟩;clear p0 p1 p2 p3 p4 p5 p6 K1;have x2:=B2H.out.below hb1;have H4:Hid (w1.heap[w.heap.size+1]?=some (.cells #[.string ⟨#[]⟩,.string ⟨#[]⟩,.int .i64 0,.int .i64 0,.string ⟨#[]⟩,.string ⟨#[]⟩,.string ⟨#[]⟩] 130 (0,0))):=(hb1.block _ (Ag.1 A2.out).1).trans A2.out;have H5:Hid (w1.heap[w.heap.size+1+1]?=some (.cells #[.string ⟨#[]⟩,.string ⟨#[]⟩,.int .i64 0,.int .i64 0,.string ⟨#[]⟩,.string ⟨#[]⟩,.string ⟨#[]⟩] 130 (0,0))):=(hb1.block _ (Ag.1 A3.out).1).trans A3.out;replace hb:=bto hb hb1;clear hb1 B2H A2 A3;obtain⟨b4,hb4⟩:∃b4,b4=w.heap.size+1:=⟨_,rfl⟩
 obtain⟨b5,hb5⟩:∃b5,b5=w.heap.size+1+1:=⟨_,rfl⟩
 obtain⟨b2,hb2⟩:∃b2,b2=w.heap.size:=⟨_,rfl⟩
 have l4:w.heap.size<=b4:=by omega
 have l5:w.heap.size<=b5:=by omega
 have l2:w.heap.size<=b2:=by omega
 have hne45:b4≠b5:=by omega
 have hlt4:b4<w1.heap.size:=by rw[hb4];exact (Ag.1 H4.out).1
 have hlt5:b5<w1.heap.size:=by rw[hb5];exact (Ag.1 H5.out).1
 have hlt2:b2<w1.heap.size:=by rw[hb2];exact x2.lt
 rw[<-hb2] at x2;rw[<-hb4] at H4;rw[<-hb5] at H5;have HB4:=Lh hb4;have HB5:=Lh hb5;rw[<-hb5,<-hb4,<-hb2];clear hb4 hb5 hb2;go_wp2_with fail
 with_reducible refine (K2.out.e.of hG hb).mono ?_
 rintro e w2 ⟨rfl,hb2⟩;replace hb:=bto hb hb2;replace x2:=x2.below hb2;replace H4:=Lh ((hb2.block _ hlt4).trans H4.out);replace H5:=Lh ((hb2.block _ hlt5).trans H5.out);replace hlt4:=Nat.lt_of_lt_of_le hlt4 hb2.size;replace hlt5:=Nat.lt_of_lt_of_le hlt5 hb2.size;clear hb2 K2;go_wp2_with fail
 with_reducible refine (KC1.out.e.of hG hb).mono ?_
 rintro e w3 ⟨rfl,hb3⟩;replace hb:=bto hb hb3;replace x2:=x2.below hb3;replace H4:=Lh ((hb3.block _ hlt4).trans H4.out);replace H5:=Lh ((hb3.block _ hlt5).trans H5.out);replace hlt4:=Nat.lt_of_lt_of_le hlt4 hb3.size;replace hlt5:=Nat.lt_of_lt_of_le hlt5 hb3.size;clear hb3 KC1;have q4:=x2.c 4;go_wp2_with fail
 with_reducible refine (KC2.out.e.of hG hb).mono ?_
 rintro e w4 ⟨rfl,hb4⟩;replace hb:=bto hb hb4;replace x2:=x2.below hb4;replace H4:=Lh ((hb4.block _ hlt4).trans H4.out);replace H5:=Lh ((hb4.block _ hlt5).trans H5.out);replace hlt4:=Nat.lt_of_lt_of_le hlt4 hb4.size;replace hlt5:=Nat.lt_of_lt_of_le hlt5 hb4.size;clear hb4 q4 KC2;go_wp2_with fail;clear g1 g2 ca1 cb1;refine Zm (by kernel_rfl) (by kernel_rfl) ?_
 iterate 2
  refine Zb (.agg #[Value.string ⟨x.id.toArray⟩,Value.string ⟨x.ins.toArray⟩,Value.int .i64 x.acq,Value.int .i64 x.opn,Value.string ⟨x.q.toArray⟩,Value.string ⟨x.cost.toArray⟩,Value.string ⟨x.used.toArray⟩]) (fun _=>rfl) (fun ρ wz hw=>ZK 130 _ rfl b2 0 rfl (lcs x) _ (WX (x2.below hw)).out Tryz.underlying130 rfl (by rw[HZ.out];rfl)) ?_
  simp only[Act.put,StT,StZ,StS,Nat.reduceAdd]
 iterate 2
  refine Wq (fun b=>.pointer (some ⟨b,0,none⟩)) (.cells #[.string ⟨#[]⟩,.string ⟨#[]⟩,.int .i64 0,.int .i64 0,.string ⟨#[]⟩,.string ⟨#[]⟩,.string ⟨#[]⟩] 130) rfl (fun _=>rfl) (fun ρ wz hw=>by go_simp;try with_reducible rfl) ?_
  simp only[Act.put,StT,StZ,StS,Nat.reduceAdd]
 refine Nb 2 0 _ 7 #[.string ⟨#[]⟩,.string ⟨#[]⟩,.int .i64 0,.int .i64 0,.string ⟨#[]⟩,.string ⟨#[]⟩,.string ⟨#[]⟩] (lcs x) 130 rfl rfl rfl (by decide) (fun _=>rfl) (fun ρ wz hw hc hf=>ZQ 130 _ _ rfl (ρ 2) 0 #[Value.string ⟨x.id.toArray⟩,Value.string ⟨x.ins.toArray⟩,Value.int .i64 x.acq,Value.int .i64 x.opn,Value.string ⟨x.q.toArray⟩,Value.string ⟨x.cost.toArray⟩,Value.string ⟨x.used.toArray⟩] rfl rfl (V0 hc hf) (by rw[HZ.out];rfl) (Ul x)) ?_
 simp only[Act.put,Nat.reduceAdd];refine Nb 3 0 _ 8 #[.string ⟨#[]⟩,.string ⟨#[]⟩,.int .i64 0,.int .i64 0,.string ⟨#[]⟩,.string ⟨#[]⟩,.string ⟨#[]⟩] (lcs x) 130 rfl rfl rfl (by decide) (fun _=>rfl) (fun ρ wz hw hc hf=>ZQ 130 _ _ rfl (ρ 3) 0 #[Value.string ⟨x.id.toArray⟩,Value.string ⟨x.ins.toArray⟩,Value.int .i64 x.acq,Value.int .i64 x.opn,Value.string ⟨x.q.toArray⟩,Value.string ⟨x.cost.toArray⟩,Value.string ⟨x.used.toArray⟩] rfl rfl (V0 hc hf) (by rw[HZ.out];rfl) (Ul x)) ?_
 simp only[Act.put,Nat.reduceAdd];intro ρ w5 hF;dsimp only;have H7:Hid (w5.heap[ρ 2]?=some (.cells #[Value.string ⟨x.id.toArray⟩,Value.string ⟨x.ins.toArray⟩,Value.int .i64 x.acq,Value.int .i64 x.opn,Value.string ⟨x.q.toArray⟩,Value.string ⟨x.cost.toArray⟩,Value.string ⟨x.used.toArray⟩] 130 (0,0))):=(hF.box 2 _ _ rfl).2;have H8:Hid (w5.heap[ρ 3]?=some (.cells #[Value.string ⟨x.id.toArray⟩,Value.string ⟨x.ins.toArray⟩,Value.int .i64 x.acq,Value.int .i64 x.opn,Value.string ⟨x.q.toArray⟩,Value.string ⟨x.cost.toArray⟩,Value.string ⟨x.used.toArray⟩] 130 (0,0))):=(hF.box 3 _ _ rfl).2;have l7:=(hF.box 2 _ _ rfl).1;have l8:=(hF.box 3 _ _ rfl).1;have hne78:ρ 2≠ρ 3:=fun e=>by have:=hF.ne 2 3 (by simp) (by simp) e;omega
 have hbF:=hF.below;clear hF;generalize ρ 2=b7 at *;generalize ρ 3=b8 at *;have hlt2:=x2.lt;have hw4:=hb.size;have m7:w.heap.size<=b7:=Nt hw4 l7;have m8:w.heap.size<=b8:=Nt hw4 l8;have n74:b7≠b4:=by omega
 have n75:b7≠b5:=by omega
 have n84:b8≠b4:=by omega
 have n85:b8≠b5:=by omega
 have n27:b2≠b7:=by omega
 have n28:b2≠b8:=by omega
 have n87:b8≠b7:=Ne.symm hne78;have H2:Hid (Blk w5 b2 #[Value.string ⟨x.id.toArray⟩,Value.string ⟨x.ins.toArray⟩,Value.int .i64 x.acq,Value.int .i64 x.opn,Value.string ⟨x.q.toArray⟩,Value.string ⟨x.cost.toArray⟩,Value.string ⟨x.used.toArray⟩]):=x2.below hbF;replace H4:=Lh (Zw H4.out hbF);replace H5:=Lh (Zw H5.out hbF);replace hb:=bto hb hbF;clear hbF x2 hlt2 hlt4 hlt5 l7 l8 hw4;have q4:=H2.out.c 4;go_wp2_with fail
 with_reducible refine (KS.out.e.of hG hb).mono ?_
 rintro e w6 ⟨rfl,hb6⟩;clear q4 KS;replace H2:=Lh (H2.out.below hb6);replace H4:=Lh (Zw H4.out hb6);replace H5:=Lh (Zw H5.out hb6);replace H7:=Lh (Zw H7.out hb6);replace H8:=Lh (Zw H8.out hb6);replace hb:=bto hb hb6;clear hb6;have q4:=H2.out.c 4;have q5:=H2.out.c 5;have r1:w6.cell? ⟨b7,4,none⟩=some (.string ⟨x.q.toArray⟩):=Zh H7.out 4;have r2:w6.frozen? ⟨b7,4,none⟩=false:=Zq H7.out 4;have r3:w6.cell? ⟨b8,4,none⟩=some (.string ⟨x.q.toArray⟩):=Zh H8.out 4;have r4:w6.frozen? ⟨b8,4,none⟩=false:=Zq H8.out 4;replace hb:=(hb.setCell (p:=⟨b7,4,none⟩) m7 (.string ⟨q.toArray⟩)).setCell (p:=⟨b8,4,none⟩) m8 (.string ⟨d.toArray⟩);go_wp2_with fail
 with_reducible refine (KH.out.e.of hG hb).mono ?_
 rintro e w7 ⟨rfl,hb7⟩;clear q4 q5 r1 r2 r3 r4 KH;replace H2:=Lh (((H2.out.setO n27).setO n28).below hb7);replace H4:=Lh (Zw (hoth (hoth H4.out (Ne.symm n74)) (Ne.symm n84)) hb7);replace H5:=Lh (Zw (hoth (hoth H5.out (Ne.symm n75)) (Ne.symm n85)) hb7);replace H7:=Lh (Zw (hoth (hset _ H7.out) hne78) hb7);replace H8:=Lh (Zw (hset _ (hoth H8.out n87)) hb7);replace hb:=bto hb hb7;clear hb7;have q6:=H2.out.c 6;have r1:w7.cell? ⟨b7,5,none⟩=some (.string ⟨x.cost.toArray⟩):=Zh H7.out 5;have r2:w7.frozen? ⟨b7,5,none⟩=false:=Zq H7.out 5;have r3:w7.cell? ⟨b8,5,none⟩=some (.string ⟨x.cost.toArray⟩):=Zh H8.out 5;have r4:w7.frozen? ⟨b8,5,none⟩=false:=Zq H8.out 5;replace hb:=(hb.setCell (p:=⟨b7,5,none⟩) m7 (.string ⟨sa.toArray⟩)).setCell (p:=⟨b8,5,none⟩) m8 (.string ⟨sb.toArray⟩);have HB:=Lh hb;clear hb;obtain⟨W9,hW9⟩:∃W9,W9=(w7.setCell ⟨b7,5,none⟩ (.string ⟨sa.toArray⟩)).setCell ⟨b8,5,none⟩ (.string ⟨sb.toArray⟩):=⟨_,rfl⟩
 have H4b:Hid (W9.heap[b4]?=some (.cells #[.string ⟨#[]⟩,.string ⟨#[]⟩,.int .i64 0,.int .i64 0,.string ⟨#[]⟩,.string ⟨#[]⟩,.string ⟨#[]⟩] 130 (0,0))):=by show _=_;rw[hW9];exact hoth (hoth H4.out (Ne.symm n74)) (Ne.symm n84)
 have H5b:Hid (W9.heap[b5]?=some (.cells #[.string ⟨#[]⟩,.string ⟨#[]⟩,.int .i64 0,.int .i64 0,.string ⟨#[]⟩,.string ⟨#[]⟩,.string ⟨#[]⟩] 130 (0,0))):=by show _=_;rw[hW9];exact hoth (hoth H5.out (Ne.symm n75)) (Ne.symm n85)
 have H7b:Hid (W9.heap[b7]?=some (.cells #[.string ⟨x.id.toArray⟩,.string ⟨x.ins.toArray⟩,.int .i64 x.acq,.int .i64 x.opn,.string ⟨q.toArray⟩,.string ⟨sa.toArray⟩,.string ⟨x.used.toArray⟩] 130 (0,0))):=by show _=_;rw[hW9];exact hoth (hset _ H7.out) hne78
 have H8b:Hid (W9.heap[b8]?=some (.cells #[.string ⟨x.id.toArray⟩,.string ⟨x.ins.toArray⟩,.int .i64 x.acq,.int .i64 x.opn,.string ⟨d.toArray⟩,.string ⟨sb.toArray⟩,.string ⟨x.used.toArray⟩] 130 (0,0))):=by show _=_;rw[hW9];exact hset _ (hoth H8.out n87)
 rw[<-hW9] at HB;have HW9:=Lh hW9;clear H4 H5 H7 H8 H2 hW9;have hn7:∀{F:Fx},(∀b,F b≠none->b=b4∨b=b5)->¬(F b7≠none):=fun h hc=>by rcases h b7 hc with e|e<;>omega
 have hn8:∀{F:Fx},(∀b,F b≠none->b=b4∨b=b5)->¬(F b8≠none):=fun h hc=>by rcases h b8 hc with e|e<;>omega
 by_cases hu:x.used=[]
 ·have e1:(x.used==[])=true:=by rw[hu];rfl
  have e2:x.used.isEmpty=true:=by rw[hu];rfl
  have K7:Hid (Blk W9 b7 #[Value.string ⟨xa.id.toArray⟩,Value.string ⟨xa.ins.toArray⟩,Value.int .i64 xa.acq,Value.int .i64 xa.opn,Value.string ⟨xa.q.toArray⟩,Value.string ⟨xa.cost.toArray⟩,Value.string ⟨xa.used.toArray⟩]):=by rw[(HA1.out hu).1];exact⟨130,H7b.out⟩
  have K8:Hid (Blk W9 b8 #[Value.string ⟨xb.id.toArray⟩,Value.string ⟨xb.ins.toArray⟩,Value.int .i64 xb.acq,Value.int .i64 xb.opn,Value.string ⟨xb.q.toArray⟩,Value.string ⟨xb.cost.toArray⟩,Value.string ⟨xb.used.toArray⟩]):=by rw[(HA1.out hu).2];exact⟨130,H8b.out⟩
  have H4:=H4b;have H5:=H5b;clear hu HA1 HA2 H7b H8b H4b H5b;go_wp2_with fail;rw[<-HW9.out];clear q6 r1 r2 r3 r4 e1 e2;have hne:=hne45;obtain⟨F,hF⟩:∃F:Fx,F=fun b=>if b=b4 then some (.cells #[.string ⟨#[]⟩,.string ⟨#[]⟩,.int .i64 0,.int .i64 0,.string ⟨#[]⟩,.string ⟨#[]⟩,.string ⟨#[]⟩] 130 (0,0)) else if b=b5 then some (.cells #[.string ⟨#[]⟩,.string ⟨#[]⟩,.int .i64 0,.int .i64 0,.string ⟨#[]⟩,.string ⟨#[]⟩,.string ⟨#[]⟩] 130 (0,0)) else none:=⟨_,rfl⟩
  have f1:F b4=some (.cells #[.string ⟨#[]⟩,.string ⟨#[]⟩,.int .i64 0,.int .i64 0,.string ⟨#[]⟩,.string ⟨#[]⟩,.string ⟨#[]⟩] 130 (0,0)):=by rw[hF];exact if_pos rfl
  have f2:F b5=some (.cells #[.string ⟨#[]⟩,.string ⟨#[]⟩,.int .i64 0,.int .i64 0,.string ⟨#[]⟩,.string ⟨#[]⟩,.string ⟨#[]⟩] 130 (0,0)):=by rw[hF];exact (if_neg (Ne.symm hne)).trans (if_pos rfl)
  have hX:∀b,F b≠none->b=b4∨b=b5:=fun b hb=>by
   rw[hF] at hb;dsimp only at hb
   by_cases h1:b=b4
   ·exact .inl h1
   ·by_cases h2:b=b5
    ·exact .inr h2
    ·rw[if_neg h1,if_neg h2] at hb;exact absurd rfl hb
  have HFF:Hid (∀b ob,F b=some ob->W9.heap[b]?=some ob):=fun b ob h=>by
   rw[hF] at h;dsimp only at h
   by_cases h1:b=b4
   ·rw[if_pos h1] at h;rw[h1,<-h];exact H4.out
   ·rw[if_neg h1] at h
    by_cases h2:b=b5
    ·rw[if_pos h2] at h;rw[h2,<-h];exact H5.out
    ·rw[if_neg h2] at h;cases h
  obtain⟨tch,htch⟩:∃tch:Nat->List Nat,tch=fun b=>if b=b4 then [2] else if b=b5 then [3] else []:=⟨_,rfl⟩
  clear hF;have f2b:(fun kb=>if kb=b4 then some (Obj.cells (Xt #[.string ⟨#[]⟩,.string ⟨#[]⟩,.int .i64 0,.int .i64 0,.string ⟨#[]⟩,.string ⟨#[]⟩,.string ⟨#[]⟩] 0 (lcs xa)) 130 (0,0)) else F kb) b5=some (.cells #[.string ⟨#[]⟩,.string ⟨#[]⟩,.int .i64 0,.int .i64 0,.string ⟨#[]⟩,.string ⟨#[]⟩,.string ⟨#[]⟩] 130 (0,0)):=(if_neg (Ne.symm hne)).trans f2
  refine Z0 tch F (by kernel_rfl) (by kernel_rfl) (by kernel_rfl) HFF.out ?_
  refine Zj (.agg #[Value.string ⟨xa.id.toArray⟩,Value.string ⟨xa.ins.toArray⟩,Value.int .i64 xa.acq,Value.int .i64 xa.opn,Value.string ⟨xa.q.toArray⟩,Value.string ⟨xa.cost.toArray⟩,Value.string ⟨xa.used.toArray⟩]) rfl (fun wz hw=>ZK 130 _ rfl b7 0 rfl (lcs xa) _ (WX (K7.out.keepX hw (hn7 hX))).out Tryz.underlying130 rfl (by rw[HZ.out];rfl)) ?_
  simp only[Act.put,StT,StZ,StS,Nat.reduceAdd];refine Zj (.agg #[Value.string ⟨xb.id.toArray⟩,Value.string ⟨xb.ins.toArray⟩,Value.int .i64 xb.acq,Value.int .i64 xb.opn,Value.string ⟨xb.q.toArray⟩,Value.string ⟨xb.cost.toArray⟩,Value.string ⟨xb.used.toArray⟩]) rfl (fun wz hw=>ZK 130 _ rfl b8 0 rfl (lcs xb) _ (WX (K8.out.keepX hw (hn8 hX))).out Tryz.underlying130 rfl (by rw[HZ.out];rfl)) ?_
  simp only[Act.put,StT,StZ,StS,Nat.reduceAdd];refine Xn b4 0 #[.string ⟨#[]⟩,.string ⟨#[]⟩,.int .i64 0,.int .i64 0,.string ⟨#[]⟩,.string ⟨#[]⟩,.string ⟨#[]⟩] (lcs xa) 130 f1 (by simp[htch]) (fun j oj hj=>ZJ (l:=[2]) (by kernel_rfl) j oj (by simpa [htch] using hj)) rfl (fun wz hw hc hf=>ZQ 130 _ _ rfl b4 0 #[Value.string ⟨xa.id.toArray⟩,Value.string ⟨xa.ins.toArray⟩,Value.int .i64 xa.acq,Value.int .i64 xa.opn,Value.string ⟨xa.q.toArray⟩,Value.string ⟨xa.cost.toArray⟩,Value.string ⟨xa.used.toArray⟩] rfl rfl (V0 hc hf) (by rw[HZ.out];rfl) (Ul xa)) ?_
  simp only[Act.put,Nat.reduceAdd];refine Xn b5 0 #[.string ⟨#[]⟩,.string ⟨#[]⟩,.int .i64 0,.int .i64 0,.string ⟨#[]⟩,.string ⟨#[]⟩,.string ⟨#[]⟩] (lcs xb) 130 f2b (by simp[htch,Ne.symm hne]) (fun j oj hj=>ZJ (l:=[3]) (by kernel_rfl) j oj (by simpa [htch,Ne.symm hne] using hj)) rfl (fun wz hw hc hf=>ZQ 130 _ _ rfl b5 0 #[Value.string ⟨xb.id.toArray⟩,Value.string ⟨xb.ins.toArray⟩,Value.int .i64 xb.acq,Value.int .i64 xb.opn,Value.string ⟨xb.q.toArray⟩,Value.string ⟨xb.cost.toArray⟩,Value.string ⟨xb.used.toArray⟩] rfl rfl (V0 hc hf) (by rw[HZ.out];rfl) (Ul xb)) ?_
  simp only[Act.put,Nat.reduceAdd];refine Zj _ rfl (fun wz hw=>by go_simp;try with_reducible rfl) ?_
  simp only[Act.put,StT,StZ,StS,Nat.reduceAdd];refine Y9 (fun wf hFf=>?_)
  have k4:Blk wf b4 #[Value.string ⟨xa.id.toArray⟩,Value.string ⟨xa.ins.toArray⟩,Value.int .i64 xa.acq,Value.int .i64 xa.opn,Value.string ⟨xa.q.toArray⟩,Value.string ⟨xa.cost.toArray⟩,Value.string ⟨xa.used.toArray⟩]:=⟨130,hFf.box b4 _ ((if_neg hne).trans (if_pos rfl))⟩;have k5:Blk wf b5 #[Value.string ⟨xb.id.toArray⟩,Value.string ⟨xb.ins.toArray⟩,Value.int .i64 xb.acq,Value.int .i64 xb.opn,Value.string ⟨xb.q.toArray⟩,Value.string ⟨xb.cost.toArray⟩,Value.string ⟨xb.used.toArray⟩]:=⟨130,hFf.box b5 _ (if_pos rfl)⟩;have hbf:=hFf.below.lower HB.out (fun k hk=>by rcases hX k hk with e|e<;>rw[e]<;>assumption)
  have c0:=k4.c 0;have d0:=k5.c 0;have c1:=k4.c 1;have d1:=k5.c 1;have c2:=k4.c 2;have d2:=k5.c 2;have c3:=k4.c 3;have d3:=k5.c 3;have c4:=k4.c 4;have d4:=k5.c 4;have c5:=k4.c 5;have d5:=k5.c 5;have c6:=k4.c 6;have d6:=k5.c 6;clear hFf f1 f2 f2b hX HFF htch k4 k5;go_wp2;refine bodyPost_ret (v:=.tuple #[(Value.agg #[Value.string ⟨xa.id.toArray⟩,Value.string ⟨xa.ins.toArray⟩,Value.int .i64 xa.acq,Value.int .i64 xa.opn,Value.string ⟨xa.q.toArray⟩,Value.string ⟨xa.cost.toArray⟩,Value.string ⟨xa.used.toArray⟩]),(Value.agg #[Value.string ⟨xb.id.toArray⟩,Value.string ⟨xb.ins.toArray⟩,Value.int .i64 xb.acq,Value.int .i64 xb.opn,Value.string ⟨xb.q.toArray⟩,Value.string ⟨xb.cost.toArray⟩,Value.string ⟨xb.used.toArray⟩]),.int .i64 0]) (by simp[results,Tryz.results215,go_sem,c0,c1,c2,c3,c4,c5,c6,d0,d1,d2,d3,d4,d5,d6]) rfl ?_
  exact⟨by rw[HXA.out,HXB.out],hbf⟩
 ·have e1:(x.used==[])=false:=by rw[Bn];exact hu
  have e2:x.used.isEmpty=false:=by rw[List.isEmpty_eq_false_iff];exact hu
  have H7:=H7b;have H8:=H8b;obtain⟨ha1,ha2⟩:=HA2.out hu;have HA:=Lh (And.intro ha1 ha2);clear hu HA1 HA2 H7b H8b ha1 ha2;go_wp2_with fail;rw[<-HW9.out];clear q6 r1 r2 r3 r4 e1 e2 HW9;have hne:=hne78;obtain⟨F,hF⟩:∃F:Fx,F=fun b=>if b=b7 then some (.cells #[.string ⟨x.id.toArray⟩,.string ⟨x.ins.toArray⟩,.int .i64 x.acq,.int .i64 x.opn,.string ⟨q.toArray⟩,.string ⟨sa.toArray⟩,.string ⟨x.used.toArray⟩] 130 (0,0)) else if b=b8 then some (.cells #[.string ⟨x.id.toArray⟩,.string ⟨x.ins.toArray⟩,.int .i64 x.acq,.int .i64 x.opn,.string ⟨d.toArray⟩,.string ⟨sb.toArray⟩,.string ⟨x.used.toArray⟩] 130 (0,0)) else none:=⟨_,rfl⟩
  have f1:F b7=some (.cells #[.string ⟨x.id.toArray⟩,.string ⟨x.ins.toArray⟩,.int .i64 x.acq,.int .i64 x.opn,.string ⟨q.toArray⟩,.string ⟨sa.toArray⟩,.string ⟨x.used.toArray⟩] 130 (0,0)):=by rw[hF];exact if_pos rfl
  have f2:F b8=some (.cells #[.string ⟨x.id.toArray⟩,.string ⟨x.ins.toArray⟩,.int .i64 x.acq,.int .i64 x.opn,.string ⟨d.toArray⟩,.string ⟨sb.toArray⟩,.string ⟨x.used.toArray⟩] 130 (0,0)):=by rw[hF];exact (if_neg (Ne.symm hne)).trans (if_pos rfl)
  have hX:∀b,F b≠none->b=b7∨b=b8:=fun b hb=>by
   rw[hF] at hb;dsimp only at hb
   by_cases h1:b=b7
   ·exact .inl h1
   ·by_cases h2:b=b8
    ·exact .inr h2
    ·rw[if_neg h1,if_neg h2] at hb;exact absurd rfl hb
  have HFF:Hid (∀b ob,F b=some ob->W9.heap[b]?=some ob):=fun b ob h=>by
   rw[hF] at h;dsimp only at h
   by_cases h1:b=b7
   ·rw[if_pos h1] at h;rw[h1,<-h];exact H7.out
   ·rw[if_neg h1] at h
    by_cases h2:b=b8
    ·rw[if_pos h2] at h;rw[h2,<-h];exact H8.out
    ·rw[if_neg h2] at h;cases h
  obtain⟨tch,htch⟩:∃tch:Nat->List Nat,tch=fun b=>if b=b7 then [1,5] else if b=b8 then [3,7] else []:=⟨_,rfl⟩
  clear hF;have f2b:(fun kb=>if kb=b7 then some (Obj.cells (Array.setIfInBounds (#[.string ⟨x.id.toArray⟩,.string ⟨x.ins.toArray⟩,.int .i64 x.acq,.int .i64 x.opn,.string ⟨q.toArray⟩,.string ⟨sa.toArray⟩,.string ⟨x.used.toArray⟩]) 6 (.string ⟨q.toArray⟩)) 130 (0,0)) else F kb) b8=some (.cells #[.string ⟨x.id.toArray⟩,.string ⟨x.ins.toArray⟩,.int .i64 x.acq,.int .i64 x.opn,.string ⟨d.toArray⟩,.string ⟨sb.toArray⟩,.string ⟨x.used.toArray⟩] 130 (0,0)):=(if_neg (Ne.symm hne)).trans f2
  refine Z0 tch F (by kernel_rfl) (by kernel_rfl) (by kernel_rfl) HFF.out ?_
  refine Zj _ rfl (fun wz hw=>by go_simp;try with_reducible rfl) ?_
  simp only[Act.put,StT,StZ,StS,Nat.reduceAdd];refine Xr b7 #[.string ⟨x.id.toArray⟩,.string ⟨x.ins.toArray⟩,.int .i64 x.acq,.int .i64 x.opn,.string ⟨q.toArray⟩,.string ⟨sa.toArray⟩,.string ⟨x.used.toArray⟩] 130 (.string ⟨q.toArray⟩) f1 (by simp[htch]) rfl (fun wz hw hc=>by have q0:wz.cell? ⟨b7,4,none⟩=some (.string ⟨q.toArray⟩):=hc 4;clear hc;go_simp;try with_reducible rfl) ?_
  simp only[Act.put,StT,StZ,StS,Nat.reduceAdd];refine Zj _ rfl (fun wz hw=>by go_simp;try with_reducible rfl) ?_
  simp only[Act.put,StT,StZ,StS,Nat.reduceAdd];refine Xr b8 #[.string ⟨x.id.toArray⟩,.string ⟨x.ins.toArray⟩,.int .i64 x.acq,.int .i64 x.opn,.string ⟨d.toArray⟩,.string ⟨sb.toArray⟩,.string ⟨x.used.toArray⟩] 130 (.string ⟨d.toArray⟩) f2 (by simp[htch,Ne.symm hne]) rfl (fun wz hw hc=>by have q0:wz.cell? ⟨b8,4,none⟩=some (.string ⟨d.toArray⟩):=hc 4;clear hc;go_simp;try with_reducible rfl) ?_
  simp only[Act.put,StT,StZ,StS,Nat.reduceAdd];refine Zj _ rfl (fun wz hw=>by go_simp;try with_reducible rfl) ?_
  simp only[Act.put,StT,StZ,StS,Nat.reduceAdd];refine Xs b7 6 #[.string ⟨x.id.toArray⟩,.string ⟨x.ins.toArray⟩,.int .i64 x.acq,.int .i64 x.opn,.string ⟨q.toArray⟩,.string ⟨sa.toArray⟩,.string ⟨x.used.toArray⟩] (.string ⟨q.toArray⟩) 130 f1 (by simp[htch]) (fun j oj hj=>ZJ (l:=[1,5]) (by kernel_rfl) j oj (by simpa [htch] using hj)) rfl (fun wz hw hc hf=>by have q0:wz.cell? ⟨b7,6,none⟩=some (.string ⟨x.used.toArray⟩):=hc 6;have q1:=hf 6;clear hc hf;go_simp;try with_reducible rfl) ?_
  simp only[Act.put,Nat.reduceAdd];refine Zj _ rfl (fun wz hw=>by go_simp;try with_reducible rfl) ?_
  simp only[Act.put,StT,StZ,StS,Nat.reduceAdd];refine Xs b8 6 #[.string ⟨x.id.toArray⟩,.string ⟨x.ins.toArray⟩,.int .i64 x.acq,.int .i64 x.opn,.string ⟨d.toArray⟩,.string ⟨sb.toArray⟩,.string ⟨x.used.toArray⟩] (.string ⟨d.toArray⟩) 130 f2b (by simp[htch,Ne.symm hne]) (fun j oj hj=>ZJ (l:=[3,7]) (by kernel_rfl) j oj (by simpa [htch,Ne.symm hne] using hj)) rfl (fun wz hw hc hf=>by have q0:wz.cell? ⟨b8,6,none⟩=some (.string ⟨x.used.toArray⟩):=hc 6;have q1:=hf 6;clear hc hf;go_simp;try with_reducible rfl) ?_
  simp only[Act.put,Nat.reduceAdd];refine Y9 (fun w9 hF9=>?_)
  have K7:Hid (Blk w9 b7 #[Value.string ⟨xa.id.toArray⟩,Value.string ⟨xa.ins.toArray⟩,Value.int .i64 xa.acq,Value.int .i64 xa.opn,Value.string ⟨xa.q.toArray⟩,Value.string ⟨xa.cost.toArray⟩,Value.string ⟨xa.used.toArray⟩]):=by rw[HA.out.1];exact⟨130,hF9.box b7 _ ((if_neg hne).trans (if_pos rfl))⟩
  have K8:Hid (Blk w9 b8 #[Value.string ⟨xb.id.toArray⟩,Value.string ⟨xb.ins.toArray⟩,Value.int .i64 xb.acq,Value.int .i64 xb.opn,Value.string ⟨xb.q.toArray⟩,Value.string ⟨xb.cost.toArray⟩,Value.string ⟨xb.used.toArray⟩]):=by rw[HA.out.2];exact⟨130,hF9.box b8 _ (if_pos rfl)⟩
  have H4:Hid (w9.heap[b4]?=some (.cells #[.string ⟨#[]⟩,.string ⟨#[]⟩,.int .i64 0,.int .i64 0,.string ⟨#[]⟩,.string ⟨#[]⟩,.string ⟨#[]⟩] 130 (0,0))):=(hF9.below.block _ (Ag.1 H4b.out).1 (fun hc=>by rcases hX _ hc with e|e<;>omega)).trans H4b.out
  have H5:Hid (w9.heap[b5]?=some (.cells #[.string ⟨#[]⟩,.string ⟨#[]⟩,.int .i64 0,.int .i64 0,.string ⟨#[]⟩,.string ⟨#[]⟩,.string ⟨#[]⟩] 130 (0,0))):=(hF9.below.block _ (Ag.1 H5b.out).1 (fun hc=>by rcases hX _ hc with e|e<;>omega)).trans H5b.out
  have HB9:=Lh (hF9.below.lower HB.out (fun k hk=>by rcases hX k hk with e|e<;>rw[e]<;>assumption))
  clear hF9 f1 f2 f2b hX HFF htch H7 H8 H4b H5b HA HB hne;go_wp2_with fail;have hne:=hne45;obtain⟨F,hF⟩:∃F:Fx,F=fun b=>if b=b4 then some (.cells #[.string ⟨#[]⟩,.string ⟨#[]⟩,.int .i64 0,.int .i64 0,.string ⟨#[]⟩,.string ⟨#[]⟩,.string ⟨#[]⟩] 130 (0,0)) else if b=b5 then some (.cells #[.string ⟨#[]⟩,.string ⟨#[]⟩,.int .i64 0,.int .i64 0,.string ⟨#[]⟩,.string ⟨#[]⟩,.string ⟨#[]⟩] 130 (0,0)) else none:=⟨_,rfl⟩
  have f1:F b4=some (.cells #[.string ⟨#[]⟩,.string ⟨#[]⟩,.int .i64 0,.int .i64 0,.string ⟨#[]⟩,.string ⟨#[]⟩,.string ⟨#[]⟩] 130 (0,0)):=by rw[hF];exact if_pos rfl
  have f2:F b5=some (.cells #[.string ⟨#[]⟩,.string ⟨#[]⟩,.int .i64 0,.int .i64 0,.string ⟨#[]⟩,.string ⟨#[]⟩,.string ⟨#[]⟩] 130 (0,0)):=by rw[hF];exact (if_neg (Ne.symm hne)).trans (if_pos rfl)
  have hX:∀b,F b≠none->b=b4∨b=b5:=fun b hb=>by
   rw[hF] at hb;dsimp only at hb
   by_cases h1:b=b4
   ·exact .inl h1
   ·by_cases h2:b=b5
    ·exact .inr h2
    ·rw[if_neg h1,if_neg h2] at hb;exact absurd rfl hb
  have HFF:Hid (∀b ob,F b=some ob->w9.heap[b]?=some ob):=fun b ob h=>by
   rw[hF] at h;dsimp only at h
   by_cases h1:b=b4
   ·rw[if_pos h1] at h;rw[h1,<-h];exact H4.out
   ·rw[if_neg h1] at h
    by_cases h2:b=b5
    ·rw[if_pos h2] at h;rw[h2,<-h];exact H5.out
    ·rw[if_neg h2] at h;cases h
  obtain⟨tch,htch⟩:∃tch:Nat->List Nat,tch=fun b=>if b=b4 then [2] else if b=b5 then [3] else []:=⟨_,rfl⟩
  clear hF;have f2b:(fun kb=>if kb=b4 then some (Obj.cells (Xt #[.string ⟨#[]⟩,.string ⟨#[]⟩,.int .i64 0,.int .i64 0,.string ⟨#[]⟩,.string ⟨#[]⟩,.string ⟨#[]⟩] 0 (lcs xa)) 130 (0,0)) else F kb) b5=some (.cells #[.string ⟨#[]⟩,.string ⟨#[]⟩,.int .i64 0,.int .i64 0,.string ⟨#[]⟩,.string ⟨#[]⟩,.string ⟨#[]⟩] 130 (0,0)):=(if_neg (Ne.symm hne)).trans f2
  refine Z0 tch F (by kernel_rfl) (by kernel_rfl) (by kernel_rfl) HFF.out ?_
  refine Zj (.agg #[Value.string ⟨xa.id.toArray⟩,Value.string ⟨xa.ins.toArray⟩,Value.int .i64 xa.acq,Value.int .i64 xa.opn,Value.string ⟨xa.q.toArray⟩,Value.string ⟨xa.cost.toArray⟩,Value.string ⟨xa.used.toArray⟩]) rfl (fun wz hw=>ZK 130 _ rfl b7 0 rfl (lcs xa) _ (WX (K7.out.keepX hw (hn7 hX))).out Tryz.underlying130 rfl (by rw[HZ.out];rfl)) ?_
  simp only[Act.put,StT,StZ,StS,Nat.reduceAdd];refine Zj (.agg #[Value.string ⟨xb.id.toArray⟩,Value.string ⟨xb.ins.toArray⟩,Value.int .i64 xb.acq,Value.int .i64 xb.opn,Value.string ⟨xb.q.toArray⟩,Value.string ⟨xb.cost.toArray⟩,Value.string ⟨xb.used.toArray⟩]) rfl (fun wz hw=>ZK 130 _ rfl b8 0 rfl (lcs xb) _ (WX (K8.out.keepX hw (hn8 hX))).out Tryz.underlying130 rfl (by rw[HZ.out];rfl)) ?_
  simp only[Act.put,StT,StZ,StS,Nat.reduceAdd];refine Xn b4 0 #[.string ⟨#[]⟩,.string ⟨#[]⟩,.int .i64 0,.int .i64 0,.string ⟨#[]⟩,.string ⟨#[]⟩,.string ⟨#[]⟩] (lcs xa) 130 f1 (by simp[htch]) (fun j oj hj=>ZJ (l:=[2]) (by kernel_rfl) j oj (by simpa [htch] using hj)) rfl (fun wz hw hc hf=>ZQ 130 _ _ rfl b4 0 #[Value.string ⟨xa.id.toArray⟩,Value.string ⟨xa.ins.toArray⟩,Value.int .i64 xa.acq,Value.int .i64 xa.opn,Value.string ⟨xa.q.toArray⟩,Value.string ⟨xa.cost.toArray⟩,Value.string ⟨xa.used.toArray⟩] rfl rfl (V0 hc hf) (by rw[HZ.out];rfl) (Ul xa)) ?_
  simp only[Act.put,Nat.reduceAdd];refine Xn b5 0 #[.string ⟨#[]⟩,.string ⟨#[]⟩,.int .i64 0,.int .i64 0,.string ⟨#[]⟩,.string ⟨#[]⟩,.string ⟨#[]⟩] (lcs xb) 130 f2b (by simp[htch,Ne.symm hne]) (fun j oj hj=>ZJ (l:=[3]) (by kernel_rfl) j oj (by simpa [htch,Ne.symm hne] using hj)) rfl (fun wz hw hc hf=>ZQ 130 _ _ rfl b5 0 #[Value.string ⟨xb.id.toArray⟩,Value.string ⟨xb.ins.toArray⟩,Value.int .i64 xb.acq,Value.int .i64 xb.opn,Value.string ⟨xb.q.toArray⟩,Value.string ⟨xb.cost.toArray⟩,Value.string ⟨xb.used.toArray⟩] rfl rfl (V0 hc hf) (by rw[HZ.out];rfl) (Ul xb)) ?_
  simp only[Act.put,Nat.reduceAdd];refine Zj _ rfl (fun wz hw=>by go_simp;try with_reducible rfl) ?_
  simp only[Act.put,StT,StZ,StS,Nat.reduceAdd];refine Y9 (fun wf hFf=>?_)
  have k4:Blk wf b4 #[Value.string ⟨xa.id.toArray⟩,Value.string ⟨xa.ins.toArray⟩,Value.int .i64 xa.acq,Value.int .i64 xa.opn,Value.string ⟨xa.q.toArray⟩,Value.string ⟨xa.cost.toArray⟩,Value.string ⟨xa.used.toArray⟩]:=⟨130,hFf.box b4 _ ((if_neg hne).trans (if_pos rfl))⟩;have k5:Blk wf b5 #[Value.string ⟨xb.id.toArray⟩,Value.string ⟨xb.ins.toArray⟩,Value.int .i64 xb.acq,Value.int .i64 xb.opn,Value.string ⟨xb.q.toArray⟩,Value.string ⟨xb.cost.toArray⟩,Value.string ⟨xb.used.toArray⟩]:=⟨130,hFf.box b5 _ (if_pos rfl)⟩;have hbf:=hFf.below.lower HB9.out (fun k hk=>by rcases hX k hk with e|e<;>rw[e]<;>assumption)
  have c0:=k4.c 0;have d0:=k5.c 0;have c1:=k4.c 1;have d1:=k5.c 1;have c2:=k4.c 2;have d2:=k5.c 2;have c3:=k4.c 3;have d3:=k5.c 3;have c4:=k4.c 4;have d4:=k5.c 4;have c5:=k4.c 5;have d5:=k5.c 5;have c6:=k4.c 6;have d6:=k5.c 6;clear hFf f1 f2 f2b hX HFF htch k4 k5;go_wp2;refine bodyPost_ret (v:=.tuple #[(Value.agg #[Value.string ⟨xa.id.toArray⟩,Value.string ⟨xa.ins.toArray⟩,Value.int .i64 xa.acq,Value.int .i64 xa.opn,Value.string ⟨xa.q.toArray⟩,Value.string ⟨xa.cost.toArray⟩,Value.string ⟨xa.used.toArray⟩]),(Value.agg #[Value.string ⟨xb.id.toArray⟩,Value.string ⟨xb.ins.toArray⟩,Value.int .i64 xb.acq,Value.int .i64 xb.opn,Value.string ⟨xb.q.toArray⟩,Value.string ⟨xb.cost.toArray⟩,Value.string ⟨xb.used.toArray⟩]),.int .i64 0]) (by simp[results,Tryz.results215,go_sem,c0,c1,c2,c3,c4,c5,c6,d0,d1,d2,d3,d4,d5,d6]) rfl ?_
  exact⟨by rw[HXA.out,HXB.out],hbf⟩
def cfF (x y:Lot):Int:=QP x.acq y.acq
theorem AQ (x y:Lot) (w:World):Calls Tryz.prog 269 #[(Value.agg #[Value.string ⟨x.id.toArray⟩,Value.string ⟨x.ins.toArray⟩,Value.int .i64 x.acq,Value.int .i64 x.opn,Value.string ⟨x.q.toArray⟩,Value.string ⟨x.cost.toArray⟩,Value.string ⟨x.used.toArray⟩]),(Value.agg #[Value.string ⟨y.id.toArray⟩,Value.string ⟨y.ins.toArray⟩,Value.int .i64 y.acq,Value.int .i64 y.opn,Value.string ⟨y.q.toArray⟩,Value.string ⟨y.cost.toArray⟩,Value.string ⟨y.used.toArray⟩])] w fun e w'=>e=.returned (.int .i64 (cfF x y))/\Below w.heap.size w w':=by
 have C1:=Lh (fun w'=>Zbh x.acq y.acq w')
 obtain⟨v,hv⟩:∃v,v=cfF x y:=⟨_,rfl⟩
 rw[show QP x.acq y.acq=v from hv.symm] at C1
 rw[<-hv];clear hv;have hbA:=Zd w (.cells #[Value.string ⟨x.id.toArray⟩,Value.string ⟨x.ins.toArray⟩,Value.int .i64 x.acq,Value.int .i64 x.opn,Value.string ⟨x.q.toArray⟩,Value.string ⟨x.cost.toArray⟩,Value.string ⟨x.used.toArray⟩] 130);have hbB:=Zd (w.alloc (.cells #[Value.string ⟨x.id.toArray⟩,Value.string ⟨x.ins.toArray⟩,Value.int .i64 x.acq,Value.int .i64 x.opn,Value.string ⟨x.q.toArray⟩,Value.string ⟨x.cost.toArray⟩,Value.string ⟨x.used.toArray⟩] 130)) (.cells #[Value.string ⟨y.id.toArray⟩,Value.string ⟨y.ins.toArray⟩,Value.int .i64 y.acq,Value.int .i64 y.opn,Value.string ⟨y.q.toArray⟩,Value.string ⟨y.cost.toArray⟩,Value.string ⟨y.used.toArray⟩] 130);have x1:Xf ((w.alloc (.cells #[Value.string ⟨x.id.toArray⟩,Value.string ⟨x.ins.toArray⟩,Value.int .i64 x.acq,Value.int .i64 x.opn,Value.string ⟨x.q.toArray⟩,Value.string ⟨x.cost.toArray⟩,Value.string ⟨x.used.toArray⟩] 130)).alloc (.cells #[Value.string ⟨y.id.toArray⟩,Value.string ⟨y.ins.toArray⟩,Value.int .i64 y.acq,Value.int .i64 y.opn,Value.string ⟨y.q.toArray⟩,Value.string ⟨y.cost.toArray⟩,Value.string ⟨y.used.toArray⟩] 130)) w.heap.size x:=(Xf.new w x 130).below hbB;have x2:Xf ((w.alloc (.cells #[Value.string ⟨x.id.toArray⟩,Value.string ⟨x.ins.toArray⟩,Value.int .i64 x.acq,Value.int .i64 x.opn,Value.string ⟨x.q.toArray⟩,Value.string ⟨x.cost.toArray⟩,Value.string ⟨x.used.toArray⟩] 130)).alloc (.cells #[Value.string ⟨y.id.toArray⟩,Value.string ⟨y.ins.toArray⟩,Value.int .i64 y.acq,Value.int .i64 y.opn,Value.string ⟨y.q.toArray⟩,Value.string ⟨y.cost.toArray⟩,Value.string ⟨y.used.toArray⟩] 130)) (w.heap.size+1) y:=by
  have:=Xf.new (w.alloc (.cells #[Value.string ⟨x.id.toArray⟩,Value.string ⟨x.ins.toArray⟩,Value.int .i64 x.acq,Value.int .i64 x.opn,Value.string ⟨x.q.toArray⟩,Value.string ⟨x.cost.toArray⟩,Value.string ⟨x.used.toArray⟩] 130)) y 130
  rwa [show (w.alloc (.cells #[Value.string ⟨x.id.toArray⟩,Value.string ⟨x.ins.toArray⟩,Value.int .i64 x.acq,Value.int .i64 x.opn,Value.string ⟨x.q.toArray⟩,Value.string ⟨x.cost.toArray⟩,Value.string ⟨x.used.toArray⟩] 130)).heap.size=w.heap.size+1 by simp] at this
 have hb:=bto hbA hbB;clear hbA hbB;have q0:=x1.c2;have q1:=x2.c2;clear x1 x2;go_enter Tryz.func269,Tryz.ntmps269;go_wp2_with fail
 with_reducible refine (C1.out _).mono ?_
 rintro e w3 ⟨rfl,rfl⟩;go_wp2;go_ret;exact⟨rfl,hb⟩
theorem Ei (args:Array Value) (w:World):(callFunc 269 args).run Tryz.prog w=.ok (.enter 269 args) w:=by kernel_rfl
theorem ZS {P:Program} (fn:Func) (a:Tmp) (t:TypeId) {tmps:Array Value} {w:World} {b:Nat} (cs:Array Value) {d:TypeDesc} (hr:fn.results=#[.cell a t]) (ha:tmps.getD a undef=.pointer (some ⟨b,0,none⟩)) (hc:w.rangeAt b 0 cs.toList)
  (hu:P.underlying t=some d) (hd:d.isRow=true) (hi:(P.info? t).map (·.size)=some cs.size):(results fn tmps).run P w=.ok (.agg cs) w:=by
 unfold results;rw[hr];have h:=run_loadVar_mid w b 0 t cs.toList d hc hu hd (by simpa using hi)
 have ha':tmps[a]?.getD undef=.pointer (some ⟨b,0,none⟩):=by rw[<-Array.getD_eq_getD_getElem?];exact ha
 simp[ha',asAddr,h]
theorem results_cell_tmp {P:Program} (fn:Func) (a c:Tmp) (t:TypeId) {tmps:Array Value} {w:World} {b:Nat} (cs:Array Value) (u:Value) {d:TypeDesc} (hr:fn.results=#[.cell a t,.tmp c]) (ha:tmps.getD a undef=.pointer (some ⟨b,0,none⟩)) (hcu:tmps.getD c undef=u) (hc:w.rangeAt b 0 cs.toList)
  (hu:P.underlying t=some d) (hd:d.isRow=true) (hi:(P.info? t).map (·.size)=some cs.size):(results fn tmps).run P w=.ok (.tuple #[.agg cs,u]) w:=by
 unfold results;rw[hr];have h:=run_loadVar_mid w b 0 t cs.toList d hc hu hd (by simpa using hi)
 have ha':tmps[a]?.getD undef=.pointer (some ⟨b,0,none⟩):=by rw[<-Array.getD_eq_getD_getElem?];exact ha
 have hc':tmps[c]?.getD undef=u:=by rw[<-Array.getD_eq_getD_getElem?];exact hcu
 simp[ha',hc',asAddr,h]
theorem X5 {w:World} {b:Nat} {cs:Array Value} {t:TypeId} (h:w.heap[b]?=some (.cells cs t (0,0))):w.there b 0 cs.size:=fun j hj=>by
 rw[Nat.zero_add];exact⟨by rw[Zh h,Array.getElem?_eq_getElem hj];rfl,Zq h _⟩
theorem ZD {w:World} {b:Nat} {cs:Array Value} {t:TypeId} (h:w.heap[b]?=some (.cells cs t (0,0))):w.rangeAt b 0 cs.toList:=fun j v hv=>by
 rw[Nat.zero_add,Zh h,<-hv,Array.getElem?_toList]
def WQ (bf:Nat):Array Value:=#[.string ⟨#[]⟩,.nilFunc,.bool false,.string ⟨#[102,105,102,111]⟩,.func (.func 269) #[] #[],.bool false,.string ⟨#[108,105,102,111]⟩,.func (.func 269) #[] #[],.bool true,.string ⟨#[104,105,103,104,101,115,116]⟩,.func (.func 274) #[] #[.pointer (some ⟨bf,0,none⟩)],.bool false,.string ⟨#[108,111,119,101,115,116]⟩,.func (.func 271) #[] #[.pointer (some ⟨bf,0,none⟩)],.bool false,.string ⟨#[110,97,109,101,100]⟩,.func (.func 269) #[] #[],.bool false,.string ⟨#[97,118,101,114,97,103,101]⟩,.func (.func 269) #[] #[],.bool false]
theorem Lb (bf:Nat):(WQ bf).all (·.oneCell')=true:=by simp[WQ,Value.oneCell']
theorem Tm (bf:Nat):(WQ bf).size=21:=rfl
theorem Nc:(Tryz.prog.info? 293).map (·.size)=some 21:=by kernel_rfl
theorem Jd:(Tryz.prog.info? 240).map (·.size)=some 3:=by kernel_rfl
theorem Ql:∀(l pre suf:List Value),suf.length=l.length->Xt (pre++suf).toArray pre.length l=(pre++l).toArray
 | [],pre,suf,h=>by
  have:suf=[]:=List.eq_nil_of_length_eq_zero h
  subst this;rfl
 | v::l,pre,[],h=>by simp at h
 | v::l,pre,s::suf,h=>by
  have ih:=Ql l (pre++[v]) suf (by simpa using h)
  unfold Xt;have e:(pre++s::suf).toArray.setIfInBounds pre.length v=(pre++[v]++suf).toArray:=by simp
  rw[e,show pre.length+1=(pre++[v]).length by simp,ih]
  simp
theorem Nf (bf:Nat):Xt #[.string ⟨#[]⟩,.nilFunc,.bool false,.string ⟨#[]⟩,.nilFunc,.bool false,.string ⟨#[]⟩,.nilFunc,.bool false,.string ⟨#[]⟩,.nilFunc,.bool false,.string ⟨#[]⟩,.nilFunc,.bool false,.string ⟨#[]⟩,.nilFunc,.bool false,.string ⟨#[]⟩,.nilFunc,.bool false] 0 (WQ bf).toList=WQ bf:=by
 have h:=Ql (WQ bf).toList [] [.string ⟨#[]⟩,.nilFunc,.bool false,.string ⟨#[]⟩,.nilFunc,.bool false,.string ⟨#[]⟩,.nilFunc,.bool false,.string ⟨#[]⟩,.nilFunc,.bool false,.string ⟨#[]⟩,.nilFunc,.bool false,.string ⟨#[]⟩,.nilFunc,.bool false,.string ⟨#[]⟩,.nilFunc,.bool false] rfl;exact h
theorem P6 {P:Program} {ops:Array Oper} {rest:List Oper} {op:Oper} {a:Act} {w:World} {Q:Exit->Act->World->Prop} (hgd:op.guard=none) (ty:TypeId) (fs:Array (Nat×Operand)) (_ho:op.op=.build ty fs) (v:Value) (hr:(execOp a.eval op).run P w=.ok (.value v) w)
  (h:wpList P ops Q rest (a.put op.dst v) w):wpList P ops Q (op::rest) a w:=by
 exact wpList_plain hgd fun K hK=>by
  unfold Oper.wp;rw[hr];exact hK _ _ h
def Zbn (w:World) (e:Ending) (w':World):Prop:=∃bf,e=.returned (.agg (WQ bf))/\w.heap.size<=bf/\Blk w' bf #[.func (.func 269) #[] #[]]/\Below w.heap.size w w'
theorem Ej (w:World):Calls Tryz.prog 208 #[] w (Zbn w):=by
 have HZ:=Lh Nc;have hbA:=Zd w (.cells #[.string ⟨#[]⟩,.nilFunc,.bool false,.string ⟨#[]⟩,.nilFunc,.bool false,.string ⟨#[]⟩,.nilFunc,.bool false,.string ⟨#[]⟩,.nilFunc,.bool false,.string ⟨#[]⟩,.nilFunc,.bool false,.string ⟨#[]⟩,.nilFunc,.bool false,.string ⟨#[]⟩,.nilFunc,.bool false] 293);have hbB:=Zd (w.alloc (.cells #[.string ⟨#[]⟩,.nilFunc,.bool false,.string ⟨#[]⟩,.nilFunc,.bool false,.string ⟨#[]⟩,.nilFunc,.bool false,.string ⟨#[]⟩,.nilFunc,.bool false,.string ⟨#[]⟩,.nilFunc,.bool false,.string ⟨#[]⟩,.nilFunc,.bool false,.string ⟨#[]⟩,.nilFunc,.bool false] 293)) (.cells #[.func (.func 269) #[] #[]] 238);have hb:=bto hbA hbB;have hz:(w.alloc (.cells #[.string ⟨#[]⟩,.nilFunc,.bool false,.string ⟨#[]⟩,.nilFunc,.bool false,.string ⟨#[]⟩,.nilFunc,.bool false,.string ⟨#[]⟩,.nilFunc,.bool false,.string ⟨#[]⟩,.nilFunc,.bool false,.string ⟨#[]⟩,.nilFunc,.bool false,.string ⟨#[]⟩,.nilFunc,.bool false] 293)).heap.size=w.heap.size+1:=by simp
 have hA:Hid (((w.alloc (.cells #[.string ⟨#[]⟩,.nilFunc,.bool false,.string ⟨#[]⟩,.nilFunc,.bool false,.string ⟨#[]⟩,.nilFunc,.bool false,.string ⟨#[]⟩,.nilFunc,.bool false,.string ⟨#[]⟩,.nilFunc,.bool false,.string ⟨#[]⟩,.nilFunc,.bool false,.string ⟨#[]⟩,.nilFunc,.bool false] 293)).alloc (.cells #[.func (.func 269) #[] #[]] 238)).heap[w.heap.size]?=some (.cells #[.string ⟨#[]⟩,.nilFunc,.bool false,.string ⟨#[]⟩,.nilFunc,.bool false,.string ⟨#[]⟩,.nilFunc,.bool false,.string ⟨#[]⟩,.nilFunc,.bool false,.string ⟨#[]⟩,.nilFunc,.bool false,.string ⟨#[]⟩,.nilFunc,.bool false,.string ⟨#[]⟩,.nilFunc,.bool false] 293 (0,0))):=Zw (ZF w _) hbB;have hB:Hid (((w.alloc (.cells #[.string ⟨#[]⟩,.nilFunc,.bool false,.string ⟨#[]⟩,.nilFunc,.bool false,.string ⟨#[]⟩,.nilFunc,.bool false,.string ⟨#[]⟩,.nilFunc,.bool false,.string ⟨#[]⟩,.nilFunc,.bool false,.string ⟨#[]⟩,.nilFunc,.bool false,.string ⟨#[]⟩,.nilFunc,.bool false] 293)).alloc (.cells #[.func (.func 269) #[] #[]] 238)).heap[w.heap.size+1]?=some (.cells #[.func (.func 269) #[] #[]] 238 (0,0))):=by
  have:=ZF (w.alloc (.cells #[.string ⟨#[]⟩,.nilFunc,.bool false,.string ⟨#[]⟩,.nilFunc,.bool false,.string ⟨#[]⟩,.nilFunc,.bool false,.string ⟨#[]⟩,.nilFunc,.bool false,.string ⟨#[]⟩,.nilFunc,.bool false,.string ⟨#[]⟩,.nilFunc,.bool false,.string ⟨#[]⟩,.nilFunc,.bool false] 293)) (.cells #[.func (.func 269) #[] #[]] 238)
  rwa [hz] at this
 have q0:((w.alloc (.cells #[.string ⟨#[]⟩,.nilFunc,.bool false,.string ⟨#[]⟩,.nilFunc,.bool false,.string ⟨#[]⟩,.nilFunc,.bool false,.string ⟨#[]⟩,.nilFunc,.bool false,.string ⟨#[]⟩,.nilFunc,.bool false,.string ⟨#[]⟩,.nilFunc,.bool false,.string ⟨#[]⟩,.nilFunc,.bool false] 293)).alloc (.cells #[.func (.func 269) #[] #[]] 238)).cell? ⟨w.heap.size+1,0,none⟩=some (.func (.func 269) #[] #[]):=Zh hB.out 0;have hM:=Lb (w.heap.size+1);have hS:=Nf (w.heap.size+1);clear hbA hbB hz;have hTH:((w.alloc (.cells #[.string ⟨#[]⟩,.nilFunc,.bool false,.string ⟨#[]⟩,.nilFunc,.bool false,.string ⟨#[]⟩,.nilFunc,.bool false,.string ⟨#[]⟩,.nilFunc,.bool false,.string ⟨#[]⟩,.nilFunc,.bool false,.string ⟨#[]⟩,.nilFunc,.bool false,.string ⟨#[]⟩,.nilFunc,.bool false] 293)).alloc (.cells #[.func (.func 269) #[] #[]] 238)).there w.heap.size 0 (WQ (w.heap.size+1)).size:=by rw[Tm];exact X5 hA.out
 have hIN:(Tryz.prog.info? 293).map (·.size)=some (WQ (w.heap.size+1)).size:=by rw[Tm];exact HZ.out
 have hT:=Ti w.heap.size 293 (WQ (w.heap.size+1)).toList 0 _ _ hA.out;rw[hS] at hT;have hb2:Below w.heap.size w (((w.alloc (.cells #[.string ⟨#[]⟩,.nilFunc,.bool false,.string ⟨#[]⟩,.nilFunc,.bool false,.string ⟨#[]⟩,.nilFunc,.bool false,.string ⟨#[]⟩,.nilFunc,.bool false,.string ⟨#[]⟩,.nilFunc,.bool false,.string ⟨#[]⟩,.nilFunc,.bool false,.string ⟨#[]⟩,.nilFunc,.bool false] 293)).alloc (.cells #[.func (.func 269) #[] #[]] 238)).setCells w.heap.size 0 (WQ (w.heap.size+1)).toList):=
  (ZR (X:=fun k=>k=w.heap.size) rfl _ _ _).lower hb (fun k hk=>by rw[hk];exact Nl _)
 have hN:=hT.new;have hO:=(hT.old (w.heap.size+1) (by omega)).trans hB.out
 have HN:=Lh hN;have HO:=Lh hO;have HB2:=Lh hb2;clear hN hO hA hB hT hb hS hb2;go_enter Tryz.func208,Tryz.ntmps208
 go_wp2_with (first
  | (refine P6 rfl 293 _ rfl (.agg (WQ (w.heap.size+1))) (by unfold WQ;go_simp;first|done|with_reducible rfl|rfl) ?_)
  | (refine wpList_store_mid rfl 293 (.tmp 0) (.tmp 18) rfl w.heap.size 0 (WQ (w.heap.size+1)) rfl rfl hTH hIN hM ?_))
 refine bodyPost_ret (v:=.agg (WQ (w.heap.size+1))) ?_ rfl ?_
 ·exact ZS Tryz.f208 0 293 (WQ (w.heap.size+1)) rfl rfl (ZD HN.out) Tryz.underlying293 rfl HZ.out
 exact⟨w.heap.size+1,rfl,Nat.le_succ _,⟨_,HO.out⟩,HB2.out⟩
def ZaM (w:World) (nm:Value) (fv:Nat->Value) (rv:Bool) (e:Ending) (w':World):Prop:=∃bf,e=.returned (.tuple #[.agg #[nm,fv bf,.bool rv],.bool true])/\w.heap.size<=bf/\Blk w' bf #[.func (.func 269) #[] #[]]/\Below w.heap.size w w'
theorem AR (w:World):Calls Tryz.prog 158 #[.int .i64 1] w (ZaM w (.string ⟨#[102,105,102,111]⟩) (fun _=>.func (.func 269) #[] #[]) false):=by
 have HZ:=Lh Nc;have HE:=Lh Jd;have hb:=Zd w (.cells #[.string ⟨#[]⟩,.nilFunc,.bool false] 240);have hr:Hid ((w.alloc (.cells #[.string ⟨#[]⟩,.nilFunc,.bool false] 240)).heap[w.heap.size]?=some (.cells #[.string ⟨#[]⟩,.nilFunc,.bool false] 240 (0,0))):=ZF w _;have C1:=Lh (Ej (w.alloc (.cells #[.string ⟨#[]⟩,.nilFunc,.bool false] 240)));go_enter Tryz.func158,Tryz.ntmps158;go_wp2_with fail;refine C1.out.mono ?_;rintro e w1 ⟨bf,rfl,hbf,hB,hb1⟩;have hr1:=Lh (Zw hr.out hb1);have hbf2:w.heap.size<=bf:=by
  have h1:(w.alloc (.cells #[.string ⟨#[]⟩,.nilFunc,.bool false] 240)).heap.size=w.heap.size+1:=by simp
  omega
 replace hb:=bto hb hb1;have hlr:w.heap.size<w1.heap.size:=(Ag.1 hr1.out).1;have hne:w1.heap.size≠w.heap.size:=by omega
 have hbA:=Zd w1 (.cells #[.string ⟨#[]⟩,.nilFunc,.bool false,.string ⟨#[]⟩,.nilFunc,.bool false,.string ⟨#[]⟩,.nilFunc,.bool false,.string ⟨#[]⟩,.nilFunc,.bool false,.string ⟨#[]⟩,.nilFunc,.bool false,.string ⟨#[]⟩,.nilFunc,.bool false,.string ⟨#[]⟩,.nilFunc,.bool false] 293);have hA:Hid ((w1.alloc (.cells #[.string ⟨#[]⟩,.nilFunc,.bool false,.string ⟨#[]⟩,.nilFunc,.bool false,.string ⟨#[]⟩,.nilFunc,.bool false,.string ⟨#[]⟩,.nilFunc,.bool false,.string ⟨#[]⟩,.nilFunc,.bool false,.string ⟨#[]⟩,.nilFunc,.bool false,.string ⟨#[]⟩,.nilFunc,.bool false] 293)).heap[w1.heap.size]?=some (.cells #[.string ⟨#[]⟩,.nilFunc,.bool false,.string ⟨#[]⟩,.nilFunc,.bool false,.string ⟨#[]⟩,.nilFunc,.bool false,.string ⟨#[]⟩,.nilFunc,.bool false,.string ⟨#[]⟩,.nilFunc,.bool false,.string ⟨#[]⟩,.nilFunc,.bool false,.string ⟨#[]⟩,.nilFunc,.bool false] 293 (0,0))):=ZF w1 _;have hM:=Lb bf;have hS:=Nf bf;have HB:=Lh (hB.below hbA);have hbl:=hB.lt;have hr2:=Lh (Zw hr1.out hbA);replace hb:=bto hb hbA;clear hr hr1 C1 hbf hB hb1 hbA;have hTH:(w1.alloc (.cells #[.string ⟨#[]⟩,.nilFunc,.bool false,.string ⟨#[]⟩,.nilFunc,.bool false,.string ⟨#[]⟩,.nilFunc,.bool false,.string ⟨#[]⟩,.nilFunc,.bool false,.string ⟨#[]⟩,.nilFunc,.bool false,.string ⟨#[]⟩,.nilFunc,.bool false,.string ⟨#[]⟩,.nilFunc,.bool false] 293)).there w1.heap.size 0 (WQ bf).size:=by rw[Tm];exact X5 hA.out
 have hIN:(Tryz.prog.info? 293).map (·.size)=some (WQ bf).size:=by rw[Tm];exact HZ.out
 have hT:=Ti w1.heap.size 293 (WQ bf).toList 0 _ _ hA.out;rw[hS] at hT;have hb2:Below w.heap.size w ((w1.alloc (.cells #[.string ⟨#[]⟩,.nilFunc,.bool false,.string ⟨#[]⟩,.nilFunc,.bool false,.string ⟨#[]⟩,.nilFunc,.bool false,.string ⟨#[]⟩,.nilFunc,.bool false,.string ⟨#[]⟩,.nilFunc,.bool false,.string ⟨#[]⟩,.nilFunc,.bool false,.string ⟨#[]⟩,.nilFunc,.bool false] 293)).setCells w1.heap.size 0 (WQ bf).toList):=
  (ZR (X:=fun k=>k=w1.heap.size) rfl _ _ _).lower hb (fun k hk=>by rw[hk];omega)
 have hN:=Lh hT.new;have hr3:Hid (((w1.alloc (.cells #[.string ⟨#[]⟩,.nilFunc,.bool false,.string ⟨#[]⟩,.nilFunc,.bool false,.string ⟨#[]⟩,.nilFunc,.bool false,.string ⟨#[]⟩,.nilFunc,.bool false,.string ⟨#[]⟩,.nilFunc,.bool false,.string ⟨#[]⟩,.nilFunc,.bool false,.string ⟨#[]⟩,.nilFunc,.bool false] 293)).setCells w1.heap.size 0 (WQ bf).toList).heap[w.heap.size]?=some (.cells #[.string ⟨#[]⟩,.nilFunc,.bool false] 240 (0,0))):=(hT.old _ (by omega)).trans hr2.out
 have HB2:Hid (Blk ((w1.alloc (.cells #[.string ⟨#[]⟩,.nilFunc,.bool false,.string ⟨#[]⟩,.nilFunc,.bool false,.string ⟨#[]⟩,.nilFunc,.bool false,.string ⟨#[]⟩,.nilFunc,.bool false,.string ⟨#[]⟩,.nilFunc,.bool false,.string ⟨#[]⟩,.nilFunc,.bool false,.string ⟨#[]⟩,.nilFunc,.bool false] 293)).setCells w1.heap.size 0 (WQ bf).toList) bf #[.func (.func 269) #[] #[]]):=by
  obtain⟨t0,h0⟩:=HB.out;exact⟨t0,(hT.old bf (by omega)).trans h0⟩
 obtain⟨W2,hW2⟩:∃W2,W2=((w1.alloc (.cells #[.string ⟨#[]⟩,.nilFunc,.bool false,.string ⟨#[]⟩,.nilFunc,.bool false,.string ⟨#[]⟩,.nilFunc,.bool false,.string ⟨#[]⟩,.nilFunc,.bool false,.string ⟨#[]⟩,.nilFunc,.bool false,.string ⟨#[]⟩,.nilFunc,.bool false,.string ⟨#[]⟩,.nilFunc,.bool false] 293)).setCells w1.heap.size 0 (WQ bf).toList):=⟨_,rfl⟩
 rw[<-hW2] at hN hr3 HB2 hb2;clear hA hT hS HB hr2 hb;have p0:W2.cell? ⟨w1.heap.size,3,none⟩=some (.string ⟨#[102,105,102,111]⟩):=Zh hN.out 3;have p1:W2.cell? ⟨w1.heap.size,4,none⟩=some (.func (.func 269) #[] #[]):=Zh hN.out 4;have p2:W2.cell? ⟨w1.heap.size,5,none⟩=some (.bool false):=Zh hN.out 5;have g0:W2.cell? ⟨w.heap.size,0,none⟩=some (.string ⟨#[]⟩):=Zh hr3.out 0;have g1:W2.cell? ⟨w.heap.size,1,none⟩=some .nilFunc:=Zh hr3.out 1;have g2:W2.cell? ⟨w.heap.size,2,none⟩=some (.bool false):=Zh hr3.out 2;have f0:W2.frozen? ⟨w.heap.size,0,none⟩=false:=Zq hr3.out 0;have f1:W2.frozen? ⟨w.heap.size,1,none⟩=false:=Zq hr3.out 1;have f2:W2.frozen? ⟨w.heap.size,2,none⟩=false:=Zq hr3.out 2;have hR:(((W2.setCell ⟨w.heap.size,0,none⟩ (.string ⟨#[102,105,102,111]⟩)).setCell ⟨w.heap.size,1,none⟩ (.func (.func 269) #[] #[])).setCell ⟨w.heap.size,2,none⟩ (.bool false)).rangeAt w.heap.size 0 [.string ⟨#[102,105,102,111]⟩,.func (.func 269) #[] #[],.bool false]:=ZD (hset _ (hset _ (hset _ hr3.out)));have HW2:=Lh hW2;clear hW2;go_wp2_with (refine wpList_store_mid rfl 293 (.tmp 4) (.tmp 5) rfl w1.heap.size 0 (WQ bf) rfl rfl hTH hIN hM ?_;rw[<-HW2.out]);refine bodyPost_ret (v:=.tuple #[.agg #[.string ⟨#[102,105,102,111]⟩,.func (.func 269) #[] #[],.bool false],.bool true]) ?_ rfl ?_
 ·exact results_cell_tmp Tryz.f158 2 3 240 #[.string ⟨#[102,105,102,111]⟩,.func (.func 269) #[] #[],.bool false] (.bool true) rfl rfl rfl hR Tryz.underlying240 rfl HE.out
 refine⟨bf,rfl,hbf2,?_,((hb2.setCell (p:=⟨w.heap.size,0,none⟩) (Nl _) _).setCell (p:=⟨w.heap.size,1,none⟩) (Nl _) _).setCell (p:=⟨w.heap.size,2,none⟩) (Nl _) _⟩;have hn:bf≠w.heap.size:=by
  intro e
  have:=HB2.out
  rw[e] at this;obtain⟨t0,h0⟩:=this;rw[hr3.out] at h0;cases h0
 exact ((HB2.out.setO hn).setO hn).setO hn
def Gg (cap:Bool) (bf:Nat):Array Value:=if cap=true then #[.pointer (some ⟨bf,0,none⟩)] else #[]
def ZaN (f:Nat) (cap:Bool):Prop:=(f=269/\cap=false)∨(f=271/\cap=true)∨(f=274/\cap=true)
def ZaO (m:Int) (w:World) (e:Ending) (w':World):Prop:=∃(nm:List UInt8) (f:Nat) (cap rv:Bool) (bf:Nat),e=.returned (.tuple #[.agg #[.string ⟨nm.toArray⟩,.func (.func f) #[] (Gg cap bf),.bool rv],.bool true])/\w.heap.size<=bf/\Blk w' bf #[.func (.func 269) #[] #[]]/\Below w.heap.size w w'/\ZaN f cap/\(m=1->f=269/\cap=false/\rv=false)
def BS (w:World) (own:List Lot) (n f:Nat) (rv:Bool) (e:Ending) (w':World):Prop:=∃g cp zs,e=.returned (.slice (some ⟨g,0,none⟩) n cp)/\w.heap.size<=g/\YD w' g zs/\zs.Perm own/\Below w.heap.size w w'/\(rv=false->f=269->n<=20->OI cfF own->zs=own)
theorem Zbo {w0 w:World} {g n c f:Nat} {caps:Array Value} {cf:Lot->Lot->Int} {xs ys:List Lot} (H:Hu w0 g xs f caps cf) (h:SAt w0 g xs w ys) (hn:xs.length=n) (hn2:n<20) :
  Calls Tryz.prog 275 #[.slice (some ⟨g,0,none⟩) n c,.int .i64 (n:Int),.func (.func f) #[] caps] w (BP w0 g xs ys n cf):=by
 have HS:=Lh h;have HN:=Lh hn;have HH:=Lh H;have e1:decide (20<=n)=false:=Df (by omega)
 have e2:decide ((20:Int)<=(n:Int))=false:=Df (by omega)
 have e3:decide (20<n)=false:=Df (by omega)
 have e4:decide ((20:Int)<(n:Int))=false:=Df (by omega)
 clear h hn H;go_enter Tryz.func275,Tryz.ntmps275;go_wp2_with fail
 go_loopw [7,8] (fun av bv wr=>av=.int .i64 0/\bv=.int .i64 20/\Hid (SAt w0 g xs wr ys)) (fun _ _ _=>0)
 case atStart=>exact⟨rfl,rfl,HS.out⟩
 case round=>
  clear HS;obtain⟨rfl,rfl,HS⟩:=hrel;go_wp2_with fail;refine (Zbf HH.out HS.out HN.out (by omega) 0 n (Nat.zero_le _) (Nl _)).mono ?_
  rintro e w2 ⟨rfl,zs2,hs2,ho2⟩;have HS2:=Lh hs2;have HO2:=Lh ho2;clear hs2 ho2 HS;go_wp2_with fail
  rename World=>wo
  go_loopw [6,7,8,9] (fun sv _ _ _ wr=>sv=.int .i64 20/\Hid (SAt w0 g xs wr zs2)) (fun _ _ _ _ _=>0)
  case atStart=>exact⟨rfl,HS2.out⟩
  case round=>
   clear HS2;obtain⟨rfl,HS⟩:=hrel;go_wp2
   go_end0
   exact⟨rfl,zs2,HS.out,fun _=>HO2.out⟩
theorem Cq {w:World} {g n c f:Nat} {caps:Array Value} {cf:Lot->Lot->Int} {xs:List Lot} (H:Hu w g xs f caps cf) (h:YD w g xs) (hn:xs.length=n) (hn2:n<20) :
  Calls Tryz.prog 211 #[.slice (some ⟨g,0,none⟩) n c,.func (.func f) #[] caps] w (BP w g xs xs n cf):=by
 have C1:=Lh (Zbo (c:=c) H ⟨h,List.Perm.refl _,Zr.refl _ _⟩ hn hn2);clear H h hn;go_enter Tryz.func211,Tryz.ntmps211;go_wp2_with fail;refine C1.out.mono ?_;rintro e w2 ⟨rfl,zs,hs,ho⟩;have HS:=Lh hs;have HO:=Lh ho;clear hs ho C1;go_wp2
 go_end0
 exact⟨rfl,zs,HS.out,HO.out⟩
theorem YX {w:World} {b:Nat} {old cs:Array Value} {ty:TypeId} (h:w.heap[b]?=some (.cells old ty (0,0))) (hs:old.size=cs.size):w.there b 0 cs.size/\Xi w (w.setCells b 0 cs.toList) b (.cells cs ty (0,0)):=by
 refine⟨fun j hj=>⟨by rw[Zh h,Array.getElem?_eq_getElem (by omega)];rfl,Zq h _⟩,?_⟩
 have h1:=Ti b ty cs.toList 0 old w h;have h2:=Ql cs.toList [] old.toList (by simpa using hs)
 simp only[List.nil_append,List.length_nil,Array.toArray_toList] at h2
 rwa [h2] at h1
theorem Cr {w:World} {own:List Lot} {A:Option Addr} {n:Nat} (c:Nat) (_:GE w) (hL:Xl w A own n) (h0:1<=n) (hn20:n<20) (nm:List UInt8) (bf:Nat) (hB:Blk w bf #[.func (.func 269) #[] #[]]) :
  Calls Tryz.prog 167 #[.agg #[.string ⟨nm.toArray⟩,.func (.func 269) #[] (#[]),.bool false],.slice A n c] w (BS w own n 269 false):=by
 have hn:=hL.big;have HS:=Lh hL.sm;have HL:=Lh hL.len;have hbA:=Zd w (.cells #[.string ⟨nm.toArray⟩,.func (.func 269) #[] (#[]),.bool false] 240);have HE:=Lh (Blk.new w #[.string ⟨nm.toArray⟩,.func (.func 269) #[] (#[]),.bool false] 240);have C1:=Lh (Hs A own n c _ hL.len h0 (by omega) (hL.mem.below hbA))
 have hbl:=hB.lt;have HBA:=Lh (hB.below hbA);clear hL hB;go_enter Tryz.func167,Tryz.ntmps167;go_wp2_with fail;refine C1.out.mono ?_;rintro e w1 ⟨g,cp,rfl,hg,hr,hb1⟩;have hsz:(w.alloc (.cells #[.string ⟨nm.toArray⟩,.func (.func 269) #[] (#[]),.bool false] 240)).heap.size=w.heap.size+1:=by simp
 have hg0:w.heap.size<=g:=by omega
 have hgb:w.heap.size≠g:=by omega
 have hgbf:bf≠g:=by omega
 have HE1:=Lh (HE.out.below hb1);have HBF:=Lh (HBA.out.below hb1);replace hb1:=bto hbA hb1;replace hg:=hg0;have HSC:Hid (Hu w1 g own 269 (#[]) cfF):=⟨Ei,fun W x y hb hx hy=>AQ x y W⟩
 have CS:=Lh (Cq (c:=cp) HSC.out hr HL.out hn20);have q1:=HE1.out.c 1;clear hr hsz HSC hbA HE HBA C1;go_wp2_with fail;refine CS.out.mono ?_;rintro e w2 ⟨rfl,zs,hz,ho⟩;have HZS:=Lh hz;have HO:=Lh ho;have q2:=(HE1.out.keepX hz.bw hgb).c 2;clear q1 CS hz ho HE1;have HR:Hid (BS w own n 269 false (.returned (.slice (some ⟨g,0,none⟩) n cp)) w2):=⟨g,cp,zs,rfl,hg0,HZS.out.row,HZS.out.perm,HZS.out.bw.lower hb1 (fun k hk=>by rw[hk];exact hg),fun _ _ h20 ho=>HO.out h20 ho⟩
 clear HZS;go_wp2;go_ret;exact HR.out
theorem Ek (w:World):Calls Tryz.prog 158 #[.int .i64 1] w (ZaO 1 w):=
 (AR w).mono fun _ _ ⟨bf,he,h1,h2,h3⟩=>⟨[102,105,102,111],269,false,false,bf,he,h1,h2,h3,.inl ⟨rfl,rfl⟩,fun _=>⟨rfl,rfl,rfl⟩⟩
theorem AS (w:World):Calls Tryz.prog 90 #[.int .i64 1] w fun e w'=>(∃s:List UInt8,e=.returned (.tuple #[.string ⟨s.toArray⟩,.int .i64 0]))/\Below w.heap.size w w':=by
 have C1:=Lh (Ek w);go_enter Tryz.func90,Tryz.ntmps90;go_wp2_with fail;refine C1.out.mono ?_;rintro e w1 ⟨nm,f,cap,rv,bf,rfl,-,-,hb,-,-⟩;have hbA:=Zd w1 (.cells #[.string ⟨nm.toArray⟩,.func (.func f) #[] (Gg cap bf),.bool rv] 240);have B:=Blk.new w1 #[.string ⟨nm.toArray⟩,.func (.func f) #[] (Gg cap bf),.bool rv] 240;have p0:=B.c 0;replace hb:=bto hb hbA;clear hbA B C1;go_wp2;go_ret2;exact⟨⟨nm,rfl⟩,hb⟩
section
variable {P:Program} {w:World}
theorem V1 (base:Nat) (t ty e:TypeId) (i:TypeInfo) (z:Value) (size bytes:Nat) (ht:P.underlying t=some (.slice e)) (hi:P.info? e=some i) (hz:i.zero=some z)
  (hsize:i.size=size) (hby:i.bytes=bytes) (hzs:z.cells.size=size) (hsz:0<size)
  (v:Value) (n:Nat) (xs:List Value) (hown:w.ownsRow base e size v n xs)
  (a:Addr) (m c:Nat) (news:List Value) (hl:news.length=m*size) (hnews:∀j u,news[j]?=some u->w.cell? (a.add j)=some u) (h1:∀u∈news,u.oneCell'=true)
  (h63:n+m<=maxLen) (hbytes:(n+m)*bytes<=140737488355328) {v':Value} {w':World} (hr:(Builtin.append_ #[t,t] ty #[v,.slice (some a) m c]).run P w=.ok v' w') :
  ∀g,v'.ownBlock=some g->v.ownBlock=some g∨w.heap.size<=g:=by
 intro g hg;have hsmall:n+m<=9223372036854775807:=by simp only[maxLen] at h63;omega
 rcases hown.2 with ⟨rfl,rfl⟩|⟨g0,cap,cur,rfl,hbg,hgg,hnc,hcm,hcs,htake⟩
 ·obtain⟨v2,w2,hr2,h2,-,-⟩:=run_append_own (P:=P) w w.heap.size t ty e i z size bytes ht hi hz hsize hby hzs hsz (.slice none 0 0) 0 [] (World.ownsRow_nil w w.heap.size e size) a m c news hl hnews h1 h63 hbytes (Nl _);rw[hr] at hr2;injection hr2 with e1 e2
  subst e1 e2;exact .inr (h2.lt g hg).1
 ·subst hsize;subst hby
  by_cases hroom:n+m<=cap
  ·have hfit:n*i.size+news.length<=cur.size:=by rw[hl,hcs,<-Nat.add_mul];exact Nat.mul_le_mul_right _ hroom
   have hr2:=run_append_room (P:=P) w t ty e i ht hi g0 n cap cur hgg a m c news hl hnews h1 hroom hfit;rw[hr] at hr2;injection hr2 with e1 e2
   subst e1;exact .inl hg
  ·have holds:∀j u,xs[j]?=some u->w.cell? ((⟨g0,0,none⟩:Addr).add j)=some u:=hown.cells (g:=g0) rfl
   have hr2:=run_append_grow (P:=P) w t ty e i z ht hi hz ⟨g0,0,none⟩ n cap xs hown.1 holds a m c news hl hnews (by omega) (by omega) (growslice_fits (by omega) hbytes)
   rw[hr] at hr2;injection hr2 with e1 e2
   subst e1;injection hg with hg
   exact .inr (Nat.le_of_eq hg)
theorem ZM {ops:Array Oper} {rest:List Oper} {o:Oper} {a:Act} {Q:Exit->Act->World->Prop} (hgd:o.guard=none) (s x:Operand) (t:TypeId)
  (ho:o.op=.call { callee:=.builtin .append,args:=#[s,x],argTypes:=#[t,t] })
  (base:Nat) (e:TypeId) (i:TypeInfo) (z:Value) (size bytes:Nat) (ht:P.underlying t=some (.slice e)) (hi:P.info? e=some i) (hz:i.zero=some z)
  (hsize:i.size=size) (hby:i.bytes=bytes) (hzs:z.cells.size=size) (hsz:0<size)
  (v:Value) (n:Nat) (xs:List Value) (hs:a.eval s=v) (hown:w.ownsRow base e size v n xs)
  (ad:Addr) (m c:Nat) (news:List Value) (hx:a.eval x=.slice (some ad) m c) (hl:news.length=m*size) (hnews:∀j u,news[j]?=some u->w.cell? (ad.add j)=some u) (h1:∀u∈news,u.oneCell'=true)
  (h63:n+m<=maxLen) (hbytes:(n+m)*bytes<=140737488355328) (hbase:base<=w.heap.size)
  (h:∀v' w',w'.ownsRow base e size v' (n+m) (xs++news)->w.grownBy w' v.ownBlock->(∀g,v'.ownBlock=some g->v.ownBlock=some g∨w.heap.size<=g)->wpList P ops Q rest (a.put o.dst v') w'):wpList P ops Q (o::rest) a w:=
 wpList_plain hgd fun _ hK=>by
  obtain⟨v',w',hr,h2,h3,-⟩:=run_append_own (P:=P) w base t o.type e i z size bytes ht hi hz hsize hby hzs hsz v n xs hown ad m c news hl hnews h1 h63 hbytes hbase;have h5:=V1 (P:=P) base t o.type e i z size bytes ht hi hz hsize hby hzs hsz v n xs hown ad m c news hl hnews h1 h63 hbytes hr;unfold Oper.wp execOp;simp only[ho,resolve,invoke,builtin,Sem.run_bind,Sem.run_pure,Result.andThen_ok,List.map_toArray,List.map_cons,List.map_nil,hs,hx,hr];exact hK _ _ (h v' w' h2 h3 h5)
end
def Dis (u v:Value):Prop:=∀g,u.ownBlock=some g->v.ownBlock≠some g
theorem Dis.symm {u v:Value} (h:Dis u v):Dis v u:=fun g hv hu=>h g hu hv
theorem Dis.fresh {u u' v:Value} {N:Nat} (h:Dis u v) (hf:∀g,u'.ownBlock=some g->u.ownBlock=some g∨N<=g) (hv:∀g,v.ownBlock=some g->g<N):Dis u' v:=fun g hu hg=>by
 rcases hf g hu with h1|h1
 ·exact h g h1 hg
 ·have:=hv g hg;omega
theorem Lc {u u':Value} {N b:Nat} (h:u.ownBlock≠some b) (hf:∀g,u'.ownBlock=some g->u.ownBlock=some g∨N<=g) (hb:b<N):u'.ownBlock≠some b:=fun hu=>by
 rcases hf b hu with h1|h1
 ·exact h h1
 ·omega
def WF (xs:List Pk):List Value:=xs.flatMap (fun x=>[.string ⟨x.lot.toArray⟩,.string ⟨x.q.toArray⟩])
theorem T7 (x:Pk) (xs:List Pk):WF (x::xs)=.string ⟨x.lot.toArray⟩::.string ⟨x.q.toArray⟩::WF xs:=rfl
theorem Ng:∀xs:List Pk,(WF xs).length=xs.length*2
 | []=>rfl
 | x::xs=>by rw[T7,List.length_cons,List.length_cons,Ng xs,List.length_cons];omega
theorem Gh (xs ys:List Pk):WF (xs++ys)=WF xs++WF ys:=List.flatMap_append
theorem SJ:∀{xs:List Pk} {i:Nat} {x:Pk},xs[i]?=some x->(WF xs)[i*2]?=some (.string ⟨x.lot.toArray⟩)/\(WF xs)[i*2+1]?=some (.string ⟨x.q.toArray⟩)
 | [],i,x,h=>by simp at h
 | y::xs,0,x,h=>by
  have:y=x:=by simpa using h
  subst this;exact⟨rfl,rfl⟩
 | y::xs,i+1,x,h=>by
  obtain⟨h1,h2⟩:=SJ (xs:=xs) (i:=i) (x:=x) (by simpa using h)
  rw[T7,show (i+1)*2=i*2+1+1 by omega]
  exact⟨by simpa using h1,by simpa using h2⟩
theorem Nh:∀{xs:List Pk} {i:Nat} {x:Pk} (a:List UInt8),xs[i]?=some x->(WF xs).set (i*2+1) (.string ⟨a.toArray⟩)=WF (xs.set i ⟨x.lot,a⟩)
 | [],i,x,a,h=>by simp at h
 | y::xs,0,x,a,h=>by
  have:y=x:=by simpa using h
  subst this;rfl
 | y::xs,i+1,x,a,h=>by
  have h1:=Nh (xs:=xs) (i:=i) (x:=x) a (by simpa using h)
  rw[T7,show (i+1)*2+1=(i*2+1)+1+1 by omega,List.set_cons_succ,List.set_cons_succ,h1];rfl
def OK (w:World) (g:Nat) (qs:List Pk):Prop:=∃cur:Array Value,w.heap[g]?=some (.cells cur 195 (0,0))/\cur.toList.take (qs.length*2)=WF qs/\qs.length*2<=cur.size
section
variable {w w':World} {g b i:Nat} {qs:List Pk} {u:Value}
theorem OK.lt (h:OK w g qs):g<w.heap.size:=by obtain⟨cur,h,-⟩:=h;exact (Ag.1 h).1
theorem OK.cells {x:Pk} (h:OK w g qs) (hx:qs[i]?=some x):w.cell? ⟨g,i*2,none⟩=some (.string ⟨x.lot.toArray⟩)/\w.cell? ⟨g,i*2+1,none⟩=some (.string ⟨x.q.toArray⟩):=by
 obtain⟨cur,hh,ht,hs⟩:=h;have hi:=(Lg.1 hx).1;obtain⟨h1,h2⟩:=SJ hx;constructor
 ·rw[Zh hh,<-h1,<-ht,List.getElem?_take,if_pos (by omega),Array.getElem?_toList]
 ·rw[Zh hh,<-h2,<-ht,List.getElem?_take,if_pos (by omega),Array.getElem?_toList]
theorem OK.pkAt (h:OK w g qs):UG w (some ⟨g,0,none⟩) qs:=fun i t ht=>by
 obtain⟨h1,h2⟩:=h.cells ht;exact⟨g,0,rfl,h.lt,by rw[Nat.zero_add];exact h1,by rw[Nat.zero_add];exact h2⟩
end
theorem El {w:World} {base n c:Nat} {A:Option Addr} {qs:List Pk} (h:w.ownsRow base 195 2 (.slice A n c) n (WF qs)) (hn:n=qs.length) (h0:0<n):∃g,A=some ⟨g,0,none⟩/\base<=g/\OK w g qs:=by
 rcases h.2 with ⟨hv,h1⟩|⟨g,cap,cur,hv,hb,hh,hcap,_,hsz,htk⟩
 ·omega
 ·injection hv with h1 _ h3
  subst h1 h3;refine⟨g,rfl,hb,cur,hh,by rw[<-hn];exact htk,by omega⟩
def Ys (w:World) (B:Nat) (v:Value) (xs:List Pk):Prop:=w.ownsRow B 195 2 v xs.length (WF xs)
section
variable {w w':World} {B b i:Nat} {u v v':Value} {xs:List Pk}
theorem Ys.below (h:Ys w B v xs) (hb:Below w.heap.size w w'):Ys w' B v xs:=by
 refine⟨h.1,?_⟩;rcases h.2 with h2|⟨g,cap,cur,e,hB,hg,r⟩
 ·exact .inl h2
 ·exact .inr ⟨g,cap,cur,e,hB,(hb.block g (Ag.1 hg).1).trans hg,r⟩
theorem Ys.block (h:Ys w B v xs):∀g,v.ownBlock=some g->B<=g/\g<w.heap.size:=World.ownsRow.lt h
theorem Ys.form (h:Ys w B v xs):∃A c,v=.slice A xs.length c:=by
 rcases h.2 with ⟨e,hn⟩|⟨g,cap,cur,e,-⟩
 ·exact⟨none,0,by rw[e,hn]⟩
 ·exact⟨_,_,e⟩
theorem Ys.row (h:Ys w B v xs) (h0:0<xs.length):∃g c,v=.slice (some ⟨g,0,none⟩) xs.length c/\B<=g/\OK w g xs:=by
 obtain⟨A,c,rfl⟩:=h.form;obtain⟨g,rfl,hB,hp⟩:=El (show w.ownsRow B 195 2 (.slice A xs.length c) xs.length (WF xs) from h) rfl h0
 exact⟨g,c,rfl,hB,hp⟩
theorem Ys.pkAt (h:Ys w B v xs) {A:Option Addr} {n c:Nat} (e:v=.slice A n c):UG w A xs:=by
 by_cases h0:0<xs.length
 ·obtain⟨g,c',e2,-,hp⟩:=h.row h0;rw[e] at e2;injection e2 with e2
  subst e2;exact hp.pkAt
 ·have:xs=[]:=List.eq_nil_of_length_eq_zero (by omega)
  subst this;exact fun i x hx=>by simp at hx
theorem Ys.set {c:Nat} {g:Nat} {x:Pk} (h:Ys w B (.slice (some ⟨g,0,none⟩) xs.length c) xs) (hx:xs[i]?=some x) (a:List UInt8):Ys (w.setCell ⟨g,i*2+1,none⟩ (.string ⟨a.toArray⟩)) B (.slice (some ⟨g,0,none⟩) xs.length c) (xs.set i ⟨x.lot,a⟩):=by
 have hl:(xs.set i ⟨x.lot,a⟩).length=xs.length:=List.length_set ..;refine⟨by rw[Ng],?_⟩
 rcases h.2 with ⟨e,hn⟩|⟨g',cap,cur,e,hB,hg,h1,h2,h3,h4⟩
 ·cases e
 ·injection e with e1 e2 e3
  injection e1 with e1
  injection e1 with e1
  subst e1 e3;refine .inr ⟨g,c,cur.setIfInBounds (i*2+1) (.string ⟨a.toArray⟩),by rw[hl],hB,?_,by rw[hl];exact h1,h2,by rw[Array.size_setIfInBounds];exact h3,?_⟩
  ·obtain⟨hlt,hk⟩:=Ag.1 hg;show (w.heap.modify g _)[g]?=_;rw[Array.getElem?_eq_getElem (by rw[Array.size_modify];exact hlt),Array.getElem_modify_self,hk]
   simp
  ·rw[hl,Array.toList_setIfInBounds,List.take_set,h4,Nh a hx]
theorem Ys.far (h:Ys w B v xs) (hn:v.ownBlock≠some b):Ys (w.setCell ⟨b,i,none⟩ u) B v xs:=by
 refine⟨h.1,?_⟩;rcases h.2 with h2|⟨g,cap,cur,e,hB,hg,r⟩
 ·exact .inl h2
 ·refine .inr ⟨g,cap,cur,e,hB,(Below.heap_setCell w ⟨b,i,none⟩ u g (fun hgb=>hn (by rw[e];exact congrArg some hgb))).trans hg,r⟩
end
theorem Ys.app {w:World} {B n:Nat} {v:Value} {xs:List Pk} {x:Pk} (h:w.ownsRow B 195 2 v (n+1) (WF xs++[.string ⟨x.lot.toArray⟩,.string ⟨x.q.toArray⟩])) (hn:xs.length=n):Ys w B v (xs++[x]):=by
 unfold Ys;rw[List.length_append,List.length_singleton,hn,Gh];exact h
theorem Em (w:World) (B:Nat):Ys w B (.slice none 0 0) []:=World.ownsRow_nil w B _ 2
theorem Ys.formN {w:World} {B n:Nat} {v:Value} {xs:List Pk} (h:Ys w B v xs) (hn:xs.length=n):∃A c,v=.slice A n c:=by rw[<-hn];exact h.form
theorem Gi:(Tryz.prog.info? 195).map (fun i=>(i.zero,i.size,i.bytes))=some (some (.agg #[.string ⟨#[]⟩,.string ⟨#[]⟩]),2,32):=by kernel_rfl
end Go.Proofs.YtpieeldbamklkaaGreatDoor
