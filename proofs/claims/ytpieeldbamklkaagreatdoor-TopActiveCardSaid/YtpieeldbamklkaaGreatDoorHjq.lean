/- The law TopActive: the linked contributions of all sectors add up to the growth of the portfolio less that of the benchmark. -/
import Derived.Test.YtpieeldbamklkaaGreatDoorA14
set_option maxHeartbeats 8000000
set_option maxRecDepth 100000
namespace Go.Proofs.YtpieeldbamklkaaGreatDoor
open Go.RowKit Go.Shelf Num
theorem ZbX {x:List Sec} (h:grS x=false):(∀s∈x,SmS s)/\x.length<=40/\(x.length<=32->x.length<=5):=by
 unfold grS at h;rw[Bool.or_eq_false_iff,Bool.or_eq_false_iff] at h;obtain⟨h1,h2,h3⟩:=h;have h34:=of_decide_eq_false h2;refine⟨fun s hs=>ZbU (by rw[List.any_eq_false] at h3;simpa using h3 s hs),by omega,fun h32=>?_⟩
 rcases Bool.and_eq_false_iff.1 h1 with h1|h1
 ·have:=of_decide_eq_false h1;omega
 ·have:=of_decide_eq_false h1;omega
theorem ZaE {ps:List (List Sec)} (h:M1 ps=0):0<ps.length/\∀x∈ps,Sr x=0/\nmS x=nmS (ps.headD []):=by
 unfold M1 at h
 by_cases h0:ps.length=0
 ·rw[if_pos h0] at h;cases h
 rw[if_neg h0] at h;exact⟨by omega,MY h⟩
theorem Kt {m:Nat}:∀(ps:List (List Sec)) (o:YF) (g:Rat),(∀x∈ps,x.length=m)->o.length=m->(Vv o g ps).length=m
 | [],_,_,_,h=>h
 | x::r,o,g,hs,h=>by
  have hx:=hs x (by simp)
  rw[Vv];exact Kt r _ _ (fun y hy=>hs y (by simp[hy])) (by rw[TB g (by omega)];exact hx)
theorem Hy {m:Nat} {n0:List (List UInt8)}:∀(ps:List (List Sec)) (o:YF) (g:Rat),(∀x∈ps,nmS x=n0/\x.length=m)->o.length=m->(ps=[]->o.map (·.1)=n0)->(Vv o g ps).map (·.1)=n0
 | [],_,_,_,_,h=>h rfl
 | x::r,o,g,hs,h,_=>by
  obtain⟨h1,hx⟩:=hs x (by simp)
  rw[Vv];exact Hy r _ _ (fun y hy=>hs y (by simp[hy])) (by rw[TB g (by omega)];exact hx) (fun _=>C9 (by omega) h1)
theorem Hz:∀(ps:List (List Sec)) (o:YF) (g:Rat) (M P:Nat),(∀x∈ps,SmP x)->(∀p∈o,BdP M p.2)->Bd P g->∀p∈Vv o g ps,BdP (M+ps.length*(329+P+128*ps.length)) p.2
 | [],o,g,M,P,_,ho,_=>fun p hp=>O7 (ho p hp) (by omega)
 | x::r,o,g,M,P,hs,ho,hg=>fun p hp=>by
  rw[Vv] at hp;have hx:=hs x (by simp)
  have h1:=Hz r _ _ (M+128+(200+P)+1) (P+128) (fun y hy=>hs y (by simp[hy])) (Ke hx ho hg) (Yn hg (Xn YP hx.own:Bd 128 (1+Xj (qL x)))) p hp
  refine O7 h1 ?_;rw[List.length_cons];generalize r.length=k;have e:329+(P+128)+128*k=329+P+128*(k+1):=by omega
  have hK:329+P<=329+P+128*(k+1):=by omega
  rw[e];generalize 329+P+128*(k+1)=K at *;rw[Nat.succ_mul];omega
theorem Kv {w:World} {B n:Nat} {v:Value} {qs:List Rat} (h:w.ownsRow B 34 2 v n (QS (frs qs))) (hn:qs.length=n):∃A c,v=.slice A n c/\Po w A (frs qs):=by
 obtain⟨A,c,rfl⟩:=N7 h;refine⟨A,c,rfl,fun i r hr=>?_⟩
 obtain⟨g,c',e,-,hg,-,hc⟩:=Hs (fun t:Fs=>[.string ⟨t.1.toArray⟩,.string ⟨t.2.toArray⟩]) 2 (fun _=>rfl) h (by unfold frs;rw[List.length_map];exact hn) hr
 injection e with e1 e2 e3
 subst e1;exact⟨g,0,rfl,hg,by rw[Nat.zero_add];exact hc 0 (by decide),by rw[Nat.zero_add];exact hc 1 (by decide)⟩
def Nh (x:List Sec):Rat:=Xj (qL x)+1
def Ni (x:List Sec):Rat:=Yd (qL x)+1
structure ZbY (w2:World) (v5 v6:Value) (k:Nat) (qs1 qs2:List Rat) (wr:World):Prop where
 r1:wr.ownsRow w2.heap.size 34 2 v5 k (QS (frs qs1))
 r2:wr.ownsRow w2.heap.size 34 2 v6 k (QS (frs qs2))
 dis:Dis v5 v6
 below:Below w2.heap.size w2 wr
theorem Kw {w w':World} {B k sz:Nat} {ty:TypeId} {u v:Value} {cs:List Value} (h:w.ownsRow B ty sz v k cs) (hg:w.grownBy w' u.ownBlock) (hd:Dis v u):w'.ownsRow B ty sz v k cs:=World.ownsRow.kept h hg (by
 cases hv:v.ownBlock with
 | none=>exact .inl rfl
 | some g=>exact .inr (fun e=>hd g hv e.symm))
theorem UE {w w':World} {row:Option Nat} (hg:w.grownBy w' row) {b:Nat} {ob:Obj} (h:w.heap[b]?=some ob) (hb:∀k,row=some k->k≠b):w'.heap[b]?=some ob:=
 (hg.block b (Ag.1 h).1 (fun e=>hb b e.symm rfl)).trans h
theorem Ma (qs:List Rat) (q:Rat):QS (frs (qs++[q]))=QS (frs qs)++[.string ⟨List.toArray (fN q)⟩,.string ⟨List.toArray (fD q)⟩]:=by
 unfold frs;rw[List.map_append,GH];rfl
theorem FW {A:Option Addr} {ps:List (List Sec)} {n:Nat} (c:Nat) {w:World} (hG:GE w) (hn:ps.length=n) (hn2:n<=9223372036854775807) (hm:∀x∈ps,x.length<=9223372036854775807) (h:TX w A ps) :
  Calls Tryz.prog 6 #[.slice A n c] w fun e w'=>e=.returned (.bool true)/\Below w.heap.size w w':=by
 by_cases h3:3<n
 ·have e1:decide (3<n)=true:=Dt h3;have e2:decide ((3:Int)<(n:Int))=true:=Dt (by omega)
  have KA:=Lh (PK w hG);clear h hn hm h3;go_enter Tryz.func6,Tryz.ntmps6;go_wp2_with fail
  with_reducible refine KA.out.mono ?_
  rintro e w2 ⟨rfl,hb2⟩;go_wp2;go_ret;exact⟨rfl,hb2⟩
 have e1:decide (3<n)=false:=Df h3;have e2:decide ((3:Int)<(n:Int))=false:=Df (by omega)
 have C1:=Lh (ZcG c hn (by omega) h hm)
 cases hg:ps.any grS with
 | true=>
  rw[hg] at C1;clear h hn hm h3;go_enter Tryz.func6,Tryz.ntmps6;go_wp2_with fail
  with_reducible refine C1.out.mono ?_
  rintro e w1 ⟨rfl,hb1⟩;have KA:=Lh (PK w1 (hG.below hb1));go_wp2_with fail
  with_reducible refine KA.out.mono ?_
  rintro e w2 ⟨rfl,hb2⟩;go_wp2;go_ret;exact⟨rfl,bto hb1 hb2⟩
 | false=>
 rw[hg] at C1;have hsm:∀x∈ps,(∀s∈x,SmS s)/\x.length<=40/\(x.length<=32->x.length<=5):=fun x hx=>ZbX (by rw[List.any_eq_false] at hg;simpa using hg x hx)
 have CL:=Lh (fun w' (hb:Below w.heap.size w w')=>ZcN c (hG.g.below hb) hn (by omega) (h.below hb) (fun x hx=>(hsm x hx).1) (fun x hx=>(hsm x hx).2))
 have HX:=Lh h;have HN:=Lh hn;have HSM:=Lh hsm;have hn3:n<=3:=by omega
 clear h hn hm h3 hg hsm;go_enter Tryz.func6,Tryz.ntmps6;go_wp2_with fail
 with_reducible refine C1.out.mono ?_
 rintro e w1 ⟨rfl,hb1⟩;have KL:=Lh (CL.out w1 hb1);clear C1 CL e1 e2;go_wp2_with fail;refine KL.out.mono ?_;intro e w2 hL;clear KL;unfold FQ at hL;obtain⟨hb2,⟨hne,rfl⟩|⟨h0,g,rfl,hpar⟩⟩:=hL
 ·obtain⟨ev,hev⟩:∃ev,ev=M1 ps:=⟨_,rfl⟩
  rw[<-hev] at hne ⊢;have e3:(ev==0)=false:=by rw[Bn];exact hne
  have KA:=Lh (PK w2 (hG.below (bto hb1 hb2)));have hb12:=bto hb1 hb2;clear hne hev HX HN HSM hb1 hb2;go_wp2_with fail
  with_reducible refine KA.out.mono ?_
  rintro e w3 ⟨rfl,hb3⟩;go_wp2;go_ret;exact⟨rfl,bto hb12 hb3⟩
 obtain⟨hnp,hok⟩:=ZaE h0;obtain⟨m,hmd⟩:∃m,m=(ps.headD []).length:=⟨_,rfl⟩
 rw[<-hmd] at hpar ⊢;have hper:∀x∈ps,SmP x/\Ht x/\x.length=m:=fun x hx=>by
  obtain⟨h1,h2⟩:=hok x hx;have h3:=MZ h1;refine⟨⟨(HSM.out x hx).2.2 h3.len.2,fun y hy=>?_⟩,h3,?_⟩
  ·obtain⟨s,hs,rfl⟩:=List.mem_map.1 hy;exact MX ((HSM.out x hx).1 s hs)
  ·have h4:(nmS x).length=(nmS (ps.headD [])).length:=by rw[h2]
   unfold nmS at h4;rw[List.length_map,List.length_map] at h4;rw[h4,hmd]
 have hrl:(Vv (Xe m) 1 ps).length=m:=Kt ps _ _ (fun x hx=>(hper x hx).2.2) List.length_replicate
 have hrb:=Hz ps (Xe m) 1 1 1 (fun x hx=>(hper x hx).1) (L9 m) YP
 have hrn:=Hy (m:=m) (n0:=nmS (ps.headD [])) ps (Xe m) 1 (fun x hx=>⟨(hok x hx).2,(hper x hx).2.2⟩) List.length_replicate (fun e=>by rw[e] at hnp;simp at hnp)
 have hhm:ps.headD []∈ps:=by
  cases ps with
  | nil=>simp at hnp
  | cons y r=>simp
 have hm5:m<=5:=by rw[hmd];exact (hper _ hhm).1.len
 have hlen3:ps.length*(329+1+128*ps.length)<=3*(329+1+128*3):=Nat.mul_le_mul (by rw[HN.out];exact hn3) (by have:=HN.out;omega)
 have hrs:∀r∈Vv (Xe m) 1 ps,BdP 2200 r.2/\Yv r.1=true/\r.1.length<=20:=fun r hr=>by
  refine⟨O7 (hrb r hr) (by omega),?_⟩
  have h1:r.1∈nmS (ps.headD []):=by rw[<-hrn];exact List.mem_map_of_mem hr
  obtain⟨s,hs,e⟩:=List.mem_map.1 h1;rw[<-e];exact⟨(hper _ hhm).2.1.nm s hs,((HSM.out _ hhm).1 s hs).n⟩
 have hsum:=Hu (m:=m) ps (Xe m) 1 1 (fun x hx=>⟨(hper x hx).2.1,(hper x hx).2.2⟩) List.length_replicate (N8 m)
 have HTOT:=Lh (fun w' (hb:Below w2.heap.size w2 w')=>Zay m (hG.g.below (bto (bto hb1 hb2) hb)) hrl hm5 (hpar.below hb) hrs (by decide))
 rw[hsum] at HTOT;obtain⟨qo,hqo⟩:∃qo,qo=ps.map Nh:=⟨_,rfl⟩
 obtain⟨qb,hqb⟩:∃qb,qb=ps.map Ni:=⟨_,rfl⟩
 rw[show (ps.map fun x=>Xj (qL x)+1)=qo from hqo.symm,show (ps.map fun x=>Yd (qL x)+1)=qb from hqb.symm] at HTOT
 have hbo:∀q∈qo,Bd 128 q:=fun q hq=>by
  rw[hqo] at hq;obtain⟨x,hx,rfl⟩:=List.mem_map.1 hq;exact Xn (hper x hx).1.own YP
 have hbb:∀q∈qb,Bd 128 q:=fun q hq=>by
  rw[hqb] at hq;obtain⟨x,hx,rfl⟩:=List.mem_map.1 hq;exact Xn (hper x hx).1.ben YP
 have hlo:qo.length=n:=by rw[hqo,List.length_map];exact HN.out
 have hlb:qb.length=n:=by rw[hqb,List.length_map];exact HN.out
 have c0:Ret 31 #[.string ⟨[49].toArray⟩] (Value.agg #[Value.string ⟨List.toArray (fN ((1:Rat)))⟩,Value.string ⟨List.toArray (fD ((1:Rat)))⟩]):=by have h:=rOf (l:=[49]) (by decide) (z:=1) (by decide);exact h
 have C0:=Lh c0;have HOK:=Lh hok;have HPE:=Lh hper;have HQO:=Lh hqo;have HQB:=Lh hqb;have HBO:=Lh hbo;have HBB:=Lh hbb;have HLO:=Lh hlo;have HLB:=Lh hlb;have HB2:=Lh (bto hb1 hb2);have HS0:Hid (ZbY w2 (.slice none 0 0) (.slice none 0 0) 0 (qo.take 0) (qb.take 0) w2):=⟨World.ownsRow_nil w2 w2.heap.size 34 2,World.ownsRow_nil w2 w2.heap.size 34 2,fun g h=>(by cases h),Below.refl _ _⟩
 clear h0 hpar hok hmd hper hrl hrb hrn hhm hlen3 hrs hsum hqo hqb hbo hbb hlo hlb c0 hb1 hb2 hnp;go_wp2_with fail
 go_loopw [5,6,41] (fun v5 v6 iv wr=>∃(k:Nat) (u5 u6:Value),k<=n/\u5=v5/\u6=v6/\iv=.int .i64 (k:Int)/\Hid (ZbY w2 u5 u6 k (qo.take k) (qb.take k) wr)) (fun _ _ iv _=>n-(intOf iv).toNat)
 case atStart=>exact⟨0,_,_,Nat.zero_le _,rfl,rfl,rfl,HS0.out⟩
 case round=>
  clear HS0;obtain⟨k,v5,v6,hk,rfl,rfl,rfl,HS⟩:=hrel
  by_cases hlt:k<n
  ·have e1:decide ((k:Int)<(n:Int))=true:=Dt (by omega)
   obtain⟨x,hx⟩:∃x,ps[k]?=some x:=⟨_,List.getElem?_eq_getElem (by rw[HN.out];omega)⟩
   have hbw:=bto HB2.out HS.out.below;obtain⟨b,o,A1,c1,rfl,hbs,p0,hc1,hat⟩:=(HX.out.below hbw) k x hx;obtain⟨hsm,hsk,hxm⟩:=HPE.out x (Lm hx);rw[hxm] at p0 hc1;have CR:=Lh (atReturn c1 (hG.g.below hbw) hxm hm5 hc1 hat (HSM.out x (Lm hx)).1 (HOK.out x (Lm hx)).1);have hto:qo.take (k+1)=qo.take k++[Nh x]:=Xu (by rw[HQO.out,List.getElem?_map,hx];rfl)
   have htb:qb.take (k+1)=qb.take k++[Ni x]:=Xu (by rw[HQB.out,List.getElem?_map,hx];rfl)
   have D1_:Hid (Ret 30 #[(Value.agg #[Value.string ⟨List.toArray (fN (Xj (qL x)))⟩,Value.string ⟨List.toArray (fD (Xj (qL x)))⟩]),(Value.agg #[Value.string ⟨List.toArray (fN ((1:Rat)))⟩,Value.string ⟨List.toArray (fD ((1:Rat)))⟩])] (Value.agg #[Value.string ⟨List.toArray (fN (Nh x))⟩,Value.string ⟨List.toArray (fD (Nh x))⟩])):=Oz (Zs hsm.own (by omega)) (Zs YP (by omega)) rfl
   have D2_:Hid (Ret 30 #[(Value.agg #[Value.string ⟨List.toArray (fN (Yd (qL x)))⟩,Value.string ⟨List.toArray (fD (Yd (qL x)))⟩]),(Value.agg #[Value.string ⟨List.toArray (fN ((1:Rat)))⟩,Value.string ⟨List.toArray (fD ((1:Rat)))⟩])] (Value.agg #[Value.string ⟨List.toArray (fN (Ni x))⟩,Value.string ⟨List.toArray (fD (Ni x))⟩])):=Oz (Zs hsm.ben (by omega)) (Zs YP (by omega)) rfl
   have HTO:=Lh (Ma (qo.take k) (Nh x));have HTB:=Lh (Ma (qb.take k) (Ni x));rw[<-hto] at HTO;rw[<-htb] at HTB;clear hx hsm hsk hxm hat hto htb hbw hc1;generalize fN (Xj (qL x))=O1 at *;generalize fD (Xj (qL x))=O2 at *;generalize fN (Yd (qL x))=B1 at *;generalize fD (Yd (qL x))=B2 at *;generalize fN (Nh x)=P1 at *;generalize fD (Nh x)=P2 at *;generalize fN (Ni x)=Q1 at *;generalize fD (Ni x)=Q2 at *;generalize fN (1:Rat)=N1 at *;generalize fD (1:Rat)=E1 at *;go_wp2_with fail
   with_reducible refine CR.out.mono ?_
   rintro e w3 ⟨rfl,hb3⟩;obtain⟨a1,a2,a3,a4⟩:=Xi w3 (.cells #[.string ⟨O1.toArray⟩,.string ⟨O2.toArray⟩] 34) (.cells #[.string ⟨B1.toArray⟩,.string ⟨B2.toArray⟩] 34);obtain⟨W4,hW4⟩:∃W4,W4=(w3.alloc (.cells #[.string ⟨O1.toArray⟩,.string ⟨O2.toArray⟩] 34)).alloc (.cells #[.string ⟨B1.toArray⟩,.string ⟨B2.toArray⟩] 34):=⟨_,rfl⟩
   rw[<-hW4] at a1 a2 a3 a4;have HA1:=Lh a1;have HA2:=Lh a2;have HB4:=Lh (bto hb3 a3);have HW4:=Lh hW4;obtain⟨b9,hb9⟩:∃b9,b9=w3.heap.size:=⟨_,rfl⟩
   have h9:wr.heap.size<=b9:=by rw[hb9];exact hb3.size
   rw[<-hb9] at HA1 HA2;have HB9:=Lh hb9;clear a1 a2 a3 a4 hW4 hb3 CR p0 hbs hb9;go_wp2_with fail;rw[<-HW4.out,<-HB9.out];clear HW4 HB9;obtain⟨i0,hi,hz0,hz1,hz2⟩:=info_parts GI;have HII:=Lh (And.intro hi (And.intro hz0 (And.intro hz1 hz2)));clear hi hz0 hz1 hz2;refine Pb (n:=14) (fun w'=>w'.heap[b9]?=some (.cells #[.string ⟨O1.toArray⟩,.string ⟨O2.toArray⟩] 34 (0,0))/\w'.heap[b9+1]?=some (.cells #[.string ⟨B1.toArray⟩,.string ⟨B2.toArray⟩] 34 (0,0))) (by kernel_rfl) rfl ?_
   intro wd hwd;have hC0:wd.heap[b9]?=some (.cells #[.string ⟨O1.toArray⟩,.string ⟨O2.toArray⟩] 34 (0,0))/\wd.heap[b9+1]?=some (.cells #[.string ⟨B1.toArray⟩,.string ⟨B2.toArray⟩] 34 (0,0)):=⟨Zk HA1.out hwd,Zk HA2.out hwd⟩;refine Xy 0 (by kernel_rfl) rfl rfl (by kernel_rfl) hC0 (fun wz hw=>by go_simp;try with_reducible rfl) ?_
   simp only[Act.put,List.setIfInBounds_toArray,List.set_cons_zero,List.set_cons_succ];refine Xy 1 (by kernel_rfl) rfl rfl (by kernel_rfl) hC0 (fun wz hw=>by have q0:=Zg hw.1 0;have q1:=Zg hw.1 1;go_simp;try with_reducible rfl) ?_
   simp only[Act.put,List.setIfInBounds_toArray,List.set_cons_zero,List.set_cons_succ];refine Xy 6 (by kernel_rfl) rfl rfl (by kernel_rfl) hC0 (fun wz hw=>by go_simp;try with_reducible rfl) ?_
   simp only[Act.put,List.setIfInBounds_toArray,List.set_cons_zero,List.set_cons_succ];refine Xy 7 (by kernel_rfl) rfl rfl (by kernel_rfl) hC0 (fun wz hw=>by have q0:=Zg hw.2 0;have q1:=Zg hw.2 1;go_simp;try with_reducible rfl) ?_
   simp only[Act.put,List.setIfInBounds_toArray,List.set_cons_zero,List.set_cons_succ];have hwr:=bto HB4.out hwd;have HR1:=Lh (ZN HS.out.r1 hwr);have HR2:=Lh (ZN HS.out.r2 hwr);have HB5:=Lh (bto HS.out.below hwr);have HL1:Hid (∀g,v5.ownBlock=some g->g<wr.heap.size):=fun g hg=>(World.ownsRow.lt HS.out.r1 g hg).2
   have HL2:Hid (∀g,v6.ownBlock=some g->g<wr.heap.size):=fun g hg=>(World.ownsRow.lt HS.out.r2 g hg).2
   have HDS:=Lh HS.out.dis;have HSZ:=Lh hwr.size;have HW2:=Lh HS.out.below.size;clear HS HA1 HA2 HB4 hwd hwr;refine ZU 2 (by kernel_rfl) rfl rfl hC0 (fun K2 hK2=>?_)
   go_wp2_with fail
   with_reducible refine (C0.out.of (hG.g.below HB2.out) HB5.out).mono ?_
   rintro e w5 ⟨rfl,hb5⟩;go_wp2_with fail;refine YT (hK2 _ _ ?_);clear hK2;have hC1:w5.heap[b9]?=some (.cells #[.string ⟨O1.toArray⟩,.string ⟨O2.toArray⟩] 34 (0,0))/\w5.heap[b9+1]?=some (.cells #[.string ⟨B1.toArray⟩,.string ⟨B2.toArray⟩] 34 (0,0)):=⟨Zk hC0.1 hb5,Zk hC0.2 hb5⟩;refine ZU 3 (by kernel_rfl) rfl rfl hC1 (fun K2 hK2=>?_)
   go_wp2_with fail
   with_reducible refine (D1_.out.of (hG.g.below HB2.out) (bto HB5.out hb5)).mono ?_
   rintro e w6 ⟨rfl,hb6⟩;go_wp2_with fail;refine YT (hK2 _ _ ?_);clear hK2;have hC2:w6.heap[b9]?=some (.cells #[.string ⟨O1.toArray⟩,.string ⟨O2.toArray⟩] 34 (0,0))/\w6.heap[b9+1]?=some (.cells #[.string ⟨B1.toArray⟩,.string ⟨B2.toArray⟩] 34 (0,0)):=⟨Zk hC1.1 hb6,Zk hC1.2 hb6⟩;refine ZU 4 (by kernel_rfl) rfl rfl hC2 (fun K2 hK2=>?_)
   go_wp2_with fail;refine YT (hK2 _ _ ?_);clear hK2;have hb7:=Zb w6 (.cells #[.string ⟨P1.toArray⟩,.string ⟨P2.toArray⟩] 34);have ha7:=ZJ w6 (.cells #[.string ⟨P1.toArray⟩,.string ⟨P2.toArray⟩] 34);obtain⟨w7,hw7⟩:∃w7,w7=w6.alloc (.cells #[.string ⟨P1.toArray⟩,.string ⟨P2.toArray⟩] 34):=⟨_,rfl⟩
   rw[<-hw7] at hb7 ha7 ⊢;have hC3:w7.heap[b9]?=some (.cells #[.string ⟨O1.toArray⟩,.string ⟨O2.toArray⟩] 34 (0,0))/\w7.heap[b9+1]?=some (.cells #[.string ⟨B1.toArray⟩,.string ⟨B2.toArray⟩] 34 (0,0)):=⟨Zk hC2.1 hb7,Zk hC2.2 hb7⟩;have hb57:=bto (bto hb5 hb6) hb7;have HO1:=Lh (ZN HR1.out hb57);have HO2:=Lh (ZN HR2.out hb57);have HB7:=Lh (bto HB5.out hb57);have HZ7:=Lh (Nt HSZ.out hb57.size);have HA7:=Lh ha7;clear hb5 hb6 hb7 ha7 hw7 hb57 HB5 HSZ hC1 hC2 hC0 HR1 HR2;refine ZU 5 (by kernel_rfl) rfl rfl hC3 (fun K2 hK2=>?_)
   go_wp2_with (at_builtin;refine ZS rfl _ _ 28 rfl w2.heap.size 34 i0 (.agg #[.string ⟨#[]⟩,.string ⟨#[]⟩]) 2 32 Tryz.underlying28 HII.out.1 HII.out.2.1 HII.out.2.2.1 HII.out.2.2.2 rfl (by decide) _ _ _ rfl HO1.out ⟨w6.heap.size,0,none⟩ 1 1 [.string ⟨P1.toArray⟩,.string ⟨P2.toArray⟩] rfl rfl ?a1 ?a2 ?a3 ?a4 ?a5 ?_)
   case a1=>
    intro j u hu;rw[Lib.add_plain];show w7.cell? ⟨w6.heap.size,0+j,none⟩=some u;rw[Nat.zero_add,Zg HA7.out j,<-hu];rw[List.getElem?_toArray]
   case a2=>
    intro u hu;simp only[List.mem_cons,List.not_mem_nil,or_false] at hu;rcases hu with rfl|rfl<;>rfl
   case a3=>unfold maxLen;omega
   case a4=>omega
   case a5=>have:=HZ7.out;have:=HW2.out;omega
   intro v5' w8 hown hgrow hfresh;go_wp2_with fail;refine YT (hK2 _ _ ?_);clear hK2;have hC0:w8.heap[b9]?=some (.cells #[.string ⟨O1.toArray⟩,.string ⟨O2.toArray⟩] 34 (0,0))/\w8.heap[b9+1]?=some (.cells #[.string ⟨B1.toArray⟩,.string ⟨B2.toArray⟩] 34 (0,0)):=⟨UE hgrow hC3.1 (fun g hg=>by have:=HL1.out g hg;omega),UE hgrow hC3.2 (fun g hg=>by have:=HL1.out g hg;omega)⟩
   rw[<-HTO.out] at hown;have hr2:=Kw HO2.out hgrow HDS.out.symm;have hl2:=fun g hg=>Nat.lt_of_lt_of_le (HL2.out g hg) HZ7.out
   have hd:=Dis.fresh HDS.out hfresh hl2;have HB5:=Lh (HB7.out.grown hgrow HB7.out.size (fun g hg=>(World.ownsRow.lt HO1.out g hg).1))
   have HSZ:=Lh (Nt HZ7.out hgrow.size);have HDS2:=Lh hd;have HR1:=Lh hown;have HR2:=Lh hr2;have HL5:Hid (∀g,v5'.ownBlock=some g->g<w8.heap.size):=fun g hg=>(World.ownsRow.lt hown g hg).2
   clear hown hgrow hfresh hC3 hr2 hl2 hd HDS HL1 HO1 HO2 HB7 HZ7 HA7 HTO D1_;refine ZU 8 (by kernel_rfl) rfl rfl hC0 (fun K2 hK2=>?_)
   go_wp2_with fail
   with_reducible refine (C0.out.of (hG.g.below HB2.out) HB5.out).mono ?_
   rintro e w5b ⟨rfl,hb5⟩;go_wp2_with fail;refine YT (hK2 _ _ ?_);clear hK2;have hC1:w5b.heap[b9]?=some (.cells #[.string ⟨O1.toArray⟩,.string ⟨O2.toArray⟩] 34 (0,0))/\w5b.heap[b9+1]?=some (.cells #[.string ⟨B1.toArray⟩,.string ⟨B2.toArray⟩] 34 (0,0)):=⟨Zk hC0.1 hb5,Zk hC0.2 hb5⟩;refine ZU 9 (by kernel_rfl) rfl rfl hC1 (fun K2 hK2=>?_)
   go_wp2_with fail
   with_reducible refine (D2_.out.of (hG.g.below HB2.out) (bto HB5.out hb5)).mono ?_
   rintro e w6b ⟨rfl,hb6⟩;go_wp2_with fail;refine YT (hK2 _ _ ?_);clear hK2;have hC2:w6b.heap[b9]?=some (.cells #[.string ⟨O1.toArray⟩,.string ⟨O2.toArray⟩] 34 (0,0))/\w6b.heap[b9+1]?=some (.cells #[.string ⟨B1.toArray⟩,.string ⟨B2.toArray⟩] 34 (0,0)):=⟨Zk hC1.1 hb6,Zk hC1.2 hb6⟩;refine ZU 10 (by kernel_rfl) rfl rfl hC2 (fun K2 hK2=>?_)
   go_wp2_with fail;refine YT (hK2 _ _ ?_);clear hK2;have hb7:=Zb w6b (.cells #[.string ⟨Q1.toArray⟩,.string ⟨Q2.toArray⟩] 34);have ha7:=ZJ w6b (.cells #[.string ⟨Q1.toArray⟩,.string ⟨Q2.toArray⟩] 34);obtain⟨w7b,hw7⟩:∃w7b,w7b=w6b.alloc (.cells #[.string ⟨Q1.toArray⟩,.string ⟨Q2.toArray⟩] 34):=⟨_,rfl⟩
   rw[<-hw7] at hb7 ha7 ⊢;have hC3:w7b.heap[b9]?=some (.cells #[.string ⟨O1.toArray⟩,.string ⟨O2.toArray⟩] 34 (0,0))/\w7b.heap[b9+1]?=some (.cells #[.string ⟨B1.toArray⟩,.string ⟨B2.toArray⟩] 34 (0,0)):=⟨Zk hC2.1 hb7,Zk hC2.2 hb7⟩;have hb57:=bto (bto hb5 hb6) hb7;have HO1:=Lh (ZN HR1.out hb57);have HO2:=Lh (ZN HR2.out hb57);have HB7:=Lh (bto HB5.out hb57);have HZ7:=Lh (Nt HSZ.out hb57.size);have HA7:=Lh ha7;clear hb5 hb6 hb7 ha7 hw7 hb57 HB5 HSZ hC1 hC2 hC0 HR1 HR2;refine ZU 11 (by kernel_rfl) rfl rfl hC3 (fun K2 hK2=>?_)
   go_wp2_with (at_builtin;refine ZS rfl _ _ 28 rfl w2.heap.size 34 i0 (.agg #[.string ⟨#[]⟩,.string ⟨#[]⟩]) 2 32 Tryz.underlying28 HII.out.1 HII.out.2.1 HII.out.2.2.1 HII.out.2.2.2 rfl (by decide) _ _ _ rfl HO2.out ⟨w6b.heap.size,0,none⟩ 1 1 [.string ⟨Q1.toArray⟩,.string ⟨Q2.toArray⟩] rfl rfl ?a1b ?a2b ?a3b ?a4b ?a5b ?_)
   case a1b=>
    intro j u hu;rw[Lib.add_plain];show w7b.cell? ⟨w6b.heap.size,0+j,none⟩=some u;rw[Nat.zero_add,Zg HA7.out j,<-hu];rw[List.getElem?_toArray]
   case a2b=>
    intro u hu;simp only[List.mem_cons,List.not_mem_nil,or_false] at hu;rcases hu with rfl|rfl<;>rfl
   case a3b=>unfold maxLen;omega
   case a4b=>omega
   case a5b=>have:=HZ7.out;have:=HW2.out;omega
   intro v6' w8b hown hgrow hfresh;go_wp2_with fail;refine YT (hK2 _ _ ?_);clear hK2;have hC0:w8b.heap[b9]?=some (.cells #[.string ⟨O1.toArray⟩,.string ⟨O2.toArray⟩] 34 (0,0))/\w8b.heap[b9+1]?=some (.cells #[.string ⟨B1.toArray⟩,.string ⟨B2.toArray⟩] 34 (0,0)):=⟨UE hgrow hC3.1 (fun g hg=>by have:=HL2.out g hg;omega),UE hgrow hC3.2 (fun g hg=>by have:=HL2.out g hg;omega)⟩
   rw[<-HTB.out] at hown;have hr1:=Kw HO1.out hgrow HDS2.out;have hl5:=fun g hg=>(World.ownsRow.lt HO1.out g hg).2
   have hd:=(Dis.fresh HDS2.out.symm hfresh hl5).symm;have HB8:=Lh (HB7.out.grown hgrow HB7.out.size (fun g hg=>(World.ownsRow.lt HO2.out g hg).1))
   have HS8:Hid (ZbY w2 v5' v6' (k+1) (qo.take (k+1)) (qb.take (k+1)) w8b):=⟨hr1,hown,hd,HB8.out⟩;clear hown hgrow hfresh hC3 hr1 hl5 hd HDS2 HL2 HL5 HO1 HO2 HB7 HZ7 HA7 HTB D2_ HB8;refine ZU 12 (by kernel_rfl) rfl rfl hC0 (fun K2 hK2=>?_)
   go_wp2_with fail;refine YT (hK2 _ _ ?_);clear hK2;refine ZU 13 (by kernel_rfl) rfl rfl hC0 (fun K2 hK2=>?_)
   go_wp2_with fail;refine YT (hK2 _ _ ?_);clear hK2;refine Nc (by kernel_rfl) hC0 ?_
   go_wp2;go_roundw
   case rel=>exact⟨k+1,v5',v6',by omega,rfl,rfl,by go_num,HS8.out⟩
   case measure=>simp[intOf];omega
  ·have e1:decide ((k:Int)<(n:Int))=false:=Df (by omega)
   have hkn:k=n:=by omega
   subst hkn;have hto:qo.take k=qo:=List.take_of_length_le (by rw[HLO.out];omega)
   have htb:qb.take k=qb:=List.take_of_length_le (by rw[HLB.out];omega)
   rw[hto,htb] at HS;obtain⟨A5,c5,rfl,hf5⟩:=Kv HS.out.r1 HLO.out;obtain⟨A6,c6,rfl,hf6⟩:=Kv HS.out.r2 HLB.out;have hbw:=bto HB2.out HS.out.below;have K5:=Lh (fun w' (hb:Below wr.heap.size wr w')=>Hv c5 (hG.g.below (bto hbw hb)) HLO.out (by omega) (hf5.below hb) HBO.out (by omega))
   have K6:=Lh (fun w' (hb:Below wr.heap.size wr w')=>Hv c6 (hG.g.below (bto hbw hb)) HLB.out (by omega) (hf6.below hb) HBB.out (by omega))
   have K7:=Lh (fun w' (hb:Below wr.heap.size wr w')=>HTOT.out w' (bto HS.out.below hb))
   have hX:Bd 400 (ZD 1 qo):=YQ (UV qo YP HBO.out) (by rw[HLO.out];omega)
   have hY:Bd 400 (ZD 1 qb):=YQ (UV qb YP HBB.out) (by rw[HLB.out];omega)
   have CS:Hid (Ret 34 #[(Value.agg #[Value.string ⟨List.toArray (fN (ZD 1 qo))⟩,Value.string ⟨List.toArray (fD (ZD 1 qo))⟩]),(Value.agg #[Value.string ⟨List.toArray (fN (ZD 1 qb))⟩,Value.string ⟨List.toArray (fD (ZD 1 qb))⟩])] (Value.agg #[Value.string ⟨List.toArray (fN (ZD 1 qo-ZD 1 qb))⟩,Value.string ⟨List.toArray (fD (ZD 1 qo-ZD 1 qb))⟩])):=EE (Zs hX (by omega)) (Zs hY (by omega)) rfl
   have HBW:=Lh hbw;clear hto htb hf5 hf6 hX hY HS HX HN HSM HTOT C0 HOK HPE HQO HQB HBO HBB HLO HLB hbw;generalize fN (ZD 1 qo-ZD 1 qb)=S1 at *;generalize fD (ZD 1 qo-ZD 1 qb)=S2 at *;generalize fN (ZD 1 qo)=X1 at *;generalize fD (ZD 1 qo)=X2 at *;generalize fN (ZD 1 qb)=Y1 at *;generalize fD (ZD 1 qb)=Y2 at *;go_wp2_with fail
   with_reducible refine (K5.out wr (Below.refl _ _)).mono ?_
   rintro e w5 ⟨rfl,hb5⟩;have hbA:=Zb w5 (.cells #[.string ⟨X1.toArray⟩,.string ⟨X2.toArray⟩] 34);have x12:=Blk.new w5 #[.string ⟨X1.toArray⟩,.string ⟨X2.toArray⟩] 34;obtain⟨W5,hW5⟩:∃W5,W5=w5.alloc (.cells #[.string ⟨X1.toArray⟩,.string ⟨X2.toArray⟩] 34):=⟨_,rfl⟩
   rw[<-hW5] at hbA x12;have H5:=Lh (bto hb5 hbA);have X12:=Lh x12;have HW5:=Lh hW5;clear hb5 hbA x12 hW5 K5 e1;go_wp2_with fail;rw[<-HW5.out]
   with_reducible refine (K6.out W5 H5.out).mono ?_
   rintro e w6 ⟨rfl,hb6⟩;have hbA:=Zb w6 (.cells #[.string ⟨Y1.toArray⟩,.string ⟨Y2.toArray⟩] 34);have x14:=Blk.new w6 #[.string ⟨Y1.toArray⟩,.string ⟨Y2.toArray⟩] 34;obtain⟨W6,hW6⟩:∃W6,W6=w6.alloc (.cells #[.string ⟨Y1.toArray⟩,.string ⟨Y2.toArray⟩] 34):=⟨_,rfl⟩
   rw[<-hW6] at hbA x14;have H6:=Lh (bto (bto H5.out hb6) hbA);have X12b:=Lh (X12.out.below (bto hb6 hbA));have X14:=Lh x14;have HW6:=Lh hW6;clear hb6 hbA x14 hW6 K6 X12 H5 HW5;go_wp2_with fail;rw[<-HW6.out]
   with_reducible refine (K7.out W6 H6.out).mono ?_
   rintro e w7 ⟨rfl,hb7⟩;have hbA:=Zb w7 (.cells #[.string ⟨S1.toArray⟩,.string ⟨S2.toArray⟩] 34);have x16:=Blk.new w7 #[.string ⟨S1.toArray⟩,.string ⟨S2.toArray⟩] 34;obtain⟨W7,hW7⟩:∃W7,W7=w7.alloc (.cells #[.string ⟨S1.toArray⟩,.string ⟨S2.toArray⟩] 34):=⟨_,rfl⟩
   rw[<-hW7] at hbA x16;have H7:=Lh (bto (bto H6.out hb7) hbA);have X12c:=Lh (X12b.out.below (bto hb7 hbA));have X14c:=Lh (X14.out.below (bto hb7 hbA));have X16:=Lh x16;have HW7:=Lh hW7;have HB9:=Lh (bto HBW.out H7.out);clear hb7 hbA x16 hW7 K7 X12b X14 H6 HW6 H7 HBW;go_wp2_with fail;rw[<-HW7.out];clear HW7;refine Zt (by kernel_rfl) (by kernel_rfl) ?_
   refine Zd _ (fun _=>rfl) (fun ρ wz hw=>by go_simp;try with_reducible rfl) ?_
   simp only[Act.put,StT,StZ,StS,Nat.reduceAdd];refine Zd (.bool true) (fun _=>rfl) (fun ρ wz hw=>by go_simp;try with_reducible rfl) ?_
   simp only[Act.put,StT,StZ,StS,Nat.reduceAdd];refine Zd (.bool true) (fun _=>rfl) (fun ρ wz hw=>by go_simp;try with_reducible rfl) ?_
   simp only[Act.put,StT,StZ,StS,Nat.reduceAdd];refine Zd _ (fun _=>rfl) (fun ρ wz hw=>by go_simp;try with_reducible rfl) ?_
   simp only[Act.put,StT,StZ,StS,Nat.reduceAdd];refine Zd (.bool true) (fun _=>rfl) (fun ρ wz hw=>by go_simp;try with_reducible rfl) ?_
   simp only[Act.put,StT,StZ,StS,Nat.reduceAdd];refine Zd (.bool true) (fun _=>rfl) (fun ρ wz hw=>by go_simp;try with_reducible rfl) ?_
   simp only[Act.put,StT,StZ,StS,Nat.reduceAdd];refine Zd (.bool true) (fun _=>rfl) (fun ρ wz hw=>by go_simp;try with_reducible rfl) ?_
   simp only[Act.put,StT,StZ,StS,Nat.reduceAdd];refine Zd _ (fun _=>rfl) (fun ρ wz hw=>by go_simp;try with_reducible rfl) ?_
   simp only[Act.put,StT,StZ,StS,Nat.reduceAdd];refine Zd (.bool true) (fun _=>rfl) (fun ρ wz hw=>by go_simp;try with_reducible rfl) ?_
   simp only[Act.put,StT,StZ,StS,Nat.reduceAdd];refine Zd (.bool true) (fun _=>rfl) (fun ρ wz hw=>by go_simp;try with_reducible rfl) ?_
   simp only[Act.put,StT,StZ,StS,Nat.reduceAdd];refine Zd (.bool true) (fun _=>rfl) (fun ρ wz hw=>by go_simp;try with_reducible rfl) ?_
   simp only[Act.put,StT,StZ,StS,Nat.reduceAdd];refine Zd _ (fun _=>rfl) (fun ρ wz hw=>by have q0:wz.cell? ⟨w7.heap.size,0,none⟩=some (.string ⟨S1.toArray⟩):=(X16.out.below hw).c 0;have q1:wz.cell? ⟨w7.heap.size,1,none⟩=some (.string ⟨S2.toArray⟩):=(X16.out.below hw).c 1;go_simp;try with_reducible rfl) ?_
   simp only[Act.put,StT,StZ,StS,Nat.reduceAdd];refine Zd _ (fun _=>rfl) (fun ρ wz hw=>by have q0:wz.cell? ⟨w5.heap.size,0,none⟩=some (.string ⟨X1.toArray⟩):=(X12c.out.below hw).c 0;have q1:wz.cell? ⟨w5.heap.size,1,none⟩=some (.string ⟨X2.toArray⟩):=(X12c.out.below hw).c 1;go_simp;try with_reducible rfl) ?_
   simp only[Act.put,StT,StZ,StS,Nat.reduceAdd];refine Zd _ (fun _=>rfl) (fun ρ wz hw=>by have q0:wz.cell? ⟨w6.heap.size,0,none⟩=some (.string ⟨Y1.toArray⟩):=(X14c.out.below hw).c 0;have q1:wz.cell? ⟨w6.heap.size,1,none⟩=some (.string ⟨Y2.toArray⟩):=(X14c.out.below hw).c 1;go_simp;try with_reducible rfl) ?_
   simp only[Act.put,StT,StZ,StS,Nat.reduceAdd];refine Zr _ _ _ (fun _=>rfl) (fun ρ wz hw=>by go_simp;try with_reducible rfl) (fun wz hw=>CS.out.of (hG.g.below HB9.out) hw) ?_
   simp only[Act.put,StT,StZ,StS,Nat.reduceAdd];refine Zd (.bool true) (fun _=>rfl) (fun ρ wz hw=>by go_simp;try with_reducible rfl) ?_
   simp only[Act.put,StT,StZ,StS,Nat.reduceAdd];refine Zd (.bool true) (fun _=>rfl) (fun ρ wz hw=>by go_simp;try with_reducible rfl) ?_
   simp only[Act.put,StT,StZ,StS,Nat.reduceAdd];refine Zd (.bool true) (fun _=>rfl) (fun ρ wz hw=>by go_simp;try with_reducible rfl) ?_
   simp only[Act.put,StT,StZ,StS,Nat.reduceAdd];refine Zr _ _ _ (fun _=>rfl) (fun ρ wz hw=>by go_simp;try with_reducible rfl) (fun wz hw=>PK wz (hG.below (bto HB9.out hw))) ?_
   simp only[Act.put,StT,StZ,StS,Nat.reduceAdd];refine Zd (.bool true) (fun _=>rfl) (fun ρ wz hw=>by go_simp;try with_reducible rfl) ?_
   simp only[Act.put,StT,StZ,StS,Nat.reduceAdd];refine Zd _ (fun _=>rfl) (fun ρ wz hw=>by go_simp;try with_reducible rfl) ?_
   simp only[Act.put,StT,StZ,StS,Nat.reduceAdd];refine Ye (fun ρ w9 hF=>?_)
   have hb9:=bto HB9.out hF.below;clear hF X12c X14c X16 CS HB9;go_wp2;go_ret;exact⟨rfl,hb9⟩
end Go.Proofs.YtpieeldbamklkaaGreatDoor
