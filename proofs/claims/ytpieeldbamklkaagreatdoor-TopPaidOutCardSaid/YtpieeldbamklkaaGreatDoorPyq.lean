/- The law TopPaidOut: what is paid on a holding. -/
import Derived.Test.YtpieeldbamklkaaGreatDoorY14
set_option maxHeartbeats 3000000
set_option maxRecDepth 100000
open Go.Proofs.Tryz
namespace Go.Proofs.YtpieeldbamklkaaGreatDoor
open Go.RowKit Go.Shelf Num
theorem Zaf {q:Rat} {k:Nat} (b:Bd k q) (m:Int):(rnd q m).natAbs<10 ^ (k+1):=by
 have h2:=En q m;have h3:=Mj q;have h4:=b.1;rw[Nat.pow_succ];omega
theorem ZbB {l l' Q:List UInt8} {i j:Nat} (h1:l.length<=i) (h2:l'.length<=i) (hi:1<=i) (h3:Q.length<=j) (hj:1<=j):(canon (pvZ l l' Q)).length<=i+j+2:=
 Zl _ _ (Zaf (Je (Iw h1 h2 hi) (Jf (Zo h3) hj)) 1)
theorem MO (N:Nat):∀ps:List (List UInt8),(∀p∈ps,p.length<=N)->((ps.map val).sum).natAbs<=ps.length*10 ^ N
 | [],_=>by simp
 | p::r,h=>by
  have h1:=MO N r (fun y hy=>h y (List.mem_cons_of_mem _ hy))
  have h2:=Zo (h p List.mem_cons_self);have h3:=Int.natAbs_add_le (val p) ((r.map val).sum);rw[List.map_cons,List.sum_cons,List.length_cons,Nat.succ_mul];omega
theorem Cu {N:Nat} {ps:List (List UInt8)} (h:∀p∈ps,p.length<=N) (hn:ps.length<=1000):(canon ((ps.map val).sum)).length<=N+4:=by
 refine Zl _ (N+3) ?_;have h1:=MO N ps h;have h2:ps.length*10 ^ N<=1000*10 ^ N:=Nat.mul_le_mul_right _ hn;have h3:∀m ps,(∀p∈ps,p.length<=m)->ps≠[]->((ps.map val).sum).natAbs<ps.length*10 ^ m:=fun m ps h hne=>by
  cases ps with
  | nil=>exact absurd rfl hne
  | cons p r=>
   have h1:=MO m r (fun y hy=>h y (List.mem_cons_of_mem _ hy))
   have h2:=Zo (h p List.mem_cons_self);have h3:=Int.natAbs_add_le (val p) ((r.map val).sum);rw[List.map_cons,List.sum_cons,List.length_cons,Nat.succ_mul];omega
 have h4:(1000:Nat)*10 ^ N=10 ^ (N+3):=by rw[Nat.pow_add,Nat.mul_comm]
 have h5:0<10 ^ (N+3):=Nat.pow_pos (by decide)
 by_cases hne:ps=[]
 ·subst hne;simpa using h5
 ·have:=h3 N ps h hne
  omega
theorem J8.fs {f:Fct} {ps:List Pk} {os:List Opn} (h:J8 f ps os):OG f:=
 ⟨by have:=h.key;omega,by have:=h.ins;omega,by have:=h.oth;omega,by have:=h.cur;omega,by have:=h.tgt;omega,by have:=h.q;omega,by have:=h.amt;omega,by have:=h.fee;omega,by have:=h.pn;omega,by have:=h.pd;omega,by have:=h.rn;omega,by have:=h.rd;omega,by have:=h.sn;omega,by have:=h.sd;omega⟩
theorem Cv (f:Fct):Array.foldl (fun (cs:Array Value) (x:Value×Nat)=>cs.setIfInBounds x.snd x.fst) (#[.string ⟨#[]⟩,.int .i64 0,.bool false,.int .i64 0,.int .i64 0,.string ⟨#[]⟩,.string ⟨#[]⟩,.string ⟨#[]⟩,.string ⟨#[]⟩,.string ⟨#[]⟩,.string ⟨#[]⟩,.string ⟨#[]⟩,.string ⟨#[]⟩,.string ⟨#[]⟩,.string ⟨#[]⟩,.string ⟨#[]⟩,.string ⟨#[]⟩,.string ⟨#[]⟩,.slice none 0 0,.slice none 0 0,.int .i64 0]:Array Value) (Zi f).zipIdx 0 21=Zi f:=by
 simp[Zi]
theorem Zag {E:Int} {cn:Bool} {kd:Int} {zs:List Int} (h:Sn E cn kd zs=0):E=0/\cn=false/\kd∈zs:=by
 unfold Sn at h
 by_cases h1:E=0
 ·rw[if_neg (fun h=>h h1)] at h
  by_cases h2:cn=true∨kd∉zs
  ·rw[if_pos h2] at h;cases h
  ·refine⟨h1,?_,?_⟩
   ·cases cn with
    | false=>rfl
    | true=>exact absurd (.inl rfl) h2
   ·exact Classical.not_not.1 (fun h=>h2 (.inr h))
 ·rw[if_pos h1] at h;cases h
theorem OT {e:Nat} (I:List UInt8) (he:e<=900):∀(ps:List (List UInt8)) (xs:List Lot),(∀p∈ps,p.length<=e)->(∀x∈xs,Qw x/\x.cost.length<=e)->∀y∈YF I ps xs,Qw y
 | _,[],_,_=>fun y hy=>by simp[YF] at hy
 | ps,x::r,hp,hx=>fun y hy=>by
  have hx0:=hx x List.mem_cons_self;have hr:=fun z hz=>hx z (List.mem_cons_of_mem x hz)
  unfold YF at hy
  by_cases hi:x.ins=I
  ·rw[if_pos hi] at hy;rcases List.mem_cons.1 hy with rfl|hy
   ·have hh:(ps.headD []).length<=e:=by
     cases ps with
     | nil=>exact Nat.zero_le _
     | cons p q=>exact hp p List.mem_cons_self
    obtain⟨h1,h2,h3,h4,h5⟩:=hx0.1;refine⟨h1,h2,h3,?_,h5⟩;show (canon (val x.cost-val (Qn (ps.headD []) x.cost))).length<=1000;refine Nt (Zl _ (e+1) ?_) (by omega)
    have g1:=Zo hx0.2;have g2:(val (Qn (ps.headD []) x.cost)).natAbs<10 ^ e:=by
     unfold Qn
     split
     ·exact g1
     ·exact Zo hh
    rw[Nat.pow_succ];omega
   ·exact OT I he ps.tail r (fun p h=>hp p (List.mem_of_mem_tail h)) hr y hy
  ·rw[if_neg hi] at hy;rcases List.mem_cons.1 hy with rfl|hy
   ·exact hx0.1
   ·exact OT I he ps r hp hr y hy
theorem Ie {A:Option Addr} {xs:List Lot} {n:Nat} (c:Nat) {f:Fct} {ps:List Pk} {os:List Opn} {w:World} (hG:GE w) (hn:xs.length=n) (hn2:n<=9223372036854775807) (hl:Yc w A xs) (hpn:ps.length=f.pN) (hpc:f.pN<=f.pC) (hpm:f.pN<=9223372036854775807) (hpk:WB w f.pA ps) (hon:os.length=f.oN) (hom:f.oN<=9223372036854775807) (hop:QJ w f.oA os) :
  Calls prog 4 #[.slice A n c,.agg (Zi f)] w fun e w'=>e=.returned (.bool true)/\Below w.heap.size w w':=by
 obtain⟨h1,h2,hb,-⟩:=VH w (.cells (Zi f) 48) (.cells (Zi f) 48);have X0:Hid (Blk (w.alloc (.cells (Zi f) 48)) w.heap.size (Zi f)):=Blk.new w (Zi f) 48;have X1:Hid (Blk ((w.alloc (.cells (Zi f) 48)).alloc (.cells (Zi f) 48)) w.heap.size (Zi f)):=⟨_,h1⟩;have CG:=Lh (ZbA (f:=f) (ps:=ps) (os:=os) (b:=w.heap.size+1) (d:=1) c hn hn2 (hl.below hb) ⟨_,h2⟩ hpn hpm (hpk.below hb) hon hom (hop.below hb));have HB:=Lh hb;have HL:=Lh hl;have HN:=Lh hn;have HP:=Lh (And.intro hpn (And.intro hpc (And.intro hpk (And.intro hon hop))));clear h1 h2 hb hn hn2 hl hpn hpc hpm hpk hon hom hop;have hsz:(Zi f).size=21:=rfl;go_enter func4,ntmps4;go_wp2_with (refine Zj rfl 48 (.tmp 3) rfl w.heap.size rfl (Zi f) X0.out underlying48 rfl Zs ?_);rw[Cv]
 refine CG.out.mono ?_
 rintro e w2 ⟨⟨R,rfl,hR⟩,hb2⟩;have HB2:=Lh (bto HB.out hb2);have X2:=Lh (X1.out.below hb2);have HR:=Lh hR;clear CG hR hb2 HB X0 X1 hsz;cases R with
 | true=>
  have KA:=Lh (Tz w2 (hG.below HB2.out));go_wp2_with fail
  refine KA.out.mono ?_
  rintro e w3 ⟨rfl,hb3⟩;go_wp2;go_ret;exact⟨rfl,bto HB2.out hb3⟩
 | false=>
 obtain⟨hgr,hsm⟩:=HR.out rfl;obtain⟨hLS,hbd⟩:=Fh HN.out HL.out hgr;have hF:=hsm.fs
 have hA:Qj w f ps os:=⟨hF,HP.out.2.2.1,HP.out.1,HP.out.2.1,fun p hp=>by have:=hsm.ps p hp;omega,HP.out.2.2.2.2,HP.out.2.2.2.1,fun x hx=>by
  have:=hsm.os x hx
  unfold Ax
  omega⟩
 obtain⟨Z,hZ⟩:∃Z,pvZ f.pn f.pd (canon (ZL (ofL f.ins xs)))=Z:=⟨_,rfl⟩
 have hol:(ofL f.ins xs).length<=xs.length:=List.length_filter_le _ _;have hZl:(canon Z).length<=40:=by
  rw[<-hZ];exact Nt (ZbB (i:=13) (j:=21) hsm.pn hsm.pd (by decide) (YB 13 (fun x=>x.q) _ (fun y hy=>(hbd y (List.mem_filter.1 hy).1).1) (by have:=hLS.len;have:=hLS.big;omega)) (by decide)) (by decide)
 have hZ0:ofL f.ins xs=[]->Z=0:=fun e=>by rw[<-hZ,e];exact AQ _ _
 have HF:=Lh hF;have HA:=Lh hA;have HLS:=Lh hLS;have HZ:=Lh hZ;have HZL:=Lh hZl;have HZ0:=Lh hZ0;have HBD:=Lh hbd;have KP:=Lh (Zbl (P:=fun E=>f.canc=false->f.kind=5∨f.kind=13->(E=0↔Hk f)) c (hG.below HB2.out) (hLS.below HB2.out) hF hZ (Nt hZl (by decide)) (fun w' hg hb'=>NN hg (hA.below (bto HB2.out hb'))))
 clear hgr hsm hLS hbd hF hA hZ hol hZl hZ0 HL HN HP HR;go_wp2_with (refine Zj rfl 48 (.tmp 3) rfl w.heap.size rfl (Zi f) X2.out underlying48 rfl Zs ?_)
 refine KP.out.mono ?_
 rintro e w3 ⟨h3,hb3⟩;have HB3:=Lh (bto HB2.out hb3);have X3:=Lh (X2.out.below hb3);clear KP hb3 HB2 X2;rcases h3 with ⟨R,hR,rfl,-⟩|⟨hl0,⟨E,hE,hcap⟩,AP,pp,np,cq,rfl,hpl,hnp,hst,hpp⟩
 ·have e1:(R != 0)=true:=UG (Qu hR);have KA:=Lh (Tz w3 (hG.below HB3.out));clear hR;go_wp2_with fail
  refine KA.out.mono ?_
  rintro e w4 ⟨rfl,hb4⟩;go_wp2;go_ret;exact⟨rfl,bto HB3.out hb4⟩
 obtain⟨rfl,hcn,hkd⟩:=Zag hcap;have hkk:f.kind=5∨f.kind=13:=by simpa using hkd
 have hgood:Hk f:=(hE hcn hkk).1 rfl;have HC:Hid (∀w1 w',Below w.heap.size w w1->GE w'->Below w1.heap.size w1 w'->Calls prog 121 #[.agg (Zi f)] w' fun e w''=>(∃E:Int,e=.returned (.int .i64 E)/\E=0)/\Below w'.heap.size w' w''):=fun w1 w' h1 hg h2=>(NN hg (HA.out.below (bto h1 h2))).mono fun e w'' h=>⟨h.1.imp fun E h=>⟨h.1,(h.2 hcn hkk).2 hgood⟩,h.2⟩
 have hsum:=OQ hl0 HZ0.out hpp;have HSUM:=Lh hsum;have HL0:=Lh hl0;have HCN:=Lh hcn;have HKK:=Lh hkk;have HPL:=Lh hpl;have HST:=Lh hst;have HPB:=Lh (QN (M:=13) (N:=40) (by decide) HZL.out (fun x hx=>(HBD.out x (List.mem_filter.1 hx).1).1) hpp)
 clear hE hcap hkd hkk hgood hsum hl0 hcn hpl hst hpp HA;go_wp2_with fail
 go_loopw [7,9,40] (fun sv _ iv wr=>∃(k:Nat) (s:List UInt8),k<=np/\sv=.string ⟨s.toArray⟩/\iv=.int .i64 (k:Int)/\Hid (s=canon (((pp.take k).map val).sum))/\Hid (Below w3.heap.size w3 wr)) (fun _ _ iv _=>np-(intOf iv).toNat)
 case atStart=>exact⟨0,[],Nat.zero_le _,rfl,rfl,rfl,Below.refl _ _⟩
 case round=>
 obtain⟨k,s,hk,rfl,rfl,HS,HBR⟩:=hrel
 by_cases hlk:k<np
 ·have e1:decide (k<np)=true:=Dt hlk;have e2:decide ((k:Int)<(np:Int))=true:=Dt (by omega)
  obtain⟨p,hp⟩:∃p,pp[k]?=some p:=⟨_,List.getElem?_eq_getElem (by have:=HPL.out;omega)⟩
  obtain⟨b,o,rfl,hbs,q0⟩:=(HST.out.below HBR.out) k p hp;have hpm:=Lm hp;have hsl:s.length<=100000:=by
   rw[HS.out];exact Nt (Cu (N:=82) (fun p hp=>HPB.out p (List.mem_of_mem_take hp)) (by rw[List.length_take];omega)) (by decide)
  have hpe:=HPB.out p hpm;have HV:Hid (val s+val p=((pp.take (k+1)).map val).sum):=by
   obtain⟨hkl,rfl⟩:=Lg.1 hp;show _=_;rw[HS.out,Zh,List.take_succ_eq_append_getElem hkl,List.map_append,List.sum_append];simp
  have CA:=Lh (Ret.e (VK (l:=s) (l':=p) (by omega) (by omega) HV.out))
  have HB4:=Lh (bto HB3.out HBR.out);clear hp hpm hsl hpe hbs HV HS;go_wp2_with fail
  refine (CA.out.of hG HB4.out).mono ?_
  rintro e w4 ⟨rfl,hb4⟩;have HB5:=Lh (bto HBR.out hb4);clear CA hb4 HB4 HBR q0 e1 e2;go_wp2;go_roundw
  case rel=>exact⟨k+1,_,by omega,rfl,by go_num,(by show _=_;simp[List.map_take]),HB5.out⟩
  case measure=>simp[intOf];omega
 have hkn:k=np:=by omega
 subst hkn;have e1:decide (k<k)=false:=Df (by omega)
 have e2:decide ((k:Int)<(k:Int))=false:=Df (by omega)
 obtain rfl:s=canon Z:=by rw[HS.out,List.take_of_length_le (by have:=HPL.out;omega),HSUM.out.1]
 have X4:=Lh (X3.out.below HBR.out);have HB4:=Lh (bto HB3.out HBR.out);have KE:=Lh (fun w' (hb:Below wr.heap.size wr w')=>NO c f.ins (hG.below (bto HB4.out hb)) (HLS.out.below (bto HB4.out hb)))
 have KV:=Lh (DZ (l:=f.pn) (l':=f.pd) (Q:=canon (ZL (ofL f.ins xs))) HF.out.pn HF.out.pd (Nt (YB 1000 (fun x=>x.q) _ (fun y hy=>(HLS.out.sm y (List.mem_filter.1 hy).1).q) (by have:=HLS.out.len;have:=HLS.out.big;have:=List.length_filter_le (fun x:Lot=>x.ins==f.ins) xs;show (List.filter _ xs).length<=_;omega)) (by decide)))
 rw[HZ.out] at KV;obtain⟨Q1,hQ1⟩:∃Q1,Q1=canon (ZL (ofL f.ins xs)):=⟨_,rfl⟩
 rw[<-hQ1] at KE KV;obtain⟨ZS,hZS⟩:∃ZS,ZS=canon Z:=⟨_,rfl⟩
 rw[<-hZS] at KV ⊢;have HZS:=Lh hZS;clear hQ1 hZS HS X3 HB3 HBR hk hlk;go_wp2_with fail;refine Zm (by kernel_rfl) (by kernel_rfl) ?_
 refine KeV ?_;simp only[Act.put,StT,StZ,StS,Nat.reduceAdd];refine KeV ?_;simp only[Act.put,StT,StZ,StS,Nat.reduceAdd];refine KeW (fun ρ wz hw=>by have q0:wz.cell? ⟨w.heap.size,12,none⟩=some (.string ⟨f.pn.toArray⟩):=(X4.out.below hw).c 12;have q1:wz.cell? ⟨w.heap.size,13,none⟩=some (.string ⟨f.pd.toArray⟩):=(X4.out.below hw).c 13;go_simp;try rfl) ?_
 simp only[Act.put,StT,StZ,StS,Nat.reduceAdd];refine KeV ?_;simp only[Act.put,StT,StZ,StS,Nat.reduceAdd];refine KeV ?_;simp only[Act.put,StT,StZ,StS,Nat.reduceAdd];refine KeW (fun ρ wz hw=>by have q0:wz.cell? ⟨w.heap.size,5,none⟩=some (.string ⟨f.ins.toArray⟩):=(X4.out.below hw).c 5;go_simp;try rfl) ?_
 simp only[Act.put,StT,StZ,StS,Nat.reduceAdd];refine KeC (fun wz hw=>KE.out wz hw) ?_
 simp only[Act.put,StT,StZ,StS,Nat.reduceAdd];refine KeC (fun wz hw=>KV.out.of (hG.below HB4.out).g hw) ?_
 simp only[Act.put,StT,StZ,StS,Nat.reduceAdd];refine KeV (v:=.bool false) ?_;simp only[Act.put,StT,StZ,StS,Nat.reduceAdd];refine ZC (fun ρ w5 hF=>?_)
 have HB5:=Lh (bto HB4.out hF.below);have X5:=Lh (X4.out.below hF.below);clear hF X4 HB4 KE KV;have q4:w5.cell? ⟨w.heap.size,4,none⟩=some (.int .i64 f.kind):=X5.out.c 4;rcases HKK.out with hkd|hkd
 ·rw[hkd] at q4;have KI:=Lh (AO (E0:=0) c (hG.below HB5.out) (HLS.out.below HB5.out) HF.out HZ.out (Nt HZL.out (by decide)) (fun w' hg hb=>HC.out w5 w' HB5.out hg hb) HL0.out (by rw[HCN.out,hkd];decide))
  clear hkd HC;go_wp2_with (refine Zj rfl 48 (.tmp 3) rfl w.heap.size rfl (Zi f) X5.out underlying48 rfl Zs ?_)
  refine KI.out.mono ?_
  rintro e w6 ⟨⟨A',c',v,ps2,rfl,hla,hpp2,heff⟩,hb6⟩;have hs2:=OQ HL0.out HZ0.out hpp2;have HB6:=Lh (bto HB5.out hb6);clear KI hpp2 hb6 q4 X5 HB5;rcases heff with ⟨hp2,rfl⟩|⟨hp2,be,bt,rfl,hbe,hbt⟩
  ·have hpp0:pp=[]:=HSUM.out.2.2 (hs2.2.1 hp2);obtain rfl:k=0:=by rw[<-HPL.out,hpp0];rfl
   have hbA:=Zb w6 (.cells #[.slice A' n c',.slice none 0 0,.slice none 0 0,.slice none 0 0] 60);have R6:=Blk.new w6 #[.slice A' n c',.slice none 0 0,.slice none 0 0,.slice none 0 0] 60;have q0:(w6.alloc (.cells #[.slice A' n c',.slice none 0 0,.slice none 0 0,.slice none 0 0] 60)).cell? ⟨w6.heap.size,0,none⟩=some (.slice A' n c'):=R6.c 0;have KS:=Lh (Zav A' A xs n c' c (w6.alloc (.cells #[.slice A' n c',.slice none 0 0,.slice none 0 0,.slice none 0 0] 60)) HLS.out.len (by have:=HLS.out.big;omega) (hla.below hbA) (HLS.out.mem.below (bto HB6.out hbA)))
   have RR:=Lh R6;have HB7:=Lh (bto HB6.out hbA);clear hs2 hp2 hpp0 hla hbA R6 HB6;go_wp2_with fail
   refine KS.out.mono ?_
   rintro e w7 ⟨rfl,hb7⟩;have q3:w7.cell? ⟨w6.heap.size,3,none⟩=some (.slice none 0 0):=(RR.out.below hb7).c 3;have HB8:=Lh (bto HB7.out hb7);have KA:=Lh (Tz w7 (hG.below HB8.out));clear KS q0 hb7 HB7 RR;go_wp2_with fail
   refine KA.out.mono ?_
   rintro e w8 ⟨rfl,hb8⟩;go_wp2;go_ret;exact⟨rfl,bto HB8.out hb8⟩
  ·have hpp0:pp≠[]:=fun e=>hp2 (hs2.2.2 (HSUM.out.2.1 e))
   have hk0:0<k:=by rw[<-HPL.out];exact List.length_pos_iff.2 hpp0
   have e3:decide (0<k)=true:=Dt hk0;have e4:decide ((0:Int)<(k:Int))=true:=Dt (by omega)
   have e5:((k:Int)==0)=false:=by rw[Bn];omega
   have e6:decide ((k:Int)=0)=false:=Df (by omega)
   have e7:decide (k=0)=false:=Df (by omega)
   rw[<-HZS.out] at hbt;have hbA:=Zb w6 (.cells #[.slice A' n c',.slice none 0 0,.slice none 0 0,.slice (some ⟨be,0,none⟩) 1 1] 60);have R6:=Blk.new w6 #[.slice A' n c',.slice none 0 0,.slice none 0 0,.slice (some ⟨be,0,none⟩) 1 1] 60;have q0:(w6.alloc (.cells #[.slice A' n c',.slice none 0 0,.slice none 0 0,.slice (some ⟨be,0,none⟩) 1 1] 60)).cell? ⟨w6.heap.size,0,none⟩=some (.slice A' n c'):=R6.c 0;have KS:=Lh (Zav A' A xs n c' c (w6.alloc (.cells #[.slice A' n c',.slice none 0 0,.slice none 0 0,.slice (some ⟨be,0,none⟩) 1 1] 60)) HLS.out.len (by have:=HLS.out.big;omega) (hla.below hbA) (HLS.out.mem.below (bto HB6.out hbA)))
   have RR:=Lh R6;have BE:=Lh (hbe.below hbA);have BT:=Lh (hbt.below hbA);have HB7:=Lh (bto HB6.out hbA);clear hs2 hp2 hpp0 hla hbA R6 HB6 hbe hbt;go_wp2_with fail
   refine KS.out.mono ?_
   rintro e w7 ⟨rfl,hb7⟩;have q3:w7.cell? ⟨w6.heap.size,3,none⟩=some (.slice (some ⟨be,0,none⟩) 1 1):=(RR.out.below hb7).c 3;have q6:w7.cell? ⟨be,6,none⟩=some (.slice (some ⟨bt,0,none⟩) 1 1):=(BE.out.below hb7).c 6;have q1:w7.cell? ⟨bt,1,none⟩=some (.string ⟨ZS.toArray⟩):=(BT.out.below hb7).c 1;have HB8:=Lh (bto HB7.out hb7);have KA:=Lh (Tz w7 (hG.below HB8.out));clear KS q0 hb7 HB7 RR BE BT;go_wp2_with fail
   refine KA.out.mono ?_
   rintro e w8 ⟨rfl,hb8⟩;go_wp2;go_ret;exact⟨rfl,bto HB8.out hb8⟩
 ·rw[hkd] at q4;have KR:=Lh (AX (E0:=0) c (hG.below HB5.out) (HLS.out.below HB5.out) HF.out HZ.out (Nt HZL.out (by decide)) (fun w' hg hb=>HC.out w5 w' HB5.out hg hb) HL0.out (by rw[HCN.out,hkd];decide))
  clear hkd HC;go_wp2_with (refine Zj rfl 48 (.tmp 3) rfl w.heap.size rfl (Zi f) X5.out underlying48 rfl Zs ?_)
  refine KR.out.mono ?_
  rintro e w6 ⟨⟨A',c',A1,n1,c1,A2,n2,c2,A3,n3,c3,ps2,rfl,hpp2,hr⟩,hb6⟩;have hs2:=OQ HL0.out HZ0.out hpp2;have HB6:=Lh (bto HB5.out hb6);have X6:=Lh (X5.out.below hb6);have HPB2:=Lh (QN (M:=13) (N:=40) (by decide) HZL.out (fun x hx=>(HBD.out x (List.mem_filter.1 hx).1).1) hpp2)
  clear KR hpp2 hb6 q4 X5 HB5;have hyl:∃yl:List Lot,Yf w6 A' yl n/\ZL (ofL f.ins yl)=ZL (ofL f.ins xs)/\((ps2=[]/\n3=0/\Yp (ofL f.ins yl)=Yp (ofL f.ins xs))∨(ps2≠[]/\n3=1/\Zbq f Z (Ug f.ins ps2 xs) w6 A3/\Yp (ofL f.ins yl)+Ug f.ins ps2 xs=Yp (ofL f.ins xs))):=by
   rcases hr with ⟨h1,h2,h3⟩|⟨h1,h2,h3,h4⟩
   ·exact⟨xs,⟨HLS.out.len,HLS.out.big,HLS.out.sm,h2⟩,rfl,.inl ⟨h1,h3,rfl⟩⟩
   ·obtain⟨g1,g2⟩:=Sq f.ins ps2 xs;exact⟨YF f.ins ps2 xs,⟨by rw[Uh];exact HLS.out.len,HLS.out.big,OT (e:=82) f.ins (by decide) ps2 xs (fun p hp=>HPB2.out p hp) (fun x hx=>⟨HLS.out.sm x hx,by have:=(HBD.out x hx).2.1;omega⟩),h2⟩,g1,.inr ⟨h1,h3,h4,g2⟩⟩
  obtain⟨yl,hyL,hyq,hyc⟩:=hyl;have hbA:=Zb w6 (.cells #[.slice A' n c',.slice A1 n1 c1,.slice A2 n2 c2,.slice A3 n3 c3] 60);have R6:=Blk.new w6 #[.slice A' n c',.slice A1 n1 c1,.slice A2 n2 c2,.slice A3 n3 c3] 60;have q5:(w6.alloc (.cells #[.slice A' n c',.slice A1 n1 c1,.slice A2 n2 c2,.slice A3 n3 c3] 60)).cell? ⟨w.heap.size,5,none⟩=some (.string ⟨f.ins.toArray⟩):=(X6.out.below hbA).c 5;have KT:=Lh (Mq c f.ins (hG.below (bto HB6.out hbA)) (HLS.out.below (bto HB6.out hbA)));have HY:=Lh hyL;have HYC:=Lh hyc;have HYL:Hid ((canon (Yp (ofL f.ins yl))).length<=100000000):=by
   show _<=_;exact Nt (YB 1000 (fun x=>x.cost) (ofL f.ins yl) (fun y hy=>(hyL.sm y (List.mem_filter.1 hy).1).cost) (by have:=hyL.len;have:=hyL.big;have:=List.length_filter_le (fun x:Lot=>x.ins==f.ins) yl;show (List.filter _ yl).length<=_;omega)) (by decide)
  have RR:=Lh R6;have HBA:=Lh hbA;have HYQ:=Lh hyq;have XA:=Lh (X6.out.below hbA);clear hr HPB2 hyL hyc hyq R6 X6 hbA;go_wp2_with fail
  refine KT.out.mono ?_
  rintro e w7 ⟨rfl,hb7⟩;have q5:w7.cell? ⟨w.heap.size,5,none⟩=some (.string ⟨f.ins.toArray⟩):=(XA.out.below hb7).c 5;have q0:w7.cell? ⟨w6.heap.size,0,none⟩=some (.slice A' n c'):=(RR.out.below hb7).c 0;have HB7:=Lh (bto HBA.out hb7);have KT2:=Lh (Mq c' f.ins (hG.below (bto HB6.out HB7.out)) (HY.out.below HB7.out));have RR7:=Lh (RR.out.below hb7);rw[HYQ.out] at KT2;clear KT hb7 RR XA HBA HY HYQ;go_wp2_with fail
  refine KT2.out.mono ?_
  rintro e w8 ⟨rfl,hb8⟩;have q3:w8.cell? ⟨w6.heap.size,3,none⟩=some (.slice A3 n3 c3):=(RR7.out.below hb8).c 3;have HB8:=Lh (bto HB7.out hb8);have HBW:=Lh (bto HB6.out HB8.out);clear KT2 hb8 RR7 q0 q5 HB7;obtain⟨T1,hT1⟩:∃T1,T1=canon (ZL (ofL f.ins xs)):=⟨_,rfl⟩
  rw[<-hT1];clear hT1;rcases HYC.out with ⟨hp2,rfl,hyc⟩|⟨hp2,rfl,heff,hyc⟩
  ·have hpp0:pp=[]:=HSUM.out.2.2 (hs2.2.1 hp2);obtain rfl:k=0:=by rw[<-HPL.out,hpp0];rfl
   rw[hyc];obtain⟨T2,hT2⟩:∃T2,T2=canon (Yp (ofL f.ins xs)):=⟨_,rfl⟩
   rw[<-hT2];have KA:=Lh (Tz w8 (hG.below HBW.out));clear hT2 hyc hs2 hp2 hpp0 HYC;go_wp2_with fail
   refine KA.out.mono ?_
   rintro e w9 ⟨rfl,hb9⟩;go_wp2;go_ret;exact⟨rfl,bto HBW.out hb9⟩
  ·have hpp0:pp≠[]:=fun e=>hp2 (hs2.2.2 (HSUM.out.2.1 e))
   have hk0:0<k:=by rw[<-HPL.out];exact List.length_pos_iff.2 hpp0
   have e3:decide (0<k)=true:=Dt hk0;have e4:decide ((0:Int)<(k:Int))=true:=Dt (by omega)
   have e5:((k:Int)==0)=false:=by rw[Bn];omega
   have e6:decide ((k:Int)=0)=false:=Df (by omega)
   have e7:decide (k=0)=false:=Df (by omega)
   obtain⟨be,bt,rfl,hbe,hbt⟩:=heff;rw[<-HZS.out] at hbt
   have KD:=Lh (Ret.e (W7 (l:=canon (Yp (ofL f.ins xs))) (l':=canon (Yp (ofL f.ins yl))) (z:=Ug f.ins ps2 xs) (by
    have:=YB 13 (fun x=>x.cost) (ofL f.ins xs) (fun y hy=>(HBD.out y (List.mem_filter.1 hy).1).2.1) (by have:=HLS.out.len;have:=HLS.out.big;have:=List.length_filter_le (fun x:Lot=>x.ins==f.ins) xs;show (List.filter _ xs).length<=_;omega)
    exact Nt this (by decide)) (by
    have h9:=HYL.out
    exact h9) (by rw[Zh,Zh];omega)))
   obtain⟨T2,hT2⟩:∃T2,T2=canon (Yp (ofL f.ins xs)):=⟨_,rfl⟩
   obtain⟨T3,hT3⟩:∃T3,T3=canon (Yp (ofL f.ins yl)):=⟨_,rfl⟩
   obtain⟨GS,hGS⟩:∃GS,GS=canon (Ug f.ins ps2 xs):=⟨_,rfl⟩
   rw[<-hT2,<-hT3,<-hGS] at KD;rw[<-hGS] at hbt;rw[<-hT2,<-hT3];have BT:=Lh (hbt.below HB8.out);have q6:w8.cell? ⟨be,6,none⟩=some (.slice (some ⟨bt,0,none⟩) 2 2):=(hbe.below HB8.out).c 6;clear hT2 hT3 hGS hyc hs2 hp2 hpp0 HYC hbe hbt HYL;go_wp2_with fail;refine Zm (by kernel_rfl) (by kernel_rfl) ?_
   refine KeV ?_;simp only[Act.put,StT,StZ,StS,Nat.reduceAdd];refine KeV ?_;simp only[Act.put,StT,StZ,StS,Nat.reduceAdd];refine KeV (v:=.bool true) ?_;simp only[Act.put,StT,StZ,StS,Nat.reduceAdd];refine KeV (v:=.bool true) ?_;simp only[Act.put,StT,StZ,StS,Nat.reduceAdd];refine KeV ?_;simp only[Act.put,StT,StZ,StS,Nat.reduceAdd];refine KeV ?_;simp only[Act.put,StT,StZ,StS,Nat.reduceAdd];refine KeV ?_;simp only[Act.put,StT,StZ,StS,Nat.reduceAdd];refine KeW (fun ρ wz hw=>by have q1:wz.cell? ⟨bt,1,none⟩=some (.string ⟨ZS.toArray⟩):=(BT.out.below hw).c 1;go_simp;try rfl) ?_
   simp only[Act.put,StT,StZ,StS,Nat.reduceAdd];refine KeV ?_;simp only[Act.put,StT,StZ,StS,Nat.reduceAdd];refine KeV (v:=.bool true) ?_;simp only[Act.put,StT,StZ,StS,Nat.reduceAdd];refine KeV (v:=.bool true) ?_;simp only[Act.put,StT,StZ,StS,Nat.reduceAdd];refine KeV (v:=.bool true) ?_;simp only[Act.put,StT,StZ,StS,Nat.reduceAdd];refine KeV ?_;simp only[Act.put,StT,StZ,StS,Nat.reduceAdd];refine KeV ?_;simp only[Act.put,StT,StZ,StS,Nat.reduceAdd];refine KeV ?_;simp only[Act.put,StT,StZ,StS,Nat.reduceAdd];refine KeW (fun ρ wz hw=>by have q1:wz.cell? ⟨bt,3,none⟩=some (.string ⟨GS.toArray⟩):=(BT.out.below hw).c 3;go_simp;try rfl) ?_
   simp only[Act.put,StT,StZ,StS,Nat.reduceAdd];refine KeV ?_;simp only[Act.put,StT,StZ,StS,Nat.reduceAdd];refine KeV ?_;simp only[Act.put,StT,StZ,StS,Nat.reduceAdd];refine KeC (fun wz hw=>KD.out.of hG (bto HBW.out hw)) ?_
   simp only[Act.put,StT,StZ,StS,Nat.reduceAdd];refine KeV (v:=.bool true) ?_;simp only[Act.put,StT,StZ,StS,Nat.reduceAdd];refine KeV (v:=.bool true) ?_;simp only[Act.put,StT,StZ,StS,Nat.reduceAdd];refine KeV (v:=.bool true) ?_;simp only[Act.put,StT,StZ,StS,Nat.reduceAdd];refine KeC (fun wz hw=>Tz wz (hG.below (bto HBW.out hw))) ?_
   simp only[Act.put,StT,StZ,StS,Nat.reduceAdd];refine KeV (v:=.bool true) ?_;simp only[Act.put,StT,StZ,StS,Nat.reduceAdd];refine KeV ?_;simp only[Act.put,StT,StZ,StS,Nat.reduceAdd];refine ZC (fun ρ w9 hF=>?_)
   have HB9:=Lh (bto HBW.out hF.below);clear hF BT KD HBW;go_wp2;go_ret;exact⟨rfl,HB9.out⟩
end Go.Proofs.YtpieeldbamklkaaGreatDoor
