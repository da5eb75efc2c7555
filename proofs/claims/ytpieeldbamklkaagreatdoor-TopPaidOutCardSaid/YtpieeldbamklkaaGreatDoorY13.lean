/- Texts put together: Pa Rg Rh Ab Ry Rz Zp Zc. -/
import Derived.Test.YtpieeldbamklkaaGreatDoorY12
import Derived.StillTailTactics
set_option maxHeartbeats 8000000
set_option maxRecDepth 100000
open Go.Proofs.Tryz
namespace Go.Proofs.YtpieeldbamklkaaGreatDoor
open Go.RowKit Go.Shelf Num
theorem D6 (l:List UInt8) (w:World):Calls prog 118 #[.string ⟨l.toArray⟩] w fun e w'=>e=.returned (.bool (decide ((13:Int)<(l.length:Int))))/\w'=w:=by
 go_enter func118,ntmps118;go_wp2;go_ret;exact⟨rfl,rfl⟩
def UN (x:Lot):Bool:=decide ((13:Int)<(x.q.length:Int))||(decide ((13:Int)<(x.cost.length:Int))||(decide ((13:Int)<(x.used.length:Int))||(decide ((40:Int)<(x.id.length:Int))||decide ((40:Int)<(x.ins.length:Int)))))
theorem D7 (x:Lot) (w:World):Calls prog 116 #[(Value.agg #[.string ⟨x.id.toArray⟩,.string ⟨x.ins.toArray⟩,.int .i64 x.acq,.int .i64 x.opn,.string ⟨x.q.toArray⟩,.string ⟨x.cost.toArray⟩,.string ⟨x.used.toArray⟩])] w fun e w'=>e=.returned (.bool (UN x))/\Below w.heap.size w w':=by
 have x1:=YS.new w x 130;have hb:=Zb w (.cells #[.string ⟨x.id.toArray⟩,.string ⟨x.ins.toArray⟩,.int .i64 x.acq,.int .i64 x.opn,.string ⟨x.q.toArray⟩,.string ⟨x.cost.toArray⟩,.string ⟨x.used.toArray⟩] 130);have q0:=x1.c0;have q1:=x1.c1;have q4:=x1.c4;have q5:=x1.c5;have q6:=x1.c6;have HL:=Lh D6;clear x1;cases e0:decide ((13:Int)<(x.q.length:Int)) with
 | true=>
  go_enter func116,ntmps116;go_wp2_with fail
  refine (HL.out _ _).mono ?_
  rintro e w0 ⟨rfl,rfl⟩;go_wp2;go_ret;exact⟨ZV (by unfold UN;simp[e0]),hb⟩
 | false=>
 cases e1:decide ((13:Int)<(x.cost.length:Int)) with
 | true=>
  go_enter func116,ntmps116;go_wp2_with fail
  refine (HL.out _ _).mono ?_
  rintro e w0 ⟨rfl,rfl⟩;go_wp2_with fail
  refine (HL.out _ _).mono ?_
  rintro e w1 ⟨rfl,rfl⟩;go_wp2;go_ret;exact⟨ZV (by unfold UN;simp[e0,e1]),hb⟩
 | false=>
 cases e2:decide ((13:Int)<(x.used.length:Int)) with
 | true=>
  go_enter func116,ntmps116;go_wp2_with fail
  refine (HL.out _ _).mono ?_
  rintro e w0 ⟨rfl,rfl⟩;go_wp2_with fail
  refine (HL.out _ _).mono ?_
  rintro e w1 ⟨rfl,rfl⟩;go_wp2_with fail
  refine (HL.out _ _).mono ?_
  rintro e w2 ⟨rfl,rfl⟩;go_wp2;go_ret;exact⟨ZV (by unfold UN;simp[e0,e1,e2]),hb⟩
 | false=>
 cases e3:decide ((40:Int)<(x.id.length:Int)) with
 | true=>
  go_enter func116,ntmps116;go_wp2_with fail
  refine (HL.out _ _).mono ?_
  rintro e w0 ⟨rfl,rfl⟩;go_wp2_with fail
  refine (HL.out _ _).mono ?_
  rintro e w1 ⟨rfl,rfl⟩;go_wp2_with fail
  refine (HL.out _ _).mono ?_
  rintro e w2 ⟨rfl,rfl⟩;go_wp2;go_ret;exact⟨ZV (by unfold UN;simp[e0,e1,e2,e3]),hb⟩
 | false=>
 cases e4:decide ((40:Int)<(x.ins.length:Int)) with
 | true=>
  go_enter func116,ntmps116;go_wp2_with fail
  refine (HL.out _ _).mono ?_
  rintro e w0 ⟨rfl,rfl⟩;go_wp2_with fail
  refine (HL.out _ _).mono ?_
  rintro e w1 ⟨rfl,rfl⟩;go_wp2_with fail
  refine (HL.out _ _).mono ?_
  rintro e w2 ⟨rfl,rfl⟩;go_wp2;go_ret;exact⟨ZV (by unfold UN;simp[e0,e1,e2,e3,e4]),hb⟩
 | false=>
 go_enter func116,ntmps116;go_wp2_with fail
 refine (HL.out _ _).mono ?_
 rintro e w0 ⟨rfl,rfl⟩;go_wp2_with fail
 refine (HL.out _ _).mono ?_
 rintro e w1 ⟨rfl,rfl⟩;go_wp2_with fail
 refine (HL.out _ _).mono ?_
 rintro e w2 ⟨rfl,rfl⟩;go_wp2;go_ret;exact⟨ZV (by unfold UN;simp only[e0,e1,e2,e3,e4];rfl),hb⟩
def LX (xs:List Lot):Bool:=(decide ((12:Int)<(xs.length:Int))&&decide ((xs.length:Int)<999))||(decide ((1002:Int)<(xs.length:Int))||xs.any UN)
theorem D8 {A:Option Addr} {xs:List Lot} {n:Nat} (c:Nat) {w:World} (hn:xs.length=n) (hn2:n<=9223372036854775807) (h:Yc w A xs) :
  Calls prog 49 #[.slice A n c] w fun e w'=>e=.returned (.bool (LX xs))/\Below w.heap.size w w':=by
 have HV:Hid (LX xs=((decide ((12:Int)<(n:Int))&&decide ((n:Int)<999))||(decide ((1002:Int)<(n:Int))||xs.any UN))):=by unfold LX;show _=_;rw[hn]
 generalize LX xs=R at *;have HX:=Lh h;have HN:=Lh hn;have hb:=Below.refl w.heap.size w;cases e0:(decide ((12:Int)<(n:Int))&&decide ((n:Int)<999)) with
 | true=>
  have HV2:Hid (R=true):=by show _=_;rw[HV.out,e0,Bool.true_or]
  obtain⟨e1,e2⟩:=Bool.and_eq_true_iff.1 e0;clear HV HX HN e0 h hn;go_enter func49,ntmps49;go_wp2;go_ret;exact⟨ZV HV2.out.symm,hb⟩
 | false=>
 cases e3:decide ((1002:Int)<(n:Int)) with
 | true=>
  have HV2:Hid (R=true):=by show _=_;rw[HV.out,e3,Bool.true_or,Bool.or_true]
  have e1:decide ((12:Int)<(n:Int))=true:=Dt (by have:=of_decide_eq_true e3;omega)
  have e2:decide ((n:Int)<999)=false:=Df (by have:=of_decide_eq_true e3;omega)
  clear HV HX HN e0 h hn;go_enter func49,ntmps49;go_wp2;go_ret;exact⟨ZV HV2.out.symm,hb⟩
 | false=>
 have HV2:Hid (R=(xs.drop 0).any UN):=by show _=_;rw[HV.out,e0,e3,Bool.false_or,Bool.false_or];rfl
 have key:decide ((12:Int)<(n:Int))=true/\decide ((n:Int)<999)=false∨decide ((12:Int)<(n:Int))=false:=by
  cases h1:decide ((12:Int)<(n:Int)) with
  | false=>exact .inr rfl
  | true=>rw[h1,Bool.true_and] at e0;exact .inl ⟨rfl,e0⟩
 clear HV e0 h hn;rcases key with ⟨e1,e2⟩|e1
 all_goals
  go_enter func49,ntmps49;go_wp2_with fail
  (try clear e1 e2)
  (try clear e1)
  clear e3
  go_loopw [3] (fun iv wr=>∃k:Nat,k<=n/\iv=.int .i64 (k:Int)/\Hid (R=(xs.drop k).any UN)/\Below w.heap.size w wr) (fun iv _=>n-(intOf iv).toNat)
  case atStart=>exact⟨0,Nat.zero_le _,rfl,HV2,Below.refl _ _⟩
  case round=>
   clear HV2;obtain⟨k,hk,rfl,HK,hbk⟩:=hrel
   by_cases hlt:k<n
   ·obtain⟨x,hx⟩:∃x,xs[k]?=some x:=⟨_,List.getElem?_eq_getElem (by rw[HN.out];omega)⟩
    obtain⟨b,o,rfl,hbs,hc0⟩:=(HX.out.below hbk) k x hx;have p0:=hc0.c0;have p1:=hc0.c1;have p2:=hc0.c2;have p3:=hc0.c3;have p4:=hc0.c4;have p5:=hc0.c5;have p6:=hc0.c6;have HD:Hid ((xs.drop k).any UN=(UN x||(xs.drop (k+1)).any UN)):=by
     obtain⟨hk',rfl⟩:=Lg.1 hx;show _=_;rw[List.drop_eq_getElem_cons hk',List.any_cons]
    have CP:=Lh (D7 x wr);have e1:decide ((k:Int)<(n:Int))=true:=Dt (by omega)
    clear hx hc0;go_wp2_with fail
    refine CP.out.mono ?_
    rintro e w2 ⟨rfl,hb2⟩;replace hbk:=bto hbk hb2;clear hb2 CP p0 p1 p2 p3 p4 p5 p6;cases hq:UN x with
    | true=>
     have HV3:Hid (R=true):=by show _=_;rw[HK.out,HD.out,hq,Bool.true_or]
     clear hq HK HD;go_wp2;go_ret;exact⟨ZV HV3.out.symm,hbk⟩
    | false=>
     have HV3:Hid (R=(xs.drop (k+1)).any UN):=by show _=_;rw[HK.out,HD.out,hq,Bool.false_or]
     clear hq HK HD;go_wp2;go_roundw
     case rel=>exact⟨k+1,by omega,by go_num,HV3,hbk⟩
     case measure=>simp[intOf];omega
   ·have HV3:Hid (R=false):=by show _=_;rw[HK.out,List.drop_of_length_le (by rw[HN.out];omega)];rfl
    have e1:decide ((k:Int)<(n:Int))=false:=Df (by omega)
    clear HK;go_wp2;go_ret;exact⟨ZV HV3.out.symm,hbk⟩
theorem Fh {w:World} {A:Option Addr} {xs:List Lot} {n:Nat} (hn:xs.length=n) (h:Yc w A xs) (hg:LX xs=false):Yf w A xs n/\∀x∈xs,x.q.length<=13/\x.cost.length<=13/\x.used.length<=13/\x.id.length<=40/\x.ins.length<=40:=by
 unfold LX at hg;rw[Bool.or_eq_false_iff,Bool.or_eq_false_iff] at hg;obtain⟨-,h2,h3⟩:=hg;have h4:=of_decide_eq_false h2;have hs:∀x∈xs,x.q.length<=13/\x.cost.length<=13/\x.used.length<=13/\x.id.length<=40/\x.ins.length<=40:=fun x hx=>by
  rw[List.any_eq_false] at h3;have h5:UN x=false:=by simpa using h3 x hx
  unfold UN at h5;simp only[Bool.or_eq_false_iff] at h5;obtain⟨a,b,c,d,e⟩:=h5
  have:=of_decide_eq_false a
  have:=of_decide_eq_false b
  have:=of_decide_eq_false c
  have:=of_decide_eq_false d
  have:=of_decide_eq_false e
  omega
 refine⟨⟨hn,by omega,fun x hx=>?_,h⟩,hs⟩
 obtain⟨a,b,c,d,e⟩:=hs x hx;exact⟨by omega,by omega,by omega,by omega,by omega⟩
theorem Zaz (p:Pk) (x:Lot) (bx:Nat) (w:World) (h:Blk w bx #[.string ⟨x.id.toArray⟩,.string ⟨x.ins.toArray⟩,.int .i64 x.acq,.int .i64 x.opn,.string ⟨x.q.toArray⟩,.string ⟨x.cost.toArray⟩,.string ⟨x.used.toArray⟩]) :
  Calls prog 164 #[.agg #[.string ⟨p.lot.toArray⟩,.string ⟨p.q.toArray⟩],.pointer (some ⟨bx,0,none⟩)] w fun e w'=>e=.returned (.bool (Z1 x.id p))/\Below w.heap.size w w':=by
 have hb:=Zb w (.cells #[.string ⟨p.lot.toArray⟩,.string ⟨p.q.toArray⟩] 195);have x1:=Blk.new w #[.string ⟨p.lot.toArray⟩,.string ⟨p.q.toArray⟩] 195;have p0:=x1.c 0;have p1:=(h.below hb).c 0;have HV:Hid (Z1 x.id p=(p.lot==x.id)):=rfl;have he:=Tj p.lot x.id;generalize Z1 x.id p=R at *;clear h x1;go_enter func164,ntmps164;go_wp2;go_ret;refine⟨ZV ?_,hb⟩;rw[HV.out]<;>first|exact he|rfl
theorem OS (args:Array Value) (w:World):(callFunc 164 args).run prog w=.ok (.enter 164 args) w:=by kernel_rfl
theorem Yy.same {w1 w2:World} {B:Nat} {v:Value} {xs:List Pk} (h:Yy w1 B v xs) (e:∀g,v.ownBlock=some g->w2.heap[g]?=w1.heap[g]?):Yy w2 B v xs:=by
 refine⟨h.1,?_⟩;rcases h.2 with h2|⟨g,cap,cur,ev,hB,hg,r⟩
 ·exact .inl h2
 ·exact .inr ⟨g,cap,cur,ev,hB,(e g (by rw[ev];rfl)).trans hg,r⟩
structure MH (w:World) (B bo bq:Nat) (s:List Pk×List UInt8) (v:Value) (W:World):Prop where
 below:Below w.heap.size w W
 lq:w.heap.size<=bq
 lo:bq<bo
 lb:bo<B
 le:B<=W.heap.size
 rem:W.heap[bq]?=some (.cells #[.string ⟨s.2.toArray⟩] 32 (0,0))
 out:W.heap[bo]?=some (.cells #[v] 45 (0,0))
 row:Yy W B v s.1
theorem MH.go {w W W':World} {B bo bq:Nat} {s:List Pk×List UInt8} {v:Value} (h:MH w B bo bq s v W) (hb:Below W.heap.size W W'):MH w B bo bq s v W':=
 ⟨bto h.below hb,h.lq,h.lo,h.lb,Nt h.le hb.size,Zt h.rem hb,Zt h.out hb,h.row.below hb⟩
def TkX (bo bq:Nat) (v:Value) (k:Nat):Prop:=k=bo∨k=bq∨v.ownBlock=some k
def LY (w:World) (B bo bq:Nat) (s:List Pk×List UInt8) (v:Value) (W:World) (e:Ending) (W':World):Prop:=
 e=.returned (.tuple #[])/\∃v',MH w B bo bq s v' W'/\Zq (TkX bo bq v) W W'/\∀g,v'.ownBlock=some g->v.ownBlock=some g∨W.heap.size<=g
theorem Na {w:World} {base n sz:Nat} {e:TypeId} {v:Value} {xs:List Value} (h:w.ownsRow base e sz v n xs):∀g,v.ownBlock=some g->base<=g:=fun g hg=>(World.ownsRow.lt h g hg).1
theorem UD {a b:List UInt8} {k:Nat} (ha:a.length<=k) (hb:b.length<=k):(Y0 a b).length<=k:=by
 unfold Y0
 split<;>assumption
theorem D9 {w W:World} {B bo bq:Nat} {own:List Lot} {Q:Int} {s:List Pk×List UInt8} {v:Value} {x:Lot} {most:List UInt8} (hG:GE w) (hC:MH w B bo bq s v W) (hI:YC own Q s) (hs:Qw x) (hm:most.length<=1000) (hQ:(canon Q).length<=1100) (hl:s.1.length<=100000) (hz0:0<=ZW (Z1 x.id) s.1 0) :
  Calls prog 162 #[(Value.agg #[.string ⟨x.id.toArray⟩,.string ⟨x.ins.toArray⟩,.int .i64 x.acq,.int .i64 x.opn,.string ⟨x.q.toArray⟩,.string ⟨x.cost.toArray⟩,.string ⟨x.used.toArray⟩]),.string ⟨most.toArray⟩,.pointer (some ⟨bo,0,none⟩),.pointer (some ⟨bq,0,none⟩)] W (LY w B bo bq (YN s x most) v W):=by
 have hxq:=hs.q;have hx0:=Ts s.1 (fun p hp=>(hI.pos p hp).1)
 have hsm:=hI.sum;have hrem:=hI.rem;have hrl:s.2.length<=1101:=by rw[hI.can];exact XG (by omega) hQ
 have hpl:∀p∈s.1,p.q.length<=1101:=fun p hp=>by
  rw[(hI.pos p hp).2];refine XG ⟨Int.le_of_lt (hI.pos p hp).1,?_⟩ hQ
  have:=hx0.2 p hp
  omega
 obtain⟨n,hn⟩:∃n,n=s.1.length:=⟨_,rfl⟩
 obtain⟨A,c,rfl⟩:=hC.row.formN hn.symm;have hbA:=Zb W (.cells #[.string ⟨x.id.toArray⟩,.string ⟨x.ins.toArray⟩,.int .i64 x.acq,.int .i64 x.opn,.string ⟨x.q.toArray⟩,.string ⟨x.cost.toArray⟩,.string ⟨x.used.toArray⟩] 130);have X1:=Lh (YS.new W x 130);have HC:=Lh (hC.go hbA);have K1:=Lh (EW _ OS (Z1 x.id) #[.pointer (some ⟨W.heap.size,0,none⟩)] A s.1 n c _ hn.symm (by omega) (HC.out.row.pkAt rfl) (fun p _ w' hb'=>Zaz p x W.heap.size w' (X1.out.below hb')))
 obtain⟨z,hz⟩:∃z,z=ZW (Z1 x.id) s.1 0:=⟨_,rfl⟩
 rw[<-hz] at K1 hz0;obtain⟨i,p,hzi,hpi,hpx,-⟩:=VN _ _ _ (hz ▸ hz0);rw[Nat.zero_add] at hzi;have hzi2:z=(i:Int):=hz.trans hzi;have hin:i<n:=by rw[hn];exact VP hpi
 have hppl:=hpl p (Lm hpi);obtain⟨lf,hlf⟩:∃lf,lf=canon (val x.q-val p.q):=⟨_,rfl⟩
 have elf:SS s.1 x=lf:=by
  unfold SS;rw[if_pos (hz ▸ hz0),hzi,Int.toNat_natCast,List.getD_eq_getElem?_getD,hpi,hlf];rfl
 have KL:=Lh (W7 (l:=x.q) (l':=p.q) (z:=val x.q-val p.q) (by omega) (by omega) rfl)
 rw[<-hlf] at KL;have hlfl:lf.length<=1105:=by
  rw[hlf];obtain⟨M,hM⟩:∃M,M=1101:=⟨_,rfl⟩
  have h1:=Zo (l:=x.q) (k:=M) (by omega)
  have h2:=Zo (l:=p.q) (k:=M) (by omega)
  refine Nt (Zl _ (M+1) ?_) (by omega)
  have e:(10:Nat) ^ (M+1)=10 ^ M*10:=Nat.pow_succ ..;rw[e];generalize (10:Nat) ^ M=P at *;omega
 obtain⟨n1,hn1⟩:∃n1,n1=Y0 most lf:=⟨_,rfl⟩
 obtain⟨nn,hnn⟩:∃nn,nn=Y0 n1 s.2:=⟨_,rfl⟩
 have en:nS s.1 s.2 x most=nn:=by unfold nS;rw[elf,hnn,hn1]
 have hn1l:n1.length<=1105:=by rw[hn1];exact UD (by omega) hlfl
 have hnnl:nn.length<=1105:=by rw[hnn];exact UD hn1l (by omega)
 have L1:=Lh (Mv (a:=most) (b:=lf) (by omega) (by omega))
 have L2:=Lh (Mv (a:=n1) (b:=s.2) (by omega) (by omega))
 rw[<-hn1] at L1;rw[<-hnn] at L2;have L3:=Lh (V7 (l:=nn) (by omega))
 have lq:=hC.lq;have lo:=hC.lo;have lb:=hC.lb;have le:=hC.le;have hbW0:=HC.out.below;have HGet:=Lh en;have HBA:Hid (Zq (TkX bo bq (.slice A n c)) W (W.alloc (.cells #[.string ⟨x.id.toArray⟩,.string ⟨x.ins.toArray⟩,.int .i64 x.acq,.int .i64 x.opn,.string ⟨x.q.toArray⟩,.string ⟨x.cost.toArray⟩,.string ⟨x.used.toArray⟩] 130))):=Zq.of_below hbA;clear hbA hC hI hs hm hQ hxq hx0 hsm hrem hpl elf hn1 hnn en hn1l hlfl;have HPI:=Lh hpi;have HZI:=Lh hzi;have HNL:Hid (s.1.length=n):=hn.symm;have HZ:=Lh hz;subst hzi2;have g1:decide ((0:Int)<=(i:Int))=true:=Dt (by omega)
 have g2:decide ((i:Int)<0)=false:=Df (by omega)
 clear hlf hn hz hl hpi hzi hz0 hpx;have q0:(W.alloc (.cells #[.string ⟨x.id.toArray⟩,.string ⟨x.ins.toArray⟩,.int .i64 x.acq,.int .i64 x.opn,.string ⟨x.q.toArray⟩,.string ⟨x.cost.toArray⟩,.string ⟨x.used.toArray⟩] 130)).cell? ⟨bo,0,none⟩=some (.slice A n c):=Zg HC.out.out 0;go_enter func162,ntmps162;go_wp2_with fail;refine K1.out.mono ?_;rintro e w1 ⟨rfl,hb1⟩;clear q0 K1;replace HC:=Lh (HC.out.go hb1);replace X1:=Lh (X1.out.below hb1);replace HBA:=Lh (HBA.out.trans (Zq.of_below hb1));have hbW:=bto hbW0 hb1;clear hbW0 hb1;have q4:=X1.out.c4;obtain⟨g,cc,e',hBg,hk⟩:=HC.out.row.row (by have:=HNL.out;omega)
 injection e' with e1 e2 e3
 subst e1 e3;have q0:w1.cell? ⟨bo,0,none⟩=some (.slice (some ⟨g,0,none⟩) n c):=Zg HC.out.out 0;have q1:=(hk.cells HPI.out).2;clear hk e2;go_wp2_with fail
 refine (KL.out.e.of hG hbW).mono ?_
 rintro e w2 ⟨rfl,hb2⟩;clear q0 q1 KL;replace HC:=Lh (HC.out.go hb2);replace X1:=Lh (X1.out.below hb2);replace HBA:=Lh (HBA.out.trans (Zq.of_below hb2));replace hbW:=bto hbW hb2;clear hb2 q4;go_wp2_with fail;refine Zm (by kernel_rfl) (by kernel_rfl) ?_
 iterate 2
  refine KeV ?_;simp only[Act.put,StT,StZ,StS,Nat.reduceAdd]
 refine KeC (fun wz hw=>L1.out.e.of hG (bto hbW hw)) ?_
 simp only[Act.put,StT,StZ,StS,Nat.reduceAdd];refine KeW (fun ρ wz hw=>by have q0:wz.cell? ⟨bq,0,none⟩=some (.string ⟨s.2.toArray⟩):=Zg (Zt HC.out.rem hw) 0;go_simp;try rfl) ?_
 simp only[Act.put,StT,StZ,StS,Nat.reduceAdd];refine KeC (fun wz hw=>L2.out.e.of hG (bto hbW hw)) ?_
 simp only[Act.put,StT,StZ,StS,Nat.reduceAdd];refine KeV ?_;simp only[Act.put,StT,StZ,StS,Nat.reduceAdd];intro ρ w3 hF;dsimp only;replace HC:=Lh (HC.out.go hF.below);replace X1:=Lh (X1.out.below hF.below);replace HBA:=Lh (HBA.out.trans (Zq.of_below hF.below));replace hbW:=bto hbW hF.below;clear hF L1 L2
 by_cases hp0:0<val nn
 rotate_left
 ·have e1:decide (0<val nn)=false:=Df hp0;rw[e1] at L3;have HT:Hid (YN s x most=s):=by
   show _=_;unfold YN;rw[HGet.out,if_pos (by omega)]
  clear hp0 e1;go_wp2_with fail
  refine (L3.out.e.of hG hbW).mono ?_
  rintro e w4 ⟨rfl,hb4⟩;clear L3;go_wp2
  go_end0
  rw[HT.out];exact⟨rfl,_,HC.out.go hb4,HBA.out.trans (Zq.of_below hb4),fun g h=>.inl h⟩
 have e1:decide (0<val nn)=true:=Dt hp0;rw[e1] at L3;have HT:Hid (∀nq,nq=canon (val p.q+val nn)->YN s x most=(s.1.set i ⟨p.lot,nq⟩,canon (val s.2-val nn))):=fun nq h=>by
  unfold YN Q7;rw[HGet.out,if_neg (by omega)]
  simp only[<-HZ.out,Int.toNat_natCast,List.getD_eq_getElem?_getD,HPI.out,Option.getD_some];rw[if_pos (by omega),h]
 clear hp0 e1;go_wp2_with fail
 refine (L3.out.e.of hG hbW).mono ?_
 rintro e W3 ⟨rfl,hb4⟩;clear L3;replace HC:=Lh (HC.out.go hb4);have HX3:=Lh (HBA.out.trans (Zq.of_below hb4));have hb3:=bto hbW hb4;clear hbW hb4 HBA X1;go_wp2_with fail;clear g1 g2;have HO:Hid (W3.heap[bo]?=some (.cells #[.slice (some ⟨g,0,none⟩) n c] 45 (0,0))):=HC.out.out;have HRM:=Lh HC.out.rem;have HRW:Hid (Yy W3 B (.slice (some ⟨g,0,none⟩) n c) s.1):=HC.out.row;have HP:=HPI;have HN:=HNL;have hll:s.1.length=n:=HNL.out;have HFR:Hid (∀g',Value.ownBlock (.slice (some ⟨g,0,none⟩) n c)=some g'->Value.ownBlock (.slice (some ⟨g,0,none⟩) n c)=some g'∨W.heap.size<=g'):=fun g' h=>.inl h
 have HGK:Hid (∀k,k<W.heap.size->¬TkX bo bq (.slice (some ⟨g,0,none⟩) n c) k->¬k=g):=fun k _ hn e=>hn (.inr (.inr (by rw[e];rfl)))
 have hgB:B<=g:=hBg;obtain⟨cur,hcur,hct,hcs⟩:O3 W3 g s.1:=by
  obtain⟨g',c',e',-,hk⟩:=HRW.out.row (by omega)
  injection e' with e1 e2 e3
  injection e1 with e1
  injection e1 with e1
  subst e1;exact hk
 have HCI:Hid (cur[i*2+1]?=some (.string ⟨p.q.toArray⟩)):=by
  have h1:=(SZ HP.out).2;rw[<-hct,List.getElem?_take,if_pos (by omega),Array.getElem?_toList] at h1
  exact h1
 have KA:=Lh (VK (l:=p.q) (l':=nn) (z:=val p.q+val nn) (by omega) (by omega) rfl)
 have KS:=Lh (W7 (l:=s.2) (l':=nn) (z:=val s.2-val nn) (by omega) (by omega) rfl)
 obtain⟨nq,hnq⟩:∃nq,nq=canon (val p.q+val nn):=⟨_,rfl⟩
 obtain⟨nr,hnr⟩:∃nr,nr=canon (val s.2-val nn):=⟨_,rfl⟩
 rw[<-hnq] at KA;rw[<-hnr] at KS;have HNQ:=Lh hnq;have HNR:=Lh hnr;clear hnq hnr;obtain⟨F,hF⟩:∃F:Fx,F=fun b=>if b=g then some (.cells cur 195 (0,0)) else none:=⟨_,rfl⟩
 have f1:F g=some (.cells cur 195 (0,0)):=by rw[hF];exact if_pos rfl
 have hX:∀b,F b≠none->b=g:=fun b hb=>by
  rw[hF] at hb;dsimp only at hb
  by_cases h1:b=g
  ·exact h1
  ·rw[if_neg h1] at hb;exact absurd rfl hb
 have HFF:Hid (∀b ob,F b=some ob->W3.heap[b]?=some ob):=fun b ob h=>by
  rw[hF] at h;dsimp only at h
  by_cases h1:b=g
  ·rw[if_pos h1] at h;rw[h1,<-h];exact hcur
  ·rw[if_neg h1] at h;cases h
 have hno:¬(F bo≠none):=fun h=>by have:=hX _ h;omega
 have hnq':¬(F bq≠none):=fun h=>by have:=hX _ h;omega
 have hlow:∀k,F k≠none->w.heap.size<=k:=fun k hk=>by have:=hX _ hk;omega
 have hlbo:bo<W3.heap.size:=(Ag.1 HO.out).1;obtain⟨tch,htch⟩:∃tch:Nat->List Nat,tch=fun b=>if b=g then [6,11] else []:=⟨_,rfl⟩
 clear hF;refine Yd tch F (by kernel_rfl) (by kernel_rfl) (by kernel_rfl) HFF.out ?_
 refine Zk _ rfl (fun wz hw=>by have q0:wz.cell? ⟨bo,0,none⟩=some (.slice (some ⟨g,0,none⟩) n c):=(Zg ((hw.block _ hlbo hno).trans HO.out) 0);go_simp;try rfl) ?_
 simp only[Act.put,StT,StZ,StS,Nat.reduceAdd];refine Zk _ rfl (fun wz hw=>by go_simp;try rfl) ?_
 simp only[Act.put,StT,StZ,StS,Nat.reduceAdd];refine Zk _ rfl (fun wz hw=>by have q0:wz.cell? ⟨bo,0,none⟩=some (.slice (some ⟨g,0,none⟩) n c):=(Zg ((hw.block _ hlbo hno).trans HO.out) 0);go_simp;try rfl) ?_
 simp only[Act.put,StT,StZ,StS,Nat.reduceAdd];refine Zk _ rfl (fun wz hw=>by go_simp;try rfl) ?_
 simp only[Act.put,StT,StZ,StS,Nat.reduceAdd];refine Zk (.pointer (some ⟨g,i*2,none⟩)) rfl (fun wz hw=>by go_simp;try rfl) ?_
 simp only[Act.put,StT,StZ,StS,Nat.reduceAdd];refine Zk (.pointer (some ⟨g,i*2+1,none⟩)) rfl (fun wz hw=>by go_simp;try rfl) ?_
 simp only[Act.put,StT,StZ,StS,Nat.reduceAdd];refine Xn g cur 195 (.string ⟨p.q.toArray⟩) f1 (by simp[htch]) rfl (fun wz hw hc=>by have q0:wz.cell? ⟨g,i*2+1,none⟩=some (.string ⟨p.q.toArray⟩):=(hc _).trans HCI.out;clear hc;go_simp;try rfl) ?_
 simp only[Act.put,StT,StZ,StS,Nat.reduceAdd];refine Zk _ rfl (fun wz hw=>by go_simp;try rfl) ?_
 simp only[Act.put,StT,StZ,StS,Nat.reduceAdd];refine XX _ _ _ rfl (fun wz hw=>by go_simp;try rfl) (fun wz hw=>KA.out.e.of hG (hw.lower hb3 hlow)) ?_
 simp only[Act.put,StT,StZ,StS,Nat.reduceAdd];refine Zk (.pointer (some ⟨g,i*2,none⟩)) rfl (fun wz hw=>by go_simp;try rfl) ?_
 simp only[Act.put,StT,StZ,StS,Nat.reduceAdd];refine Zk (.pointer (some ⟨g,i*2+1,none⟩)) rfl (fun wz hw=>by go_simp;try rfl) ?_
 simp only[Act.put,StT,StZ,StS,Nat.reduceAdd];refine Xo g (i*2+1) cur (.string ⟨nq.toArray⟩) 195 f1 (by simp[htch]) (fun j oj hj=>ZO (l:=[6,11]) (by kernel_rfl) j oj (by simpa [htch] using hj)) rfl (fun wz hw hc hf=>by have q0:wz.cell? ⟨g,i*2+1,none⟩=some (.string ⟨p.q.toArray⟩):=(hc _).trans HCI.out;have q1:=hf (i*2+1);clear hc hf;go_simp;try rfl) ?_
 simp only[Act.put,Nat.reduceAdd];refine Xp (fun w4 hF4=>?_)
 have hb4:=hF4.below.lower hb3 hlow;have HX4:Hid (Zq (fun k=>k=g) W3 w4):=⟨hF4.below.os,hF4.below.tape,hF4.below.output,hF4.below.size,fun k hk hn=>hF4.below.block k hk (fun h=>hn (hX k h))⟩
 have HO4:Hid (w4.heap[bo]?=some (.cells #[.slice (some ⟨g,0,none⟩) n c] 45 (0,0))):=(hF4.below.block _ hlbo hno).trans HO.out;have HR4:Hid (w4.heap[bq]?=some (.cells #[.string ⟨s.2.toArray⟩] 32 (0,0))):=(hF4.below.block _ (Ag.1 HRM.out).1 hnq').trans HRM.out;have HW4:Hid (Yy w4 B (.slice (some ⟨g,0,none⟩) n c) (s.1.set i ⟨p.lot,nq⟩)):=by
  have h1:Yy W3 B (.slice (some ⟨g,0,none⟩) s.1.length c) s.1:=by rw[HN.out];exact HRW.out
  have h2:=h1.set HP.out nq;rw[HN.out] at h2;refine h2.same (fun g' e=>?_)
  injection e with e
  have e:g=g':=e;subst e;rw[hF4.box g _ (if_pos rfl),hset _ hcur]
 have hs4:=hF4.below.size;clear hF4 f1 hX HFF hno hnq' htch KA HCI hcur hct hcs HRW;have q0:w4.cell? ⟨bq,0,none⟩=some (.string ⟨s.2.toArray⟩):=Zg HR4.out 0;go_wp2_with fail
 refine (KS.out.e.of hG hb4).mono ?_
 rintro e w5 ⟨rfl,hb5⟩;clear q0 KS;have q0:w5.cell? ⟨bq,0,none⟩=some (.string ⟨s.2.toArray⟩):=Zg (Zt HR4.out hb5) 0;have q1:w5.frozen? ⟨bq,0,none⟩=false:=Zn (Zt HR4.out hb5) 0;have HFin:Hid (LY w B bo bq (YN s x most) (.slice (some ⟨g,0,none⟩) n c) W (.returned (.tuple #[])) (w5.setCell ⟨bq,0,none⟩ (.string ⟨nr.toArray⟩))):=by
  have e:YN s x most=(s.1.set i ⟨p.lot,nq⟩,nr):=by rw[HNR.out];exact HT.out nq HNQ.out
  rw[e];refine⟨rfl,_,⟨(bto hb4 hb5).setCell (p:=⟨bq,0,none⟩) lq _,lq,lo,lb,?_,hset _ (Zt HR4.out hb5),hoth (Zt HO4.out hb5) (by omega),?_⟩,?_,HFR.out⟩
  ·have h1:=hb5.size;have h2:=HX3.out.size;show B<=(w5.setCell _ _).heap.size;simp;omega
  ·exact (HW4.out.below hb5).far (fun e=>by injection e with e;have e:g=bq:=e;omega)
  ·have h1:=HX3.out.size;have h3:=hb5.size;refine⟨hb5.os.trans (HX4.out.os.trans HX3.out.os),hb5.tape.trans (HX4.out.tape.trans HX3.out.tape),hb5.output.trans (HX4.out.output.trans HX3.out.output),?_,fun k hk hn=>?_⟩
   ·show W.heap.size<=(w5.setCell _ _).heap.size;simp;omega
   ·exact (Below.heap_setCell w5 ⟨bq,0,none⟩ _ k (fun e=>hn (.inr (.inl e)))).trans ((hb5.block k (by omega)).trans ((HX4.out.block k (by omega) (HGK.out k hk hn)).trans (HX3.out.block k hk hn)))
 clear hb4 hb5 HX4 HO4 HR4 HW4;go_wp2
 go_end0
 exact HFin.out
theorem Fi {w W:World} {B bo bq:Nat} {own:List Lot} {Q:Int} {s:List Pk×List UInt8} {v:Value} {x:Lot} {most:List UInt8} (hG:GE w) (hC:MH w B bo bq s v W) (hI:YC own Q s) (hs:Qw x) (hm:most.length<=1000) (hQ:(canon Q).length<=1100) (hl:s.1.length<=100000) (hz0:ZW (Z1 x.id) s.1 0<0) :
  Calls prog 162 #[(Value.agg #[.string ⟨x.id.toArray⟩,.string ⟨x.ins.toArray⟩,.int .i64 x.acq,.int .i64 x.opn,.string ⟨x.q.toArray⟩,.string ⟨x.cost.toArray⟩,.string ⟨x.used.toArray⟩]),.string ⟨most.toArray⟩,.pointer (some ⟨bo,0,none⟩),.pointer (some ⟨bq,0,none⟩)] W (LY w B bo bq (YN s x most) v W):=by
 have hxq:=hs.q;have hx0:=Ts s.1 (fun p hp=>(hI.pos p hp).1)
 have hsm:=hI.sum;have hrem:=hI.rem;have hrl:s.2.length<=1101:=by rw[hI.can];exact XG (by omega) hQ
 have hpl:∀p∈s.1,p.q.length<=1101:=fun p hp=>by
  rw[(hI.pos p hp).2];refine XG ⟨Int.le_of_lt (hI.pos p hp).1,?_⟩ hQ
  have:=hx0.2 p hp
  omega
 obtain⟨n,hn⟩:∃n,n=s.1.length:=⟨_,rfl⟩
 obtain⟨A,c,rfl⟩:=hC.row.formN hn.symm;have hbA:=Zb W (.cells #[.string ⟨x.id.toArray⟩,.string ⟨x.ins.toArray⟩,.int .i64 x.acq,.int .i64 x.opn,.string ⟨x.q.toArray⟩,.string ⟨x.cost.toArray⟩,.string ⟨x.used.toArray⟩] 130);have X1:=Lh (YS.new W x 130);have HC:=Lh (hC.go hbA);have K1:=Lh (EW _ OS (Z1 x.id) #[.pointer (some ⟨W.heap.size,0,none⟩)] A s.1 n c _ hn.symm (by omega) (HC.out.row.pkAt rfl) (fun p _ w' hb'=>Zaz p x W.heap.size w' (X1.out.below hb')))
 obtain⟨z,hz⟩:∃z,z=ZW (Z1 x.id) s.1 0:=⟨_,rfl⟩
 rw[<-hz] at K1 hz0;obtain⟨lf,hlf⟩:∃lf,lf=x.q:=⟨_,rfl⟩
 have elf:SS s.1 x=lf:=by
  unfold SS;rw[if_neg (by rw[<-hz];omega),hlf]
 have hlfl:lf.length<=1105:=by rw[hlf];omega
 obtain⟨n1,hn1⟩:∃n1,n1=Y0 most lf:=⟨_,rfl⟩
 obtain⟨nn,hnn⟩:∃nn,nn=Y0 n1 s.2:=⟨_,rfl⟩
 have en:nS s.1 s.2 x most=nn:=by unfold nS;rw[elf,hnn,hn1]
 have hn1l:n1.length<=1105:=by rw[hn1];exact UD (by omega) hlfl
 have hnnl:nn.length<=1105:=by rw[hnn];exact UD hn1l (by omega)
 have L1:=Lh (Mv (a:=most) (b:=lf) (by omega) (by omega))
 have L2:=Lh (Mv (a:=n1) (b:=s.2) (by omega) (by omega))
 rw[<-hn1] at L1;rw[<-hnn] at L2;have L3:=Lh (V7 (l:=nn) (by omega))
 have lq:=hC.lq;have lo:=hC.lo;have lb:=hC.lb;have le:=hC.le;have hbW0:=HC.out.below;have HGet:=Lh en;have HBA:Hid (Zq (TkX bo bq (.slice A n c)) W (W.alloc (.cells #[.string ⟨x.id.toArray⟩,.string ⟨x.ins.toArray⟩,.int .i64 x.acq,.int .i64 x.opn,.string ⟨x.q.toArray⟩,.string ⟨x.cost.toArray⟩,.string ⟨x.used.toArray⟩] 130))):=Zq.of_below hbA;clear hbA hC hI hs hm hQ hxq hx0 hsm hrem hpl elf hn1 hnn en hn1l hlfl;have HLF:=Lh hlf;have HZ0:=Lh hz0;have HNL:Hid (s.1.length=n):=hn.symm;have HZ:=Lh hz;have g1:decide (0<=z)=false:=Df (by omega)
 have g2:decide (z<0)=true:=Dt hz0;have hnl:n<=100000:=by omega
 clear hlf hn hz hl;have q0:(W.alloc (.cells #[.string ⟨x.id.toArray⟩,.string ⟨x.ins.toArray⟩,.int .i64 x.acq,.int .i64 x.opn,.string ⟨x.q.toArray⟩,.string ⟨x.cost.toArray⟩,.string ⟨x.used.toArray⟩] 130)).cell? ⟨bo,0,none⟩=some (.slice A n c):=Zg HC.out.out 0;go_enter func162,ntmps162;go_wp2_with fail;refine K1.out.mono ?_;rintro e w1 ⟨rfl,hb1⟩;clear q0 K1;replace HC:=Lh (HC.out.go hb1);replace X1:=Lh (X1.out.below hb1);replace HBA:=Lh (HBA.out.trans (Zq.of_below hb1));have hbW:=bto hbW0 hb1;clear hbW0 hb1;have q4:=X1.out.c4;rw[<-HLF.out] at q4;go_wp2_with fail;refine Zm (by kernel_rfl) (by kernel_rfl) ?_
 iterate 2
  refine KeV ?_;simp only[Act.put,StT,StZ,StS,Nat.reduceAdd]
 refine KeC (fun wz hw=>L1.out.e.of hG (bto hbW hw)) ?_
 simp only[Act.put,StT,StZ,StS,Nat.reduceAdd];refine KeW (fun ρ wz hw=>by have q0:wz.cell? ⟨bq,0,none⟩=some (.string ⟨s.2.toArray⟩):=Zg (Zt HC.out.rem hw) 0;go_simp;try rfl) ?_
 simp only[Act.put,StT,StZ,StS,Nat.reduceAdd];refine KeC (fun wz hw=>L2.out.e.of hG (bto hbW hw)) ?_
 simp only[Act.put,StT,StZ,StS,Nat.reduceAdd];refine KeV ?_;simp only[Act.put,StT,StZ,StS,Nat.reduceAdd];intro ρ w3 hF;dsimp only;replace HC:=Lh (HC.out.go hF.below);replace X1:=Lh (X1.out.below hF.below);replace HBA:=Lh (HBA.out.trans (Zq.of_below hF.below));replace hbW:=bto hbW hF.below;clear hF L1 L2;clear q4
 by_cases hp0:0<val nn
 rotate_left
 ·have e1:decide (0<val nn)=false:=Df hp0;rw[e1] at L3;have HT:Hid (YN s x most=s):=by
   show _=_;unfold YN;rw[HGet.out,if_pos (by omega)]
  clear hp0 e1;go_wp2_with fail
  refine (L3.out.e.of hG hbW).mono ?_
  rintro e w4 ⟨rfl,hb4⟩;clear L3;go_wp2
  go_end0
  rw[HT.out];exact⟨rfl,_,HC.out.go hb4,HBA.out.trans (Zq.of_below hb4),fun g h=>.inl h⟩
 have e1:decide (0<val nn)=true:=Dt hp0;rw[e1] at L3;have HT:Hid (∀nq,nq=canon (val ([]:List UInt8)+val nn)->YN s x most=((s.1++[Pk.mk x.id []]).set n ⟨x.id,nq⟩,canon (val s.2-val nn))):=fun nq h=>by
  unfold YN Q7;rw[HGet.out,if_neg (by omega)]
  have hz1:=HZ0.out;simp only[<-HZ.out];rw[if_neg (by omega),h,<-HNL.out]
  have e:val ([]:List UInt8)+val nn=val nn:=by
   have:val ([]:List UInt8)=0:=by decide
   omega
  rw[e];simp
 clear hp0 e1;have q0:w3.cell? ⟨bo,0,none⟩=some (.slice A n c):=Zg HC.out.out 0;go_wp2_with fail
 refine (L3.out.e.of hG hbW).mono ?_
 rintro e w4 ⟨rfl,hb4⟩;clear L3 q0;replace HC:=Lh (HC.out.go hb4);replace X1:=Lh (X1.out.below hb4);replace HBA:=Lh (HBA.out.trans (Zq.of_below hb4));have hb5:=bto hbW hb4;clear hbW hb4;have q0:w4.cell? ⟨bo,0,none⟩=some (.slice A n c):=Zg HC.out.out 0;have q1:=X1.out.c0;obtain⟨i0,hi,hz0,hz1,hz2⟩:=info_parts G0;have hown:w4.ownsRow B 195 2 (.slice A n c) n (WQ s.1):=by
  have h:=HC.out.row;unfold Yy at h;rw[HNL.out] at h;exact h
 have hbq:=Zb w4 (.cells #[.string ⟨x.id.toArray⟩,.string ⟨#[]⟩] 195);have hsz4:(w4.alloc (.cells #[.string ⟨x.id.toArray⟩,.string ⟨#[]⟩] 195)).heap.size=w4.heap.size+1:=by simp
 have HSZ:=Lh hsz4;have HOW:=Lh hown;have HII:=Lh (And.intro hi (And.intro hz0 (And.intro hz1 hz2)));clear hown hi hz0 hz1 hz2 hsz4;go_wp2_with (at_builtin;refine ZN rfl _ _ 45 rfl B 195 i0 (.agg #[.string ⟨#[]⟩,.string ⟨#[]⟩]) 2 32 underlying45 HII.out.1 HII.out.2.1 HII.out.2.2.1 HII.out.2.2.2 rfl (by decide) _ _ _ rfl (Z0 HOW.out hbq) ⟨w4.heap.size,0,none⟩ 1 1 [.string ⟨x.id.toArray⟩,.string ⟨#[]⟩] rfl rfl ?c1 ?c2 ?c3 ?c4 ?c5 ?_)
 case c1=>
  intro j u hu
  match j,hu with
  | 0,hu=>cases hu;exact Zg (ZG w4 _) 0
  | 1,hu=>cases hu;exact Zg (ZG w4 _) 1
 case c2=>
  intro u hu;simp only[List.mem_cons,List.not_mem_nil,or_false] at hu;rcases hu with rfl|rfl<;>rfl
 case c3=>unfold maxLen;omega
 case c4=>omega
 case c5=>have:=HC.out.le;have:=HSZ.out;omega
 intro v' w5 hown' hgrow hfresh;have hrow':Yy w5 B v' (s.1++[Pk.mk x.id []]):=Yy.app (x:=⟨x.id,[]⟩) hown' HNL.out;obtain⟨g,cc,rfl,hgB,hkb⟩:=hrow'.row (by simp)
 have hll0:(s.1++[Pk.mk x.id []]).length=n+1:=by rw[List.length_append,HNL.out];rfl
 rw[hll0] at hrow' hfresh hown' ⊢;have hov:=Na HOW.out;have hnb:Value.ownBlock (.slice A n c)≠some bo:=fun e=>by have:=hov _ e;omega
 have hnq:Value.ownBlock (.slice A n c)≠some bq:=fun e=>by have:=hov _ e;omega
 have hOo:w5.heap[bo]?=some (.cells #[.slice A n c] 45 (0,0)):=by
  have h1:=Zt HC.out.out hbq;exact (hgrow.block bo (Ag.1 h1).1 (fun e=>hnb e.symm)).trans h1
 have hRo:w5.heap[bq]?=some (.cells #[.string ⟨s.2.toArray⟩] 32 (0,0)):=by
  have h1:=Zt HC.out.rem hbq;exact (hgrow.block bq (Ag.1 h1).1 (fun e=>hnq e.symm)).trans h1
 have hgr:Zq (TkX bo bq (.slice A n c)) (w4.alloc (.cells #[.string ⟨x.id.toArray⟩,.string ⟨#[]⟩] 195)) w5:=⟨hgrow.os,hgrow.tape,hgrow.output,hgrow.size,fun k hk hn=>hgrow.block k hk (fun e=>hn (.inr (.inr e.symm)))⟩
 have q2:w5.cell? ⟨bo,0,none⟩=some (.slice A n c):=Zg hOo 0;have q3:w5.frozen? ⟨bo,0,none⟩=false:=Zn hOo 0;have hb3:Below w.heap.size w (w5.setCell ⟨bo,0,none⟩ (.slice (some ⟨g,0,none⟩) (n+1) cc)):=by
  refine Below.setCell (p:=⟨bo,0,none⟩) ?_ (by show w.heap.size<=bo;omega) _
  refine (bto hb5 hbq).grown hgrow (bto hb5 hbq).size (fun k hk=>?_)
  have:=hov k hk
  omega
 have HX3:Hid (Zq (TkX bo bq (.slice A n c)) W (w5.setCell ⟨bo,0,none⟩ (.slice (some ⟨g,0,none⟩) (n+1) cc))):=
  ((HBA.out.trans (Zq.of_below hbq)).trans hgr).trans (ZQ (g:=bo) (X:=TkX bo bq (.slice A n c)) (.inl rfl) [.slice (some ⟨g,0,none⟩) (n+1) cc] 0 w5)
 have HO:Hid ((w5.setCell ⟨bo,0,none⟩ (.slice (some ⟨g,0,none⟩) (n+1) cc)).heap[bo]?=some (.cells #[.slice (some ⟨g,0,none⟩) (n+1) cc] 45 (0,0))):=hset _ hOo;have HRM:Hid ((w5.setCell ⟨bo,0,none⟩ (.slice (some ⟨g,0,none⟩) (n+1) cc)).heap[bq]?=some (.cells #[.string ⟨s.2.toArray⟩] 32 (0,0))):=hoth hRo (by omega)
 have HRW:Hid (Yy (w5.setCell ⟨bo,0,none⟩ (.slice (some ⟨g,0,none⟩) (n+1) cc)) B (.slice (some ⟨g,0,none⟩) (n+1) cc) (s.1++[Pk.mk x.id []])):=hrow'.far (fun e=>by injection e with e;have e:g=bo:=e;omega)
 have hws:W.heap.size<=w4.heap.size:=by
  have:=HBA.out.size
  omega
 have HFR:Hid (∀g',Value.ownBlock (.slice (some ⟨g,0,none⟩) (n+1) cc)=some g'->Value.ownBlock (.slice A n c)=some g'∨W.heap.size<=g'):=fun g' h=>by
  rcases hfresh g' h with h1|h1
  ·exact .inl h1
  ·have:=HSZ.out
   exact .inr (by omega)
 have HGK:Hid (∀k,k<W.heap.size->¬TkX bo bq (.slice A n c) k->¬k=g):=fun k hk hn e=>by
  rcases HFR.out g rfl with h1|h1
  ·exact hn (.inr (.inr (by rw[e];exact h1)))
  ·omega
 have HN:Hid ((s.1++[Pk.mk x.id []]).length=n+1):=hll0;have HP:Hid ((s.1++[Pk.mk x.id []])[n]?=some ⟨x.id,[]⟩):=by show _=_;rw[<-HNL.out];simp
 obtain⟨p,hpe⟩:∃p:Pk,p=⟨x.id,[]⟩:=⟨_,rfl⟩
 obtain⟨l,hle⟩:∃l,l=s.1++[Pk.mk x.id []]:=⟨_,rfl⟩
 obtain⟨i,hie⟩:∃i,i=n:=⟨_,rfl⟩
 have hppl:p.q.length<=1101:=by rw[hpe];exact Nat.zero_le _
 have HT2:Hid (∀nq,nq=canon (val p.q+val nn)->YN s x most=(l.set i ⟨p.lot,nq⟩,canon (val s.2-val nn))):=by
  rw[hpe,hle,hie];exact HT.out
 rw[<-hle] at HRW HN HP;rw[<-hpe,<-hie] at HP;have HPE:=Lh hpe;have HIE2:=Lh hie;clear hpe hle hrow' hown' hgrow hfresh hOo hRo hgr hkb hnb hnq hov HC HOW HII hbq q0 q1 HBA X1 HT hb5 hll0 HLF;have HT:=HT2;clear HT2;go_wp2_with fail;clear q2 q3 g1 g2;obtain⟨W3,hW3⟩:∃W3,W3=w5.setCell ⟨bo,0,none⟩ (.slice (some ⟨g,0,none⟩) (n+1) cc):=⟨_,rfl⟩
 rw[<-hW3] at hb3 HX3 HO HRM HRW ⊢;rw[<-HIE2.out];rw[<-HIE2.out] at HO HRW HN HFR HX3 HGK;have hi1:i<=100000:=by rw[hie];omega
 clear hie hW3 hnl hws;obtain⟨N,hN⟩:∃N,N=i+1:=⟨_,rfl⟩
 rw[<-hN] at HO HRW HN HFR ⊢;have hll:l.length=N:=HN.out;have hin:i<N:=by omega
 have hi2:N<=100001:=by omega
 clear hN hi1;obtain⟨cur,hcur,hct,hcs⟩:O3 W3 g l:=by
  obtain⟨g',c',e',-,hk⟩:=HRW.out.row (by omega)
  injection e' with e1 e2 e3
  injection e1 with e1
  injection e1 with e1
  subst e1;exact hk
 have HCI:Hid (cur[i*2+1]?=some (.string ⟨p.q.toArray⟩)):=by
  have h1:=(SZ HP.out).2;rw[<-hct,List.getElem?_take,if_pos (by omega),Array.getElem?_toList] at h1
  exact h1
 have KA:=Lh (VK (l:=p.q) (l':=nn) (z:=val p.q+val nn) (by omega) (by omega) rfl)
 have KS:=Lh (W7 (l:=s.2) (l':=nn) (z:=val s.2-val nn) (by omega) (by omega) rfl)
 obtain⟨nq,hnq⟩:∃nq,nq=canon (val p.q+val nn):=⟨_,rfl⟩
 obtain⟨nr,hnr⟩:∃nr,nr=canon (val s.2-val nn):=⟨_,rfl⟩
 rw[<-hnq] at KA;rw[<-hnr] at KS;have HNQ:=Lh hnq;have HNR:=Lh hnr;clear hnq hnr;obtain⟨F,hF⟩:∃F:Fx,F=fun b=>if b=g then some (.cells cur 195 (0,0)) else none:=⟨_,rfl⟩
 have f1:F g=some (.cells cur 195 (0,0)):=by rw[hF];exact if_pos rfl
 have hX:∀b,F b≠none->b=g:=fun b hb=>by
  rw[hF] at hb;dsimp only at hb
  by_cases h1:b=g
  ·exact h1
  ·rw[if_neg h1] at hb;exact absurd rfl hb
 have HFF:Hid (∀b ob,F b=some ob->W3.heap[b]?=some ob):=fun b ob h=>by
  rw[hF] at h;dsimp only at h
  by_cases h1:b=g
  ·rw[if_pos h1] at h;rw[h1,<-h];exact hcur
  ·rw[if_neg h1] at h;cases h
 have hno:¬(F bo≠none):=fun h=>by have:=hX _ h;omega
 have hnq':¬(F bq≠none):=fun h=>by have:=hX _ h;omega
 have hlow:∀k,F k≠none->w.heap.size<=k:=fun k hk=>by have:=hX _ hk;omega
 have hlbo:bo<W3.heap.size:=(Ag.1 HO.out).1;obtain⟨tch,htch⟩:∃tch:Nat->List Nat,tch=fun b=>if b=g then [6,11] else []:=⟨_,rfl⟩
 clear hF;refine Yd tch F (by kernel_rfl) (by kernel_rfl) (by kernel_rfl) HFF.out ?_
 refine Zk _ rfl (fun wz hw=>by have q0:wz.cell? ⟨bo,0,none⟩=some (.slice (some ⟨g,0,none⟩) N cc):=(Zg ((hw.block _ hlbo hno).trans HO.out) 0);go_simp;try rfl) ?_
 simp only[Act.put,StT,StZ,StS,Nat.reduceAdd];refine Zk _ rfl (fun wz hw=>by go_simp;try rfl) ?_
 simp only[Act.put,StT,StZ,StS,Nat.reduceAdd];refine Zk _ rfl (fun wz hw=>by have q0:wz.cell? ⟨bo,0,none⟩=some (.slice (some ⟨g,0,none⟩) N cc):=(Zg ((hw.block _ hlbo hno).trans HO.out) 0);go_simp;try rfl) ?_
 simp only[Act.put,StT,StZ,StS,Nat.reduceAdd];refine Zk _ rfl (fun wz hw=>by go_simp;try rfl) ?_
 simp only[Act.put,StT,StZ,StS,Nat.reduceAdd];refine Zk (.pointer (some ⟨g,i*2,none⟩)) rfl (fun wz hw=>by go_simp;try rfl) ?_
 simp only[Act.put,StT,StZ,StS,Nat.reduceAdd];refine Zk (.pointer (some ⟨g,i*2+1,none⟩)) rfl (fun wz hw=>by go_simp;try rfl) ?_
 simp only[Act.put,StT,StZ,StS,Nat.reduceAdd];refine Xn g cur 195 (.string ⟨p.q.toArray⟩) f1 (by simp[htch]) rfl (fun wz hw hc=>by have q0:wz.cell? ⟨g,i*2+1,none⟩=some (.string ⟨p.q.toArray⟩):=(hc _).trans HCI.out;clear hc;go_simp;try rfl) ?_
 simp only[Act.put,StT,StZ,StS,Nat.reduceAdd];refine Zk _ rfl (fun wz hw=>by go_simp;try rfl) ?_
 simp only[Act.put,StT,StZ,StS,Nat.reduceAdd];refine XX _ _ _ rfl (fun wz hw=>by go_simp;try rfl) (fun wz hw=>KA.out.e.of hG (hw.lower hb3 hlow)) ?_
 simp only[Act.put,StT,StZ,StS,Nat.reduceAdd];refine Zk (.pointer (some ⟨g,i*2,none⟩)) rfl (fun wz hw=>by go_simp;try rfl) ?_
 simp only[Act.put,StT,StZ,StS,Nat.reduceAdd];refine Zk (.pointer (some ⟨g,i*2+1,none⟩)) rfl (fun wz hw=>by go_simp;try rfl) ?_
 simp only[Act.put,StT,StZ,StS,Nat.reduceAdd];refine Xo g (i*2+1) cur (.string ⟨nq.toArray⟩) 195 f1 (by simp[htch]) (fun j oj hj=>ZO (l:=[6,11]) (by kernel_rfl) j oj (by simpa [htch] using hj)) rfl (fun wz hw hc hf=>by have q0:wz.cell? ⟨g,i*2+1,none⟩=some (.string ⟨p.q.toArray⟩):=(hc _).trans HCI.out;have q1:=hf (i*2+1);clear hc hf;go_simp;try rfl) ?_
 simp only[Act.put,Nat.reduceAdd];refine Xp (fun w4 hF4=>?_)
 have hb4:=hF4.below.lower hb3 hlow;have HX4:Hid (Zq (fun k=>k=g) W3 w4):=⟨hF4.below.os,hF4.below.tape,hF4.below.output,hF4.below.size,fun k hk hn=>hF4.below.block k hk (fun h=>hn (hX k h))⟩
 have HO4:Hid (w4.heap[bo]?=some (.cells #[.slice (some ⟨g,0,none⟩) N cc] 45 (0,0))):=(hF4.below.block _ hlbo hno).trans HO.out;have HR4:Hid (w4.heap[bq]?=some (.cells #[.string ⟨s.2.toArray⟩] 32 (0,0))):=(hF4.below.block _ (Ag.1 HRM.out).1 hnq').trans HRM.out;have HW4:Hid (Yy w4 B (.slice (some ⟨g,0,none⟩) N cc) (l.set i ⟨p.lot,nq⟩)):=by
  have h1:Yy W3 B (.slice (some ⟨g,0,none⟩) l.length cc) l:=by rw[HN.out];exact HRW.out
  have h2:=h1.set HP.out nq;rw[HN.out] at h2;refine h2.same (fun g' e=>?_)
  injection e with e
  have e:g=g':=e;subst e;rw[hF4.box g _ (if_pos rfl),hset _ hcur]
 have hs4:=hF4.below.size;clear hF4 f1 hX HFF hno hnq' htch KA HCI hcur hct hcs HRW;have q0:w4.cell? ⟨bq,0,none⟩=some (.string ⟨s.2.toArray⟩):=Zg HR4.out 0;go_wp2_with fail
 refine (KS.out.e.of hG hb4).mono ?_
 rintro e w5 ⟨rfl,hb5⟩;clear q0 KS;have q0:w5.cell? ⟨bq,0,none⟩=some (.string ⟨s.2.toArray⟩):=Zg (Zt HR4.out hb5) 0;have q1:w5.frozen? ⟨bq,0,none⟩=false:=Zn (Zt HR4.out hb5) 0;have HFin:Hid (LY w B bo bq (YN s x most) (.slice A i c) W (.returned (.tuple #[])) (w5.setCell ⟨bq,0,none⟩ (.string ⟨nr.toArray⟩))):=by
  have e:YN s x most=(l.set i ⟨p.lot,nq⟩,nr):=by rw[HNR.out];exact HT.out nq HNQ.out
  rw[e];refine⟨rfl,_,⟨(bto hb4 hb5).setCell (p:=⟨bq,0,none⟩) lq _,lq,lo,lb,?_,hset _ (Zt HR4.out hb5),hoth (Zt HO4.out hb5) (by omega),?_⟩,?_,HFR.out⟩
  ·have h1:=hb5.size;have h2:=HX3.out.size;show B<=(w5.setCell _ _).heap.size;simp;omega
  ·exact (HW4.out.below hb5).far (fun e=>by injection e with e;have e:g=bq:=e;omega)
  ·have h1:=HX3.out.size;have h3:=hb5.size;refine⟨hb5.os.trans (HX4.out.os.trans HX3.out.os),hb5.tape.trans (HX4.out.tape.trans HX3.out.tape),hb5.output.trans (HX4.out.output.trans HX3.out.output),?_,fun k hk hn=>?_⟩
   ·show W.heap.size<=(w5.setCell _ _).heap.size;simp;omega
   ·exact (Below.heap_setCell w5 ⟨bq,0,none⟩ _ k (fun e=>hn (.inr (.inl e)))).trans ((hb5.block k (by omega)).trans ((HX4.out.block k (by omega) (HGK.out k hk hn)).trans (HX3.out.block k hk hn)))
 clear hb4 hb5 HX4 HO4 HR4 HW4;go_wp2
 go_end0
 have h:=HFin.out;rw[HIE2.out] at h;exact h
theorem Zbr {w W:World} {B bo bq:Nat} {own:List Lot} {Q:Int} {s:List Pk×List UInt8} {v:Value} {x:Lot} {most:List UInt8} (hG:GE w) (hC:MH w B bo bq s v W) (hI:YC own Q s) (hs:Qw x) (hm:most.length<=1000) (hQ:(canon Q).length<=1100) (hl:s.1.length<=100000) :
  Calls prog 162 #[(Value.agg #[.string ⟨x.id.toArray⟩,.string ⟨x.ins.toArray⟩,.int .i64 x.acq,.int .i64 x.opn,.string ⟨x.q.toArray⟩,.string ⟨x.cost.toArray⟩,.string ⟨x.used.toArray⟩]),.string ⟨most.toArray⟩,.pointer (some ⟨bo,0,none⟩),.pointer (some ⟨bq,0,none⟩)] W (LY w B bo bq (YN s x most) v W):=by
 by_cases h:0<=ZW (Z1 x.id) s.1 0
 ·exact D9 hG hC hI hs hm hQ hl h
 ·exact Fi hG hC hI hs hm hQ hl (by omega)
def J5 (p:Pk):Bool:=!decide (p.q=canon (val p.q))||!decide (0<val p.q)
def chE (xs:List Lot) (I q:List UInt8) (m:Int) (ps:List Pk):Int:=
 if YM xs≠0 then 1 else if ¬q=canon (val q) then 1 else if m=5/\ps.any J5=true then 1 else if m<1∨7<=m then 7 else if val q<=0 then 2 else if ZL (ofL I xs)<val q then 15 else 0
theorem J6 {xs:List Lot} {I q:List UInt8} {m:Int} {ps:List Pk} (h:chE xs I q m ps=0):YM xs=0/\q=canon (val q)/\¬(m=5/\ps.any J5=true)/\1<=m/\m<=6/\0<val q/\val q<=ZL (ofL I xs):=by
 unfold chE at h
 by_cases h1:YM xs≠0
 ·rw[if_pos h1] at h;exact absurd h (by decide)
 rw[if_neg h1] at h
 by_cases h2:¬q=canon (val q)
 ·rw[if_pos h2] at h;exact absurd h (by decide)
 rw[if_neg h2] at h
 by_cases h3:m=5/\ps.any J5=true
 ·rw[if_pos h3] at h;exact absurd h (by decide)
 rw[if_neg h3] at h
 by_cases h4:m<1∨7<=m
 ·rw[if_pos h4] at h;exact absurd h (by decide)
 rw[if_neg h4] at h
 by_cases h5:val q<=0
 ·rw[if_pos h5] at h;exact absurd h (by decide)
 rw[if_neg h5] at h
 by_cases h6:ZL (ofL I xs)<val q
 ·rw[if_pos h6] at h;exact absurd h (by decide)
 exact⟨Decidable.not_not.1 h1,Decidable.not_not.1 h2,h3,by omega,by omega,by omega,by omega⟩
theorem ZcP {p:Pk} (hp:p.q.length<=1000):Vt 160 #[.agg #[.string ⟨p.lot.toArray⟩,.string ⟨p.q.toArray⟩]] (.bool (J5 p)):=fun w hG=>by
 have hb:=Zb w (.cells #[.string ⟨p.lot.toArray⟩,.string ⟨p.q.toArray⟩] 195);have X1:=Lh (Blk.new w #[.string ⟨p.lot.toArray⟩,.string ⟨p.q.toArray⟩] 195);have C1:=Lh (Yz (l:=p.q) (by omega) rfl)
 have C2:=Lh (V7 (l:=p.q) (by omega))
 have HV:Hid (J5 p=(!decide (p.q=canon (val p.q))||!decide (0<val p.q))):=rfl
 generalize J5 p=R at *;have q1:=X1.out.c 1
 by_cases g:p.q=canon (val p.q)
 ·have HV2:Hid (R = !decide (0<val p.q)):=by show _=_;rw[HV.out,Dt g];rfl
  rw[if_pos g] at C1;generalize decide (0<val p.q)=nb at *;clear HV g;go_enter func160,ntmps160;go_wp2_with fail
  refine (C1.out.e.of hG hb).mono ?_
  rintro e w1 ⟨rfl,hb1⟩;clear q1;have q1:=(X1.out.below hb1).c 1;replace hb:=bto hb hb1;go_wp2_with fail
  refine (C2.out.e.of hG hb).mono ?_
  rintro e w2 ⟨rfl,hb2⟩;go_wp2;go_ret;exact⟨ZV HV2.out.symm,bto hb hb2⟩
 ·have HV2:Hid (R=true):=by show _=_;rw[HV.out,Df g];rfl
  rw[if_neg g] at C1;clear HV g C2;go_enter func160,ntmps160;go_wp2_with fail
  refine (C1.out.e.of hG hb).mono ?_
  rintro e w1 ⟨rfl,hb1⟩;go_wp2;go_ret;exact⟨ZV HV2.out.symm,bto hb hb1⟩
theorem Fj (args:Array Value) (w:World):(callFunc 160 args).run prog w=.ok (.enter 160 args) w:=by kernel_rfl
theorem Fl (args:Array Value) (w:World):(callFunc 162 args).run prog w=.ok (.enter 162 args) w:=by kernel_rfl
theorem NQ {α:Type} [DecidableEq α]:∀(l m:List α),l.Nodup->(∀x∈l,x∈m)->l.length<=m.length
 | [],m,_,_=>Nat.zero_le _
 | a::l,m,hn,hs=>by
  have hn':=List.nodup_cons.1 hn;have ha:=hs a List.mem_cons_self;have ih:=NQ l (m.erase a) hn'.2 (fun x hx=>(List.mem_erase_of_ne (fun e=>hn'.1 (by rw[<-e];exact hx))).2 (hs x (List.mem_cons_of_mem _ hx)))
  rw[List.length_erase_of_mem ha] at ih
  have:=List.length_pos_of_mem ha
  simp only[List.length_cons];omega
theorem YC.len {own:List Lot} {Q:Int} {s:List Pk×List UInt8} (h:YC own Q s):s.1.length<=own.length:=by
 have:=NQ (s.1.map (·.lot)) (own.map (·.id)) h.nd (fun x hx=>by
  obtain⟨p,hp,rfl⟩:=List.mem_map.1 hx;obtain⟨y,hy,e⟩:=h.mem p hp
  exact List.mem_map.2 ⟨y,hy,e⟩)
 simpa using this
theorem MI {own:List Lot} {q:List UInt8} (hq:q=canon (val q)) (h0:0<=val q):YC own (val q) ([],q):=
 ⟨by show Y7 []+val q=val q;simp[Y7],h0,hq,fun p hp=>(by cases hp),by simp,fun p hp=>(by cases hp)⟩
theorem Yy.base {w:World} {B B':Nat} {v:Value} {xs:List Pk} (h:Yy w B v xs) (hb:B'<=B):Yy w B' v xs:=by
 refine⟨h.1,?_⟩;rcases h.2 with h2|⟨g,cap,cur,ev,hB,r⟩
 ·exact .inl h2
 ·exact .inr ⟨g,cap,cur,ev,Nt hb hB,r⟩
def Nb (own:List Lot) (q:List UInt8) (m:Int) (ps:List Pk):List Pk×List UInt8:=if m=5 then Mu own ps ([],q) else ([],q)
def ZaA (w:World) (own:List Lot) (q:List UInt8) (m:Int) (ps:List Pk) (e:Ending) (w':World):Prop:=
 ∃v zs,e=.returned (.tuple #[v,.int .i64 0])/\Below w.heap.size w w'/\zs.Perm own/\(m=1->own.length<=20->O2 cfF own->zs=own)/\Yy w' w.heap.size v (YO zs (Nb own q m ps)).1
theorem Ce {w:World} {A Ap:Option Addr} {xs:List Lot} {ps:List Pk} {n np:Nat} (c cp:Nat) {I q:List UInt8} (hG:GE w) (hL:Yf w A xs n) (hP:WB w Ap ps) (hpn:ps.length=np) (hpn2:np<=100000) (hps:∀p∈ps,p.lot.length<=1000/\p.q.length<=1000) (hql:q.length<=1000) (hE:chE xs I q 1 ps=0) (hn19:n<20) :
  Calls prog 93 #[.slice A n c,.string ⟨I.toArray⟩,.string ⟨q.toArray⟩,.int .i64 1,.slice Ap np cp] w (ZaA w (ofL I xs) q 1 ps):=by
 obtain⟨c1,c2,c3,c4,c5,c6,c7⟩:=J6 hE;have hb:=Zb w (.cells #[.string ⟨q.toArray⟩] 32);have HQ:Hid ((w.alloc (.cells #[.string ⟨q.toArray⟩] 32)).heap[w.heap.size]?=some (.cells #[.string ⟨q.toArray⟩] 32 (0,0))):=ZG w _;have K1:=Lh (Tm c (hG.below hb) (hL.below hb));rw[c1] at K1;have K2:=Lh (Yz (l:=q) (c:=0) (by omega) (if_pos c2))
 have K3:=Lh (fun (w':World) (hb':Below w.heap.size w w')=>EY _ Fj J5 #[] Ap ps np cp w' hpn (by omega) (hP.below hb') (fun p hp w2 hb2=>ZcP (hps p hp).2 w2 ((hG.below hb').below hb2)))
 have K4:=Lh (fun (w':World)=>D4 w')
 have K5:=Lh (fun (w':World) (hb':Below w.heap.size w w')=>Mq c I (hG.below hb') (hL.below hb'))
 have K6:=Lh (V7 (l:=q) (by omega))
 rw[Dt c6] at K6;obtain⟨own,hown⟩:∃own,own=ofL I xs:=⟨_,rfl⟩
 have hosm:∀x∈own,Qw x:=fun x hx=>by rw[hown] at hx;exact hL.sm x ((List.mem_filter.1 hx).1)
 have hol:own.length<=100000:=by
  have h1:own.length<=xs.length:=by rw[hown];exact List.length_filter_le _ _
  have:=hL.len
  have:=hL.big
  omega
 have hol19:own.length<20:=by
  have h1:own.length<=xs.length:=by rw[hown];exact List.length_filter_le _ _
  have:=hL.len
  omega
 have hol1:1<=own.length:=by
  rcases Nat.eq_zero_or_pos own.length with h|h
  ·have:own=[]:=List.eq_nil_of_length_eq_zero h
   rw[<-hown,this] at c7;have e:ZL []=0:=rfl;omega
  ·exact h
 have K8:=Lh (fun (w':World) (hb':Below w.heap.size w w')=>lOf c I (hL.below hb'))
 rw[<-hown] at K5 K8 c7 ⊢;obtain⟨sq,hsq⟩:∃sq,sq=canon (ZL own):=⟨_,rfl⟩
 obtain⟨sc,hsc⟩:∃sc,sc=canon (Yp own):=⟨_,rfl⟩
 rw[<-hsq,<-hsc] at K5;obtain⟨cc,hcc⟩:∃cc,cc=Zy (val sq) (val q):=⟨_,rfl⟩
 have hsql:sq.length<=100000:=by rw[hsq];exact VS (fun x=>x.q) own (fun x hx=>(hosm x hx).q) hol
 have K7:=Lh (ZA (l:=sq) (l':=q) (by omega) (by omega) hcc.symm)
 have hcc0:¬cc<0:=by
  rw[hcc,hsq,Zh];unfold Zy;rw[if_neg (by omega)]
  split<;>omega
 have e7:decide (cc<0)=false:=Df hcc0;have HQI:=Lh (MI (own:=own) c2 (Int.le_of_lt c6));have HQL:Hid ((canon (val q)).length<=1100):=by rw[<-c2];show q.length<=1100;omega
 have HOS:=Lh hosm;have HPA:=Lh hP;have HPS:=Lh hps;have HPN:=Lh hpn;have HC3:=Lh c3;have lq:w.heap.size<=w.heap.size:=Nl _;clear hE c1 c2 c3 c6 c7 hown hosm hsq hsc hcc hsql hcc0 hL hP hps hpn hql;obtain⟨bq,hbq⟩:∃bq,bq=w.heap.size:=⟨_,rfl⟩
 rw[<-hbq] at HQ;have lq:w.heap.size<=bq:=by omega
 clear HC3 K3 c4 c5;go_enter func93,ntmps93;go_wp2_with fail;rw[<-hbq];have HBQ:=Lh hbq;clear hbq;refine K1.out.mono ?_;rintro e w1 ⟨rfl,hb1⟩;replace hb:=bto hb hb1;replace HQ:=Lh (Zt HQ.out hb1);have q0:w1.cell? ⟨bq,0,none⟩=some (.string ⟨q.toArray⟩):=Zg HQ.out 0;clear K1 hb1;go_wp2_with fail
 refine (K2.out.e.of hG hb).mono ?_
 rintro e w2 ⟨rfl,hb2⟩;replace hb:=bto hb hb2;replace HQ:=Lh (Zt HQ.out hb2);clear K2 hb2 q0;go_wp2_with fail;refine (K4.out _).mono ?_;rintro e w3 ⟨nm,f,cap,rv,bf,rfl,hbf,hB,hb3,-,hm1⟩;obtain⟨rfl,rfl,rfl⟩:=hm1 rfl;have hb3':=Zb w3 (.cells #[.string ⟨nm.toArray⟩,.func (.func 269) #[] (GW false bf),.bool false] 240);have HE:Hid (Blk (w3.alloc (.cells #[.string ⟨nm.toArray⟩,.func (.func 269) #[] (GW false bf),.bool false] 240)) w3.heap.size #[.string ⟨nm.toArray⟩,.func (.func 269) #[] (GW false bf),.bool false]):=Blk.new w3 _ 240;have HB:=Lh (hB.below hb3');replace hb:=bto (bto hb hb3) hb3';replace HQ:=Lh (Zt (Zt HQ.out hb3) hb3');clear K4 hb3 hb3' hB hm1 hbf;go_wp2_with fail;refine (K5.out _ hb).mono ?_;rintro e w4 ⟨rfl,hb4⟩;replace HE:=Lh (HE.out.below hb4);replace HB:=Lh (HB.out.below hb4);replace hb:=bto hb hb4;replace HQ:=Lh (Zt HQ.out hb4);have q0:w4.cell? ⟨bq,0,none⟩=some (.string ⟨q.toArray⟩):=Zg HQ.out 0;clear K5 hb4;go_wp2_with fail
 refine (K6.out.e.of hG hb).mono ?_
 rintro e w5 ⟨rfl,hb5⟩;replace HE:=Lh (HE.out.below hb5);replace HB:=Lh (HB.out.below hb5);replace hb:=bto hb hb5;replace HQ:=Lh (Zt HQ.out hb5);clear q0 K6 hb5;have q0:w5.cell? ⟨bq,0,none⟩=some (.string ⟨q.toArray⟩):=Zg HQ.out 0;go_wp2_with fail
 refine (K7.out.e.of hG hb).mono ?_
 rintro e w6 ⟨rfl,hb6⟩;replace HE:=Lh (HE.out.below hb6);replace HB:=Lh (HB.out.below hb6);replace hb:=bto hb hb6;replace HQ:=Lh (Zt HQ.out hb6);clear q0 K7 hb6;go_wp2_with fail;refine (K8.out _ hb).mono ?_;rintro e w7 ⟨v0,rfl,hro,hb7⟩;replace HE:=Lh (HE.out.below hb7);replace HB:=Lh (HB.out.below hb7);replace hb:=bto hb hb7;replace HQ:=Lh (Zt HQ.out hb7);obtain⟨Ao,co,rfl⟩:∃Ao co,v0=.slice Ao own.length co:=by
  rcases hro.2 with ⟨hv,h1⟩|⟨g,cap,cur,hv,-⟩
  ·omega
  ·exact⟨_,_,hv⟩
 obtain⟨g0,rfl,hg0,hr0⟩:=Lp hro rfl hol1;have HRO:=Lh hr0;clear K8 hb7 hro hr0 e7;have hbo:=Zb w7 (.cells #[.slice none 0 0] 45);have hsz:(w7.alloc (.cells #[.slice none 0 0] 45)).heap.size=w7.heap.size+1:=by simp
 have hqlt:bq<w7.heap.size:=(Ag.1 HQ.out).1;have helt:w3.heap.size<w7.heap.size:=HE.out.lt;have hblt:bf<w7.heap.size:=HB.out.lt;have hglt:g0<w7.heap.size:=HRO.out.lt;have hgq:g0≠bq:=fun e=>by
  obtain⟨cur,h0,-⟩:=HRO.out;rw[e,HQ.out] at h0;simp at h0
 have heq:w3.heap.size≠bq:=fun e=>by
  obtain⟨t0,h0⟩:=HE.out;rw[e,HQ.out] at h0;simp at h0
 have hfq:bf≠bq:=fun e=>by
  obtain⟨t0,h0⟩:=HB.out;rw[e,HQ.out] at h0;simp at h0
 have HC:Hid (MH w (w7.heap.size+1) w7.heap.size bq ([],q) (.slice none 0 0) (w7.alloc (.cells #[.slice none 0 0] 45))):=⟨bto hb hbo,lq,hqlt,Nat.lt_succ_self _,by rw[hsz];exact Nl _,Zt HQ.out hbo,ZG w7 _,Dw _ _⟩
 replace HE:=Lh (HE.out.below hbo);replace HB:=Lh (HB.out.below hbo);replace HRO:=Lh (HRO.out.below hbo);clear hbo hsz hb HQ;obtain⟨bo,hbo⟩:∃bo,bo=w7.heap.size:=⟨_,rfl⟩
 obtain⟨be,hbe⟩:∃be,be=w3.heap.size:=⟨_,rfl⟩
 obtain⟨B,hB⟩:∃B,B=bo+1:=⟨_,rfl⟩
 obtain⟨N,hN⟩:∃N,N=own.length:=⟨_,rfl⟩
 rw[<-hbo,<-hB] at HC;rw[<-hbo] at hqlt helt hblt hglt;rw[<-hbe] at HE helt heq;have hEn:=fun args w=>Fl args w
 have hboB:bo<B:=by omega
 have HBO:=Lh hbo;have HBE:=Lh hbe;have HNN:=Lh hN;have hN1:1<=N:=by omega
 have hN2:N<=100000:=by omega
 clear hbo hbe hB hN;have HI:=HQI;have HS1:Hid (Nb own q 1 ps=([],q)):=if_neg (by decide)
 go_upto_region 24 with fail
 rw[<-HBO.out,<-HBE.out,<-HNN.out];have KSo:=Lh (AN co (hG.below HC.out.below) ⟨HNN.out.symm,hN2,HOS.out,HRO.out.lotAt⟩ hN1 (by have:=HNN.out;omega) nm bf HB.out)
 have q1:=HE.out.c 0;have q2:=HE.out.c 1;have q3:=HE.out.c 2;go_wp2_with fail;refine KSo.out.mono ?_;rintro e w9 ⟨gs,cps,zs,rfl,hgs,hrs,hperm,hb9,hord⟩;have hvb:=HC.out.row.block;have hle:=HC.out.le;have HVG:Hid (Value.ownBlock (.slice none 0 0)≠some gs):=fun e=>by have:=(hvb gs e).2;omega
 have hgbo:gs≠bo:=by omega
 have hgbq:gs≠bq:=by omega
 replace HC:=Lh (HC.out.go hb9);have HRS:=Lh hrs;have HPE:=Lh hperm;have HOR:=Lh hord;have hzl:zs.length=N:=hperm.length_eq.trans HNN.out.symm;have hz1:zs.length<=N:=by omega
 have hz2:N<=zs.length:=by omega
 clear hvb hle hgs hrs hperm hb9 hord hzl q1 q2 q3 KSo HE HB HRO;go_wp2_with fail
 rename World=>wo
 go_loopw [24,95] (fun _ iv wr=>∃(k:Nat) (s:List Pk×List UInt8) (v:Value),k<=N/\iv=.int .i64 (k:Int)/\Hid (MH w B bo bq s v wr)/\Hid (YC own (val q) s)/\Hid (YO (zs.drop k) s=YO zs (([],q):List Pk×List UInt8))/\Hid (Yo wr gs zs)/\Hid (v.ownBlock≠some gs)) (fun _ iv _=>N-(intOf iv).toNat)
 case atStart=>exact⟨0,_,_,Nat.zero_le _,rfl,HC.out,HI.out,rfl,HRS.out,HVG.out⟩
 case round=>
  clear HC HI HRS HVG;obtain⟨k,s,v,hk,rfl,HC,HI,HRE,HRS,HVG⟩:=hrel
  by_cases hlk:k<N
  rotate_left
  ·have e1:decide (k<N)=false:=Df hlk;have e2:decide ((k:Int)<(N:Int))=false:=Df (by omega)
   have q0:wr.cell? ⟨bo,0,none⟩=some v:=Zg HC.out.out 0;have HF:Hid (ZaA w own q 1 ps (.returned (.tuple #[v,.int .i64 0])) wr):=by
    have e:s=YO zs (Nb own q 1 ps):=by
     have h:=HRE.out;rw[List.drop_of_length_le (by omega)] at h
     rw[HS1.out];exact h
    refine⟨v,zs,rfl,HC.out.below,HPE.out,fun hm h20 ho=>?_,?_⟩
    · exact HOR.out (by trivial) (by trivial) (by have:=HNN.out;omega) ho
    ·rw[<-e];exact HC.out.row.base (by have:=HC.out.lq;have:=HC.out.lo;have:=HC.out.lb;omega)
   obtain⟨A1,c1,rfl⟩:=HC.out.row.form;clear HC HI HRE HRS HVG;go_wp2;go_ret2;exact HF.out
  have e1:decide (k<N)=true:=Dt hlk;have e2:decide ((k:Int)<(N:Int))=true:=Dt (by omega)
  obtain⟨x,hx⟩:∃x,zs[k]?=some x:=⟨_,List.getElem?_eq_getElem (by omega)⟩
  have hxo:x∈own:=HPE.out.subset (Lm hx);have hxs:=HOS.out x hxo;have hcells:=HRS.out.cells hx;have p0:=hcells.c0;have p1:=hcells.c1;have p2:=hcells.c2;have p3:=hcells.c3;have p4:=hcells.c4;have p5:=hcells.c5;have p6:=hcells.c6;have hbA:=Zb wr (.cells #[.string ⟨x.id.toArray⟩,.string ⟨x.ins.toArray⟩,.int .i64 x.acq,.int .i64 x.opn,.string ⟨x.q.toArray⟩,.string ⟨x.cost.toArray⟩,.string ⟨x.used.toArray⟩] 130);have x1:=YS.new wr x 130;have q0:=x1.c0;have q1:=x1.c1;have q2:=x1.c2;have q3:=x1.c3;have q4:=x1.c4;have q5:=x1.c5;have q6:=x1.c6;have KT:=Lh (Zbr hG (HC.out.go hbA) HI.out hxs hxs.q HQL.out (Nt HI.out.len (by have:=HNN.out;omega)))
  have HD:Hid (zs.drop k=x::zs.drop (k+1)):=by
   obtain⟨hk2,rfl⟩:=Lg.1 hx;exact List.drop_eq_getElem_cons hk2
  have HI2:=Lh (Ox x.q HI.out hxo).1;have hgl:=HRS.out.lt;have HRA:=Lh (HRS.out.below hbA);have hsa:(wr.alloc (.cells #[.string ⟨x.id.toArray⟩,.string ⟨x.ins.toArray⟩,.int .i64 x.acq,.int .i64 x.opn,.string ⟨x.q.toArray⟩,.string ⟨x.cost.toArray⟩,.string ⟨x.used.toArray⟩] 130)).heap.size=wr.heap.size+1:=by simp
  have HSA:=Lh hsa;clear hx hxo hxs hcells x1 hbA hsa;go_wp2_with fail;refine KT.out.mono ?_;rintro e w10 ⟨rfl,v',hc',hx',hf'⟩;have HC':=Lh hc'
  have HRS':Hid (Yo w10 gs zs):=HRA.out.keepX hx' (fun h=>by
   rcases h with h|h|h
   ·exact hgbo h
   ·exact hgbq h
   ·exact HVG.out h)
  have HVG':Hid (v'.ownBlock≠some gs):=fun e=>by
   rcases hf' gs e with h|h
   ·exact HVG.out h
   ·have:=HSA.out;omega
  have HRE':Hid (YO (zs.drop (k+1)) (YN s x x.q)=YO zs (([],q):List Pk×List UInt8)):=by
   have h:=HRE.out;rw[HD.out] at h;exact h
  clear p0 p1 p2 p3 p4 p5 p6 q0 q1 q2 q3 q4 q5 q6 e1 e2 KT hc' hx' hf' HC HI HRE HRS HVG HRA HD hgl HSA;go_wp2;go_roundw
  case rel=>exact⟨k+1,_,v',by omega,by go_num,HC'.out,HI2.out,HRE'.out,HRS'.out,HVG'.out⟩
  case measure=>simp[intOf];omega
attribute [local go_sem] Oper.semAt_some
theorem Cf:(prog.info? 60).map (·.size)=some 4:=by kernel_rfl
theorem AY:(prog.info? 56).map (·.size)=some 1:=by kernel_rfl
theorem AZ:(prog.info? 57).map (·.size)=some 1:=by kernel_rfl
theorem U7 {w:World} {B k sz:Nat} {ty:TypeId} {v:Value} {cs:List Value} (h:w.ownsRow B ty sz v k cs):v.oneCell'=true:=by
 rcases h.2 with ⟨e,-⟩|⟨g,cap,cur,e,-⟩
 ·rw[e];rfl
 ·rw[e];rfl
structure Zce (w:World) (g cr:Nat) (rest taken:List Lot) (fid fins:List UInt8) (day:Int) (T:List UInt8) (v1 v2:Value) (W:World):Prop where
 sold:∃zs,Se (val T) (taken.map (fun x=>val x.q)) zs/\∃B,W.ownsRow B 89 10 v1 taken.length (WN ((taken.zip (zs.map canon)).map (MB fid fins day)))/\W.ownsRow B 136 6 v2 taken.length (Uy ((taken.zip (zs.map canon)).map (LP fid)))
 row:Yo W g rest
 cap:rest.length<=cr
 below:Below w.heap.size w W
theorem Cg {w:World} {A:Option Addr} {n c:Nat} {FC capv capw:Array Value} {fv fw:Nat} {Q:Value->World->Prop} {TK:List Lot->List Lot->Prop} {BD:Prop} {T fid fins:List UInt8} {day:Int} (hG:GE w) (hen:∀(args:Array Value) w,(callFunc fv args).run prog w=.ok (.enter fv args) w) (hew:∀(args:Array Value) w,(callFunc fw args).run prog w=.ok (.enter fw args) w)
  (hK:∀w',Below w.heap.size w w'->Calls prog fv capv w' fun e w''=>∃v,e=.returned (.tuple #[v,.int .i64 0])/\Below w'.heap.size w' w''/\Q v w'')
  (hT:∀v w',Below w.heap.size w w'->Q v w'->Calls prog 168 #[.slice A n c,v] w' fun e w''=>(∃err:Int,err≠0/\BD/\e=.returned (.tuple #[.slice none 0 0,.slice none 0 0,.int .i64 err])/\Below w'.heap.size w' w'')∨∃rest taken g cr v2 B,TK rest taken/\e=.returned (.tuple #[.slice (some ⟨g,0,none⟩) rest.length cr,v2,.int .i64 0])/\Si w' B g cr (rest,taken) v2 w'')
  (hP:∀v w',Below w.heap.size w w'->Calls prog fw (#[v]++capw) w' fun e w''=>e=.returned (.string ⟨T.toArray⟩)/\Below w'.heap.size w' w'')
  (c0:FC[0]?=some (.string ⟨fid.toArray⟩)) (c3:FC[3]?=some (.int .i64 day)) (c5:FC[5]?=some (.string ⟨fins.toArray⟩)) (hT2:T.length<=4900) (hTK:∀rest taken,TK rest taken->(∀x∈taken,x.q.length<=2000)/\TB T (taken.map (·.q))=0) :
  Calls prog 94 #[.slice A n c,.agg FC,.func (.func fv) #[] capv,.func (.func fw) #[] capw] w fun e w'=>(∃err:Int,err≠0/\BD/\e=.returned (.tuple #[.agg RZ,.int .i64 err])/\Below w.heap.size w w')∨∃rest taken,TK rest taken/\∃g cr v1 v2,e=.returned (.tuple #[.agg (Sj g rest.length cr v1 v2),.int .i64 0])/\Zce w g cr rest taken fid fins day T v1 v2 w':=by
 have HK:=Lh hK;have HEN:=Lh hen;have HEW:=Lh hew;have HT:=Lh hT;have HP:=Lh hP;have HTA:=Lh hTK;have HC0:=Lh c0;have HC3:=Lh c3;have HC5:=Lh c5;clear hK hen hT hew hP hTK c0 c3 c5;obtain⟨hA,hH,hb,-⟩:=VH w (.cells FC 48) (.cells RZ 60);have HA:=Lh hA;have HH:=Lh hH;have HB:=Lh hb;have HI:Hid ((prog.info? 60).map (·.size)=some RZ.size):=Xu
 clear hH hb hA;refine (callsIn_wide (n:=5)).1 ?_;refine callsIn_of_wp_marks func94 rfl trivial ?_ rfl;simp only[ntmps94,List.size_toArray,List.length_cons,List.length_nil,Nat.reduceAdd,Nat.reduceSub,Array.replicate_succ,Array.replicate_zero,List.push_toArray,List.append_toArray,List.nil_append,List.cons_append]
 gi_wp2_with fail
 rw[HEN.out];refine⟨trivial,fun h=>(by cases h),?_⟩
 refine (callsIn_wide.2 (HK.out _ HB.out)).mono ?_;rintro e w0 ⟨v,rfl,hb0,hq⟩;have KT:=Lh (HT.out v w0 (bto HB.out hb0) hq);clear hq HT
 gi_wp2_with fail
 refine⟨trivial,?_⟩
 (refine (callsIn_wide.2 KT.out).mono ?_)
 rintro e w1 (⟨err,hE,hBD,rfl,hb1⟩|⟨rest,taken,g,cr,v2,B,hTK2,rfl,hTk⟩)
 ·clear KT;have g1:decide (err=0)=false:=Df hE;have HBD:=Lh hBD;have HM:Hid (RZ.all (·.oneCell')=true):=all_oneCell_toArray (cs:=[.slice none 0 0,.slice none 0 0,.slice none 0 0,.slice none 0 0]) (fun v hv=>by simp only[List.mem_cons,List.not_mem_nil,or_false] at hv;rcases hv with rfl|rfl|rfl|rfl<;>rfl)
  replace hb1:=bto hb0 hb1;have hH1:=Zt HH.out hb1;have HTH:Hid (w1.there (w.heap.size+1) 0 RZ.size):=fun j hj=>⟨by rw[Zg hH1,Array.getElem?_eq_getElem (by have:j<4:=hj;show 0+j<4;omega)];rfl,Zn hH1 _⟩
  have hb2:=bto HB.out hb1;obtain⟨w2,hw2⟩:∃w2,w2=w1.setCells (w.heap.size+1) 0 RZ.toList:=⟨_,rfl⟩
  have HW2:=Lh hw2;have hbf:Below w.heap.size w w2:=by rw[hw2];exact Lib.below_setCells _ (by omega) _ _ hb2
  have HR:Hid (w2.rangeAt (w.heap.size+1) 0 RZ.toList):=by
   have h1:w2.heap[w.heap.size+1]?=some (.cells RZ 60 (0,0)):=by
    rw[hw2];exact hset (o:=3) _ (hset (o:=2) _ (hset (o:=1) _ (hset (o:=0) _ hH1)))
   exact fun j v hv=>by
    rw[Zg h1,Nat.zero_add,<-hv,Array.getElem?_toList]
  clear hH1 hw2 HK HEN HH HB hb1 hb2
  gi_wp2_with (refine VC rfl 60 (.tmp 8) (.tmp 35) rfl (w.heap.size+1) 0 RZ rfl rfl HTH.out HI.out HM.out ?_;rw[<-HW2.out])
  refine⟨.tuple #[.agg RZ,.int .i64 err],results_cell_tmp Tryz.f94 8 9 60 RZ (.int .i64 err) rfl rfl rfl HR.out underlying60 rfl HI.out,?_⟩;exact .inl ⟨err,hE,HBD.out,rfl,hbf⟩
 obtain⟨hq2,hS0⟩:=HTA.out _ _ hTK2;obtain⟨-,hs2,-⟩:=Tq hS0;rw[List.length_map] at hs2;have HS0:=Lh hS0;have HQL:=Lh hq2;have HSZ:=Lh hs2;have HTK:=Lh hTK2;clear KT hq2 hS0 hs2 hTK2 HTA;have hL2:w.heap.size+2<=w0.heap.size:=by have:=hb0.size;simpa using this
 have hwB:=hTk.le;have hlo:=hTk.lo;have hgb:=hTk.gb;obtain⟨A2,c2,hv2⟩:=hTk.tak.formN rfl;have hLT:=hTk.tak.lotAt hv2;subst hv2;have hB1:Below w.heap.size w w1:=bto (bto HB.out hb0) hTk.below;have hF1:w1.heap[w.heap.size]?=some (.cells FC 48 (0,0)):=Zt (Zt HA.out hb0) hTk.below;have hR1:w1.heap[w.heap.size+1]?=some (.cells RZ 60 (0,0)):=Zt (Zt HH.out hb0) hTk.below;have HLK:Hid (Yo w1 g rest/\rest.length<=cr):=⟨hTk.row,hTk.cap⟩;have hb2:=Zb w1 (.cells (Sj g rest.length cr (.slice none 0 0) (.slice none 0 0)) 60);have h14:=ZG w1 (.cells (Sj g rest.length cr (.slice none 0 0) (.slice none 0 0)) 60);have hs2:(w1.alloc (.cells (Sj g rest.length cr (.slice none 0 0) (.slice none 0 0)) 60)).heap.size=w1.heap.size+1:=by simp
 obtain⟨W2,hW2⟩:∃W2,W2=w1.alloc (.cells (Sj g rest.length cr (.slice none 0 0) (.slice none 0 0)) 60):=⟨_,rfl⟩
 rw[<-hW2] at hb2 h14 hs2;unfold Sj at hW2;have HW2:=Lh hW2;have KP:=Lh (HP.out (.slice A2 taken.length c2) W2 (bto hB1 hb2));have HR1:=Lh hR1;have HF1:=Lh hF1;have HLT:=Lh hLT;have H14:=Lh h14;have HB1:=Lh hB1;have HB2:=Lh hb2;clear hTk hb0 HA HH HB HK HEN HP hR1 hF1 hLT h14 hB1 hb2 hW2
 gi_wp2_with fail
 rw[<-HW2.out,HEW.out];refine⟨trivial,fun h=>(by cases h),?_⟩
 refine (callsIn_wide.2 KP.out).mono ?_;rintro e w3 ⟨rfl,hb3⟩;have KS:=Lh (DF A2 taken.length c2 T w3);have hs3:=hb3.size;obtain⟨hz1,hz2,hz3,hz4⟩:=VH w3 (.cells #[.slice A2 taken.length c2] 44) (.cells #[.string ⟨T.toArray⟩] 32);obtain⟨W0,hW0⟩:∃W0,W0=(w3.alloc (.cells #[.slice A2 taken.length c2] 44)).alloc (.cells #[.string ⟨T.toArray⟩] 32):=⟨_,rfl⟩
 rw[<-hW0] at KS hz1 hz2 hz3 hz4;have H30:Hid (Below w1.heap.size w1 W0/\W0.heap[w1.heap.size]?=some (.cells (Sj g rest.length cr (.slice none 0 0) (.slice none 0 0)) 60 (0,0))/\Blk W0 w3.heap.size #[.slice A2 taken.length c2]/\Blk W0 (w3.heap.size+1) #[.string ⟨T.toArray⟩]):=
  ⟨bto (bto HB2.out hb3) hz3,Zt (Zt H14.out hb3) hz3,⟨_,hz1⟩,⟨_,hz2⟩⟩
 clear KP hb3 hz1 hz2 hz3 hW0 HB2 H14 HW2 HEW
 gi_wp2_with fail
 refine⟨trivial,?_⟩
 (refine (callsIn_wide.2 KS.out).mono ?_)
 rintro e W0 ⟨rfl,rfl⟩;clear KS
 gi_wp2_with fail
 refine Vs (gf:=216) (lb:=#[.pointer (some ⟨w3.heap.size,0,none⟩),.pointer (some ⟨w3.heap.size+1,0,none⟩)]) rfl LM ?_;intro fn R hR;obtain⟨W1,hW1⟩:∃W1,W1=(W0.alloc (.deferred (some []))).alloc (.loop R):=⟨_,rfl⟩
 obtain⟨hD,hL,hbB,hsz1⟩:=VH W0 (.deferred (some [])) (.loop R);rw[<-hW1] at hD hL hbB hsz1;rw[<-hW1];obtain⟨l,hl⟩:∃l,l=W0.heap.size+1:=⟨_,rfl⟩
 obtain⟨d,hd⟩:∃d,d=W0.heap.size:=⟨_,rfl⟩
 obtain⟨Bx,hBx⟩:∃Bx,Bx=W1.heap.size:=⟨_,rfl⟩
 rw[<-hl] at hL ⊢;rw[<-hd] at hD hR ⊢;have hS0:Ay w1 R Bx d l g rest.length cr w3.heap.size (w3.heap.size+1) (.slice A2 taken.length c2) T W1:=⟨bto H30.out.1 hbB,hL,hD,Nat.le_of_eq hBx,Zt H30.out.2.1 hbB,H30.out.2.2.1.below hbB,H30.out.2.2.2.below hbB⟩;have n1:l≠d/\w1.heap.size<l/\l<Bx:=by omega
 have n2:w1.heap.size<l/\w1.heap.size<d/\l<Bx/\d<Bx:=by omega
 have n4:w.heap.size+2<=g/\g<w1.heap.size:=by omega
 have n3:w.heap.size+1<w1.heap.size/\w.heap.size+1<d/\w.heap.size<=d/\w1.heap.size<=d:=by omega
 clear hW1 hbB hD hL hl hd hs2 hs3 hz4 hsz1 hBx H30 hL2 hwB hlo hgb;have hY:∀zs,Se (val T) (taken.map (fun x=>val x.q)) zs->∀b0 ob ys y W,Hc w1 R Bx d l g rest.length cr fid fins day b0 ob ys W->(taken.zip (zs.map canon))[ys.length]?=some y->YieldAt Fence.wide (5-1-1) prog l #[(Value.agg #[.string ⟨List.toArray y.1.id⟩,.string ⟨List.toArray y.1.ins⟩,.int .i64 y.1.acq,.int .i64 y.1.opn,.string ⟨List.toArray y.1.q⟩,.string ⟨List.toArray y.1.cost⟩,.string ⟨List.toArray y.1.used⟩]),.string ⟨y.2.toArray⟩] W fun e W'=>e=.returned (.bool true)/\Hc w1 R Bx d l g rest.length cr fid fins day b0 ob (ys++[y]) W':=by
  intro zs _ b0 ob ys y W hS hyb;obtain⟨v1,v2,hS⟩:=hS;have hlen:ys.length<1000:=by
   have h1:=(Lg.1 hyb).1;rw[List.length_zip] at h1
   have:=HSZ.out
   omega
  have hy:=run_yield (P:=prog) (args:=#[(Value.agg #[.string ⟨List.toArray y.1.id⟩,.string ⟨List.toArray y.1.ins⟩,.int .i64 y.1.acq,.int .i64 y.1.opn,.string ⟨List.toArray y.1.q⟩,.string ⟨List.toArray y.1.cost⟩,.string ⟨List.toArray y.1.used⟩]),.string ⟨y.2.toArray⟩]) hS.loop (by rw[hR];rfl)
  refine⟨R.fn,_,R.assign,R.body,hy,roundIn_of_wpIn trivial ?_⟩;have hlW:=(Ag.1 hS.loop).1;have hSa:=hS.mono (Zb W (.cells #[.string ⟨List.toArray y.1.id⟩,.string ⟨List.toArray y.1.ins⟩,.int .i64 y.1.acq,.int .i64 y.1.opn,.string ⟨List.toArray y.1.q⟩,.string ⟨List.toArray y.1.cost⟩,.string ⟨List.toArray y.1.used⟩] 130));have hbr:=run_beginRound (P:=prog) hSa.loop (by rw[hR])
  have hS1:Vf w1 { R with state:=.busy } Bx d l g rest.length cr b0 ob v1 v2 (ys.map (MB fid fins day)) (ys.map (LP fid)) ((W.alloc (.cells #[.string ⟨List.toArray y.1.id⟩,.string ⟨List.toArray y.1.ins⟩,.int .i64 y.1.acq,.int .i64 y.1.opn,.string ⟨List.toArray y.1.q⟩,.string ⟨List.toArray y.1.cost⟩,.string ⟨List.toArray y.1.used⟩] 130)).putObj l (.loop { R with state:=.busy })):=Vf.done rfl n1 hSa
  have x4:Blk ((W.alloc (.cells #[.string ⟨List.toArray y.1.id⟩,.string ⟨List.toArray y.1.ins⟩,.int .i64 y.1.acq,.int .i64 y.1.opn,.string ⟨List.toArray y.1.q⟩,.string ⟨List.toArray y.1.cost⟩,.string ⟨List.toArray y.1.used⟩] 130)).putObj l (.loop { R with state:=.busy })) W.heap.size #[.string ⟨List.toArray y.1.id⟩,.string ⟨List.toArray y.1.ins⟩,.int .i64 y.1.acq,.int .i64 y.1.opn,.string ⟨List.toArray y.1.q⟩,.string ⟨List.toArray y.1.cost⟩,.string ⟨List.toArray y.1.used⟩]:=(Blk.new W _ 130).putO (by omega)
  obtain⟨Wb,hWb⟩:∃Wb,Wb=(W.alloc (.cells #[.string ⟨List.toArray y.1.id⟩,.string ⟨List.toArray y.1.ins⟩,.int .i64 y.1.acq,.int .i64 y.1.opn,.string ⟨List.toArray y.1.q⟩,.string ⟨List.toArray y.1.cost⟩,.string ⟨List.toArray y.1.used⟩] 130)).putObj l (.loop { R with state:=.busy }):=⟨_,rfl⟩
  rw[<-hWb] at hbr hS1 x4;have hRe:({ { R with state:=.busy } with state:=.ready,pending:=none }:Loop)=R:=by rw[hR]
  obtain⟨R1,hR1⟩:∃R1,R1={ R with state:=.busy }:=⟨_,rfl⟩
  rw[<-hR1] at hS1 hRe;have hw1W:w1.heap.size<W.heap.size:=by omega
  have hk1:∀k,v1.ownBlock=some k->k<W.heap.size:=fun k hk=>(World.ownsRow.lt hS.o1 k hk).2
  have hk2:∀k,v2.ownBlock=some k->k<W.heap.size:=fun k hk=>(World.ownsRow.lt hS.o2 k hk).2
  have q0:Wb.cell? ⟨w.heap.size,0,none⟩=some (.string ⟨fid.toArray⟩):=(Zg (Zt HF1.out hS1.below) 0).trans HC0.out;have q3:Wb.cell? ⟨w.heap.size,3,none⟩=some (.int .i64 day):=(Zg (Zt HF1.out hS1.below) 3).trans HC3.out;have q5:Wb.cell? ⟨w.heap.size,5,none⟩=some (.string ⟨fins.toArray⟩):=(Zg (Zt HF1.out hS1.below) 5).trans HC5.out;have r1:Wb.cell? ⟨w1.heap.size,1,none⟩=some v1:=Zg hS1.res 1;have p0:Wb.cell? ⟨W.heap.size,0,none⟩=some (.string ⟨List.toArray y.1.id⟩):=x4.c 0;have p2:Wb.cell? ⟨W.heap.size,2,none⟩=some (.int .i64 y.1.acq):=x4.c 2;have p4:Wb.cell? ⟨W.heap.size,4,none⟩=some (.string ⟨List.toArray y.1.q⟩):=x4.c 4;have p5:Wb.cell? ⟨W.heap.size,5,none⟩=some (.string ⟨List.toArray y.1.cost⟩):=x4.c 5;have hG1:=hS1.mono (Zb Wb (.cells #[.string ⟨fid.toArray⟩,.string ⟨List.toArray y.1.id⟩,.string ⟨fins.toArray⟩,.int .i64 y.1.acq,.int .i64 day,.string ⟨List.toArray y.1.q⟩,.string ⟨List.toArray y.2⟩,.string ⟨List.toArray y.1.cost⟩,.string ⟨#[]⟩,.string ⟨#[]⟩] 89));have HNW:Hid ((Wb.alloc (.cells #[.string ⟨fid.toArray⟩,.string ⟨List.toArray y.1.id⟩,.string ⟨fins.toArray⟩,.int .i64 y.1.acq,.int .i64 day,.string ⟨List.toArray y.1.q⟩,.string ⟨List.toArray y.2⟩,.string ⟨List.toArray y.1.cost⟩,.string ⟨#[]⟩,.string ⟨#[]⟩] 89)).heap[Wb.heap.size]?=some (.cells #[.string ⟨fid.toArray⟩,.string ⟨List.toArray y.1.id⟩,.string ⟨fins.toArray⟩,.int .i64 y.1.acq,.int .i64 day,.string ⟨List.toArray y.1.q⟩,.string ⟨List.toArray y.2⟩,.string ⟨List.toArray y.1.cost⟩,.string ⟨#[]⟩,.string ⟨#[]⟩] 89 (0,0))):=ZG Wb (.cells #[.string ⟨fid.toArray⟩,.string ⟨List.toArray y.1.id⟩,.string ⟨fins.toArray⟩,.int .i64 y.1.acq,.int .i64 day,.string ⟨List.toArray y.1.q⟩,.string ⟨List.toArray y.2⟩,.string ⟨List.toArray y.1.cost⟩,.string ⟨#[]⟩,.string ⟨#[]⟩] 89);have HO1:=Lh hG1.o1;rw[List.length_map] at HO1;have HLO:Hid (Bx<=(Wb.alloc (.cells #[.string ⟨fid.toArray⟩,.string ⟨List.toArray y.1.id⟩,.string ⟨fins.toArray⟩,.int .i64 y.1.acq,.int .i64 day,.string ⟨List.toArray y.1.q⟩,.string ⟨List.toArray y.2⟩,.string ⟨List.toArray y.1.cost⟩,.string ⟨#[]⟩,.string ⟨#[]⟩] 89)).heap.size):=hG1.lo.2;have HG1:=Lh hG1;have HX4:Hid (Blk (Wb.alloc (.cells #[.string ⟨fid.toArray⟩,.string ⟨List.toArray y.1.id⟩,.string ⟨fins.toArray⟩,.int .i64 y.1.acq,.int .i64 day,.string ⟨List.toArray y.1.q⟩,.string ⟨List.toArray y.2⟩,.string ⟨List.toArray y.1.cost⟩,.string ⟨#[]⟩,.string ⟨#[]⟩] 89)) W.heap.size #[.string ⟨List.toArray y.1.id⟩,.string ⟨List.toArray y.1.ins⟩,.int .i64 y.1.acq,.int .i64 y.1.opn,.string ⟨List.toArray y.1.q⟩,.string ⟨List.toArray y.1.cost⟩,.string ⟨List.toArray y.1.used⟩]):=x4.below (Zb Wb (.cells #[.string ⟨fid.toArray⟩,.string ⟨List.toArray y.1.id⟩,.string ⟨fins.toArray⟩,.int .i64 y.1.acq,.int .i64 day,.string ⟨List.toArray y.1.q⟩,.string ⟨List.toArray y.2⟩,.string ⟨List.toArray y.1.cost⟩,.string ⟨#[]⟩,.string ⟨#[]⟩] 89));obtain⟨i0,hi,hz0,hz1,hz2⟩:=info_parts NI;obtain⟨j0,hj,hj0,hj1,hj2⟩:=info_parts NJ;have HII:=Lh (And.intro hi (And.intro hz0 (And.intro hz1 hz2)));have HJJ:=Lh (And.intro hj (And.intro hj0 (And.intro hj1 hj2)));have HBr:=Lh hbr;have HRe:=Lh hRe;have HK1:=Lh hk1;have HK2:=Lh hk2;clear hWb hbr hy hS hSa hlW hS1 hRe hR1 hyb hG1 x4 hi hz0 hz1 hz2 hj hj0 hj1 hj2 hk1 hk2 hS0;rw[hR]
  gi_wp2
  refine⟨_,HBr.out,?_⟩
  gi_wp2_with (gi_at_builtin;refine XN rfl _ _ 56 rfl Bx 89 i0 (.agg #[.string ⟨#[]⟩,.string ⟨#[]⟩,.string ⟨#[]⟩,.int .i64 0,.int .i64 0,.string ⟨#[]⟩,.string ⟨#[]⟩,.string ⟨#[]⟩,.string ⟨#[]⟩,.string ⟨#[]⟩]) 10 144 underlying56 HII.out.1 HII.out.2.1 HII.out.2.2.1 HII.out.2.2.2 rfl (by decide) _ _ _ rfl HO1.out ⟨Wb.heap.size,0,none⟩ 1 1 (LN (MB fid fins day y)) rfl rfl ?c1 ?c2 ?c3 ?c4 ?c5 ?_)
  case c1=>
   intro j u hu;rw[Lib.add_plain];have hj:j<10:=VP hu;show (Wb.alloc (.cells #[.string ⟨fid.toArray⟩,.string ⟨List.toArray y.1.id⟩,.string ⟨fins.toArray⟩,.int .i64 y.1.acq,.int .i64 day,.string ⟨List.toArray y.1.q⟩,.string ⟨List.toArray y.2⟩,.string ⟨List.toArray y.1.cost⟩,.string ⟨#[]⟩,.string ⟨#[]⟩] 89)).cell? ⟨Wb.heap.size,0+j,none⟩=some u;rw[Nat.zero_add,Zg HNW.out j,<-hu];show (List.toArray (LN (MB fid fins day y)))[j]?=_;rw[List.getElem?_toArray]
  case c2=>exact DG _
  case c3=>unfold maxLen;omega
  case c4=>omega
  case c5=>exact HLO.out
  intro v1' w5 hown hgrow hfresh;replace hown:w5.ownsRow Bx 89 10 v1' ((ys.map (MB fid fins day)).length+1) (WN (ys.map (MB fid fins day))++LN (MB fid fins day y)):=by rw[List.length_map];exact hown
  have hg6:=HG1.out.grown n2 HG1.out.r1 hgrow;have HG6:=Lh (HG1.out.gain n2 hown hgrow (fun k hk=>(hfresh k hk).imp id (fun h=>by rw[World.size_alloc];exact h)))
  have HC6:Hid ((w5.cell? ⟨w1.heap.size,1,none⟩).isSome=true):=by show _=_;rw[Zg hg6.2.2.2.2.1 1];rfl
  have HF6:Hid (w5.frozen? ⟨w1.heap.size,1,none⟩=false):=Zn hg6.2.2.2.2.1 1;have HV6:=Lh (U7 hown);obtain⟨tx,hx4⟩:=HX4.out;have hx5:w5.heap[W.heap.size]?=some (.cells #[.string ⟨List.toArray y.1.id⟩,.string ⟨List.toArray y.1.ins⟩,.int .i64 y.1.acq,.int .i64 y.1.opn,.string ⟨List.toArray y.1.q⟩,.string ⟨List.toArray y.1.cost⟩,.string ⟨List.toArray y.1.used⟩] tx (0,0)):=(hgrow.block _ (Ag.1 hx4).1 (fun e=>by have:=HK1.out _ e.symm;omega)).trans hx4
  have hx6:(w5.setCell ⟨w1.heap.size,1,none⟩ v1').heap[W.heap.size]?=some (.cells #[.string ⟨List.toArray y.1.id⟩,.string ⟨List.toArray y.1.ins⟩,.int .i64 y.1.acq,.int .i64 y.1.opn,.string ⟨List.toArray y.1.q⟩,.string ⟨List.toArray y.1.cost⟩,.string ⟨List.toArray y.1.used⟩] tx (0,0)):=hoth hx5 (by omega)
  obtain⟨W6,hW6⟩:∃W6,W6=w5.setCell ⟨w1.heap.size,1,none⟩ v1':=⟨_,rfl⟩
  have HW6:=Lh hW6;rw[<-hW6] at HG6 hx6;have HX6:=Lh hx6;clear hown hgrow hfresh hg6 hx4 hx5 hx6 hW6 q0 q3 q5 r1 p0 p2 p4 p5 HG1 HO1 HNW HLO HX4;have q0:W6.cell? ⟨w.heap.size,0,none⟩=some (.string ⟨fid.toArray⟩):=(Zg (Zt HF1.out HG6.out.below) 0).trans HC0.out;have r2:W6.cell? ⟨w1.heap.size,2,none⟩=some v2:=Zg HG6.out.res 2;have p0:W6.cell? ⟨W.heap.size,0,none⟩=some (.string ⟨List.toArray y.1.id⟩):=Zg HX6.out 0;have p4:W6.cell? ⟨W.heap.size,4,none⟩=some (.string ⟨List.toArray y.1.q⟩):=Zg HX6.out 4;have p5:W6.cell? ⟨W.heap.size,5,none⟩=some (.string ⟨List.toArray y.1.cost⟩):=Zg HX6.out 5;have hG1:=HG6.out.mono (Zb W6 (.cells #[.string ⟨fid.toArray⟩,.string ⟨List.toArray y.1.id⟩,.string ⟨#[]⟩,.string ⟨List.toArray y.1.q⟩,.string ⟨#[]⟩,.string ⟨List.toArray y.1.cost⟩] 136));have HNW:Hid ((W6.alloc (.cells #[.string ⟨fid.toArray⟩,.string ⟨List.toArray y.1.id⟩,.string ⟨#[]⟩,.string ⟨List.toArray y.1.q⟩,.string ⟨#[]⟩,.string ⟨List.toArray y.1.cost⟩] 136)).heap[W6.heap.size]?=some (.cells #[.string ⟨fid.toArray⟩,.string ⟨List.toArray y.1.id⟩,.string ⟨#[]⟩,.string ⟨List.toArray y.1.q⟩,.string ⟨#[]⟩,.string ⟨List.toArray y.1.cost⟩] 136 (0,0))):=ZG W6 (.cells #[.string ⟨fid.toArray⟩,.string ⟨List.toArray y.1.id⟩,.string ⟨#[]⟩,.string ⟨List.toArray y.1.q⟩,.string ⟨#[]⟩,.string ⟨List.toArray y.1.cost⟩] 136);have HO2:=Lh hG1.o2;rw[List.length_map] at HO2;have HLO:Hid (Bx<=(W6.alloc (.cells #[.string ⟨fid.toArray⟩,.string ⟨List.toArray y.1.id⟩,.string ⟨#[]⟩,.string ⟨List.toArray y.1.q⟩,.string ⟨#[]⟩,.string ⟨List.toArray y.1.cost⟩] 136)).heap.size):=hG1.lo.2;have HG1:=Lh hG1;clear hG1 HX6
  gi_wp2_with (first|(refine WR rfl 56 (.tmp 66) (.tmp 65) rfl w1.heap.size 1 v1' rfl rfl HC6.out HF6.out AY HV6.out ?_;rw[<-HW6.out])|(gi_at_builtin;refine XN rfl _ _ 57 rfl Bx 136 j0 (.agg #[.string ⟨#[]⟩,.string ⟨#[]⟩,.string ⟨#[]⟩,.string ⟨#[]⟩,.string ⟨#[]⟩,.string ⟨#[]⟩]) 6 96 underlying57 HJJ.out.1 HJJ.out.2.1 HJJ.out.2.2.1 HJJ.out.2.2.2 rfl (by decide) _ _ _ rfl HO2.out ⟨W6.heap.size,0,none⟩ 1 1 (LO (LP fid y)) rfl rfl ?d1 ?d2 ?d3 ?d4 ?d5 ?_))
  case d1=>
   intro j u hu;rw[Lib.add_plain];show (W6.alloc (.cells #[.string ⟨fid.toArray⟩,.string ⟨List.toArray y.1.id⟩,.string ⟨#[]⟩,.string ⟨List.toArray y.1.q⟩,.string ⟨#[]⟩,.string ⟨List.toArray y.1.cost⟩] 136)).cell? ⟨W6.heap.size,0+j,none⟩=some u;rw[Nat.zero_add,Zg HNW.out j,<-hu];show (List.toArray (LO (LP fid y)))[j]?=_;rw[List.getElem?_toArray]
  case d2=>exact DI _
  case d3=>unfold maxLen;omega
  case d4=>omega
  case d5=>exact HLO.out
  intro v2' w7 hown hgrow hfresh;replace hown:w7.ownsRow Bx 136 6 v2' ((ys.map (LP fid)).length+1) (Uy (ys.map (LP fid))++LO (LP fid y)):=by rw[List.length_map];exact hown
  have hg8:=HG1.out.grown n2 HG1.out.r2 hgrow;have HG8:=Lh (HG1.out.step n2 hown hgrow (fun k hk=>(hfresh k hk).imp id (fun h=>by rw[World.size_alloc];exact h)))
  have HC8:Hid ((w7.cell? ⟨w1.heap.size,2,none⟩).isSome=true):=by show _=_;rw[Zg hg8.2.2.2.2.1 2];rfl
  have HF8:Hid (w7.frozen? ⟨w1.heap.size,2,none⟩=false):=Zn hg8.2.2.2.2.1 2;have HV8:=Lh (U7 hown);obtain⟨W8,hW8⟩:∃W8,W8=w7.setCell ⟨w1.heap.size,2,none⟩ v2':=⟨_,rfl⟩
  have HW8:=Lh hW8;rw[<-hW8] at HG8;clear hown hgrow hfresh hg8 hW8 q0 r2 p0 p4 p5 HG1 HO2 HNW HLO HC6 HF6 HV6 HW6
  gi_wp2_with (refine WR rfl 57 (.tmp 80) (.tmp 79) rfl w1.heap.size 2 v2' rfl rfl HC8.out HF8.out AZ HV8.out ?_;rw[<-HW8.out])
  refine⟨_,_,run_endRound (P:=prog) none HG8.out.loop,rfl,v1',v2',?_⟩;rw[List.map_append,List.map_append];exact Vf.done (HRe.out.trans hR) n1 HG8.out
 have key:=Zb5 w3.heap.size (w3.heap.size+1) A2 taken taken.length c2 T rfl hT2 HQL.out HS0.out (5-1) l (Ay w1 R Bx d l g rest.length cr w3.heap.size (w3.heap.size+1) (.slice A2 taken.length c2) T) (Hc w1 R Bx d l g rest.length cr fid fins day)
  (fun W h=>⟨hG.below (bto HB1.out h.below),HLT.out.below h.below,h.lots,h.txt⟩) (fun b0 ob W W' h hb h0 h1=>h.go fid fins day hb h0 h1) (fun b0 ob ys W h=>by obtain⟨v1,v2,h⟩:=h;exact⟨HLT.out.below h.below,h.par⟩) (fun b0 ob ys W W' h hb=>by obtain⟨v1,v2,h⟩:=h;exact⟨v1,v2,h.mono hb⟩) hY W1 hS0
 refine key.mono ?_;rintro e Wz ⟨hv,zs,b0,ob,hzs,v1,v2,hS2⟩;refine⟨hv,hS2.loop,?_⟩;have hS3:Vf w1 { R with state:=.exhausted } Bx d l g rest.length cr b0 ob v1 v2 _ _ (Wz.putObj l (.loop { R with state:=.exhausted })):=Vf.done rfl n1 hS2
 obtain⟨W3,hW3⟩:∃W3,W3=Wz.putObj l (.loop { R with state:=.exhausted }):=⟨_,rfl⟩
 rw[<-hW3] at hS3 ⊢;have hrv:=Zt HR1.out hS3.below;obtain⟨W4,hW4⟩:∃W4,W4=W3.setCells (w.heap.size+1) 0 [.slice (some ⟨g,0,none⟩) rest.length cr,v1,v2,.slice none 0 0]:=⟨_,rfl⟩
 have HW4:=Lh hW4;have HLD:Hid (W3.rangeAt w1.heap.size 0 [.slice (some ⟨g,0,none⟩) rest.length cr,v1,v2,.slice none 0 0]):=Z9 hS3.res;have HTH:Hid (W3.there (w.heap.size+1) 0 4):=Wh hrv;have HM:Hid ((#[.slice (some ⟨g,0,none⟩) rest.length cr,v1,v2,.slice none 0 0]:Array Value).all (·.oneCell')=true):=all_oneCell_toArray (cs:=[.slice (some ⟨g,0,none⟩) rest.length cr,v1,v2,.slice none 0 0]) (fun v hv=>by simp only[List.mem_cons,List.not_mem_nil,or_false] at hv;rcases hv with rfl|rfl|rfl|rfl;rfl;exact U7 hS3.o1;exact U7 hS3.o2;rfl)
 have h4:W4.heap[w.heap.size+1]?=some (.cells (Sj g rest.length cr v1 v2) 60 (0,0)):=by
  rw[hW4];exact hset (o:=3) _ (hset (o:=2) _ (hset (o:=1) _ (hset (o:=0) _ hrv)))
 have h4o:∀b,b≠w.heap.size+1->W4.heap[b]?=W3.heap[b]?:=fun b hb=>by
  rw[hW4];show ((((W3.setCell ⟨w.heap.size+1,0,none⟩ _).setCell ⟨w.heap.size+1,1,none⟩ _).setCell ⟨w.heap.size+1,2,none⟩ _).setCell ⟨w.heap.size+1,3,none⟩ _).heap[b]?=_;exact (Below.heap_setCell _ _ _ b hb).trans ((Below.heap_setCell _ _ _ b hb).trans ((Below.heap_setCell _ _ _ b hb).trans (Below.heap_setCell _ _ _ b hb)))
 have h4b:Below w.heap.size w W4:=by rw[hW4];exact Lib.below_setCells _ (by omega) _ _ (bto HB1.out hS3.below)
 have hD4:W4.heap[d]?=some (.deferred (some [])):=(h4o d (by omega)).trans hS3.dfr
 have HS3:=Lh hS3;have HZS:=Lh hzs;have H4:=Lh h4;have H4O:=Lh h4o;have H4B:=Lh h4b;have HD4:=Lh hD4;have HI4:Hid ((prog.info? 60).map (·.size)=some 4):=Cf
 clear hW3 hW4 hS3 hzs h4 h4o h4b hD4 hrv key hY hS2 hS0 hv
 gi_wp2_with (first|(refine Qa rfl 60 (.tmp 14) rfl w1.heap.size 0 rfl [.slice (some ⟨g,0,none⟩) rest.length cr,v1,v2,.slice none 0 0] HLD.out underlying60 rfl HI4.out ?_)|(refine VC rfl 60 (.tmp 8) (.tmp 81) rfl (w.heap.size+1) 0 #[.slice (some ⟨g,0,none⟩) rest.length cr,v1,v2,.slice none 0 0] rfl rfl HTH.out HI4.out HM.out ?_;rw[<-HW4.out]))
 refine⟨by simp,.inl ⟨_,_,rfl,run_takeDeferred HD4.out,?_⟩⟩
 have h5:(W4.putObj d (.deferred none)).heap[w.heap.size+1]?=some (.cells (Sj g rest.length cr v1 v2) 60 (0,0)):=(World.putObj_heap_other (by omega)).trans H4.out
 have h5o:∀b,b≠w.heap.size+1->b≠d->(W4.putObj d (.deferred none)).heap[b]?=W3.heap[b]?:=fun b hb hb2=>(World.putObj_heap_other (by omega)).trans (H4O.out b hb)
 have hln:(taken.zip (zs.map canon)).length=taken.length:=by rw[List.length_zip,List.length_map,HZS.out.sum.2,List.length_map];omega
 refine⟨.tuple #[.agg (Sj g rest.length cr v1 v2),.int .i64 0],results_cell_tmp Tryz.f94 8 9 60 (Sj g rest.length cr v1 v2) (.int .i64 0) rfl rfl rfl (Z9 h5) underlying60 rfl HI4.out,?_⟩;have ho1:=HS3.out.o1;have ho2:=HS3.out.o2;rw[List.length_map,hln] at ho1 ho2;refine .inr ⟨rest,taken,HTK.out,g,cr,v1,v2,rfl,⟨zs,HZS.out,Bx,Xs ho1 (fun b hb _=>h5o b (by omega) (by omega)),Xs ho2 (fun b hb _=>h5o b (by omega) (by omega))⟩,?_,HLK.out.2,Xr H4B.out n3.2.2.1⟩
 obtain⟨cur,hc,hr⟩:=HLK.out.1.below HS3.out.below;exact⟨cur,(h5o g (by omega) (by omega)).trans hc,hr⟩
end Go.Proofs.YtpieeldbamklkaaGreatDoor
namespace Go.Proofs.YtpieeldbamklkaaGreatDoor
open Go.RowKit Go.Shelf Num
theorem LZ {α:Type} [BEq α] [LawfulBEq α]:∀(l m:List α),l.Nodup->(∀x∈l,x∈m)->l.length<=m.length
 | [],_,_,_=>Nat.zero_le _
 | x::t,m,hn,hs=>by
  rw[List.nodup_cons] at hn;have hx:=hs x List.mem_cons_self;have h1:=LZ t (m.erase x) hn.2 (fun y hy=>(List.mem_erase_of_ne (fun e=>hn.1 (by rw[<-e];exact hy))).2 (hs y (List.mem_cons_of_mem _ hy)))
  have h2:=List.length_erase_of_mem hx;have h3:=List.length_pos_of_mem hx;rw[List.length_cons];omega
theorem A4 {xs zs:List Lot} {I q:List UInt8} {m:Int} {ps:List Pk} (hE:chE xs I q m ps=0) (hz:zs.Perm (ofL I xs)) :
  YC (ofI I xs) (val q) (YO zs (Nb (ofL I xs) q m ps))/\val (YO zs (Nb (ofL I xs) q m ps)).2=0/\Y7 (YO zs (Nb (ofL I xs) q m ps)).1=val q:=by
 obtain⟨c1,c2,-,-,-,c6,c7⟩:=J6 hE;obtain⟨-,-,l3⟩:=SL c1;have hn:((ofI I xs).map (·.id)).Nodup:=l3.sublist ((List.filter_sublist).map _)
 have h0:YC (ofI I xs) (val q) (Nb (ofL I xs) q m ps):=by
  have h1:YC (ofI I xs) (val q) (([],q):List Pk×List UInt8):=⟨by simp[Y7],Int.le_of_lt c6,c2,fun p hp=>(by cases hp),by simp,fun p hp=>(by cases hp)⟩
  unfold Nb
  split
  ·exact QC ps h1
  ·exact h1
 exact EV hz hn c7 h0
def Zbs (xs:List Lot) (I q:List UInt8) (m:Int) (ps pk:List Pk):Prop:=∃zs,zs.Perm (ofL I xs)/\(m=1->(ofL I xs).length<=20->O2 cfF (ofL I xs)->zs=ofL I xs)/\pk=(YO zs (Nb (ofL I xs) q m ps)).1
structure PkQ (xs:List Lot) (I q:List UInt8) (pk:List Pk):Prop where
 inv:∃rem,YC (ofI I xs) (val q) (pk,rem)/\val rem=0
 sm:∀p∈pk,p.lot.length<=1000/\p.q.length<=1000
 len:pk.length<=1000
 pos:0<pk.length
 sum:Y7 pk=val q
theorem Zbt {xs:List Lot} {I q:List UInt8} {m:Int} {ps pk:List Pk} (hE:chE xs I q m ps=0) (hs:∀x∈xs,Qw x) (hql:q.length<=900) (h:Zbs xs I q m ps pk):PkQ xs I q pk:=by
 obtain⟨zs,hz,-,rfl⟩:=h;obtain⟨h1,h2,h3⟩:=A4 (m:=m) (ps:=ps) hE hz;obtain⟨c1,c2,-,-,-,c6,c7⟩:=J6 hE;obtain⟨l1,-,-⟩:=SL c1;generalize YO zs (Nb (ofL I xs) q m ps)=s at *;obtain⟨pk,rem⟩:=s;have hmem:=h1.mem;have hp:=Ts pk (fun p hp=>(h1.pos p hp).1)
 refine⟨⟨rem,h1,h2⟩,fun p hpm=>?_,?_,?_,h3⟩
 ·obtain⟨x,hx,e⟩:=hmem p hpm;have hx2:=hs x (List.mem_filter.1 hx).1;obtain⟨p1,p2⟩:=h1.pos p hpm;refine⟨by rw[<-e];exact hx2.id,?_⟩
  have h4:val p.q<=val q:=by have:=hp.2 p hpm;have h3':Y7 pk=val q:=h3;omega
  have h5:=Zo (l:=q) (k:=900) hql;rw[p2];exact Nt (Zl _ 900 (by omega)) (by decide)
 ·have h5:=LZ (pk.map (·.lot)) ((ofI I xs).map (·.id)) h1.nd (fun y hy=>by
   obtain⟨p,hpm,rfl⟩:=List.mem_map.1 hy;obtain⟨x,hx,e⟩:=hmem p hpm
   exact List.mem_map.2 ⟨x,hx,e⟩)
  rw[List.length_map,List.length_map] at h5;have h6:(ofI I xs).length<=xs.length:=List.length_filter_le _ _;show pk.length<=1000;omega
 ·cases pk with
  | nil=>have h3':(0:Int)=val q:=h3;omega
  | cons a t=>simp
theorem Zbu {xs:List Lot} {I q:List UInt8} {pk:List Pk} (hV:YM xs=0) (hk:PkQ xs I q pk) (hp:VO xs [] pk=0) :
  OA xs pk/\((Yx (xs,[]) pk).2).map (·.q)=pk.map (·.q):=by
 obtain⟨l1,l2,l3⟩:=SL hV;have hc:∀x∈xs,x.q=canon (val x.q):=fun x hx=>(Mk (l2 x hx)).2.2.2.2.2.1
 obtain⟨rem,hi,hr⟩:=hk.inv;obtain⟨a1,a2,-⟩:=OB hc pk [] hp;exact⟨⟨l3,a1,a2⟩,(G6 l3 hc hi hr hp).2.2.2.2.1⟩
def xsA:List Lot:=[⟨[97,47,49],[97,98,99],5,5,[49,48],[49,48,48],[]⟩,⟨[98,47,49],[97,98,99],6,6,[53],[56,48],[]⟩]
def fA:Fct:={ key:=[115],ins:=[97,98,99],oth:=[],cur:=[],tgt:=[],q:=[49,50],amt:=[51,48,48],fee:=[55],pn:=[],pd:=[],rn:=[],rd:=[],sn:=[],sd:=[],stamp:=0,day:=9,kind:=4,choice:=0,canc:=false,pA:=none,pN:=0,pC:=0,oA:=none,oN:=0,oC:=0 }
def pkA:List Pk:=[⟨[97,47,49],[49,48]⟩,⟨[98,47,49],[50]⟩]
def tkA:List Lot:=[⟨[97,47,49],[97,98,99],5,5,[49,48],[49,48,48],[]⟩,⟨[98,47,49],[97,98,99],6,6,[50],[51,50],[]⟩]
theorem MJ:YM xsA=0:=by decide +kernel
theorem A7:GoodS fA []:=by
 refine⟨by decide +kernel,by decide,by decide,rfl,(by show nmE fA.ins=0;decide +kernel),⟨rfl,by decide +kernel⟩,by decide +kernel,by decide +kernel,by decide +kernel,?_⟩
 decide +kernel
theorem Ch:chE xsA fA.ins fA.q 1 []=0:=by decide +kernel
theorem Zbv:O2 cfF (ofL fA.ins xsA):=by
 intro i x y hx hy;have e:ofL fA.ins xsA=xsA:=by decide +kernel
 rw[e] at hx hy;have hi:=(Lg.1 hy).1;have hi:i=0:=by simp[xsA] at hi;omega
 subst hi;simp[xsA] at hx hy;subst hx;subst hy;decide +kernel
theorem Zcf {pk:List Pk} (h:Zbs xsA fA.ins fA.q 1 [] pk):pk=pkA:=by
 obtain⟨zs,-,h20,rfl⟩:=h;rw[h20 rfl (by decide +kernel) Zbv]
 decide +kernel
theorem Hp:VO xsA [] pkA=0:=by decide +kernel
theorem A8:(Yx (xsA,[]) pkA).2=tkA:=by decide +kernel
theorem J7:canon (val fA.amt-val fA.fee)=[50,57,51]:=by decide +kernel
theorem Ci:val [50,57,51]=293/\tkA.map (fun x=>val x.q)=[10,2]:=by decide +kernel
theorem Cj {zs:List Int} (h:Se 293 [10,2] zs):zs=[244,49]:=by
 rcases h with ⟨-,h⟩|⟨h,-⟩
 rotate_left
 ·omega
 have hl:=h.len;have hs:=h.sum
 match zs,hl with
 | [a,b],_=>
  have e1:Va 293 ([10,2]:List Int).sum [10,2]=[244,48]:=by decide +kernel
  have e2:VU 293 ([10,2]:List Int).sum [10,2]=[2,10]:=by decide +kernel
  have h0:=h.at' 0;have h1:=h.at' 1;have ho:=h.ord 0 1 (by decide) (by decide)
  rw[e1] at h0 h1;rw[e1,e2] at ho;simp at h0 h1 ho hs;have hab:¬(a=245/\b=48):=fun ⟨ha,hb⟩=>by have:=ho ha hb;omega
  rcases h0 with rfl|rfl<;>rcases h1 with rfl|rfl<;>first|rfl|omega
def gnA:List Gn:=[⟨[115],[97,47,49],[97,98,99],5,9,[49,48],[50,52,52],[49,48,48]⟩,⟨[115],[98,47,49],[97,98,99],6,9,[50],[52,57],[51,50]⟩]
theorem Ck:(tkA.zip (([244,49]:List Int).map canon)).map (MB fA.key fA.ins fA.day)=gnA:=by
 have e:([244,49]:List Int).map canon=[[50,52,52],[52,57]]:=by decide +kernel
 rw[e];rfl
def GaQ (w:World) (v:Value):Prop:=∃g cap cur,v=.slice (some ⟨g,0,none⟩) 2 cap/\w.heap[g]?=some (.cells cur 89 (0,0))/\20<=cur.size/\cur.toList.take 20=WN gnA
theorem GaQ.below {w w':World} {v:Value} (h:GaQ w v) (hb:Below w.heap.size w w'):GaQ w' v:=by
 obtain⟨g,cap,cur,e,h1,h2⟩:=h;exact⟨g,cap,cur,e,Zt h1 hb,h2⟩
theorem Zbw {w:World} {B:Nat} {v:Value} (h:w.ownsRow B 89 10 v 2 (WN gnA)):GaQ w v:=by
 rcases h.2 with ⟨-,h0⟩|⟨g,cap,cur,e,-,h1,h2,-,h3,h4⟩
 ·cases h0
 ·exact⟨g,cap,cur,e,h1,by omega,h4⟩
theorem GaQ.at {w:World} {v:Value} (h:GaQ w v):∃g cap,v=.slice (some ⟨g,0,none⟩) 2 cap/\w.cell? ⟨g,6,none⟩=some (.string ⟨#[50,52,52]⟩)/\w.cell? ⟨g,16,none⟩=some (.string ⟨#[52,57]⟩)/\w.cell? ⟨g,17,none⟩=some (.string ⟨#[51,50]⟩):=by
 obtain⟨g,cap,cur,e,h1,h2,h3⟩:=h;have key:∀j u,j<20->(WN gnA)[j]?=some u->w.cell? ⟨g,j,none⟩=some u:=fun j u hj hu=>by
  rw[Zg h1,<-Array.getElem?_toList,<-hu,<-h3,List.getElem?_take,if_pos hj]
 exact⟨g,cap,e,key 6 _ (by decide) rfl,key 16 _ (by decide) rfl,key 17 _ (by decide) rfl⟩
def TQA (w:World) (u:Value):Prop:=∃r v1 v2,u=.tuple #[.agg #[r,v1,v2,.slice none 0 0],.int .i64 0]/\r.oneCell'=true/\v2.oneCell'=true/\GaQ w v1
end Go.Proofs.YtpieeldbamklkaaGreatDoor
