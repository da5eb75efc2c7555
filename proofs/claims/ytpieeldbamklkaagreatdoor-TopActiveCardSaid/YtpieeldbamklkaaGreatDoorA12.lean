/- Texts put together: Oc Hb Hc Hd He Ua Ub Uc Hf. -/
import Derived.Test.YtpieeldbamklkaaGreatDoorA11
set_option maxHeartbeats 8000000
set_option maxRecDepth 100000
namespace Go.Proofs.YtpieeldbamklkaaGreatDoor
open Go.RowKit Num
structure Pq where
 w:Rat
 r:Rat
 wb:Rat
 rb:Rat
structure Yx where
 a:Rat
 s:Rat
 i:Rat
def ZV {α:Type} (f:α->Rat):List α->Rat
 | []=>0
 | x::l=>f x+ZV f l
def Xj (l:List Pq):Rat:=ZV (fun x=>x.w*x.r) l
def Yd (l:List Pq):Rat:=ZV (fun x=>x.wb*x.rb) l
def Vd (p:Yx):Rat:=p.a+p.s+p.i
def MV (b:Rat) (x:Pq):Yx:=⟨(x.w-x.wb)*(x.rb-b),x.wb*(x.r-x.rb),(x.w-x.wb)*(x.r-x.rb)⟩
theorem Ho (b:Rat):∀l:List Pq,ZV (fun x=>Vd (MV b x)) l=Xj l-Yd l-b*(ZV (fun x=>x.w) l-ZV (fun x=>x.wb) l)
 | []=>by simp[ZV,Xj,Yd];grind
 | x::l=>by
  have ih:=Ho b l;unfold Xj Yd at ih ⊢;rw[ZV,ZV,ZV,ZV,ZV,ih];unfold Vd MV
  grind
def Vt (p q:Yx):Yx:=⟨p.a+q.a,p.s+q.s,p.i+q.i⟩
def ZC (p:Yx) (f:Rat):Yx:=⟨p.a*f,p.s*f,p.i*f⟩
def Hp (out:List Yx) (g:Rat) (l:List Pq):List Yx:=List.zipWith (fun o x=>Vt (ZC o (1+Yd l)) (ZC (MV (Yd l) x) g)) out l
theorem Hq (c g b:Rat):∀(out:List Yx) (l:List Pq),out.length=l.length->
  ZV Vd (List.zipWith (fun o x=>Vt (ZC o c) (ZC (MV b x) g)) out l)=ZV Vd out*c+ZV (fun x=>Vd (MV b x)) l*g
 | [],[],_=>by simp[ZV];grind
 | o::out,x::l,h=>by
  have ih:=Hq c g b out l (by simpa using h)
  rw[List.zipWith_cons_cons,ZV,ZV,ZV,ih];unfold Vd Vt ZC
  grind
theorem Cw {out:List Yx} {l:List Pq} {G B:Rat} (hl:out.length=l.length) (hw:ZV (fun x=>x.w) l=1) (hb:ZV (fun x=>x.wb) l=1) (h:ZV Vd out=G-B) :
  ZV Vd (Hp out G l)=G*(Xj l+1)-B*(Yd l+1):=by
 unfold Hp;rw[Hq _ _ _ out l hl,Ho,hw,hb,h]
 grind
open Go.Shelf
theorem VK (a b:ByteArray):(#[.string a,.string b]:Array Value).all (·.oneCell')=true:=all_oneCell_toArray (cs:=[.string a,.string b]) (fun v hv=>by simp only[List.mem_cons,List.not_mem_nil,or_false] at hv;rcases hv with rfl|rfl<;>rfl)
structure J4 (F:Fx) (b:Nat) (ob:Obj):Prop where
 at_:F b=some ob
 only:∀k,F k≠none->k=b
theorem J5 (b:Nat) (ob:Obj):∃F,J4 F b ob:=⟨fun k=>if k=b then some ob else none,if_pos rfl,fun k h=>by
 by_cases e:k=b
 ·exact e
 ·exact absurd (if_neg e) h⟩
theorem J4.low {F:Fx} {b B:Nat} {ob:Obj} (h:J4 F b ob) (hb:B<=b):∀k,F k≠none->B<=k:=fun k hk=>by rw[h.only k hk];exact hb
theorem J4.no {F:Fx} {b k:Nat} {ob:Obj} (h:J4 F b ob) (hk:k≠b):¬F k≠none:=fun e=>hk (h.only k e)
theorem J4.heap {F:Fx} {b:Nat} {ob:Obj} (h:J4 F b ob) {w:World} (hw:w.heap[b]?=some ob):∀k o,F k=some o->w.heap[k]?=some o:=fun k o hk=>by
 have:=h.only k (by rw[hk];exact Option.some_ne_none _)
 subst this;rw[h.at_] at hk;cases hk;exact hw
structure O5 where
 n:List UInt8
 q:Pq
def raw (x:O5):Sec:=⟨x.n,fN x.q.w,fD x.q.w,fN x.q.r,fD x.q.r,fN x.q.wb,fD x.q.wb,fN x.q.rb,fD x.q.rb⟩
theorem O6 {α:Type} (f:α->Rat):∀(l:List α) (x:α),ZV f (l++[x])=ZV f l+f x
 | [],x=>by simp only[List.nil_append,ZV];grind
 | y::l,x=>by rw[List.cons_append,ZV,O6 f l x,ZV];grind
theorem Qe {α:Type} (f:α->Rat) (M:Nat):∀(l:List α),(∀x∈l,Bd M (f x))->Bd ((M+1)*l.length+1) (ZV f l)
 | [],_=>PD
 | y::l,h=>by
  have h1:=Xn (h y (by simp)) (Qe f M l (fun x hx=>h x (by simp[hx])))
  rw[ZV];refine YQ h1 ?_;rw[List.length_cons,Nat.mul_succ];omega
theorem Zat:fN (0:Rat)=[]:=rfl
theorem Zau:fD (0:Rat)=[]:=rfl
theorem Zav:Ret 75 #[] (Value.agg #[Value.string ⟨List.toArray (fN ((1:Rat)))⟩,Value.string ⟨List.toArray (fD ((1:Rat)))⟩]):=fun w hG=>by
 have C1:=Lh (rOf (l:=[49]) (by decide) (z:=1) rfl)
 have x3:=Z0.new w (.string ⟨#[]⟩) (.string ⟨#[]⟩) 34;have hb:=Zb w (.cells #[.string ⟨#[]⟩,.string ⟨#[]⟩] 34);have he:((1:Int):Rat)=1:=rfl;rw[he] at C1;generalize fN (1:Rat)=N1 at *;generalize fD (1:Rat)=D1 at *;go_enter Tryz.func75,Tryz.ntmps75;go_wp2_with fail
 with_reducible refine (C1.out.of hG hb).mono ?_
 rintro e w2 ⟨rfl,hb2⟩;replace x3:=x3.below hb2;have hb3:=bto hb hb2;have g0:=x3.c0;have g1:=x3.c1;have g2:=x3.f0;have g3:=x3.f1;clear hb2;go_wp2;have hy:=x3.set (.string ⟨N1.toArray⟩) (.string ⟨D1.toArray⟩);have d0:=hy.c0;have d1:=hy.c1;refine bodyPost_ret (v:=.agg #[.string ⟨N1.toArray⟩,.string ⟨D1.toArray⟩]) (by simp[results,Tryz.results75,go_sem,d0,d1]) rfl ?_
 exact⟨rfl,Zv hb3 (Nl _) _ _⟩
theorem Zaw {A:Option Addr} {xs:List O5} {n:Nat} (c:Nat) {w:World} (g:O5->Rat) (M fn:Nat) (hcall:∀(args:Array Value) w,(callFunc fn args).run Tryz.prog w=.ok (.enter fn args) w)
  (hG:ZQ w) (hn:xs.length=n) (hn2:n<=1000) (h:Y7 w A (xs.map raw)) (hf:∀x∈xs,Bd M (g x)/\Ret fn #[.agg #[.string ⟨List.toArray (raw x).n⟩,.string ⟨List.toArray (raw x).w1⟩,.string ⟨List.toArray (raw x).w2⟩,.string ⟨List.toArray (raw x).r1⟩,.string ⟨List.toArray (raw x).r2⟩,.string ⟨List.toArray (raw x).b1⟩,.string ⟨List.toArray (raw x).b2⟩,.string ⟨List.toArray (raw x).c1⟩,.string ⟨List.toArray (raw x).c2⟩]] (Value.agg #[Value.string ⟨List.toArray (fN (g x))⟩,Value.string ⟨List.toArray (fD (g x))⟩])) (hM:(M+1)*n+M+1<=90000) :
  Calls Tryz.prog 148 #[.slice A n c,.func (Fn.func fn) #[] #[]] w fun e w'=>e=.returned (Value.agg #[Value.string ⟨List.toArray (fN (ZV g xs))⟩,Value.string ⟨List.toArray (fD (ZV g xs))⟩])/\Below w.heap.size w w':=by
 obtain⟨g1,g2,g3,g4⟩:=Xi w (.cells #[.string ⟨#[]⟩,.string ⟨#[]⟩] 34) (.cells #[.string ⟨#[]⟩,.string ⟨#[]⟩] 34);obtain⟨t3,T3⟩:=SY (cs:=#[.string ⟨#[]⟩,.string ⟨#[]⟩]) g2 rfl;obtain⟨W,hW⟩:∃W,W=((w.alloc (.cells #[.string ⟨#[]⟩,.string ⟨#[]⟩] 34)).alloc (.cells #[.string ⟨#[]⟩,.string ⟨#[]⟩] 34)).setCells (w.heap.size+1) 0 (#[.string ⟨#[]⟩,.string ⟨#[]⟩]:Array Value).toList:=⟨_,rfl⟩
 rw[<-hW] at T3;have HR0:Hid (W.heap[w.heap.size]?=some (.cells #[.string ⟨#[]⟩,.string ⟨#[]⟩] 34 (0,0))):=(T3.old _ (by omega)).trans g1
 have HR1:Hid (W.heap[w.heap.size+1]?=some (.cells #[.string ⟨#[]⟩,.string ⟨#[]⟩] 34 (0,0))):=T3.new;have HB0:Hid (Below w.heap.size w W):=by rw[hW];exact Lib.below_setCells _ (show w.heap.size<=w.heap.size+1 by omega) _ _ g3
 have HW:=Lh hW;have HTH:=Lh t3;have HI:Hid ((Tryz.prog.info? 34).map (·.size)=some 2):=by
  show _=_
  kernel_rfl
 have HX:=Lh h;have HF:=Lh hf;have HN:=Lh hn;have HM:=Lh hM;obtain⟨N9,hN9⟩:∃N9,N9=fN (ZV g xs):=⟨_,rfl⟩
 obtain⟨D9,hD9⟩:∃D9,D9=fD (ZV g xs):=⟨_,rfl⟩
 rw[<-hN9,<-hD9];have HN9:=Lh hN9;have HD9:=Lh hD9;clear hW g1 g2 g3 g4 t3 T3 h hf hn hM hN9 hD9;go_enter Tryz.func148,Tryz.ntmps148;go_wp2_with (refine wpList_store_mid rfl 34 (.tmp 5) (.tmp 8) rfl (w.heap.size+1) 0 #[.string ⟨#[]⟩,.string ⟨#[]⟩] rfl rfl HTH.out HI.out (VK _ _) ?_;rw[<-HW.out]);clear HTH
 go_loopw [11] (fun iv wr=>∃k:Nat,k<=n/\iv=.int .i64 (k:Int)/\Hid (wr.heap[w.heap.size]?=some (.cells #[.string ⟨#[]⟩,.string ⟨#[]⟩] 34 (0,0)))/\Hid (wr.heap[w.heap.size+1]?=some (.cells #[.string ⟨(fN (ZV g (xs.take k))).toArray⟩,.string ⟨(fD (ZV g (xs.take k))).toArray⟩] 34 (0,0)))/\Hid (Below w.heap.size w wr)) (fun iv _=>n-(intOf iv).toNat)
 case atStart=>exact⟨0,Nat.zero_le _,rfl,HR0,HR1,HB0⟩
 case round=>
  clear HR0 HR1 HB0 HW;obtain⟨k,hk,rfl,HR0,HR1,HB⟩:=hrel
  by_cases hlt:k<n
  rotate_left
  ·have e1:decide ((k:Int)<(n:Int))=false:=Df (by omega)
   have hkn:xs.take k=xs:=List.take_of_length_le (by rw[HN.out];omega)
   rw[hkn,<-HN9.out,<-HD9.out] at HR1;have x3:=Z0.ofB HR0.out;have x5:=Z0.ofB HR1.out;have g0:=x3.c0;have g1:=x3.c1;have g2:=x3.f0;have g3:=x3.f1;have p0:=x5.c0;have p1:=x5.c1;have hb3:=HB.out;clear hkn HN9 HD9 HR0 HR1 HX HF x5;go_wp2;have hy:=x3.set (.string ⟨N9.toArray⟩) (.string ⟨D9.toArray⟩);have d0:=hy.c0;have d1:=hy.c1;refine bodyPost_ret (v:=.agg #[.string ⟨N9.toArray⟩,.string ⟨D9.toArray⟩]) (by simp[results,Tryz.results148,go_sem,d0,d1]) rfl ?_
   exact⟨rfl,Zv hb3 (Nl _) _ _⟩
  have e1:decide ((k:Int)<(n:Int))=true:=Dt (by omega)
  obtain⟨x,hx⟩:∃x,xs[k]?=some x:=⟨_,List.getElem?_eq_getElem (by rw[HN.out];omega)⟩
  obtain⟨y,hy⟩:∃y,y=raw x:=⟨_,rfl⟩
  obtain⟨b,o,rfl,hbs,p0,p1,p2,p3,p4,p5,p6,p7,p8⟩:=(HX.out.below HB.out) k y (by rw[List.getElem?_map,hx,hy];rfl)
  obtain⟨hgb,hgc⟩:=HF.out x (Lm hx);have hst:ZV g (xs.take (k+1))=ZV g (xs.take k)+g x:=by rw[Xu hx,O6]
  have hsb:=Qe g M (xs.take k) (fun z hz=>(HF.out z (List.mem_of_mem_take hz)).1)
  rw[List.length_take,Nat.min_eq_left (by rw[HN.out];exact hk)] at hsb
  have hle:(M+1)*k<=(M+1)*n:=Nat.mul_le_mul_left _ hk;have hMM:=HM.out;have CG:Hid (Ret fn #[.agg #[.string ⟨y.n.toArray⟩,.string ⟨y.w1.toArray⟩,.string ⟨y.w2.toArray⟩,.string ⟨y.r1.toArray⟩,.string ⟨y.r2.toArray⟩,.string ⟨y.b1.toArray⟩,.string ⟨y.b2.toArray⟩,.string ⟨y.c1.toArray⟩,.string ⟨y.c2.toArray⟩]] (Value.agg #[Value.string ⟨List.toArray (fN (g x))⟩,Value.string ⟨List.toArray (fD (g x))⟩])):=by rw[hy];exact hgc
  have CA:=Lh (Oz (Zs hsb (by omega)) (Zs hgb (by omega)) hst.symm)
  obtain⟨N2,hN2⟩:∃N2,N2=fN (ZV g (xs.take (k+1))):=⟨_,rfl⟩
  obtain⟨D2,hD2⟩:∃D2,D2=fD (ZV g (xs.take (k+1))):=⟨_,rfl⟩
  rw[<-hN2,<-hD2] at CA;have HN2:=Lh hN2;have HD2:=Lh hD2;clear hgb hgc hst hsb hle hMM hx hy hN2 hD2;generalize fN (ZV g (xs.take k))=N1 at *;generalize fD (ZV g (xs.take k))=D1 at *;generalize fN (g x)=N0 at *;generalize fD (g x)=D0 at *;have hbA:=Zb wr (.cells #[.string ⟨y.n.toArray⟩,.string ⟨y.w1.toArray⟩,.string ⟨y.w2.toArray⟩,.string ⟨y.r1.toArray⟩,.string ⟨y.r2.toArray⟩,.string ⟨y.b1.toArray⟩,.string ⟨y.b2.toArray⟩,.string ⟨y.c1.toArray⟩,.string ⟨y.c2.toArray⟩] 231);have X7:=Lh (Blk.new wr #[.string ⟨y.n.toArray⟩,.string ⟨y.w1.toArray⟩,.string ⟨y.w2.toArray⟩,.string ⟨y.r1.toArray⟩,.string ⟨y.r2.toArray⟩,.string ⟨y.b1.toArray⟩,.string ⟨y.b2.toArray⟩,.string ⟨y.c1.toArray⟩,.string ⟨y.c2.toArray⟩] 231);have HB2:=Lh (bto HB.out hbA);have HRA:=Lh (Zk HR1.out hbA);have HRZ:=Lh (Zk HR0.out hbA);obtain⟨F,hO⟩:=J5 (w.heap.size+1) (.cells #[.string ⟨N1.toArray⟩,.string ⟨D1.toArray⟩] 34 (0,0));have HO:=Lh hO;have hsz:w.heap.size+1<wr.heap.size:=(Ag.1 HR1.out).1;have hn7:=hO.no (k:=wr.heap.size) (by omega)
  clear hbA HR0 HR1 hO;go_wp2_with fail;refine Zw (fun _=>[0,5]) F (by kernel_rfl) (by kernel_rfl) (by kernel_rfl) (HO.out.heap HRA.out) ?_
  refine Yp (w.heap.size+1) #[.string ⟨N1.toArray⟩,.string ⟨D1.toArray⟩] 34 _ HO.out.at_ (by decide) rfl (fun wz hw hc=>by have q0:=hc 0;have q1:=hc 1;go_simp;try with_reducible rfl) ?_
  simp only[Act.put,StT,StZ,StS,Nat.reduceAdd];refine Zi _ rfl (fun wz hw=>by go_simp;try with_reducible rfl) ?_
  simp only[Act.put,StT,StZ,StS,Nat.reduceAdd];refine Zi _ rfl (fun wz hw=>by have q0:wz.cell? ⟨wr.heap.size,0,none⟩=some (.string ⟨y.n.toArray⟩):=(X7.out.keepX hw hn7).c 0;have q1:wz.cell? ⟨wr.heap.size,1,none⟩=some (.string ⟨y.w1.toArray⟩):=(X7.out.keepX hw hn7).c 1;have q2:wz.cell? ⟨wr.heap.size,2,none⟩=some (.string ⟨y.w2.toArray⟩):=(X7.out.keepX hw hn7).c 2;have q3:wz.cell? ⟨wr.heap.size,3,none⟩=some (.string ⟨y.r1.toArray⟩):=(X7.out.keepX hw hn7).c 3;have q4:wz.cell? ⟨wr.heap.size,4,none⟩=some (.string ⟨y.r2.toArray⟩):=(X7.out.keepX hw hn7).c 4;have q5:wz.cell? ⟨wr.heap.size,5,none⟩=some (.string ⟨y.b1.toArray⟩):=(X7.out.keepX hw hn7).c 5;have q6:wz.cell? ⟨wr.heap.size,6,none⟩=some (.string ⟨y.b2.toArray⟩):=(X7.out.keepX hw hn7).c 6;have q7:wz.cell? ⟨wr.heap.size,7,none⟩=some (.string ⟨y.c1.toArray⟩):=(X7.out.keepX hw hn7).c 7;have q8:wz.cell? ⟨wr.heap.size,8,none⟩=some (.string ⟨y.c2.toArray⟩):=(X7.out.keepX hw hn7).c 8;go_simp;try with_reducible rfl) ?_
  simp only[Act.put,StT,StZ,StS,Nat.reduceAdd];refine Zu _ _ _ rfl (fun wz hw=>by go_simp;try with_reducible rfl) (fun wz hw=>CG.out.of hG (hw.lower HB2.out (HO.out.low (B:=w.heap.size) (by omega)))) ?_
  simp only[Act.put,StT,StZ,StS,Nat.reduceAdd];refine Zu _ _ _ rfl (fun wz hw=>by go_simp;try with_reducible rfl) (fun wz hw=>CA.out.of hG (hw.lower HB2.out (HO.out.low (B:=w.heap.size) (by omega)))) ?_
  simp only[Act.put,StT,StZ,StS,Nat.reduceAdd];refine ZO (w.heap.size+1) 0 #[.string ⟨N1.toArray⟩,.string ⟨D1.toArray⟩] [.string ⟨N2.toArray⟩,.string ⟨D2.toArray⟩] 34 HO.out.at_ (by decide) (fun j oj hj=>Zq (l:=[0,5]) (by kernel_rfl) j oj hj) rfl (fun wz hw hc hf=>Zn 34 _ _ rfl (w.heap.size+1) 0 #[.string ⟨N2.toArray⟩,.string ⟨D2.toArray⟩] rfl rfl (fun j hj=>⟨by have hj:j<2:=hj;rw[hc,Array.getElem?_eq_getElem (by show 0+j<2;omega)];rfl,hf _⟩) HI.out (VK _ _)) ?_
  simp only[Act.put,Nat.reduceAdd];refine ZY (fun w4 hF4=>?_)
  have h4:=hF4.box (w.heap.size+1) _ (if_pos rfl);have H4:Hid (w4.heap[w.heap.size+1]?=some (.cells #[.string ⟨N2.toArray⟩,.string ⟨D2.toArray⟩] 34 (0,0))):=h4;have HB4:=Lh (hF4.below.lower HB2.out (HO.out.low (B:=w.heap.size) (by omega)))
  have H5:Hid (w4.heap[w.heap.size]?=some (.cells #[.string ⟨#[]⟩,.string ⟨#[]⟩] 34 (0,0))):=(hF4.below.block _ (Ag.1 HRZ.out).1 (HO.out.no (by omega))).trans HRZ.out
  clear hF4 h4 X7 HRA HRZ HO HB2 CG CA HB hn7;go_wp2;go_roundw
  case rel=>exact⟨k+1,by omega,by go_num,H5,(by show _=_;rw[<-HN2.out,<-HD2.out];exact H4.out),HB4⟩
  case measure=>simp[intOf];omega
theorem FD (args:Array Value) (w:World):(callFunc 149 args).run Tryz.prog w=.ok (.enter 149 args) w:=by kernel_rfl
theorem ck2 (y:Sec):Ret 149 #[.agg #[.string ⟨y.n.toArray⟩,.string ⟨y.w1.toArray⟩,.string ⟨y.w2.toArray⟩,.string ⟨y.r1.toArray⟩,.string ⟨y.r2.toArray⟩,.string ⟨y.b1.toArray⟩,.string ⟨y.b2.toArray⟩,.string ⟨y.c1.toArray⟩,.string ⟨y.c2.toArray⟩]] (Value.agg #[Value.string ⟨List.toArray (y.w1)⟩,Value.string ⟨List.toArray (y.w2)⟩]):=fun w hG=>by
 obtain⟨k1,k2,k3,k4⟩:=Xi w (.cells #[.string ⟨y.n.toArray⟩,.string ⟨y.w1.toArray⟩,.string ⟨y.w2.toArray⟩,.string ⟨y.r1.toArray⟩,.string ⟨y.r2.toArray⟩,.string ⟨y.b1.toArray⟩,.string ⟨y.b2.toArray⟩,.string ⟨y.c1.toArray⟩,.string ⟨y.c2.toArray⟩] 231) (.cells #[.string ⟨#[]⟩,.string ⟨#[]⟩] 34);have x1:Blk ((w.alloc (.cells #[.string ⟨y.n.toArray⟩,.string ⟨y.w1.toArray⟩,.string ⟨y.w2.toArray⟩,.string ⟨y.r1.toArray⟩,.string ⟨y.r2.toArray⟩,.string ⟨y.b1.toArray⟩,.string ⟨y.b2.toArray⟩,.string ⟨y.c1.toArray⟩,.string ⟨y.c2.toArray⟩] 231)).alloc (.cells #[.string ⟨#[]⟩,.string ⟨#[]⟩] 34)) w.heap.size #[.string ⟨y.n.toArray⟩,.string ⟨y.w1.toArray⟩,.string ⟨y.w2.toArray⟩,.string ⟨y.r1.toArray⟩,.string ⟨y.r2.toArray⟩,.string ⟨y.b1.toArray⟩,.string ⟨y.b2.toArray⟩,.string ⟨y.c1.toArray⟩,.string ⟨y.c2.toArray⟩]:=⟨_,k1⟩;have x3:=Z0.ofB k2;have hb:=k3;have q0:((w.alloc (.cells #[.string ⟨y.n.toArray⟩,.string ⟨y.w1.toArray⟩,.string ⟨y.w2.toArray⟩,.string ⟨y.r1.toArray⟩,.string ⟨y.r2.toArray⟩,.string ⟨y.b1.toArray⟩,.string ⟨y.b2.toArray⟩,.string ⟨y.c1.toArray⟩,.string ⟨y.c2.toArray⟩] 231)).alloc (.cells #[.string ⟨#[]⟩,.string ⟨#[]⟩] 34)).cell? ⟨w.heap.size,1,none⟩=some (.string ⟨y.w1.toArray⟩):=x1.c 1;have q1:((w.alloc (.cells #[.string ⟨y.n.toArray⟩,.string ⟨y.w1.toArray⟩,.string ⟨y.w2.toArray⟩,.string ⟨y.r1.toArray⟩,.string ⟨y.r2.toArray⟩,.string ⟨y.b1.toArray⟩,.string ⟨y.b2.toArray⟩,.string ⟨y.c1.toArray⟩,.string ⟨y.c2.toArray⟩] 231)).alloc (.cells #[.string ⟨#[]⟩,.string ⟨#[]⟩] 34)).cell? ⟨w.heap.size,2,none⟩=some (.string ⟨y.w2.toArray⟩):=x1.c 2;clear k1 k2 k3 k4 x1 x3 hb;obtain⟨-,m2,m3,-⟩:=Xi w (.cells #[.string ⟨y.n.toArray⟩,.string ⟨y.w1.toArray⟩,.string ⟨y.w2.toArray⟩,.string ⟨y.r1.toArray⟩,.string ⟨y.r2.toArray⟩,.string ⟨y.b1.toArray⟩,.string ⟨y.b2.toArray⟩,.string ⟨y.c1.toArray⟩,.string ⟨y.c2.toArray⟩] 231) (.cells #[.string ⟨y.w1.toArray⟩,.string ⟨y.w2.toArray⟩] 34);have x5:=Z0.ofB m2;have d0:=x5.c0;have d1:=x5.c1;clear m2 x5;go_enter Tryz.func149,Tryz.ntmps149;go_wp2;refine bodyPost_ret (v:=(Value.agg #[Value.string ⟨List.toArray (y.w1)⟩,Value.string ⟨List.toArray (y.w2)⟩])) (by simp[results,Tryz.results149,go_sem,d0,d1]) rfl ?_
 exact⟨rfl,m3⟩
theorem FE (args:Array Value) (w:World):(callFunc 150 args).run Tryz.prog w=.ok (.enter 150 args) w:=by kernel_rfl
theorem ck3 (y:Sec):Ret 150 #[.agg #[.string ⟨y.n.toArray⟩,.string ⟨y.w1.toArray⟩,.string ⟨y.w2.toArray⟩,.string ⟨y.r1.toArray⟩,.string ⟨y.r2.toArray⟩,.string ⟨y.b1.toArray⟩,.string ⟨y.b2.toArray⟩,.string ⟨y.c1.toArray⟩,.string ⟨y.c2.toArray⟩]] (Value.agg #[Value.string ⟨List.toArray (y.b1)⟩,Value.string ⟨List.toArray (y.b2)⟩]):=fun w hG=>by
 obtain⟨k1,k2,k3,k4⟩:=Xi w (.cells #[.string ⟨y.n.toArray⟩,.string ⟨y.w1.toArray⟩,.string ⟨y.w2.toArray⟩,.string ⟨y.r1.toArray⟩,.string ⟨y.r2.toArray⟩,.string ⟨y.b1.toArray⟩,.string ⟨y.b2.toArray⟩,.string ⟨y.c1.toArray⟩,.string ⟨y.c2.toArray⟩] 231) (.cells #[.string ⟨#[]⟩,.string ⟨#[]⟩] 34);have x1:Blk ((w.alloc (.cells #[.string ⟨y.n.toArray⟩,.string ⟨y.w1.toArray⟩,.string ⟨y.w2.toArray⟩,.string ⟨y.r1.toArray⟩,.string ⟨y.r2.toArray⟩,.string ⟨y.b1.toArray⟩,.string ⟨y.b2.toArray⟩,.string ⟨y.c1.toArray⟩,.string ⟨y.c2.toArray⟩] 231)).alloc (.cells #[.string ⟨#[]⟩,.string ⟨#[]⟩] 34)) w.heap.size #[.string ⟨y.n.toArray⟩,.string ⟨y.w1.toArray⟩,.string ⟨y.w2.toArray⟩,.string ⟨y.r1.toArray⟩,.string ⟨y.r2.toArray⟩,.string ⟨y.b1.toArray⟩,.string ⟨y.b2.toArray⟩,.string ⟨y.c1.toArray⟩,.string ⟨y.c2.toArray⟩]:=⟨_,k1⟩;have x3:=Z0.ofB k2;have hb:=k3;have q0:((w.alloc (.cells #[.string ⟨y.n.toArray⟩,.string ⟨y.w1.toArray⟩,.string ⟨y.w2.toArray⟩,.string ⟨y.r1.toArray⟩,.string ⟨y.r2.toArray⟩,.string ⟨y.b1.toArray⟩,.string ⟨y.b2.toArray⟩,.string ⟨y.c1.toArray⟩,.string ⟨y.c2.toArray⟩] 231)).alloc (.cells #[.string ⟨#[]⟩,.string ⟨#[]⟩] 34)).cell? ⟨w.heap.size,5,none⟩=some (.string ⟨y.b1.toArray⟩):=x1.c 5;have q1:((w.alloc (.cells #[.string ⟨y.n.toArray⟩,.string ⟨y.w1.toArray⟩,.string ⟨y.w2.toArray⟩,.string ⟨y.r1.toArray⟩,.string ⟨y.r2.toArray⟩,.string ⟨y.b1.toArray⟩,.string ⟨y.b2.toArray⟩,.string ⟨y.c1.toArray⟩,.string ⟨y.c2.toArray⟩] 231)).alloc (.cells #[.string ⟨#[]⟩,.string ⟨#[]⟩] 34)).cell? ⟨w.heap.size,6,none⟩=some (.string ⟨y.b2.toArray⟩):=x1.c 6;clear k1 k2 k3 k4 x1 x3 hb;obtain⟨-,m2,m3,-⟩:=Xi w (.cells #[.string ⟨y.n.toArray⟩,.string ⟨y.w1.toArray⟩,.string ⟨y.w2.toArray⟩,.string ⟨y.r1.toArray⟩,.string ⟨y.r2.toArray⟩,.string ⟨y.b1.toArray⟩,.string ⟨y.b2.toArray⟩,.string ⟨y.c1.toArray⟩,.string ⟨y.c2.toArray⟩] 231) (.cells #[.string ⟨y.b1.toArray⟩,.string ⟨y.b2.toArray⟩] 34);have x5:=Z0.ofB m2;have d0:=x5.c0;have d1:=x5.c1;clear m2 x5;go_enter Tryz.func150,Tryz.ntmps150;go_wp2;refine bodyPost_ret (v:=(Value.agg #[Value.string ⟨List.toArray (y.b1)⟩,Value.string ⟨List.toArray (y.b2)⟩])) (by simp[results,Tryz.results150,go_sem,d0,d1]) rfl ?_
 exact⟨rfl,m3⟩
theorem FF (args:Array Value) (w:World):(callFunc 151 args).run Tryz.prog w=.ok (.enter 151 args) w:=by kernel_rfl
theorem rt1 (y:Sec) {p q r:Rat} (h1:IsQ y.w1 y.w2 p) (h2:IsQ y.r1 y.r2 q) (e:p*q=r):Ret 151 #[.agg #[.string ⟨y.n.toArray⟩,.string ⟨y.w1.toArray⟩,.string ⟨y.w2.toArray⟩,.string ⟨y.r1.toArray⟩,.string ⟨y.r2.toArray⟩,.string ⟨y.b1.toArray⟩,.string ⟨y.b2.toArray⟩,.string ⟨y.c1.toArray⟩,.string ⟨y.c2.toArray⟩]] (Value.agg #[Value.string ⟨List.toArray (fN r)⟩,Value.string ⟨List.toArray (fD r)⟩]):=fun w hG=>by
 obtain⟨k1,k2,k3,k4⟩:=Xi w (.cells #[.string ⟨y.n.toArray⟩,.string ⟨y.w1.toArray⟩,.string ⟨y.w2.toArray⟩,.string ⟨y.r1.toArray⟩,.string ⟨y.r2.toArray⟩,.string ⟨y.b1.toArray⟩,.string ⟨y.b2.toArray⟩,.string ⟨y.c1.toArray⟩,.string ⟨y.c2.toArray⟩] 231) (.cells #[.string ⟨#[]⟩,.string ⟨#[]⟩] 34);have x1:Blk ((w.alloc (.cells #[.string ⟨y.n.toArray⟩,.string ⟨y.w1.toArray⟩,.string ⟨y.w2.toArray⟩,.string ⟨y.r1.toArray⟩,.string ⟨y.r2.toArray⟩,.string ⟨y.b1.toArray⟩,.string ⟨y.b2.toArray⟩,.string ⟨y.c1.toArray⟩,.string ⟨y.c2.toArray⟩] 231)).alloc (.cells #[.string ⟨#[]⟩,.string ⟨#[]⟩] 34)) w.heap.size #[.string ⟨y.n.toArray⟩,.string ⟨y.w1.toArray⟩,.string ⟨y.w2.toArray⟩,.string ⟨y.r1.toArray⟩,.string ⟨y.r2.toArray⟩,.string ⟨y.b1.toArray⟩,.string ⟨y.b2.toArray⟩,.string ⟨y.c1.toArray⟩,.string ⟨y.c2.toArray⟩]:=⟨_,k1⟩;have x3:=Z0.ofB k2;have hb:=k3;have q0:((w.alloc (.cells #[.string ⟨y.n.toArray⟩,.string ⟨y.w1.toArray⟩,.string ⟨y.w2.toArray⟩,.string ⟨y.r1.toArray⟩,.string ⟨y.r2.toArray⟩,.string ⟨y.b1.toArray⟩,.string ⟨y.b2.toArray⟩,.string ⟨y.c1.toArray⟩,.string ⟨y.c2.toArray⟩] 231)).alloc (.cells #[.string ⟨#[]⟩,.string ⟨#[]⟩] 34)).cell? ⟨w.heap.size,1,none⟩=some (.string ⟨y.w1.toArray⟩):=x1.c 1;have q1:((w.alloc (.cells #[.string ⟨y.n.toArray⟩,.string ⟨y.w1.toArray⟩,.string ⟨y.w2.toArray⟩,.string ⟨y.r1.toArray⟩,.string ⟨y.r2.toArray⟩,.string ⟨y.b1.toArray⟩,.string ⟨y.b2.toArray⟩,.string ⟨y.c1.toArray⟩,.string ⟨y.c2.toArray⟩] 231)).alloc (.cells #[.string ⟨#[]⟩,.string ⟨#[]⟩] 34)).cell? ⟨w.heap.size,2,none⟩=some (.string ⟨y.w2.toArray⟩):=x1.c 2;have q2:((w.alloc (.cells #[.string ⟨y.n.toArray⟩,.string ⟨y.w1.toArray⟩,.string ⟨y.w2.toArray⟩,.string ⟨y.r1.toArray⟩,.string ⟨y.r2.toArray⟩,.string ⟨y.b1.toArray⟩,.string ⟨y.b2.toArray⟩,.string ⟨y.c1.toArray⟩,.string ⟨y.c2.toArray⟩] 231)).alloc (.cells #[.string ⟨#[]⟩,.string ⟨#[]⟩] 34)).cell? ⟨w.heap.size,3,none⟩=some (.string ⟨y.r1.toArray⟩):=x1.c 3;have q3:((w.alloc (.cells #[.string ⟨y.n.toArray⟩,.string ⟨y.w1.toArray⟩,.string ⟨y.w2.toArray⟩,.string ⟨y.r1.toArray⟩,.string ⟨y.r2.toArray⟩,.string ⟨y.b1.toArray⟩,.string ⟨y.b2.toArray⟩,.string ⟨y.c1.toArray⟩,.string ⟨y.c2.toArray⟩] 231)).alloc (.cells #[.string ⟨#[]⟩,.string ⟨#[]⟩] 34)).cell? ⟨w.heap.size,4,none⟩=some (.string ⟨y.r2.toArray⟩):=x1.c 4;have C1:=Lh (Nm h1 h2 e);generalize fN r=N1 at *;generalize fD r=D1 at *;clear k1 k2 k3 x1 h1 h2 e;go_enter Tryz.func151,Tryz.ntmps151;go_wp2_with fail
 with_reducible refine (C1.out.of hG hb).mono ?_
 rintro e w2 ⟨rfl,hb2⟩;replace x3:=x3.below hb2;have hb3:=bto hb hb2;have g0:=x3.c0;have g1:=x3.c1;have g2:=x3.f0;have g3:=x3.f1;clear hb2 C1 q0 q1 q2 q3;go_wp2;have hy:=x3.set (.string ⟨N1.toArray⟩) (.string ⟨D1.toArray⟩);have d0:=hy.c0;have d1:=hy.c1;refine bodyPost_ret (v:=.agg #[.string ⟨N1.toArray⟩,.string ⟨D1.toArray⟩]) (by simp[results,Tryz.results151,go_sem,d0,d1]) rfl ?_
 exact⟨rfl,Zv hb3 (by omega) _ _⟩
theorem FG (args:Array Value) (w:World):(callFunc 152 args).run Tryz.prog w=.ok (.enter 152 args) w:=by kernel_rfl
theorem rt2 (y:Sec) {p q r:Rat} (h1:IsQ y.b1 y.b2 p) (h2:IsQ y.c1 y.c2 q) (e:p*q=r):Ret 152 #[.agg #[.string ⟨y.n.toArray⟩,.string ⟨y.w1.toArray⟩,.string ⟨y.w2.toArray⟩,.string ⟨y.r1.toArray⟩,.string ⟨y.r2.toArray⟩,.string ⟨y.b1.toArray⟩,.string ⟨y.b2.toArray⟩,.string ⟨y.c1.toArray⟩,.string ⟨y.c2.toArray⟩]] (Value.agg #[Value.string ⟨List.toArray (fN r)⟩,Value.string ⟨List.toArray (fD r)⟩]):=fun w hG=>by
 obtain⟨k1,k2,k3,k4⟩:=Xi w (.cells #[.string ⟨y.n.toArray⟩,.string ⟨y.w1.toArray⟩,.string ⟨y.w2.toArray⟩,.string ⟨y.r1.toArray⟩,.string ⟨y.r2.toArray⟩,.string ⟨y.b1.toArray⟩,.string ⟨y.b2.toArray⟩,.string ⟨y.c1.toArray⟩,.string ⟨y.c2.toArray⟩] 231) (.cells #[.string ⟨#[]⟩,.string ⟨#[]⟩] 34);have x1:Blk ((w.alloc (.cells #[.string ⟨y.n.toArray⟩,.string ⟨y.w1.toArray⟩,.string ⟨y.w2.toArray⟩,.string ⟨y.r1.toArray⟩,.string ⟨y.r2.toArray⟩,.string ⟨y.b1.toArray⟩,.string ⟨y.b2.toArray⟩,.string ⟨y.c1.toArray⟩,.string ⟨y.c2.toArray⟩] 231)).alloc (.cells #[.string ⟨#[]⟩,.string ⟨#[]⟩] 34)) w.heap.size #[.string ⟨y.n.toArray⟩,.string ⟨y.w1.toArray⟩,.string ⟨y.w2.toArray⟩,.string ⟨y.r1.toArray⟩,.string ⟨y.r2.toArray⟩,.string ⟨y.b1.toArray⟩,.string ⟨y.b2.toArray⟩,.string ⟨y.c1.toArray⟩,.string ⟨y.c2.toArray⟩]:=⟨_,k1⟩;have x3:=Z0.ofB k2;have hb:=k3;have q0:((w.alloc (.cells #[.string ⟨y.n.toArray⟩,.string ⟨y.w1.toArray⟩,.string ⟨y.w2.toArray⟩,.string ⟨y.r1.toArray⟩,.string ⟨y.r2.toArray⟩,.string ⟨y.b1.toArray⟩,.string ⟨y.b2.toArray⟩,.string ⟨y.c1.toArray⟩,.string ⟨y.c2.toArray⟩] 231)).alloc (.cells #[.string ⟨#[]⟩,.string ⟨#[]⟩] 34)).cell? ⟨w.heap.size,5,none⟩=some (.string ⟨y.b1.toArray⟩):=x1.c 5;have q1:((w.alloc (.cells #[.string ⟨y.n.toArray⟩,.string ⟨y.w1.toArray⟩,.string ⟨y.w2.toArray⟩,.string ⟨y.r1.toArray⟩,.string ⟨y.r2.toArray⟩,.string ⟨y.b1.toArray⟩,.string ⟨y.b2.toArray⟩,.string ⟨y.c1.toArray⟩,.string ⟨y.c2.toArray⟩] 231)).alloc (.cells #[.string ⟨#[]⟩,.string ⟨#[]⟩] 34)).cell? ⟨w.heap.size,6,none⟩=some (.string ⟨y.b2.toArray⟩):=x1.c 6;have q2:((w.alloc (.cells #[.string ⟨y.n.toArray⟩,.string ⟨y.w1.toArray⟩,.string ⟨y.w2.toArray⟩,.string ⟨y.r1.toArray⟩,.string ⟨y.r2.toArray⟩,.string ⟨y.b1.toArray⟩,.string ⟨y.b2.toArray⟩,.string ⟨y.c1.toArray⟩,.string ⟨y.c2.toArray⟩] 231)).alloc (.cells #[.string ⟨#[]⟩,.string ⟨#[]⟩] 34)).cell? ⟨w.heap.size,7,none⟩=some (.string ⟨y.c1.toArray⟩):=x1.c 7;have q3:((w.alloc (.cells #[.string ⟨y.n.toArray⟩,.string ⟨y.w1.toArray⟩,.string ⟨y.w2.toArray⟩,.string ⟨y.r1.toArray⟩,.string ⟨y.r2.toArray⟩,.string ⟨y.b1.toArray⟩,.string ⟨y.b2.toArray⟩,.string ⟨y.c1.toArray⟩,.string ⟨y.c2.toArray⟩] 231)).alloc (.cells #[.string ⟨#[]⟩,.string ⟨#[]⟩] 34)).cell? ⟨w.heap.size,8,none⟩=some (.string ⟨y.c2.toArray⟩):=x1.c 8;have C1:=Lh (Nm h1 h2 e);generalize fN r=N1 at *;generalize fD r=D1 at *;clear k1 k2 k3 x1 h1 h2 e;go_enter Tryz.func152,Tryz.ntmps152;go_wp2_with fail
 with_reducible refine (C1.out.of hG hb).mono ?_
 rintro e w2 ⟨rfl,hb2⟩;replace x3:=x3.below hb2;have hb3:=bto hb hb2;have g0:=x3.c0;have g1:=x3.c1;have g2:=x3.f0;have g3:=x3.f1;clear hb2 C1 q0 q1 q2 q3;go_wp2;have hy:=x3.set (.string ⟨N1.toArray⟩) (.string ⟨D1.toArray⟩);have d0:=hy.c0;have d1:=hy.c1;refine bodyPost_ret (v:=.agg #[.string ⟨N1.toArray⟩,.string ⟨D1.toArray⟩]) (by simp[results,Tryz.results152,go_sem,d0,d1]) rfl ?_
 exact⟨rfl,Zv hb3 (by omega) _ _⟩
def ptC (n:List UInt8) (p:Yx):Array Value:=#[.string ⟨n.toArray⟩,.string ⟨List.toArray (fN p.a)⟩,.string ⟨List.toArray (fD p.a)⟩,.string ⟨List.toArray (fN p.s)⟩,.string ⟨List.toArray (fD p.s)⟩,.string ⟨List.toArray (fN p.i)⟩,.string ⟨List.toArray (fD p.i)⟩]
theorem Zax (a b c d e f g:ByteArray):(#[.string a,.string b,.string c,.string d,.string e,.string f,.string g]:Array Value).all (·.oneCell')=true:=all_oneCell_toArray (cs:=[.string a,.string b,.string c,.string d,.string e,.string f,.string g]) (fun v hv=>by simp only[List.mem_cons,List.not_mem_nil,or_false] at hv;rcases hv with rfl|rfl|rfl|rfl|rfl|rfl|rfl<;>rfl)
def BdP (M:Nat) (p:Yx):Prop:=Bd M p.a/\Bd M p.s/\Bd M p.i
theorem O7 {j k:Nat} {p:Yx} (h:BdP j p) (hjk:j<=k):BdP k p:=⟨YQ h.1 hjk,YQ h.2.1 hjk,YQ h.2.2 hjk⟩
theorem Cx (w:World) (o:Obj):(w.alloc o).heap.size=w.heap.size+1:=by simp
theorem ZcH (w:World) (a b c:Obj):(((w.alloc a).alloc b).alloc c).heap[w.heap.size]?=some a/\(((w.alloc a).alloc b).alloc c).heap[w.heap.size+1]?=some b/\(((w.alloc a).alloc b).alloc c).heap[w.heap.size+1+1]?=some c/\Below w.heap.size w (((w.alloc a).alloc b).alloc c)/\(((w.alloc a).alloc b).alloc c).heap.size=w.heap.size+3:=by
 obtain⟨g1,g2,g3,g4⟩:=Xi w a b;have k1:=ZJ ((w.alloc a).alloc b) c;have k3:=Zb ((w.alloc a).alloc b) c;rw[g4] at k1;exact⟨Zk g1 k3,Zk g2 k3,k1,bto g3 k3,by rw[Cx,g4]⟩
theorem Zdf (n:List UInt8) {p:Yx} {M:Nat} (h:BdP M p) (hM:3*M+2<=90000):Ret 88 #[.agg (ptC n p)] (Value.agg #[Value.string ⟨List.toArray (fN (Vd p))⟩,Value.string ⟨List.toArray (fD (Vd p))⟩]):=fun w hG=>by
 obtain⟨ha,hs,hi⟩:=h;have C1:=Lh (Oz (Zs ha (by omega)) (Zs hs (by omega)) (rfl:p.a+p.s=_))
 have C2:=Lh (Oz (Zs (Xn ha hs) (by omega)) (Zs hi (by omega)) (rfl:p.a+p.s+p.i=_))
 show Calls Tryz.prog 88 #[.agg (ptC n p)] w fun e w'=>e=.returned (Value.agg #[Value.string ⟨List.toArray (fN (p.a+p.s+p.i))⟩,Value.string ⟨List.toArray (fD (p.a+p.s+p.i))⟩])/\Below w.heap.size w w'
 unfold ptC;clear ha hs hi;generalize fN (p.a+p.s+p.i)=P1 at *;generalize fD (p.a+p.s+p.i)=P2 at *;generalize fN (p.a+p.s)=Q1 at *;generalize fD (p.a+p.s)=Q2 at *;generalize fN p.a=A1 at *;generalize fD p.a=A2 at *;generalize fN p.s=S1 at *;generalize fD p.s=S2 at *;generalize fN p.i=I1 at *;generalize fD p.i=I2 at *;obtain⟨g1,g2,g3,g4⟩:=Xi w (.cells #[.string ⟨n.toArray⟩,.string ⟨A1.toArray⟩,.string ⟨A2.toArray⟩,.string ⟨S1.toArray⟩,.string ⟨S2.toArray⟩,.string ⟨I1.toArray⟩,.string ⟨I2.toArray⟩] 156) (.cells #[.string ⟨#[]⟩,.string ⟨#[]⟩] 34);obtain⟨W,hW⟩:∃W,W=((w.alloc (.cells #[.string ⟨n.toArray⟩,.string ⟨A1.toArray⟩,.string ⟨A2.toArray⟩,.string ⟨S1.toArray⟩,.string ⟨S2.toArray⟩,.string ⟨I1.toArray⟩,.string ⟨I2.toArray⟩] 156)).alloc (.cells #[.string ⟨#[]⟩,.string ⟨#[]⟩] 34)):=⟨_,rfl⟩
 rw[<-hW] at g1 g2 g3 g4;have HW:=Lh hW;have HB:=Lh g3;have H2:=Lh g2;have K1:Hid (Blk W w.heap.size #[.string ⟨n.toArray⟩,.string ⟨A1.toArray⟩,.string ⟨A2.toArray⟩,.string ⟨S1.toArray⟩,.string ⟨S2.toArray⟩,.string ⟨I1.toArray⟩,.string ⟨I2.toArray⟩]):=⟨_,g1⟩;obtain⟨F,hO⟩:=J5 (w.heap.size+1) (.cells #[.string ⟨#[]⟩,.string ⟨#[]⟩] 34 (0,0));have HO:=Lh hO;have hn1:=hO.no (k:=w.heap.size) (by omega)
 have HI:Hid ((Tryz.prog.info? 34).map (·.size)=some 2):=by
  show _=_
  kernel_rfl
 clear hW g1 g2 g3 g4 hO;go_enter Tryz.func88,Tryz.ntmps88;go_wp2_with fail;rw[<-HW.out];refine Zw (fun _=>[8]) F (by kernel_rfl) (by kernel_rfl) (by kernel_rfl) (HO.out.heap H2.out) ?_
 refine Zi _ rfl (fun wz hw=>by go_simp;try with_reducible rfl) ?_
 simp only[Act.put,StT,StZ,StS,Nat.reduceAdd];refine Zi _ rfl (fun wz hw=>by have q0:wz.cell? ⟨w.heap.size,1,none⟩=some (.string ⟨A1.toArray⟩):=(K1.out.keepX hw hn1).c 1;have q1:wz.cell? ⟨w.heap.size,2,none⟩=some (.string ⟨A2.toArray⟩):=(K1.out.keepX hw hn1).c 2;go_simp;try with_reducible rfl) ?_
 simp only[Act.put,StT,StZ,StS,Nat.reduceAdd];refine Zi _ rfl (fun wz hw=>by go_simp;try with_reducible rfl) ?_
 simp only[Act.put,StT,StZ,StS,Nat.reduceAdd];refine Zi _ rfl (fun wz hw=>by have q0:wz.cell? ⟨w.heap.size,3,none⟩=some (.string ⟨S1.toArray⟩):=(K1.out.keepX hw hn1).c 3;have q1:wz.cell? ⟨w.heap.size,4,none⟩=some (.string ⟨S2.toArray⟩):=(K1.out.keepX hw hn1).c 4;go_simp;try with_reducible rfl) ?_
 simp only[Act.put,StT,StZ,StS,Nat.reduceAdd];refine Zu _ _ _ rfl (fun wz hw=>by go_simp;try with_reducible rfl) (fun wz hw=>C1.out.of hG (hw.lower HB.out (HO.out.low (B:=w.heap.size) (by omega)))) ?_
 simp only[Act.put,StT,StZ,StS,Nat.reduceAdd];refine Zi _ rfl (fun wz hw=>by go_simp;try with_reducible rfl) ?_
 simp only[Act.put,StT,StZ,StS,Nat.reduceAdd];refine Zi _ rfl (fun wz hw=>by have q0:wz.cell? ⟨w.heap.size,5,none⟩=some (.string ⟨I1.toArray⟩):=(K1.out.keepX hw hn1).c 5;have q1:wz.cell? ⟨w.heap.size,6,none⟩=some (.string ⟨I2.toArray⟩):=(K1.out.keepX hw hn1).c 6;go_simp;try with_reducible rfl) ?_
 simp only[Act.put,StT,StZ,StS,Nat.reduceAdd];refine Zu _ _ _ rfl (fun wz hw=>by go_simp;try with_reducible rfl) (fun wz hw=>C2.out.of hG (hw.lower HB.out (HO.out.low (B:=w.heap.size) (by omega)))) ?_
 simp only[Act.put,StT,StZ,StS,Nat.reduceAdd];refine ZO (w.heap.size+1) 0 #[.string ⟨#[]⟩,.string ⟨#[]⟩] [.string ⟨P1.toArray⟩,.string ⟨P2.toArray⟩] 34 HO.out.at_ (by decide) (fun j oj hj=>Zq (l:=[8]) (by kernel_rfl) j oj hj) rfl (fun wz hw hc hf=>Zn 34 _ _ rfl (w.heap.size+1) 0 #[.string ⟨P1.toArray⟩,.string ⟨P2.toArray⟩] rfl rfl (fun j hj=>⟨by have hj:j<2:=hj;rw[hc,Array.getElem?_eq_getElem (by show 0+j<2;omega)];rfl,hf _⟩) HI.out (VK _ _)) ?_
 simp only[Act.put,Nat.reduceAdd];refine ZY (fun w4 hF4=>?_)
 have h4:=hF4.box (w.heap.size+1) _ (if_pos rfl);have H4:Hid (w4.heap[w.heap.size+1]?=some (.cells #[.string ⟨P1.toArray⟩,.string ⟨P2.toArray⟩] 34 (0,0))):=h4;have HB4:=Lh (hF4.below.lower HB.out (HO.out.low (B:=w.heap.size) (by omega)))
 clear hF4 h4 HW HO H2 HB;go_wp2;refine bodyPost_ret (v:=.agg #[.string ⟨P1.toArray⟩,.string ⟨P2.toArray⟩]) ?_ rfl ?_
 ·exact Z9 Tryz.f88 2 34 #[.string ⟨P1.toArray⟩,.string ⟨P2.toArray⟩] rfl rfl (Yk H4.out) Tryz.underlying34 rfl HI.out
 exact⟨rfl,HB4.out⟩
theorem Cy (n:List UInt8) {p:Yx} {f:Rat} {M K:Nat} (h:BdP M p) (hf:Bd K f) (hM:M<=90000) (hK:K<=90000):Ret 79 #[.agg (ptC n p),(Value.agg #[Value.string ⟨List.toArray (fN f)⟩,Value.string ⟨List.toArray (fD f)⟩])] (.agg (ptC n (ZC p f))):=fun w hG=>by
 obtain⟨ha,hs,hi⟩:=h;have C1:=Lh (Nm (Zs ha (by omega)) (Zs hf (by omega)) (rfl:p.a*f=_))
 have C2:=Lh (Nm (Zs hs (by omega)) (Zs hf (by omega)) (rfl:p.s*f=_))
 have C3:=Lh (Nm (Zs hi (by omega)) (Zs hf (by omega)) (rfl:p.i*f=_))
 unfold ptC ZC;clear ha hs hi hf;dsimp only;generalize fN (p.a*f)=P1 at *;generalize fD (p.a*f)=P2 at *;generalize fN (p.s*f)=Q1 at *;generalize fD (p.s*f)=Q2 at *;generalize fN (p.i*f)=R1 at *;generalize fD (p.i*f)=R2 at *;generalize fN f=X1 at *;generalize fD f=X2 at *;generalize fN p.a=A1 at *;generalize fD p.a=A2 at *;generalize fN p.s=S1 at *;generalize fD p.s=S2 at *;generalize fN p.i=I1 at *;generalize fD p.i=I2 at *;obtain⟨g1,g2,g5,g3,g4⟩:=ZcH w (.cells #[.string ⟨n.toArray⟩,.string ⟨A1.toArray⟩,.string ⟨A2.toArray⟩,.string ⟨S1.toArray⟩,.string ⟨S2.toArray⟩,.string ⟨I1.toArray⟩,.string ⟨I2.toArray⟩] 156) (.cells #[.string ⟨X1.toArray⟩,.string ⟨X2.toArray⟩] 34) (.cells #[.string ⟨#[]⟩,.string ⟨#[]⟩,.string ⟨#[]⟩,.string ⟨#[]⟩,.string ⟨#[]⟩,.string ⟨#[]⟩,.string ⟨#[]⟩] 156);obtain⟨W,hW⟩:∃W,W=(((w.alloc (.cells #[.string ⟨n.toArray⟩,.string ⟨A1.toArray⟩,.string ⟨A2.toArray⟩,.string ⟨S1.toArray⟩,.string ⟨S2.toArray⟩,.string ⟨I1.toArray⟩,.string ⟨I2.toArray⟩] 156)).alloc (.cells #[.string ⟨X1.toArray⟩,.string ⟨X2.toArray⟩] 34)).alloc (.cells #[.string ⟨#[]⟩,.string ⟨#[]⟩,.string ⟨#[]⟩,.string ⟨#[]⟩,.string ⟨#[]⟩,.string ⟨#[]⟩,.string ⟨#[]⟩] 156)):=⟨_,rfl⟩
 rw[<-hW] at g1 g2 g5 g3 g4;have HW:=Lh hW;have HB:=Lh g3;have H2:=Lh g5;have K1:Hid (Blk W w.heap.size #[.string ⟨n.toArray⟩,.string ⟨A1.toArray⟩,.string ⟨A2.toArray⟩,.string ⟨S1.toArray⟩,.string ⟨S2.toArray⟩,.string ⟨I1.toArray⟩,.string ⟨I2.toArray⟩]):=⟨_,g1⟩;have K2:Hid (Blk W (w.heap.size+1) #[.string ⟨X1.toArray⟩,.string ⟨X2.toArray⟩]):=⟨_,g2⟩;obtain⟨F,hO⟩:=J5 (w.heap.size+1+1) (.cells #[.string ⟨#[]⟩,.string ⟨#[]⟩,.string ⟨#[]⟩,.string ⟨#[]⟩,.string ⟨#[]⟩,.string ⟨#[]⟩,.string ⟨#[]⟩] 156 (0,0));have HO:=Lh hO;have hn1:=hO.no (k:=w.heap.size) (by omega)
 have hn2:=hO.no (k:=w.heap.size+1) (by omega)
 have HI:Hid ((Tryz.prog.info? 156).map (·.size)=some 7):=by
  show _=_
  kernel_rfl
 clear hW g1 g2 g5 g3 g4 hO;go_enter Tryz.func79,Tryz.ntmps79;go_wp2_with fail;rw[<-HW.out];refine Zw (fun _=>[15]) F (by kernel_rfl) (by kernel_rfl) (by kernel_rfl) (HO.out.heap H2.out) ?_
 refine Zi _ rfl (fun wz hw=>by go_simp;try with_reducible rfl) ?_
 simp only[Act.put,StT,StZ,StS,Nat.reduceAdd];refine Zi _ rfl (fun wz hw=>by have q0:wz.cell? ⟨w.heap.size,0,none⟩=some (.string ⟨n.toArray⟩):=(K1.out.keepX hw hn1).c 0;go_simp;try with_reducible rfl) ?_
 simp only[Act.put,StT,StZ,StS,Nat.reduceAdd];refine Zi _ rfl (fun wz hw=>by go_simp;try with_reducible rfl) ?_
 simp only[Act.put,StT,StZ,StS,Nat.reduceAdd];refine Zi _ rfl (fun wz hw=>by have q0:wz.cell? ⟨w.heap.size,1,none⟩=some (.string ⟨A1.toArray⟩):=(K1.out.keepX hw hn1).c 1;have q1:wz.cell? ⟨w.heap.size,2,none⟩=some (.string ⟨A2.toArray⟩):=(K1.out.keepX hw hn1).c 2;go_simp;try with_reducible rfl) ?_
 simp only[Act.put,StT,StZ,StS,Nat.reduceAdd];refine Zi _ rfl (fun wz hw=>by have q0:wz.cell? ⟨w.heap.size+1,0,none⟩=some (.string ⟨X1.toArray⟩):=(K2.out.keepX hw hn2).c 0;have q1:wz.cell? ⟨w.heap.size+1,1,none⟩=some (.string ⟨X2.toArray⟩):=(K2.out.keepX hw hn2).c 1;go_simp;try with_reducible rfl) ?_
 simp only[Act.put,StT,StZ,StS,Nat.reduceAdd];refine Zu _ _ _ rfl (fun wz hw=>by go_simp;try with_reducible rfl) (fun wz hw=>C1.out.of hG (hw.lower HB.out (HO.out.low (B:=w.heap.size) (by omega)))) ?_
 simp only[Act.put,StT,StZ,StS,Nat.reduceAdd];refine Zi _ rfl (fun wz hw=>by go_simp;try with_reducible rfl) ?_
 simp only[Act.put,StT,StZ,StS,Nat.reduceAdd];refine Zi _ rfl (fun wz hw=>by have q0:wz.cell? ⟨w.heap.size,3,none⟩=some (.string ⟨S1.toArray⟩):=(K1.out.keepX hw hn1).c 3;have q1:wz.cell? ⟨w.heap.size,4,none⟩=some (.string ⟨S2.toArray⟩):=(K1.out.keepX hw hn1).c 4;go_simp;try with_reducible rfl) ?_
 simp only[Act.put,StT,StZ,StS,Nat.reduceAdd];refine Zi _ rfl (fun wz hw=>by have q0:wz.cell? ⟨w.heap.size+1,0,none⟩=some (.string ⟨X1.toArray⟩):=(K2.out.keepX hw hn2).c 0;have q1:wz.cell? ⟨w.heap.size+1,1,none⟩=some (.string ⟨X2.toArray⟩):=(K2.out.keepX hw hn2).c 1;go_simp;try with_reducible rfl) ?_
 simp only[Act.put,StT,StZ,StS,Nat.reduceAdd];refine Zu _ _ _ rfl (fun wz hw=>by go_simp;try with_reducible rfl) (fun wz hw=>C2.out.of hG (hw.lower HB.out (HO.out.low (B:=w.heap.size) (by omega)))) ?_
 simp only[Act.put,StT,StZ,StS,Nat.reduceAdd];refine Zi _ rfl (fun wz hw=>by go_simp;try with_reducible rfl) ?_
 simp only[Act.put,StT,StZ,StS,Nat.reduceAdd];refine Zi _ rfl (fun wz hw=>by have q0:wz.cell? ⟨w.heap.size,5,none⟩=some (.string ⟨I1.toArray⟩):=(K1.out.keepX hw hn1).c 5;have q1:wz.cell? ⟨w.heap.size,6,none⟩=some (.string ⟨I2.toArray⟩):=(K1.out.keepX hw hn1).c 6;go_simp;try with_reducible rfl) ?_
 simp only[Act.put,StT,StZ,StS,Nat.reduceAdd];refine Zi _ rfl (fun wz hw=>by have q0:wz.cell? ⟨w.heap.size+1,0,none⟩=some (.string ⟨X1.toArray⟩):=(K2.out.keepX hw hn2).c 0;have q1:wz.cell? ⟨w.heap.size+1,1,none⟩=some (.string ⟨X2.toArray⟩):=(K2.out.keepX hw hn2).c 1;go_simp;try with_reducible rfl) ?_
 simp only[Act.put,StT,StZ,StS,Nat.reduceAdd];refine Zu _ _ _ rfl (fun wz hw=>by go_simp;try with_reducible rfl) (fun wz hw=>C3.out.of hG (hw.lower HB.out (HO.out.low (B:=w.heap.size) (by omega)))) ?_
 simp only[Act.put,StT,StZ,StS,Nat.reduceAdd];refine Zi _ rfl (fun wz hw=>by go_simp;try with_reducible rfl) ?_
 simp only[Act.put,StT,StZ,StS,Nat.reduceAdd];refine ZO (w.heap.size+1+1) 0 #[.string ⟨#[]⟩,.string ⟨#[]⟩,.string ⟨#[]⟩,.string ⟨#[]⟩,.string ⟨#[]⟩,.string ⟨#[]⟩,.string ⟨#[]⟩] [.string ⟨n.toArray⟩,.string ⟨P1.toArray⟩,.string ⟨P2.toArray⟩,.string ⟨Q1.toArray⟩,.string ⟨Q2.toArray⟩,.string ⟨R1.toArray⟩,.string ⟨R2.toArray⟩] 156 HO.out.at_ (by decide) (fun j oj hj=>Zq (l:=[15]) (by kernel_rfl) j oj hj) rfl (fun wz hw hc hf=>Zn 156 _ _ rfl (w.heap.size+1+1) 0 #[.string ⟨n.toArray⟩,.string ⟨P1.toArray⟩,.string ⟨P2.toArray⟩,.string ⟨Q1.toArray⟩,.string ⟨Q2.toArray⟩,.string ⟨R1.toArray⟩,.string ⟨R2.toArray⟩] rfl rfl (fun j hj=>⟨by have hj:j<7:=hj;rw[hc,Array.getElem?_eq_getElem (by show 0+j<7;omega)];rfl,hf _⟩) HI.out (Zax _ _ _ _ _ _ _)) ?_
 simp only[Act.put,Nat.reduceAdd];refine ZY (fun w4 hF4=>?_)
 have h4:=hF4.box (w.heap.size+1+1) _ (if_pos rfl);have H4:Hid (w4.heap[w.heap.size+1+1]?=some (.cells #[.string ⟨n.toArray⟩,.string ⟨P1.toArray⟩,.string ⟨P2.toArray⟩,.string ⟨Q1.toArray⟩,.string ⟨Q2.toArray⟩,.string ⟨R1.toArray⟩,.string ⟨R2.toArray⟩] 156 (0,0))):=h4;have HB4:=Lh (hF4.below.lower HB.out (HO.out.low (B:=w.heap.size) (by omega)))
 clear hF4 h4 HW HO H2 HB;go_wp2;refine bodyPost_ret (v:=.agg #[.string ⟨n.toArray⟩,.string ⟨P1.toArray⟩,.string ⟨P2.toArray⟩,.string ⟨Q1.toArray⟩,.string ⟨Q2.toArray⟩,.string ⟨R1.toArray⟩,.string ⟨R2.toArray⟩]) ?_ rfl ?_
 ·exact Z9 Tryz.f79 4 156 #[.string ⟨n.toArray⟩,.string ⟨P1.toArray⟩,.string ⟨P2.toArray⟩,.string ⟨Q1.toArray⟩,.string ⟨Q2.toArray⟩,.string ⟨R1.toArray⟩,.string ⟨R2.toArray⟩] rfl rfl (Yk H4.out) Tryz.underlying156 rfl HI.out
 exact⟨rfl,HB4.out⟩
theorem ZcI (m n:List UInt8) {p q:Yx} {M K:Nat} (h:BdP M p) (h':BdP K q) (hM:M<=90000) (hK:K<=90000):Ret 78 #[.agg (ptC m p),.agg (ptC n q)] (.agg (ptC n (Vt p q))):=fun w hG=>by
 obtain⟨ha,hs,hi⟩:=h;obtain⟨ka,ks,ki⟩:=h';have C1:=Lh (Oz (Zs ha (by omega)) (Zs ka (by omega)) (rfl:p.a+q.a=_))
 have C2:=Lh (Oz (Zs hs (by omega)) (Zs ks (by omega)) (rfl:p.s+q.s=_))
 have C3:=Lh (Oz (Zs hi (by omega)) (Zs ki (by omega)) (rfl:p.i+q.i=_))
 unfold ptC Vt;clear ha hs hi ka ks ki;dsimp only;generalize fN (p.a+q.a)=P1 at *;generalize fD (p.a+q.a)=P2 at *;generalize fN (p.s+q.s)=Q1 at *;generalize fD (p.s+q.s)=Q2 at *;generalize fN (p.i+q.i)=R1 at *;generalize fD (p.i+q.i)=R2 at *;generalize fN p.a=A1 at *;generalize fD p.a=A2 at *;generalize fN p.s=S1 at *;generalize fD p.s=S2 at *;generalize fN p.i=I1 at *;generalize fD p.i=I2 at *;generalize fN q.a=X1 at *;generalize fD q.a=X2 at *;generalize fN q.s=Y1 at *;generalize fD q.s=Y2 at *;generalize fN q.i=V1 at *;generalize fD q.i=V2 at *;obtain⟨g1,g2,g5,g3,g4⟩:=ZcH w (.cells #[.string ⟨m.toArray⟩,.string ⟨A1.toArray⟩,.string ⟨A2.toArray⟩,.string ⟨S1.toArray⟩,.string ⟨S2.toArray⟩,.string ⟨I1.toArray⟩,.string ⟨I2.toArray⟩] 156) (.cells #[.string ⟨n.toArray⟩,.string ⟨X1.toArray⟩,.string ⟨X2.toArray⟩,.string ⟨Y1.toArray⟩,.string ⟨Y2.toArray⟩,.string ⟨V1.toArray⟩,.string ⟨V2.toArray⟩] 156) (.cells #[.string ⟨#[]⟩,.string ⟨#[]⟩,.string ⟨#[]⟩,.string ⟨#[]⟩,.string ⟨#[]⟩,.string ⟨#[]⟩,.string ⟨#[]⟩] 156);obtain⟨W,hW⟩:∃W,W=(((w.alloc (.cells #[.string ⟨m.toArray⟩,.string ⟨A1.toArray⟩,.string ⟨A2.toArray⟩,.string ⟨S1.toArray⟩,.string ⟨S2.toArray⟩,.string ⟨I1.toArray⟩,.string ⟨I2.toArray⟩] 156)).alloc (.cells #[.string ⟨n.toArray⟩,.string ⟨X1.toArray⟩,.string ⟨X2.toArray⟩,.string ⟨Y1.toArray⟩,.string ⟨Y2.toArray⟩,.string ⟨V1.toArray⟩,.string ⟨V2.toArray⟩] 156)).alloc (.cells #[.string ⟨#[]⟩,.string ⟨#[]⟩,.string ⟨#[]⟩,.string ⟨#[]⟩,.string ⟨#[]⟩,.string ⟨#[]⟩,.string ⟨#[]⟩] 156)):=⟨_,rfl⟩
 rw[<-hW] at g1 g2 g5 g3 g4;have HW:=Lh hW;have HB:=Lh g3;have H2:=Lh g5;have K1:Hid (Blk W w.heap.size #[.string ⟨m.toArray⟩,.string ⟨A1.toArray⟩,.string ⟨A2.toArray⟩,.string ⟨S1.toArray⟩,.string ⟨S2.toArray⟩,.string ⟨I1.toArray⟩,.string ⟨I2.toArray⟩]):=⟨_,g1⟩;have K2:Hid (Blk W (w.heap.size+1) #[.string ⟨n.toArray⟩,.string ⟨X1.toArray⟩,.string ⟨X2.toArray⟩,.string ⟨Y1.toArray⟩,.string ⟨Y2.toArray⟩,.string ⟨V1.toArray⟩,.string ⟨V2.toArray⟩]):=⟨_,g2⟩;obtain⟨F,hO⟩:=J5 (w.heap.size+1+1) (.cells #[.string ⟨#[]⟩,.string ⟨#[]⟩,.string ⟨#[]⟩,.string ⟨#[]⟩,.string ⟨#[]⟩,.string ⟨#[]⟩,.string ⟨#[]⟩] 156 (0,0));have HO:=Lh hO;have hn1:=hO.no (k:=w.heap.size) (by omega)
 have hn2:=hO.no (k:=w.heap.size+1) (by omega)
 have HI:Hid ((Tryz.prog.info? 156).map (·.size)=some 7):=by
  show _=_
  kernel_rfl
 clear hW g1 g2 g5 g3 g4 hO;go_enter Tryz.func78,Tryz.ntmps78;go_wp2_with fail;rw[<-HW.out];refine Zw (fun _=>[18]) F (by kernel_rfl) (by kernel_rfl) (by kernel_rfl) (HO.out.heap H2.out) ?_
 refine Zi _ rfl (fun wz hw=>by go_simp;try with_reducible rfl) ?_
 simp only[Act.put,StT,StZ,StS,Nat.reduceAdd];refine Zi _ rfl (fun wz hw=>by have q0:wz.cell? ⟨w.heap.size+1,0,none⟩=some (.string ⟨n.toArray⟩):=(K2.out.keepX hw hn2).c 0;go_simp;try with_reducible rfl) ?_
 simp only[Act.put,StT,StZ,StS,Nat.reduceAdd];refine Zi _ rfl (fun wz hw=>by go_simp;try with_reducible rfl) ?_
 simp only[Act.put,StT,StZ,StS,Nat.reduceAdd];refine Zi _ rfl (fun wz hw=>by have q0:wz.cell? ⟨w.heap.size,1,none⟩=some (.string ⟨A1.toArray⟩):=(K1.out.keepX hw hn1).c 1;have q1:wz.cell? ⟨w.heap.size,2,none⟩=some (.string ⟨A2.toArray⟩):=(K1.out.keepX hw hn1).c 2;go_simp;try with_reducible rfl) ?_
 simp only[Act.put,StT,StZ,StS,Nat.reduceAdd];refine Zi _ rfl (fun wz hw=>by go_simp;try with_reducible rfl) ?_
 simp only[Act.put,StT,StZ,StS,Nat.reduceAdd];refine Zi _ rfl (fun wz hw=>by have q0:wz.cell? ⟨w.heap.size+1,1,none⟩=some (.string ⟨X1.toArray⟩):=(K2.out.keepX hw hn2).c 1;have q1:wz.cell? ⟨w.heap.size+1,2,none⟩=some (.string ⟨X2.toArray⟩):=(K2.out.keepX hw hn2).c 2;go_simp;try with_reducible rfl) ?_
 simp only[Act.put,StT,StZ,StS,Nat.reduceAdd];refine Zu _ _ _ rfl (fun wz hw=>by go_simp;try with_reducible rfl) (fun wz hw=>C1.out.of hG (hw.lower HB.out (HO.out.low (B:=w.heap.size) (by omega)))) ?_
 simp only[Act.put,StT,StZ,StS,Nat.reduceAdd];refine Zi _ rfl (fun wz hw=>by go_simp;try with_reducible rfl) ?_
 simp only[Act.put,StT,StZ,StS,Nat.reduceAdd];refine Zi _ rfl (fun wz hw=>by have q0:wz.cell? ⟨w.heap.size,3,none⟩=some (.string ⟨S1.toArray⟩):=(K1.out.keepX hw hn1).c 3;have q1:wz.cell? ⟨w.heap.size,4,none⟩=some (.string ⟨S2.toArray⟩):=(K1.out.keepX hw hn1).c 4;go_simp;try with_reducible rfl) ?_
 simp only[Act.put,StT,StZ,StS,Nat.reduceAdd];refine Zi _ rfl (fun wz hw=>by go_simp;try with_reducible rfl) ?_
 simp only[Act.put,StT,StZ,StS,Nat.reduceAdd];refine Zi _ rfl (fun wz hw=>by have q0:wz.cell? ⟨w.heap.size+1,3,none⟩=some (.string ⟨Y1.toArray⟩):=(K2.out.keepX hw hn2).c 3;have q1:wz.cell? ⟨w.heap.size+1,4,none⟩=some (.string ⟨Y2.toArray⟩):=(K2.out.keepX hw hn2).c 4;go_simp;try with_reducible rfl) ?_
 simp only[Act.put,StT,StZ,StS,Nat.reduceAdd];refine Zu _ _ _ rfl (fun wz hw=>by go_simp;try with_reducible rfl) (fun wz hw=>C2.out.of hG (hw.lower HB.out (HO.out.low (B:=w.heap.size) (by omega)))) ?_
 simp only[Act.put,StT,StZ,StS,Nat.reduceAdd];refine Zi _ rfl (fun wz hw=>by go_simp;try with_reducible rfl) ?_
 simp only[Act.put,StT,StZ,StS,Nat.reduceAdd];refine Zi _ rfl (fun wz hw=>by have q0:wz.cell? ⟨w.heap.size,5,none⟩=some (.string ⟨I1.toArray⟩):=(K1.out.keepX hw hn1).c 5;have q1:wz.cell? ⟨w.heap.size,6,none⟩=some (.string ⟨I2.toArray⟩):=(K1.out.keepX hw hn1).c 6;go_simp;try with_reducible rfl) ?_
 simp only[Act.put,StT,StZ,StS,Nat.reduceAdd];refine Zi _ rfl (fun wz hw=>by go_simp;try with_reducible rfl) ?_
 simp only[Act.put,StT,StZ,StS,Nat.reduceAdd];refine Zi _ rfl (fun wz hw=>by have q0:wz.cell? ⟨w.heap.size+1,5,none⟩=some (.string ⟨V1.toArray⟩):=(K2.out.keepX hw hn2).c 5;have q1:wz.cell? ⟨w.heap.size+1,6,none⟩=some (.string ⟨V2.toArray⟩):=(K2.out.keepX hw hn2).c 6;go_simp;try with_reducible rfl) ?_
 simp only[Act.put,StT,StZ,StS,Nat.reduceAdd];refine Zu _ _ _ rfl (fun wz hw=>by go_simp;try with_reducible rfl) (fun wz hw=>C3.out.of hG (hw.lower HB.out (HO.out.low (B:=w.heap.size) (by omega)))) ?_
 simp only[Act.put,StT,StZ,StS,Nat.reduceAdd];refine Zi _ rfl (fun wz hw=>by go_simp;try with_reducible rfl) ?_
 simp only[Act.put,StT,StZ,StS,Nat.reduceAdd];refine ZO (w.heap.size+1+1) 0 #[.string ⟨#[]⟩,.string ⟨#[]⟩,.string ⟨#[]⟩,.string ⟨#[]⟩,.string ⟨#[]⟩,.string ⟨#[]⟩,.string ⟨#[]⟩] [.string ⟨n.toArray⟩,.string ⟨P1.toArray⟩,.string ⟨P2.toArray⟩,.string ⟨Q1.toArray⟩,.string ⟨Q2.toArray⟩,.string ⟨R1.toArray⟩,.string ⟨R2.toArray⟩] 156 HO.out.at_ (by decide) (fun j oj hj=>Zq (l:=[18]) (by kernel_rfl) j oj hj) rfl (fun wz hw hc hf=>Zn 156 _ _ rfl (w.heap.size+1+1) 0 #[.string ⟨n.toArray⟩,.string ⟨P1.toArray⟩,.string ⟨P2.toArray⟩,.string ⟨Q1.toArray⟩,.string ⟨Q2.toArray⟩,.string ⟨R1.toArray⟩,.string ⟨R2.toArray⟩] rfl rfl (fun j hj=>⟨by have hj:j<7:=hj;rw[hc,Array.getElem?_eq_getElem (by show 0+j<7;omega)];rfl,hf _⟩) HI.out (Zax _ _ _ _ _ _ _)) ?_
 simp only[Act.put,Nat.reduceAdd];refine ZY (fun w4 hF4=>?_)
 have h4:=hF4.box (w.heap.size+1+1) _ (if_pos rfl);have H4:Hid (w4.heap[w.heap.size+1+1]?=some (.cells #[.string ⟨n.toArray⟩,.string ⟨P1.toArray⟩,.string ⟨P2.toArray⟩,.string ⟨Q1.toArray⟩,.string ⟨Q2.toArray⟩,.string ⟨R1.toArray⟩,.string ⟨R2.toArray⟩] 156 (0,0))):=h4;have HB4:=Lh (hF4.below.lower HB.out (HO.out.low (B:=w.heap.size) (by omega)))
 clear hF4 h4 HW HO H2 HB;go_wp2;refine bodyPost_ret (v:=.agg #[.string ⟨n.toArray⟩,.string ⟨P1.toArray⟩,.string ⟨P2.toArray⟩,.string ⟨Q1.toArray⟩,.string ⟨Q2.toArray⟩,.string ⟨R1.toArray⟩,.string ⟨R2.toArray⟩]) ?_ rfl ?_
 ·exact Z9 Tryz.f78 4 156 #[.string ⟨n.toArray⟩,.string ⟨P1.toArray⟩,.string ⟨P2.toArray⟩,.string ⟨Q1.toArray⟩,.string ⟨Q2.toArray⟩,.string ⟨R1.toArray⟩,.string ⟨R2.toArray⟩] rfl rfl (Yk H4.out) Tryz.underlying156 rfl HI.out
 exact⟨rfl,HB4.out⟩
structure J6 (F:Fx) (b c:Nat) (o1 o2:Obj):Prop where
 a1:F b=some o1
 a2:F c=some o2
 only:∀k,F k≠none->k=b∨k=c
theorem ZcJ (b c:Nat) (o1 o2:Obj) (h:b≠c):∃F,J6 F b c o1 o2:=⟨fun k=>if k=b then some o1 else if k=c then some o2 else none,if_pos rfl,(if_neg (fun e=>h e.symm)).trans (if_pos rfl),fun k hk=>by
 by_cases e:k=b
 ·exact .inl e
 ·by_cases e2:k=c
  ·exact .inr e2
  ·exact absurd ((if_neg e).trans (if_neg e2)) hk⟩
theorem J6.low {F:Fx} {b c B:Nat} {o1 o2:Obj} (h:J6 F b c o1 o2) (hb:B<=b) (hc:B<=c):∀k,F k≠none->B<=k:=fun k hk=>by
 rcases h.only k hk with rfl|rfl
 ·exact hb
 ·exact hc
theorem J6.no {F:Fx} {b c k:Nat} {o1 o2:Obj} (h:J6 F b c o1 o2) (hk:k≠b) (hk2:k≠c):¬F k≠none:=fun e=>(h.only k e).elim hk hk2
theorem J6.heap {F:Fx} {b c:Nat} {o1 o2:Obj} (h:J6 F b c o1 o2) {w:World} (hw:w.heap[b]?=some o1) (hw2:w.heap[c]?=some o2):∀k o,F k=some o->w.heap[k]?=some o:=fun k o hk=>by
 rcases h.only k (by rw[hk];exact Option.some_ne_none _) with rfl|rfl
 ·rw[h.a1] at hk;cases hk;exact hw
 ·rw[h.a2] at hk;cases hk;exact hw2
def BdS (M:Nat) (q:Pq):Prop:=Bd M q.w/\Bd M q.r/\Bd M q.wb/\Bd M q.rb
theorem WH {α β:Type} (f:β->Rat) (g:α->β):∀l:List α,ZV f (l.map g)=ZV (fun x=>f (g x)) l
 | []=>rfl
 | x::l=>by rw[List.map_cons,ZV,ZV,WH f g l]
theorem O8 {A:Option Addr} {xs:List O5} {n:Nat} (c:Nat) {w:World} {M:Nat} (hG:ZQ w) (hn:xs.length=n) (hn2:n<=1000) (h:Y7 w A (xs.map raw)) (hs:∀x∈xs,BdS M x.q) (hM:(M+M+1)*n+(M+M)+1<=90000) :
  Calls Tryz.prog 76 #[.slice A n c] w fun e w'=>e=.returned (.tuple #[(Value.agg #[Value.string ⟨List.toArray (fN (Xj (xs.map (·.q))))⟩,Value.string ⟨List.toArray (fD (Xj (xs.map (·.q))))⟩]),(Value.agg #[Value.string ⟨List.toArray (fN (Yd (xs.map (·.q))))⟩,Value.string ⟨List.toArray (fD (Yd (xs.map (·.q))))⟩])])/\Below w.heap.size w w':=by
 have K1:=Lh (fun w' (hb:Below w.heap.size w w')=>Zaw c (fun x=>x.q.w*x.q.r) (M+M) 151 FF (hG.below hb) hn hn2 (h.below hb) (fun x hx=>⟨Yn (hs x hx).1 (hs x hx).2.1,rt1 (raw x) (Zs (hs x hx).1 (by omega)) (Zs (hs x hx).2.1 (by omega)) rfl⟩) hM)
 have K2:=Lh (fun w' (hb:Below w.heap.size w w')=>Zaw c (fun x=>x.q.wb*x.q.rb) (M+M) 152 FG (hG.below hb) hn hn2 (h.below hb) (fun x hx=>⟨Yn (hs x hx).2.2.1 (hs x hx).2.2.2,rt2 (raw x) (Zs (hs x hx).2.2.1 (by omega)) (Zs (hs x hx).2.2.2 (by omega)) rfl⟩) hM)
 have e1:Xj (xs.map (·.q))=ZV (fun x=>x.q.w*x.q.r) xs:=WH _ _ _
 have e2:Yd (xs.map (·.q))=ZV (fun x=>x.q.wb*x.q.rb) xs:=WH _ _ _
 rw[e1,e2];clear e1 e2 h hs hn;generalize ZV (fun (x:O5)=>x.q.w*x.q.r) xs=s1 at *
 generalize ZV (fun (x:O5)=>x.q.wb*x.q.rb) xs=s2 at *
 generalize fN s1=N1 at *;generalize fD s1=D1 at *;generalize fN s2=N2 at *;generalize fD s2=D2 at *;obtain⟨g1,g2,g3,g4⟩:=Xi w (.cells #[.string ⟨#[]⟩,.string ⟨#[]⟩] 34) (.cells #[.string ⟨#[]⟩,.string ⟨#[]⟩] 34);obtain⟨W,hW⟩:∃W,W=(w.alloc (.cells #[.string ⟨#[]⟩,.string ⟨#[]⟩] 34)).alloc (.cells #[.string ⟨#[]⟩,.string ⟨#[]⟩] 34):=⟨_,rfl⟩
 rw[<-hW] at g1 g2 g3 g4;have HW:=Lh hW;have HB:=Lh g3;have H1:=Lh g1;have H2:=Lh g2;have HI:Hid ((Tryz.prog.info? 34).map (·.size)=some 2):=by
  show _=_
  kernel_rfl
 clear hW g1 g2 g3 g4 hM hn2;go_enter Tryz.func76,Tryz.ntmps76;go_wp2_with fail;rw[<-HW.out]
 with_reducible refine (K1.out W HB.out).mono ?_
 rintro e w1 ⟨rfl,hb1⟩;have hbA:=Zb w1 (.cells #[.string ⟨N1.toArray⟩,.string ⟨D1.toArray⟩] 34);have X4:=Lh (Blk.new w1 #[.string ⟨N1.toArray⟩,.string ⟨D1.toArray⟩] 34);have HB2:=Lh (bto (bto HB.out hb1) hbA);have H3:=Lh (Zk (Zk H1.out hb1) hbA);have H4:=Lh (Zk (Zk H2.out hb1) hbA);have HL4:Hid (w.heap.size+1<w1.heap.size):=(Ag.1 (Zk H2.out hb1)).1;clear hb1 hbA H1 H2 HB HW K1;go_wp2_with fail
 with_reducible refine (K2.out _ HB2.out).mono ?_
 rintro e w2 ⟨rfl,hb2⟩;have hbA:=Zb w2 (.cells #[.string ⟨N2.toArray⟩,.string ⟨D2.toArray⟩] 34);have X5:=Lh (Blk.new w2 #[.string ⟨N2.toArray⟩,.string ⟨D2.toArray⟩] 34);have X6:=Lh ((X4.out.below hb2).below hbA);have HB3:=Lh (bto (bto HB2.out hb2) hbA);have H5:=Lh (Zk (Zk H3.out hb2) hbA);have H6:=Lh (Zk (Zk H4.out hb2) hbA);have HL5:Hid (w1.heap.size<w2.heap.size):=(Ag.1 ((X4.out.below hb2)).choose_spec).1;clear hb2 hbA H3 H4 HB2 X4 K2;obtain⟨F,hO⟩:=ZcJ w.heap.size (w.heap.size+1) (.cells #[.string ⟨#[]⟩,.string ⟨#[]⟩] 34 (0,0)) (.cells #[.string ⟨#[]⟩,.string ⟨#[]⟩] 34 (0,0)) (by omega)
 obtain⟨tch,ht1,ht2⟩:∃tch:Nat->List Nat,tch w.heap.size=[2]/\tch (w.heap.size+1)=[3]:=⟨fun k=>if k=w.heap.size then [2] else [3],if_pos rfl,if_neg (by omega)⟩
 have hl4:=HL4.out;have hl5:=HL5.out;have hn4:=hO.no (k:=w1.heap.size) (by omega) (by omega)
 have hn5:=hO.no (k:=w2.heap.size) (by omega) (by omega)
 have HO:=Lh hO;have HT1:=Lh ht1;have HT2:=Lh ht2;clear hO ht1 ht2 hl4 hl5;go_wp2_with fail;refine Zw tch F (by kernel_rfl) (by kernel_rfl) (by kernel_rfl) (HO.out.heap H5.out H6.out) ?_
 refine Zi _ rfl (fun wz hw=>by have q0:wz.cell? ⟨w1.heap.size,0,none⟩=some (.string ⟨N1.toArray⟩):=(X6.out.keepX hw hn4).c 0;have q1:wz.cell? ⟨w1.heap.size,1,none⟩=some (.string ⟨D1.toArray⟩):=(X6.out.keepX hw hn4).c 1;go_simp;try with_reducible rfl) ?_
 simp only[Act.put,StT,StZ,StS,Nat.reduceAdd];refine Zi _ rfl (fun wz hw=>by have q0:wz.cell? ⟨w2.heap.size,0,none⟩=some (.string ⟨N2.toArray⟩):=(X5.out.keepX hw hn5).c 0;have q1:wz.cell? ⟨w2.heap.size,1,none⟩=some (.string ⟨D2.toArray⟩):=(X5.out.keepX hw hn5).c 1;go_simp;try with_reducible rfl) ?_
 simp only[Act.put,StT,StZ,StS,Nat.reduceAdd];refine ZO w.heap.size 0 #[.string ⟨#[]⟩,.string ⟨#[]⟩] [.string ⟨N1.toArray⟩,.string ⟨D1.toArray⟩] 34 HO.out.a1 (by rw[HT1.out];decide) (fun j oj hj=>Zq (l:=[2]) (by kernel_rfl) j oj (by rw[HT1.out] at hj;exact hj)) rfl (fun wz hw hc hf=>Zn 34 _ _ rfl w.heap.size 0 #[.string ⟨N1.toArray⟩,.string ⟨D1.toArray⟩] rfl rfl (fun j hj=>⟨by have hj:j<2:=hj;rw[hc,Array.getElem?_eq_getElem (by show 0+j<2;omega)];rfl,hf _⟩) HI.out (VK _ _)) ?_
 simp only[Act.put,Nat.reduceAdd];refine ZO (w.heap.size+1) 0 #[.string ⟨#[]⟩,.string ⟨#[]⟩] [.string ⟨N2.toArray⟩,.string ⟨D2.toArray⟩] 34 (by show (if w.heap.size+1=w.heap.size then _ else F (w.heap.size+1))=_;rw[if_neg (by omega),HO.out.a2]) (by rw[HT2.out];decide) (fun j oj hj=>Zq (l:=[3]) (by kernel_rfl) j oj (by rw[HT2.out] at hj;exact hj)) rfl (fun wz hw hc hf=>Zn 34 _ _ rfl (w.heap.size+1) 0 #[.string ⟨N2.toArray⟩,.string ⟨D2.toArray⟩] rfl rfl (fun j hj=>⟨by have hj:j<2:=hj;rw[hc,Array.getElem?_eq_getElem (by show 0+j<2;omega)];rfl,hf _⟩) HI.out (VK _ _)) ?_
 simp only[Act.put,Nat.reduceAdd];refine ZY (fun w4 hF4=>?_)
 have h4:w4.heap[w.heap.size]?=some (.cells #[.string ⟨N1.toArray⟩,.string ⟨D1.toArray⟩] 34 (0,0)):=hF4.box w.heap.size _ (by show (if w.heap.size=w.heap.size+1 then _ else if w.heap.size=w.heap.size then _ else _)=_;rw[if_neg (by omega),if_pos rfl];rfl)
 have h5:w4.heap[w.heap.size+1]?=some (.cells #[.string ⟨N2.toArray⟩,.string ⟨D2.toArray⟩] 34 (0,0)):=hF4.box (w.heap.size+1) _ (if_pos rfl);have HB4:=Lh (hF4.below.lower HB3.out (HO.out.low (B:=w.heap.size) (by omega) (by omega)))
 have x4:=Z0.ofB h4;have x5:=Z0.ofB h5;have d0:=x4.c0;have d1:=x4.c1;have d2:=x5.c0;have d3:=x5.c1;clear hF4 h4 h5 x4 x5 X5 X6 HO H5 H6 HB3 hn4 hn5;go_wp2;refine bodyPost_ret (v:=.tuple #[.agg #[.string ⟨N1.toArray⟩,.string ⟨D1.toArray⟩],.agg #[.string ⟨N2.toArray⟩,.string ⟨D2.toArray⟩]]) (by simp[results,Tryz.results76,go_sem,d0,d1,d2,d3]) rfl ?_
 exact⟨rfl,HB4.out⟩
def Wj (x:Fp2):Bool:=decide (x.1=fN (fv x.1 x.2)/\x.2=fD (fv x.1 x.2))
theorem FH (args:Array Value) (w:World):(callFunc 157 args).run Tryz.prog w=.ok (.enter 157 args) w:=by kernel_rfl
theorem Zdg (x:Fp2) (h1:x.1.length<=99999) (h2:x.2.length<=99999):Ret 157 (#[.agg #[.string ⟨List.toArray x.1⟩,.string ⟨List.toArray x.2⟩]]++#[]) (.bool (!Wj x)):=fun w hG=>by
 have hb:=Zb w (.cells #[.string ⟨List.toArray x.1⟩,.string ⟨List.toArray x.2⟩] 34);have x1:=Z0.new w (.string ⟨List.toArray x.1⟩) (.string ⟨List.toArray x.2⟩) 34;have q0:=x1.c0;have q1:=x1.c1;show Calls Tryz.prog 157 #[.agg #[.string ⟨List.toArray x.1⟩,.string ⟨List.toArray x.2⟩]] w _
 by_cases g:x.1=fN (fv x.1 x.2)/\x.2=fD (fv x.1 x.2)
 ·have C1:=Lh (OA (l:=x.1) (l':=x.2) ⟨by omega,by omega,rfl⟩ (if_pos g))
  have HV:Hid ((!Wj x)=false):=by unfold Wj;show _=_;rw[Dt g];rfl
  generalize (!Wj x)=R at *;clear g h1 h2 x1;go_enter Tryz.func157,Tryz.ntmps157;go_wp2_with fail
  with_reducible refine (C1.out.of hG hb).mono ?_
  rintro e w2 ⟨rfl,hb2⟩;go_wp2;go_ret;exact⟨Ya HV.out.symm,bto hb hb2⟩
 ·have C1:=Lh (OA (l:=x.1) (l':=x.2) ⟨by omega,by omega,rfl⟩ (if_neg g))
  have HV:Hid ((!Wj x)=true):=by unfold Wj;show _=_;rw[Df g];rfl
  generalize (!Wj x)=R at *;clear g h1 h2 x1;go_enter Tryz.func157,Tryz.ntmps157;go_wp2_with fail
  with_reducible refine (C1.out.of hG hb).mono ?_
  rintro e w2 ⟨rfl,hb2⟩;go_wp2;go_ret;exact⟨Ya HV.out.symm,bto hb hb2⟩
theorem Cz {A:Option Addr} {rs:List Fp2} {n:Nat} (c:Nat) {w:World} (hG:ZQ w) (hn:rs.length=n) (hn2:n<=1000000000) (h:Po w A rs) (hl:∀x∈rs,x.1.length<=99999/\x.2.length<=99999) :
  Calls Tryz.prog 87 #[.slice A n c] w fun e w'=>e=.returned (.bool (!(rs.any fun x=>!Wj x)))/\Below w.heap.size w w':=by
 have C1:=Lh (Cv _ FH (fun x=>!Wj x) #[] A rs n c w hn hn2 h (fun x hx w' hb=>Zdg x (hl x hx).1 (hl x hx).2 w' (hG.below hb)))
 clear hn h hl;generalize (rs.any fun x=>!Wj x)=q at *
 go_enter Tryz.func87,Tryz.ntmps87;go_wp2_with fail
 with_reducible refine C1.out.mono ?_
 rintro e w2 ⟨rfl,hb⟩;clear C1;go_wp2;go_ret;exact⟨rfl,hb⟩
theorem FI (args:Array Value) (w:World):(callFunc 147 args).run Tryz.prog w=.ok (.enter 147 args) w:=by kernel_rfl
theorem cq1 (y:Sec) {b:Nat} {l:List UInt8} {w:World} (hl:w.cell? ⟨b,0,none⟩=some (.string ⟨l.toArray⟩)) :
  Calls Tryz.prog 147 (#[.agg #[.string ⟨y.n.toArray⟩,.string ⟨y.w1.toArray⟩,.string ⟨y.w2.toArray⟩,.string ⟨y.r1.toArray⟩,.string ⟨y.r2.toArray⟩,.string ⟨y.b1.toArray⟩,.string ⟨y.b2.toArray⟩,.string ⟨y.c1.toArray⟩,.string ⟨y.c2.toArray⟩]]++#[.pointer (some ⟨b,0,none⟩)]) w fun e w'=>e=.returned (.bool (y.n==l))/\Below w.heap.size w w':=by
 have hb:=Zb w (.cells #[.string ⟨y.n.toArray⟩,.string ⟨y.w1.toArray⟩,.string ⟨y.w2.toArray⟩,.string ⟨y.r1.toArray⟩,.string ⟨y.r2.toArray⟩,.string ⟨y.b1.toArray⟩,.string ⟨y.b2.toArray⟩,.string ⟨y.c1.toArray⟩,.string ⟨y.c2.toArray⟩] 231);have x1:=Blk.new w #[.string ⟨y.n.toArray⟩,.string ⟨y.w1.toArray⟩,.string ⟨y.w2.toArray⟩,.string ⟨y.r1.toArray⟩,.string ⟨y.r2.toArray⟩,.string ⟨y.b1.toArray⟩,.string ⟨y.b2.toArray⟩,.string ⟨y.c1.toArray⟩,.string ⟨y.c2.toArray⟩] 231;have q0:(w.alloc (.cells #[.string ⟨y.n.toArray⟩,.string ⟨y.w1.toArray⟩,.string ⟨y.w2.toArray⟩,.string ⟨y.r1.toArray⟩,.string ⟨y.r2.toArray⟩,.string ⟨y.b1.toArray⟩,.string ⟨y.b2.toArray⟩,.string ⟨y.c1.toArray⟩,.string ⟨y.c2.toArray⟩] 231)).cell? ⟨w.heap.size,0,none⟩=some (.string ⟨y.n.toArray⟩):=x1.c 0;have q1:=Qn hl hb;show Calls Tryz.prog 147 #[.agg #[.string ⟨y.n.toArray⟩,.string ⟨y.w1.toArray⟩,.string ⟨y.w2.toArray⟩,.string ⟨y.r1.toArray⟩,.string ⟨y.r2.toArray⟩,.string ⟨y.b1.toArray⟩,.string ⟨y.b2.toArray⟩,.string ⟨y.c1.toArray⟩,.string ⟨y.c2.toArray⟩],.pointer (some ⟨b,0,none⟩)] w _;clear x1 hl;go_enter Tryz.func147,Tryz.ntmps147;go_wp2_with fail;go_ret;exact⟨rfl,hb⟩
def FJ (x:Sec):Bool:=!([(x.w1,x.w2),(x.r1,x.r2),(x.b1,x.b2),(x.c1,x.c2)].any fun z=>!Wj z)
def Qf:List Sec->List Sec->Int
 | _,[]=>0
 | pre,x::r=>if Yv x.n=false then 23 else if (pre.any fun y=>y.n==x.n)=true then 5 else if FJ x=false then 1 else Qf (pre++[x]) r
def J7 (xs:List Sec):Bool:=decide (ZV (fun x=>fv x.w1 x.w2) xs=1)&&decide (ZV (fun x=>fv x.b1 x.b2) xs=1)
def Sr (xs:List Sec):Int:=if xs.length=0 then 11 else if 32<xs.length then 4 else if Qf [] xs≠0 then Qf [] xs else if J7 xs=true then 0 else 14
theorem FK {xs:List Sec} {k:Nat} {x:Sec} (h:xs[k]?=some x):Qf (xs.take k) (xs.drop k)=if Yv x.n=false then 23 else if ((xs.take k).any fun y=>y.n==x.n)=true then 5 else if FJ x=false then 1 else Qf (xs.take (k+1)) (xs.drop (k+1)):=by
 have hd:xs.drop k=x::xs.drop (k+1):=by
  obtain⟨hk2,rfl⟩:=Lg.1 h;exact List.drop_eq_getElem_cons hk2
 rw[hd,Qf,Xu h]
def WK (x:Sec):O5:=⟨x.n,⟨fv x.w1 x.w2,fv x.r1 x.r2,fv x.b1 x.b2,fv x.c1 x.c2⟩⟩
theorem PL {l l':List UInt8} (h:Wj (l,l')=true):l=fN (fv l l')/\l'=fD (fv l l'):=of_decide_eq_true h
theorem CH {x:Sec} (h:FJ x=true):x=raw (WK x):=by
 unfold FJ at h;have h1:∀z∈[(x.w1,x.w2),(x.r1,x.r2),(x.b1,x.b2),(x.c1,x.c2)],Wj z=true:=fun z hz=>by
  rw[Bool.not_eq_true',List.any_eq_false] at h
  have:=h z hz
  simpa using this
 obtain⟨a1,a2⟩:=PL (h1 (x.w1,x.w2) (by simp))
 obtain⟨a3,a4⟩:=PL (h1 (x.r1,x.r2) (by simp))
 obtain⟨a5,a6⟩:=PL (h1 (x.b1,x.b2) (by simp))
 obtain⟨a7,a8⟩:=PL (h1 (x.c1,x.c2) (by simp))
 cases x;simp only[raw,WK,Sec.mk.injEq];exact⟨trivial,a1,a2,a3,a4,a5,a6,a7,a8⟩
theorem MW:∀(xs pre:List Sec),Qf pre xs=0->xs=(xs.map WK).map raw/\∀x∈xs,Yv x.n=true
 | [],_,_=>⟨rfl,fun x hx=>by simp at hx⟩
 | x::r,pre,h=>by
  rw[Qf] at h
  by_cases h1:Yv x.n=false
  ·rw[if_pos h1] at h;cases h
  rw[if_neg h1] at h
  by_cases h2:(pre.any fun y=>y.n==x.n)=true
  ·rw[if_pos h2] at h;cases h
  rw[if_neg h2] at h
  by_cases h3:FJ x=false
  ·rw[if_pos h3] at h;cases h
  rw[if_neg h3] at h;obtain⟨i1,i2⟩:=MW r _ h;refine⟨?_,fun y hy=>?_⟩
  ·rw[List.map_cons,List.map_cons,<-CH (by simpa using h3),<-i1]
  ·rcases List.mem_cons.1 hy with rfl|hy
   ·simpa using h1
   ·exact i2 y hy
structure SmS (x:Sec):Prop where
 n:x.n.length<=20
 w1:x.w1.length<=12
 w2:x.w2.length<=12
 r1:x.r1.length<=12
 r2:x.r2.length<=12
 b1:x.b1.length<=12
 b2:x.b2.length<=12
 c1:x.c1.length<=12
 c2:x.c2.length<=12
theorem ZbU {x:Sec} (h:Pp x=false):SmS x:=by
 unfold Pp at h;rw[Bool.or_eq_false_iff] at h;obtain⟨h1,h2⟩:=h;have h3:∀z∈[(x.w1,x.w2),(x.r1,x.r2),(x.b1,x.b2),(x.c1,x.c2)],VD z=false:=fun z hz=>by
  rw[List.any_eq_false] at h2;simpa using h2 z hz
 have a1:=Qd (h3 (x.w1,x.w2) (by simp))
 have a2:=Qd (h3 (x.r1,x.r2) (by simp))
 have a3:=Qd (h3 (x.b1,x.b2) (by simp))
 have a4:=Qd (h3 (x.c1,x.c2) (by simp))
 have h4:=of_decide_eq_false h1;exact⟨by omega,a1.1,a1.2,a2.1,a2.2,a3.1,a3.2,a4.1,a4.2⟩
theorem MX {x:Sec} (h:SmS x):BdS 12 (WK x).q:=⟨NE h.w1 h.w2 (by decide),NE h.r1 h.r2 (by decide),NE h.b1 h.b2 (by decide),NE h.c1 h.c2 (by decide)⟩
theorem CJ {q:Rat} (h:fN q=fN (1:Rat)/\fD q=fD (1:Rat)):q=1:=by
 rw[<-PC q,h.1,h.2,PC]
theorem Hr {A:Option Addr} {xs:List Sec} {n:Nat} (c:Nat) {w:World} (hG:ZQ w) (hn:xs.length=n) (hn2:n<=1000000) (hc:n<=c) (h:Y7 w A xs) (hs:∀x∈xs,SmS x) :
  Calls Tryz.prog 72 #[.slice A n c] w fun e w'=>e=.returned (.int .i64 (Sr xs))/\Below w.heap.size w w':=by
 have HE:Hid (Sr xs=if n=0 then 11 else if 32<n then 4 else if Qf [] xs≠0 then Qf [] xs else if J7 xs=true then 0 else 14):=by unfold Sr;show _=_;rw[hn]
 have HX:=Lh h;have HS:=Lh hs;have HN:=Lh hn;generalize Sr xs=E at *;obtain⟨Z,hZ⟩:∃Z,Z=Qf [] xs:=⟨_,rfl⟩
 rw[<-hZ] at HE;have HZ:Hid (Z=Qf (xs.take 0) (xs.drop 0)):=hZ;have HZ0:=Lh hZ;clear h hs hn hZ
 by_cases h0:n=0
 ·subst h0;have HV:Hid (E=11):=HE.out;clear HE HZ HX HS HN;go_enter Tryz.func72,Tryz.ntmps72;go_wp2;go_ret;exact⟨ZH HV.out.symm,Below.refl _ _⟩
 have k1:decide (n=0)=false:=Df h0;have k2:decide ((n:Int)=0)=false:=Df (by omega)
 have k3:((n:Int)==0)=false:=by rw[Bn];omega
 have k4:(n==0)=false:=by rw[Bn];omega
 have HE1:=Lh (HE.out.trans (if_neg h0))
 by_cases h32:32<n
 ·have k5:decide (32<n)=true:=Dt h32;have k6:decide ((32:Int)<(n:Int))=true:=Dt (by omega)
  have HV:=Lh (HE1.out.trans (if_pos h32));clear HE HE1 HZ HX HS HN;go_enter Tryz.func72,Tryz.ntmps72;go_wp2;go_ret;exact⟨ZH HV.out.symm,Below.refl _ _⟩
 have k5:decide (32<n)=false:=Df h32;have k6:decide ((32:Int)<(n:Int))=false:=Df (by omega)
 have HE2:=Lh (HE1.out.trans (if_neg h32));clear HE HE1;go_enter Tryz.func72,Tryz.ntmps72;go_wp2_with fail;clear k1 k2 k3 k4 k5 k6
 go_loopw [13] (fun iv wr=>∃k:Nat,k<=n/\iv=.int .i64 (k:Int)/\Hid (Z=Qf (xs.take k) (xs.drop k))/\Below w.heap.size w wr) (fun iv _=>n-(intOf iv).toNat)
 case atStart=>exact⟨0,Nat.zero_le _,rfl,HZ,Below.refl _ _⟩
 case round=>
  clear HZ;obtain⟨k,hk,rfl,HZ,hb⟩:=hrel
  by_cases hlt:k<n
  rotate_left
  ·have e1:decide ((k:Int)<(n:Int))=false:=Df (by omega)
   have hz:Z=0:=by rw[HZ.out,List.drop_of_length_le (by rw[HN.out];omega)];rfl
   obtain⟨hr,hnm⟩:=MW xs [] (by rw[<-HZ0.out];exact hz)
   have hE3:E=if J7 xs=true then 0 else 14:=by
    have h2:=HE2.out;rw[hz] at h2;exact h2.trans (if_neg (by simp))
   have hln:(xs.map WK).length=n:=by rw[List.length_map];exact HN.out
   have hbd:∀y∈xs.map WK,BdS 12 y.q:=fun y hy=>by
    obtain⟨x,hx,rfl⟩:=List.mem_map.1 hy;exact MX (HS.out x hx)
   have S1:=Lh (fun w' (hb':Below w.heap.size w w')=>Zaw c (fun y=>y.q.w) 12 149 FD (hG.below hb') hln (by omega) (by rw[<-hr];exact HX.out.below hb') (fun y hy=>⟨(hbd y hy).1,ck2 (raw y)⟩) (by omega))
   have S2:=Lh (fun w' (hb':Below w.heap.size w w')=>Zaw c (fun y=>y.q.wb) 12 150 FE (hG.below hb') hln (by omega) (by rw[<-hr];exact HX.out.below hb') (fun y hy=>⟨(hbd y hy).2.2.1,ck3 (raw y)⟩) (by omega))
   have hb1:J7 xs=(decide (ZV (fun y=>y.q.w) (xs.map WK)=1)&&decide (ZV (fun y=>y.q.wb) (xs.map WK)=1)):=by
    unfold J7;rw[WH,WH];rfl
   rw[hb1] at hE3;have HE3:=Lh hE3;have A1:=Lh Zav;generalize ZV (fun y=>y.q.w) (xs.map WK)=s1 at *
   generalize ZV (fun y=>y.q.wb) (xs.map WK)=s2 at *
   have f1:=@CJ s1;have f2:=@CJ s2;have hsub1:s1=1->fN s1=fN 1/\fD s1=fD 1:=fun e=>by rw[e];exact⟨rfl,rfl⟩
   have hsub2:s2=1->fN s2=fN 1/\fD s2=fD 1:=fun e=>by rw[e];exact⟨rfl,rfl⟩
   generalize fN s1=N1 at *;generalize fD s1=D1 at *;generalize fN s2=N2 at *;generalize fD s2=D2 at *;generalize fN 1=N0 at *;generalize fD 1=D0 at *;have HF1:=Lh f1;have HF2:=Lh f2;have HG1:=Lh hsub1;have HG2:=Lh hsub2;clear hr hnm hE3 hln hbd hb1 HZ0 HZ hz HX HS HN f1 f2 hsub1 hsub2 HE2;go_wp2_with fail
   with_reducible refine (S1.out _ hb).mono ?_
   rintro e w1 ⟨rfl,hb1⟩;replace hb:=bto hb hb1;go_wp2_with fail
   with_reducible refine (A1.out.of hG hb).mono ?_
   rintro e w2 ⟨rfl,hb2⟩;replace hb:=bto hb hb2;clear hb1 hb2 S1
   by_cases gN:N1=N0
   rotate_left
   ·have HQ:Hid (E=14):=by
     show _=_;rw[HE3.out,Df (fun e=>gN (HG1.out e).1),Bool.false_and]
     rfl
    have e9:(N1==N0)=false:=by rw[Bn];exact gN
    clear HE3 HF1 HF2 HG1 HG2;go_wp2_with fail;go_ret;exact⟨ZH HQ.out.symm,hb⟩
   subst gN
   by_cases gD:D1=D0
   rotate_left
   ·have HQ:Hid (E=14):=by
     show _=_;rw[HE3.out,Df (fun e=>gD (HG1.out e).2),Bool.false_and]
     rfl
    have e9:(D1==D0)=false:=by rw[Bn];exact gD
    clear HE3 HF1 HF2 HG1 HG2;go_wp2_with fail;go_ret;exact⟨ZH HQ.out.symm,hb⟩
   subst gD;have hs1:s1=1:=HF1.out ⟨rfl,rfl⟩;rw[hs1,Dt rfl,Bool.true_and] at HE3;clear hs1 HF1 HG1;go_wp2_with fail
   with_reducible refine (S2.out _ hb).mono ?_
   rintro e w3 ⟨rfl,hb3⟩;replace hb:=bto hb hb3;go_wp2_with fail
   with_reducible refine (A1.out.of hG hb).mono ?_
   rintro e w4 ⟨rfl,hb4⟩;replace hb:=bto hb hb4;clear hb3 hb4 S2 A1
   by_cases gN:N2=N1
   rotate_left
   ·have HQ:Hid (E=14):=by
     show _=_;rw[HE3.out,Df (fun e=>gN (HG2.out e).1)]
     rfl
    have e9:(N2==N1)=false:=by rw[Bn];exact gN
    clear HE3 HF2 HG2;go_wp2_with fail;go_ret;exact⟨ZH HQ.out.symm,hb⟩
   subst gN
   by_cases gD:D2=D1
   rotate_left
   ·have HQ:Hid (E=14):=by
     show _=_;rw[HE3.out,Df (fun e=>gD (HG2.out e).2)]
     rfl
    have e9:(D2==D1)=false:=by rw[Bn];exact gD
    clear HE3 HF2 HG2;go_wp2_with fail;go_ret;exact⟨ZH HQ.out.symm,hb⟩
   subst gD;have HQ:Hid (E=0):=by
    show _=_;rw[HE3.out,Dt (HF2.out ⟨rfl,rfl⟩)];rfl
   clear HE3 HF2 HG2;go_wp2_with fail;go_ret;exact⟨ZH HQ.out.symm,hb⟩
  have e1:decide ((k:Int)<(n:Int))=true:=Dt (by omega)
  obtain⟨x,hx⟩:∃x,xs[k]?=some x:=⟨_,List.getElem?_eq_getElem (by rw[HN.out];omega)⟩
  obtain⟨b,o,rfl,hbs,p0,p1,p2,p3,p4,p5,p6,p7,p8⟩:=(HX.out.below hb) k x hx;have HV:=Lh (HZ.out.trans (FK hx));have hsx:=HS.out x (Lm hx);have hbA:=Zb wr (.cells #[.string ⟨x.n.toArray⟩,.string ⟨x.w1.toArray⟩,.string ⟨x.w2.toArray⟩,.string ⟨x.r1.toArray⟩,.string ⟨x.r2.toArray⟩,.string ⟨x.b1.toArray⟩,.string ⟨x.b2.toArray⟩,.string ⟨x.c1.toArray⟩,.string ⟨x.c2.toArray⟩] 231);have X1:=Lh (Blk.new wr #[.string ⟨x.n.toArray⟩,.string ⟨x.w1.toArray⟩,.string ⟨x.w2.toArray⟩,.string ⟨x.r1.toArray⟩,.string ⟨x.r2.toArray⟩,.string ⟨x.b1.toArray⟩,.string ⟨x.b2.toArray⟩,.string ⟨x.c1.toArray⟩,.string ⟨x.c2.toArray⟩] 231);have q0:(wr.alloc (.cells #[.string ⟨x.n.toArray⟩,.string ⟨x.w1.toArray⟩,.string ⟨x.w2.toArray⟩,.string ⟨x.r1.toArray⟩,.string ⟨x.r2.toArray⟩,.string ⟨x.b1.toArray⟩,.string ⟨x.b2.toArray⟩,.string ⟨x.c1.toArray⟩,.string ⟨x.c2.toArray⟩] 231)).cell? ⟨wr.heap.size,0,none⟩=some (.string ⟨x.n.toArray⟩):=X1.out.c 0;obtain⟨bx,hbx⟩:∃bx,bx=wr.heap.size:=⟨_,rfl⟩
  rw[<-hbx] at X1 q0;have HBX:=Lh hbx;replace hb:=bto hb hbA;have K1:=Lh (NG (l:=x.n) (by have:=hsx.n;omega))
  have HSX:=Lh hsx;have hkc:(k:Int)<=(c:Int):=by omega
  have hkn:=HN.out;have HKN:Hid ((xs.take k).length=k):=by show _=_;rw[List.length_take,hkn];omega
  clear hx hbA HZ hbx hsx hkn;go_wp2_with fail;rw[<-HBX.out]
  with_reducible refine (K1.out.of hG hb).mono ?_
  rintro e w1 ⟨rfl,hb1⟩;clear p0 p1 p2 p3 p4 p5 p6 p7 p8 q0 K1;replace X1:=Lh (X1.out.below hb1);replace hb:=bto hb hb1;clear hb1;cases g1:Yv x.n with
  | false=>
   have HQ:=Lh (HV.out.trans (if_pos g1));have HQ2:Hid (E=23):=by
    have h2:=HE2.out;rw[HQ.out] at h2;exact h2.trans (if_pos (by decide))
   clear g1 HV HQ HE2 X1;go_wp2;go_ret;exact⟨ZH HQ2.out.symm,hb⟩
  | true=>
  have HV1:=Lh (HV.out.trans (if_neg (by rw[g1];decide)))
  have KP:=Lh (ZaW _ FI (fun y=>y.n==x.n) #[.pointer (some ⟨bx,0,none⟩)] (some ⟨b,o,none⟩) (xs.take k) k c w1 HKN.out (by omega) ((HX.out.below hb).take k) (fun y _ w' hb'=>cq1 y ((X1.out.below hb').c 0)))
  clear g1 HV;go_wp2_with fail
  with_reducible refine KP.out.mono ?_
  rintro e w3 ⟨rfl,hb3⟩;replace X1:=Lh (X1.out.below hb3);replace hb:=bto hb hb3;clear hb3 KP;cases g2:((xs.take k).any fun y=>y.n==x.n) with
  | true=>
   have HQ:=Lh (HV1.out.trans (if_pos g2));have HQ2:Hid (E=5):=by
    have h2:=HE2.out;rw[HQ.out] at h2;exact h2.trans (if_pos (by decide))
   clear g2 HV1 HQ HE2 X1;go_wp2;go_ret;exact⟨ZH HQ2.out.symm,hb⟩
  | false=>
  have HV2:=Lh (HV1.out.trans (if_neg (by rw[g2];decide)))
  have Q1:=X1.out.c 1;have Q2:=X1.out.c 2;have Q3:=X1.out.c 3;have Q4:=X1.out.c 4;have Q5:=X1.out.c 5;have Q6:=X1.out.c 6;have Q7:=X1.out.c 7;have Q8:=X1.out.c 8;have hbA:=Zb w3 (.cells #[.string ⟨x.w1.toArray⟩,.string ⟨x.w2.toArray⟩,.string ⟨x.r1.toArray⟩,.string ⟨x.r2.toArray⟩,.string ⟨x.b1.toArray⟩,.string ⟨x.b2.toArray⟩,.string ⟨x.c1.toArray⟩,.string ⟨x.c2.toArray⟩] 34);have h2:=ZJ w3 (.cells #[.string ⟨x.w1.toArray⟩,.string ⟨x.w2.toArray⟩,.string ⟨x.r1.toArray⟩,.string ⟨x.r2.toArray⟩,.string ⟨x.b1.toArray⟩,.string ⟨x.b2.toArray⟩,.string ⟨x.c1.toArray⟩,.string ⟨x.c2.toArray⟩] 34);obtain⟨w4,hw4⟩:∃w4,w4=w3.alloc (.cells #[.string ⟨x.w1.toArray⟩,.string ⟨x.w2.toArray⟩,.string ⟨x.r1.toArray⟩,.string ⟨x.r2.toArray⟩,.string ⟨x.b1.toArray⟩,.string ⟨x.b2.toArray⟩,.string ⟨x.c1.toArray⟩,.string ⟨x.c2.toArray⟩] 34):=⟨_,rfl⟩
  rw[<-hw4] at hbA h2;have hat:Po w4 (some ⟨w3.heap.size,0,none⟩) [(x.w1,x.w2),(x.r1,x.r2),(x.b1,x.b2),(x.c1,x.c2)]:=fun i r hr=>by
   refine⟨_,_,rfl,(Ag.1 h2).1,?_⟩
   match i,hr with
   | 0,hr=>cases hr;exact⟨Zg h2 0,Zg h2 1⟩
   | 1,hr=>cases hr;exact⟨Zg h2 2,Zg h2 3⟩
   | 2,hr=>cases hr;exact⟨Zg h2 4,Zg h2 5⟩
   | 3,hr=>cases hr;exact⟨Zg h2 6,Zg h2 7⟩
   | i+4,hr=>cases hr
  have hsx:=HSX.out
  have KC:=Lh (Cz (n:=4) 4 (hG.below (bto hb hbA)) rfl (by decide) hat (fun z hz=>by
   have:=hsx.w1;have:=hsx.w2;have:=hsx.r1;have:=hsx.r2;have:=hsx.b1;have:=hsx.b2;have:=hsx.c1;have:=hsx.c2
   simp only[List.mem_cons,List.not_mem_nil,or_false] at hz
   rcases hz with rfl|rfl|rfl|rfl<;>exact⟨by dsimp only;omega,by dsimp only;omega⟩))
  have HW4:=Lh hw4;have HC:Hid ((!([(x.w1,x.w2),(x.r1,x.r2),(x.b1,x.b2),(x.c1,x.c2)].any fun z=>!Wj z))=FJ x):=rfl
  replace hb:=bto hb hbA;generalize (!([(x.w1,x.w2),(x.r1,x.r2),(x.b1,x.b2),(x.c1,x.c2)].any fun z=>!Wj z))=cb at *
  clear g2 HV1 X1 hbA h2 hw4 hat hsx;go_wp2_with fail;rw[<-HW4.out]
  with_reducible refine KC.out.mono ?_
  rintro e w5 ⟨rfl,hb5⟩;replace hb:=bto hb hb5;clear hb5 KC HW4 Q1 Q2 Q3 Q4 Q5 Q6 Q7 Q8;cases cb with
  | false=>
   have HQ:=Lh (HV2.out.trans (if_pos HC.out.symm));have HQ2:Hid (E=1):=by
    have h2:=HE2.out;rw[HQ.out] at h2;exact h2.trans (if_pos (by decide))
   clear HC HV2 HQ HE2;go_wp2;go_ret;exact⟨ZH HQ2.out.symm,hb⟩
  | true=>
   have HQ:=Lh (HV2.out.trans (if_neg (by rw[<-HC.out];decide)))
   clear HC HV2;go_wp2;go_roundw
   case rel=>exact⟨k+1,by omega,by go_num,HQ,hb⟩
   case measure=>simp[intOf];omega
theorem PM {α:Type} (cs:α->List Value) (m:Nat) (hm:∀x,(cs x).length=m):∀{xs:List α} {i:Nat} {x:α},xs[i]?=some x->∀j,j<m->(xs.flatMap cs)[i*m+j]?=(cs x)[j]?
 | [],i,x,h=>by simp at h
 | y::xs,0,x,h=>by
  have:y=x:=by simpa using h
  subst this;intro j hj;rw[List.flatMap_cons,Nat.zero_mul,Nat.zero_add,List.getElem?_append_left (by rw[hm];exact hj)]
 | y::xs,i+1,x,h=>by
  intro j hj;have h1:=PM cs m hm (xs:=xs) (i:=i) (x:=x) (by simpa using h) j hj
  rw[List.flatMap_cons,List.getElem?_append_right (by rw[hm,Nat.succ_mul];omega),hm,show (i+1)*m+j-m=i*m+j by rw[Nat.succ_mul];omega]
  exact h1
theorem Hs {α:Type} (cs:α->List Value) (m:Nat) (hm:∀x,(cs x).length=m) {w:World} {B n:Nat} {ty:TypeId} {v:Value} {xs:List α} (h:w.ownsRow B ty m v n (xs.flatMap cs)) (hn:xs.length=n) {i:Nat} {x:α} (hx:xs[i]?=some x) :
  ∃g c,v=.slice (some ⟨g,0,none⟩) n c/\B<=g/\g<w.heap.size/\n<=c/\∀j,j<m->w.cell? ⟨g,i*m+j,none⟩=(cs x)[j]?:=by
 have hi:=(Lg.1 hx).1;rcases h.2 with ⟨-,h0⟩|⟨g,cap,cur,e,hb,hg,hc,-,hs,ht⟩
 ·omega
 ·refine⟨g,cap,e,hb,(Ag.1 hg).1,hc,fun j hj=>?_⟩
  have hlt:i*m+j<n*m:=by
   have:(i+1)*m<=n*m:=Nat.mul_le_mul_right m (by omega)
   rw[Nat.succ_mul] at this;omega
  rw[Zg hg,<-Array.getElem?_toList,<-PM cs m hm hx j hj,<-ht,List.getElem?_take,if_pos hlt]
theorem N7 {w:World} {B n m:Nat} {ty:TypeId} {v:Value} {cs:List Value} (h:w.ownsRow B ty m v n cs):∃A c,v=.slice A n c:=by
 rcases h.2 with ⟨e,h0⟩|⟨g,cap,cur,e,-⟩
 ·exact⟨none,0,by rw[e,h0]⟩
 ·exact⟨_,_,e⟩
theorem CO:(Tryz.prog.info? 9).map (fun i=>(i.zero,i.size,i.bytes))=some (some (.string ⟨#[]⟩),1,16):=by kernel_rfl
def ncs (l:List UInt8):List Value:=[.string ⟨l.toArray⟩]
def nmS (xs:List Sec):List (List UInt8):=xs.map (·.n)
theorem CQ {A:Option Addr} {xs:List Sec} {n:Nat} (c:Nat) {w:World} (hn:xs.length=n) (hn2:n<=1000) (h:Y7 w A xs) :
  Calls Tryz.prog 74 #[.slice A n c] w fun e w'=>∃A1 c1,e=.returned (.slice A1 n c1)/\U0 w' A1 (nmS xs)/\Below w.heap.size w w':=by
 have HX:=Lh h;have HN:=Lh hn;obtain⟨B,hB⟩:∃B,B=w.heap.size:=⟨_,rfl⟩
 have HBE:=Lh hB;have HO0:Hid (w.ownsRow B 9 1 (.slice none 0 0) 0 (((nmS xs).take 0).flatMap ncs)):=World.ownsRow_nil w B 9 1;clear h hn hB;go_enter Tryz.func74,Tryz.ntmps74;go_wp2_with fail
 go_loopw [3,8] (fun qv iv wr=>∃(k:Nat) (v:Value),k<=n/\v=qv/\iv=.int .i64 (k:Int)/\Hid (wr.ownsRow B 9 1 v k (((nmS xs).take k).flatMap ncs))/\Hid (Below w.heap.size w wr)) (fun _ iv _=>n-(intOf iv).toNat)
 case atStart=>exact⟨0,_,Nat.zero_le _,rfl,rfl,HO0.out,Below.refl _ _⟩
 case round=>
  clear HO0;obtain⟨k,v,hk,rfl,rfl,HO,HB⟩:=hrel
  by_cases hlt:k<n
  rotate_left
  ·have e1:decide ((k:Int)<(n:Int))=false:=Df (by omega)
   have hkn:k=n:=by omega
   subst hkn;have hl:(nmS xs).length=k:=by unfold nmS;rw[List.length_map];exact HN.out
   have hown:wr.ownsRow B 9 1 v k ((nmS xs).flatMap ncs):=by
    have h:=HO.out
    rwa [List.take_of_length_le (by omega)] at h
   obtain⟨A1,c1,hv⟩:=N7 hown;subst hv;have hat:U0 wr A1 (nmS xs):=fun i r hr=>by
    obtain⟨g,c2,hg,-,hgl,-,hgc⟩:=Hs ncs 1 (fun _=>rfl) hown hl hr
    injection hg with hg1 hg2 hg3
    subst hg1;have h0:=hgc 0 (by decide)
    rw[Nat.mul_one,Nat.add_zero] at h0;exact⟨g,0,rfl,hgl,by rw[Nat.zero_add];exact h0⟩
   have HAT:=Lh hat;clear hat hown hl HO;go_wp2;go_ret;exact⟨_,_,rfl,HAT.out,HB.out⟩
  have e1:decide ((k:Int)<(n:Int))=true:=Dt (by omega)
  obtain⟨x,hx⟩:∃x,xs[k]?=some x:=⟨_,List.getElem?_eq_getElem (by rw[HN.out];omega)⟩
  obtain⟨b,o,rfl,hbs,p0,p1,p2,p3,p4,p5,p6,p7,p8⟩:=(HX.out.below HB.out) k x hx;have HTK:Hid ((nmS xs).take (k+1)=(nmS xs).take k++[x.n]):=Xu (by unfold nmS;rw[List.getElem?_map,hx];rfl)
  obtain⟨a1,a2,a3,a4⟩:=Xi wr (.cells #[.string ⟨x.n.toArray⟩,.string ⟨x.w1.toArray⟩,.string ⟨x.w2.toArray⟩,.string ⟨x.r1.toArray⟩,.string ⟨x.r2.toArray⟩,.string ⟨x.b1.toArray⟩,.string ⟨x.b2.toArray⟩,.string ⟨x.c1.toArray⟩,.string ⟨x.c2.toArray⟩] 231) (.cells #[.string ⟨x.n.toArray⟩] 9);obtain⟨W7,hW7⟩:∃W7,W7=(wr.alloc (.cells #[.string ⟨x.n.toArray⟩,.string ⟨x.w1.toArray⟩,.string ⟨x.w2.toArray⟩,.string ⟨x.r1.toArray⟩,.string ⟨x.r2.toArray⟩,.string ⟨x.b1.toArray⟩,.string ⟨x.b2.toArray⟩,.string ⟨x.c1.toArray⟩,.string ⟨x.c2.toArray⟩] 231)).alloc (.cells #[.string ⟨x.n.toArray⟩] 9):=⟨_,rfl⟩
  have HO7:Hid (W7.ownsRow B 9 1 v k (((nmS xs).take k).flatMap ncs)):=by rw[hW7];exact ZN HO.out a3
  rw[<-hW7] at a1 a2 a3 a4;have HA2:=Lh a2;have HB7:=Lh (bto HB.out a3);have HZ7:Hid (B<=W7.heap.size):=by show _<=_;have:=HBE.out;have:=HB.out.size;have:=a3.size;omega
  have HW7:=Lh hW7;obtain⟨i0,hi,hz0,hz1,hz2⟩:=info_parts CO;have HII:=Lh (And.intro hi (And.intro hz0 (And.intro hz1 hz2)));clear a1 a2 a3 a4 hW7 hi hz0 hz1 hz2 hx HO;go_wp2_with (at_builtin;rw[<-HW7.out];refine ZS rfl _ _ 147 rfl B 9 i0 (.string ⟨#[]⟩) 1 16 Tryz.underlying147 HII.out.1 HII.out.2.1 HII.out.2.2.1 HII.out.2.2.2 rfl (by decide) _ _ _ rfl HO7.out ⟨wr.heap.size+1,0,none⟩ 1 1 (ncs x.n) rfl rfl ?c1 ?c2 ?c3 ?c4 ?c5 ?_)
  case c1=>
   intro j u hu;rw[Lib.add_plain];show W7.cell? ⟨wr.heap.size+1,0+j,none⟩=some u;rw[Nat.zero_add,Zg HA2.out j,<-hu];show (List.toArray (ncs x.n))[j]?=_;rw[List.getElem?_toArray]
  case c2=>
   intro u hu;simp only[ncs,List.mem_cons,List.not_mem_nil,or_false] at hu;rw[hu];rfl
  case c3=>unfold maxLen;omega
  case c4=>omega
  case c5=>exact HZ7.out
  intro v' w8 hown hgrow hfresh;have HO8:Hid (w8.ownsRow B 9 1 v' (k+1) (((nmS xs).take (k+1)).flatMap ncs)):=by
   show World.ownsRow _ _ _ _ _ _ _;rw[HTK.out,List.flatMap_append];simpa using hown
  have HB8:Hid (Below w.heap.size w w8):=HB7.out.grown hgrow HB7.out.size (fun g hg=>by have:=(World.ownsRow.lt HO7.out g hg).1;have:=HBE.out;omega)
  clear hown hgrow hfresh HO7 HA2 HB7 HZ7 HW7 HII HTK p0 p1 p2 p3 p4 p5 p6 p7 p8 HB;go_wp2;go_roundw
  case rel=>exact⟨k+1,v',by omega,rfl,by go_num,HO8.out,HB8.out⟩
  case measure=>simp[intOf];omega
theorem CU {xs ys:List (List UInt8)} {k:Nat} {x y:List UInt8} (hx:xs[k]?=some x) (hy:ys[k]?=some y):(xs.drop k==ys.drop k)=(x==y&&xs.drop (k+1)==ys.drop (k+1)):=by
 obtain⟨h1,rfl⟩:=Lg.1 hx;obtain⟨h2,rfl⟩:=Lg.1 hy;rw[List.drop_eq_getElem_cons h1,List.drop_eq_getElem_cons h2];rfl
theorem ZcK {A B:Option Addr} {xs ys:List (List UInt8)} {n m:Nat} (c c':Nat) {w:World} (hn:xs.length=n) (hm:ys.length=m) (hn2:n<=1000000000) (hm2:m<=1000000000) (h:U0 w A xs) (h':U0 w B ys) :
  Calls Tryz.prog 73 #[.slice A n c,.slice B m c'] w fun e w'=>e=.returned (.bool (xs==ys))/\Below w.heap.size w w':=by
 by_cases hnm:n=m
 rotate_left
 ·have HV:Hid ((xs==ys)=false):=by show _=_;rw[Bn];intro e;rw[e] at hn;omega
  have e1:((n:Int)==(m:Int))=false:=Jj (by omega)
  have e2:=QQ e1;rw[HV.out];clear h h' hn hm hnm;go_enter Tryz.func73,Tryz.ntmps73;go_wp2;go_ret;exact⟨rfl,Below.refl _ _⟩
 subst hnm;have H1:=Lh h;have H2:=Lh h';have hn1:xs.length<=n:=by omega
 have hn3:n<=xs.length:=by omega
 have hm1:ys.length<=n:=by omega
 have hm3:n<=ys.length:=by omega
 obtain⟨Z,hZ⟩:∃Z,Z=(xs==ys):=⟨_,rfl⟩
 rw[<-hZ];have HZ:Hid (Z=(xs.drop 0==ys.drop 0)):=hZ;clear h h' hn hm hZ;go_enter Tryz.func73,Tryz.ntmps73;go_wp2_with fail
 go_loopw [13] (fun iv wr=>∃k:Nat,k<=n/\iv=.int .i64 (k:Int)/\Hid (Z=(xs.drop k==ys.drop k))/\Below w.heap.size w wr) (fun iv _=>n-(intOf iv).toNat)
 case atStart=>exact⟨0,Nat.zero_le _,rfl,HZ,Below.refl _ _⟩
 case round=>
  clear HZ;obtain⟨k,hk,rfl,HK,hb⟩:=hrel
  by_cases hlt:k<n
  ·obtain⟨x,hx⟩:∃x,xs[k]?=some x:=⟨_,List.getElem?_eq_getElem (by omega)⟩
   obtain⟨y,hy⟩:∃y,ys[k]?=some y:=⟨_,List.getElem?_eq_getElem (by omega)⟩
   obtain⟨b,o,rfl,hbs,hcx⟩:=(H1.out.below hb) k x hx;obtain⟨b',o',rfl,hds,hcy⟩:=(H2.out.below hb) k y hy;have HD:=Lh (HK.out.trans (CU hx hy));have e1:decide ((k:Int)<(n:Int))=true:=Dt (by omega)
   have e8:=Tn x y;clear hx hy HK;go_wp2_with fail;refine Zt (by kernel_rfl) (by kernel_rfl) ?_
   iterate 3
    refine Zd _ (fun _=>rfl) (fun ρ w hw=>by go_simp;try with_reducible rfl) ?_
    simp only[Act.put,StT,StZ,StS,Nat.reduceAdd]
   refine Zd _ (fun _=>rfl) (fun ρ w hw=>by have q0:=(hw.cell (p:=⟨b,_,none⟩) hbs).trans hcx;go_simp;try with_reducible rfl) ?_
   iterate 3
    simp only[Act.put,StT,StZ,StS,Nat.reduceAdd];refine Zd _ (fun _=>rfl) (fun ρ w hw=>by go_simp;try with_reducible rfl) ?_
   simp only[Act.put,StT,StZ,StS,Nat.reduceAdd];refine Zd _ (fun _=>rfl) (fun ρ w hw=>by have q0:=(hw.cell (p:=⟨b',_,none⟩) hds).trans hcy;go_simp;try with_reducible rfl) ?_
   simp only[Act.put,StT,StZ,StS,Nat.reduceAdd];refine Zd _ (fun _=>rfl) (fun ρ w hw=>by go_simp;try with_reducible rfl) ?_
   simp only[Act.put,StT,StZ,StS,Nat.reduceAdd];refine Ye (fun ρ w4 hF=>?_)
   have hb4:=bto hb hF.below;clear hF hb hcx hcy;obtain⟨bv,hbv⟩:∃bv,bv = !(x==y):=⟨_,rfl⟩
   rw[<-hbv];have HBV:=Lh hbv;clear hbv e8;cases bv with
   | false=>
    have HZ2:Hid (Z=(xs.drop (k+1)==ys.drop (k+1))):=by
     have h:=HBV.out;show _=_;rw[HD.out];cases hxy:(x==y) with
     | false=>rw[hxy] at h;cases h
     | true=>rfl
    clear HD HBV;go_wp2;go_roundw
    case rel=>exact⟨k+1,by omega,by go_num,HZ2,hb4⟩
    case measure=>simp[intOf];omega
   | true=>
    have HZ2:Hid (Z=false):=by
     have h:=HBV.out;show _=_;rw[HD.out];cases hxy:(x==y) with
     | false=>rfl
     | true=>rw[hxy] at h;cases h
    clear HD HBV;go_wp2;go_ret;exact⟨Ya HZ2.out.symm,hb4⟩
  ·have e1:decide ((k:Int)<(n:Int))=false:=Df (by omega)
   have HZ2:Hid (Z=true):=by show _=_;rw[HK.out,List.drop_of_length_le (by omega),List.drop_of_length_le (by omega)];rfl
   clear HK;go_wp2;go_ret;exact⟨Ya HZ2.out.symm,hb⟩
end Go.Proofs.YtpieeldbamklkaaGreatDoor
