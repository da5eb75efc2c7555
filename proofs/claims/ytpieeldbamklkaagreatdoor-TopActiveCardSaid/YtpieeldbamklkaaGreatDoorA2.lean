/- Texts put together: Te Tf Oa Ob Sa Od Dp Da Oe Of Og Bx Bt. -/
import Derived.Test.YtpieeldbamklkaaGreatDoorA1
import Derived.Test.YtpieeldbamklkaaGreatDoorABe
import Derived.RangeFuncBox
import Derived.OwnWalkIn
import Derived.MapKept
import Derived.Maps.OwnOps
import Derived.Shelf.Strings.Cut
import Derived.Shelf.Strings.Prefix
import Derived.Shelf.Strconv.AtoiAll
set_option maxHeartbeats 4000000
set_option maxRecDepth 100000
namespace Go.Proofs.YtpieeldbamklkaaGreatDoor
open Go.RowKit Go.Shelf Num
attribute [local go_sem] Oper.semAt_some
structure VS (w:World) (R:Loop) (o d l M:Nat) (ys:List Rat) (W:World):Prop where
 below:Below w.heap.size w W
 loop:W.heap[l]?=some (.loop R)
 dfr:W.heap[d]?=some (.deferred (some []))
 res:Blk W w.heap.size #[.string ⟨#[]⟩,.string ⟨#[]⟩]
 out:Blk W o #[.string ⟨(fN (ZD 1 ys)).toArray⟩,.string ⟨(fD (ZD 1 ys)).toArray⟩]
 bd:∀q∈ys,Bd M q
section
variable {w W W':World} {R:Loop} {o d l M:Nat} {ys:List Rat}
theorem VS.mono (h:VS w R o d l M ys W) (hb:Below W.heap.size W W'):VS w R o d l M ys W':=
 ⟨bto h.below hb,(hb.block _ (Ag.1 h.loop).1).trans h.loop,(hb.block _ (Ag.1 h.dfr).1).trans h.dfr,h.res.below hb,h.out.below hb,h.bd⟩
theorem VS.done {R1 R2:Loop} (hR:R2=R) (hl:l≠d/\l≠o/\l≠w.heap.size/\w.heap.size<=l) (h:VS w R1 o d l M ys W):VS w R o d l M ys (W.putObj l (.loop R2)):=by
 subst hR;exact⟨Xb h.below hl.2.2.2,World.putObj_heap_same (Ag.1 h.loop).1,(World.putObj_heap_other (by omega)).trans h.dfr,h.res.putO (by omega),h.out.putO (by omega),h.bd⟩
theorem VS.step (h:VS w R o d l M ys W) {y:Rat} (hy:Bd M y) (hl:l≠o/\d≠o/\w.heap.size≠o/\w.heap.size<=o) :
  VS w R o d l M (ys++[y]) ((W.setCell ⟨o,0,none⟩ (.string ⟨(fN (ZD 1 ys*y)).toArray⟩)).setCell ⟨o,1,none⟩ (.string ⟨(fD (ZD 1 ys*y)).toArray⟩)):=by
 have e:=Jo ys 1 y;refine⟨(h.below.setCell (p:=⟨_,0,none⟩) hl.2.2.2 _).setCell (p:=⟨_,1,none⟩) hl.2.2.2 _,Xc (Xc h.loop hl.1) hl.1,Xc (Xc h.dfr hl.2.1) hl.2.1,(h.res.setO hl.2.2.1).setO hl.2.2.1,?_,?_⟩
 ·rw[e];exact h.out.set2 _ _
 ·intro q hq;rcases List.mem_append.1 hq with hq|hq
  ·exact h.bd q hq
  ·rw[List.mem_singleton.1 hq];exact hy
end
theorem NJ (gf:Nat) (lb:Array Value) (qs:List Rat) (M:Nat) (w:World) (hG:ZQ w) (hEn:∀args w,(callFunc gf args).run Tryz.prog w=.ok (.enter gf args) w) (hI:OB w gf lb qs M) (hM:1+M*qs.length+M<=90000) :
  Calls Tryz.prog 84 #[.func (.func gf) #[] lb] w fun e w'=>e=.returned (Value.agg #[Value.string ⟨List.toArray (fN (ZD 1 qs))⟩,Value.string ⟨List.toArray (fD (ZD 1 qs))⟩])/\Below w.heap.size w w':=by
 have c0:Ret 31 #[.string ⟨[49].toArray⟩] (Value.agg #[Value.string ⟨List.toArray (fN ((1:Rat)))⟩,Value.string ⟨List.toArray (fD ((1:Rat)))⟩]):=by have h:=rOf (l:=[49]) (by decide) (z:=1) (by decide);exact h
 have C0:=Lh c0;have HI:=Lh hI;have HE:=Lh hEn;have hb0:=Zb w (.cells #[.string ⟨#[]⟩,.string ⟨#[]⟩] 34);clear c0 hI hEn;refine (callsIn_wide (n:=5)).1 ?_;refine callsIn_of_wp_marks Tryz.func84 rfl trivial ?_ rfl;simp only[Tryz.ntmps84,List.size_toArray,List.length_cons,List.length_nil,Nat.reduceAdd,Nat.reduceSub,Array.replicate_succ,Array.replicate_zero,List.push_toArray,List.append_toArray,List.nil_append,List.cons_append]
 gi_wp2_with (refine⟨trivial,?_⟩;gi_at_call 31;(with_reducible refine (callsIn_wide.2 (C0.out.of hG hb0)).mono ?_);rintro e w3 ⟨rfl,hb3⟩)
 refine XW (gf:=gf) (lb:=lb) rfl HE.out ?_;intro fn R hR;have hs3:w.heap.size+1<=w3.heap.size:=by have:=hb3.size;simpa using this
 have y2:Blk w3 w.heap.size #[.string ⟨#[]⟩,.string ⟨#[]⟩]:=(Blk.new w _ 34).below hb3;obtain⟨W0,hW0⟩:∃W0,W0=w3.alloc (.cells #[.string ⟨(fN ((1:Rat))).toArray⟩,.string ⟨(fD ((1:Rat))).toArray⟩] 34):=⟨_,rfl⟩
 have hsz:W0.heap.size=w3.heap.size+1:=by rw[hW0];simp only[World.size_alloc]
 have hbA:Below w.heap.size w W0:=by rw[hW0];exact bto (bto hb0 hb3) (Zb _ _)
 have x2:Blk W0 w.heap.size #[.string ⟨#[]⟩,.string ⟨#[]⟩]:=by rw[hW0];exact y2.below (Zb _ _)
 have x3:Blk W0 w3.heap.size #[.string ⟨(fN (1:Rat)).toArray⟩,.string ⟨(fD (1:Rat)).toArray⟩]:=by rw[hW0];exact Blk.new _ _ _
 rw[<-hW0] at hR ⊢;clear hW0 y2;obtain⟨W1,hW1⟩:∃W1,W1=(W0.alloc (.deferred (some []))).alloc (.loop R):=⟨_,rfl⟩
 have hbB:Below W0.heap.size W0 W1:=by rw[hW1];exact bto (Zb _ _) (Zb _ _)
 have hD:W1.heap[W0.heap.size]?=some (.deferred (some [])):=by rw[hW1];exact (Below.heap_alloc _ _ _ (by simp)).trans (World.alloc_heap_new _ _)
 have hL:W1.heap[W0.heap.size+1]?=some (.loop R):=by
  rw[hW1]
  have:=World.alloc_heap_new (W0.alloc (.deferred (some []))) (.loop R)
  rwa [World.size_alloc] at this
 rw[<-hW1];obtain⟨l,hl⟩:∃l,l=W0.heap.size+1:=⟨_,rfl⟩
 obtain⟨d,hd⟩:∃d,d=W0.heap.size:=⟨_,rfl⟩
 obtain⟨o,ho⟩:∃o,o=w3.heap.size:=⟨_,rfl⟩
 rw[<-hl] at hL ⊢;rw[<-hd] at hD hR ⊢;rw[<-ho] at x3 hR;have hS0:VS w R o d l M [] W1:=⟨bto hbA hbB,hL,hD,x2.below hbB,x3.below hbB,fun q hq=>by cases hq⟩
 have n1:l≠d/\l≠o/\l≠w.heap.size/\w.heap.size<=l:=by omega
 have n2:l≠o/\d≠o/\w.heap.size≠o/\w.heap.size<=o:=by omega
 have n3:w.heap.size<=d/\d≠w.heap.size:=by omega
 (try rw[<-ho])
 clear hW1 hbB hD hL x2 x3 hbA hsz hl hd ho hs3 hb3 C0;have hY:∀ys y W,VS w R o d l M ys W->Bd M y->ys.length<qs.length->YieldAt Fence.wide (5-1-1) Tryz.prog l #[(Value.agg #[Value.string ⟨List.toArray (fN y)⟩,Value.string ⟨List.toArray (fD y)⟩])] W fun e W'=>e=.returned (.bool true)/\VS w R o d l M (ys++[y]) W':=by
  intro ys y W hS hyb hlen;have hy:=run_yield (P:=Tryz.prog) (args:=#[(Value.agg #[Value.string ⟨List.toArray (fN y)⟩,Value.string ⟨List.toArray (fD y)⟩])]) hS.loop (by rw[hR];rfl)
  refine⟨R.fn,_,R.assign,R.body,hy,roundIn_of_wpIn trivial ?_⟩;have hlW:=(Ag.1 hS.loop).1;have hSa:=hS.mono (Zb W (.cells #[.string ⟨(fN (y)).toArray⟩,.string ⟨(fD (y)).toArray⟩] 34));have hbr:=run_beginRound (P:=Tryz.prog) hSa.loop (by rw[hR])
  have hS1:VS w { R with state:=.busy } o d l M ys ((W.alloc (.cells #[.string ⟨(fN (y)).toArray⟩,.string ⟨(fD (y)).toArray⟩] 34)).putObj l (.loop { R with state:=.busy })):=VS.done rfl n1 hSa
  have x4:Blk ((W.alloc (.cells #[.string ⟨(fN (y)).toArray⟩,.string ⟨(fD (y)).toArray⟩] 34)).putObj l (.loop { R with state:=.busy })) W.heap.size #[.string ⟨(fN y).toArray⟩,.string ⟨(fD y).toArray⟩]:=(Blk.new W _ 34).putO (by omega)
  obtain⟨Wb,hWb⟩:∃Wb,Wb=(W.alloc (.cells #[.string ⟨(fN (y)).toArray⟩,.string ⟨(fD (y)).toArray⟩] 34)).putObj l (.loop { R with state:=.busy }):=⟨_,rfl⟩
  rw[<-hWb] at hbr hS1 x4;have hRe:({ { R with state:=.busy } with state:=.ready,pending:=none }:Loop)=R:=by rw[hR]
  obtain⟨R1,hR1⟩:∃R1,R1={ R with state:=.busy }:=⟨_,rfl⟩
  rw[<-hR1] at hS1 hRe;have hxb:Bd (1+M*ys.length) (ZD 1 ys):=UV ys YP hS1.bd;have hlen2:M*ys.length<=M*qs.length:=Nat.mul_le_mul_left M (by omega)
  have HS2:=Lh hS1;have HC:=Lh (Nm (Zs hxb (by omega)) (Zs hyb (by omega)) rfl)
  have HST:Hid (∀W',VS w R1 o d l M ys W'->VS w R1 o d l M (ys++[y]) ((W'.setCell ⟨o,0,none⟩ (.string ⟨(fN (ZD 1 ys*y)).toArray⟩)).setCell ⟨o,1,none⟩ (.string ⟨(fD (ZD 1 ys*y)).toArray⟩))):=fun W' h=>h.step hyb n2
  have HBr:=Lh hbr;have HRe:=Lh hRe;obtain⟨x,hx⟩:∃x,x=ZD 1 ys:=⟨_,rfl⟩
  obtain⟨z,hz⟩:∃z,z=ZD 1 ys*y:=⟨_,rfl⟩
  rw[<-hz] at HC HST;have q0:Wb.cell? ⟨o,0,none⟩=some (.string ⟨(fN x).toArray⟩):=by rw[hx];exact HS2.out.out.c 0
  have q1:Wb.cell? ⟨o,1,none⟩=some (.string ⟨(fD x).toArray⟩):=by rw[hx];exact HS2.out.out.c 1
  rw[<-hx] at HC;have p0:Wb.cell? ⟨W.heap.size,0,none⟩=some (.string ⟨(fN y).toArray⟩):=x4.c 0;have p1:Wb.cell? ⟨W.heap.size,1,none⟩=some (.string ⟨(fD y).toArray⟩):=x4.c 1;have hbW:=HS2.out.below;have HX:=Lh hx;clear hWb hbr hy hS hSa hlW hS1 hRe hR1 hxb hlen hlen2 hyb x4 hx hz hS0;rw[hR]
  gi_wp2
  refine⟨_,HBr.out,?_⟩
  gi_wp2_with fail
  refine⟨trivial,?_⟩;refine (CallsIn.inRound l (callsIn_wide.2 (HC.out.of hG hbW))).mono ?_;rintro e w4 ⟨rfl,hb4⟩;have HS4:=Lh (HS2.out.mono hb4);have HGO:=Lh (HST.out _ HS4.out);have hF:=HS4.out.out.box;have g0:=hF.c0;have g1:=hF.c1;have g2:=hF.f0;have g3:=hF.f1;rw[<-HX.out] at g0 g1;clear q0 q1 p0 p1 HC hbW HS2 HS4 hb4 hF HBr HST HX
  gi_wp2
  exact⟨_,_,run_endRound (P:=Tryz.prog) none HGO.out.loop,rfl,VS.done (HRe.out.trans hR) n1 HGO.out⟩
 have key:=HI.out (5-1) l (VS w R o d l M) (fun ys W h=>h.below) (fun ys W W' h hb=>h.mono hb) hY W1 hS0
 refine key.mono ?_;rintro e W2 ⟨hv,hS2⟩;refine⟨hv,hS2.loop,?_⟩;have hS3:VS w { R with state:=.exhausted } o d l M qs (W2.putObj l (.loop { R with state:=.exhausted })):=VS.done rfl n1 hS2
 obtain⟨W3,hW3⟩:∃W3,W3=W2.putObj l (.loop { R with state:=.exhausted }):=⟨_,rfl⟩
 rw[<-hW3] at hS3 ⊢;have hF:=hS3.out.box;have hH:=hS3.res.box;have q0:=hF.c0;have q1:=hF.c1;have g0:=hH.c0;have g1:=hH.c1;have g2:=hH.f0;have g3:=hH.f1;have hD5:=hS3.dfr;have hb5:=hS3.below;have HBk:=Lh (hS3.res.set2 (.string ⟨(fN (ZD 1 qs)).toArray⟩) (.string ⟨(fD (ZD 1 qs)).toArray⟩));clear hW3 hS3 key hY hS2 hS0 hv hF hH HI;obtain⟨q,hq⟩:∃q,q=ZD 1 qs:=⟨_,rfl⟩
 have HQ:=Lh hq;rw[<-hq] at q0 q1 HBk;clear hq
 gi_wp2
 have hD6:=Xc (i:=1) (u:=.string ⟨(fD q).toArray⟩) (Xc (i:=0) (u:=.string ⟨(fN q).toArray⟩) hD5 n3.2) n3.2;have hP:=HBk.out.putO (l:=d) (ob:=.deferred none) (by omega)
 have d0:=hP.c 0;have d1:=hP.c 1;refine⟨by simp,.inl ⟨_,_,rfl,run_takeDeferred hD6,?_⟩⟩
 refine⟨(Value.agg #[Value.string ⟨List.toArray (fN q)⟩,Value.string ⟨List.toArray (fD q)⟩]),by simp[results,Tryz.results84,go_sem,d0,d1],?_⟩
 exact⟨by rw[HQ.out],Xb (Zv hb5 (Nl _) _ _) n3.1⟩
theorem ZN {w w':World} {B k sz:Nat} {ty:TypeId} {v:Value} {cs:List Value} (h:w.ownsRow B ty sz v k cs) (hb:Below w.heap.size w w'):w'.ownsRow B ty sz v k cs:=by
 refine⟨h.1,?_⟩;rcases h.2 with h2|⟨g,cap,cur,e,hB,hg,r⟩
 ·exact .inl h2
 ·exact .inr ⟨g,cap,cur,e,hB,(hb.block g (Ag.1 hg).1).trans hg,r⟩
section
variable {w W W':World} {R:Loop} {d l:Nat} {ys:List Rat}
end
end Go.Proofs.YtpieeldbamklkaaGreatDoor
namespace Go.Proofs.YtpieeldbamklkaaGreatDoor
open Go.RowKit Num
section
variable {P:Program} {ops:Array Oper} {C:World->Prop} {Q:St->Bx->Prop} {rest:List Oper} {o:Oper} {i:Nat} {a:St} {B:Bx}
end
section
variable {l l':List UInt8}
theorem Um (hl:l.length<=100000000) (hl':l'.length<=100000000) {z:Int} (e:val l-val l'=z):Ret 22 #[.string ⟨l.toArray⟩,.string ⟨l'.toArray⟩] (.string ⟨(canon z).toArray⟩):=fun w hG=>by
 subst e;exact Ln l l' w hl hl' hG
end
structure QL (w:World) (A:Option Addr) (ts:List Pnt) (n:Nat):Prop where
 len:ts.length=n
 sm:n<=1000
 gap:n<=12∨400<n
 str:∀t∈ts,t.vl.length<=60/\t.fl.length<=60
 mem:NH w A ts
section
variable {w w':World} {A:Option Addr} {ts:List Pnt} {n:Nat}
theorem QL.below (h:QL w A ts n) (hb:Below w.heap.size w w'):QL w' A ts n:=⟨h.len,h.sm,h.gap,h.str,h.mem.below hb⟩
theorem QL.ok (h:QL w A ts n) (h0:X3 ts=0):1<=n/\n<=12/\Lx (pts ts)/\UpD none ts/\∀t∈ts,QR t:=by
 obtain⟨h1,h2,h3,h4,h5⟩:=AA h0
 have:=h.len
 have:=h.gap
 exact⟨by omega,by omega,h3,h4,h5⟩
theorem ET (hG:ZQ w) (h:QL w A ts n) (c:Nat):Ay w 40 #[.slice A n c] (.int .i64 (X3 ts)):=fun w' hb=>Az A ts n c w' (hG.below hb) h.len h.sm h.str (h.mem.below hb)
end
theorem EU (args:Array Value) (w:World):(callFunc 107 args).run Tryz.prog w=.ok (.enter 107 args) w:=by kernel_rfl
theorem EV {ts:List Pnt} (h:∀t∈ts,QR t) (hp:Lx (pts ts)) (hn:ts.length<=12):Bd 505 (ZD 1 (Wd (pts ts))):=by
 have h1:=UV (M:=42) (Wd (pts ts)) YP (IA hp h);rw[SN,Mx] at h1;exact YQ h1 (by omega)
theorem GJ {w:World} {B B' k sz:Nat} {ty:TypeId} {v:Value} {cs:List Value} (h:w.ownsRow B ty sz v k cs) (hb:B'<=B):w.ownsRow B' ty sz v k cs:=by
 refine⟨h.1,?_⟩;rcases h.2 with h2|⟨g,cap,cur,e,hB,r⟩
 ·exact .inl h2
 ·exact .inr ⟨g,cap,cur,e,Nt hb hB,r⟩
def EW (ts:List Pnt):Value:=if ¬X3 ts=0 then .tuple #[.agg #[.string ⟨#[]⟩,.string ⟨#[]⟩],.int .i64 1] else .tuple #[(Value.agg #[Value.string ⟨List.toArray (fN (ZD 1 (Wd (pts ts))-1))⟩,Value.string ⟨List.toArray (fD (ZD 1 (Wd (pts ts))-1))⟩]),.int .i64 0]
theorem EX {w:World} {A:Option Addr} {ts:List Pnt} {n:Nat} (hG:ZQ w) (h:QL w A ts n) (c:Nat):Ay w 42 #[.slice A n c] (EW ts):=fun w' hbw=>by
 replace hG:=hG.below hbw;replace h:=h.below hbw;clear hbw;have C1:=Lh (ET hG h c);have x2:=Z0.new w' (.string ⟨#[]⟩) (.string ⟨#[]⟩) 34;have hb:=Zb w' (.cells #[.string ⟨#[]⟩,.string ⟨#[]⟩] 34)
 by_cases g:X3 ts=0
 rotate_left
 ·have HV:Hid (EW ts=.tuple #[.agg #[.string ⟨#[]⟩,.string ⟨#[]⟩],.int .i64 1]):=if_pos g;have e1:(X3 ts != 0)=true:=QQ (Jj g);generalize X3 ts=E at *;clear g h;go_enter Tryz.func42,Tryz.ntmps42;go_wp2_with fail
  with_reducible refine (C1.out.of hG hb).mono ?_
  rintro e w1 ⟨rfl,hb1⟩;replace x2:=x2.below hb1;replace hb:=bto hb hb1;have g0:=x2.c0;have g1:=x2.c1;have g2:=x2.f0;have g3:=x2.f1;clear hb1;go_wp2;have hy:=x2.set (.string ⟨#[]⟩) (.string ⟨#[]⟩);have d0:=hy.c0;have d1:=hy.c1;refine bodyPost_ret (v:=.tuple #[.agg #[.string ⟨#[]⟩,.string ⟨#[]⟩],.int .i64 1]) (by simp[results,Tryz.results42,go_sem,d0,d1]) rfl ?_
  exact⟨by rw[HV.out],Zv hb (Nl _) _ _⟩
 have HV0:Hid (EW ts=.tuple #[(Value.agg #[Value.string ⟨List.toArray (fN (ZD 1 (Wd (pts ts))-1))⟩,Value.string ⟨List.toArray (fD (ZD 1 (Wd (pts ts))-1))⟩]),.int .i64 0]):=if_neg (fun h=>h g)
 obtain⟨h1,h12,hp,-,hok⟩:=h.ok g;rw[g] at C1;have HB:=Lh (EV hok hp (by rw[h.len];exact h12))
 have hfl:(Wd (pts ts)).length<=12:=by rw[SN,Mx,h.len];omega
 have CI:Hid (∀w1,Below w'.heap.size w' w1->OB (w1.alloc (.cells #[.slice A n c] 23)) 107 #[.pointer (some ⟨w1.heap.size,0,none⟩)] (Wd (pts ts)) 42):=fun w1 hb1=>
  ER w1.heap.size A ts n c _ (hG.below (bto hb1 (Zb _ _))) h.len h1 (by omega) hok hp (h.mem.below (bto hb1 (Zb _ _))) (Blk.new _ _ _)
 obtain⟨qs,hqs⟩:∃qs,qs=Wd (pts ts):=⟨_,rfl⟩
 rw[<-hqs] at HV0 HB CI hfl;have c0:Ret 31 #[.string ⟨[49].toArray⟩] (Value.agg #[Value.string ⟨List.toArray (fN ((1:Rat)))⟩,Value.string ⟨List.toArray (fD ((1:Rat)))⟩]):=by have h:=rOf (l:=[49]) (by decide) (z:=1) (by decide);exact h
 have C3:=Lh c0;have C4:=Lh (EE (Zs HB.out (by decide)) (Zs YP (by decide)) rfl)
 obtain⟨y,hy⟩:∃y,y=ZD 1 qs-1:=⟨_,rfl⟩
 have HV:=HV0;rw[<-hy] at C4 HV;clear g h h12 hok hp hqs c0 HV0 hy;go_enter Tryz.func42,Tryz.ntmps42;go_wp2_with fail
 with_reducible refine (C1.out.of hG hb).mono ?_
 rintro e w1 ⟨rfl,hb1⟩;replace x2:=x2.below hb1;replace hb:=bto hb hb1;clear hb1;go_wp2_with fail;refine (ES A n c _).mono ?_;rintro e w2 ⟨rfl,rfl⟩;have C2:=Lh (NJ 107 #[.pointer (some ⟨w1.heap.size,0,none⟩)] qs 42 (w1.alloc (.cells #[.slice A n c] 23)) (hG.below (bto hb (Zb _ _))) EU (CI.out w1 hb) (by omega))
 replace x2:=x2.below (Zb _ (.cells #[.slice A n c] 23));replace hb:=bto hb (Zb _ (.cells #[.slice A n c] 23));go_wp2_with fail;refine C2.out.mono ?_;rintro e w3 ⟨rfl,hb3⟩;replace x2:=x2.below hb3;replace hb:=bto hb hb3;clear hb3 C2 CI;go_wp2_with fail
 with_reducible refine (C3.out.of hG hb).mono ?_
 rintro e w4 ⟨rfl,hb4⟩;replace x2:=x2.below hb4;replace hb:=bto hb hb4;clear hb4;go_wp2_with fail
 with_reducible refine (C4.out.of hG hb).mono ?_
 rintro e w5 ⟨rfl,hb5⟩;replace x2:=x2.below hb5;replace hb:=bto hb hb5;have g0:=x2.c0;have g1:=x2.c1;have g2:=x2.f0;have g3:=x2.f1;clear hb5;go_wp2;have hy:=x2.set (.string ⟨(fN (y)).toArray⟩) (.string ⟨(fD (y)).toArray⟩);have d0:=hy.c0;have d1:=hy.c1;refine bodyPost_ret (v:=.tuple #[(Value.agg #[Value.string ⟨List.toArray (fN y)⟩,Value.string ⟨List.toArray (fD y)⟩]),.int .i64 0]) (by simp[results,Tryz.results42,go_sem,d0,d1]) rfl ?_
 exact⟨by rw[HV.out],Zv hb (Nl _) _ _⟩
structure Lot where
 id:List UInt8
 ins:List UInt8
 acq:Int
 opn:Int
 q:List UInt8
 cost:List UInt8
 used:List UInt8
 deriving DecidableEq
def Xh (w:World) (b:Nat) (x:Lot):Prop:=Blk w b #[Value.string ⟨x.id.toArray⟩,Value.string ⟨x.ins.toArray⟩,Value.int .i64 x.acq,Value.int .i64 x.opn,Value.string ⟨x.q.toArray⟩,Value.string ⟨x.cost.toArray⟩,Value.string ⟨x.used.toArray⟩]
section
variable {w w':World} {b:Nat} {x:Lot}
theorem Xh.new (w:World) (x:Lot) (t:TypeId):Xh (w.alloc (.cells #[Value.string ⟨x.id.toArray⟩,Value.string ⟨x.ins.toArray⟩,Value.int .i64 x.acq,Value.int .i64 x.opn,Value.string ⟨x.q.toArray⟩,Value.string ⟨x.cost.toArray⟩,Value.string ⟨x.used.toArray⟩] t)) w.heap.size x:=Blk.new w _ t
theorem Xh.below (h:Xh w b x) (hb:Below w.heap.size w w'):Xh w' b x:=Blk.below h hb
theorem Xh.c0 (h:Xh w b x):w.cell? ⟨b,0,none⟩=some (Value.string ⟨x.id.toArray⟩):=Blk.c h 0
theorem Xh.c1 (h:Xh w b x):w.cell? ⟨b,1,none⟩=some (Value.string ⟨x.ins.toArray⟩):=Blk.c h 1
theorem Xh.c2 (h:Xh w b x):w.cell? ⟨b,2,none⟩=some (Value.int .i64 x.acq):=Blk.c h 2
theorem Xh.c3 (h:Xh w b x):w.cell? ⟨b,3,none⟩=some (Value.int .i64 x.opn):=Blk.c h 3
theorem Xh.c4 (h:Xh w b x):w.cell? ⟨b,4,none⟩=some (Value.string ⟨x.q.toArray⟩):=Blk.c h 4
theorem Xh.c5 (h:Xh w b x):w.cell? ⟨b,5,none⟩=some (Value.string ⟨x.cost.toArray⟩):=Blk.c h 5
theorem Xh.c6 (h:Xh w b x):w.cell? ⟨b,6,none⟩=some (Value.string ⟨x.used.toArray⟩):=Blk.c h 6
end
structure OC (w:World) (b o:Nat) (x:Lot):Prop where
 c0:w.cell? ⟨b,o,none⟩=some (Value.string ⟨x.id.toArray⟩)
 c1:w.cell? ⟨b,o+1,none⟩=some (Value.string ⟨x.ins.toArray⟩)
 c2:w.cell? ⟨b,o+2,none⟩=some (Value.int .i64 x.acq)
 c3:w.cell? ⟨b,o+3,none⟩=some (Value.int .i64 x.opn)
 c4:w.cell? ⟨b,o+4,none⟩=some (Value.string ⟨x.q.toArray⟩)
 c5:w.cell? ⟨b,o+5,none⟩=some (Value.string ⟨x.cost.toArray⟩)
 c6:w.cell? ⟨b,o+6,none⟩=some (Value.string ⟨x.used.toArray⟩)
theorem OC.below {w w':World} {b o:Nat} {x:Lot} (h:OC w b o x) (ha:b<w.heap.size) (hb:Below w.heap.size w w'):OC w' b o x:=
 ⟨(hb.cell (p:=⟨b,o,none⟩) ha).trans h.c0,(hb.cell (p:=⟨b,o+1,none⟩) ha).trans h.c1,(hb.cell (p:=⟨b,o+2,none⟩) ha).trans h.c2,(hb.cell (p:=⟨b,o+3,none⟩) ha).trans h.c3,(hb.cell (p:=⟨b,o+4,none⟩) ha).trans h.c4,(hb.cell (p:=⟨b,o+5,none⟩) ha).trans h.c5,(hb.cell (p:=⟨b,o+6,none⟩) ha).trans h.c6⟩
def Vy (w:World) (A:Option Addr) (xs:List Lot):Prop:=∀(i:Nat) (x:Lot),xs[i]?=some x->∃b o,A=some ⟨b,o,none⟩/\b<w.heap.size/\OC w b (o+i*7) x
theorem Vy.below {w w':World} {A:Option Addr} {xs:List Lot} (h:Vy w A xs) (hb:Below w.heap.size w w'):Vy w' A xs:=fun i x hx=>by
 obtain⟨b,o,rfl,h1,h2⟩:=h i x hx;exact⟨b,o,rfl,Nat.lt_of_lt_of_le h1 hb.size,h2.below h1 hb⟩
def Yf (xs:List Lot):List Value:=xs.flatMap (fun x=>#[Value.string ⟨x.id.toArray⟩,Value.string ⟨x.ins.toArray⟩,Value.int .i64 x.acq,Value.int .i64 x.opn,Value.string ⟨x.q.toArray⟩,Value.string ⟨x.cost.toArray⟩,Value.string ⟨x.used.toArray⟩].toList)
section
variable {P:Program} {w:World} {mty kt et:TypeId} {kd:TypeDesc} {r clock:Nat} {es:Array MapEntry} {key val:Value}
theorem UW (hm:P.underlying mty=some (.map kt et)) (hk:P.underlying kt=some kd) (hkey:MapKept.IsKey kd key) (hb:w.heap[r]?=some (.map es clock)) (hf:Instr.findNow kd key es.toList 0=some none) :
  (Instr.mapUpdate mty (.map (some r)) key val).run P w=.ok () { w with heap:=w.heap.setIfInBounds r (.map (es.push { key,val,born:=clock }) (clock+1)) }:=by
 have hc:(Instr.checkKey false 10000 kt key).run P w=.ok () w:=MapKept.run_checkKey hk hkey false 9999;simp[Instr.mapUpdate,run_underlying hm,MapKept.run_getObj_map hb,hc,MapKept.run_findKey hk hf,MapKept.run_setObj_map _ hb,Result.andThen]
theorem Un (hm:P.underlying mty=some (.map kt et)) (hk:P.underlying kt=some kd) (hkey:MapKept.IsKey kd key) (hb:w.heap[r]?=some (.map es clock)) {i:Nat} {v:Value} (hf:Instr.findNow kd key es.toList 0=some (some (i,v))) (ok:Bool) :
  (Instr.lookup mty (.map (some r)) key ok).run P w=.ok (if ok then .tuple #[v,.bool true] else v) w:=by
 have hc:(Instr.checkKey es.isEmpty 10000 kt key).run P w=.ok () w:=MapKept.run_checkKey hk hkey _ 9999;cases ok<;>simp[Instr.lookup,run_underlying hm,MapKept.run_getObj_map hb,hc,MapKept.run_findKey hk hf,Result.andThen]
theorem TP (hm:P.underlying mty=some (.map kt et)) (hk:P.underlying kt=some kd) (hkey:MapKept.IsKey kd key) (hb:w.heap[r]?=some (.map es clock)) {z:Value} (hz:(zeroValue et).run P w=.ok z w) (hf:Instr.findNow kd key es.toList 0=some none) (ok:Bool) :
  (Instr.lookup mty (.map (some r)) key ok).run P w=.ok (if ok then .tuple #[z,.bool false] else z) w:=by
 have hc:(Instr.checkKey es.isEmpty 10000 kt key).run P w=.ok () w:=MapKept.run_checkKey hk hkey _ 9999;cases ok<;>simp[Instr.lookup,run_underlying hm,MapKept.run_getObj_map hb,hc,MapKept.run_findKey hk hf,hz,Result.andThen]
end
def UG:List (List UInt8)->Array MapEntry
 | l=>((l.zipIdx).map fun p=>({ key:=.string ⟨p.1.toArray⟩,val:=.bool true,born:=p.2 }:MapEntry)).toArray
theorem Jp (l:List (List UInt8)) (x:List UInt8):UG (l++[x])=(UG l).push { key:=.string ⟨x.toArray⟩,val:=.bool true,born:=l.length }:=by
 simp[UG,List.zipIdx_append]
theorem bytes_beq (x y:List UInt8):((⟨x.toArray⟩:ByteArray)==⟨y.toArray⟩)=(x==y):=by
 show (x.toArray==y.toArray)=(x==y);simp
theorem SO (x:List UInt8):∀(l:List (List UInt8)) (k i:Nat),Instr.findNow .string (.string ⟨x.toArray⟩) ((l.zipIdx k).map fun p=>({ key:=.string ⟨p.1.toArray⟩,val:=.bool true,born:=p.2 }:MapEntry)) i=some (if l.contains x then some (i+l.idxOf x,.bool true) else none)
 | [],_,_=>by simp[Instr.findNow]
 | y::l,k,i=>by
  have ih:=SO x l (k+1) (i+1);rw[List.zipIdx_cons,List.map_cons];unfold Instr.findNow
  by_cases h:x=y
  ·subst h;simp[Instr.sameNow,bytes_beq]
  ·have e1:=bytes_beq x y;have e2:(x==y)=false:=by simpa using h
   have e3:(y==x)=false:=by simpa using (fun g=>h g.symm)
   simp only[Instr.sameNow,e1,e2,ih,List.contains_cons,Bool.false_or,List.idxOf_cons,e3]
   split
   ·simp[Nat.add_assoc,Nat.add_comm 1]
   ·rfl
end Go.Proofs.YtpieeldbamklkaaGreatDoor
namespace Go.Proofs
open Go.Shelf
def Tryz.laysC172_ren:Go.Shelf.Ren:=⟨fun|172=>279|244=>312|245=>195|247=>330|279=>253|280=>254|281=>255|282=>256|287=>194|316=>299|171=>140|205=>300|321=>251|322=>252|243=>203|246=>267|283=>258|284=>259|285=>260|286=>261|129=>302|317=>301|318=>303|319=>304|320=>305|337=>326|338=>327|n=>n,fun|9=>9|3=>3|75=>209|76=>218|4=>4|5=>5|167=>327|37=>214|0=>0|85=>388|2=>2|168=>329|53=>207|175=>210|46=>283|210=>374|127=>289|145=>394|143=>392|21=>21|171=>334|173=>337|212=>378|51=>339|20=>20|213=>379|232=>410|233=>411|80=>222|n=>n,fun|15=>0|16=>1|17=>2|18=>6|19=>7|n=>n⟩
theorem Tryz.laysC172:Go.Proofs.LaysC.n172 Tryz.prog Tryz.laysC172_ren:={
 mixed:=by kernel_rfl
 f129:=Tryz.func302.trans (congrArg some (by kernel_rfl))
 f171:=Tryz.func140.trans (congrArg some (by kernel_rfl))
 f172:=Tryz.func279.trans (congrArg some (by kernel_rfl))
 f205:=Tryz.func300.trans (congrArg some (by kernel_rfl))
 f243:=Tryz.func203.trans (congrArg some (by kernel_rfl))
 f244:=Tryz.func312.trans (congrArg some (by kernel_rfl))
 f245:=Tryz.func195.trans (congrArg some (by kernel_rfl))
 f246:=Tryz.func267.trans (congrArg some (by kernel_rfl))
 f247:=Tryz.func330.trans (congrArg some (by kernel_rfl))
 f279:=Tryz.func253.trans (congrArg some (by kernel_rfl))
 f280:=Tryz.func254.trans (congrArg some (by kernel_rfl))
 f281:=Tryz.func255.trans (congrArg some (by kernel_rfl))
 f282:=Tryz.func256.trans (congrArg some (by kernel_rfl))
 f283:=Tryz.func258.trans (congrArg some (by kernel_rfl))
 f284:=Tryz.func259.trans (congrArg some (by kernel_rfl))
 f285:=Tryz.func260.trans (congrArg some (by kernel_rfl))
 f286:=Tryz.func261.trans (congrArg some (by kernel_rfl))
 f287:=Tryz.func194.trans (congrArg some (by kernel_rfl))
 f316:=Tryz.func299.trans (congrArg some (by kernel_rfl))
 f317:=Tryz.func301.trans (congrArg some (by kernel_rfl))
 f318:=Tryz.func303.trans (congrArg some (by kernel_rfl))
 f319:=Tryz.func304.trans (congrArg some (by kernel_rfl))
 f320:=Tryz.func305.trans (congrArg some (by kernel_rfl))
 f321:=Tryz.func251.trans (congrArg some (by kernel_rfl))
 f322:=Tryz.func252.trans (congrArg some (by kernel_rfl))
 f337:=Tryz.func326.trans (congrArg some (by kernel_rfl))
 f338:=Tryz.func327.trans (congrArg some (by kernel_rfl))
 t0:=Tryz.underlying0
 a0:=Tryz.isAgg0
 z0:=Tryz.sizeOf0
 v0:=Tryz.zeroValue0
 t2:=Tryz.underlying2
 a2:=Tryz.isAgg2
 z2:=Tryz.sizeOf2
 v2:=Tryz.zeroValue2
 t3:=Tryz.underlying3
 a3:=Tryz.isAgg3
 z3:=Tryz.sizeOf3
 v3:=Tryz.zeroValue3
 t4:=Tryz.underlying4
 a4:=Tryz.isAgg4
 z4:=Tryz.sizeOf4
 v4:=Tryz.zeroValue4
 t5:=Tryz.underlying5
 a5:=Tryz.isAgg5
 z5:=Tryz.sizeOf5
 v5:=Tryz.zeroValue5
 t9:=Tryz.underlying9
 a9:=Tryz.isAgg9
 z9:=Tryz.sizeOf9
 v9:=Tryz.zeroValue9
 t20:=Tryz.underlying20
 a20:=Tryz.isAgg20
 z20:=Tryz.sizeOf20
 v20:=Tryz.zeroValue20
 t21:=Tryz.underlying21
 a21:=Tryz.isAgg21
 z21:=Tryz.sizeOf21
 v21:=Tryz.zeroValue21
 t37:=Tryz.underlying214
 a37:=Tryz.isAgg214
 z37:=Tryz.sizeOf214
 v37:=Tryz.zeroValue214
 t46:=Tryz.underlying283
 a46:=Tryz.isAgg283
 z46:=Tryz.sizeOf283
 v46:=Tryz.zeroValue283
 t51:=Tryz.underlying339
 a51:=Tryz.isAgg339
 z51:=Tryz.sizeOf339
 v51:=Tryz.zeroValue339
 t53:=Tryz.underlying207
 a53:=Tryz.isAgg207
 z53:=Tryz.sizeOf207
 v53:=Tryz.zeroValue207
 t75:=Tryz.underlying209
 a75:=Tryz.isAgg209
 z75:=Tryz.sizeOf209
 v75:=Tryz.zeroValue209
 t76:=Tryz.underlying218
 a76:=Tryz.isAgg218
 z76:=Tryz.sizeOf218
 v76:=Tryz.zeroValue218
 t85:=Tryz.underlying388
 a85:=Tryz.isAgg388
 z85:=Tryz.sizeOf388
 v85:=Tryz.zeroValue388
 t127:=Tryz.underlying289
 a127:=Tryz.isAgg289
 z127:=Tryz.sizeOf289
 v127:=Tryz.zeroValue289
 t143:=Tryz.underlying392
 a143:=Tryz.isAgg392
 z143:=Tryz.sizeOf392
 v143:=Tryz.zeroValue392
 t145:=Tryz.underlying394
 a145:=Tryz.isAgg394
 z145:=Tryz.sizeOf394
 v145:=Tryz.zeroValue394
 t167:=Tryz.underlying327
 a167:=Tryz.isAgg327
 z167:=Tryz.sizeOf327
 v167:=Tryz.zeroValue327
 t168:=Tryz.underlying329
 a168:=Tryz.isAgg329
 z168:=Tryz.sizeOf329
 v168:=Tryz.zeroValue329
 t171:=Tryz.underlying334
 a171:=Tryz.isAgg334
 z171:=Tryz.sizeOf334
 v171:=Tryz.zeroValue334
 t173:=Tryz.underlying337
 a173:=Tryz.isAgg337
 z173:=Tryz.sizeOf337
 v173:=Tryz.zeroValue337
 t175:=Tryz.underlying210
 a175:=Tryz.isAgg210
 z175:=Tryz.sizeOf210
 v175:=Tryz.zeroValue210
 t210:=Tryz.underlying374
 a210:=Tryz.isAgg374
 z210:=Tryz.sizeOf374
 v210:=Tryz.zeroValue374
 t212:=Tryz.underlying378
 a212:=Tryz.isAgg378
 z212:=Tryz.sizeOf378
 v212:=Tryz.zeroValue378
 t213:=Tryz.underlying379
 a213:=Tryz.isAgg379
 z213:=Tryz.sizeOf379
 t232:=Tryz.underlying410
 a232:=Tryz.isAgg410
 z232:=Tryz.sizeOf410
 v232:=Tryz.zeroValue410
 t233:=Tryz.underlying411
 a233:=Tryz.isAgg411
 z233:=Tryz.sizeOf411
 v233:=Tryz.zeroValue411
 g15:=by kernel_rfl
 g16:=by kernel_rfl
 g17:=by kernel_rfl
 g18:=by kernel_rfl
 g19:=by kernel_rfl
 t80:=Tryz.underlying222
 a80:=Tryz.isAgg222
 z80:=Tryz.sizeOf222
 v80:=Tryz.zeroValue222
 i0:=by kernel_rfl
 i2:=by kernel_rfl
 i3:=by kernel_rfl
 i4:=by kernel_rfl
 i5:=by kernel_rfl
 i9:=by kernel_rfl
 i20:=by kernel_rfl
 i21:=by kernel_rfl
 i37:=by kernel_rfl
 i46:=by kernel_rfl
 i51:=by kernel_rfl
 i53:=by kernel_rfl
 i75:=by kernel_rfl
 i76:=by kernel_rfl
 i80:=by kernel_rfl
 i85:=by kernel_rfl
 i127:=by kernel_rfl
 i143:=by kernel_rfl
 i145:=by kernel_rfl
 i167:=by kernel_rfl
 i168:=by kernel_rfl
 i171:=by kernel_rfl
 i173:=by kernel_rfl
 i175:=by kernel_rfl
 i210:=by kernel_rfl
 i212:=by kernel_rfl
 i232:=by kernel_rfl
 i233:=by kernel_rfl
 m15:=by kernel_rfl
 m16:=by kernel_rfl
 m17:=by kernel_rfl
 m18:=by kernel_rfl
 m19:=by kernel_rfl
 c0:=by kernel_rfl
 c2:=by kernel_rfl
 c3:=by kernel_rfl
 c4:=by kernel_rfl
 c5:=by kernel_rfl
 c9:=by kernel_rfl
 c20:=by kernel_rfl
 c21:=by kernel_rfl
 c37:=by kernel_rfl
 c46:=by kernel_rfl
 c51:=by kernel_rfl
 c53:=by kernel_rfl
 c75:=by kernel_rfl
 c76:=by kernel_rfl
 c80:=by kernel_rfl
 c85:=by kernel_rfl
 c127:=by kernel_rfl
 c143:=by kernel_rfl
 c145:=by kernel_rfl
 c167:=by kernel_rfl
 c168:=by kernel_rfl
 c171:=by kernel_rfl
 c173:=by kernel_rfl
 c175:=by kernel_rfl
 c210:=by kernel_rfl
 c212:=by kernel_rfl
 c213:=by kernel_rfl
 c232:=by kernel_rfl
 c233:=by kernel_rfl }
open Go.RowKit in
theorem Tryz.strconv_Atoi_ok (s:ByteArray) (hmax:s.size<=9223372036854775806) (v:Int) (h:Lib.atoiAll s.data.toList=.ok v) (w:World) :
  Calls Tryz.prog 279 #[.string s] w fun e w'=>e=.returned (.tuple #[.int .i64 v,.nilIface])/\(w'=w∨∃t,w'=Lib.bytesWorld w 5 t):=Any.strconv_Atoi_ok Tryz.laysC172 s hmax v h w
open Go.RowKit in
theorem Tryz.strconv_Atoi_bad (s:ByteArray) (hlim:s.size<=281474976710656) (h1:∀v,Lib.atoiAll s.data.toList≠.ok v) (h2:Lib.atoiAll s.data.toList≠.range) (ev:Value) (w:World) (hv:w.cell? ⟨0,0,none⟩=some ev) (hev:ev=.nilIface∨∃te pe,ev=.iface te pe) :
  Calls Tryz.prog 279 #[.string s] w fun e w'=>∃N,e=.returned (.tuple #[.int .i64 (0),.iface 329 (.pointer (some ⟨N,0,none⟩))])/\w.heap.size<=N/\w'.heap[N]?=some (.cells #[.string ⟨#[65,116,111,105]⟩,.string s,ev] 374 (0,0))/\Below w.heap.size w w':=Any.strconv_Atoi_syntax Tryz.laysC172 s hlim (by
  cases e:Lib.atoiAll s.data.toList with
  | ok v=>exact absurd e (h1 v)
  | range=>exact absurd e h2
  | _=>rfl) ev w hv hev
open Go.RowKit in
theorem Tryz.strconv_Atoi_range (s:ByteArray) (hlim:s.size<=281474976710656) (h:Lib.atoiAll s.data.toList=.range) (ev:Value) (w:World) (hv:w.cell? ⟨1,0,none⟩=some ev) (hev:ev=.nilIface∨∃te pe,ev=.iface te pe) :
  Calls Tryz.prog 279 #[.string s] w fun e w'=>∃N,e=.returned (.tuple #[.int .i64 (Lib.atoiSat s.data.toList),.iface 329 (.pointer (some ⟨N,0,none⟩))])/\w.heap.size<=N/\w'.heap[N]?=some (.cells #[.string ⟨#[65,116,111,105]⟩,.string s,ev] 374 (0,0))/\Below w.heap.size w w':=Any.strconv_Atoi_range Tryz.laysC172 s hlim h ev w hv hev
def Tryz.lays145_ren:Go.Shelf.Ren:=⟨fun|145=>278|220=>311|219=>329|217=>346|225=>344|224=>343|267=>347|266=>353|314=>354|n=>n,fun|9=>9|4=>4|59=>355|3=>3|5=>5|46=>283|146=>340|51=>339|n=>n,fun|1=>3|n=>n⟩
theorem Tryz.lays145:Go.Proofs.Lays.n145 Tryz.prog Tryz.lays145_ren:={
 mixed:=by kernel_rfl
 f145:=Tryz.func278.trans (congrArg some (by kernel_rfl))
 f217:=Tryz.func346.trans (congrArg some (by kernel_rfl))
 f219:=Tryz.func329.trans (congrArg some (by kernel_rfl))
 f220:=Tryz.func311.trans (congrArg some (by kernel_rfl))
 f224:=Tryz.func343.trans (congrArg some (by kernel_rfl))
 f225:=Tryz.func344.trans (congrArg some (by kernel_rfl))
 f266:=Tryz.func353.trans (congrArg some (by kernel_rfl))
 f267:=Tryz.func347.trans (congrArg some (by kernel_rfl))
 f314:=Tryz.func354.trans (congrArg some (by kernel_rfl))
 t3:=Tryz.underlying3
 a3:=Tryz.isAgg3
 z3:=Tryz.sizeOf3
 v3:=Tryz.zeroValue3
 t4:=Tryz.underlying4
 a4:=Tryz.isAgg4
 z4:=Tryz.sizeOf4
 v4:=Tryz.zeroValue4
 t5:=Tryz.underlying5
 a5:=Tryz.isAgg5
 z5:=Tryz.sizeOf5
 v5:=Tryz.zeroValue5
 t9:=Tryz.underlying9
 a9:=Tryz.isAgg9
 z9:=Tryz.sizeOf9
 v9:=Tryz.zeroValue9
 t46:=Tryz.underlying283
 a46:=Tryz.isAgg283
 z46:=Tryz.sizeOf283
 v46:=Tryz.zeroValue283
 t51:=Tryz.underlying339
 a51:=Tryz.isAgg339
 z51:=Tryz.sizeOf339
 v51:=Tryz.zeroValue339
 t59:=Tryz.underlying355
 a59:=Tryz.isAgg355
 z59:=Tryz.sizeOf355
 v59:=Tryz.zeroValue355
 t146:=Tryz.underlying340
 a146:=Tryz.isAgg340
 z146:=Tryz.sizeOf340
 v146:=Tryz.zeroValue340
 g1:=by kernel_rfl }
open Go.RowKit Go.Lib in
theorem Tryz.strings_Cut (s sep:ByteArray) (m:Int) (w:World) (hs:s.size<4294967281) (hm:w.cell? ⟨3,0,none⟩=some (.int .i64 m)) :
  Calls Tryz.prog 278 #[.string s,.string sep] w fun e w'=>e=.returned (.tuple #[.string ⟨(Lib.cut s.data.toList sep.data.toList).1.toArray⟩,.string ⟨(Lib.cut s.data.toList sep.data.toList).2.1.toArray⟩,.bool (Lib.cut s.data.toList sep.data.toList).2.2])/\∃n,w'=w.drewN n:=Any.strings_Cut Tryz.lays145 s sep m w hs hm
def Tryz.lays101_ren:Go.Shelf.Ren:=⟨fun|101=>317|208=>331|206=>264|n=>n,fun|9=>9|4=>4|3=>3|n=>n,fun|n=>n⟩
theorem Tryz.lays101:Go.Proofs.Lays.n101 Tryz.prog Tryz.lays101_ren:={
 mixed:=by kernel_rfl
 f101:=Tryz.func317.trans (congrArg some (by kernel_rfl))
 f206:=Tryz.func264.trans (congrArg some (by kernel_rfl))
 f208:=Tryz.func331.trans (congrArg some (by kernel_rfl))
 t3:=Tryz.underlying3
 a3:=Tryz.isAgg3
 z3:=Tryz.sizeOf3
 v3:=Tryz.zeroValue3
 t4:=Tryz.underlying4
 a4:=Tryz.isAgg4
 z4:=Tryz.sizeOf4
 v4:=Tryz.zeroValue4
 t9:=Tryz.underlying9
 a9:=Tryz.isAgg9
 z9:=Tryz.sizeOf9
 v9:=Tryz.zeroValue9 }
open Go.RowKit Go.Lib in
theorem Tryz.strings_TrimPrefix (s p:ByteArray) (w:World) :
  Calls Tryz.prog 317 #[.string s,.string p] w fun e w'=>e=.returned (.string ⟨(Lib.trimPrefix s.data.toList p.data.toList).toArray⟩)/\w'=w:=Any.strings_TrimPrefix Tryz.lays101 s p w
end Go.Proofs
namespace Go.Proofs.YtpieeldbamklkaaGreatDoor
open Go.RowKit Num
def AD (w:World):Prop:=(∃te pe,w.cell? ⟨0,0,none⟩=some (.iface te pe))/\∃te pe,w.cell? ⟨1,0,none⟩=some (.iface te pe)
theorem Qn {w w':World} {a:Addr} {v:Value} (h:w.cell? a=some v) (hb:Below w.heap.size w w'):w'.cell? a=some v:=(hb.cell (block_lt_of_cell h)).trans h
theorem AD.below {w w':World} (h:AD w) (hb:Below w.heap.size w w'):AD w':=by
 obtain⟨⟨a,b,h1⟩,c,d,h2⟩:=h;exact⟨⟨a,b,Qn h1 hb⟩,c,d,Qn h2 hb⟩
structure GE (w:World):Prop where
 g:ZQ w
 e:AD w
theorem GE.below {w w':World} (h:GE w) (hb:Below w.heap.size w w'):GE w':=⟨h.g.below hb,h.e.below hb⟩
def Vu (f:Nat) (args:Array Value) (v:Value):Prop:=∀w,GE w->Calls Tryz.prog f args w fun e w'=>e=.returned v/\Below w.heap.size w w'
theorem Vu.of {f:Nat} {args:Array Value} {v:Value} (h:Vu f args v) {w w':World} (hG:GE w) (hb:Below w.heap.size w w'):Calls Tryz.prog f args w' fun e w''=>e=.returned v/\Below w'.heap.size w' w'':=h w' (hG.below hb)
theorem Ret.e {f:Nat} {args:Array Value} {v:Value} (h:Ret f args v):Vu f args v:=fun w hG=>h w hG.g
theorem ZcV (s:List UInt8) (hs:s.length<=1000000):Vu 278 #[.string ⟨s.toArray⟩,.string ⟨#[47]⟩] (.tuple #[.string ⟨(Lib.cut s [47]).1.toArray⟩,.string ⟨(Lib.cut s [47]).2.1.toArray⟩,.bool (Lib.cut s [47]).2.2]):=fun w hG=>by
 obtain⟨-,m,hm⟩:=hG.g;refine (Tryz.strings_Cut ⟨s.toArray⟩ ⟨#[47]⟩ m w (by show s.toArray.size<_;simp;omega) hm).mono ?_
 rintro e w' ⟨rfl,n,rfl⟩;exact⟨rfl,below_drewN w n⟩
theorem Zb7 (s:List UInt8) (hs:s.length<=1000000) (w:World) (hG:GE w) :
  Calls Tryz.prog 279 #[.string ⟨s.toArray⟩] w fun e w'=>((∃v,Lib.atoiAll s=.ok v/\e=.returned (.tuple #[.int .i64 v,.nilIface]))∨∃v p,(∀u,Lib.atoiAll s≠.ok u)/\e=.returned (.tuple #[.int .i64 v,.iface 329 p]))/\Below w.heap.size w w':=by
 obtain⟨⟨a,b,h1⟩,c,d,h2⟩:=hG.e;have hz:(⟨s.toArray⟩:ByteArray).size=s.length:=by show s.toArray.size=_;simp
 cases ha:Lib.atoiAll s with
 | ok v=>
  refine (Tryz.strconv_Atoi_ok ⟨s.toArray⟩ (by rw[hz];omega) v ha w).mono ?_
  rintro e w' ⟨rfl,hw⟩;refine⟨.inl ⟨v,rfl,rfl⟩,?_⟩;rcases hw with rfl|⟨t,rfl⟩
  ·exact Below.refl _ _
  ·exact bytesWorld_below _ _ _
 | range=>
  refine (Tryz.strconv_Atoi_range ⟨s.toArray⟩ (by rw[hz];omega) ha _ w h2 (.inr ⟨c,d,rfl⟩)).mono ?_
  rintro e w' ⟨N,rfl,-,-,hb⟩;exact⟨.inr ⟨_,_,fun u=>by simp,rfl⟩,hb⟩
 | _=>
  refine (Tryz.strconv_Atoi_bad ⟨s.toArray⟩ (by rw[hz];omega) (fun v e=>by rw[ha] at e;cases e) (fun e=>by rw[ha] at e;cases e) _ w h1 (.inr ⟨a,b,rfl⟩)).mono ?_
  rintro e w' ⟨N,rfl,-,-,hb⟩;exact⟨.inr ⟨0,_,fun u=>by simp,rfl⟩,hb⟩
theorem Lz (s p:List UInt8):Vu 317 #[.string ⟨s.toArray⟩,.string ⟨p.toArray⟩] (.string ⟨(Lib.trimPrefix s p).toArray⟩):=fun w _=>by
 refine (Tryz.strings_TrimPrefix ⟨s.toArray⟩ ⟨p.toArray⟩ w).mono ?_;rintro e w' ⟨rfl,rfl⟩;exact⟨rfl,Below.refl _ _⟩
def GK (l:List UInt8):Bool:=match Lib.atoiAll l with|.ok n=>decide (1<=n)&&(decide (n<=9999)&&(YI n==l))|_=>false
def idB (s:List UInt8):Bool:=Yv (Lib.cut s [47]).1&&GK (Lib.cut s [47]).2.1
theorem AE (s p:List UInt8):(Lib.cut s p).1.length<=s.length/\(Lib.cut s p).2.1.length<=s.length:=by
 unfold Lib.cut
 split
 ·exact⟨by simp;omega,by simp⟩
 ·exact⟨Nl _,Nat.zero_le _⟩
theorem Zbc {l:List UInt8} (h:∀u,Lib.atoiAll l≠.ok u):GK l=false:=by
 unfold GK;cases ha:Lib.atoiAll l with
 | ok v=>exact absurd ha (h v)
 | _=>rfl
theorem Zbd {l:List UInt8} {v:Int} (h:Lib.atoiAll l=.ok v):GK l=(decide (1<=v)&&(decide (v<=9999)&&(YI v==l))):=by
 unfold GK;rw[h]
theorem Tn (x y:List UInt8):((⟨x.toArray⟩:ByteArray)==⟨y.toArray⟩)=(x==y):=by
 show (x.toArray==y.toArray)=(x==y);simp
theorem EY (d:Int):Ret 226 #[.int .i64 d] (.bool (XY d)):=fun w _=>by
 by_cases g1 : -25567<=d
 ·have e1:decide (-25567<=d)=true:=Dt g1;have HV:Hid (XY d=decide (d<=84005)):=by show _=_;unfold XY;rw[e1,Bool.true_and]
  go_enter Tryz.func226,Tryz.ntmps226;go_wp2;go_ret;exact⟨Ya HV.out.symm,Below.refl _ _⟩
 ·have e1:decide (-25567<=d)=false:=Df g1;have HV:Hid (XY d=false):=by show _=_;unfold XY;rw[e1,Bool.false_and]
  go_enter Tryz.func226,Tryz.ntmps226;go_wp2;go_ret;exact⟨Ya HV.out.symm,Below.refl _ _⟩
theorem Zb8 {s:List UInt8} (hs:s.length<=1000000):Vu 225 #[.string ⟨s.toArray⟩] (.bool (idB s)):=fun w hG=>by
 have hb:=Below.refl w.heap.size w;have C0:=Lh (ZcV s hs);have hl:=AE s [47];have HV:Hid (idB s=(Yv (Lib.cut s [47]).1&&GK (Lib.cut s [47]).2.1)):=rfl;generalize (Lib.cut s [47]).1=nm at *;generalize (Lib.cut s [47]).2.1=nu at *;generalize (Lib.cut s [47]).2.2=fd at *;generalize idB s=R at *;obtain⟨hl1,hl2⟩:=hl;have C1:=Lh (Ret.e (NG (l:=nm) (by omega)))
 have C2:=fun w' (hb':Below w.heap.size w w')=>Zb7 nu (by omega) w' (hG.below hb')
 clear hl1 hl2;go_enter Tryz.func225,Tryz.ntmps225;go_wp2_with fail
 with_reducible refine (C0.out.of hG hb).mono ?_
 rintro e w1 ⟨rfl,hb1⟩;replace hb:=bto hb hb1;clear hb1;go_wp2_with fail;refine (C2 _ hb).mono ?_;rintro e w2 ⟨hcase,hb2⟩;replace hb:=bto hb hb2;clear hb2 C2 C0;generalize hnb:Yv nm=nb at *;rcases hcase with ⟨v,hv,rfl⟩|⟨v,p,hv,rfl⟩
 rotate_left
 ·have HN:Hid (R=false):=by show _=_;rw[HV.out,Zbc hv,Bool.and_false]
  clear HV hv hnb;go_wp2;go_ret;exact⟨Ya (HN.out).symm,hb⟩
 have HV2:Hid (R=(nb&&(decide (1<=v)&&(decide (v<=9999)&&(YI v==nu))))):=by show _=_;rw[HV.out,Zbd hv]
 clear HV hv hnb
 by_cases g1:1<=v
 rotate_left
 ·have e1:decide (1<=v)=false:=Df g1;have HN:Hid (R=false):=by show _=_;rw[HV2.out,e1,Bool.false_and,Bool.and_false]
  clear HV2;go_wp2;go_ret;exact⟨Ya (HN.out).symm,hb⟩
 have e1:decide (1<=v)=true:=Dt g1
 by_cases g2:v<=9999
 rotate_left
 ·have e2:decide (v<=9999)=false:=Df g2;have HN:Hid (R=false):=by show _=_;rw[HV2.out,e2,Bool.false_and,Bool.and_false,Bool.and_false]
  clear HV2;go_wp2;go_ret;exact⟨Ya (HN.out).symm,hb⟩
 have e2:decide (v<=9999)=true:=Dt g2;have C3:=Lh (Ret.e (Zb6 v (by omega) (by omega)))
 have HV3:Hid (R=(nb&&(YI v==nu))):=by show _=_;rw[HV2.out,e1,e2,Bool.true_and,Bool.true_and]
 clear HV2;generalize YI v=pz at *;go_wp2_with fail
 with_reducible refine (C3.out.of hG hb).mono ?_
 rintro e w4 ⟨rfl,hb4⟩;replace hb:=bto hb hb4;clear hb4
 by_cases g3:pz=nu
 rotate_left
 ·have e3:(pz==nu)=false:=by rw[Bn];exact g3
  have HN:Hid (R=false):=by show _=_;rw[HV3.out,e3,Bool.and_false]
  clear HV3;go_wp2;go_ret;exact⟨Ya (HN.out).symm,hb⟩
 have e3:(pz==nu)=true:=by rw[beq_iff_eq];exact g3
 have HN:Hid (R=nb):=by show _=_;rw[HV3.out,e3,Bool.and_true]
 clear HV3;cases nb
 all_goals
  go_wp2_with fail
  with_reducible refine (C1.out.of hG hb).mono ?_
  rintro e w5 ⟨rfl,hb5⟩;replace hb:=bto hb hb5;clear hb5;go_wp2;go_ret;exact⟨Ya (HN.out).symm,hb⟩
def upB (fl c m:Int):Bool:=
 if m=1 then decide (0<c)||(decide (c=0)&&decide (fl % 2≠0))
 else if m=2 then decide (0<c)||(decide (c=0)&&decide (0<=fl))
 else if m=3 then decide (fl<0)
 else if m=4 then decide (0<=fl)
 else decide (m=6)
def UX (q:Rat):Int:=ZI (2*(q.num % q.den)) q.den
def rnd (q:Rat) (m:Int):Int:=if q.den=1 then q.floor else if upB q.floor (UX q) m then q.floor+1 else q.floor
theorem EZ (q:Rat):(0:Rat)<((q.den:Int):Rat):=by
 have:=q.den_pos
 rw[Rat.intCast_natCast];exact Rat.natCast_pos.2 this
theorem To (q:Rat):q.floor=q.num / q.den:=Rat.floor_def q
theorem IB (q:Rat):q*((q.den:Int):Rat)=(q.num:Rat):=by
 have h:q=Rat.divInt q.num q.den:=(Rat.num_divInt_den q).symm;have hd:(q.den:Int)≠0:=by have:=q.den_nz;omega
 obtain⟨n,hn⟩:∃n,n=q.num:=⟨_,rfl⟩
 obtain⟨d,hd'⟩:∃d,d=(q.den:Int):=⟨_,rfl⟩
 rw[<-hn,<-hd'] at h ⊢;rw[<-hd'] at hd;rw[h,Rat.divInt_eq_div,Rat.div_mul_cancel];intro e
 have:(d:Rat)=((0:Int):Rat):=e
 exact hd (Rat.intCast_inj.1 this)
theorem E0 (q:Rat):(q-q.floor)*((q.den:Int):Rat)=((q.num % q.den:Int):Rat):=by
 have h:=Int.emod_add_mul_ediv q.num q.den;have h2:((q.num % q.den:Int):Rat)+((q.den:Int):Rat)*(q.floor:Rat)=(q.num:Rat):=by
  rw[To]
  have:=congrArg (fun z:Int=>(z:Rat)) h
  simpa only[Rat.intCast_add,Rat.intCast_mul] using this
 have h3:=IB q
 grind
theorem IC (q:Rat):q.den=1↔q=q.floor:=by
 constructor
 ·intro h;have h2:=IB q
  have:q.floor=q.num:=by rw[To,h];simp
  rw[this,<-h2,h];simp
 ·intro h;rw[h];rfl
theorem Zb9 (q:Rat):(q.floor:Rat)<=q:=Rat.floor_le q
theorem Zca (q:Rat):q<(q.floor:Rat)+1:=by have:=Rat.lt_floor_add_one q;simpa using this
theorem Zbe (q:Rat):q<0↔q.floor<0:=by
 have h1:=Zb9 q;have h2:=Zca q;constructor
 ·intro h
  have:(q.floor:Rat)<((0:Int):Rat):=by grind
  exact Rat.intCast_lt_intCast.1 this
 ·intro h
  have:q.floor+1<=0:=by omega
  have:((q.floor+1:Int):Rat)<=((0:Int):Rat):=Rat.intCast_le_intCast.2 this
  have:(q.floor:Rat)+1<=0:=by simpa [Rat.intCast_add] using this
  grind
theorem Zbf (q:Rat) (m:Int):rnd q m=q.floor∨(rnd q m=q.floor+1/\q≠q.floor):=by
 unfold rnd
 by_cases h:q.den=1
 ·rw[if_pos h];exact .inl rfl
 ·rw[if_neg h]
  split
  ·exact .inr ⟨rfl,fun e=>h ((IC q).2 e)⟩
  ·exact .inl rfl
theorem Zbg (q:Rat) (m:Int):q.floor<=rnd q m/\rnd q m<=q.floor+1:=by
 rcases Zbf q m with h|⟨h,-⟩<;>omega
section
variable {l l':List UInt8}
theorem ID (hl:l.length<=100000000) (hl':l'.length<=100000000) (h0:val l'≠0) {q r:Int} (e:WU (val l) (val l')=q) (e':Ul (val l) (val l')=r):Ret 137 #[.string ⟨l.toArray⟩,.string ⟨l'.toArray⟩] (.tuple #[.string ⟨(canon q).toArray⟩,.string ⟨(canon r).toArray⟩,.int .i64 0]):=fun w hG=>by
 subst e;subst e';exact UR l l' w hl hl' hG h0
theorem ZaK (hl:l.length<=100000000) {z:Int} (e : -val l=z):Ret 206 #[.string ⟨l.toArray⟩] (.string ⟨(canon z).toArray⟩):=fun w hG=>by
 subst e;exact Mr l w hl hG
theorem ZaL (hl:l.length<=100000000) (hl':l'.length<=100000000) {z:Int} (e:val l*val l'=z):Ret 68 #[.string ⟨l.toArray⟩,.string ⟨l'.toArray⟩] (.string ⟨(canon z).toArray⟩):=fun w hG=>by
 subst e;exact Py l l' w hl hl' hG
end
theorem IE {z:Int} (h:z=0):(canon z==[])=true/\(canon z).isEmpty=true:=by rw[h];decide
theorem E3 {z:Int} (h:z≠0):(canon z==[])=false/\(canon z).isEmpty=false:=by
 have:canon z≠[]:=fun e=>h ((Uf z).1 e)
 exact⟨by rw[Bn];exact this,by rw[List.isEmpty_eq_false_iff];exact this⟩
theorem ZK {z:Int} {k:Nat} (h:z.natAbs<10 ^ k) {n:Nat} (hn:k+1<=n):(canon z).length<=n:=Nt (Zo _ _ h) hn
theorem ZaM {l:List UInt8} (hl:l.length<=1000000) {z:Int} (e:val l=z):Ret 138 #[.string ⟨l.toArray⟩] (.bool (decide (z % 2=0))):=fun w hG=>by
 have c1:=ID (l:=l) (l':=[50]) (by omega) (by decide) (by decide) rfl (show Ul (val l) (val [50])=z % 2 by rw[e];rfl)
 generalize WU (val l) (val [50])=q at c1;have hb:=Below.refl w.heap.size w;have H1:=Lh c1;clear c1 e
 by_cases h:z % 2=0
 ·obtain⟨e1,e2⟩:=IE h;rw[Dt h];generalize z % 2=r at *;go_enter Tryz.func138,Tryz.ntmps138;go_wp2_with fail
  with_reducible refine (H1.out.of hG hb).mono ?_
  rintro e w1 ⟨rfl,hb2⟩;go_wp2;go_ret;exact⟨rfl,bto hb hb2⟩
 ·obtain⟨e1,e2⟩:=E3 h;rw[Df h];generalize z % 2=r at *;go_enter Tryz.func138,Tryz.ntmps138;go_wp2_with fail
  with_reducible refine (H1.out.of hG hb).mono ?_
  rintro e w1 ⟨rfl,hb2⟩;go_wp2;go_ret;exact⟨rfl,bto hb hb2⟩
structure AG (q:Rat) (fl r c s:Int):Prop where
 efl:q.floor=fl
 er:q.num % q.den=r
 ec:ZI (r+r) q.den=c
 es:ZI q.num 0=s
theorem AH (q:Rat):AG q q.floor (q.num % q.den) (UX q) (ZI q.num 0):=⟨rfl,rfl,by unfold UX;congr 1;omega,rfl⟩
theorem Qo (q:Rat):q.num % q.den=0↔q.den=1:=by
 rw[IC];have h:=E0 q;have hd:=EZ q;constructor
 ·intro e;rw[e] at h;rcases Rat.mul_eq_zero.1 h with h1|h1
  ·grind
  ·grind
 ·intro e;rw[<-e,Rat.sub_self,Rat.zero_mul] at h;exact (Rat.intCast_inj.1 (h.symm.trans rfl))
theorem E4 (q:Rat):ZI q.num 0<0↔q.floor<0:=by
 rw[<-Zbe,Rat.lt_iff];unfold ZI;simp
 split
 ·simp_all
 ·split<;>simp_all
theorem Tq {q:Rat} {fl r c s:Int} (H:AG q fl r c s) (h:r=0) (m:Int):rnd q m=fl:=by
 unfold rnd;rw[if_pos ((Qo q).1 (H.er.trans h)),H.efl]
theorem E5 {q:Rat} {fl r c s:Int} (H:AG q fl r c s) (h:r≠0) {m:Int} (hu:upB fl c m=true):rnd q m=fl+1:=by
 have hc:UX q=c:=by rw[<-H.ec];unfold UX;rw[H.er];congr 1;omega
 unfold rnd;rw[if_neg (fun e=>h (H.er.symm.trans ((Qo q).2 e))),H.efl,hc,if_pos hu]
theorem E6 {q:Rat} {fl r c s:Int} (H:AG q fl r c s) (h:r≠0) {m:Int} (hu:upB fl c m=false):rnd q m=fl:=by
 have hc:UX q=c:=by rw[<-H.ec];unfold UX;rw[H.er];congr 1;omega
 unfold rnd;rw[if_neg (fun e=>h (H.er.symm.trans ((Qo q).2 e))),H.efl,hc,if_neg (by rw[hu];decide)]
theorem IF (q:Rat):Ul q.num q.den=q.num % q.den:=by unfold Ul;rw[if_pos (by have:=q.den_nz;omega)]
theorem IG (q:Rat):WU q.num q.den=q.floor:=by unfold WU;rw[if_pos (by have:=q.den_nz;omega),To]
theorem Jq (q:Rat):q.floor.natAbs<=q.num.natAbs:=by rw[To];exact Int.natAbs_ediv_le_natAbs _ _
theorem IH (q:Rat):(q.num % q.den).natAbs<q.den:=by
 have h:=q.den_nz;have h1:=Int.emod_nonneg q.num (b:=q.den) (by omega)
 have h2:=Int.emod_lt_of_pos q.num (b:=q.den) (by omega)
 omega
theorem GL {l l':List UInt8} {q:Rat} {k:Nat} (h:IsQ l l' q) (b:Bd k q) (hk:k<=90000) (m:Int) (hm:m=1) (h0:q.num % q.den=0):Ret 57 #[(Value.agg #[Value.string ⟨l.toArray⟩,Value.string ⟨l'.toArray⟩]),.int .i64 m] (.tuple #[.string ⟨(canon (rnd q m)).toArray⟩,.int .i64 0]):=fun w hG=>by
 have c1:=EF h;have hbq:=b;have hd0:(q.den:Int)≠0:=by have:=q.den_nz;omega
 have hfl:=Nat.lt_of_le_of_lt (Jq q) b.1;have hmd:=Nat.lt_trans (IH q) b.2;have hde:(q.den:Int).natAbs<10 ^ k:=by rw[Int.natAbs_natCast];exact b.2
 have hrr:(q.num % q.den+q.num % q.den).natAbs<10 ^ (k+1):=by rw[Nat.pow_succ];omega
 have c2:=ID (l:=fN q) (l':=canon q.den) (by have:=(Vl b).1;omega) (ZK hde (by omega)) (by rw[Zj];exact hd0) (show WU (val (fN q)) (val (canon q.den))=q.floor by rw[US,Zj,IG]) (show Ul (val (fN q)) (val (canon q.den))=q.num % q.den by rw[US,Zj,IF])
 have c3:=UU (l:=canon q.floor) (l':=[49]) (ZK hfl (by omega)) (by decide) (show val (canon q.floor)+val [49]=q.floor+1 by rw[Zj];rfl)
 have c4:=ZM (l:=fN q) (l':=[]) (by have:=(Vl b).1;omega) (by decide) (show ZI (val (fN q)) (val [])=ZI q.num 0 by rw[US];rfl)
 have c5:=UU (l:=canon (q.num % q.den)) (l':=canon (q.num % q.den)) (ZK hmd (by omega)) (ZK hmd (by omega)) (show val (canon (q.num % q.den))+val (canon (q.num % q.den))=q.num % q.den+q.num % q.den by rw[Zj])
 have c6:=ZM (l:=canon (q.num % q.den+q.num % q.den)) (l':=canon q.den) (ZK hrr (by omega)) (ZK hde (by omega)) (show ZI (val (canon (q.num % q.den+q.num % q.den))) (val (canon q.den))=UX q by rw[Zj,Zj];exact (AH q).ec)
 have cE:=ZaM (l:=canon q.floor) (ZK hfl (by omega)) (Zj q.floor)
 have hf:=AH q;have hsf0:=E4 q;have x2:=Z0.new w (.string ⟨l.toArray⟩) (.string ⟨l'.toArray⟩) 34;have hb:=Zb w (.cells #[.string ⟨l.toArray⟩,.string ⟨l'.toArray⟩] 34);clear hbq hd0 hfl hmd hde hrr;generalize q.floor=fl at *;generalize q.num % q.den=r at *;generalize UX q=c at *;generalize ZI q.num 0=s at *;have C1:=Lh c1;have C2:=Lh c2;have C3:=Lh c3;have C4:=Lh c4;have C5:=Lh c5;have C6:=Lh c6;have HE:=Lh cE;have HF:=Lh hf;have hsf:=Lh hsf0;clear c1 c2 c3 c4 c5 c6 cE hf b h hsf0;obtain⟨e1,e2⟩:=IE h0;have hr:=Lh h0;clear h0 hk;go_enter Tryz.func57,Tryz.ntmps57;have qx2_0:=x2.c0;have qx2_1:=x2.c1;go_wp2_with fail
 with_reducible refine (C1.out.of hG hb).mono ?_
 rintro e w2 ⟨rfl,hb2⟩;clear qx2_0 qx2_1;replace x2:=x2.below hb2;replace hb:=bto hb hb2;clear hb2;go_wp2_with fail
 with_reducible refine (C2.out.of hG hb).mono ?_
 rintro e w3 ⟨rfl,hb3⟩;replace x2:=x2.below hb3;replace hb:=bto hb hb3;clear hb3;go_wp2_with fail
 with_reducible refine (C4.out.of hG hb).mono ?_
 rintro e w4 ⟨rfl,hb4⟩;replace x2:=x2.below hb4;replace hb:=bto hb hb4;clear hb4;go_wp2_with fail
 with_reducible refine (C5.out.of hG hb).mono ?_
 rintro e w5 ⟨rfl,hb5⟩;replace x2:=x2.below hb5;replace hb:=bto hb hb5;clear hb5;go_wp2_with fail
 with_reducible refine (C6.out.of hG hb).mono ?_
 rintro e w6 ⟨rfl,hb6⟩;replace x2:=x2.below hb6;replace hb:=bto hb hb6;clear hb6;clear x2;clear e1 e2;subst hm
 by_cases g1:0<c
 ·have g1':decide (0<c)=true:=Dt g1;have HR:=Lh (Tq HF.out hr.out 1);clear HF hsf hr;go_wp2;go_ret2;exact⟨by rw[HR.out];first|done|rfl,hb⟩
 have g1':decide (0<c)=false:=Df g1
 by_cases g2:c=0
 rotate_left
 ·have g2':(c==0)=false:=by rw[Bn];exact g2
  have HR:=Lh (Tq HF.out hr.out 1);clear HF hsf hr;go_wp2;go_ret2;exact⟨by rw[HR.out];first|done|rfl,hb⟩
 have g2':(c==0)=true:=by rw[beq_iff_eq];exact g2
 by_cases g3:fl % 2=0
 ·have g3':decide (fl % 2=0)=true:=Dt g3;have HR:=Lh (Tq HF.out hr.out 1);clear HF hsf hr;go_wp2_with fail
  with_reducible refine (HE.out.of hG hb).mono ?_
  rintro e w9 ⟨rfl,hb9⟩;replace hb:=bto hb hb9;rw[g3'];go_wp2;go_ret2;exact⟨by rw[HR.out];first|done|rfl,hb⟩
 ·have g3':decide (fl % 2=0)=false:=Df g3;have HR:=Lh (Tq HF.out hr.out 1);clear HF hsf hr;go_wp2_with fail
  with_reducible refine (HE.out.of hG hb).mono ?_
  rintro e w9 ⟨rfl,hb9⟩;replace hb:=bto hb hb9;rw[g3'];go_wp2;go_ret2;exact⟨by rw[HR.out];first|done|rfl,hb⟩
theorem GM {l l':List UInt8} {q:Rat} {k:Nat} (h:IsQ l l' q) (b:Bd k q) (hk:k<=90000) (m:Int) (hm:m=1) (h0:q.num % q.den≠0):Ret 57 #[(Value.agg #[Value.string ⟨l.toArray⟩,Value.string ⟨l'.toArray⟩]),.int .i64 m] (.tuple #[.string ⟨(canon (rnd q m)).toArray⟩,.int .i64 0]):=fun w hG=>by
 have c1:=EF h;have hbq:=b;have hd0:(q.den:Int)≠0:=by have:=q.den_nz;omega
 have hfl:=Nat.lt_of_le_of_lt (Jq q) b.1;have hmd:=Nat.lt_trans (IH q) b.2;have hde:(q.den:Int).natAbs<10 ^ k:=by rw[Int.natAbs_natCast];exact b.2
 have hrr:(q.num % q.den+q.num % q.den).natAbs<10 ^ (k+1):=by rw[Nat.pow_succ];omega
 have c2:=ID (l:=fN q) (l':=canon q.den) (by have:=(Vl b).1;omega) (ZK hde (by omega)) (by rw[Zj];exact hd0) (show WU (val (fN q)) (val (canon q.den))=q.floor by rw[US,Zj,IG]) (show Ul (val (fN q)) (val (canon q.den))=q.num % q.den by rw[US,Zj,IF])
 have c3:=UU (l:=canon q.floor) (l':=[49]) (ZK hfl (by omega)) (by decide) (show val (canon q.floor)+val [49]=q.floor+1 by rw[Zj];rfl)
 have c4:=ZM (l:=fN q) (l':=[]) (by have:=(Vl b).1;omega) (by decide) (show ZI (val (fN q)) (val [])=ZI q.num 0 by rw[US];rfl)
 have c5:=UU (l:=canon (q.num % q.den)) (l':=canon (q.num % q.den)) (ZK hmd (by omega)) (ZK hmd (by omega)) (show val (canon (q.num % q.den))+val (canon (q.num % q.den))=q.num % q.den+q.num % q.den by rw[Zj])
 have c6:=ZM (l:=canon (q.num % q.den+q.num % q.den)) (l':=canon q.den) (ZK hrr (by omega)) (ZK hde (by omega)) (show ZI (val (canon (q.num % q.den+q.num % q.den))) (val (canon q.den))=UX q by rw[Zj,Zj];exact (AH q).ec)
 have cE:=ZaM (l:=canon q.floor) (ZK hfl (by omega)) (Zj q.floor)
 have hf:=AH q;have hsf0:=E4 q;have x2:=Z0.new w (.string ⟨l.toArray⟩) (.string ⟨l'.toArray⟩) 34;have hb:=Zb w (.cells #[.string ⟨l.toArray⟩,.string ⟨l'.toArray⟩] 34);clear hbq hd0 hfl hmd hde hrr;generalize q.floor=fl at *;generalize q.num % q.den=r at *;generalize UX q=c at *;generalize ZI q.num 0=s at *;have C1:=Lh c1;have C2:=Lh c2;have C3:=Lh c3;have C4:=Lh c4;have C5:=Lh c5;have C6:=Lh c6;have HE:=Lh cE;have HF:=Lh hf;have hsf:=Lh hsf0;clear c1 c2 c3 c4 c5 c6 cE hf b h hsf0;obtain⟨e1,e2⟩:=E3 h0;have hr:=Lh h0;clear h0 hk;go_enter Tryz.func57,Tryz.ntmps57;have qx2_0:=x2.c0;have qx2_1:=x2.c1;go_wp2_with fail
 with_reducible refine (C1.out.of hG hb).mono ?_
 rintro e w2 ⟨rfl,hb2⟩;clear qx2_0 qx2_1;replace x2:=x2.below hb2;replace hb:=bto hb hb2;clear hb2;go_wp2_with fail
 with_reducible refine (C2.out.of hG hb).mono ?_
 rintro e w3 ⟨rfl,hb3⟩;replace x2:=x2.below hb3;replace hb:=bto hb hb3;clear hb3;go_wp2_with fail
 with_reducible refine (C3.out.of hG hb).mono ?_
 rintro e w4 ⟨rfl,hb4⟩;replace x2:=x2.below hb4;replace hb:=bto hb hb4;clear hb4;go_wp2_with fail
 with_reducible refine (C4.out.of hG hb).mono ?_
 rintro e w5 ⟨rfl,hb5⟩;replace x2:=x2.below hb5;replace hb:=bto hb hb5;clear hb5;go_wp2_with fail
 with_reducible refine (C5.out.of hG hb).mono ?_
 rintro e w6 ⟨rfl,hb6⟩;replace x2:=x2.below hb6;replace hb:=bto hb hb6;clear hb6;go_wp2_with fail
 with_reducible refine (C6.out.of hG hb).mono ?_
 rintro e w7 ⟨rfl,hb7⟩;replace x2:=x2.below hb7;replace hb:=bto hb hb7;clear hb7;clear x2;clear e1 e2;subst hm
 by_cases g1:0<c
 ·have g1':decide (0<c)=true:=Dt g1;have HR:=Lh (E5 HF.out hr.out (m:=1) (by simp[upB,g1]))
  clear HF hsf hr;go_wp2;go_ret2;exact⟨by rw[HR.out];first|done|rfl,hb⟩
 have g1':decide (0<c)=false:=Df g1
 by_cases g2:c=0
 rotate_left
 ·have g2':(c==0)=false:=by rw[Bn];exact g2
  have HR:=Lh (E6 HF.out hr.out (m:=1) (by simp[upB,g1,g2]))
  clear HF hsf hr;go_wp2;go_ret2;exact⟨by rw[HR.out];first|done|rfl,hb⟩
 have g2':(c==0)=true:=by rw[beq_iff_eq];exact g2
 by_cases g3:fl % 2=0
 ·have g3':decide (fl % 2=0)=true:=Dt g3;have HR:=Lh (E6 HF.out hr.out (m:=1) (by simp[upB,g1,g3]))
  clear HF hsf hr;go_wp2_with fail
  with_reducible refine (HE.out.of hG hb).mono ?_
  rintro e w9 ⟨rfl,hb9⟩;replace hb:=bto hb hb9;rw[g3'];go_wp2;go_ret2;exact⟨by rw[HR.out];first|done|rfl,hb⟩
 ·have g3':decide (fl % 2=0)=false:=Df g3;have HR:=Lh (E5 HF.out hr.out (m:=1) (by simp[upB,g2,g3]))
  clear HF hsf hr;go_wp2_with fail
  with_reducible refine (HE.out.of hG hb).mono ?_
  rintro e w9 ⟨rfl,hb9⟩;replace hb:=bto hb hb9;rw[g3'];go_wp2;go_ret2;exact⟨by rw[HR.out];first|done|rfl,hb⟩
def UK (x:Lot):Int:=
 if idB x.id=false then 23 else if Yv x.ins=false then 23 else if XY x.acq=false then 13 else if XY x.opn=false then 13 else if x.opn<x.acq then 8 else if ¬x.q=canon (val x.q) then 1 else if ¬x.cost=canon (val x.cost) then 1 else if ¬x.used=canon (val x.used) then 1 else if val x.q<=0 then 2 else if val x.cost<0 then 2 else if x.used=[] then 0 else if x.used=x.q then 0 else 2
structure OD (x:Lot):Prop where
 id:x.id.length<=1000
 ins:x.ins.length<=1000
 q:x.q.length<=1000
 cost:x.cost.length<=1000
 used:x.used.length<=1000
theorem LA (v:Int):(ZI v 0<=0↔v<=0)/\(ZI v 0<0↔v<0)/\(0<ZI v 0↔0<v)/\-1<=ZI v 0/\ZI v 0<=1:=by
 unfold ZI
 split
 ·omega
 ·split<;>omega
theorem IJ {x:Lot} (h:UK x=0):idB x.id=true/\Yv x.ins=true/\XY x.acq=true/\XY x.opn=true/\x.acq<=x.opn/\x.q=canon (val x.q)/\x.cost=canon (val x.cost)/\x.used=canon (val x.used)/\0<val x.q/\0<=val x.cost/\(x.used=[]∨x.used=x.q):=by
 unfold UK at h
 by_cases h0:idB x.id=false
 ·rw[if_pos h0] at h;exact absurd h (by decide)
 rw[if_neg h0] at h
 by_cases h1:Yv x.ins=false
 ·rw[if_pos h1] at h;exact absurd h (by decide)
 rw[if_neg h1] at h
 by_cases h2:XY x.acq=false
 ·rw[if_pos h2] at h;exact absurd h (by decide)
 rw[if_neg h2] at h
 by_cases h3:XY x.opn=false
 ·rw[if_pos h3] at h;exact absurd h (by decide)
 rw[if_neg h3] at h
 by_cases h4:x.opn<x.acq
 ·rw[if_pos h4] at h;exact absurd h (by decide)
 rw[if_neg h4] at h
 by_cases h5:¬x.q=canon (val x.q)
 ·rw[if_pos h5] at h;exact absurd h (by decide)
 rw[if_neg h5] at h
 by_cases h6:¬x.cost=canon (val x.cost)
 ·rw[if_pos h6] at h;exact absurd h (by decide)
 rw[if_neg h6] at h
 by_cases h7:¬x.used=canon (val x.used)
 ·rw[if_pos h7] at h;exact absurd h (by decide)
 rw[if_neg h7] at h
 by_cases h8:val x.q<=0
 ·rw[if_pos h8] at h;exact absurd h (by decide)
 rw[if_neg h8] at h
 by_cases h9:val x.cost<0
 ·rw[if_pos h9] at h;exact absurd h (by decide)
 rw[if_neg h9] at h;refine⟨by simpa using h0,by simpa using h1,by simpa using h2,by simpa using h3,Int.not_lt.1 h4,Decidable.not_not.1 h5,Decidable.not_not.1 h6,Decidable.not_not.1 h7,Int.not_le.1 h8,Int.not_lt.1 h9,?_⟩
 by_cases h10:x.used=[]
 ·exact .inl h10
 rw[if_neg h10] at h
 by_cases h11:x.used=x.q
 ·exact .inr h11
 rw[if_neg h11] at h;exact absurd h (by decide)
def Jr (x:Lot):Int:=if val x.q<=0 then 2 else if val x.cost<0 then 2 else if x.used=[] then 0 else if x.used=x.q then 0 else 2
def Js:List (List UInt8)->Int->Int
 | [],R=>R
 | r::t,R=>if r=canon (val r) then Js t R else 1
theorem GO {rs:List (List UInt8)} {k:Nat} {r:List UInt8} {R:Int} (h:rs[k]?=some r):Js (rs.drop k) R=if r=canon (val r) then Js (rs.drop (k+1)) R else 1:=by
 obtain⟨hk,rfl⟩:=Lg.1 h;rw[List.drop_eq_getElem_cons hk];rfl
theorem E7 {c:Prop} [Decidable c] {a b:Int}:(if ¬c then a else b)=if c then b else a:=by
 by_cases h:c
 ·rw[if_pos h,if_neg (fun g=>g h)]
 ·rw[if_neg h,if_pos h]
theorem AJ (x:Lot):Js [x.q,x.cost,x.used] (Jr x)=if ¬x.q=canon (val x.q) then 1 else if ¬x.cost=canon (val x.cost) then 1 else if ¬x.used=canon (val x.used) then 1 else if val x.q<=0 then 2 else if val x.cost<0 then 2 else if x.used=[] then 0 else if x.used=x.q then 0 else 2:=by
 simp only[Js,E7,Jr]
theorem Blk.rowS {w:World} {b:Nat} {cs:Array Value} (h:Blk w b cs) (rs:List (List UInt8)) (hc:cs=(rs.map (fun r=>Value.string ⟨r.toArray⟩)).toArray):∀(k:Nat) (r:List UInt8),rs[k]?=some r->w.cell? ⟨b,k,none⟩=some (.string ⟨r.toArray⟩)/\b<w.heap.size:=fun k r hr=>by
 refine⟨?_,?_⟩
 ·have:=h.c k
  rw[this,hc];simp[hr]
 ·obtain⟨t,h⟩:=h;exact (Ag.1 h).1
theorem E8 {x:Lot} (hs:OD x):Vu 181 #[(Value.agg #[Value.string ⟨x.id.toArray⟩,Value.string ⟨x.ins.toArray⟩,Value.int .i64 x.acq,Value.int .i64 x.opn,Value.string ⟨x.q.toArray⟩,Value.string ⟨x.cost.toArray⟩,Value.string ⟨x.used.toArray⟩])] (.int .i64 (UK x)):=fun w hG=>by
 obtain⟨l1,l2,l3,l4,l5⟩:=hs;have hb:=Zb w (.cells #[Value.string ⟨x.id.toArray⟩,Value.string ⟨x.ins.toArray⟩,Value.int .i64 x.acq,Value.int .i64 x.opn,Value.string ⟨x.q.toArray⟩,Value.string ⟨x.cost.toArray⟩,Value.string ⟨x.used.toArray⟩] 130);have x1:=Xh.new w x 130;have C1:=Lh (Ret.e (EY x.acq));have C2:=Lh (Ret.e (EY x.opn));have D1:=Lh (Zb8 (s:=x.id) (by omega))
 have D2:=Lh (Ret.e (NG (l:=x.ins) (by omega)))
 have K1:=Lh (Ret.e (ZM (l:=x.q) (l':=[]) (by omega) (by decide) (show _=ZI (val x.q) 0 from rfl)))
 have K2:=Lh (Ret.e (ZM (l:=x.cost) (l':=[]) (by omega) (by decide) (show _=ZI (val x.cost) 0 from rfl)))
 have N0:=Lh (Ret.e (Yz (l:=x.q) (by omega) rfl))
 have N1:=Lh (Ret.e (Yz (l:=x.cost) (by omega) rfl))
 have N2:=Lh (Ret.e (Yz (l:=x.used) (by omega) rfl))
 obtain⟨E,hE⟩:∃E,E=UK x:=⟨_,rfl⟩
 rw[<-hE];unfold UK at hE;have HV:=Lh hE;clear hE;go_enter Tryz.func181,Tryz.ntmps181;clear l1 l2 l3 l4 l5;have qx1_0:=x1.c0;go_wp2_with fail
 with_reducible refine (D1.out.of hG hb).mono ?_
 rintro e wa1 ⟨rfl,hba1⟩;clear qx1_0;replace x1:=x1.below hba1;replace hb:=bto hb hba1;clear hba1
 by_cases g1:idB x.id=false
 ·have e1:=g1;have HQ:Hid (E=23):=by show _=_;rw[HV.out,if_pos g1]
  clear HV g1;go_wp2;go_ret;exact⟨ZH HQ.out.symm,hb⟩
 have e1:idB x.id=true:=by simpa using g1
 have HV1:=Lh (HV.out.trans (if_neg g1));clear HV g1;have qx1_1:=x1.c1;go_wp2_with fail
 with_reducible refine (D2.out.of hG hb).mono ?_
 rintro e wa2 ⟨rfl,hba2⟩;clear qx1_1;replace x1:=x1.below hba2;replace hb:=bto hb hba2;clear hba2
 by_cases g2:Yv x.ins=false
 ·have e2:=g2;have HQ:Hid (E=23):=by show _=_;rw[HV1.out,if_pos g2]
  clear HV1 g2;go_wp2;go_ret;exact⟨ZH HQ.out.symm,hb⟩
 have e2:Yv x.ins=true:=by simpa using g2
 have HV2:=Lh (HV1.out.trans (if_neg g2));clear HV1 g2;have qx1_2:=x1.c2;go_wp2_with fail
 with_reducible refine (C1.out.of hG hb).mono ?_
 rintro e wa3 ⟨rfl,hba3⟩;clear qx1_2;replace x1:=x1.below hba3;replace hb:=bto hb hba3;clear hba3
 by_cases g3:XY x.acq=false
 ·have e3:=g3;have HQ:Hid (E=13):=by show _=_;rw[HV2.out,if_pos g3]
  clear HV2 g3;go_wp2;go_ret;exact⟨ZH HQ.out.symm,hb⟩
 have e3:XY x.acq=true:=by simpa using g3
 have HV3:=Lh (HV2.out.trans (if_neg g3));clear HV2 g3;have qx1_3:=x1.c3;go_wp2_with fail
 with_reducible refine (C2.out.of hG hb).mono ?_
 rintro e wa4 ⟨rfl,hba4⟩;clear qx1_3;replace x1:=x1.below hba4;replace hb:=bto hb hba4;clear hba4
 by_cases g4:XY x.opn=false
 ·have e4:=g4;have HQ:Hid (E=13):=by show _=_;rw[HV3.out,if_pos g4]
  clear HV3 g4;go_wp2;go_ret;exact⟨ZH HQ.out.symm,hb⟩
 have e4:XY x.opn=true:=by simpa using g4
 have HV4:=Lh (HV3.out.trans (if_neg g4));clear HV3 g4
 by_cases g5:x.opn<x.acq
 ·have e5:decide (x.opn<x.acq)=true:=Dt g5;have HQ:Hid (E=8):=by show _=_;rw[HV4.out,if_pos g5]
  clear HV4 g5;have qx1_2:=x1.c2;have qx1_3:=x1.c3;go_wp2;go_ret;exact⟨ZH HQ.out.symm,hb⟩
 have e5:decide (x.opn<x.acq)=false:=Df g5;have HV5:=Lh (HV4.out.trans (if_neg g5));clear HV4 g5;have qx1_2:=x1.c2;have qx1_3:=x1.c3;have qx1_4:=x1.c4;have qx1_5:=x1.c5;have qx1_6:=x1.c6;go_wp2_with fail;clear qx1_2 qx1_3 qx1_4 qx1_5 qx1_6;clear e1 e2 e3 e4 e5;have hbA:=Zb wa4 (.cells #[Value.string ⟨x.q.toArray⟩,Value.string ⟨x.cost.toArray⟩,Value.string ⟨x.used.toArray⟩] 32);have x9:Blk (wa4.alloc (.cells #[Value.string ⟨x.q.toArray⟩,Value.string ⟨x.cost.toArray⟩,Value.string ⟨x.used.toArray⟩] 32)) wa4.heap.size _:=Blk.new wa4 _ _;replace x1:=x1.below hbA;replace hb:=bto hb hbA;obtain⟨w0,hw0⟩:∃w0,w0=wa4.alloc (.cells #[Value.string ⟨x.q.toArray⟩,Value.string ⟨x.cost.toArray⟩,Value.string ⟨x.used.toArray⟩] 32):=⟨_,rfl⟩
 rw[<-hw0] at x1 hb x9;rw[<-hw0];have H9:=Lh (Blk.rowS x9 [x.q,x.cost,x.used] rfl);generalize wa4.heap.size=B at *;clear hw0 hbA x9;have HV:=Lh ((HV5.out).trans (AJ x).symm);clear HV5
 go_loopw [4,38] (fun _ iv wr=>∃k:Nat,k<=3/\iv=.int .i64 (k:Int)/\Hid (E=Js ([x.q,x.cost,x.used].drop k) (Jr x))/\Below w0.heap.size w0 wr) (fun _ iv _=>3-(intOf iv).toNat)
 case atStart=>exact⟨0,by omega,rfl,HV.out,Below.refl _ _⟩
 case round=>
  clear HV;obtain⟨k,hk,rfl,HV,hbr⟩:=hrel;replace x1:=x1.below hbr;replace hb:=bto hb hbr
  by_cases hlk:k<3
  rotate_left
  ·have HR:Hid (E=Jr x):=by show _=_;rw[HV.out,List.drop_of_length_le (by show 3<=k;omega)];rfl
   clear HV;have e1:decide (k<3)=false:=Df hlk;have e2:decide ((k:Int)<3)=false:=Df (by omega)
   have qx1_4:=x1.c4;go_wp2_with fail
   with_reducible refine (K1.out.of hG hb).mono ?_
   rintro e wa5 ⟨rfl,hba5⟩;replace x1:=x1.below hba5;replace hb:=bto hb hba5;clear hba5;clear qx1_4;unfold Jr at HR;generalize hc1:ZI (val x.q) 0=c1 at *;have hz1:=LA (val x.q);rw[hc1] at hz1;clear hc1
   by_cases g1:val x.q<=0
   ·have e3:decide (c1<=0)=true:=Dt (hz1.1.2 g1);have HQ:Hid (E=2):=by show _=_;rw[HR.out,if_pos g1]
    clear HR g1 hz1;go_wp2;go_ret;exact⟨ZH HQ.out.symm,hb⟩
   have e3:decide (c1<=0)=false:=Df (fun h=>g1 (hz1.1.1 h))
   have HR1:=Lh (HR.out.trans (if_neg g1));clear HR g1 hz1;have qx1_5:=x1.c5;go_wp2_with fail
   with_reducible refine (K2.out.of hG hb).mono ?_
   rintro e wa6 ⟨rfl,hba6⟩;clear qx1_5;replace x1:=x1.below hba6;replace hb:=bto hb hba6;clear hba6;generalize hc2:ZI (val x.cost) 0=c2 at *;have hz2:=LA (val x.cost);rw[hc2] at hz2;clear hc2
   by_cases g2:val x.cost<0
   ·have e4:decide (c2<0)=true:=Dt (hz2.2.1.2 g2);have HQ:Hid (E=2):=by show _=_;rw[HR1.out,if_pos g2]
    clear HR1 g2 hz2;go_wp2;go_ret;exact⟨ZH HQ.out.symm,hb⟩
   have e4:decide (c2<0)=false:=Df (fun h=>g2 (hz2.2.1.1 h))
   have HR2:=Lh (HR1.out.trans (if_neg g2));clear HR1 g2 hz2
   by_cases g3:x.used=[]
   ·have e5:(x.used==[])=true:=by rw[beq_iff_eq];exact g3
    have e6:x.used.isEmpty=true:=by rw[List.isEmpty_iff];exact g3
    have HQ:Hid (E=0):=by show _=_;rw[HR2.out,if_pos g3]
    clear HR2 g3;have qx1_4:=x1.c4;have qx1_6:=x1.c6;go_wp2;go_ret;exact⟨ZH HQ.out.symm,hb⟩
   have e5:(x.used==[])=false:=by rw[Bn];exact g3
   have e6:x.used.isEmpty=false:=by rw[List.isEmpty_eq_false_iff];exact g3
   have HR3:=Lh (HR2.out.trans (if_neg g3));clear HR2 g3
   by_cases g4:x.used=x.q
   ·have e7:(x.used==x.q)=true:=by rw[beq_iff_eq];exact g4
    have HQ:Hid (E=0):=by show _=_;rw[HR3.out,if_pos g4]
    clear HR3 g4;have qx1_4:=x1.c4;have qx1_6:=x1.c6;go_wp2;go_ret;exact⟨ZH HQ.out.symm,hb⟩
   have e7:(x.used==x.q)=false:=by rw[Bn];exact g4
   have HQ:Hid (E=2):=by show _=_;rw[HR3.out,if_neg g4]
   clear HR3 g4;have qx1_4:=x1.c4;have qx1_6:=x1.c6;go_wp2;go_ret;exact⟨ZH HQ.out.symm,hb⟩
  obtain⟨r,hr⟩:∃r,[x.q,x.cost,x.used][k]?=some r:=⟨_,List.getElem?_eq_getElem (show k<3 from hlk)⟩
  have CR:Hid (Vu 103 #[.string ⟨r.toArray⟩] (.int .i64 (if r=canon (val r) then 0 else 1))):=by
   have hk3:k=0∨k=1∨k=2:=by omega
   rcases hk3 with rfl|rfl|rfl
   ·cases hr;exact N0
   ·cases hr;exact N1
   ·cases hr;exact N2
  have p0:=(H9.out k r hr).1;have p0':wr.cell? ⟨B,k,none⟩=some (.string ⟨r.toArray⟩):=(hbr.cell (p:=⟨B,k,none⟩) (H9.out k r hr).2).trans p0;clear p0;have HS:=Lh (GO (R:=Jr x) hr);clear hr;have e1:decide (k<3)=true:=Dt hlk;have e2:decide ((k:Int)<3)=true:=Dt (by omega)
  go_wp2_with fail
  with_reducible refine (CR.out.of hG hb).mono ?_
  rintro e wa5 ⟨rfl,hba5⟩;replace x1:=x1.below hba5;replace hb:=bto hb hba5;replace hbr:=bto hbr hba5;clear hba5
  by_cases g:r=canon (val r)
  rotate_left
  ·have HQ:Hid (E=1):=by show _=_;rw[HV.out,HS.out,if_neg g]
   rw[if_neg g];clear HV HS g;go_wp2;go_ret;exact⟨ZH HQ.out.symm,hb⟩
  have HV1:Hid (E=Js ([x.q,x.cost,x.used].drop (k+1)) (Jr x)):=by show _=_;rw[HV.out,HS.out,if_pos g]
  rw[if_pos g];clear HV HS g;go_wp2;go_roundw
  case rel=>exact⟨k+1,by omega,by go_num,HV1.out,hbr⟩
  case measure=>simp[intOf];omega
def TR (seen:List (List UInt8)):List Lot->Int
 | []=>0
 | x::r=>if ¬UK x=0 then UK x else if seen.contains x.id=true then 5 else TR (seen++[x.id]) r
def Vp (xs:List Lot):Int:=if 1000<xs.length then 4 else TR [] xs
theorem Jt {xs:List Lot} {k:Nat} {x:Lot} (h:xs[k]?=some x):TR ((xs.take k).map (·.id)) (xs.drop k)=if ¬UK x=0 then UK x else if ((xs.take k).map (·.id)).contains x.id=true then 5 else TR ((xs.take (k+1)).map (·.id)) (xs.drop (k+1)):=by
 obtain⟨hk,rfl⟩:=Lg.1 h;rw[List.drop_eq_getElem_cons hk,List.take_succ_eq_append_getElem hk];rw[List.map_append];rfl
theorem OE:∀(xs:List Lot) (seen:List (List UInt8)),TR seen xs=0->(∀x∈xs,UK x=0)/\(xs.map (·.id)).Nodup/\∀x∈xs,x.id∉seen
 | [],_,_=>⟨fun x hx=>(by cases hx),List.nodup_nil,fun x hx=>(by cases hx)⟩
 | x::r,seen,h=>by
  unfold TR at h
  by_cases h0:UK x=0
  ·rw[if_neg (fun g=>g h0)] at h
   by_cases h1:seen.contains x.id=true
   ·rw[if_pos h1] at h;exact absurd h (by decide)
   ·rw[if_neg h1] at h;obtain⟨a,b,c⟩:=OE r _ h;refine⟨fun y hy=>?_,?_,fun y hy=>?_⟩
    ·rcases List.mem_cons.1 hy with rfl|hy
     ·exact h0
     ·exact a y hy
    ·rw[List.map_cons,List.nodup_cons];refine⟨fun hm=>?_,b⟩
     obtain⟨y,hy,e⟩:=List.mem_map.1 hm;exact c y hy (by rw[e];simp)
    ·rcases List.mem_cons.1 hy with rfl|hy
     ·simpa using h1
     ·exact fun g=>c y hy (List.mem_append_left _ g)
  ·rw[if_pos h0] at h;exact absurd h h0
theorem OF {xs:List Lot} (h:Vp xs=0):xs.length<=1000/\(∀x∈xs,UK x=0)/\(xs.map (·.id)).Nodup:=by
 unfold Vp at h
 by_cases h1:1000<xs.length
 ·rw[if_pos h1] at h;exact absurd h (by decide)
 ·rw[if_neg h1] at h;obtain⟨a,b,-⟩:=OE xs [] h;exact⟨Nat.le_of_not_lt h1,a,b⟩
def SP (w:World) (M:Nat) (es:Array MapEntry) (c:Nat):Prop:=w.heap[M]?=some (.map es c)
theorem SP.lt {w:World} {M c:Nat} {es:Array MapEntry} (h:SP w M es c):M<w.heap.size:=(Ag.1 h).1
theorem SP.below {w w':World} {M c:Nat} {es:Array MapEntry} (h:SP w M es c) (hb:Below w.heap.size w w'):SP w' M es c:=(hb.block M h.lt).trans h
theorem SP.new (w:World):SP (w.alloc (.map #[] 0)) w.heap.size #[] 0:=by unfold SP;simp[World.alloc,-World.alloc_eq]
theorem SP.put {w:World} {M c:Nat} {es:Array MapEntry} (h:SP w M es c) (es':Array MapEntry) (c':Nat):SP { w with heap:=w.heap.setIfInBounds M (.map es' c') } M es' c':=by
 have:=h.lt
 unfold SP;simp[this]
theorem Ju {w W:World} {M:Nat} {ob:Obj} (h:Below w.heap.size w W) (hl:w.heap.size<=M):Below w.heap.size w { W with heap:=W.heap.setIfInBounds M ob }:=
 ⟨h.os,h.tape,h.output,by simpa using h.size,fun k hk=>by
  show (W.heap.setIfInBounds M ob)[k]?=_;rw[Array.getElem?_setIfInBounds_ne (by omega)]
  exact h.block k hk⟩
theorem Qp (b:ByteArray):MapKept.IsKey .string (.string b):=trivial
structure Xp (w:World) (A:Option Addr) (xs:List Lot) (n:Nat):Prop where
 len:xs.length=n
 big:n<=100000
 sm:∀x∈xs,OD x
 mem:Vy w A xs
theorem Xp.below {w w':World} {A:Option Addr} {xs:List Lot} {n:Nat} (h:Xp w A xs n) (hb:Below w.heap.size w w'):Xp w' A xs n:=⟨h.len,h.big,h.sm,h.mem.below hb⟩
theorem Qq {w:World} {A:Option Addr} {xs:List Lot} {n:Nat} (c:Nat) (hG:GE w) (hL:Xp w A xs n) :
  Calls Tryz.prog 120 #[.slice A n c] w fun e w'=>e=.returned (.int .i64 (Vp xs))/\Below w.heap.size w w':=by
 have hn:=hL.len;have hn2:=hL.big;have HI:=Lh hL.mem;have HX:=Lh hL.sm;have hn1:xs.length<=n:=by omega
 have hn3:n<=xs.length:=by omega
 have HM:=Lh hn;obtain⟨E,hE⟩:∃E,E=Vp xs:=⟨_,rfl⟩
 rw[<-hE];unfold Vp at hE;have HV:=Lh hE;clear hE hL hn
 by_cases g1:1000<n
 ·have e1:decide (1000<n)=true:=Dt g1;have e2:decide ((1000:Int)<(n:Int))=true:=Dt (by omega)
  have HQ:Hid (E=4):=by show _=_;rw[HV.out,if_pos (by omega)]
  clear HV g1;go_enter Tryz.func120,Tryz.ntmps120;go_wp2;go_ret;exact⟨ZH HQ.out.symm,Below.refl _ _⟩
 have e1:decide (1000<n)=false:=Df g1;have e2:decide ((1000:Int)<(n:Int))=false:=Df (by omega)
 have HV1:Hid (E=TR [] xs):=by show _=_;rw[HV.out,if_neg (by omega)]
 clear HV g1;go_enter Tryz.func120,Tryz.ntmps120;have hmk:=fun w=>run_makeMap (P:=Tryz.prog) 264 w
 go_wp2_with fail;clear hmk e1 e2;have hb0:=Zb w (.map #[] 0);have hM0:=Lh (SP.new w)
 go_loopw [5,6,13] (fun _ _ iv wr=>∃k:Nat,k<=n/\iv=.int .i64 (k:Int)/\Hid (E=TR ((xs.take k).map (·.id)) (xs.drop k))/\Hid (SP wr w.heap.size (UG ((xs.take k).map (·.id))) k)/\Below w.heap.size w wr) (fun _ _ iv _=>n-(intOf iv).toNat)
 case atStart=>exact⟨0,Nat.zero_le _,rfl,HV1.out,hM0.out,hb0⟩
 case round=>
  clear HV1 hM0 hb0;obtain⟨k,hk,rfl,HV,HB,hb⟩:=hrel
  by_cases hlk:k<n
  rotate_left
  ·have HQ:Hid (E=0):=by show _=_;rw[HV.out,List.drop_of_length_le (by omega)];rfl
   have e1:decide (k<n)=false:=Df hlk;clear HV HB;go_wp2;go_ret;exact⟨ZH HQ.out.symm,hb⟩
  have e1:decide (k<n)=true:=Dt hlk;obtain⟨x,hxk⟩:∃x,xs[k]?=some x:=⟨_,List.getElem?_eq_getElem (by omega)⟩
  obtain⟨b,o,rfl,hbs,hc0⟩:=(HI.out.below hb) k x hxk;have HD:=Lh (Jt hxk);have hsm:=HX.out x (Lm hxk);have HT:Hid ((xs.take (k+1)).map (·.id)=(xs.take k).map (·.id)++[x.id]):=by
   show _=_;obtain⟨hk',rfl⟩:=Lg.1 hxk;rw[List.take_succ_eq_append_getElem hk',List.map_append];rfl
  have HLl:Hid (((xs.take k).map (·.id)).length=k):=by show _=_;rw[List.length_map,List.length_take];omega
  obtain⟨sn,hsn⟩:∃sn,sn=(xs.take k).map (·.id):=⟨_,rfl⟩
  rw[<-hsn] at HB HD HV HT HLl;have C1:=Lh (E8 hsm);clear hxk hsn hsm;have p0:=hc0.c0;have p1:=hc0.c1;have p2:=hc0.c2;have p3:=hc0.c3;have p4:=hc0.c4;have p5:=hc0.c5;have p6:=hc0.c6;have hbA:=Zb wr (.cells #[Value.string ⟨x.id.toArray⟩,Value.string ⟨x.ins.toArray⟩,Value.int .i64 x.acq,Value.int .i64 x.opn,Value.string ⟨x.q.toArray⟩,Value.string ⟨x.cost.toArray⟩,Value.string ⟨x.used.toArray⟩] 130);have x5:=Xh.new wr x 130;replace hb:=bto hb hbA;replace HB:=Lh (HB.out.below hbA);clear hbA;go_wp2_with fail
  with_reducible refine (C1.out.of hG hb).mono ?_
  rintro e w1 ⟨rfl,hb1⟩;clear p0 p1 p2 p3 p4 p5 p6 hc0 C1;replace hb:=bto hb hb1;replace HB:=Lh (HB.out.below hb1);replace x5:=x5.below hb1;clear hb1
  by_cases g2:UK x=0
  rotate_left
  ·have e3:(UK x==0)=false:=by rw[Bn];exact g2
   have e4:=QQ e3;have HQ:Hid (E=UK x):=by show _=_;rw[HV.out,HD.out,if_pos g2]
   clear g2 HV HD HB x5;go_wp2;go_ret;exact⟨ZH HQ.out.symm,hb⟩
  have e3:(UK x==0)=true:=by rw[beq_iff_eq];exact g2
  have e4:=Zba e3;have HV2:Hid (E=if sn.contains x.id=true then 5 else TR ((xs.take (k+1)).map (·.id)) (xs.drop (k+1))):=by show _=_;rw[HV.out,HD.out,if_neg (fun h=>h g2)]
  clear g2 HV HD;have q0:=x5.c0;have hf:=SO x.id sn 0 0
  by_cases g3:sn.contains x.id=true
  ·have HQ:Hid (E=5):=by show _=_;rw[HV2.out,if_pos g3]
   rw[if_pos g3] at hf;have hlook:=Un (P:=Tryz.prog) (mty:=264) (key:=.string ⟨x.id.toArray⟩) Tryz.underlying264 Tryz.underlying9 (Qp _) HB.out (by simpa [UG] using hf) false
   clear g3 HV2 hf HB;go_wp2;go_ret;exact⟨ZH HQ.out.symm,hb⟩
  ·have HQ:Hid (E=TR ((xs.take (k+1)).map (·.id)) (xs.drop (k+1))):=by show _=_;rw[HV2.out,if_neg g3]
   rw[if_neg g3] at hf;have hlook:=TP (P:=Tryz.prog) (mty:=264) (key:=.string ⟨x.id.toArray⟩) Tryz.underlying264 Tryz.underlying9 (Qp _) HB.out (Tryz.zeroValue4 w1) (by simpa [UG] using hf) false
   have hput:=UW (P:=Tryz.prog) (mty:=264) (key:=.string ⟨x.id.toArray⟩) (val:=.bool true) Tryz.underlying264 Tryz.underlying9 (Qp _) HB.out (by simpa [UG] using hf)
   have HB2:=Lh (HB.out.put ((UG sn).push { key:=.string ⟨x.id.toArray⟩,val:=.bool true,born:=k }) (k+1));have hb2:=Ju (M:=w.heap.size) (ob:=.map ((UG sn).push { key:=.string ⟨x.id.toArray⟩,val:=.bool true,born:=k }) (k+1)) hb (Nl _);obtain⟨W,hW⟩:∃W:World,W={ w1 with heap:=w1.heap.setIfInBounds w.heap.size (.map ((UG sn).push { key:=.string ⟨x.id.toArray⟩,val:=.bool true,born:=k }) (k+1)) }:=⟨_,rfl⟩
   rw[<-hW] at hput HB2 hb2;have HS:Hid (UG (sn++[x.id])=(UG sn).push { key:=.string ⟨x.id.toArray⟩,val:=.bool true,born:=k }):=by show _=_;rw[Jp,HLl.out]
   clear g3 HV2 hf HB hW hb HLl;go_wp2;go_roundw
   case rel=>exact⟨k+1,by omega,by go_num,HQ.out,(by rw[HT.out,HS.out];exact HB2.out),hb2⟩
   case measure=>simp[intOf];omega
open Go.Shelf
attribute [local go_sem] Oper.semAt_some
theorem NK (xs ys:List Lot):Yf (xs++ys)=Yf xs++Yf ys:=List.flatMap_append
theorem VT:∀xs:List Lot,(Yf xs).length=xs.length*7
 | []=>rfl
 | x::r=>by
  have:=VT r
  unfold Yf at this ⊢;rw[List.flatMap_cons,List.length_append,this];simp;omega
theorem VU (xs:List Lot):∀u∈Yf xs,u.oneCell'=true:=by
 intro u hu;obtain⟨x,-,hx⟩:=List.mem_flatMap.1 hu;simp at hx;rcases hx with rfl|rfl|rfl|rfl|rfl|rfl|rfl<;>rfl
theorem UY:(Tryz.prog.info? 130).map (fun i=>(i.zero,i.size,i.bytes))=some (some (.agg #[.string ⟨#[]⟩,.string ⟨#[]⟩,.int .i64 0,.int .i64 0,.string ⟨#[]⟩,.string ⟨#[]⟩,.string ⟨#[]⟩]),7,96):=by kernel_rfl
def E9 (w:World) (gf:Nat) (lb:Array Value) (qs:List Lot):Prop:=
 ∀(m lw:Nat) (S:List Lot->World->Prop),(∀ys W,S ys W->Below w.heap.size w W)->(∀ys W W',S ys W->Below W.heap.size W W'->S ys W')->
  (∀ys y W,S ys W->qs[ys.length]?=some y->YieldAt Fence.wide (m-1) Tryz.prog lw #[(Value.agg #[Value.string ⟨y.id.toArray⟩,Value.string ⟨y.ins.toArray⟩,Value.int .i64 y.acq,Value.int .i64 y.opn,Value.string ⟨y.q.toArray⟩,Value.string ⟨y.cost.toArray⟩,Value.string ⟨y.used.toArray⟩])] W fun e W'=>e=.returned (.bool true)/\S (ys++[y]) W')->
  ∀W,S [] W->CallsIn Fence.wide m Tryz.prog gf (#[.func (.yield lw) #[] #[]]++lb) W fun e W'=>(∃v,e=.returned v)/\S qs W'
structure CoL (w:World) (R:Loop) (d l:Nat) (ys:List Lot) (W:World):Prop where
 below:Below w.heap.size w W
 loop:W.heap[l]?=some (.loop R)
 dfr:W.heap[d]?=some (.deferred (some []))
 row:∃v,Boxed W w.heap.size 44 v/\W.ownsRow w.heap.size 130 7 v ys.length (Yf ys)
section
variable {w W W':World} {R:Loop} {d l:Nat} {ys:List Lot}
theorem CoL.mono (h:CoL w R d l ys W) (hb:Below W.heap.size W W'):CoL w R d l ys W':=
 ⟨bto h.below hb,(hb.block _ (Ag.1 h.loop).1).trans h.loop,(hb.block _ (Ag.1 h.dfr).1).trans h.dfr,by
  obtain⟨v,h1,h2⟩:=h.row
  exact⟨v,(hb.block _ h1.lt).trans h1,ZN h2 hb⟩⟩
theorem CoL.done {R1 R2:Loop} (hR:R2=R) (hl:l≠d/\l≠w.heap.size/\w.heap.size<=l) (h:CoL w R1 d l ys W):CoL w R d l ys (W.putObj l (.loop R2)):=by
 subst hR;refine⟨Xb h.below hl.2.2,World.putObj_heap_same (Ag.1 h.loop).1,(World.putObj_heap_other (by omega)).trans h.dfr,?_⟩
 obtain⟨v,h1,h2⟩:=h.row;exact⟨v,(World.putObj_heap_other (Ne.symm hl.2.1)).trans h1,ownsRow_putObj h2 _ h.loop rfl⟩
end
theorem Jv (gf:Nat) (lb:Array Value) (qs:List Lot) (w:World) (hEn:∀args w,(callFunc gf args).run Tryz.prog w=.ok (.enter gf args) w) (hI:E9 w gf lb qs) (hM:qs.length<=100000) :
  Calls Tryz.prog 238 #[.slice none 0 0,.func (.func gf) #[] lb] w fun e w'=>∃v,e=.returned v/\w'.ownsRow w.heap.size 130 7 v qs.length (Yf qs)/\Below w.heap.size w w':=by
 have HI:=Lh hI;have HE:=Lh hEn;obtain⟨i0,hi,hz0,hz1,hz2⟩:=info_parts UY;have hb0:=Zb w (.cells #[.slice none 0 0] 44);clear hI hEn;refine (callsIn_wide (n:=5)).1 ?_;refine callsIn_of_wp_marks Tryz.func238 rfl trivial ?_ rfl;simp only[Tryz.ntmps238,List.size_toArray,List.length_cons,List.length_nil,Nat.reduceAdd,Nat.reduceSub,Array.replicate_succ,Array.replicate_zero,List.push_toArray,List.append_toArray,List.nil_append,List.cons_append]
 gi_wp2_with fail
 refine XW (gf:=gf) (lb:=lb) rfl HE.out ?_;intro fn R hR;obtain⟨W0,hW0⟩:∃W0,W0=w.alloc (.cells #[.slice none 0 0] 44):=⟨_,rfl⟩
 have hsz:W0.heap.size=w.heap.size+1:=by rw[hW0];simp only[World.size_alloc]
 have x2:Boxed W0 w.heap.size 44 (.slice none 0 0):=by rw[hW0];exact Boxed.new _ _ _
 rw[<-hW0] at hR hb0 ⊢;clear hW0;obtain⟨W1,hW1⟩:∃W1,W1=(W0.alloc (.deferred (some []))).alloc (.loop R):=⟨_,rfl⟩
 have hbB:Below W0.heap.size W0 W1:=by rw[hW1];exact bto (Zb _ _) (Zb _ _)
 have hD:W1.heap[W0.heap.size]?=some (.deferred (some [])):=by rw[hW1];exact (Below.heap_alloc _ _ _ (by simp)).trans (World.alloc_heap_new _ _)
 have hL:W1.heap[W0.heap.size+1]?=some (.loop R):=by
  rw[hW1]
  have:=World.alloc_heap_new (W0.alloc (.deferred (some []))) (.loop R)
  rwa [World.size_alloc] at this
 rw[<-hW1];obtain⟨l,hl⟩:∃l,l=W0.heap.size+1:=⟨_,rfl⟩
 obtain⟨d,hd⟩:∃d,d=W0.heap.size:=⟨_,rfl⟩
 rw[<-hl] at hL ⊢;rw[<-hd] at hD hR ⊢;have hS0:CoL w R d l [] W1:=⟨bto hb0 hbB,hL,hD,⟨_,(hbB.block _ x2.lt).trans x2,World.ownsRow_nil _ _ _ 7⟩⟩;have n1:l≠d/\l≠w.heap.size/\w.heap.size<=l:=by omega
 have n3:w.heap.size<=d/\d≠w.heap.size:=by omega
 clear hW1 hbB hD hL x2 hb0 hsz hl hd;have hY:∀ys y W,CoL w R d l ys W->qs[ys.length]?=some y->YieldAt Fence.wide (5-1-1) Tryz.prog l #[(Value.agg #[Value.string ⟨y.id.toArray⟩,Value.string ⟨y.ins.toArray⟩,Value.int .i64 y.acq,Value.int .i64 y.opn,Value.string ⟨y.q.toArray⟩,Value.string ⟨y.cost.toArray⟩,Value.string ⟨y.used.toArray⟩])] W fun e W'=>e=.returned (.bool true)/\CoL w R d l (ys++[y]) W':=by
  intro ys y W hS hyb;have hlen:=(Lg.1 hyb).1;have hy:=run_yield (P:=Tryz.prog) (args:=#[(Value.agg #[Value.string ⟨y.id.toArray⟩,Value.string ⟨y.ins.toArray⟩,Value.int .i64 y.acq,Value.int .i64 y.opn,Value.string ⟨y.q.toArray⟩,Value.string ⟨y.cost.toArray⟩,Value.string ⟨y.used.toArray⟩])]) hS.loop (by rw[hR];rfl)
  refine⟨R.fn,_,R.assign,R.body,hy,roundIn_of_wpIn trivial ?_⟩;have hlW:=(Ag.1 hS.loop).1;have hSa:=hS.mono (Zb W (.cells #[Value.string ⟨y.id.toArray⟩,Value.string ⟨y.ins.toArray⟩,Value.int .i64 y.acq,Value.int .i64 y.opn,Value.string ⟨y.q.toArray⟩,Value.string ⟨y.cost.toArray⟩,Value.string ⟨y.used.toArray⟩] 130));have hbr:=run_beginRound (P:=Tryz.prog) hSa.loop (by rw[hR])
  have hS1:CoL w { R with state:=.busy } d l ys ((W.alloc (.cells #[Value.string ⟨y.id.toArray⟩,Value.string ⟨y.ins.toArray⟩,Value.int .i64 y.acq,Value.int .i64 y.opn,Value.string ⟨y.q.toArray⟩,Value.string ⟨y.cost.toArray⟩,Value.string ⟨y.used.toArray⟩] 130)).putObj l (.loop { R with state:=.busy })):=CoL.done rfl n1 hSa
  have x4:Blk ((W.alloc (.cells #[Value.string ⟨y.id.toArray⟩,Value.string ⟨y.ins.toArray⟩,Value.int .i64 y.acq,Value.int .i64 y.opn,Value.string ⟨y.q.toArray⟩,Value.string ⟨y.cost.toArray⟩,Value.string ⟨y.used.toArray⟩] 130)).putObj l (.loop { R with state:=.busy })) W.heap.size #[Value.string ⟨y.id.toArray⟩,Value.string ⟨y.ins.toArray⟩,Value.int .i64 y.acq,Value.int .i64 y.opn,Value.string ⟨y.q.toArray⟩,Value.string ⟨y.cost.toArray⟩,Value.string ⟨y.used.toArray⟩]:=(Blk.new W _ 130).putO (by omega)
  obtain⟨Wc,hWc⟩:∃Wc,Wc=(W.alloc (.cells #[Value.string ⟨y.id.toArray⟩,Value.string ⟨y.ins.toArray⟩,Value.int .i64 y.acq,Value.int .i64 y.opn,Value.string ⟨y.q.toArray⟩,Value.string ⟨y.cost.toArray⟩,Value.string ⟨y.used.toArray⟩] 130)).putObj l (.loop { R with state:=.busy }):=⟨_,rfl⟩
  rw[<-hWc] at hbr hS1 x4;have hRe:({ { R with state:=.busy } with state:=.ready,pending:=none }:Loop)=R:=by rw[hR]
  obtain⟨R1,hR1⟩:∃R1,R1={ R with state:=.busy }:=⟨_,rfl⟩
  rw[<-hR1] at hS1 hRe;obtain⟨v,hv,hrow⟩:=hS1.row;have hbc:=hS1.below;have hc:=hv.cell;have p0:Wc.cell? ⟨W.heap.size,0,none⟩=some (.string ⟨y.id.toArray⟩):=x4.c 0;have p1:Wc.cell? ⟨W.heap.size,1,none⟩=some (.string ⟨y.ins.toArray⟩):=x4.c 1;have p2:Wc.cell? ⟨W.heap.size,2,none⟩=some (.int .i64 y.acq):=x4.c 2;have p3:Wc.cell? ⟨W.heap.size,3,none⟩=some (.int .i64 y.opn):=x4.c 3;have p4:Wc.cell? ⟨W.heap.size,4,none⟩=some (.string ⟨y.q.toArray⟩):=x4.c 4;have p5:Wc.cell? ⟨W.heap.size,5,none⟩=some (.string ⟨y.cost.toArray⟩):=x4.c 5;have p6:Wc.cell? ⟨W.heap.size,6,none⟩=some (.string ⟨y.used.toArray⟩):=x4.c 6;have HBr:=Lh hbr;have HRe:=Lh hRe;have HS2:=Lh hS1;clear hWc hbr hy hS hSa hlW hS1 hRe hR1 hS0;rw[hR]
  gi_wp2
  refine⟨_,HBr.out,?_⟩
  gi_wp2_with (gi_at_builtin;refine wpListIn_append_own _ rfl _ _ 44 rfl w.heap.size 130 i0 (.agg #[.string ⟨#[]⟩,.string ⟨#[]⟩,.int .i64 0,.int .i64 0,.string ⟨#[]⟩,.string ⟨#[]⟩,.string ⟨#[]⟩]) 7 96 Tryz.underlying44 hi hz0 hz1 hz2 rfl (by decide) _ _ _ rfl (ZN hrow (Zb _ _)) ⟨Wc.heap.size,0,none⟩ 1 1 #[Value.string ⟨y.id.toArray⟩,Value.string ⟨y.ins.toArray⟩,Value.int .i64 y.acq,Value.int .i64 y.opn,Value.string ⟨y.q.toArray⟩,Value.string ⟨y.cost.toArray⟩,Value.string ⟨y.used.toArray⟩].toList rfl rfl ?c1 ?c2 ?c3 ?c4 ?c5 ?_)
  try (case c1=>
    intro j u hu
    match j with
    | 0=>simp at hu;subst hu;rw[Lib.add_plain];simp[go_sem]
    | 1=>simp at hu;subst hu;rw[Lib.add_plain];simp[go_sem]
    | 2=>simp at hu;subst hu;rw[Lib.add_plain];simp[go_sem]
    | 3=>simp at hu;subst hu;rw[Lib.add_plain];simp[go_sem]
    | 4=>simp at hu;subst hu;rw[Lib.add_plain];simp[go_sem]
    | 5=>simp at hu;subst hu;rw[Lib.add_plain];simp[go_sem]
    | 6=>simp at hu;subst hu;rw[Lib.add_plain];simp[go_sem]
    | j+7=>simp at hu)
  case c2=>exact⟨rfl,rfl,rfl,rfl,rfl,rfl,rfl⟩
  case c3=>unfold maxLen;omega
  case c4=>omega
  case c5=>have:=hbc.size;simp;omega
  intro v' w1 hown' hgrow _;obtain⟨g',cap',rfl⟩:=ownsRow_succ hown';obtain⟨hv1,hv2,hr2,hk2,hb2⟩:=hv.appended (by decide) hrow hbc.size (Nl _) hown' hgrow
  have hc1:=hv1.cell;have hf1:=hv1.frozen;have HGO:Hid (CoL w R1 d l (ys++[y]) (w1.setCell ⟨w.heap.size,0,none⟩ (.slice (some ⟨g',0,none⟩) (ys.length+1) cap'))):=by
   refine⟨hbc.trans hb2,hk2.same _ _ HS2.out.loop rfl,hk2.same _ _ HS2.out.dfr rfl,_,hv2,?_⟩;have e1:(ys++[y]).length=ys.length+1:=by simp
   have e2:Yf (ys++[y])=Yf ys++#[Value.string ⟨y.id.toArray⟩,Value.string ⟨y.ins.toArray⟩,Value.int .i64 y.acq,Value.int .i64 y.opn,Value.string ⟨y.q.toArray⟩,Value.string ⟨y.cost.toArray⟩,Value.string ⟨y.used.toArray⟩].toList:=by
    rw[NK];rfl
   rw[e1,e2];exact hr2
  clear hown' hgrow hv1 hv2 hr2 hk2 hb2 hv hrow hc p0 p1 p2 p3 p4 p5 p6 HS2 x4
  gi_wp2
  exact⟨_,_,run_endRound (P:=Tryz.prog) none HGO.out.loop,rfl,CoL.done (HRe.out.trans hR) n1 HGO.out⟩
 have key:=HI.out (5-1) l (CoL w R d l) (fun ys W h=>h.below) (fun ys W W' h hb=>h.mono hb) hY W1 hS0
 refine key.mono ?_;rintro e W2 ⟨hv,hS2⟩;refine⟨hv,hS2.loop,?_⟩;have hS3:CoL w { R with state:=.exhausted } d l qs (W2.putObj l (.loop { R with state:=.exhausted })):=CoL.done rfl n1 hS2
 obtain⟨W3,hW3⟩:∃W3,W3=W2.putObj l (.loop { R with state:=.exhausted }):=⟨_,rfl⟩
 rw[<-hW3] at hS3 ⊢;obtain⟨v,hv,hrow⟩:=hS3.row;have q0:=hv.cell;have hD5:=hS3.dfr;have hb5:=hS3.below;have HR:=Lh (ownsRow_putObj hrow (.deferred none) hD5 rfl);clear hW3 hS3 key hY hS2 hS0 hrow HI
 gi_wp2
 refine⟨by simp,.inl ⟨_,_,rfl,run_takeDeferred hD5,?_⟩⟩
 refine⟨_,results_tmp rfl _ _ _,v,rfl,HR.out,Xb hb5 n3.1⟩
theorem Db (gf:Nat) (lb:Array Value) (qs:List Lot) (w:World) (hEn:∀args w,(callFunc gf args).run Tryz.prog w=.ok (.enter gf args) w) (hI:E9 w gf lb qs) (hM:qs.length<=100000) :
  Calls Tryz.prog 187 #[.func (.func gf) #[] lb] w fun e w'=>∃v,e=.returned v/\w'.ownsRow w.heap.size 130 7 v qs.length (Yf qs)/\Below w.heap.size w w':=by
 have C1:=Lh (Jv gf lb qs w hEn hI hM);clear hEn hI;go_enter Tryz.func187,Tryz.ntmps187;go_wp2_with fail;refine C1.out.mono ?_;rintro e w2 ⟨v,rfl,h1,h2⟩;go_wp2;go_ret;exact⟨_,rfl,h1,h2⟩
end Go.Proofs.YtpieeldbamklkaaGreatDoor
namespace Go.Proofs.YtpieeldbamklkaaGreatDoor
open Go.RowKit
section
variable {P:Program} {ops:Array Oper} {md:Region.Mode}
structure Zl (X:Nat->Prop) (w w':World):Prop where
 os:w'.os=w.os
 tape:w'.tape=w.tape
 output:w'.output=w.output
 size:w.heap.size<=w'.heap.size
 block:∀k,k<w.heap.size->¬X k->w'.heap[k]?=w.heap[k]?
variable {X:Nat->Prop}
theorem Zl.lower {w0 w w':World} (h:Zl X w w') (hb:Below w0.heap.size w0 w) (hX:∀k,X k->w0.heap.size<=k):Below w0.heap.size w0 w':=
 ⟨h.os.trans hb.os,h.tape.trans hb.tape,h.output.trans hb.output,Nt hb.size h.size,fun k hk=>(h.block k (Nat.lt_of_lt_of_le hk hb.size) (fun hx=>by have:=hX k hx;omega)).trans (hb.block k hk)⟩
theorem Blk.keepX {w w':World} {b:Nat} {cs:Array Value} (h:Blk w b cs) (hb:Zl X w w') (hx:¬X b):Blk w' b cs:=by
 have hl:=h.lt;obtain⟨t,h⟩:=h;exact⟨t,(hb.block b hl hx).trans h⟩
end
section
variable {P:Program} {ops:Array Oper} {C:World->Prop} {Q:St->Bx->Prop} {rest:List Oper} {i:Nat} {a:St} {B:Bx} {o:Oper}
theorem IK (w:World) (b j:Nat) (cs:Array Value) (x:Value) (t:TypeId) (h:w.heap[b]?=some (.cells cs t (0,0))):Xm w (w.setCell ⟨b,j,none⟩ x) b (.cells (cs.setIfInBounds j x) t (0,0)):=by
 refine⟨rfl,rfl,rfl,by simp,?_,fun k hk=>Below.heap_setCell w ⟨b,j,none⟩ x k hk⟩
 obtain⟨hlt,hk⟩:=Ag.1 h;show (w.heap.modify b _)[b]?=_;rw[Array.getElem?_eq_getElem (by rw[Array.size_modify];exact hlt),Array.getElem_modify_self,hk]
 rfl
section
variable {md:Region.Mode}
end
end
end Go.Proofs.YtpieeldbamklkaaGreatDoor
