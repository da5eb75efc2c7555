/- Texts put together: Te Tf Oa Ob Sa Od Dp Da. -/
import Derived.Test.YtpieeldbamklkaaGreatDoorW1
import Derived.Test.YtpieeldbamklkaaGreatDoorWBe
import Derived.RangeFuncBox
import Derived.OwnWalkIn
import Derived.MapKept
import Derived.Maps.OwnOps
import Derived.Shelf.Strings.Cut
import Derived.Shelf.Strings.Prefix
import Derived.Shelf.Strconv.AtoiAll
set_option maxHeartbeats 4000000
set_option maxRecDepth 100000
namespace Go.Proofs.YtpieeldbamklkaaGreatDoor
open Go.RowKit Go.Shelf Num
attribute [local go_sem] Oper.semAt_some
structure VR (w:World) (R:Loop) (o d l M:Nat) (ys:List Rat) (W:World):Prop where
 below:Below w.heap.size w W
 loop:W.heap[l]?=some (.loop R)
 dfr:W.heap[d]?=some (.deferred (some []))
 res:Blk W w.heap.size #[.string ⟨#[]⟩,.string ⟨#[]⟩]
 out:Blk W o #[.string ⟨(fN (Yq 1 ys)).toArray⟩,.string ⟨(fD (Yq 1 ys)).toArray⟩]
 bd:∀q∈ys,Bd M q
section
variable {w W W':World} {R:Loop} {o d l M:Nat} {ys:List Rat}
theorem VR.mono (h:VR w R o d l M ys W) (hb:Below W.heap.size W W'):VR w R o d l M ys W':=
 ⟨bto h.below hb,(hb.block _ (Ag.1 h.loop).1).trans h.loop,(hb.block _ (Ag.1 h.dfr).1).trans h.dfr,h.res.below hb,h.out.below hb,h.bd⟩
theorem VR.done {R1 R2:Loop} (hR:R2=R) (hl:l≠d/\l≠o/\l≠w.heap.size/\w.heap.size<=l) (h:VR w R1 o d l M ys W):VR w R o d l M ys (W.putObj l (.loop R2)):=by
 subst hR;exact⟨YG h.below hl.2.2.2,World.putObj_heap_same (Ag.1 h.loop).1,(World.putObj_heap_other (by omega)).trans h.dfr,h.res.putO (by omega),h.out.putO (by omega),h.bd⟩
theorem VR.step (h:VR w R o d l M ys W) {y:Rat} (hy:Bd M y) (hl:l≠o/\d≠o/\w.heap.size≠o/\w.heap.size<=o) :
  VR w R o d l M (ys++[y]) ((W.setCell ⟨o,0,none⟩ (.string ⟨(fN (Yq 1 ys*y)).toArray⟩)).setCell ⟨o,1,none⟩ (.string ⟨(fD (Yq 1 ys*y)).toArray⟩)):=by
 have e:=Kt ys 1 y;refine⟨(h.below.setCell (p:=⟨_,0,none⟩) hl.2.2.2 _).setCell (p:=⟨_,1,none⟩) hl.2.2.2 _,Y8 (Y8 h.loop hl.1) hl.1,Y8 (Y8 h.dfr hl.2.1) hl.2.1,(h.res.setO hl.2.2.1).setO hl.2.2.1,?_,?_⟩
 ·rw[e];exact h.out.set2 _ _
 ·intro q hq;rcases List.mem_append.1 hq with hq|hq
  ·exact h.bd q hq
  ·rw[List.mem_singleton.1 hq];exact hy
end
theorem He (gf:Nat) (lb:Array Value) (qs:List Rat) (M:Nat) (w:World) (hG:ZP w) (hEn:∀args w,(callFunc gf args).run Tryz.prog w=.ok (.enter gf args) w) (hI:S6 w gf lb qs M) (hM:1+M*qs.length+M<=90000) :
  Calls Tryz.prog 84 #[.func (.func gf) #[] lb] w fun e w'=>e=.returned (Value.agg #[Value.string ⟨List.toArray (fN (Yq 1 qs))⟩,Value.string ⟨List.toArray (fD (Yq 1 qs))⟩])/\Below w.heap.size w w':=by
 have c0:Ret 31 #[.string ⟨[49].toArray⟩] (Value.agg #[Value.string ⟨List.toArray (fN ((1:Rat)))⟩,Value.string ⟨List.toArray (fD ((1:Rat)))⟩]):=by have h:=rOf (l:=[49]) (by decide) (z:=1) (by decide);exact h
 have C0:=Lh c0;have HI:=Lh hI;have HE:=Lh hEn;have hb0:=Zd w (.cells #[.string ⟨#[]⟩,.string ⟨#[]⟩] 34);clear c0 hI hEn;refine (callsIn_wide (n:=5)).1 ?_;refine callsIn_of_wp_marks Tryz.func84 rfl trivial ?_ rfl;simp only[Tryz.ntmps84,List.size_toArray,List.length_cons,List.length_nil,Nat.reduceAdd,Nat.reduceSub,Array.replicate_succ,Array.replicate_zero,List.push_toArray,List.append_toArray,List.nil_append,List.cons_append]
 gi_wp2_with (refine⟨trivial,?_⟩;gi_at_call 31;(with_reducible refine (callsIn_wide.2 (C0.out.of hG hb0)).mono ?_);rintro e w3 ⟨rfl,hb3⟩)
 refine XW (gf:=gf) (lb:=lb) rfl HE.out ?_;intro fn R hR;have hs3:w.heap.size+1<=w3.heap.size:=by have:=hb3.size;simpa using this
 have y2:Blk w3 w.heap.size #[.string ⟨#[]⟩,.string ⟨#[]⟩]:=(Blk.new w _ 34).below hb3;obtain⟨W0,hW0⟩:∃W0,W0=w3.alloc (.cells #[.string ⟨(fN ((1:Rat))).toArray⟩,.string ⟨(fD ((1:Rat))).toArray⟩] 34):=⟨_,rfl⟩
 have hsz:W0.heap.size=w3.heap.size+1:=by rw[hW0];simp only[World.size_alloc]
 have hbA:Below w.heap.size w W0:=by rw[hW0];exact bto (bto hb0 hb3) (Zd _ _)
 have x2:Blk W0 w.heap.size #[.string ⟨#[]⟩,.string ⟨#[]⟩]:=by rw[hW0];exact y2.below (Zd _ _)
 have x3:Blk W0 w3.heap.size #[.string ⟨(fN (1:Rat)).toArray⟩,.string ⟨(fD (1:Rat)).toArray⟩]:=by rw[hW0];exact Blk.new _ _ _
 rw[<-hW0] at hR ⊢;clear hW0 y2;obtain⟨W1,hW1⟩:∃W1,W1=(W0.alloc (.deferred (some []))).alloc (.loop R):=⟨_,rfl⟩
 have hbB:Below W0.heap.size W0 W1:=by rw[hW1];exact bto (Zd _ _) (Zd _ _)
 have hD:W1.heap[W0.heap.size]?=some (.deferred (some [])):=by rw[hW1];exact (Below.heap_alloc _ _ _ (by simp)).trans (World.alloc_heap_new _ _)
 have hL:W1.heap[W0.heap.size+1]?=some (.loop R):=by
  rw[hW1]
  have:=World.alloc_heap_new (W0.alloc (.deferred (some []))) (.loop R)
  rwa [World.size_alloc] at this
 rw[<-hW1];obtain⟨l,hl⟩:∃l,l=W0.heap.size+1:=⟨_,rfl⟩
 obtain⟨d,hd⟩:∃d,d=W0.heap.size:=⟨_,rfl⟩
 obtain⟨o,ho⟩:∃o,o=w3.heap.size:=⟨_,rfl⟩
 rw[<-hl] at hL ⊢;rw[<-hd] at hD hR ⊢;rw[<-ho] at x3 hR;have hS0:VR w R o d l M [] W1:=⟨bto hbA hbB,hL,hD,x2.below hbB,x3.below hbB,fun q hq=>by cases hq⟩
 have n1:l≠d/\l≠o/\l≠w.heap.size/\w.heap.size<=l:=by omega
 have n2:l≠o/\d≠o/\w.heap.size≠o/\w.heap.size<=o:=by omega
 have n3:w.heap.size<=d/\d≠w.heap.size:=by omega
 (try rw[<-ho])
 clear hW1 hbB hD hL x2 x3 hbA hsz hl hd ho hs3 hb3 C0;have hY:∀ys y W,VR w R o d l M ys W->Bd M y->ys.length<qs.length->YieldAt Fence.wide (5-1-1) Tryz.prog l #[(Value.agg #[Value.string ⟨List.toArray (fN y)⟩,Value.string ⟨List.toArray (fD y)⟩])] W fun e W'=>e=.returned (.bool true)/\VR w R o d l M (ys++[y]) W':=by
  intro ys y W hS hyb hlen;have hy:=run_yield (P:=Tryz.prog) (args:=#[(Value.agg #[Value.string ⟨List.toArray (fN y)⟩,Value.string ⟨List.toArray (fD y)⟩])]) hS.loop (by rw[hR];rfl)
  refine⟨R.fn,_,R.assign,R.body,hy,roundIn_of_wpIn trivial ?_⟩;have hlW:=(Ag.1 hS.loop).1;have hSa:=hS.mono (Zd W (.cells #[.string ⟨(fN (y)).toArray⟩,.string ⟨(fD (y)).toArray⟩] 34));have hbr:=run_beginRound (P:=Tryz.prog) hSa.loop (by rw[hR])
  have hS1:VR w { R with state:=.busy } o d l M ys ((W.alloc (.cells #[.string ⟨(fN (y)).toArray⟩,.string ⟨(fD (y)).toArray⟩] 34)).putObj l (.loop { R with state:=.busy })):=VR.done rfl n1 hSa
  have x4:Blk ((W.alloc (.cells #[.string ⟨(fN (y)).toArray⟩,.string ⟨(fD (y)).toArray⟩] 34)).putObj l (.loop { R with state:=.busy })) W.heap.size #[.string ⟨(fN y).toArray⟩,.string ⟨(fD y).toArray⟩]:=(Blk.new W _ 34).putO (by omega)
  obtain⟨Wb,hWb⟩:∃Wb,Wb=(W.alloc (.cells #[.string ⟨(fN (y)).toArray⟩,.string ⟨(fD (y)).toArray⟩] 34)).putObj l (.loop { R with state:=.busy }):=⟨_,rfl⟩
  rw[<-hWb] at hbr hS1 x4;have hRe:({ { R with state:=.busy } with state:=.ready,pending:=none }:Loop)=R:=by rw[hR]
  obtain⟨R1,hR1⟩:∃R1,R1={ R with state:=.busy }:=⟨_,rfl⟩
  rw[<-hR1] at hS1 hRe;have hxb:Bd (1+M*ys.length) (Yq 1 ys):=PL ys Kv hS1.bd;have hlen2:M*ys.length<=M*qs.length:=Nat.mul_le_mul_left M (by omega)
  have HS2:=Lh hS1;have HC:=Lh (Zav (VC hxb (by omega)) (VC hyb (by omega)) rfl)
  have HST:Hid (∀W',VR w R1 o d l M ys W'->VR w R1 o d l M (ys++[y]) ((W'.setCell ⟨o,0,none⟩ (.string ⟨(fN (Yq 1 ys*y)).toArray⟩)).setCell ⟨o,1,none⟩ (.string ⟨(fD (Yq 1 ys*y)).toArray⟩))):=fun W' h=>h.step hyb n2
  have HBr:=Lh hbr;have HRe:=Lh hRe;obtain⟨x,hx⟩:∃x,x=Yq 1 ys:=⟨_,rfl⟩
  obtain⟨z,hz⟩:∃z,z=Yq 1 ys*y:=⟨_,rfl⟩
  rw[<-hz] at HC HST;have q0:Wb.cell? ⟨o,0,none⟩=some (.string ⟨(fN x).toArray⟩):=by rw[hx];exact HS2.out.out.c 0
  have q1:Wb.cell? ⟨o,1,none⟩=some (.string ⟨(fD x).toArray⟩):=by rw[hx];exact HS2.out.out.c 1
  rw[<-hx] at HC;have p0:Wb.cell? ⟨W.heap.size,0,none⟩=some (.string ⟨(fN y).toArray⟩):=x4.c 0;have p1:Wb.cell? ⟨W.heap.size,1,none⟩=some (.string ⟨(fD y).toArray⟩):=x4.c 1;have hbW:=HS2.out.below;have HX:=Lh hx;clear hWb hbr hy hS hSa hlW hS1 hRe hR1 hxb hlen hlen2 hyb x4 hx hz hS0;rw[hR]
  gi_wp2
  refine⟨_,HBr.out,?_⟩
  gi_wp2_with fail
  refine⟨trivial,?_⟩;refine (CallsIn.inRound l (callsIn_wide.2 (HC.out.of hG hbW))).mono ?_;rintro e w4 ⟨rfl,hb4⟩;have HS4:=Lh (HS2.out.mono hb4);have HGO:=Lh (HST.out _ HS4.out);have hF:=HS4.out.out.box;have g0:=hF.c0;have g1:=hF.c1;have g2:=hF.f0;have g3:=hF.f1;rw[<-HX.out] at g0 g1;clear q0 q1 p0 p1 HC hbW HS2 HS4 hb4 hF HBr HST HX
  gi_wp2
  exact⟨_,_,run_endRound (P:=Tryz.prog) none HGO.out.loop,rfl,VR.done (HRe.out.trans hR) n1 HGO.out⟩
 have key:=HI.out (5-1) l (VR w R o d l M) (fun ys W h=>h.below) (fun ys W W' h hb=>h.mono hb) hY W1 hS0
 refine key.mono ?_;rintro e W2 ⟨hv,hS2⟩;refine⟨hv,hS2.loop,?_⟩;have hS3:VR w { R with state:=.exhausted } o d l M qs (W2.putObj l (.loop { R with state:=.exhausted })):=VR.done rfl n1 hS2
 obtain⟨W3,hW3⟩:∃W3,W3=W2.putObj l (.loop { R with state:=.exhausted }):=⟨_,rfl⟩
 rw[<-hW3] at hS3 ⊢;have hF:=hS3.out.box;have hH:=hS3.res.box;have q0:=hF.c0;have q1:=hF.c1;have g0:=hH.c0;have g1:=hH.c1;have g2:=hH.f0;have g3:=hH.f1;have hD5:=hS3.dfr;have hb5:=hS3.below;have HBk:=Lh (hS3.res.set2 (.string ⟨(fN (Yq 1 qs)).toArray⟩) (.string ⟨(fD (Yq 1 qs)).toArray⟩));clear hW3 hS3 key hY hS2 hS0 hv hF hH HI;obtain⟨q,hq⟩:∃q,q=Yq 1 qs:=⟨_,rfl⟩
 have HQ:=Lh hq;rw[<-hq] at q0 q1 HBk;clear hq
 gi_wp2
 have hD6:=Y8 (i:=1) (u:=.string ⟨(fD q).toArray⟩) (Y8 (i:=0) (u:=.string ⟨(fN q).toArray⟩) hD5 n3.2) n3.2;have hP:=HBk.out.putO (l:=d) (ob:=.deferred none) (by omega)
 have d0:=hP.c 0;have d1:=hP.c 1;refine⟨by simp,.inl ⟨_,_,rfl,run_takeDeferred hD6,?_⟩⟩
 refine⟨(Value.agg #[Value.string ⟨List.toArray (fN q)⟩,Value.string ⟨List.toArray (fD q)⟩]),by simp[results,Tryz.results84,go_sem,d0,d1],?_⟩
 exact⟨by rw[HQ.out],YG (ZE hb5 (Nl _) _ _) n3.1⟩
theorem Zz {w w':World} {B k sz:Nat} {ty:TypeId} {v:Value} {cs:List Value} (h:w.ownsRow B ty sz v k cs) (hb:Below w.heap.size w w'):w'.ownsRow B ty sz v k cs:=by
 refine⟨h.1,?_⟩;rcases h.2 with h2|⟨g,cap,cur,e,hB,hg,r⟩
 ·exact .inl h2
 ·exact .inr ⟨g,cap,cur,e,hB,(hb.block g (Ag.1 hg).1).trans hg,r⟩
structure Tv (w:World) (R:Loop) (d l:Nat) (ys:List Rat) (W:World):Prop where
 below:Below w.heap.size w W
 loop:W.heap[l]?=some (.loop R)
 dfr:W.heap[d]?=some (.deferred (some []))
 row:∃v,Boxed W w.heap.size 28 v/\W.ownsRow w.heap.size 34 2 v ys.length (TG (frs ys))
section
variable {w W W':World} {R:Loop} {d l:Nat} {ys:List Rat}
theorem Tv.mono (h:Tv w R d l ys W) (hb:Below W.heap.size W W'):Tv w R d l ys W':=
 ⟨bto h.below hb,(hb.block _ (Ag.1 h.loop).1).trans h.loop,(hb.block _ (Ag.1 h.dfr).1).trans h.dfr,by
  obtain⟨v,h1,h2⟩:=h.row
  exact⟨v,(hb.block _ h1.lt).trans h1,Zz h2 hb⟩⟩
theorem Tv.done {R1 R2:Loop} (hR:R2=R) (hl:l≠d/\l≠w.heap.size/\w.heap.size<=l) (h:Tv w R1 d l ys W):Tv w R d l ys (W.putObj l (.loop R2)):=by
 subst hR;refine⟨YG h.below hl.2.2,World.putObj_heap_same (Ag.1 h.loop).1,(World.putObj_heap_other (by omega)).trans h.dfr,?_⟩
 obtain⟨v,h1,h2⟩:=h.row;exact⟨v,(World.putObj_heap_other (Ne.symm hl.2.1)).trans h1,ownsRow_putObj h2 _ h.loop rfl⟩
end
theorem OE (gf:Nat) (lb:Array Value) (qs:List Rat) (M:Nat) (w:World) (hEn:∀args w,(callFunc gf args).run Tryz.prog w=.ok (.enter gf args) w) (hI:S6 w gf lb qs M) (hM:qs.length<=100000) :
  Calls Tryz.prog 106 #[.slice none 0 0,.func (.func gf) #[] lb] w fun e w'=>∃v,e=.returned v/\w'.ownsRow w.heap.size 34 2 v qs.length (TG (frs qs))/\Below w.heap.size w w':=by
 have HI:=Lh hI;have HE:=Lh hEn;obtain⟨i0,hi,hz0,hz1,hz2⟩:=info_parts Hd;have hb0:=Zd w (.cells #[.slice none 0 0] 28);clear hI hEn;refine (callsIn_wide (n:=5)).1 ?_;refine callsIn_of_wp_marks Tryz.func106 rfl trivial ?_ rfl;simp only[Tryz.ntmps106,List.size_toArray,List.length_cons,List.length_nil,Nat.reduceAdd,Nat.reduceSub,Array.replicate_succ,Array.replicate_zero,List.push_toArray,List.append_toArray,List.nil_append,List.cons_append]
 gi_wp2_with fail
 refine XW (gf:=gf) (lb:=lb) rfl HE.out ?_;intro fn R hR;obtain⟨W0,hW0⟩:∃W0,W0=w.alloc (.cells #[.slice none 0 0] 28):=⟨_,rfl⟩
 have hsz:W0.heap.size=w.heap.size+1:=by rw[hW0];simp only[World.size_alloc]
 have x2:Boxed W0 w.heap.size 28 (.slice none 0 0):=by rw[hW0];exact Boxed.new _ _ _
 rw[<-hW0] at hR hb0 ⊢;clear hW0;obtain⟨W1,hW1⟩:∃W1,W1=(W0.alloc (.deferred (some []))).alloc (.loop R):=⟨_,rfl⟩
 have hbB:Below W0.heap.size W0 W1:=by rw[hW1];exact bto (Zd _ _) (Zd _ _)
 have hD:W1.heap[W0.heap.size]?=some (.deferred (some [])):=by rw[hW1];exact (Below.heap_alloc _ _ _ (by simp)).trans (World.alloc_heap_new _ _)
 have hL:W1.heap[W0.heap.size+1]?=some (.loop R):=by
  rw[hW1]
  have:=World.alloc_heap_new (W0.alloc (.deferred (some []))) (.loop R)
  rwa [World.size_alloc] at this
 rw[<-hW1];obtain⟨l,hl⟩:∃l,l=W0.heap.size+1:=⟨_,rfl⟩
 obtain⟨d,hd⟩:∃d,d=W0.heap.size:=⟨_,rfl⟩
 rw[<-hl] at hL ⊢;rw[<-hd] at hD hR ⊢;have hS0:Tv w R d l [] W1:=⟨bto hb0 hbB,hL,hD,⟨_,(hbB.block _ x2.lt).trans x2,World.ownsRow_nil _ _ _ 2⟩⟩;have n1:l≠d/\l≠w.heap.size/\w.heap.size<=l:=by omega
 have n3:w.heap.size<=d/\d≠w.heap.size:=by omega
 clear hW1 hbB hD hL x2 hb0 hsz hl hd;have hY:∀ys y W,Tv w R d l ys W->Bd M y->ys.length<qs.length->YieldAt Fence.wide (5-1-1) Tryz.prog l #[(Value.agg #[Value.string ⟨List.toArray (fN y)⟩,Value.string ⟨List.toArray (fD y)⟩])] W fun e W'=>e=.returned (.bool true)/\Tv w R d l (ys++[y]) W':=by
  intro ys y W hS hyb hlen;have hy:=run_yield (P:=Tryz.prog) (args:=#[(Value.agg #[Value.string ⟨List.toArray (fN y)⟩,Value.string ⟨List.toArray (fD y)⟩])]) hS.loop (by rw[hR];rfl)
  refine⟨R.fn,_,R.assign,R.body,hy,roundIn_of_wpIn trivial ?_⟩;have hlW:=(Ag.1 hS.loop).1;have hSa:=hS.mono (Zd W (.cells #[.string ⟨(fN (y)).toArray⟩,.string ⟨(fD (y)).toArray⟩] 34));have hbr:=run_beginRound (P:=Tryz.prog) hSa.loop (by rw[hR])
  have hS1:Tv w { R with state:=.busy } d l ys ((W.alloc (.cells #[.string ⟨(fN (y)).toArray⟩,.string ⟨(fD (y)).toArray⟩] 34)).putObj l (.loop { R with state:=.busy })):=Tv.done rfl n1 hSa
  have x4:Blk ((W.alloc (.cells #[.string ⟨(fN (y)).toArray⟩,.string ⟨(fD (y)).toArray⟩] 34)).putObj l (.loop { R with state:=.busy })) W.heap.size #[.string ⟨(fN y).toArray⟩,.string ⟨(fD y).toArray⟩]:=(Blk.new W _ 34).putO (by omega)
  obtain⟨Wc,hWc⟩:∃Wc,Wc=(W.alloc (.cells #[.string ⟨(fN (y)).toArray⟩,.string ⟨(fD (y)).toArray⟩] 34)).putObj l (.loop { R with state:=.busy }):=⟨_,rfl⟩
  rw[<-hWc] at hbr hS1 x4;have hRe:({ { R with state:=.busy } with state:=.ready,pending:=none }:Loop)=R:=by rw[hR]
  obtain⟨R1,hR1⟩:∃R1,R1={ R with state:=.busy }:=⟨_,rfl⟩
  rw[<-hR1] at hS1 hRe;obtain⟨v,hv,hrow⟩:=hS1.row;have hbc:=hS1.below;have hc:=hv.cell;have p0:Wc.cell? ⟨W.heap.size,0,none⟩=some (.string ⟨(fN y).toArray⟩):=x4.c 0;have p1:Wc.cell? ⟨W.heap.size,1,none⟩=some (.string ⟨(fD y).toArray⟩):=x4.c 1;have HBr:=Lh hbr;have HRe:=Lh hRe;have HS2:=Lh hS1;clear hWc hbr hy hS hSa hlW hS1 hRe hR1 hyb hS0;rw[hR]
  gi_wp2
  refine⟨_,HBr.out,?_⟩
  gi_wp2_with (gi_at_builtin;refine wpListIn_append_own _ rfl _ _ 28 rfl w.heap.size 34 i0 (.agg #[.string ⟨#[]⟩,.string ⟨#[]⟩]) 2 32 Tryz.underlying28 hi hz0 hz1 hz2 rfl (by decide) _ _ _ rfl (Zz hrow (Zd _ _)) ⟨Wc.heap.size,0,none⟩ 1 1 [.string ⟨(fN y).toArray⟩,.string ⟨(fD y).toArray⟩] rfl rfl ?c1 ?c2 ?c3 ?c4 ?c5 ?_)
  case c1=>
   intro j u hu
   match j with
   | 0=>simp at hu;subst hu;rw[Lib.add_plain];simp[go_sem]
   | 1=>simp at hu;subst hu;rw[Lib.add_plain];simp[go_sem]
   | j+2=>simp at hu
  case c2=>
   intro u hu;simp at hu;rcases hu with rfl|rfl<;>rfl
  case c3=>unfold maxLen;omega
  case c4=>omega
  case c5=>have:=hbc.size;simp;omega
  intro v' w1 hown' hgrow _;obtain⟨g',cap',rfl⟩:=ownsRow_succ hown';obtain⟨hv1,hv2,hr2,hk2,hb2⟩:=hv.appended (by decide) hrow hbc.size (Nl _) hown' hgrow
  have hc1:=hv1.cell;have hf1:=hv1.frozen;have HGO:Hid (Tv w R1 d l (ys++[y]) (w1.setCell ⟨w.heap.size,0,none⟩ (.slice (some ⟨g',0,none⟩) (ys.length+1) cap'))):=by
   refine⟨hbc.trans hb2,hk2.same _ _ HS2.out.loop rfl,hk2.same _ _ HS2.out.dfr rfl,_,hv2,?_⟩;have e1:(ys++[y]).length=ys.length+1:=by simp
   have e2:TG (frs (ys++[y]))=TG (frs ys)++[.string ⟨(fN y).toArray⟩,.string ⟨(fD y).toArray⟩]:=by
    unfold frs;rw[List.map_append,Hc];rfl
   rw[e1,e2];exact hr2
  clear hown' hgrow hv1 hv2 hr2 hk2 hb2 hv hrow hc p0 p1 HS2 x4
  gi_wp2
  exact⟨_,_,run_endRound (P:=Tryz.prog) none HGO.out.loop,rfl,Tv.done (HRe.out.trans hR) n1 HGO.out⟩
 have key:=HI.out (5-1) l (Tv w R d l) (fun ys W h=>h.below) (fun ys W W' h hb=>h.mono hb) hY W1 hS0
 refine key.mono ?_;rintro e W2 ⟨hv,hS2⟩;refine⟨hv,hS2.loop,?_⟩;have hS3:Tv w { R with state:=.exhausted } d l qs (W2.putObj l (.loop { R with state:=.exhausted })):=Tv.done rfl n1 hS2
 obtain⟨W3,hW3⟩:∃W3,W3=W2.putObj l (.loop { R with state:=.exhausted }):=⟨_,rfl⟩
 rw[<-hW3] at hS3 ⊢;obtain⟨v,hv,hrow⟩:=hS3.row;have q0:=hv.cell;have hD5:=hS3.dfr;have hb5:=hS3.below;have HR:=Lh (ownsRow_putObj hrow (.deferred none) hD5 rfl);clear hW3 hS3 key hY hS2 hS0 hrow HI
 gi_wp2
 refine⟨by simp,.inl ⟨_,_,rfl,run_takeDeferred hD5,?_⟩⟩
 refine⟨_,results_tmp rfl _ _ _,v,rfl,HR.out,YG hb5 n3.1⟩
theorem MJ (gf:Nat) (lb:Array Value) (qs:List Rat) (M:Nat) (w:World) (hEn:∀args w,(callFunc gf args).run Tryz.prog w=.ok (.enter gf args) w) (hI:S6 w gf lb qs M) (hM:qs.length<=100000) :
  Calls Tryz.prog 43 #[.func (.func gf) #[] lb] w fun e w'=>∃v,e=.returned v/\w'.ownsRow w.heap.size 34 2 v qs.length (TG (frs qs))/\Below w.heap.size w w':=by
 have C1:=Lh (OE gf lb qs M w hEn hI hM);clear hEn hI;go_enter Tryz.func43,Tryz.ntmps43;go_wp2_with fail;refine C1.out.mono ?_;rintro e w2 ⟨v,rfl,h1,h2⟩;go_wp2;go_ret;exact⟨_,rfl,h1,h2⟩
end Go.Proofs.YtpieeldbamklkaaGreatDoor
namespace Go.Proofs.YtpieeldbamklkaaGreatDoor
open Go.RowKit Num
section
variable {P:Program} {ops:Array Oper} {C:World->Prop} {Q:St->Bx->Prop} {rest:List Oper} {o:Oper} {i:Nat} {a:St} {B:Bx}
end
section
variable {l l':List UInt8}
theorem Wk (hl:l.length<=100000000) (hl':l'.length<=100000000) {z:Int} (e:val l-val l'=z):Ret 22 #[.string ⟨l.toArray⟩,.string ⟨l'.toArray⟩] (.string ⟨(canon z).toArray⟩):=fun w hG=>by
 subst e;exact Mr l l' w hl hl' hG
theorem JR (hl:l.length<=100000000) (hl':l'.length<=100000000) {z:Int} (e:val l*val l'=z):Ret 68 #[.string ⟨l.toArray⟩,.string ⟨l'.toArray⟩] (.string ⟨(canon z).toArray⟩):=fun w hG=>by
 subst e;exact Ss l l' w hl hl' hG
end
structure QL (w:World) (A:Option Addr) (ts:List Pnt) (n:Nat):Prop where
 len:ts.length=n
 sm:n<=1000
 gap:n<=12∨400<n
 str:∀t∈ts,t.vl.length<=60/\t.fl.length<=60
 mem:PK w A ts
section
variable {w w':World} {A:Option Addr} {ts:List Pnt} {n:Nat}
theorem QL.below (h:QL w A ts n) (hb:Below w.heap.size w w'):QL w' A ts n:=⟨h.len,h.sm,h.gap,h.str,h.mem.below hb⟩
theorem QL.ok (h:QL w A ts n) (h0:YN ts=0):1<=n/\n<=12/\NK (pts ts)/\UpD none ts/\∀t∈ts,QD t:=by
 obtain⟨h1,h2,h3,h4,h5⟩:=Q5 h0
 have:=h.len
 have:=h.gap
 exact⟨by omega,by omega,h3,h4,h5⟩
theorem PM (hG:ZP w) (h:QL w A ts n) (c:Nat):D4 w 40 #[.slice A n c] (.int .i64 (YN ts)):=fun w' hb=>D5 A ts n c w' (hG.below hb) h.len h.sm h.str (h.mem.below hb)
end
theorem MK (args:Array Value) (w:World):(callFunc 107 args).run Tryz.prog w=.ok (.enter 107 args) w:=by kernel_rfl
theorem FF {ts:List Pnt} (h:∀t∈ts,QD t) (hp:NK (pts ts)) (hn:ts.length<=12):Bd 505 (Yq 1 (YK (pts ts))):=by
 have h1:=PL (M:=42) (YK (pts ts)) Kv (JQ hp h);rw[Vi,U4] at h1;exact DO h1 (by omega)
theorem S7 {w:World} {B B' k sz:Nat} {ty:TypeId} {v:Value} {cs:List Value} (h:w.ownsRow B ty sz v k cs) (hb:B'<=B):w.ownsRow B' ty sz v k cs:=by
 refine⟨h.1,?_⟩;rcases h.2 with h2|⟨g,cap,cur,e,hB,r⟩
 ·exact .inl h2
 ·exact .inr ⟨g,cap,cur,e,Nt hb hB,r⟩
def FG (ts:List Pnt):Value:=if ¬YN ts=0 then .tuple #[.agg #[.string ⟨#[]⟩,.string ⟨#[]⟩],.int .i64 1] else .tuple #[(Value.agg #[Value.string ⟨List.toArray (fN (Yq 1 (YK (pts ts))-1))⟩,Value.string ⟨List.toArray (fD (Yq 1 (YK (pts ts))-1))⟩]),.int .i64 0]
theorem FH {w:World} {A:Option Addr} {ts:List Pnt} {n:Nat} (hG:ZP w) (h:QL w A ts n) (c:Nat):D4 w 42 #[.slice A n c] (FG ts):=fun w' hbw=>by
 replace hG:=hG.below hbw;replace h:=h.below hbw;clear hbw;have C1:=Lh (PM hG h c);have x2:=Z9.new w' (.string ⟨#[]⟩) (.string ⟨#[]⟩) 34;have hb:=Zd w' (.cells #[.string ⟨#[]⟩,.string ⟨#[]⟩] 34)
 by_cases g:YN ts=0
 rotate_left
 ·have HV:Hid (FG ts=.tuple #[.agg #[.string ⟨#[]⟩,.string ⟨#[]⟩],.int .i64 1]):=if_pos g;have e1:(YN ts != 0)=true:=QC (L4 g);generalize YN ts=E at *;clear g h;go_enter Tryz.func42,Tryz.ntmps42;go_wp2_with fail
  with_reducible refine (C1.out.of hG hb).mono ?_
  rintro e w1 ⟨rfl,hb1⟩;replace x2:=x2.below hb1;replace hb:=bto hb hb1;have g0:=x2.c0;have g1:=x2.c1;have g2:=x2.f0;have g3:=x2.f1;clear hb1;go_wp2;have hy:=x2.set (.string ⟨#[]⟩) (.string ⟨#[]⟩);have d0:=hy.c0;have d1:=hy.c1;refine bodyPost_ret (v:=.tuple #[.agg #[.string ⟨#[]⟩,.string ⟨#[]⟩],.int .i64 1]) (by simp[results,Tryz.results42,go_sem,d0,d1]) rfl ?_
  exact⟨by rw[HV.out],ZE hb (Nl _) _ _⟩
 have HV0:Hid (FG ts=.tuple #[(Value.agg #[Value.string ⟨List.toArray (fN (Yq 1 (YK (pts ts))-1))⟩,Value.string ⟨List.toArray (fD (Yq 1 (YK (pts ts))-1))⟩]),.int .i64 0]):=if_neg (fun h=>h g)
 obtain⟨h1,h12,hp,-,hok⟩:=h.ok g;rw[g] at C1;have HB:=Lh (FF hok hp (by rw[h.len];exact h12))
 have hfl:(YK (pts ts)).length<=12:=by rw[Vi,U4,h.len];omega
 have CI:Hid (∀w1,Below w'.heap.size w' w1->S6 (w1.alloc (.cells #[.slice A n c] 23)) 107 #[.pointer (some ⟨w1.heap.size,0,none⟩)] (YK (pts ts)) 42):=fun w1 hb1=>
  MH w1.heap.size A ts n c _ (hG.below (bto hb1 (Zd _ _))) h.len h1 (by omega) hok hp (h.mem.below (bto hb1 (Zd _ _))) (Blk.new _ _ _)
 obtain⟨qs,hqs⟩:∃qs,qs=YK (pts ts):=⟨_,rfl⟩
 rw[<-hqs] at HV0 HB CI hfl;have c0:Ret 31 #[.string ⟨[49].toArray⟩] (Value.agg #[Value.string ⟨List.toArray (fN ((1:Rat)))⟩,Value.string ⟨List.toArray (fD ((1:Rat)))⟩]):=by have h:=rOf (l:=[49]) (by decide) (z:=1) (by decide);exact h
 have C3:=Lh c0;have C4:=Lh (Zbb (VC HB.out (by decide)) (VC Kv (by decide)) rfl)
 obtain⟨y,hy⟩:∃y,y=Yq 1 qs-1:=⟨_,rfl⟩
 have HV:=HV0;rw[<-hy] at C4 HV;clear g h h12 hok hp hqs c0 HV0 hy;go_enter Tryz.func42,Tryz.ntmps42;go_wp2_with fail
 with_reducible refine (C1.out.of hG hb).mono ?_
 rintro e w1 ⟨rfl,hb1⟩;replace x2:=x2.below hb1;replace hb:=bto hb hb1;clear hb1;go_wp2_with fail;refine (MI A n c _).mono ?_;rintro e w2 ⟨rfl,rfl⟩;have C2:=Lh (He 107 #[.pointer (some ⟨w1.heap.size,0,none⟩)] qs 42 (w1.alloc (.cells #[.slice A n c] 23)) (hG.below (bto hb (Zd _ _))) MK (CI.out w1 hb) (by omega))
 replace x2:=x2.below (Zd _ (.cells #[.slice A n c] 23));replace hb:=bto hb (Zd _ (.cells #[.slice A n c] 23));go_wp2_with fail;refine C2.out.mono ?_;rintro e w3 ⟨rfl,hb3⟩;replace x2:=x2.below hb3;replace hb:=bto hb hb3;clear hb3 C2 CI;go_wp2_with fail
 with_reducible refine (C3.out.of hG hb).mono ?_
 rintro e w4 ⟨rfl,hb4⟩;replace x2:=x2.below hb4;replace hb:=bto hb hb4;clear hb4;go_wp2_with fail
 with_reducible refine (C4.out.of hG hb).mono ?_
 rintro e w5 ⟨rfl,hb5⟩;replace x2:=x2.below hb5;replace hb:=bto hb hb5;have g0:=x2.c0;have g1:=x2.c1;have g2:=x2.f0;have g3:=x2.f1;clear hb5;go_wp2;have hy:=x2.set (.string ⟨(fN (y)).toArray⟩) (.string ⟨(fD (y)).toArray⟩);have d0:=hy.c0;have d1:=hy.c1;refine bodyPost_ret (v:=.tuple #[(Value.agg #[Value.string ⟨List.toArray (fN y)⟩,Value.string ⟨List.toArray (fD y)⟩]),.int .i64 0]) (by simp[results,Tryz.results42,go_sem,d0,d1]) rfl ?_
 exact⟨by rw[HV.out],ZE hb (Nl _) _ _⟩
theorem OX {w:World} {A:Option Addr} {ts:List Pnt} {n:Nat} (hG:ZP w) (h:QL w A ts n) (c:Nat) :
  Calls Tryz.prog 10 #[.slice A n c] w fun e w'=>∃v qs,e=.returned (.tuple #[v,.int .i64 (if YN ts=0 then 0 else 1)])/\qs=(if YN ts=0 then YK (pts ts) else [])/\w'.ownsRow w.heap.size 34 2 v qs.length (TG (frs qs))/\Below w.heap.size w w':=by
 have C1:=Lh (PM hG h c);have hb:=Below.refl w.heap.size w
 by_cases g:YN ts=0
 rotate_left
 ·have e1:(YN ts != 0)=true:=QC (L4 g);rw[if_neg g,if_neg g];generalize YN ts=E at *;clear g h;go_enter Tryz.func10,Tryz.ntmps10;go_wp2_with fail
  with_reducible refine (C1.out.of hG hb).mono ?_
  rintro e w1 ⟨rfl,hb1⟩;replace hb:=bto hb hb1;go_wp2;refine bodyPost_ret (v:=.tuple #[.slice none 0 0,.int .i64 1]) (by simp[results,Tryz.results10,go_sem]) rfl ?_
  exact⟨_,_,rfl,rfl,World.ownsRow_nil _ _ _ 2,hb⟩
 obtain⟨h1,h12,hp,-,hok⟩:=h.ok g;rw[if_pos g,if_pos g];rw[g] at C1;have hfl:(YK (pts ts)).length<=12:=by rw[Vi,U4,h.len];omega
 have CI:Hid (∀w1,Below w.heap.size w w1->S6 (w1.alloc (.cells #[.slice A n c] 23)) 107 #[.pointer (some ⟨w1.heap.size,0,none⟩)] (YK (pts ts)) 42):=fun w1 hb1=>
  MH w1.heap.size A ts n c _ (hG.below (bto hb1 (Zd _ _))) h.len h1 (by omega) hok hp (h.mem.below (bto hb1 (Zd _ _))) (Blk.new _ _ _)
 generalize YK (pts ts)=qs at *;clear g h h12 hok hp;go_enter Tryz.func10,Tryz.ntmps10;go_wp2_with fail
 with_reducible refine (C1.out.of hG hb).mono ?_
 rintro e w1 ⟨rfl,hb1⟩;replace hb:=bto hb hb1;clear hb1;go_wp2_with fail;refine (MI A n c _).mono ?_;rintro e w2 ⟨rfl,rfl⟩;have C2:=Lh (MJ 107 #[.pointer (some ⟨w1.heap.size,0,none⟩)] qs 42 (w1.alloc (.cells #[.slice A n c] 23)) MK (CI.out w1 hb) (by omega))
 replace hb:=bto hb (Zd _ (.cells #[.slice A n c] 23));have hsz:=hb.size;go_wp2_with fail;refine C2.out.mono ?_;rintro e w3 ⟨v,rfl,ho,hb3⟩;replace hb:=bto hb hb3;have HO:=Lh (S7 ho hsz);clear hb3 C2 CI ho;go_wp2;refine bodyPost_ret (v:=.tuple #[v,.int .i64 0]) (by simp[results,Tryz.results10,go_sem]) rfl ?_
 exact⟨_,_,rfl,rfl,HO.out,hb⟩
structure Lot where
 id:List UInt8
 ins:List UInt8
 acq:Int
 opn:Int
 q:List UInt8
 cost:List UInt8
 used:List UInt8
 deriving DecidableEq
def Xf (w:World) (b:Nat) (x:Lot):Prop:=Blk w b #[Value.string ⟨x.id.toArray⟩,Value.string ⟨x.ins.toArray⟩,Value.int .i64 x.acq,Value.int .i64 x.opn,Value.string ⟨x.q.toArray⟩,Value.string ⟨x.cost.toArray⟩,Value.string ⟨x.used.toArray⟩]
section
variable {w w':World} {b:Nat} {x:Lot}
theorem Xf.new (w:World) (x:Lot) (t:TypeId):Xf (w.alloc (.cells #[Value.string ⟨x.id.toArray⟩,Value.string ⟨x.ins.toArray⟩,Value.int .i64 x.acq,Value.int .i64 x.opn,Value.string ⟨x.q.toArray⟩,Value.string ⟨x.cost.toArray⟩,Value.string ⟨x.used.toArray⟩] t)) w.heap.size x:=Blk.new w _ t
theorem Xf.below (h:Xf w b x) (hb:Below w.heap.size w w'):Xf w' b x:=Blk.below h hb
theorem Xf.c0 (h:Xf w b x):w.cell? ⟨b,0,none⟩=some (Value.string ⟨x.id.toArray⟩):=Blk.c h 0
theorem Xf.c1 (h:Xf w b x):w.cell? ⟨b,1,none⟩=some (Value.string ⟨x.ins.toArray⟩):=Blk.c h 1
theorem Xf.c2 (h:Xf w b x):w.cell? ⟨b,2,none⟩=some (Value.int .i64 x.acq):=Blk.c h 2
theorem Xf.c3 (h:Xf w b x):w.cell? ⟨b,3,none⟩=some (Value.int .i64 x.opn):=Blk.c h 3
theorem Xf.c4 (h:Xf w b x):w.cell? ⟨b,4,none⟩=some (Value.string ⟨x.q.toArray⟩):=Blk.c h 4
theorem Xf.c5 (h:Xf w b x):w.cell? ⟨b,5,none⟩=some (Value.string ⟨x.cost.toArray⟩):=Blk.c h 5
theorem Xf.c6 (h:Xf w b x):w.cell? ⟨b,6,none⟩=some (Value.string ⟨x.used.toArray⟩):=Blk.c h 6
end
structure PN (w:World) (b o:Nat) (x:Lot):Prop where
 c0:w.cell? ⟨b,o,none⟩=some (Value.string ⟨x.id.toArray⟩)
 c1:w.cell? ⟨b,o+1,none⟩=some (Value.string ⟨x.ins.toArray⟩)
 c2:w.cell? ⟨b,o+2,none⟩=some (Value.int .i64 x.acq)
 c3:w.cell? ⟨b,o+3,none⟩=some (Value.int .i64 x.opn)
 c4:w.cell? ⟨b,o+4,none⟩=some (Value.string ⟨x.q.toArray⟩)
 c5:w.cell? ⟨b,o+5,none⟩=some (Value.string ⟨x.cost.toArray⟩)
 c6:w.cell? ⟨b,o+6,none⟩=some (Value.string ⟨x.used.toArray⟩)
theorem PN.below {w w':World} {b o:Nat} {x:Lot} (h:PN w b o x) (ha:b<w.heap.size) (hb:Below w.heap.size w w'):PN w' b o x:=
 ⟨(hb.cell (p:=⟨b,o,none⟩) ha).trans h.c0,(hb.cell (p:=⟨b,o+1,none⟩) ha).trans h.c1,(hb.cell (p:=⟨b,o+2,none⟩) ha).trans h.c2,(hb.cell (p:=⟨b,o+3,none⟩) ha).trans h.c3,(hb.cell (p:=⟨b,o+4,none⟩) ha).trans h.c4,(hb.cell (p:=⟨b,o+5,none⟩) ha).trans h.c5,(hb.cell (p:=⟨b,o+6,none⟩) ha).trans h.c6⟩
def Vw (w:World) (A:Option Addr) (xs:List Lot):Prop:=∀(i:Nat) (x:Lot),xs[i]?=some x->∃b o,A=some ⟨b,o,none⟩/\b<w.heap.size/\PN w b (o+i*7) x
theorem Vw.below {w w':World} {A:Option Addr} {xs:List Lot} (h:Vw w A xs) (hb:Below w.heap.size w w'):Vw w' A xs:=fun i x hx=>by
 obtain⟨b,o,rfl,h1,h2⟩:=h i x hx;exact⟨b,o,rfl,Nat.lt_of_lt_of_le h1 hb.size,h2.below h1 hb⟩
def Z8 (xs:List Lot):List Value:=xs.flatMap (fun x=>#[Value.string ⟨x.id.toArray⟩,Value.string ⟨x.ins.toArray⟩,Value.int .i64 x.acq,Value.int .i64 x.opn,Value.string ⟨x.q.toArray⟩,Value.string ⟨x.cost.toArray⟩,Value.string ⟨x.used.toArray⟩].toList)
section
variable {P:Program} {w:World} {mty kt et:TypeId} {kd:TypeDesc} {r clock:Nat} {es:Array MapEntry} {key val:Value}
theorem UP (hm:P.underlying mty=some (.map kt et)) (hk:P.underlying kt=some kd) (hkey:MapKept.IsKey kd key) (hb:w.heap[r]?=some (.map es clock)) (hf:Instr.findNow kd key es.toList 0=some none) :
  (Instr.mapUpdate mty (.map (some r)) key val).run P w=.ok () { w with heap:=w.heap.setIfInBounds r (.map (es.push { key,val,born:=clock }) (clock+1)) }:=by
 have hc:(Instr.checkKey false 10000 kt key).run P w=.ok () w:=MapKept.run_checkKey hk hkey false 9999;simp[Instr.mapUpdate,run_underlying hm,MapKept.run_getObj_map hb,hc,MapKept.run_findKey hk hf,MapKept.run_setObj_map _ hb,Result.andThen]
theorem Uj (hm:P.underlying mty=some (.map kt et)) (hk:P.underlying kt=some kd) (hkey:MapKept.IsKey kd key) (hb:w.heap[r]?=some (.map es clock)) {i:Nat} {v:Value} (hf:Instr.findNow kd key es.toList 0=some (some (i,v))) (ok:Bool) :
  (Instr.lookup mty (.map (some r)) key ok).run P w=.ok (if ok then .tuple #[v,.bool true] else v) w:=by
 have hc:(Instr.checkKey es.isEmpty 10000 kt key).run P w=.ok () w:=MapKept.run_checkKey hk hkey _ 9999;cases ok<;>simp[Instr.lookup,run_underlying hm,MapKept.run_getObj_map hb,hc,MapKept.run_findKey hk hf,Result.andThen]
theorem TH (hm:P.underlying mty=some (.map kt et)) (hk:P.underlying kt=some kd) (hkey:MapKept.IsKey kd key) (hb:w.heap[r]?=some (.map es clock)) {z:Value} (hz:(zeroValue et).run P w=.ok z w) (hf:Instr.findNow kd key es.toList 0=some none) (ok:Bool) :
  (Instr.lookup mty (.map (some r)) key ok).run P w=.ok (if ok then .tuple #[z,.bool false] else z) w:=by
 have hc:(Instr.checkKey es.isEmpty 10000 kt key).run P w=.ok () w:=MapKept.run_checkKey hk hkey _ 9999;cases ok<;>simp[Instr.lookup,run_underlying hm,MapKept.run_getObj_map hb,hc,MapKept.run_findKey hk hf,hz,Result.andThen]
end
def UC:List (List UInt8)->Array MapEntry
 | l=>((l.zipIdx).map fun p=>({ key:=.string ⟨p.1.toArray⟩,val:=.bool true,born:=p.2 }:MapEntry)).toArray
theorem Kw (l:List (List UInt8)) (x:List UInt8):UC (l++[x])=(UC l).push { key:=.string ⟨x.toArray⟩,val:=.bool true,born:=l.length }:=by
 simp[UC,List.zipIdx_append]
theorem bytes_beq (x y:List UInt8):((⟨x.toArray⟩:ByteArray)==⟨y.toArray⟩)=(x==y):=by
 show (x.toArray==y.toArray)=(x==y);simp
theorem SA (x:List UInt8):∀(l:List (List UInt8)) (k i:Nat),Instr.findNow .string (.string ⟨x.toArray⟩) ((l.zipIdx k).map fun p=>({ key:=.string ⟨p.1.toArray⟩,val:=.bool true,born:=p.2 }:MapEntry)) i=some (if l.contains x then some (i+l.idxOf x,.bool true) else none)
 | [],_,_=>by simp[Instr.findNow]
 | y::l,k,i=>by
  have ih:=SA x l (k+1) (i+1);rw[List.zipIdx_cons,List.map_cons];unfold Instr.findNow
  by_cases h:x=y
  ·subst h;simp[Instr.sameNow,bytes_beq]
  ·have e1:=bytes_beq x y;have e2:(x==y)=false:=by simpa using h
   have e3:(y==x)=false:=by simpa using (fun g=>h g.symm)
   simp only[Instr.sameNow,e1,e2,ih,List.contains_cons,Bool.false_or,List.idxOf_cons,e3]
   split
   ·simp[Nat.add_assoc,Nat.add_comm 1]
   ·rfl
end Go.Proofs.YtpieeldbamklkaaGreatDoor
namespace Go.Proofs
open Go.Shelf
def Tryz.laysC172_ren:Go.Shelf.Ren:=⟨fun|172=>279|244=>312|245=>195|247=>330|279=>253|280=>254|281=>255|282=>256|287=>194|316=>299|171=>140|205=>300|321=>251|322=>252|243=>203|246=>267|283=>258|284=>259|285=>260|286=>261|129=>302|317=>301|318=>303|319=>304|320=>305|337=>326|338=>327|n=>n,fun|9=>9|3=>3|75=>209|76=>218|4=>4|5=>5|167=>327|37=>214|0=>0|85=>388|2=>2|168=>329|53=>207|175=>210|46=>283|210=>374|127=>289|145=>394|143=>392|21=>21|171=>334|173=>337|212=>378|51=>339|20=>20|213=>379|232=>410|233=>411|80=>222|n=>n,fun|15=>0|16=>1|17=>2|18=>6|19=>7|n=>n⟩
theorem Tryz.laysC172:Go.Proofs.LaysC.n172 Tryz.prog Tryz.laysC172_ren:={
 mixed:=by kernel_rfl
 f129:=Tryz.func302.trans (congrArg some (by kernel_rfl))
 f171:=Tryz.func140.trans (congrArg some (by kernel_rfl))
 f172:=Tryz.func279.trans (congrArg some (by kernel_rfl))
 f205:=Tryz.func300.trans (congrArg some (by kernel_rfl))
 f243:=Tryz.func203.trans (congrArg some (by kernel_rfl))
 f244:=Tryz.func312.trans (congrArg some (by kernel_rfl))
 f245:=Tryz.func195.trans (congrArg some (by kernel_rfl))
 f246:=Tryz.func267.trans (congrArg some (by kernel_rfl))
 f247:=Tryz.func330.trans (congrArg some (by kernel_rfl))
 f279:=Tryz.func253.trans (congrArg some (by kernel_rfl))
 f280:=Tryz.func254.trans (congrArg some (by kernel_rfl))
 f281:=Tryz.func255.trans (congrArg some (by kernel_rfl))
 f282:=Tryz.func256.trans (congrArg some (by kernel_rfl))
 f283:=Tryz.func258.trans (congrArg some (by kernel_rfl))
 f284:=Tryz.func259.trans (congrArg some (by kernel_rfl))
 f285:=Tryz.func260.trans (congrArg some (by kernel_rfl))
 f286:=Tryz.func261.trans (congrArg some (by kernel_rfl))
 f287:=Tryz.func194.trans (congrArg some (by kernel_rfl))
 f316:=Tryz.func299.trans (congrArg some (by kernel_rfl))
 f317:=Tryz.func301.trans (congrArg some (by kernel_rfl))
 f318:=Tryz.func303.trans (congrArg some (by kernel_rfl))
 f319:=Tryz.func304.trans (congrArg some (by kernel_rfl))
 f320:=Tryz.func305.trans (congrArg some (by kernel_rfl))
 f321:=Tryz.func251.trans (congrArg some (by kernel_rfl))
 f322:=Tryz.func252.trans (congrArg some (by kernel_rfl))
 f337:=Tryz.func326.trans (congrArg some (by kernel_rfl))
 f338:=Tryz.func327.trans (congrArg some (by kernel_rfl))
 t0:=Tryz.underlying0
 a0:=Tryz.isAgg0
 z0:=Tryz.sizeOf0
 v0:=Tryz.zeroValue0
 t2:=Tryz.underlying2
 a2:=Tryz.isAgg2
 z2:=Tryz.sizeOf2
 v2:=Tryz.zeroValue2
 t3:=Tryz.underlying3
 a3:=Tryz.isAgg3
 z3:=Tryz.sizeOf3
 v3:=Tryz.zeroValue3
 t4:=Tryz.underlying4
 a4:=Tryz.isAgg4
 z4:=Tryz.sizeOf4
 v4:=Tryz.zeroValue4
 t5:=Tryz.underlying5
 a5:=Tryz.isAgg5
 z5:=Tryz.sizeOf5
 v5:=Tryz.zeroValue5
 t9:=Tryz.underlying9
 a9:=Tryz.isAgg9
 z9:=Tryz.sizeOf9
 v9:=Tryz.zeroValue9
 t20:=Tryz.underlying20
 a20:=Tryz.isAgg20
 z20:=Tryz.sizeOf20
 v20:=Tryz.zeroValue20
 t21:=Tryz.underlying21
 a21:=Tryz.isAgg21
 z21:=Tryz.sizeOf21
 v21:=Tryz.zeroValue21
 t37:=Tryz.underlying214
 a37:=Tryz.isAgg214
 z37:=Tryz.sizeOf214
 v37:=Tryz.zeroValue214
 t46:=Tryz.underlying283
 a46:=Tryz.isAgg283
 z46:=Tryz.sizeOf283
 v46:=Tryz.zeroValue283
 t51:=Tryz.underlying339
 a51:=Tryz.isAgg339
 z51:=Tryz.sizeOf339
 v51:=Tryz.zeroValue339
 t53:=Tryz.underlying207
 a53:=Tryz.isAgg207
 z53:=Tryz.sizeOf207
 v53:=Tryz.zeroValue207
 t75:=Tryz.underlying209
 a75:=Tryz.isAgg209
 z75:=Tryz.sizeOf209
 v75:=Tryz.zeroValue209
 t76:=Tryz.underlying218
 a76:=Tryz.isAgg218
 z76:=Tryz.sizeOf218
 v76:=Tryz.zeroValue218
 t85:=Tryz.underlying388
 a85:=Tryz.isAgg388
 z85:=Tryz.sizeOf388
 v85:=Tryz.zeroValue388
 t127:=Tryz.underlying289
 a127:=Tryz.isAgg289
 z127:=Tryz.sizeOf289
 v127:=Tryz.zeroValue289
 t143:=Tryz.underlying392
 a143:=Tryz.isAgg392
 z143:=Tryz.sizeOf392
 v143:=Tryz.zeroValue392
 t145:=Tryz.underlying394
 a145:=Tryz.isAgg394
 z145:=Tryz.sizeOf394
 v145:=Tryz.zeroValue394
 t167:=Tryz.underlying327
 a167:=Tryz.isAgg327
 z167:=Tryz.sizeOf327
 v167:=Tryz.zeroValue327
 t168:=Tryz.underlying329
 a168:=Tryz.isAgg329
 z168:=Tryz.sizeOf329
 v168:=Tryz.zeroValue329
 t171:=Tryz.underlying334
 a171:=Tryz.isAgg334
 z171:=Tryz.sizeOf334
 v171:=Tryz.zeroValue334
 t173:=Tryz.underlying337
 a173:=Tryz.isAgg337
 z173:=Tryz.sizeOf337
 v173:=Tryz.zeroValue337
 t175:=Tryz.underlying210
 a175:=Tryz.isAgg210
 z175:=Tryz.sizeOf210
 v175:=Tryz.zeroValue210
 t210:=Tryz.underlying374
 a210:=Tryz.isAgg374
 z210:=Tryz.sizeOf374
 v210:=Tryz.zeroValue374
 t212:=Tryz.underlying378
 a212:=Tryz.isAgg378
 z212:=Tryz.sizeOf378
 v212:=Tryz.zeroValue378
 t213:=Tryz.underlying379
 a213:=Tryz.isAgg379
 z213:=Tryz.sizeOf379
 t232:=Tryz.underlying410
 a232:=Tryz.isAgg410
 z232:=Tryz.sizeOf410
 v232:=Tryz.zeroValue410
 t233:=Tryz.underlying411
 a233:=Tryz.isAgg411
 z233:=Tryz.sizeOf411
 v233:=Tryz.zeroValue411
 g15:=by kernel_rfl
 g16:=by kernel_rfl
 g17:=by kernel_rfl
 g18:=by kernel_rfl
 g19:=by kernel_rfl
 t80:=Tryz.underlying222
 a80:=Tryz.isAgg222
 z80:=Tryz.sizeOf222
 v80:=Tryz.zeroValue222
 i0:=by kernel_rfl
 i2:=by kernel_rfl
 i3:=by kernel_rfl
 i4:=by kernel_rfl
 i5:=by kernel_rfl
 i9:=by kernel_rfl
 i20:=by kernel_rfl
 i21:=by kernel_rfl
 i37:=by kernel_rfl
 i46:=by kernel_rfl
 i51:=by kernel_rfl
 i53:=by kernel_rfl
 i75:=by kernel_rfl
 i76:=by kernel_rfl
 i80:=by kernel_rfl
 i85:=by kernel_rfl
 i127:=by kernel_rfl
 i143:=by kernel_rfl
 i145:=by kernel_rfl
 i167:=by kernel_rfl
 i168:=by kernel_rfl
 i171:=by kernel_rfl
 i173:=by kernel_rfl
 i175:=by kernel_rfl
 i210:=by kernel_rfl
 i212:=by kernel_rfl
 i232:=by kernel_rfl
 i233:=by kernel_rfl
 m15:=by kernel_rfl
 m16:=by kernel_rfl
 m17:=by kernel_rfl
 m18:=by kernel_rfl
 m19:=by kernel_rfl
 c0:=by kernel_rfl
 c2:=by kernel_rfl
 c3:=by kernel_rfl
 c4:=by kernel_rfl
 c5:=by kernel_rfl
 c9:=by kernel_rfl
 c20:=by kernel_rfl
 c21:=by kernel_rfl
 c37:=by kernel_rfl
 c46:=by kernel_rfl
 c51:=by kernel_rfl
 c53:=by kernel_rfl
 c75:=by kernel_rfl
 c76:=by kernel_rfl
 c80:=by kernel_rfl
 c85:=by kernel_rfl
 c127:=by kernel_rfl
 c143:=by kernel_rfl
 c145:=by kernel_rfl
 c167:=by kernel_rfl
 c168:=by kernel_rfl
 c171:=by kernel_rfl
 c173:=by kernel_rfl
 c175:=by kernel_rfl
 c210:=by kernel_rfl
 c212:=by kernel_rfl
 c213:=by kernel_rfl
 c232:=by kernel_rfl
 c233:=by kernel_rfl }
open Go.RowKit in
theorem Tryz.strconv_Atoi_ok (s:ByteArray) (hmax:s.size<=9223372036854775806) (v:Int) (h:Lib.atoiAll s.data.toList=.ok v) (w:World) :
  Calls Tryz.prog 279 #[.string s] w fun e w'=>e=.returned (.tuple #[.int .i64 v,.nilIface])/\(w'=w∨∃t,w'=Lib.bytesWorld w 5 t):=Any.strconv_Atoi_ok Tryz.laysC172 s hmax v h w
open Go.RowKit in
theorem Tryz.strconv_Atoi_bad (s:ByteArray) (hlim:s.size<=281474976710656) (h1:∀v,Lib.atoiAll s.data.toList≠.ok v) (h2:Lib.atoiAll s.data.toList≠.range) (ev:Value) (w:World) (hv:w.cell? ⟨0,0,none⟩=some ev) (hev:ev=.nilIface∨∃te pe,ev=.iface te pe) :
  Calls Tryz.prog 279 #[.string s] w fun e w'=>∃N,e=.returned (.tuple #[.int .i64 (0),.iface 329 (.pointer (some ⟨N,0,none⟩))])/\w.heap.size<=N/\w'.heap[N]?=some (.cells #[.string ⟨#[65,116,111,105]⟩,.string s,ev] 374 (0,0))/\Below w.heap.size w w':=Any.strconv_Atoi_syntax Tryz.laysC172 s hlim (by
  cases e:Lib.atoiAll s.data.toList with
  | ok v=>exact absurd e (h1 v)
  | range=>exact absurd e h2
  | _=>rfl) ev w hv hev
open Go.RowKit in
theorem Tryz.strconv_Atoi_range (s:ByteArray) (hlim:s.size<=281474976710656) (h:Lib.atoiAll s.data.toList=.range) (ev:Value) (w:World) (hv:w.cell? ⟨1,0,none⟩=some ev) (hev:ev=.nilIface∨∃te pe,ev=.iface te pe) :
  Calls Tryz.prog 279 #[.string s] w fun e w'=>∃N,e=.returned (.tuple #[.int .i64 (Lib.atoiSat s.data.toList),.iface 329 (.pointer (some ⟨N,0,none⟩))])/\w.heap.size<=N/\w'.heap[N]?=some (.cells #[.string ⟨#[65,116,111,105]⟩,.string s,ev] 374 (0,0))/\Below w.heap.size w w':=Any.strconv_Atoi_range Tryz.laysC172 s hlim h ev w hv hev
def Tryz.lays145_ren:Go.Shelf.Ren:=⟨fun|145=>278|220=>311|219=>329|217=>346|225=>344|224=>343|267=>347|266=>353|314=>354|n=>n,fun|9=>9|4=>4|59=>355|3=>3|5=>5|46=>283|146=>340|51=>339|n=>n,fun|1=>3|n=>n⟩
theorem Tryz.lays145:Go.Proofs.Lays.n145 Tryz.prog Tryz.lays145_ren:={
 mixed:=by kernel_rfl
 f145:=Tryz.func278.trans (congrArg some (by kernel_rfl))
 f217:=Tryz.func346.trans (congrArg some (by kernel_rfl))
 f219:=Tryz.func329.trans (congrArg some (by kernel_rfl))
 f220:=Tryz.func311.trans (congrArg some (by kernel_rfl))
 f224:=Tryz.func343.trans (congrArg some (by kernel_rfl))
 f225:=Tryz.func344.trans (congrArg some (by kernel_rfl))
 f266:=Tryz.func353.trans (congrArg some (by kernel_rfl))
 f267:=Tryz.func347.trans (congrArg some (by kernel_rfl))
 f314:=Tryz.func354.trans (congrArg some (by kernel_rfl))
 t3:=Tryz.underlying3
 a3:=Tryz.isAgg3
 z3:=Tryz.sizeOf3
 v3:=Tryz.zeroValue3
 t4:=Tryz.underlying4
 a4:=Tryz.isAgg4
 z4:=Tryz.sizeOf4
 v4:=Tryz.zeroValue4
 t5:=Tryz.underlying5
 a5:=Tryz.isAgg5
 z5:=Tryz.sizeOf5
 v5:=Tryz.zeroValue5
 t9:=Tryz.underlying9
 a9:=Tryz.isAgg9
 z9:=Tryz.sizeOf9
 v9:=Tryz.zeroValue9
 t46:=Tryz.underlying283
 a46:=Tryz.isAgg283
 z46:=Tryz.sizeOf283
 v46:=Tryz.zeroValue283
 t51:=Tryz.underlying339
 a51:=Tryz.isAgg339
 z51:=Tryz.sizeOf339
 v51:=Tryz.zeroValue339
 t59:=Tryz.underlying355
 a59:=Tryz.isAgg355
 z59:=Tryz.sizeOf355
 v59:=Tryz.zeroValue355
 t146:=Tryz.underlying340
 a146:=Tryz.isAgg340
 z146:=Tryz.sizeOf340
 v146:=Tryz.zeroValue340
 g1:=by kernel_rfl }
open Go.RowKit Go.Lib in
theorem Tryz.strings_Cut (s sep:ByteArray) (m:Int) (w:World) (hs:s.size<4294967281) (hm:w.cell? ⟨3,0,none⟩=some (.int .i64 m)) :
  Calls Tryz.prog 278 #[.string s,.string sep] w fun e w'=>e=.returned (.tuple #[.string ⟨(Lib.cut s.data.toList sep.data.toList).1.toArray⟩,.string ⟨(Lib.cut s.data.toList sep.data.toList).2.1.toArray⟩,.bool (Lib.cut s.data.toList sep.data.toList).2.2])/\∃n,w'=w.drewN n:=Any.strings_Cut Tryz.lays145 s sep m w hs hm
def Tryz.lays101_ren:Go.Shelf.Ren:=⟨fun|101=>317|208=>331|206=>264|n=>n,fun|9=>9|4=>4|3=>3|n=>n,fun|n=>n⟩
theorem Tryz.lays101:Go.Proofs.Lays.n101 Tryz.prog Tryz.lays101_ren:={
 mixed:=by kernel_rfl
 f101:=Tryz.func317.trans (congrArg some (by kernel_rfl))
 f206:=Tryz.func264.trans (congrArg some (by kernel_rfl))
 f208:=Tryz.func331.trans (congrArg some (by kernel_rfl))
 t3:=Tryz.underlying3
 a3:=Tryz.isAgg3
 z3:=Tryz.sizeOf3
 v3:=Tryz.zeroValue3
 t4:=Tryz.underlying4
 a4:=Tryz.isAgg4
 z4:=Tryz.sizeOf4
 v4:=Tryz.zeroValue4
 t9:=Tryz.underlying9
 a9:=Tryz.isAgg9
 z9:=Tryz.sizeOf9
 v9:=Tryz.zeroValue9 }
open Go.RowKit Go.Lib in
theorem Tryz.strings_TrimPrefix (s p:ByteArray) (w:World) :
  Calls Tryz.prog 317 #[.string s,.string p] w fun e w'=>e=.returned (.string ⟨(Lib.trimPrefix s.data.toList p.data.toList).toArray⟩)/\w'=w:=Any.strings_TrimPrefix Tryz.lays101 s p w
end Go.Proofs
namespace Go.Proofs.YtpieeldbamklkaaGreatDoor
open Go.RowKit Num
def D7 (w:World):Prop:=(∃te pe,w.cell? ⟨0,0,none⟩=some (.iface te pe))/\∃te pe,w.cell? ⟨1,0,none⟩=some (.iface te pe)
theorem OY {w w':World} {a:Addr} {v:Value} (h:w.cell? a=some v) (hb:Below w.heap.size w w'):w'.cell? a=some v:=(hb.cell (block_lt_of_cell h)).trans h
theorem D7.below {w w':World} (h:D7 w) (hb:Below w.heap.size w w'):D7 w':=by
 obtain⟨⟨a,b,h1⟩,c,d,h2⟩:=h;exact⟨⟨a,b,OY h1 hb⟩,c,d,OY h2 hb⟩
structure GE (w:World):Prop where
 g:ZP w
 e:D7 w
theorem GE.below {w w':World} (h:GE w) (hb:Below w.heap.size w w'):GE w':=⟨h.g.below hb,h.e.below hb⟩
def WN (f:Nat) (args:Array Value) (v:Value):Prop:=∀w,GE w->Calls Tryz.prog f args w fun e w'=>e=.returned v/\Below w.heap.size w w'
theorem WN.of {f:Nat} {args:Array Value} {v:Value} (h:WN f args v) {w w':World} (hG:GE w) (hb:Below w.heap.size w w'):Calls Tryz.prog f args w' fun e w''=>e=.returned v/\Below w'.heap.size w' w'':=h w' (hG.below hb)
theorem Ret.e {f:Nat} {args:Array Value} {v:Value} (h:Ret f args v):WN f args v:=fun w hG=>h w hG.g
theorem Zaw (s:List UInt8) (hs:s.length<=1000000):WN 278 #[.string ⟨s.toArray⟩,.string ⟨#[47]⟩] (.tuple #[.string ⟨(Lib.cut s [47]).1.toArray⟩,.string ⟨(Lib.cut s [47]).2.1.toArray⟩,.bool (Lib.cut s [47]).2.2]):=fun w hG=>by
 obtain⟨-,m,hm⟩:=hG.g;refine (Tryz.strings_Cut ⟨s.toArray⟩ ⟨#[47]⟩ m w (by show s.toArray.size<_;simp;omega) hm).mono ?_
 rintro e w' ⟨rfl,n,rfl⟩;exact⟨rfl,below_drewN w n⟩
theorem BM (s:List UInt8) (hs:s.length<=1000000) (w:World) (hG:GE w) :
  Calls Tryz.prog 279 #[.string ⟨s.toArray⟩] w fun e w'=>((∃v,Lib.atoiAll s=.ok v/\e=.returned (.tuple #[.int .i64 v,.nilIface]))∨∃v p,(∀u,Lib.atoiAll s≠.ok u)/\e=.returned (.tuple #[.int .i64 v,.iface 329 p]))/\Below w.heap.size w w':=by
 obtain⟨⟨a,b,h1⟩,c,d,h2⟩:=hG.e;have hz:(⟨s.toArray⟩:ByteArray).size=s.length:=by show s.toArray.size=_;simp
 cases ha:Lib.atoiAll s with
 | ok v=>
  refine (Tryz.strconv_Atoi_ok ⟨s.toArray⟩ (by rw[hz];omega) v ha w).mono ?_
  rintro e w' ⟨rfl,hw⟩;refine⟨.inl ⟨v,rfl,rfl⟩,?_⟩;rcases hw with rfl|⟨t,rfl⟩
  ·exact Below.refl _ _
  ·exact bytesWorld_below _ _ _
 | range=>
  refine (Tryz.strconv_Atoi_range ⟨s.toArray⟩ (by rw[hz];omega) ha _ w h2 (.inr ⟨c,d,rfl⟩)).mono ?_
  rintro e w' ⟨N,rfl,-,-,hb⟩;exact⟨.inr ⟨_,_,fun u=>by simp,rfl⟩,hb⟩
 | _=>
  refine (Tryz.strconv_Atoi_bad ⟨s.toArray⟩ (by rw[hz];omega) (fun v e=>by rw[ha] at e;cases e) (fun e=>by rw[ha] at e;cases e) _ w h1 (.inr ⟨a,b,rfl⟩)).mono ?_
  rintro e w' ⟨N,rfl,-,-,hb⟩;exact⟨.inr ⟨0,_,fun u=>by simp,rfl⟩,hb⟩
theorem ML (s p:List UInt8):WN 317 #[.string ⟨s.toArray⟩,.string ⟨p.toArray⟩] (.string ⟨(Lib.trimPrefix s p).toArray⟩):=fun w _=>by
 refine (Tryz.strings_TrimPrefix ⟨s.toArray⟩ ⟨p.toArray⟩ w).mono ?_;rintro e w' ⟨rfl,rfl⟩;exact⟨rfl,Below.refl _ _⟩
def Kx (l:List UInt8):Bool:=match Lib.atoiAll l with|.ok n=>decide (1<=n)&&(decide (n<=9999)&&(Yg n==l))|_=>false
def idB (s:List UInt8):Bool:=YS (Lib.cut s [47]).1&&Kx (Lib.cut s [47]).2.1
theorem JS (s p:List UInt8):(Lib.cut s p).1.length<=s.length/\(Lib.cut s p).2.1.length<=s.length:=by
 unfold Lib.cut
 split
 ·exact⟨by simp;omega,by simp⟩
 ·exact⟨Nl _,Nat.zero_le _⟩
theorem FI {l:List UInt8} (h:∀u,Lib.atoiAll l≠.ok u):Kx l=false:=by
 unfold Kx;cases ha:Lib.atoiAll l with
 | ok v=>exact absurd ha (h v)
 | _=>rfl
theorem FJ {l:List UInt8} {v:Int} (h:Lib.atoiAll l=.ok v):Kx l=(decide (1<=v)&&(decide (v<=9999)&&(Yg v==l))):=by
 unfold Kx;rw[h]
theorem U5 (x y:List UInt8):((⟨x.toArray⟩:ByteArray)==⟨y.toArray⟩)=(x==y):=by
 show (x.toArray==y.toArray)=(x==y);simp
theorem FK (d:Int):Ret 226 #[.int .i64 d] (.bool (XX d)):=fun w _=>by
 by_cases g1 : -25567<=d
 ·have e1:decide (-25567<=d)=true:=Dt g1;have HV:Hid (XX d=decide (d<=84005)):=by show _=_;unfold XX;rw[e1,Bool.true_and]
  go_enter Tryz.func226,Tryz.ntmps226;go_wp2;go_ret;exact⟨Z4 HV.out.symm,Below.refl _ _⟩
 ·have e1:decide (-25567<=d)=false:=Df g1;have HV:Hid (XX d=false):=by show _=_;unfold XX;rw[e1,Bool.false_and]
  go_enter Tryz.func226,Tryz.ntmps226;go_wp2;go_ret;exact⟨Z4 HV.out.symm,Below.refl _ _⟩
theorem Zax {s:List UInt8} (hs:s.length<=1000000):WN 225 #[.string ⟨s.toArray⟩] (.bool (idB s)):=fun w hG=>by
 have hb:=Below.refl w.heap.size w;have C0:=Lh (Zaw s hs);have hl:=JS s [47];have HV:Hid (idB s=(YS (Lib.cut s [47]).1&&Kx (Lib.cut s [47]).2.1)):=rfl;generalize (Lib.cut s [47]).1=nm at *;generalize (Lib.cut s [47]).2.1=nu at *;generalize (Lib.cut s [47]).2.2=fd at *;generalize idB s=R at *;obtain⟨hl1,hl2⟩:=hl;have C1:=Lh (Ret.e (OV (l:=nm) (by omega)))
 have C2:=fun w' (hb':Below w.heap.size w w')=>BM nu (by omega) w' (hG.below hb')
 clear hl1 hl2;go_enter Tryz.func225,Tryz.ntmps225;go_wp2_with fail
 with_reducible refine (C0.out.of hG hb).mono ?_
 rintro e w1 ⟨rfl,hb1⟩;replace hb:=bto hb hb1;clear hb1;go_wp2_with fail;refine (C2 _ hb).mono ?_;rintro e w2 ⟨hcase,hb2⟩;replace hb:=bto hb hb2;clear hb2 C2 C0;generalize hnb:YS nm=nb at *;rcases hcase with ⟨v,hv,rfl⟩|⟨v,p,hv,rfl⟩
 rotate_left
 ·have HN:Hid (R=false):=by show _=_;rw[HV.out,FI hv,Bool.and_false]
  clear HV hv hnb;go_wp2;go_ret;exact⟨Z4 (HN.out).symm,hb⟩
 have HV2:Hid (R=(nb&&(decide (1<=v)&&(decide (v<=9999)&&(Yg v==nu))))):=by show _=_;rw[HV.out,FJ hv]
 clear HV hv hnb
 by_cases g1:1<=v
 rotate_left
 ·have e1:decide (1<=v)=false:=Df g1;have HN:Hid (R=false):=by show _=_;rw[HV2.out,e1,Bool.false_and,Bool.and_false]
  clear HV2;go_wp2;go_ret;exact⟨Z4 (HN.out).symm,hb⟩
 have e1:decide (1<=v)=true:=Dt g1
 by_cases g2:v<=9999
 rotate_left
 ·have e2:decide (v<=9999)=false:=Df g2;have HN:Hid (R=false):=by show _=_;rw[HV2.out,e2,Bool.false_and,Bool.and_false,Bool.and_false]
  clear HV2;go_wp2;go_ret;exact⟨Z4 (HN.out).symm,hb⟩
 have e2:decide (v<=9999)=true:=Dt g2;have C3:=Lh (Ret.e (BL v (by omega) (by omega)))
 have HV3:Hid (R=(nb&&(Yg v==nu))):=by show _=_;rw[HV2.out,e1,e2,Bool.true_and,Bool.true_and]
 clear HV2;generalize Yg v=pz at *;go_wp2_with fail
 with_reducible refine (C3.out.of hG hb).mono ?_
 rintro e w4 ⟨rfl,hb4⟩;replace hb:=bto hb hb4;clear hb4
 by_cases g3:pz=nu
 rotate_left
 ·have e3:(pz==nu)=false:=by rw[Bn];exact g3
  have HN:Hid (R=false):=by show _=_;rw[HV3.out,e3,Bool.and_false]
  clear HV3;go_wp2;go_ret;exact⟨Z4 (HN.out).symm,hb⟩
 have e3:(pz==nu)=true:=by rw[beq_iff_eq];exact g3
 have HN:Hid (R=nb):=by show _=_;rw[HV3.out,e3,Bool.and_true]
 clear HV3;cases nb
 all_goals
  go_wp2_with fail
  with_reducible refine (C1.out.of hG hb).mono ?_
  rintro e w5 ⟨rfl,hb5⟩;replace hb:=bto hb hb5;clear hb5;go_wp2;go_ret;exact⟨Z4 (HN.out).symm,hb⟩
theorem Av {s:List UInt8} (hs:s.length<=1000000):WN 288 #[.string ⟨s.toArray⟩] (.bool (idB s)):=fun w hG=>by
 have hb:=Below.refl w.heap.size w;have C0:=Lh (Zaw s hs);have hl:=JS s [47];have HV:Hid (idB s=(YS (Lib.cut s [47]).1&&Kx (Lib.cut s [47]).2.1)):=rfl;generalize (Lib.cut s [47]).1=nm at *;generalize (Lib.cut s [47]).2.1=nu at *;generalize (Lib.cut s [47]).2.2=fd at *;generalize idB s=R at *;obtain⟨hl1,hl2⟩:=hl;have C1:=Lh (Ret.e (OV (l:=nm) (by omega)))
 have C2:=fun w' (hb':Below w.heap.size w w')=>BM nu (by omega) w' (hG.below hb')
 clear hl1 hl2;go_enter Tryz.func288,Tryz.ntmps288;go_wp2_with fail
 with_reducible refine (C0.out.of hG hb).mono ?_
 rintro e w1 ⟨rfl,hb1⟩;replace hb:=bto hb hb1;clear hb1;go_wp2_with fail;refine (C2 _ hb).mono ?_;rintro e w2 ⟨hcase,hb2⟩;replace hb:=bto hb hb2;clear hb2 C2 C0;generalize hnb:YS nm=nb at *;rcases hcase with ⟨v,hv,rfl⟩|⟨v,p,hv,rfl⟩
 rotate_left
 ·have HN:Hid (R=false):=by show _=_;rw[HV.out,FI hv,Bool.and_false]
  clear HV hv hnb;cases nb
  all_goals
   go_wp2_with fail
   with_reducible refine (C1.out.of hG hb).mono ?_
   rintro e w3 ⟨rfl,hb3⟩;replace hb:=bto hb hb3;clear hb3;go_wp2;go_ret;exact⟨Z4 (HN.out).symm,hb⟩
 have HV2:Hid (R=(nb&&(decide (1<=v)&&(decide (v<=9999)&&(Yg v==nu))))):=by show _=_;rw[HV.out,FJ hv]
 clear HV hv hnb;cases nb with
 | false=>
  have HN:Hid (R=false):=HV2.out;clear HV2;go_wp2_with fail
  with_reducible refine (C1.out.of hG hb).mono ?_
  rintro e w3 ⟨rfl,hb3⟩;replace hb:=bto hb hb3;clear hb3;go_wp2;go_ret;exact⟨Z4 (HN.out).symm,hb⟩
 | true=>
  go_wp2_with fail
  with_reducible refine (C1.out.of hG hb).mono ?_
  rintro e w3 ⟨rfl,hb3⟩;replace hb:=bto hb hb3;clear hb3
  by_cases g1:1<=v
  rotate_left
  ·have e1:decide (1<=v)=false:=Df g1;have HN:Hid (R=false):=by show _=_;rw[HV2.out,e1,Bool.false_and,Bool.and_false]
   clear HV2;go_wp2;go_ret;exact⟨Z4 (HN.out).symm,hb⟩
  have e1:decide (1<=v)=true:=Dt g1
  by_cases g2:v<=9999
  rotate_left
  ·have e2:decide (v<=9999)=false:=Df g2;have HN:Hid (R=false):=by show _=_;rw[HV2.out,e2,Bool.false_and,Bool.and_false,Bool.and_false]
   clear HV2;go_wp2;go_ret;exact⟨Z4 (HN.out).symm,hb⟩
  have e2:decide (v<=9999)=true:=Dt g2;have C3:=Lh (Ret.e (BL v (by omega) (by omega)))
  have HV3:Hid (R=(Yg v==nu)):=by show _=_;rw[HV2.out,e1,e2,Bool.true_and,Bool.true_and,Bool.true_and]
  clear HV2;generalize Yg v=pz at *;go_wp2_with fail
  with_reducible refine (C3.out.of hG hb).mono ?_
  rintro e w4 ⟨rfl,hb4⟩;replace hb:=bto hb hb4;clear hb4
  by_cases g3:pz=nu
  rotate_left
  ·have e3:(pz==nu)=false:=by rw[Bn];exact g3
   have HN:Hid (R=false):=by show _=_;rw[HV3.out,e3]
   clear HV3;go_wp2;go_ret;exact⟨Z4 (HN.out).symm,hb⟩
  have e3:(pz==nu)=true:=by rw[beq_iff_eq];exact g3
  have HN:Hid (R=true):=by show _=_;rw[HV3.out,e3]
  clear HV3;go_wp2;go_ret;exact⟨Z4 (HN.out).symm,hb⟩
def upB (fl c m:Int):Bool:=
 if m=1 then decide (0<c)||(decide (c=0)&&decide (fl % 2≠0))
 else if m=2 then decide (0<c)||(decide (c=0)&&decide (0<=fl))
 else if m=3 then decide (fl<0)
 else if m=4 then decide (0<=fl)
 else decide (m=6)
def XG (q:Rat):Int:=Zx (2*(q.num % q.den)) q.den
def rnd (q:Rat) (m:Int):Int:=if q.den=1 then q.floor else if upB q.floor (XG q) m then q.floor+1 else q.floor
theorem FL (q:Rat):(0:Rat)<((q.den:Int):Rat):=by
 have:=q.den_pos
 rw[Rat.intCast_natCast];exact Rat.natCast_pos.2 this
theorem U6 (q:Rat):q.floor=q.num / q.den:=Rat.floor_def q
theorem JU (q:Rat):q*((q.den:Int):Rat)=(q.num:Rat):=by
 have h:q=Rat.divInt q.num q.den:=(Rat.num_divInt_den q).symm;have hd:(q.den:Int)≠0:=by have:=q.den_nz;omega
 obtain⟨n,hn⟩:∃n,n=q.num:=⟨_,rfl⟩
 obtain⟨d,hd'⟩:∃d,d=(q.den:Int):=⟨_,rfl⟩
 rw[<-hn,<-hd'] at h ⊢;rw[<-hd'] at hd;rw[h,Rat.divInt_eq_div,Rat.div_mul_cancel];intro e
 have:(d:Rat)=((0:Int):Rat):=e
 exact hd (Rat.intCast_inj.1 this)
theorem FM (q:Rat):(q-q.floor)*((q.den:Int):Rat)=((q.num % q.den:Int):Rat):=by
 have h:=Int.emod_add_mul_ediv q.num q.den;have h2:((q.num % q.den:Int):Rat)+((q.den:Int):Rat)*(q.floor:Rat)=(q.num:Rat):=by
  rw[U6]
  have:=congrArg (fun z:Int=>(z:Rat)) h
  simpa only[Rat.intCast_add,Rat.intCast_mul] using this
 have h3:=JU q
 grind
theorem JV (q:Rat):q.den=1↔q=q.floor:=by
 constructor
 ·intro h;have h2:=JU q
  have:q.floor=q.num:=by rw[U6,h];simp
  rw[this,<-h2,h];simp
 ·intro h;rw[h];rfl
theorem Zay (q:Rat):(q.floor:Rat)<=q:=Rat.floor_le q
theorem Zaz (q:Rat):q<(q.floor:Rat)+1:=by have:=Rat.lt_floor_add_one q;simpa using this
theorem Aw (q:Rat):q<0↔q.floor<0:=by
 have h1:=Zay q;have h2:=Zaz q;constructor
 ·intro h
  have:(q.floor:Rat)<((0:Int):Rat):=by grind
  exact Rat.intCast_lt_intCast.1 this
 ·intro h
  have:q.floor+1<=0:=by omega
  have:((q.floor+1:Int):Rat)<=((0:Int):Rat):=Rat.intCast_le_intCast.2 this
  have:(q.floor:Rat)+1<=0:=by simpa [Rat.intCast_add] using this
  grind
theorem Ax (q:Rat) (m:Int):rnd q m=q.floor∨(rnd q m=q.floor+1/\q≠q.floor):=by
 unfold rnd
 by_cases h:q.den=1
 ·rw[if_pos h];exact .inl rfl
 ·rw[if_neg h]
  split
  ·exact .inr ⟨rfl,fun e=>h ((JV q).2 e)⟩
  ·exact .inl rfl
theorem Ay (q:Rat) (m:Int):q.floor<=rnd q m/\rnd q m<=q.floor+1:=by
 rcases Ax q m with h|⟨h,-⟩<;>omega
section
variable {l l':List UInt8}
theorem TI (hl:l.length<=100000000) (hl':l'.length<=100000000) (h0:val l'≠0) {q r:Int} (e:YB (val l) (val l')=q) (e':Wy (val l) (val l')=r):Ret 137 #[.string ⟨l.toArray⟩,.string ⟨l'.toArray⟩] (.tuple #[.string ⟨(canon q).toArray⟩,.string ⟨(canon r).toArray⟩,.int .i64 0]):=fun w hG=>by
 subst e;subst e';exact UN l l' w hl hl' hG h0
theorem BN (hl:l.length<=100000000) {z:Int} (e : -val l=z):Ret 206 #[.string ⟨l.toArray⟩] (.string ⟨(canon z).toArray⟩):=fun w hG=>by
 subst e;exact NF l w hl hG
theorem JW (hl:l.length<=100000000) (hl':l'.length<=100000000) {z:Int} (e:val l*val l'=z):Ret 68 #[.string ⟨l.toArray⟩,.string ⟨l'.toArray⟩] (.string ⟨(canon z).toArray⟩):=fun w hG=>by
 subst e;exact Ss l l' w hl hl' hG
end
theorem Q6 {z:Int} (h:z=0):(canon z==[])=true/\(canon z).isEmpty=true:=by rw[h];decide
theorem NL {z:Int} (h:z≠0):(canon z==[])=false/\(canon z).isEmpty=false:=by
 have:canon z≠[]:=fun e=>h ((V6 z).1 e)
 exact⟨by rw[Bn];exact this,by rw[List.isEmpty_eq_false_iff];exact this⟩
theorem Zk {z:Int} {k:Nat} (h:z.natAbs<10 ^ k) {n:Nat} (hn:k+1<=n):(canon z).length<=n:=Nt (Zn _ _ h) hn
theorem OZ {l:List UInt8} (hl:l.length<=1000000) {z:Int} (e:val l=z):Ret 138 #[.string ⟨l.toArray⟩] (.bool (decide (z % 2=0))):=fun w hG=>by
 have c1:=TI (l:=l) (l':=[50]) (by omega) (by decide) (by decide) rfl (show Wy (val l) (val [50])=z % 2 by rw[e];rfl)
 generalize YB (val l) (val [50])=q at c1;have hb:=Below.refl w.heap.size w;have H1:=Lh c1;clear c1 e
 by_cases h:z % 2=0
 ·obtain⟨e1,e2⟩:=Q6 h;rw[Dt h];generalize z % 2=r at *;go_enter Tryz.func138,Tryz.ntmps138;go_wp2_with fail
  with_reducible refine (H1.out.of hG hb).mono ?_
  rintro e w1 ⟨rfl,hb2⟩;go_wp2;go_ret;exact⟨rfl,bto hb hb2⟩
 ·obtain⟨e1,e2⟩:=NL h;rw[Df h];generalize z % 2=r at *;go_enter Tryz.func138,Tryz.ntmps138;go_wp2_with fail
  with_reducible refine (H1.out.of hG hb).mono ?_
  rintro e w1 ⟨rfl,hb2⟩;go_wp2;go_ret;exact⟨rfl,bto hb hb2⟩
structure D8 (q:Rat) (fl r c s:Int):Prop where
 efl:q.floor=fl
 er:q.num % q.den=r
 ec:Zx (r+r) q.den=c
 es:Zx q.num 0=s
theorem QO (q:Rat):D8 q q.floor (q.num % q.den) (XG q) (Zx q.num 0):=⟨rfl,rfl,by unfold XG;congr 1;omega,rfl⟩
theorem S8 (q:Rat):q.num % q.den=0↔q.den=1:=by
 rw[JV];have h:=FM q;have hd:=FL q;constructor
 ·intro e;rw[e] at h;rcases Rat.mul_eq_zero.1 h with h1|h1
  ·grind
  ·grind
 ·intro e;rw[<-e,Rat.sub_self,Rat.zero_mul] at h;exact (Rat.intCast_inj.1 (h.symm.trans rfl))
theorem S9 (q:Rat):Zx q.num 0<0↔q.floor<0:=by
 rw[<-Aw,Rat.lt_iff];unfold Zx;simp
 split
 ·simp_all
 ·split<;>simp_all
theorem Z7 {q:Rat} {fl r c s:Int} (H:D8 q fl r c s) (h:r=0) (m:Int):rnd q m=fl:=by
 unfold rnd;rw[if_pos ((S8 q).1 (H.er.trans h)),H.efl]
theorem TY {q:Rat} {fl r c s:Int} (H:D8 q fl r c s) (h:r≠0) {m:Int} (hu:upB fl c m=true):rnd q m=fl+1:=by
 have hc:XG q=c:=by rw[<-H.ec];unfold XG;rw[H.er];congr 1;omega
 unfold rnd;rw[if_neg (fun e=>h (H.er.symm.trans ((S8 q).2 e))),H.efl,hc,if_pos hu]
theorem TZ {q:Rat} {fl r c s:Int} (H:D8 q fl r c s) (h:r≠0) {m:Int} (hu:upB fl c m=false):rnd q m=fl:=by
 have hc:XG q=c:=by rw[<-H.ec];unfold XG;rw[H.er];congr 1;omega
 unfold rnd;rw[if_neg (fun e=>h (H.er.symm.trans ((S8 q).2 e))),H.efl,hc,if_neg (by rw[hu];decide)]
theorem U7 (q:Rat):Wy q.num q.den=q.num % q.den:=by unfold Wy;rw[if_pos (by have:=q.den_nz;omega)]
theorem U8 (q:Rat):YB q.num q.den=q.floor:=by unfold YB;rw[if_pos (by have:=q.den_nz;omega),U6]
theorem T0 (q:Rat):q.floor.natAbs<=q.num.natAbs:=by rw[U6];exact Int.natAbs_ediv_le_natAbs _ _
theorem U9 (q:Rat):(q.num % q.den).natAbs<q.den:=by
 have h:=q.den_nz;have h1:=Int.emod_nonneg q.num (b:=q.den) (by omega)
 have h2:=Int.emod_lt_of_pos q.num (b:=q.den) (by omega)
 omega
theorem Hf {l l':List UInt8} {q:Rat} {k:Nat} (h:IsQ l l' q) (b:Bd k q) (hk:k<=90000) (m:Int) (hm:m=1) (h0:q.num % q.den=0):Ret 57 #[(Value.agg #[Value.string ⟨l.toArray⟩,Value.string ⟨l'.toArray⟩]),.int .i64 m] (.tuple #[.string ⟨(canon (rnd q m)).toArray⟩,.int .i64 0]):=fun w hG=>by
 have c1:=S4 h;have hbq:=b;have hd0:(q.den:Int)≠0:=by have:=q.den_nz;omega
 have hfl:=Nat.lt_of_le_of_lt (T0 q) b.1;have hmd:=Nat.lt_trans (U9 q) b.2;have hde:(q.den:Int).natAbs<10 ^ k:=by rw[Int.natAbs_natCast];exact b.2
 have hrr:(q.num % q.den+q.num % q.den).natAbs<10 ^ (k+1):=by rw[Nat.pow_succ];omega
 have c2:=TI (l:=fN q) (l':=canon q.den) (by have:=(Xj b).1;omega) (Zk hde (by omega)) (by rw[Zg];exact hd0) (show YB (val (fN q)) (val (canon q.den))=q.floor by rw[Yu,Zg,U8]) (show Wy (val (fN q)) (val (canon q.den))=q.num % q.den by rw[Yu,Zg,U7])
 have c3:=Xa (l:=canon q.floor) (l':=[49]) (Zk hfl (by omega)) (by decide) (show val (canon q.floor)+val [49]=q.floor+1 by rw[Zg];rfl)
 have c4:=Zv (l:=fN q) (l':=[]) (by have:=(Xj b).1;omega) (by decide) (show Zx (val (fN q)) (val [])=Zx q.num 0 by rw[Yu];rfl)
 have c5:=Xa (l:=canon (q.num % q.den)) (l':=canon (q.num % q.den)) (Zk hmd (by omega)) (Zk hmd (by omega)) (show val (canon (q.num % q.den))+val (canon (q.num % q.den))=q.num % q.den+q.num % q.den by rw[Zg])
 have c6:=Zv (l:=canon (q.num % q.den+q.num % q.den)) (l':=canon q.den) (Zk hrr (by omega)) (Zk hde (by omega)) (show Zx (val (canon (q.num % q.den+q.num % q.den))) (val (canon q.den))=XG q by rw[Zg,Zg];exact (QO q).ec)
 have cE:=OZ (l:=canon q.floor) (Zk hfl (by omega)) (Zg q.floor)
 have hf:=QO q;have hsf0:=S9 q;have x2:=Z9.new w (.string ⟨l.toArray⟩) (.string ⟨l'.toArray⟩) 34;have hb:=Zd w (.cells #[.string ⟨l.toArray⟩,.string ⟨l'.toArray⟩] 34);clear hbq hd0 hfl hmd hde hrr;generalize q.floor=fl at *;generalize q.num % q.den=r at *;generalize XG q=c at *;generalize Zx q.num 0=s at *;have C1:=Lh c1;have C2:=Lh c2;have C3:=Lh c3;have C4:=Lh c4;have C5:=Lh c5;have C6:=Lh c6;have HE:=Lh cE;have HF:=Lh hf;have hsf:=Lh hsf0;clear c1 c2 c3 c4 c5 c6 cE hf b h hsf0;obtain⟨e1,e2⟩:=Q6 h0;have hr:=Lh h0;clear h0 hk;go_enter Tryz.func57,Tryz.ntmps57;have qx2_0:=x2.c0;have qx2_1:=x2.c1;go_wp2_with fail
 with_reducible refine (C1.out.of hG hb).mono ?_
 rintro e w2 ⟨rfl,hb2⟩;clear qx2_0 qx2_1;replace x2:=x2.below hb2;replace hb:=bto hb hb2;clear hb2;go_wp2_with fail
 with_reducible refine (C2.out.of hG hb).mono ?_
 rintro e w3 ⟨rfl,hb3⟩;replace x2:=x2.below hb3;replace hb:=bto hb hb3;clear hb3;go_wp2_with fail
 with_reducible refine (C4.out.of hG hb).mono ?_
 rintro e w4 ⟨rfl,hb4⟩;replace x2:=x2.below hb4;replace hb:=bto hb hb4;clear hb4;go_wp2_with fail
 with_reducible refine (C5.out.of hG hb).mono ?_
 rintro e w5 ⟨rfl,hb5⟩;replace x2:=x2.below hb5;replace hb:=bto hb hb5;clear hb5;go_wp2_with fail
 with_reducible refine (C6.out.of hG hb).mono ?_
 rintro e w6 ⟨rfl,hb6⟩;replace x2:=x2.below hb6;replace hb:=bto hb hb6;clear hb6;clear x2;clear e1 e2;subst hm
 by_cases g1:0<c
 ·have g1':decide (0<c)=true:=Dt g1;have HR:=Lh (Z7 HF.out hr.out 1);clear HF hsf hr;go_wp2;go_ret2;exact⟨by rw[HR.out];first|done|rfl,hb⟩
 have g1':decide (0<c)=false:=Df g1
 by_cases g2:c=0
 rotate_left
 ·have g2':(c==0)=false:=by rw[Bn];exact g2
  have HR:=Lh (Z7 HF.out hr.out 1);clear HF hsf hr;go_wp2;go_ret2;exact⟨by rw[HR.out];first|done|rfl,hb⟩
 have g2':(c==0)=true:=by rw[beq_iff_eq];exact g2
 by_cases g3:fl % 2=0
 ·have g3':decide (fl % 2=0)=true:=Dt g3;have HR:=Lh (Z7 HF.out hr.out 1);clear HF hsf hr;go_wp2_with fail
  with_reducible refine (HE.out.of hG hb).mono ?_
  rintro e w9 ⟨rfl,hb9⟩;replace hb:=bto hb hb9;rw[g3'];go_wp2;go_ret2;exact⟨by rw[HR.out];first|done|rfl,hb⟩
 ·have g3':decide (fl % 2=0)=false:=Df g3;have HR:=Lh (Z7 HF.out hr.out 1);clear HF hsf hr;go_wp2_with fail
  with_reducible refine (HE.out.of hG hb).mono ?_
  rintro e w9 ⟨rfl,hb9⟩;replace hb:=bto hb hb9;rw[g3'];go_wp2;go_ret2;exact⟨by rw[HR.out];first|done|rfl,hb⟩
theorem Hh {l l':List UInt8} {q:Rat} {k:Nat} (h:IsQ l l' q) (b:Bd k q) (hk:k<=90000) (m:Int) (hm:m=2) (h0:q.num % q.den=0):Ret 57 #[(Value.agg #[Value.string ⟨l.toArray⟩,Value.string ⟨l'.toArray⟩]),.int .i64 m] (.tuple #[.string ⟨(canon (rnd q m)).toArray⟩,.int .i64 0]):=fun w hG=>by
 have c1:=S4 h;have hbq:=b;have hd0:(q.den:Int)≠0:=by have:=q.den_nz;omega
 have hfl:=Nat.lt_of_le_of_lt (T0 q) b.1;have hmd:=Nat.lt_trans (U9 q) b.2;have hde:(q.den:Int).natAbs<10 ^ k:=by rw[Int.natAbs_natCast];exact b.2
 have hrr:(q.num % q.den+q.num % q.den).natAbs<10 ^ (k+1):=by rw[Nat.pow_succ];omega
 have c2:=TI (l:=fN q) (l':=canon q.den) (by have:=(Xj b).1;omega) (Zk hde (by omega)) (by rw[Zg];exact hd0) (show YB (val (fN q)) (val (canon q.den))=q.floor by rw[Yu,Zg,U8]) (show Wy (val (fN q)) (val (canon q.den))=q.num % q.den by rw[Yu,Zg,U7])
 have c3:=Xa (l:=canon q.floor) (l':=[49]) (Zk hfl (by omega)) (by decide) (show val (canon q.floor)+val [49]=q.floor+1 by rw[Zg];rfl)
 have c4:=Zv (l:=fN q) (l':=[]) (by have:=(Xj b).1;omega) (by decide) (show Zx (val (fN q)) (val [])=Zx q.num 0 by rw[Yu];rfl)
 have c5:=Xa (l:=canon (q.num % q.den)) (l':=canon (q.num % q.den)) (Zk hmd (by omega)) (Zk hmd (by omega)) (show val (canon (q.num % q.den))+val (canon (q.num % q.den))=q.num % q.den+q.num % q.den by rw[Zg])
 have c6:=Zv (l:=canon (q.num % q.den+q.num % q.den)) (l':=canon q.den) (Zk hrr (by omega)) (Zk hde (by omega)) (show Zx (val (canon (q.num % q.den+q.num % q.den))) (val (canon q.den))=XG q by rw[Zg,Zg];exact (QO q).ec)
 have cE:=OZ (l:=canon q.floor) (Zk hfl (by omega)) (Zg q.floor)
 have hf:=QO q;have hsf0:=S9 q;have x2:=Z9.new w (.string ⟨l.toArray⟩) (.string ⟨l'.toArray⟩) 34;have hb:=Zd w (.cells #[.string ⟨l.toArray⟩,.string ⟨l'.toArray⟩] 34);clear hbq hd0 hfl hmd hde hrr;generalize q.floor=fl at *;generalize q.num % q.den=r at *;generalize XG q=c at *;generalize Zx q.num 0=s at *;have C1:=Lh c1;have C2:=Lh c2;have C3:=Lh c3;have C4:=Lh c4;have C5:=Lh c5;have C6:=Lh c6;have HE:=Lh cE;have HF:=Lh hf;have hsf:=Lh hsf0;clear c1 c2 c3 c4 c5 c6 cE hf b h hsf0;obtain⟨e1,e2⟩:=Q6 h0;have hr:=Lh h0;clear h0 hk;go_enter Tryz.func57,Tryz.ntmps57;have qx2_0:=x2.c0;have qx2_1:=x2.c1;go_wp2_with fail
 with_reducible refine (C1.out.of hG hb).mono ?_
 rintro e w2 ⟨rfl,hb2⟩;clear qx2_0 qx2_1;replace x2:=x2.below hb2;replace hb:=bto hb hb2;clear hb2;go_wp2_with fail
 with_reducible refine (C2.out.of hG hb).mono ?_
 rintro e w3 ⟨rfl,hb3⟩;replace x2:=x2.below hb3;replace hb:=bto hb hb3;clear hb3;go_wp2_with fail
 with_reducible refine (C4.out.of hG hb).mono ?_
 rintro e w4 ⟨rfl,hb4⟩;replace x2:=x2.below hb4;replace hb:=bto hb hb4;clear hb4;go_wp2_with fail
 with_reducible refine (C5.out.of hG hb).mono ?_
 rintro e w5 ⟨rfl,hb5⟩;replace x2:=x2.below hb5;replace hb:=bto hb hb5;clear hb5;go_wp2_with fail
 with_reducible refine (C6.out.of hG hb).mono ?_
 rintro e w6 ⟨rfl,hb6⟩;replace x2:=x2.below hb6;replace hb:=bto hb hb6;clear hb6;clear x2;clear e1 e2;subst hm
 by_cases g1:0<c
 ·have g1':decide (0<c)=true:=Dt g1;have HR:=Lh (Z7 HF.out hr.out 2);clear HF hsf hr;go_wp2;go_ret2;exact⟨by rw[HR.out];first|done|rfl,hb⟩
 have g1':decide (0<c)=false:=Df g1
 by_cases g2:c=0
 rotate_left
 ·have g2':(c==0)=false:=by rw[Bn];exact g2
  have HR:=Lh (Z7 HF.out hr.out 2);clear HF hsf hr;go_wp2;go_ret2;exact⟨by rw[HR.out];first|done|rfl,hb⟩
 have g2':(c==0)=true:=by rw[beq_iff_eq];exact g2
 by_cases g3:s<0
 ·have g3':decide (s<0)=true:=Dt g3;have g4:=hsf.out.1 g3;have HR:=Lh (Z7 HF.out hr.out 2);clear HF hsf hr;go_wp2;go_ret2;exact⟨by rw[HR.out];first|done|rfl,hb⟩
 ·have g3':decide (s<0)=false:=Df g3;have g4:0<=fl:=Int.not_lt.1 (fun h=>g3 (hsf.out.2 h))
  have HR:=Lh (Z7 HF.out hr.out 2);clear HF hsf hr;go_wp2;go_ret2;exact⟨by rw[HR.out];first|done|rfl,hb⟩
theorem Hi {l l':List UInt8} {q:Rat} {k:Nat} (h:IsQ l l' q) (b:Bd k q) (hk:k<=90000) (m:Int) (hm:m=3∨m=4∨m=5∨m=6) (h0:q.num % q.den=0):Ret 57 #[(Value.agg #[Value.string ⟨l.toArray⟩,Value.string ⟨l'.toArray⟩]),.int .i64 m] (.tuple #[.string ⟨(canon (rnd q m)).toArray⟩,.int .i64 0]):=fun w hG=>by
 have c1:=S4 h;have hbq:=b;have hd0:(q.den:Int)≠0:=by have:=q.den_nz;omega
 have hfl:=Nat.lt_of_le_of_lt (T0 q) b.1;have hmd:=Nat.lt_trans (U9 q) b.2;have hde:(q.den:Int).natAbs<10 ^ k:=by rw[Int.natAbs_natCast];exact b.2
 have hrr:(q.num % q.den+q.num % q.den).natAbs<10 ^ (k+1):=by rw[Nat.pow_succ];omega
 have c2:=TI (l:=fN q) (l':=canon q.den) (by have:=(Xj b).1;omega) (Zk hde (by omega)) (by rw[Zg];exact hd0) (show YB (val (fN q)) (val (canon q.den))=q.floor by rw[Yu,Zg,U8]) (show Wy (val (fN q)) (val (canon q.den))=q.num % q.den by rw[Yu,Zg,U7])
 have c3:=Xa (l:=canon q.floor) (l':=[49]) (Zk hfl (by omega)) (by decide) (show val (canon q.floor)+val [49]=q.floor+1 by rw[Zg];rfl)
 have c4:=Zv (l:=fN q) (l':=[]) (by have:=(Xj b).1;omega) (by decide) (show Zx (val (fN q)) (val [])=Zx q.num 0 by rw[Yu];rfl)
 have c5:=Xa (l:=canon (q.num % q.den)) (l':=canon (q.num % q.den)) (Zk hmd (by omega)) (Zk hmd (by omega)) (show val (canon (q.num % q.den))+val (canon (q.num % q.den))=q.num % q.den+q.num % q.den by rw[Zg])
 have c6:=Zv (l:=canon (q.num % q.den+q.num % q.den)) (l':=canon q.den) (Zk hrr (by omega)) (Zk hde (by omega)) (show Zx (val (canon (q.num % q.den+q.num % q.den))) (val (canon q.den))=XG q by rw[Zg,Zg];exact (QO q).ec)
 have cE:=OZ (l:=canon q.floor) (Zk hfl (by omega)) (Zg q.floor)
 have hf:=QO q;have hsf0:=S9 q;have x2:=Z9.new w (.string ⟨l.toArray⟩) (.string ⟨l'.toArray⟩) 34;have hb:=Zd w (.cells #[.string ⟨l.toArray⟩,.string ⟨l'.toArray⟩] 34);clear hbq hd0 hfl hmd hde hrr;generalize q.floor=fl at *;generalize q.num % q.den=r at *;generalize XG q=c at *;generalize Zx q.num 0=s at *;have C1:=Lh c1;have C2:=Lh c2;have C3:=Lh c3;have C4:=Lh c4;have C5:=Lh c5;have C6:=Lh c6;have HE:=Lh cE;have HF:=Lh hf;have hsf:=Lh hsf0;clear c1 c2 c3 c4 c5 c6 cE hf b h hsf0;obtain⟨e1,e2⟩:=Q6 h0;have hr:=Lh h0;clear h0 hk;go_enter Tryz.func57,Tryz.ntmps57;have qx2_0:=x2.c0;have qx2_1:=x2.c1;go_wp2_with fail
 with_reducible refine (C1.out.of hG hb).mono ?_
 rintro e w2 ⟨rfl,hb2⟩;clear qx2_0 qx2_1;replace x2:=x2.below hb2;replace hb:=bto hb hb2;clear hb2;go_wp2_with fail
 with_reducible refine (C2.out.of hG hb).mono ?_
 rintro e w3 ⟨rfl,hb3⟩;replace x2:=x2.below hb3;replace hb:=bto hb hb3;clear hb3;go_wp2_with fail
 with_reducible refine (C4.out.of hG hb).mono ?_
 rintro e w4 ⟨rfl,hb4⟩;replace x2:=x2.below hb4;replace hb:=bto hb hb4;clear hb4;go_wp2_with fail
 with_reducible refine (C5.out.of hG hb).mono ?_
 rintro e w5 ⟨rfl,hb5⟩;replace x2:=x2.below hb5;replace hb:=bto hb hb5;clear hb5;go_wp2_with fail
 with_reducible refine (C6.out.of hG hb).mono ?_
 rintro e w6 ⟨rfl,hb6⟩;replace x2:=x2.below hb6;replace hb:=bto hb hb6;clear hb6;clear x2;clear e1 e2;rcases hm with rfl|rfl|rfl|rfl
 ·by_cases g3:s<0
  ·have g3':decide (s<0)=true:=Dt g3;have g4:=hsf.out.1 g3;have HR:=Lh (Z7 HF.out hr.out 3);clear HF hsf hr;go_wp2;go_ret2;exact⟨by rw[HR.out];first|done|rfl,hb⟩
  ·have g3':decide (s<0)=false:=Df g3;have g4:0<=fl:=Int.not_lt.1 (fun h=>g3 (hsf.out.2 h))
   have HR:=Lh (Z7 HF.out hr.out 3);clear HF hsf hr;go_wp2;go_ret2;exact⟨by rw[HR.out];first|done|rfl,hb⟩
 ·by_cases g3:s<0
  ·have g3':decide (s<0)=true:=Dt g3;have g4:=hsf.out.1 g3;have HR:=Lh (Z7 HF.out hr.out 4);clear HF hsf hr;go_wp2;go_ret2;exact⟨by rw[HR.out];first|done|rfl,hb⟩
  ·have g3':decide (s<0)=false:=Df g3;have g4:0<=fl:=Int.not_lt.1 (fun h=>g3 (hsf.out.2 h))
   have HR:=Lh (Z7 HF.out hr.out 4);clear HF hsf hr;go_wp2;go_ret2;exact⟨by rw[HR.out];first|done|rfl,hb⟩
 ·have HR:=Lh (Z7 HF.out hr.out 5);clear HF hsf hr;go_wp2;go_ret2;exact⟨by rw[HR.out];first|done|rfl,hb⟩
 ·have HR:=Lh (Z7 HF.out hr.out 6);clear HF hsf hr;go_wp2;go_ret2;exact⟨by rw[HR.out];first|done|rfl,hb⟩
theorem Hj {l l':List UInt8} {q:Rat} {k:Nat} (h:IsQ l l' q) (b:Bd k q) (hk:k<=90000) (m:Int) (hm:m=1) (h0:q.num % q.den≠0):Ret 57 #[(Value.agg #[Value.string ⟨l.toArray⟩,Value.string ⟨l'.toArray⟩]),.int .i64 m] (.tuple #[.string ⟨(canon (rnd q m)).toArray⟩,.int .i64 0]):=fun w hG=>by
 have c1:=S4 h;have hbq:=b;have hd0:(q.den:Int)≠0:=by have:=q.den_nz;omega
 have hfl:=Nat.lt_of_le_of_lt (T0 q) b.1;have hmd:=Nat.lt_trans (U9 q) b.2;have hde:(q.den:Int).natAbs<10 ^ k:=by rw[Int.natAbs_natCast];exact b.2
 have hrr:(q.num % q.den+q.num % q.den).natAbs<10 ^ (k+1):=by rw[Nat.pow_succ];omega
 have c2:=TI (l:=fN q) (l':=canon q.den) (by have:=(Xj b).1;omega) (Zk hde (by omega)) (by rw[Zg];exact hd0) (show YB (val (fN q)) (val (canon q.den))=q.floor by rw[Yu,Zg,U8]) (show Wy (val (fN q)) (val (canon q.den))=q.num % q.den by rw[Yu,Zg,U7])
 have c3:=Xa (l:=canon q.floor) (l':=[49]) (Zk hfl (by omega)) (by decide) (show val (canon q.floor)+val [49]=q.floor+1 by rw[Zg];rfl)
 have c4:=Zv (l:=fN q) (l':=[]) (by have:=(Xj b).1;omega) (by decide) (show Zx (val (fN q)) (val [])=Zx q.num 0 by rw[Yu];rfl)
 have c5:=Xa (l:=canon (q.num % q.den)) (l':=canon (q.num % q.den)) (Zk hmd (by omega)) (Zk hmd (by omega)) (show val (canon (q.num % q.den))+val (canon (q.num % q.den))=q.num % q.den+q.num % q.den by rw[Zg])
 have c6:=Zv (l:=canon (q.num % q.den+q.num % q.den)) (l':=canon q.den) (Zk hrr (by omega)) (Zk hde (by omega)) (show Zx (val (canon (q.num % q.den+q.num % q.den))) (val (canon q.den))=XG q by rw[Zg,Zg];exact (QO q).ec)
 have cE:=OZ (l:=canon q.floor) (Zk hfl (by omega)) (Zg q.floor)
 have hf:=QO q;have hsf0:=S9 q;have x2:=Z9.new w (.string ⟨l.toArray⟩) (.string ⟨l'.toArray⟩) 34;have hb:=Zd w (.cells #[.string ⟨l.toArray⟩,.string ⟨l'.toArray⟩] 34);clear hbq hd0 hfl hmd hde hrr;generalize q.floor=fl at *;generalize q.num % q.den=r at *;generalize XG q=c at *;generalize Zx q.num 0=s at *;have C1:=Lh c1;have C2:=Lh c2;have C3:=Lh c3;have C4:=Lh c4;have C5:=Lh c5;have C6:=Lh c6;have HE:=Lh cE;have HF:=Lh hf;have hsf:=Lh hsf0;clear c1 c2 c3 c4 c5 c6 cE hf b h hsf0;obtain⟨e1,e2⟩:=NL h0;have hr:=Lh h0;clear h0 hk;go_enter Tryz.func57,Tryz.ntmps57;have qx2_0:=x2.c0;have qx2_1:=x2.c1;go_wp2_with fail
 with_reducible refine (C1.out.of hG hb).mono ?_
 rintro e w2 ⟨rfl,hb2⟩;clear qx2_0 qx2_1;replace x2:=x2.below hb2;replace hb:=bto hb hb2;clear hb2;go_wp2_with fail
 with_reducible refine (C2.out.of hG hb).mono ?_
 rintro e w3 ⟨rfl,hb3⟩;replace x2:=x2.below hb3;replace hb:=bto hb hb3;clear hb3;go_wp2_with fail
 with_reducible refine (C3.out.of hG hb).mono ?_
 rintro e w4 ⟨rfl,hb4⟩;replace x2:=x2.below hb4;replace hb:=bto hb hb4;clear hb4;go_wp2_with fail
 with_reducible refine (C4.out.of hG hb).mono ?_
 rintro e w5 ⟨rfl,hb5⟩;replace x2:=x2.below hb5;replace hb:=bto hb hb5;clear hb5;go_wp2_with fail
 with_reducible refine (C5.out.of hG hb).mono ?_
 rintro e w6 ⟨rfl,hb6⟩;replace x2:=x2.below hb6;replace hb:=bto hb hb6;clear hb6;go_wp2_with fail
 with_reducible refine (C6.out.of hG hb).mono ?_
 rintro e w7 ⟨rfl,hb7⟩;replace x2:=x2.below hb7;replace hb:=bto hb hb7;clear hb7;clear x2;clear e1 e2;subst hm
 by_cases g1:0<c
 ·have g1':decide (0<c)=true:=Dt g1;have HR:=Lh (TY HF.out hr.out (m:=1) (by simp[upB,g1]))
  clear HF hsf hr;go_wp2;go_ret2;exact⟨by rw[HR.out];first|done|rfl,hb⟩
 have g1':decide (0<c)=false:=Df g1
 by_cases g2:c=0
 rotate_left
 ·have g2':(c==0)=false:=by rw[Bn];exact g2
  have HR:=Lh (TZ HF.out hr.out (m:=1) (by simp[upB,g1,g2]))
  clear HF hsf hr;go_wp2;go_ret2;exact⟨by rw[HR.out];first|done|rfl,hb⟩
 have g2':(c==0)=true:=by rw[beq_iff_eq];exact g2
 by_cases g3:fl % 2=0
 ·have g3':decide (fl % 2=0)=true:=Dt g3;have HR:=Lh (TZ HF.out hr.out (m:=1) (by simp[upB,g1,g3]))
  clear HF hsf hr;go_wp2_with fail
  with_reducible refine (HE.out.of hG hb).mono ?_
  rintro e w9 ⟨rfl,hb9⟩;replace hb:=bto hb hb9;rw[g3'];go_wp2;go_ret2;exact⟨by rw[HR.out];first|done|rfl,hb⟩
 ·have g3':decide (fl % 2=0)=false:=Df g3;have HR:=Lh (TY HF.out hr.out (m:=1) (by simp[upB,g2,g3]))
  clear HF hsf hr;go_wp2_with fail
  with_reducible refine (HE.out.of hG hb).mono ?_
  rintro e w9 ⟨rfl,hb9⟩;replace hb:=bto hb hb9;rw[g3'];go_wp2;go_ret2;exact⟨by rw[HR.out];first|done|rfl,hb⟩
theorem Hk {l l':List UInt8} {q:Rat} {k:Nat} (h:IsQ l l' q) (b:Bd k q) (hk:k<=90000) (m:Int) (hm:m=2) (h0:q.num % q.den≠0):Ret 57 #[(Value.agg #[Value.string ⟨l.toArray⟩,Value.string ⟨l'.toArray⟩]),.int .i64 m] (.tuple #[.string ⟨(canon (rnd q m)).toArray⟩,.int .i64 0]):=fun w hG=>by
 have c1:=S4 h;have hbq:=b;have hd0:(q.den:Int)≠0:=by have:=q.den_nz;omega
 have hfl:=Nat.lt_of_le_of_lt (T0 q) b.1;have hmd:=Nat.lt_trans (U9 q) b.2;have hde:(q.den:Int).natAbs<10 ^ k:=by rw[Int.natAbs_natCast];exact b.2
 have hrr:(q.num % q.den+q.num % q.den).natAbs<10 ^ (k+1):=by rw[Nat.pow_succ];omega
 have c2:=TI (l:=fN q) (l':=canon q.den) (by have:=(Xj b).1;omega) (Zk hde (by omega)) (by rw[Zg];exact hd0) (show YB (val (fN q)) (val (canon q.den))=q.floor by rw[Yu,Zg,U8]) (show Wy (val (fN q)) (val (canon q.den))=q.num % q.den by rw[Yu,Zg,U7])
 have c3:=Xa (l:=canon q.floor) (l':=[49]) (Zk hfl (by omega)) (by decide) (show val (canon q.floor)+val [49]=q.floor+1 by rw[Zg];rfl)
 have c4:=Zv (l:=fN q) (l':=[]) (by have:=(Xj b).1;omega) (by decide) (show Zx (val (fN q)) (val [])=Zx q.num 0 by rw[Yu];rfl)
 have c5:=Xa (l:=canon (q.num % q.den)) (l':=canon (q.num % q.den)) (Zk hmd (by omega)) (Zk hmd (by omega)) (show val (canon (q.num % q.den))+val (canon (q.num % q.den))=q.num % q.den+q.num % q.den by rw[Zg])
 have c6:=Zv (l:=canon (q.num % q.den+q.num % q.den)) (l':=canon q.den) (Zk hrr (by omega)) (Zk hde (by omega)) (show Zx (val (canon (q.num % q.den+q.num % q.den))) (val (canon q.den))=XG q by rw[Zg,Zg];exact (QO q).ec)
 have cE:=OZ (l:=canon q.floor) (Zk hfl (by omega)) (Zg q.floor)
 have hf:=QO q;have hsf0:=S9 q;have x2:=Z9.new w (.string ⟨l.toArray⟩) (.string ⟨l'.toArray⟩) 34;have hb:=Zd w (.cells #[.string ⟨l.toArray⟩,.string ⟨l'.toArray⟩] 34);clear hbq hd0 hfl hmd hde hrr;generalize q.floor=fl at *;generalize q.num % q.den=r at *;generalize XG q=c at *;generalize Zx q.num 0=s at *;have C1:=Lh c1;have C2:=Lh c2;have C3:=Lh c3;have C4:=Lh c4;have C5:=Lh c5;have C6:=Lh c6;have HE:=Lh cE;have HF:=Lh hf;have hsf:=Lh hsf0;clear c1 c2 c3 c4 c5 c6 cE hf b h hsf0;obtain⟨e1,e2⟩:=NL h0;have hr:=Lh h0;clear h0 hk;go_enter Tryz.func57,Tryz.ntmps57;have qx2_0:=x2.c0;have qx2_1:=x2.c1;go_wp2_with fail
 with_reducible refine (C1.out.of hG hb).mono ?_
 rintro e w2 ⟨rfl,hb2⟩;clear qx2_0 qx2_1;replace x2:=x2.below hb2;replace hb:=bto hb hb2;clear hb2;go_wp2_with fail
 with_reducible refine (C2.out.of hG hb).mono ?_
 rintro e w3 ⟨rfl,hb3⟩;replace x2:=x2.below hb3;replace hb:=bto hb hb3;clear hb3;go_wp2_with fail
 with_reducible refine (C3.out.of hG hb).mono ?_
 rintro e w4 ⟨rfl,hb4⟩;replace x2:=x2.below hb4;replace hb:=bto hb hb4;clear hb4;go_wp2_with fail
 with_reducible refine (C4.out.of hG hb).mono ?_
 rintro e w5 ⟨rfl,hb5⟩;replace x2:=x2.below hb5;replace hb:=bto hb hb5;clear hb5;go_wp2_with fail
 with_reducible refine (C5.out.of hG hb).mono ?_
 rintro e w6 ⟨rfl,hb6⟩;replace x2:=x2.below hb6;replace hb:=bto hb hb6;clear hb6;go_wp2_with fail
 with_reducible refine (C6.out.of hG hb).mono ?_
 rintro e w7 ⟨rfl,hb7⟩;replace x2:=x2.below hb7;replace hb:=bto hb hb7;clear hb7;clear x2;clear e1 e2;subst hm
 by_cases g1:0<c
 ·have g1':decide (0<c)=true:=Dt g1;have HR:=Lh (TY HF.out hr.out (m:=2) (by simp[upB,g1]))
  clear HF hsf hr;go_wp2;go_ret2;exact⟨by rw[HR.out];first|done|rfl,hb⟩
 have g1':decide (0<c)=false:=Df g1
 by_cases g2:c=0
 rotate_left
 ·have g2':(c==0)=false:=by rw[Bn];exact g2
  have HR:=Lh (TZ HF.out hr.out (m:=2) (by simp[upB,g1,g2]))
  clear HF hsf hr;go_wp2;go_ret2;exact⟨by rw[HR.out];first|done|rfl,hb⟩
 have g2':(c==0)=true:=by rw[beq_iff_eq];exact g2
 by_cases g3:s<0
 ·have g3':decide (s<0)=true:=Dt g3;have g4:=hsf.out.1 g3;have HR:=Lh (TZ HF.out hr.out (m:=2) (by simp[upB,g1];first|omega|(intro _;omega)))
  clear HF hsf hr;go_wp2;go_ret2;exact⟨by rw[HR.out];first|done|rfl,hb⟩
 ·have g3':decide (s<0)=false:=Df g3;have g4:0<=fl:=Int.not_lt.1 (fun h=>g3 (hsf.out.2 h))
  have HR:=Lh (TY HF.out hr.out (m:=2) (by simp[upB,g2,g4]))
  clear HF hsf hr;go_wp2;go_ret2;exact⟨by rw[HR.out];first|done|rfl,hb⟩
theorem Hl {l l':List UInt8} {q:Rat} {k:Nat} (h:IsQ l l' q) (b:Bd k q) (hk:k<=90000) (m:Int) (hm:m=3∨m=4∨m=5∨m=6) (h0:q.num % q.den≠0):Ret 57 #[(Value.agg #[Value.string ⟨l.toArray⟩,Value.string ⟨l'.toArray⟩]),.int .i64 m] (.tuple #[.string ⟨(canon (rnd q m)).toArray⟩,.int .i64 0]):=fun w hG=>by
 have c1:=S4 h;have hbq:=b;have hd0:(q.den:Int)≠0:=by have:=q.den_nz;omega
 have hfl:=Nat.lt_of_le_of_lt (T0 q) b.1;have hmd:=Nat.lt_trans (U9 q) b.2;have hde:(q.den:Int).natAbs<10 ^ k:=by rw[Int.natAbs_natCast];exact b.2
 have hrr:(q.num % q.den+q.num % q.den).natAbs<10 ^ (k+1):=by rw[Nat.pow_succ];omega
 have c2:=TI (l:=fN q) (l':=canon q.den) (by have:=(Xj b).1;omega) (Zk hde (by omega)) (by rw[Zg];exact hd0) (show YB (val (fN q)) (val (canon q.den))=q.floor by rw[Yu,Zg,U8]) (show Wy (val (fN q)) (val (canon q.den))=q.num % q.den by rw[Yu,Zg,U7])
 have c3:=Xa (l:=canon q.floor) (l':=[49]) (Zk hfl (by omega)) (by decide) (show val (canon q.floor)+val [49]=q.floor+1 by rw[Zg];rfl)
 have c4:=Zv (l:=fN q) (l':=[]) (by have:=(Xj b).1;omega) (by decide) (show Zx (val (fN q)) (val [])=Zx q.num 0 by rw[Yu];rfl)
 have c5:=Xa (l:=canon (q.num % q.den)) (l':=canon (q.num % q.den)) (Zk hmd (by omega)) (Zk hmd (by omega)) (show val (canon (q.num % q.den))+val (canon (q.num % q.den))=q.num % q.den+q.num % q.den by rw[Zg])
 have c6:=Zv (l:=canon (q.num % q.den+q.num % q.den)) (l':=canon q.den) (Zk hrr (by omega)) (Zk hde (by omega)) (show Zx (val (canon (q.num % q.den+q.num % q.den))) (val (canon q.den))=XG q by rw[Zg,Zg];exact (QO q).ec)
 have cE:=OZ (l:=canon q.floor) (Zk hfl (by omega)) (Zg q.floor)
 have hf:=QO q;have hsf0:=S9 q;have x2:=Z9.new w (.string ⟨l.toArray⟩) (.string ⟨l'.toArray⟩) 34;have hb:=Zd w (.cells #[.string ⟨l.toArray⟩,.string ⟨l'.toArray⟩] 34);clear hbq hd0 hfl hmd hde hrr;generalize q.floor=fl at *;generalize q.num % q.den=r at *;generalize XG q=c at *;generalize Zx q.num 0=s at *;have C1:=Lh c1;have C2:=Lh c2;have C3:=Lh c3;have C4:=Lh c4;have C5:=Lh c5;have C6:=Lh c6;have HE:=Lh cE;have HF:=Lh hf;have hsf:=Lh hsf0;clear c1 c2 c3 c4 c5 c6 cE hf b h hsf0;obtain⟨e1,e2⟩:=NL h0;have hr:=Lh h0;clear h0 hk;go_enter Tryz.func57,Tryz.ntmps57;have qx2_0:=x2.c0;have qx2_1:=x2.c1;go_wp2_with fail
 with_reducible refine (C1.out.of hG hb).mono ?_
 rintro e w2 ⟨rfl,hb2⟩;clear qx2_0 qx2_1;replace x2:=x2.below hb2;replace hb:=bto hb hb2;clear hb2;go_wp2_with fail
 with_reducible refine (C2.out.of hG hb).mono ?_
 rintro e w3 ⟨rfl,hb3⟩;replace x2:=x2.below hb3;replace hb:=bto hb hb3;clear hb3;go_wp2_with fail
 with_reducible refine (C3.out.of hG hb).mono ?_
 rintro e w4 ⟨rfl,hb4⟩;replace x2:=x2.below hb4;replace hb:=bto hb hb4;clear hb4;go_wp2_with fail
 with_reducible refine (C4.out.of hG hb).mono ?_
 rintro e w5 ⟨rfl,hb5⟩;replace x2:=x2.below hb5;replace hb:=bto hb hb5;clear hb5;go_wp2_with fail
 with_reducible refine (C5.out.of hG hb).mono ?_
 rintro e w6 ⟨rfl,hb6⟩;replace x2:=x2.below hb6;replace hb:=bto hb hb6;clear hb6;go_wp2_with fail
 with_reducible refine (C6.out.of hG hb).mono ?_
 rintro e w7 ⟨rfl,hb7⟩;replace x2:=x2.below hb7;replace hb:=bto hb hb7;clear hb7;clear x2;clear e1 e2;rcases hm with rfl|rfl|rfl|rfl
 ·by_cases g3:s<0
  ·have g3':decide (s<0)=true:=Dt g3;have g4:=hsf.out.1 g3;have HR:=Lh (TY HF.out hr.out (m:=3) (by simp[upB,g4]))
   clear HF hsf hr;go_wp2;go_ret2;exact⟨by rw[HR.out];first|done|rfl,hb⟩
  ·have g3':decide (s<0)=false:=Df g3;have g4:0<=fl:=Int.not_lt.1 (fun h=>g3 (hsf.out.2 h))
   have HR:=Lh (TZ HF.out hr.out (m:=3) (by simp[upB];omega))
   clear HF hsf hr;go_wp2;go_ret2;exact⟨by rw[HR.out];first|done|rfl,hb⟩
 ·by_cases g3:s<0
  ·have g3':decide (s<0)=true:=Dt g3;have g4:=hsf.out.1 g3;have HR:=Lh (TZ HF.out hr.out (m:=4) (by simp[upB];omega))
   clear HF hsf hr;go_wp2;go_ret2;exact⟨by rw[HR.out];first|done|rfl,hb⟩
  ·have g3':decide (s<0)=false:=Df g3;have g4:0<=fl:=Int.not_lt.1 (fun h=>g3 (hsf.out.2 h))
   have HR:=Lh (TY HF.out hr.out (m:=4) (by simp[upB,g4]))
   clear HF hsf hr;go_wp2;go_ret2;exact⟨by rw[HR.out];first|done|rfl,hb⟩
 ·have HR:=Lh (TZ HF.out hr.out (m:=5) (by simp[upB]))
  clear HF hsf hr;go_wp2;go_ret2;exact⟨by rw[HR.out];first|done|rfl,hb⟩
 ·have HR:=Lh (TY HF.out hr.out (m:=6) (by simp[upB]))
  clear HF hsf hr;go_wp2;go_ret2;exact⟨by rw[HR.out];first|done|rfl,hb⟩
theorem Az {l l':List UInt8} {q:Rat} {k:Nat} (h:IsQ l l' q) (b:Bd k q) (hk:k<=90000) {m:Int} (h1:1<=m) (h6:m<=6) {z:Int} (e:rnd q m=z):Ret 57 #[(Value.agg #[Value.string ⟨l.toArray⟩,Value.string ⟨l'.toArray⟩]),.int .i64 m] (.tuple #[.string ⟨(canon z).toArray⟩,.int .i64 0]):=by
 subst e;have hm:m=1∨m=2∨(m=3∨m=4∨m=5∨m=6):=by omega
 by_cases h0:q.num % q.den=0
 ·rcases hm with hm|hm|hm
  ·exact Hf h b hk m hm h0
  ·exact Hh h b hk m hm h0
  ·exact Hi h b hk m hm h0
 ·rcases hm with hm|hm|hm
  ·exact Hj h b hk m hm h0
  ·exact Hk h b hk m hm h0
  ·exact Hl h b hk m hm h0
end Go.Proofs.YtpieeldbamklkaaGreatDoor
