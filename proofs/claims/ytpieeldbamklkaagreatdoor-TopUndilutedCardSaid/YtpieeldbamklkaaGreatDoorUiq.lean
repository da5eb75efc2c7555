/- Package unitprice: Return. -/
import Derived.Test.YtpieeldbamklkaaGreatDoorW12
import Derived.Test.YtpieeldbamklkaaGreatDoorUhq
set_option maxHeartbeats 8000000
set_option maxRecDepth 100000
namespace Go.Proofs.YtpieeldbamklkaaGreatDoor
open Go.RowKit Go.Shelf Num
def LA (a b:Dlt):Prop:=a.un≠[]/\b.un≠[]/\a.vl≠[]
def nums (x:Dlt):List (List UInt8):=[x.iss,x.out,x.un,x.vl]
theorem E9 (x:Dlt) (w:World):Calls Tryz.prog 67 #[.agg (dlC x)] w fun e w'=>∃b,e=.returned (.slice (some ⟨b,0,none⟩) 4 4)/\Below w.heap.size w w'/\Xb w' (some ⟨b,0,none⟩) (nums x):=by
 obtain⟨g1,g2,g3,g4⟩:=Vs w (.cells (dlC x) 36) (.cells (dlC x) 32);obtain⟨W,hW⟩:∃W,W=(w.alloc (.cells (dlC x) 36)).alloc (.cells (dlC x) 32):=⟨_,rfl⟩
 rw[<-hW] at g2 g3 g4;have HB:=Lh g3
 have HN:Hid (Xb W (some ⟨w.heap.size+1,0,none⟩) (nums x)):=SC (by omega) (fun i hi=>by
  have hi:i<4:=hi
  match i,hi with
  | 0,_=>exact Zh g2 0
  | 1,_=>exact Zh g2 1
  | 2,_=>exact Zh g2 2
  | 3,_=>exact Zh g2 3)
 unfold dlC at hW ⊢;have HW:=Lh hW;clear g1 g2 g3 g4 hW;go_enter Tryz.func67,Tryz.ntmps67;go_wp2_with fail;rw[<-HW.out];go_ret;exact⟨w.heap.size+1,rfl,HB.out,HN.out⟩
def Db (w:World) (u:Value) (ts:List (List UInt8)):Prop:=∃b,u=.slice (some ⟨b,0,none⟩) 4 4/\Xb w (some ⟨b,0,none⟩) ts
theorem Db.below {w w':World} {u:Value} {ts:List (List UInt8)} (h:Db w u ts) (hb:Below w.heap.size w w'):Db w' u ts:=by
 obtain⟨b,e,h⟩:=h;exact⟨b,e,h.below hb⟩
def Dc (w:World) (u:Value) (ts:List (List UInt8)):Prop:=∃(A:Option Addr) (rs:List UZ),u=.slice A 2 2/\rs.length=2/\Lz w A rs/\(∀r∈rs,r.At w)/\UH rs=ts
theorem Dc.below {w w':World} {u:Value} {ts:List (List UInt8)} (h:Dc w u ts) (hb:Below w.heap.size w w'):Dc w' u ts:=by
 obtain⟨A,rs,e,h1,h2,h3,h4⟩:=h;exact⟨A,rs,e,h1,h2.below hb,fun r hr=>(h3 r hr).below hb,h4⟩
def BE (w:World) (u:Value) (ts:List (List UInt8)):Prop:=∃(B:Option Addr) (cp:Nat),u=.slice B ts.length cp/\Xb w B ts
theorem BE.below {w w':World} {u:Value} {ts:List (List UInt8)} (h:BE w u ts) (hb:Below w.heap.size w w'):BE w' u ts:=by
 obtain⟨B,cp,e,h1⟩:=h;exact⟨B,cp,e,h1.below hb⟩
def FRr (a b:Dlt) (w:World) (u6 u9 u10 u11 u12 u13 u14 u15:Value):Act:=⟨#[.agg (dlC a),.agg (dlC b),.pointer (some ⟨w.heap.size,0,none⟩),.pointer (some ⟨w.heap.size+1,0,none⟩),.pointer (some ⟨w.heap.size+1+1,0,none⟩),.int .i64 0,u6,undef,undef,u9,u10,u11,u12,u13,u14,u15,undef,undef,undef,undef,undef,undef,undef,undef,undef,undef,undef,undef,undef,undef,undef,undef,undef,undef,undef,undef,undef,undef,undef,undef,undef,undef,undef,undef,undef,undef,undef,undef,undef],[]⟩
structure RF (a b:Dlt) (w1:World) (L:Array Bool) (w':World) (u6 u9 u10 u11 u12 u13 u14 u15:Value):Prop where
 bl:Below w1.heap.size w1 w'
 f0:L.getD 0 false=true->u9=.agg (dlC a)
 f1:L.getD 1 false=true->Db w' u10 (nums a)
 f2:L.getD 2 false=true->u11=.agg (dlC b)
 f3:L.getD 3 false=true->Db w' u12 (nums b)
 f4:L.getD 4 false=true->Dc w' u13 (nums a++nums b)
 f5:L.getD 5 false=true->BE w' u14 (nums a++nums b)
 f6:L.getD 6 false=true->u15=.int .i64 0
 f7:L.getD 7 false=true->u6=.int .i64 0
def RI (a b:Dlt) (w w1:World) (L:Array Bool) (c:Act) (w':World):Prop:=∃u6 u9 u10 u11 u12 u13 u14 u15:Value,c=FRr a b w u6 u9 u10 u11 u12 u13 u14 u15/\RF a b w1 L w' u6 u9 u10 u11 u12 u13 u14 u15
def SY (a b:Dlt) (w w1:World) (o:Oper) (i:Nat):Prop:=∀listed c w',RI a b w w1 listed c w'->listed.getD i true=false->(∀j,ZH o j->listed.getD j false=true)->o.wp Tryz.prog c w' (RI a b w w1 (listed.setIfInBounds i true)) (UB fun _ _=>False)
theorem Dd (a b:Dlt) (w w1:World) (n:Nat):RI a b w w1 (Array.replicate n false) (FRr a b w undef undef undef undef undef undef undef undef) { w1 with drawn:=w1.drawn+1 }:=by
 have h:∀j,(Array.replicate n false).getD j false=false:=fun j=>by
  rw[Array.getD_eq_getD_getElem?,Array.getElem?_replicate]
  split<;>rfl
 refine⟨undef,undef,undef,undef,undef,undef,undef,undef,rfl,⟨⟨rfl,rfl,rfl,Nl _,fun _ _=>rfl⟩,fun e=>?_,fun e=>?_,fun e=>?_,fun e=>?_,fun e=>?_,fun e=>?_,fun e=>?_,fun e=>?_⟩⟩<;>exact absurd e (by rw[h];decide)
section
variable {a b:Dlt} {w w1:World} {o:Oper}
theorem rs0 (hX:Blk w1 (w.heap.size) (dlC a)) (hop:o.op=.load 36 (.tmp 2)) (hd:o.dst=some 9):SY a b w w1 o 0:=by
 intro L c w' hI _ _;obtain⟨u6,u9,u10,u11,u12,u13,u14,u15,rfl,hc⟩:=hI;have e:∀j,j≠0->(L.setIfInBounds 0 true).getD j false=L.getD j false:=fun j hj=>getD_set_ne false (Ne.symm hj)
 refine ZB (YI (P:=Tryz.prog) 36 (.tmp 2) hop (w.heap.size) rfl (dlC a) (hX.below hc.bl) Tryz.underlying36 rfl (by kernel_rfl)) ?_
 rw[hd];exact⟨u6,.agg (dlC a),u10,u11,u12,u13,u14,u15,rfl,⟨hc.bl,fun _=>rfl,fun h=>hc.f1 (by rwa [e 1 (by decide)] at h),fun h=>hc.f2 (by rwa [e 2 (by decide)] at h),fun h=>hc.f3 (by rwa [e 3 (by decide)] at h),fun h=>hc.f4 (by rwa [e 4 (by decide)] at h),fun h=>hc.f5 (by rwa [e 5 (by decide)] at h),fun h=>hc.f6 (by rwa [e 6 (by decide)] at h),fun h=>hc.f7 (by rwa [e 7 (by decide)] at h)⟩⟩
theorem rs1 (hw:ZH o 0) (hrun:∀(c:Act) (w':World) (u:Value),c.eval (.tmp 9)=u->(execOp c.eval o).run Tryz.prog w'=.ok (.enter 67 #[u]) w') (hd:o.dst=some 10):SY a b w w1 o 1:=by
 intro L c w' hI _ hl;obtain⟨u6,u9,u10,u11,u12,u13,u14,u15,rfl,hc⟩:=hI;have e:∀j,j≠1->(L.setIfInBounds 1 true).getD j false=L.getD j false:=fun j hj=>getD_set_ne false (Ne.symm hj)
 have hr:=hrun (FRr a b w u6 u9 u10 u11 u12 u13 u14 u15) w' _ (hc.f0 (hl 0 hw));refine ZV hr ?_;refine (E9 a w').mono ?_;rintro ex w2 ⟨bb,rfl,hB,hM⟩;refine⟨_,rfl,?_⟩;rw[hd];exact⟨u6,u9,.slice (some ⟨bb,0,none⟩) 4 4,u11,u12,u13,u14,u15,rfl,⟨bto hc.bl hB,fun h=>hc.f0 (by rwa [e 0 (by decide)] at h),fun _=>⟨bb,rfl,hM⟩,fun h=>hc.f2 (by rwa [e 2 (by decide)] at h),fun h=>(hc.f3 (by rwa [e 3 (by decide)] at h)).below hB,fun h=>(hc.f4 (by rwa [e 4 (by decide)] at h)).below hB,fun h=>(hc.f5 (by rwa [e 5 (by decide)] at h)).below hB,fun h=>hc.f6 (by rwa [e 6 (by decide)] at h),fun h=>hc.f7 (by rwa [e 7 (by decide)] at h)⟩⟩
theorem rs2 (hX:Blk w1 (w.heap.size+1) (dlC b)) (hop:o.op=.load 36 (.tmp 3)) (hd:o.dst=some 11):SY a b w w1 o 2:=by
 intro L c w' hI _ _;obtain⟨u6,u9,u10,u11,u12,u13,u14,u15,rfl,hc⟩:=hI;have e:∀j,j≠2->(L.setIfInBounds 2 true).getD j false=L.getD j false:=fun j hj=>getD_set_ne false (Ne.symm hj)
 refine ZB (YI (P:=Tryz.prog) 36 (.tmp 3) hop (w.heap.size+1) rfl (dlC b) (hX.below hc.bl) Tryz.underlying36 rfl (by kernel_rfl)) ?_
 rw[hd];exact⟨u6,u9,u10,.agg (dlC b),u12,u13,u14,u15,rfl,⟨hc.bl,fun h=>hc.f0 (by rwa [e 0 (by decide)] at h),fun h=>hc.f1 (by rwa [e 1 (by decide)] at h),fun _=>rfl,fun h=>hc.f3 (by rwa [e 3 (by decide)] at h),fun h=>hc.f4 (by rwa [e 4 (by decide)] at h),fun h=>hc.f5 (by rwa [e 5 (by decide)] at h),fun h=>hc.f6 (by rwa [e 6 (by decide)] at h),fun h=>hc.f7 (by rwa [e 7 (by decide)] at h)⟩⟩
theorem rs3 (hw:ZH o 2) (hrun:∀(c:Act) (w':World) (u:Value),c.eval (.tmp 11)=u->(execOp c.eval o).run Tryz.prog w'=.ok (.enter 67 #[u]) w') (hd:o.dst=some 12):SY a b w w1 o 3:=by
 intro L c w' hI _ hl;obtain⟨u6,u9,u10,u11,u12,u13,u14,u15,rfl,hc⟩:=hI;have e:∀j,j≠3->(L.setIfInBounds 3 true).getD j false=L.getD j false:=fun j hj=>getD_set_ne false (Ne.symm hj)
 have hr:=hrun (FRr a b w u6 u9 u10 u11 u12 u13 u14 u15) w' _ (hc.f2 (hl 2 hw));refine ZV hr ?_;refine (E9 b w').mono ?_;rintro ex w2 ⟨bb,rfl,hB,hM⟩;refine⟨_,rfl,?_⟩;rw[hd];exact⟨u6,u9,u10,u11,.slice (some ⟨bb,0,none⟩) 4 4,u13,u14,u15,rfl,⟨bto hc.bl hB,fun h=>hc.f0 (by rwa [e 0 (by decide)] at h),fun h=>(hc.f1 (by rwa [e 1 (by decide)] at h)).below hB,fun h=>hc.f2 (by rwa [e 2 (by decide)] at h),fun _=>⟨bb,rfl,hM⟩,fun h=>(hc.f4 (by rwa [e 4 (by decide)] at h)).below hB,fun h=>(hc.f5 (by rwa [e 5 (by decide)] at h)).below hB,fun h=>hc.f6 (by rwa [e 6 (by decide)] at h),fun h=>hc.f7 (by rwa [e 7 (by decide)] at h)⟩⟩
theorem rs4 (hw1:ZH o 1) (hw3:ZH o 3) (hrun:∀(c:Act) (w':World) (x y:Addr),c.eval (.tmp 10)=.slice (some x) 4 4->c.eval (.tmp 12)=.slice (some y) 4 4->(execOp c.eval o).run Tryz.prog w'=.ok (.value (.slice (some ⟨w'.heap.size,0,none⟩) 2 2)) (w'.alloc (.cells #[.slice (some x) 4 4,.slice (some y) 4 4] 50))) (hd:o.dst=some 13):SY a b w w1 o 4:=by
 intro L c w' hI _ hl;obtain⟨u6,u9,u10,u11,u12,u13,u14,u15,rfl,hc⟩:=hI;have e:∀j,j≠4->(L.setIfInBounds 4 true).getD j false=L.getD j false:=fun j hj=>getD_set_ne false (Ne.symm hj)
 obtain⟨x,hx,hsx⟩:=hc.f1 (hl 1 hw1);obtain⟨y,hy,hsy⟩:=hc.f3 (hl 3 hw3);have hr:=hrun (FRr a b w u6 u9 u10 u11 u12 u13 u14 u15) w' _ _ hx hy;have hB:=Zd w' (.cells #[.slice (some ⟨x,0,none⟩) 4 4,.slice (some ⟨y,0,none⟩) 4 4] 50);have hn:=ZF w' (.cells #[.slice (some ⟨x,0,none⟩) 4 4,.slice (some ⟨y,0,none⟩) 4 4] 50);have hT:Dc (w'.alloc (.cells #[.slice (some ⟨x,0,none⟩) 4 4,.slice (some ⟨y,0,none⟩) 4 4] 50)) (.slice (some ⟨w'.heap.size,0,none⟩) 2 2) (nums a++nums b):=by
  refine⟨some ⟨w'.heap.size,0,none⟩,[⟨some ⟨x,0,none⟩,nums a,4,4⟩,⟨some ⟨y,0,none⟩,nums b,4,4⟩],rfl,rfl,fun i r hr=>⟨w'.heap.size,0,rfl,(Ag.1 hn).1,?_⟩,fun r hr=>?_,by show nums a++(nums b++[])=_;rw[List.append_nil]⟩
  ·have hi:=(Lg.1 hr).1;have hi:i=0∨i=1:=by simp at hi;omega
   rcases hi with rfl|rfl
   ·simp at hr;subst hr;exact Zh hn 0
   ·simp at hr;subst hr;exact Zh hn 1
  ·simp only[List.mem_cons,List.not_mem_nil,or_false] at hr;rcases hr with rfl|rfl
   ·exact⟨rfl,Nl _,hsx.below hB⟩
   ·exact⟨rfl,Nl _,hsy.below hB⟩
 refine ZB hr ?_;rw[hd];exact⟨u6,u9,u10,u11,u12,.slice (some ⟨w'.heap.size,0,none⟩) 2 2,u14,u15,rfl,⟨bto hc.bl hB,fun h=>hc.f0 (by rwa [e 0 (by decide)] at h),fun h=>(hc.f1 (by rwa [e 1 (by decide)] at h)).below hB,fun h=>hc.f2 (by rwa [e 2 (by decide)] at h),fun h=>(hc.f3 (by rwa [e 3 (by decide)] at h)).below hB,fun _=>hT,fun h=>(hc.f5 (by rwa [e 5 (by decide)] at h)).below hB,fun h=>hc.f6 (by rwa [e 6 (by decide)] at h),fun h=>hc.f7 (by rwa [e 7 (by decide)] at h)⟩⟩
theorem rs5 (hw4:ZH o 4) (hrun:∀(c:Act) (w':World) (u:Value),c.eval (.tmp 13)=u->(execOp c.eval o).run Tryz.prog w'=.ok (.enter 66 #[u]) w') (hd:o.dst=some 14):SY a b w w1 o 5:=by
 intro L c w' hI _ hl;obtain⟨u6,u9,u10,u11,u12,u13,u14,u15,rfl,hc⟩:=hI;have e:∀j,j≠5->(L.setIfInBounds 5 true).getD j false=L.getD j false:=fun j hj=>getD_set_ne false (Ne.symm hj)
 obtain⟨A,rs,hu,h1,h2,h3,h4⟩:=hc.f4 (hl 4 hw4);have hr:=hrun (FRr a b w u6 u9 u10 u11 u12 u13 u14 u15) w' _ hu;refine ZV hr ?_;refine (BC A rs 2 2 w' h1 (by decide) h2 h3 (by rw[h4];show 8<=1000;decide)).mono ?_
 rintro ex w2 ⟨B,cp,rfl,-,hM,hB⟩;rw[h4] at hM ⊢;refine⟨_,rfl,?_⟩;rw[hd];exact⟨u6,u9,u10,u11,u12,u13,.slice B (nums a++nums b).length cp,u15,rfl,⟨bto hc.bl hB,fun h=>hc.f0 (by rwa [e 0 (by decide)] at h),fun h=>(hc.f1 (by rwa [e 1 (by decide)] at h)).below hB,fun h=>hc.f2 (by rwa [e 2 (by decide)] at h),fun h=>(hc.f3 (by rwa [e 3 (by decide)] at h)).below hB,fun h=>(hc.f4 (by rwa [e 4 (by decide)] at h)).below hB,fun _=>⟨B,cp,rfl,hM⟩,fun h=>hc.f6 (by rwa [e 6 (by decide)] at h),fun h=>hc.f7 (by rwa [e 7 (by decide)] at h)⟩⟩
theorem rs6 (hG:ZP w1) (hE:upE (nums a++nums b)=0) (hL:∀r∈nums a++nums b,r.length<=100000) (hw5:ZH o 5) (hrun:∀(c:Act) (w':World) (u:Value),c.eval (.tmp 14)=u->(execOp c.eval o).run Tryz.prog w'=.ok (.enter 45 #[u]) w') (hd:o.dst=some 15):SY a b w w1 o 6:=by
 intro L c w' hI _ hl;obtain⟨u6,u9,u10,u11,u12,u13,u14,u15,rfl,hc⟩:=hI;have e:∀j,j≠6->(L.setIfInBounds 6 true).getD j false=L.getD j false:=fun j hj=>getD_set_ne false (Ne.symm hj)
 obtain⟨B,cp,hu,h1⟩:=hc.f5 (hl 5 hw5);have hr:=hrun (FRr a b w u6 u9 u10 u11 u12 u13 u14 u15) w' _ hu;refine ZV hr ?_;refine (Q7 (rs:=nums a++nums b) cp (hG.below hc.bl) rfl (by show 8<=1000000;decide) h1 hL).mono ?_
 rintro ex w2 ⟨rfl,hB⟩;rw[hE];refine⟨_,rfl,?_⟩;rw[hd];exact⟨u6,u9,u10,u11,u12,u13,u14,.int .i64 0,rfl,⟨bto hc.bl hB,fun h=>hc.f0 (by rwa [e 0 (by decide)] at h),fun h=>(hc.f1 (by rwa [e 1 (by decide)] at h)).below hB,fun h=>hc.f2 (by rwa [e 2 (by decide)] at h),fun h=>(hc.f3 (by rwa [e 3 (by decide)] at h)).below hB,fun h=>(hc.f4 (by rwa [e 4 (by decide)] at h)).below hB,fun h=>(hc.f5 (by rwa [e 5 (by decide)] at h)).below hB,fun _=>rfl,fun h=>hc.f7 (by rwa [e 7 (by decide)] at h)⟩⟩
theorem rs7 (hw6:ZH o 6) (hrun:∀(c:Act) (w':World) (v:Value),c.eval (.tmp 15)=v->(execOp c.eval o).run Tryz.prog w'=.ok (.value v) w') (hd:o.dst=some 6):SY a b w w1 o 7:=by
 intro L c w' hI _ hl;obtain⟨u6,u9,u10,u11,u12,u13,u14,u15,rfl,hc⟩:=hI;have e:∀j,j≠7->(L.setIfInBounds 7 true).getD j false=L.getD j false:=fun j hj=>getD_set_ne false (Ne.symm hj)
 refine ZB (hrun _ w' _ (hc.f6 (hl 6 hw6))) ?_;rw[hd];exact⟨.int .i64 0,u9,u10,u11,u12,u13,u14,u15,rfl,⟨hc.bl,fun h=>hc.f0 (by rwa [e 0 (by decide)] at h),fun h=>hc.f1 (by rwa [e 1 (by decide)] at h),fun h=>hc.f2 (by rwa [e 2 (by decide)] at h),fun h=>hc.f3 (by rwa [e 3 (by decide)] at h),fun h=>hc.f4 (by rwa [e 4 (by decide)] at h),fun h=>hc.f5 (by rwa [e 5 (by decide)] at h),fun h=>hc.f6 (by rwa [e 6 (by decide)] at h),fun _=>rfl⟩⟩
end
theorem Js {id:Nat} {Q:Exit->Act->World->Prop} {a b:Dlt} {w w1:World} {c:Act} {L:List Oper} (hm:Tryz.prog.follows .mixedOrders=true) (hg:L.all (fun o=>o.guard.isNone)=true)
  (hbk:((List.range L.length).all fun i=>(L.getD i default).after.toList.all fun e=>!Region.binds .any e||decide (e.on<i))=true) (hl:L.length=8) (ha:c=FRr a b w undef undef undef undef undef undef undef undef)
  (hstep:WU (SY a b w w1) L 0)
  (hend:∀(u6 u9 u10 u11 u12 u13 u14 u15:Value) (w':World),Below w1.heap.size w1 w'->u6=.int .i64 0->Q .normal (FRr a b w u6 u9 u10 u11 u12 u13 u14 u15) w'):(Code.region id L.toArray true).wp Tryz.prog Q c w1:=by
 refine Vq (I:=RI a b w w1) hm hg hbk (by rw[ha];exact Dd a b w w1 _) (fun listed a' w' hall hI=>?_) hstep
 obtain⟨u6,u9,u10,u11,u12,u13,u14,u15,rfl,hc⟩:=hI;exact hend u6 u9 u10 u11 u12 u13 u14 u15 w' hc.bl (hc.f7 (hall 7 (by omega)))
theorem De {a b:Dlt} (hL:∀r∈nums a++nums b,r.length<=1000) (hE:upE (nums a++nums b)=0) {w:World} (hG:ZP w) :
  Calls Tryz.prog 23 #[.agg (dlC a),.agg (dlC b)] w fun e w'=>Below w.heap.size w w'/\((¬LA a b/\e=.returned (.tuple #[.agg #[.string ⟨#[]⟩,.string ⟨#[]⟩],.int .i64 10]))∨(LA a b/\e=.returned (.tuple #[(Value.agg #[Value.string ⟨List.toArray (fN (Rat.divInt (val b.vl*val a.un) (val b.un*val a.vl)))⟩,Value.string ⟨List.toArray (fD (Rat.divInt (val b.vl*val a.un) (val b.un*val a.vl)))⟩]),.int .i64 0]))):=by
 obtain⟨q,hq⟩:∃q,q=Rat.divInt (val b.vl*val a.un) (val b.un*val a.vl):=⟨_,rfl⟩
 rw[<-hq];obtain⟨N,hN⟩:∃N,N=fN q:=⟨_,rfl⟩
 obtain⟨D,hD⟩:∃D,D=fD q:=⟨_,rfl⟩
 rw[<-hN,<-hD];have HQ:=Lh hq;have HND:Hid (N=fN q/\D=fD q):=⟨hN,hD⟩;clear hq hN hD;obtain⟨g1,g2,g3,g4⟩:=Vs w (.cells (dlC a) 36) (.cells (dlC b) 36);have k1:=ZF ((w.alloc (.cells (dlC a) 36)).alloc (.cells (dlC b) 36)) (.cells #[.string ⟨#[]⟩,.string ⟨#[]⟩] 34);have k3:=Zd ((w.alloc (.cells (dlC a) 36)).alloc (.cells (dlC b) 36)) (.cells #[.string ⟨#[]⟩,.string ⟨#[]⟩] 34);rw[g4] at k1;obtain⟨W1,hW1⟩:∃W1,W1=((w.alloc (.cells (dlC a) 36)).alloc (.cells (dlC b) 36)).alloc (.cells #[.string ⟨#[]⟩,.string ⟨#[]⟩] 34):=⟨_,rfl⟩
 rw[<-hW1] at k1 k3;have HB1:=Lh (bto g3 k3);have XA:Hid (Blk W1 w.heap.size (dlC a)):=⟨_,Zw g1 k3⟩;have XB:Hid (Blk W1 (w.heap.size+1) (dlC b)):=⟨_,Zw g2 k3⟩;have HR:=Lh k1;have HW1:=Lh hW1;have HL:=Lh hL;have HE:=Lh hE;have HI:Hid ((Tryz.prog.info? 34).map (·.size)=some 2):=by
  show _=_
  kernel_rfl
 clear g1 g2 g3 g4 k1 k3 hW1 hL hE;go_enter Tryz.func23,Tryz.ntmps23;go_wp2_with fail;rw[<-HW1.out];refine Js (a:=a) (b:=b) (w:=w) (by kernel_rfl) (by kernel_rfl) (by kernel_rfl) rfl rfl ?_ ?_
 ·refine⟨rs0 XA.out rfl rfl,?_⟩;refine⟨rs1 (Zi rfl) (fun c w' u h1=>by have g1:=toD h1;clear h1;go_simp;first|done|rfl) rfl,?_⟩
  refine⟨rs2 XB.out rfl rfl,?_⟩;refine⟨rs3 (Zi rfl) (fun c w' u h1=>by have g1:=toD h1;clear h1;go_simp;first|done|rfl) rfl,?_⟩
  refine⟨rs4 (Zi rfl) (Zi rfl) (fun c w' x y h1 h2=>by have g1:=toD h1;have g2:=toD h2;clear h1 h2;go_simp;first|done|rfl) rfl,?_⟩
  refine⟨rs5 (Zi rfl) (fun c w' u h1=>by have g1:=toD h1;clear h1;go_simp;first|done|rfl) rfl,?_⟩
  refine⟨rs6 (hG.below HB1.out) HE.out (fun r hr=>by have:=HL.out r hr;omega) (Zi rfl) (fun c w' u h1=>by have g1:=toD h1;clear h1;go_simp;first|done|rfl) rfl,?_⟩
  exact⟨rs7 (Zi rfl) (fun c w' u h1=>by have g1:=toD h1;clear h1;go_simp;first|done|rfl) rfl,trivial⟩
 intro u6 u9 u10 u11 u12 u13 u14 u15 w2 hb2 hu6;subst hu6;have XA2:=Lh (XA.out.below hb2);have XB2:=Lh (XB.out.below hb2);have HB2:=Lh (bto HB1.out hb2);have HR2:=Lh (Zw HR.out hb2);have q1:w2.cell? ⟨w.heap.size,2,none⟩=some (.string ⟨a.un.toArray⟩):=XA2.out.c 2;have q2:w2.cell? ⟨w.heap.size+1,2,none⟩=some (.string ⟨b.un.toArray⟩):=XB2.out.c 2;have q3:w2.cell? ⟨w.heap.size,3,none⟩=some (.string ⟨a.vl.toArray⟩):=XA2.out.c 3;clear hb2 XA XB HB1 HR HW1;unfold FRr
 by_cases h1:a.un=[]
 ·have HNC:Hid (¬LA a b):=fun h=>h.1 h1
  rw[h1] at q1;clear h1;obtain⟨r1,r2⟩:=YX (cs:=#[.string ⟨#[]⟩,.string ⟨#[]⟩]) HR2.out rfl;have HTH:=Lh r1;obtain⟨wE,hwE⟩:∃wE,wE=w2.setCells (w.heap.size+1+1) 0 (#[.string ⟨#[]⟩,.string ⟨#[]⟩]:Array Value).toList:=⟨_,rfl⟩
  have HWE:=Lh hwE;rw[<-hwE] at r2;have HRR:=Lh r2.new;have HBE:Hid (Below w.heap.size w wE):=by rw[hwE];exact Lib.below_setCells _ (by omega) _ _ HB2.out
  clear hwE r1 r2;go_wp2_with (refine wpList_store_mid rfl 34 (.tmp 4) (.tmp 33) rfl (w.heap.size+1+1) 0 #[.string ⟨#[]⟩,.string ⟨#[]⟩] rfl rfl HTH.out HI.out (UY _ _) ?_;rw[<-HWE.out]);refine bodyPost_ret (v:=.tuple #[.agg #[.string ⟨#[]⟩,.string ⟨#[]⟩],.int .i64 10]) ?_ rfl ?_
  ·exact results_cell_tmp Tryz.f23 4 5 34 #[.string ⟨#[]⟩,.string ⟨#[]⟩] (.int .i64 10) rfl rfl rfl (ZD HRR.out) Tryz.underlying34 rfl HI.out
  exact⟨HBE.out,.inl ⟨HNC.out,rfl⟩⟩
 have b1:(a.un==[])=false:=by rw[Bn];exact h1
 have b2:a.un.isEmpty=false:=by rw[List.isEmpty_eq_false_iff];exact h1
 by_cases h2:b.un=[]
 ·have HNC:Hid (¬LA a b):=fun h=>h.2.1 h2
  rw[h2] at q2;clear h2;obtain⟨r1,r2⟩:=YX (cs:=#[.string ⟨#[]⟩,.string ⟨#[]⟩]) HR2.out rfl;have HTH:=Lh r1;obtain⟨wE,hwE⟩:∃wE,wE=w2.setCells (w.heap.size+1+1) 0 (#[.string ⟨#[]⟩,.string ⟨#[]⟩]:Array Value).toList:=⟨_,rfl⟩
  have HWE:=Lh hwE;rw[<-hwE] at r2;have HRR:=Lh r2.new;have HBE:Hid (Below w.heap.size w wE):=by rw[hwE];exact Lib.below_setCells _ (by omega) _ _ HB2.out
  clear hwE r1 r2;go_wp2_with (refine wpList_store_mid rfl 34 (.tmp 4) (.tmp 33) rfl (w.heap.size+1+1) 0 #[.string ⟨#[]⟩,.string ⟨#[]⟩] rfl rfl HTH.out HI.out (UY _ _) ?_;rw[<-HWE.out]);refine bodyPost_ret (v:=.tuple #[.agg #[.string ⟨#[]⟩,.string ⟨#[]⟩],.int .i64 10]) ?_ rfl ?_
  ·exact results_cell_tmp Tryz.f23 4 5 34 #[.string ⟨#[]⟩,.string ⟨#[]⟩] (.int .i64 10) rfl rfl rfl (ZD HRR.out) Tryz.underlying34 rfl HI.out
  exact⟨HBE.out,.inl ⟨HNC.out,rfl⟩⟩
 have b3:(b.un==[])=false:=by rw[Bn];exact h2
 have b4:b.un.isEmpty=false:=by rw[List.isEmpty_eq_false_iff];exact h2
 by_cases h3:a.vl=[]
 ·have HNC:Hid (¬LA a b):=fun h=>h.2.2 h3
  rw[h3] at q3;clear h3;obtain⟨r1,r2⟩:=YX (cs:=#[.string ⟨#[]⟩,.string ⟨#[]⟩]) HR2.out rfl;have HTH:=Lh r1;obtain⟨wE,hwE⟩:∃wE,wE=w2.setCells (w.heap.size+1+1) 0 (#[.string ⟨#[]⟩,.string ⟨#[]⟩]:Array Value).toList:=⟨_,rfl⟩
  have HWE:=Lh hwE;rw[<-hwE] at r2;have HRR:=Lh r2.new;have HBE:Hid (Below w.heap.size w wE):=by rw[hwE];exact Lib.below_setCells _ (by omega) _ _ HB2.out
  clear hwE r1 r2;go_wp2_with (refine wpList_store_mid rfl 34 (.tmp 4) (.tmp 33) rfl (w.heap.size+1+1) 0 #[.string ⟨#[]⟩,.string ⟨#[]⟩] rfl rfl HTH.out HI.out (UY _ _) ?_;rw[<-HWE.out]);refine bodyPost_ret (v:=.tuple #[.agg #[.string ⟨#[]⟩,.string ⟨#[]⟩],.int .i64 10]) ?_ rfl ?_
  ·exact results_cell_tmp Tryz.f23 4 5 34 #[.string ⟨#[]⟩,.string ⟨#[]⟩] (.int .i64 10) rfl rfl rfl (ZD HRR.out) Tryz.underlying34 rfl HI.out
  exact⟨HBE.out,.inl ⟨HNC.out,rfl⟩⟩
 have b5:(a.vl==[])=false:=by rw[Bn];exact h3
 have b6:a.vl.isEmpty=false:=by rw[List.isEmpty_eq_false_iff];exact h3
 have l1:a.un.length<=1000:=HL.out _ (by simp[nums])
 have l2:b.un.length<=1000:=HL.out _ (by simp[nums])
 have l3:a.vl.length<=1000:=HL.out _ (by simp[nums])
 have l4:b.vl.length<=1000:=HL.out _ (by simp[nums])
 have K1:=Lh (JR (l:=b.vl) (l':=a.un) (by omega) (by omega) rfl)
 have K2:=Lh (JR (l:=b.un) (l':=a.vl) (by omega) (by omega) rfl)
 have m1:=ZG b.vl a.un;have m2:=ZG b.un a.vl;have hne:val (canon (val b.un*val a.vl))≠0:=by
  have hc:=US HE.out;rw[Zg];exact Int.mul_ne_zero (fun e=>h2 (by rw[(hc b.un (by simp[nums])).1,e];rfl)) (fun e=>h3 (by rw[(hc a.vl (by simp[nums])).1,e];rfl))
 have K3:=Lh (D3 (l:=canon (val b.vl*val a.un)) (l':=canon (val b.un*val a.vl)) (r:=q) (by omega) (by omega) hne (by rw[Zg,Zg];exact HQ.out.symm))
 rw[<-HND.out.1,<-HND.out.2] at K3;generalize canon (val b.vl*val a.un)=M1 at *;generalize canon (val b.un*val a.vl)=M2 at *;clear m1 m2 hne l1 l2 l3 l4;have H123:Hid (LA a b):=⟨h1,h2,h3⟩;clear h1 h2 h3;go_wp2_with fail;refine Zm (by kernel_rfl) (by kernel_rfl) ?_
 refine Zb _ (fun _=>rfl) (fun ρ wz hw=>by go_simp;try with_reducible rfl) ?_
 simp only[Act.put,StT,StZ,StS,Nat.reduceAdd];refine Zb _ (fun _=>rfl) (fun ρ wz hw=>by have q0:wz.cell? ⟨w.heap.size+1,3,none⟩=some (.string ⟨b.vl.toArray⟩):=(XB2.out.below hw).c 3;go_simp;try with_reducible rfl) ?_
 simp only[Act.put,StT,StZ,StS,Nat.reduceAdd];refine Zb _ (fun _=>rfl) (fun ρ wz hw=>by go_simp;try with_reducible rfl) ?_
 simp only[Act.put,StT,StZ,StS,Nat.reduceAdd];refine Zb _ (fun _=>rfl) (fun ρ wz hw=>by have q0:wz.cell? ⟨w.heap.size,2,none⟩=some (.string ⟨a.un.toArray⟩):=(XA2.out.below hw).c 2;go_simp;try with_reducible rfl) ?_
 simp only[Act.put,StT,StZ,StS,Nat.reduceAdd];refine Zl _ _ _ (fun _=>rfl) (fun ρ wz hw=>by go_simp;try with_reducible rfl) (fun wz hw=>K1.out.of (hG.below HB2.out) hw) ?_
 simp only[Act.put,StT,StZ,StS,Nat.reduceAdd];refine Zb _ (fun _=>rfl) (fun ρ wz hw=>by go_simp;try with_reducible rfl) ?_
 simp only[Act.put,StT,StZ,StS,Nat.reduceAdd];refine Zb _ (fun _=>rfl) (fun ρ wz hw=>by have q0:wz.cell? ⟨w.heap.size+1,2,none⟩=some (.string ⟨b.un.toArray⟩):=(XB2.out.below hw).c 2;go_simp;try with_reducible rfl) ?_
 simp only[Act.put,StT,StZ,StS,Nat.reduceAdd];refine Zb _ (fun _=>rfl) (fun ρ wz hw=>by go_simp;try with_reducible rfl) ?_
 simp only[Act.put,StT,StZ,StS,Nat.reduceAdd];refine Zb _ (fun _=>rfl) (fun ρ wz hw=>by have q0:wz.cell? ⟨w.heap.size,3,none⟩=some (.string ⟨a.vl.toArray⟩):=(XA2.out.below hw).c 3;go_simp;try with_reducible rfl) ?_
 simp only[Act.put,StT,StZ,StS,Nat.reduceAdd];refine Zl _ _ _ (fun _=>rfl) (fun ρ wz hw=>by go_simp;try with_reducible rfl) (fun wz hw=>K2.out.of (hG.below HB2.out) hw) ?_
 simp only[Act.put,StT,StZ,StS,Nat.reduceAdd];refine Zl _ _ _ (fun _=>rfl) (fun ρ wz hw=>by go_simp;try with_reducible rfl) (fun wz hw=>K3.out.of (hG.below HB2.out) hw) ?_
 simp only[Act.put,StT,StZ,StS,Nat.reduceAdd];refine Zb _ (fun _=>rfl) (fun ρ wz hw=>by go_simp;try with_reducible rfl) ?_
 simp only[Act.put,StT,StZ,StS,Nat.reduceAdd];refine Zb _ (fun _=>rfl) (fun ρ wz hw=>by go_simp;try with_reducible rfl) ?_
 simp only[Act.put,StT,StZ,StS,Nat.reduceAdd];refine Zb _ (fun _=>rfl) (fun ρ wz hw=>by go_simp;try with_reducible rfl) ?_
 simp only[Act.put,StT,StZ,StS,Nat.reduceAdd];refine Wq (fun b=>.pointer (some ⟨b,0,none⟩)) _ rfl (fun _=>rfl) (fun ρ wz hw=>by go_simp;try with_reducible rfl) ?_
 simp only[Act.put,StT,StZ,StS,Nat.reduceAdd];refine VL 14 _ 7 _ _ _ _ _ rfl rfl rfl (by decide) (fun _=>rfl) (fun ρ wz hw q0 q1 q2 q3=>by go_simp;try with_reducible rfl) ?_
 simp only[Act.put,Nat.reduceAdd];refine Zb _ (fun _=>rfl) (fun ρ wz hw=>by go_simp;try with_reducible rfl) ?_
 simp only[Act.put,StT,StZ,StS,Nat.reduceAdd];refine Zu (fun ρ w3 hF=>?_)
 have h7:=(hF.box 14 _ _ rfl).2;generalize ρ 14=b7 at *;have hb3:=hF.below;have HR3:=Zw HR2.out hb3;have HB3:=Lh (bto HB2.out hb3);have p0:w3.cell? ⟨b7,0,none⟩=some (.string ⟨N.toArray⟩):=Zh h7 0;have p1:w3.cell? ⟨b7,1,none⟩=some (.string ⟨D.toArray⟩):=Zh h7 1;obtain⟨r1,r2⟩:=YX (cs:=#[.string ⟨N.toArray⟩,.string ⟨D.toArray⟩]) HR3 rfl;have HTH:=Lh r1;obtain⟨wE,hwE⟩:∃wE,wE=w3.setCells (w.heap.size+1+1) 0 (#[.string ⟨N.toArray⟩,.string ⟨D.toArray⟩]:Array Value).toList:=⟨_,rfl⟩
 have HWE:=Lh hwE;rw[<-hwE] at r2;have HRR:=Lh r2.new;have HBE:Hid (Below w.heap.size w wE):=by rw[hwE];exact Lib.below_setCells _ (by omega) _ _ HB3.out
 clear hwE r1 r2 hF h7 hb3 HR3 HB3 K1 K2 K3 q1 q2 q3 b1 b2 b3 b4 b5 b6;go_wp2_with (refine wpList_store_mid rfl 34 (.tmp 4) (.tmp 48) rfl (w.heap.size+1+1) 0 #[.string ⟨N.toArray⟩,.string ⟨D.toArray⟩] rfl rfl HTH.out HI.out (UY _ _) ?_;rw[<-HWE.out]);refine bodyPost_ret (v:=.tuple #[.agg #[.string ⟨N.toArray⟩,.string ⟨D.toArray⟩],.int .i64 0]) ?_ rfl ?_
 ·exact results_cell_tmp Tryz.f23 4 5 34 #[.string ⟨N.toArray⟩,.string ⟨D.toArray⟩] (.int .i64 0) rfl rfl rfl (ZD HRR.out) Tryz.underlying34 rfl HI.out
 exact⟨HBE.out,.inr ⟨H123.out,rfl⟩⟩
end Go.Proofs.YtpieeldbamklkaaGreatDoor
