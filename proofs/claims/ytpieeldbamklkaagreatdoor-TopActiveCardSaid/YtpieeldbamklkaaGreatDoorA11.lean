/- Texts put together: Ks Ku Za Ac Ad Ze Zf Ha Up. -/
import Derived.Test.YtpieeldbamklkaaGreatDoorA10
set_option maxHeartbeats 8000000
set_option maxRecDepth 100000
namespace Go.Proofs.YtpieeldbamklkaaGreatDoor
open Go.RowKit Go.Shelf Num
theorem Ti {P:Program} {Q:Exit->Act->World->Prop} {id:Nat} {a:Act} {w:World} {I:Array Bool->Act->World->Prop} {L:List Oper} (hm:P.follows .mixedOrders=true) (hg:L.all (fun o=>o.guard.isNone)=true)
  (hbk:((List.range L.length).all fun i=>(L.getD i default).after.toList.all fun e=>!Region.binds .any e||decide (e.on<i))=true)
  (h0:I (Array.replicate L.length false) a { w with drawn:=w.drawn+1 })
  (hend:∀listed a w,(∀i,i<L.length->listed.getD i false=true)->I listed a w->Q .normal a w)
  (hstep:VC (fun o i=>∀listed a w,I listed a w->listed.getD i true=false->(∀j,ZT o j->listed.getD j false=true)->o.wp P a w (I (listed.setIfInBounds i true)) (WB fun _ _=>False)) L 0):(Code.region id L.toArray true).wp P Q a w:=by
 refine Ny (I:=I) hm (fun i o ho e he hb=>?_) (by simpa using h0) (fun listed a w h=>hend listed a w (by simpa using h)) (fun listed a w i o hI ho hi hl=>?_)
 ·have ho':L[i]?=some o:=by simpa using ho
  have hlt:=(Lg.1 ho').1;rw[List.all_eq_true] at hbk;have h1:=hbk i (List.mem_range.2 hlt);rw[List.all_eq_true] at h1;have h2:L.getD i default=o:=by rw[List.getD_eq_getElem?_getD,ho'];rfl
  rw[h2] at h1;have h3:=h1 e (Array.mem_toList_iff.2 he);rw[hb] at h3;simpa using h3
 ·have ho':L[i]?=some o:=by simpa using ho
  have hgo:o.guard=none:=by
   have:=(List.all_eq_true.1 hg) o (Lm ho')
   simpa using this
  have h:=Sq hstep i o ho';rw[Nat.zero_add] at h;have h2:=h listed a w hI hi (fun j hj=>by obtain⟨e,he,rfl,hb⟩:=hj;exact hl e he hb)
  unfold wpOp;simp only[ho,Z5 hgo,if_true];exact .inl (Tg h2)
def TQ (kd:Int) (w:World) (u:Value):Prop:=∃v b,u=.tuple #[v,.bool b]/\KQ kd w v/\(kd=4->b=true)
theorem TQ.below {kd:Int} {w w':World} {u:Value} (h:TQ kd w u) (hb:Below w.heap.size w w'):TQ kd w' u:=by
 obtain⟨v,b,e,h1,h2⟩:=h;exact⟨v,b,e,h1.below hb,h2⟩
theorem TQ.row {kd:Int} {b:Nat} {w w':World} {u:Value} (h:TQ kd w u) (hb:Pn b w w'):TQ kd w' u:=by
 obtain⟨v,b,e,h1,h2⟩:=h;exact⟨v,b,e,h1.row hb,h2⟩
theorem KQ.agg {kd:Int} {w:World} {v:Value} (h:KQ kd w v):∃cs,v=.agg cs/\cs.size=17/\cs.all (·.oneCell')=true:=by
 obtain⟨word,cls,H,M,code,e,h1,-⟩:=h.1;exact⟨_,e,Xx h1,U9⟩
def FRc (f:Fct) (w:World) (u3 u4 u32 u33 u34 u35 u36 u37 u38:Value):Act:=⟨#[.agg (ZB f),.pointer (some ⟨w.heap.size,0,none⟩),.int .i64 0,u3,u4,undef,undef,.pointer (some ⟨w.heap.size,0,none⟩),.string ⟨f.key.toArray⟩,.bool true,.bool false,.pointer (some ⟨w.heap.size,1,none⟩),.int .i64 f.stamp,.bool false,.pointer (some ⟨w.heap.size,2,none⟩),.bool false,undef,undef,undef,undef,undef,undef,undef,undef,.pointer (some ⟨w.heap.size,3,none⟩),.int .i64 f.day,.bool false,.bool false,.pointer (some ⟨w.heap.size,3,none⟩),.int .i64 f.day,.bool false,.bool false,u32,u33,u34,u35,u36,u37,u38,undef,undef,undef,undef,undef,undef,undef,undef,undef,undef,undef,undef,undef,undef,undef,undef,undef,undef,undef,undef,undef],[]⟩
structure CF (f:Fct) (w w1:World) (L:Array Bool) (w':World) (u3 u4 u32 u33 u34 u35 u36 u37 u38:Value):Prop where
 b:Below w1.heap.size w1 w'
 f0:L.getD 0 false=true->L.getD 8 false=false->Fw w' u33
 f1:L.getD 1 false=true->u34=.pointer (some ⟨w.heap.size,4,none⟩)
 f2:L.getD 2 false=true->u35=.int .i64 f.kind
 f3:L.getD 3 false=true->L.getD 8 false=false->TQ f.kind w' u36
 f4:L.getD 4 false=true->TQ f.kind w' u32
 f5:L.getD 5 false=true->KQ f.kind w' u37
 f6:L.getD 6 false=true->∃b,u38=.bool b/\(f.kind=4->b=true)
 f7:L.getD 7 false=true->∃b cs,u3=.pointer (some ⟨b,0,none⟩)/\w1.heap.size<=b/\w'.heap[b]?=some (.cells cs 270 (0,0))/\cs.size=17/\(L.getD 8 false=true->u37=.agg cs)
 f8:L.getD 8 false=true->L.getD 0 false=true/\L.getD 3 false=true/\L.getD 4 false=true/\L.getD 5 false=true/\L.getD 7 false=true
 f9:L.getD 9 false=true->u4=u38
 f10:L.getD 9 false=true->L.getD 6 false=true
def CI (f:Fct) (w w1:World) (L:Array Bool) (a:Act) (w':World):Prop:=∃u3 u4 u32 u33 u34 u35 u36 u37 u38:Value,a=FRc f w u3 u4 u32 u33 u34 u35 u36 u37 u38/\CF f w w1 L w' u3 u4 u32 u33 u34 u35 u36 u37 u38
def Tj (f:Fct) (w w1:World) (o:Oper) (i:Nat):Prop:=∀listed a w',CI f w w1 listed a w'->listed.getD i true=false->(∀j,ZT o j->listed.getD j false=true)->o.wp Tryz.prog a w' (CI f w w1 (listed.setIfInBounds i true)) (WB fun _ _=>False)
theorem Cr (f:Fct) (w w1:World) (n:Nat):CI f w w1 (Array.replicate n false) (FRc f w undef undef undef undef undef undef undef undef undef) { w1 with drawn:=w1.drawn+1 }:=by
 have h:∀j,(Array.replicate n false).getD j false=false:=fun j=>by
  rw[Array.getD_eq_getD_getElem?,Array.getElem?_replicate]
  split<;>rfl
 refine⟨undef,undef,undef,undef,undef,undef,undef,undef,undef,rfl,⟨⟨rfl,rfl,rfl,Nl _,fun _ _=>rfl⟩,fun e=>?_,fun e=>?_,fun e=>?_,fun e=>?_,fun e=>?_,fun e=>?_,fun e=>?_,fun e=>?_,fun e=>?_,fun e=>?_,fun e=>?_⟩⟩<;>exact absurd e (by rw[h];decide)
theorem Yl {L:Array Bool} {i:Nat} (h:L.getD i true=false):L.getD i false=false:=by
 rw[Array.getD_eq_getD_getElem?] at h ⊢;cases hx:L[i]? with
 | none=>rfl
 | some x=>rw[hx] at h;exact h
section
variable {f:Fct} {w w1:World} {o:Oper}
theorem cs0 (hrun:∀(a:Act) (w':World),(execOp a.eval o).run Tryz.prog w'=.ok (.enter 183 #[]) w') (hd:o.dst=some 33):Tj f w w1 o 0:=by
 intro L a w' hI hi hl;obtain⟨u3,u4,u32,u33,u34,u35,u36,u37,u38,rfl,hc⟩:=hI;have e:∀j,j≠0->(L.setIfInBounds 0 true).getD j false=L.getD j false:=fun j hj=>getD_set_ne false (Ne.symm hj)
 have k8:∀j,L.getD j false=true->(L.setIfInBounds 0 true).getD j false=true:=fun j hj=>getD_set_true hj
 refine Yt (hrun _ w') ?_;refine (Zam w').mono ?_;rintro ex w2 ⟨u,rfl,hB,hM⟩;refine⟨u,rfl,?_⟩;rw[hd];exact⟨u3,u4,u32,u,u34,u35,u36,u37,u38,rfl,⟨bto hc.b hB,fun _ _=>hM,fun h=>hc.f1 (by rwa [e 1 (by decide)] at h),fun h=>hc.f2 (by rwa [e 2 (by decide)] at h),fun h h8=>(hc.f3 (by rwa [e 3 (by decide)] at h) (by rwa [e 8 (by decide)] at h8)).below hB,fun h=>(hc.f4 (by rwa [e 4 (by decide)] at h)).below hB,fun h=>(hc.f5 (by rwa [e 5 (by decide)] at h)).below hB,fun h=>hc.f6 (by rwa [e 6 (by decide)] at h),fun h=>by obtain⟨b,cs,q1,q2,q3,q4,q5⟩:=hc.f7 (by rwa [e 7 (by decide)] at h);exact⟨b,cs,q1,q2,Zk q3 hB,q4,fun h8=>q5 (by rwa [e 8 (by decide)] at h8)⟩,fun h=>by obtain⟨k0,k3,k4,k5,k7⟩:=hc.f8 (by rwa [e 8 (by decide)] at h);exact⟨k8 0 k0,k8 3 k3,k8 4 k4,k8 5 k5,k8 7 k7⟩,fun h=>hc.f9 (by rwa [e 9 (by decide)] at h),fun h=>k8 6 (hc.f10 (by rwa [e 9 (by decide)] at h))⟩⟩
theorem cs1 (hrun:∀(a:Act) (w':World),a.eval (.tmp 1)=.pointer (some ⟨w.heap.size,0,none⟩)->(execOp a.eval o).run Tryz.prog w'=.ok (.value (.pointer (some ⟨w.heap.size,4,none⟩))) w') (hd:o.dst=some 34):Tj f w w1 o 1:=by
 intro L a w' hI hi hl;obtain⟨u3,u4,u32,u33,u34,u35,u36,u37,u38,rfl,hc⟩:=hI;have e:∀j,j≠1->(L.setIfInBounds 1 true).getD j false=L.getD j false:=fun j hj=>getD_set_ne false (Ne.symm hj)
 have k8:∀j,L.getD j false=true->(L.setIfInBounds 1 true).getD j false=true:=fun j hj=>getD_set_true hj
 refine ZF (hrun _ w' rfl) ?_;rw[hd];exact⟨u3,u4,u32,u33,.pointer (some ⟨w.heap.size,4,none⟩),u35,u36,u37,u38,rfl,⟨hc.b,fun h h8=>hc.f0 (by rwa [e 0 (by decide)] at h) (by rwa [e 8 (by decide)] at h8),fun _=>rfl,fun h=>hc.f2 (by rwa [e 2 (by decide)] at h),fun h h8=>hc.f3 (by rwa [e 3 (by decide)] at h) (by rwa [e 8 (by decide)] at h8),fun h=>hc.f4 (by rwa [e 4 (by decide)] at h),fun h=>hc.f5 (by rwa [e 5 (by decide)] at h),fun h=>hc.f6 (by rwa [e 6 (by decide)] at h),fun h=>by obtain⟨b,cs,q1,q2,q3,q4,q5⟩:=hc.f7 (by rwa [e 7 (by decide)] at h);exact⟨b,cs,q1,q2,q3,q4,fun h8=>q5 (by rwa [e 8 (by decide)] at h8)⟩,fun h=>by obtain⟨k0,k3,k4,k5,k7⟩:=hc.f8 (by rwa [e 8 (by decide)] at h);exact⟨k8 0 k0,k8 3 k3,k8 4 k4,k8 5 k5,k8 7 k7⟩,fun h=>hc.f9 (by rwa [e 9 (by decide)] at h),fun h=>k8 6 (hc.f10 (by rwa [e 9 (by decide)] at h))⟩⟩
theorem cs2 (hX:Blk w1 w.heap.size (ZB f)) (hw1:ZT o 1) (hrun:∀(a:Act) (w':World),a.eval (.tmp 34)=.pointer (some ⟨w.heap.size,4,none⟩)->w'.cell? ⟨w.heap.size,4,none⟩=some (.int .i64 f.kind)->(execOp a.eval o).run Tryz.prog w'=.ok (.value (.int .i64 f.kind)) w') (hd:o.dst=some 35):Tj f w w1 o 2:=by
 intro L a w' hI hi hl;obtain⟨u3,u4,u32,u33,u34,u35,u36,u37,u38,rfl,hc⟩:=hI;have e:∀j,j≠2->(L.setIfInBounds 2 true).getD j false=L.getD j false:=fun j hj=>getD_set_ne false (Ne.symm hj)
 have k8:∀j,L.getD j false=true->(L.setIfInBounds 2 true).getD j false=true:=fun j hj=>getD_set_true hj
 refine ZF (hrun _ w' (hc.f1 (hl 1 hw1)) ((hX.below hc.b).c 4)) ?_;rw[hd];exact⟨u3,u4,u32,u33,u34,.int .i64 f.kind,u36,u37,u38,rfl,⟨hc.b,fun h h8=>hc.f0 (by rwa [e 0 (by decide)] at h) (by rwa [e 8 (by decide)] at h8),fun h=>hc.f1 (by rwa [e 1 (by decide)] at h),fun _=>rfl,fun h h8=>hc.f3 (by rwa [e 3 (by decide)] at h) (by rwa [e 8 (by decide)] at h8),fun h=>hc.f4 (by rwa [e 4 (by decide)] at h),fun h=>hc.f5 (by rwa [e 5 (by decide)] at h),fun h=>hc.f6 (by rwa [e 6 (by decide)] at h),fun h=>by obtain⟨b,cs,q1,q2,q3,q4,q5⟩:=hc.f7 (by rwa [e 7 (by decide)] at h);exact⟨b,cs,q1,q2,q3,q4,fun h8=>q5 (by rwa [e 8 (by decide)] at h8)⟩,fun h=>by obtain⟨k0,k3,k4,k5,k7⟩:=hc.f8 (by rwa [e 8 (by decide)] at h);exact⟨k8 0 k0,k8 3 k3,k8 4 k4,k8 5 k5,k8 7 k7⟩,fun h=>hc.f9 (by rwa [e 9 (by decide)] at h),fun h=>k8 6 (hc.f10 (by rwa [e 9 (by decide)] at h))⟩⟩
theorem cs3 (hw0:ZT o 0) (hw2:ZT o 2) (hrun:∀(a:Act) (w':World) (u v:Value),a.eval (.tmp 33)=u->a.eval (.tmp 35)=.int .i64 f.kind->(Instr.lookup 272 u (.int .i64 f.kind) true).run Tryz.prog w'=.ok v w'->(execOp a.eval o).run Tryz.prog w'=.ok (.value v) w') (hd:o.dst=some 36):Tj f w w1 o 3:=by
 intro L a w' hI hi hl;obtain⟨u3,u4,u32,u33,u34,u35,u36,u37,u38,rfl,hc⟩:=hI;have e:∀j,j≠3->(L.setIfInBounds 3 true).getD j false=L.getD j false:=fun j hj=>getD_set_ne false (Ne.symm hj)
 have k8:∀j,L.getD j false=true->(L.setIfInBounds 3 true).getD j false=true:=fun j hj=>getD_set_true hj
 have h8:L.getD 8 false=false:=by
  cases hx:L.getD 8 false with
  | false=>rfl
  | true=>have:=(hc.f8 hx).2.1;rw[Yl hi] at this;cases this
 obtain⟨v,b,q1,q2,q3⟩:=Zcw f.kind (hc.f0 (hl 0 hw0) h8);refine ZF (hrun _ w' _ _ rfl (hc.f2 (hl 2 hw2)) q1) ?_;rw[hd];exact⟨u3,u4,u32,u33,u34,u35,.tuple #[v,.bool b],u37,u38,rfl,⟨hc.b,fun h h8=>hc.f0 (by rwa [e 0 (by decide)] at h) (by rwa [e 8 (by decide)] at h8),fun h=>hc.f1 (by rwa [e 1 (by decide)] at h),fun h=>hc.f2 (by rwa [e 2 (by decide)] at h),fun _ _=>⟨v,b,rfl,q2,q3⟩,fun h=>hc.f4 (by rwa [e 4 (by decide)] at h),fun h=>hc.f5 (by rwa [e 5 (by decide)] at h),fun h=>hc.f6 (by rwa [e 6 (by decide)] at h),fun h=>by obtain⟨b,cs,q1,q2,q3,q4,q5⟩:=hc.f7 (by rwa [e 7 (by decide)] at h);exact⟨b,cs,q1,q2,q3,q4,fun h8=>q5 (by rwa [e 8 (by decide)] at h8)⟩,fun h=>by obtain⟨k0,k3,k4,k5,k7⟩:=hc.f8 (by rwa [e 8 (by decide)] at h);exact⟨k8 0 k0,k8 3 k3,k8 4 k4,k8 5 k5,k8 7 k7⟩,fun h=>hc.f9 (by rwa [e 9 (by decide)] at h),fun h=>k8 6 (hc.f10 (by rwa [e 9 (by decide)] at h))⟩⟩
theorem cs4 (hw3:ZT o 3) (hrun:∀(a:Act) (w':World) (v:Value),a.eval (.tmp 36)=v->(execOp a.eval o).run Tryz.prog w'=.ok (.value v) w') (hd:o.dst=some 32):Tj f w w1 o 4:=by
 intro L a w' hI hi hl;obtain⟨u3,u4,u32,u33,u34,u35,u36,u37,u38,rfl,hc⟩:=hI;have e:∀j,j≠4->(L.setIfInBounds 4 true).getD j false=L.getD j false:=fun j hj=>getD_set_ne false (Ne.symm hj)
 have k8:∀j,L.getD j false=true->(L.setIfInBounds 4 true).getD j false=true:=fun j hj=>getD_set_true hj
 have h8:L.getD 8 false=false:=by
  cases hx:L.getD 8 false with
  | false=>rfl
  | true=>have:=(hc.f8 hx).2.2.1;rw[Yl hi] at this;cases this
 refine ZF (hrun _ w' _ rfl) ?_;rw[hd];exact⟨u3,u4,u36,u33,u34,u35,u36,u37,u38,rfl,⟨hc.b,fun h h8=>hc.f0 (by rwa [e 0 (by decide)] at h) (by rwa [e 8 (by decide)] at h8),fun h=>hc.f1 (by rwa [e 1 (by decide)] at h),fun h=>hc.f2 (by rwa [e 2 (by decide)] at h),fun h h8=>hc.f3 (by rwa [e 3 (by decide)] at h) (by rwa [e 8 (by decide)] at h8),fun _=>hc.f3 (hl 3 hw3) h8,fun h=>hc.f5 (by rwa [e 5 (by decide)] at h),fun h=>hc.f6 (by rwa [e 6 (by decide)] at h),fun h=>by obtain⟨b,cs,q1,q2,q3,q4,q5⟩:=hc.f7 (by rwa [e 7 (by decide)] at h);exact⟨b,cs,q1,q2,q3,q4,fun h8=>q5 (by rwa [e 8 (by decide)] at h8)⟩,fun h=>by obtain⟨k0,k3,k4,k5,k7⟩:=hc.f8 (by rwa [e 8 (by decide)] at h);exact⟨k8 0 k0,k8 3 k3,k8 4 k4,k8 5 k5,k8 7 k7⟩,fun h=>hc.f9 (by rwa [e 9 (by decide)] at h),fun h=>k8 6 (hc.f10 (by rwa [e 9 (by decide)] at h))⟩⟩
theorem cs5 (hw4:ZT o 4) (hrun:∀(a:Act) (w':World) (v b:Value),a.eval (.tmp 32)=.tuple #[v,b]->(execOp a.eval o).run Tryz.prog w'=.ok (.value v) w') (hd:o.dst=some 37):Tj f w w1 o 5:=by
 intro L a w' hI hi hl;obtain⟨u3,u4,u32,u33,u34,u35,u36,u37,u38,rfl,hc⟩:=hI;have e:∀j,j≠5->(L.setIfInBounds 5 true).getD j false=L.getD j false:=fun j hj=>getD_set_ne false (Ne.symm hj)
 have k8:∀j,L.getD j false=true->(L.setIfInBounds 5 true).getD j false=true:=fun j hj=>getD_set_true hj
 have h8:L.getD 8 false=false:=by
  cases hx:L.getD 8 false with
  | false=>rfl
  | true=>have:=(hc.f8 hx).2.2.2.1;rw[Yl hi] at this;cases this
 obtain⟨v,b,q1,q2,q3⟩:=hc.f4 (hl 4 hw4);refine ZF (hrun _ w' v _ q1) ?_;rw[hd];exact⟨u3,u4,u32,u33,u34,u35,u36,v,u38,rfl,⟨hc.b,fun h h8=>hc.f0 (by rwa [e 0 (by decide)] at h) (by rwa [e 8 (by decide)] at h8),fun h=>hc.f1 (by rwa [e 1 (by decide)] at h),fun h=>hc.f2 (by rwa [e 2 (by decide)] at h),fun h h8=>hc.f3 (by rwa [e 3 (by decide)] at h) (by rwa [e 8 (by decide)] at h8),fun h=>hc.f4 (by rwa [e 4 (by decide)] at h),fun _=>q2,fun h=>hc.f6 (by rwa [e 6 (by decide)] at h),fun h=>by obtain⟨b,cs,r1,r2,r3,r4,r5⟩:=hc.f7 (by rwa [e 7 (by decide)] at h);exact⟨b,cs,r1,r2,r3,r4,fun h9=>by rw[e 8 (by decide),h8] at h9;cases h9⟩,fun h=>by obtain⟨k0,k3,k4,k5,k7⟩:=hc.f8 (by rwa [e 8 (by decide)] at h);exact⟨k8 0 k0,k8 3 k3,k8 4 k4,k8 5 k5,k8 7 k7⟩,fun h=>hc.f9 (by rwa [e 9 (by decide)] at h),fun h=>k8 6 (hc.f10 (by rwa [e 9 (by decide)] at h))⟩⟩
theorem cs6 (hw4:ZT o 4) (hrun:∀(a:Act) (w':World) (v b:Value),a.eval (.tmp 32)=.tuple #[v,b]->(execOp a.eval o).run Tryz.prog w'=.ok (.value b) w') (hd:o.dst=some 38):Tj f w w1 o 6:=by
 intro L a w' hI hi hl;obtain⟨u3,u4,u32,u33,u34,u35,u36,u37,u38,rfl,hc⟩:=hI;have e:∀j,j≠6->(L.setIfInBounds 6 true).getD j false=L.getD j false:=fun j hj=>getD_set_ne false (Ne.symm hj)
 have k8:∀j,L.getD j false=true->(L.setIfInBounds 6 true).getD j false=true:=fun j hj=>getD_set_true hj
 obtain⟨v,b,q1,q2,q3⟩:=hc.f4 (hl 4 hw4);refine ZF (hrun _ w' v _ q1) ?_;rw[hd];exact⟨u3,u4,u32,u33,u34,u35,u36,u37,.bool b,rfl,⟨hc.b,fun h h8=>hc.f0 (by rwa [e 0 (by decide)] at h) (by rwa [e 8 (by decide)] at h8),fun h=>hc.f1 (by rwa [e 1 (by decide)] at h),fun h=>hc.f2 (by rwa [e 2 (by decide)] at h),fun h h8=>hc.f3 (by rwa [e 3 (by decide)] at h) (by rwa [e 8 (by decide)] at h8),fun h=>hc.f4 (by rwa [e 4 (by decide)] at h),fun h=>hc.f5 (by rwa [e 5 (by decide)] at h),fun _=>⟨b,rfl,q3⟩,fun h=>by obtain⟨b,cs,q1,q2,q3,q4,q5⟩:=hc.f7 (by rwa [e 7 (by decide)] at h);exact⟨b,cs,q1,q2,q3,q4,fun h8=>q5 (by rwa [e 8 (by decide)] at h8)⟩,fun h=>by obtain⟨k0,k3,k4,k5,k7⟩:=hc.f8 (by rwa [e 8 (by decide)] at h);exact⟨k8 0 k0,k8 3 k3,k8 4 k4,k8 5 k5,k8 7 k7⟩,fun h=>(by have h9:=hc.f10 (by rwa [e 9 (by decide)] at h);rw[Yl hi] at h9;cases h9),fun h=>k8 6 (hc.f10 (by rwa [e 9 (by decide)] at h))⟩⟩
theorem cs7 (hrun:∀(a:Act) (w':World),(execOp a.eval o).run Tryz.prog w'=.ok (.value (.pointer (some ⟨w'.heap.size,0,none⟩))) (w'.alloc (.cells #[.string ⟨#[]⟩,.int .i64 0,.bool false,.bool false,.bool false,.bool false,.bool false,.bool false,.bool false,.bool false,.bool false,.bool false,.bool false,.bool false,.bool false,.map none,.bool false] 270))) (hd:o.dst=some 3):Tj f w w1 o 7:=by
 intro L a w' hI hi hl;obtain⟨u3,u4,u32,u33,u34,u35,u36,u37,u38,rfl,hc⟩:=hI;have e:∀j,j≠7->(L.setIfInBounds 7 true).getD j false=L.getD j false:=fun j hj=>getD_set_ne false (Ne.symm hj)
 have k8:∀j,L.getD j false=true->(L.setIfInBounds 7 true).getD j false=true:=fun j hj=>getD_set_true hj
 have hB:=Zb w' (.cells #[.string ⟨#[]⟩,.int .i64 0,.bool false,.bool false,.bool false,.bool false,.bool false,.bool false,.bool false,.bool false,.bool false,.bool false,.bool false,.bool false,.bool false,.map none,.bool false] 270);have h8:L.getD 8 false=false:=by
  cases hx:L.getD 8 false with
  | false=>rfl
  | true=>have:=(hc.f8 hx).2.2.2.2;rw[Yl hi] at this;cases this
 refine ZF (hrun _ w') ?_;rw[hd];exact⟨.pointer (some ⟨w'.heap.size,0,none⟩),u4,u32,u33,u34,u35,u36,u37,u38,rfl,⟨bto hc.b hB,fun h h8=>(hc.f0 (by rwa [e 0 (by decide)] at h) (by rwa [e 8 (by decide)] at h8)).below hB,fun h=>hc.f1 (by rwa [e 1 (by decide)] at h),fun h=>hc.f2 (by rwa [e 2 (by decide)] at h),fun h h8=>(hc.f3 (by rwa [e 3 (by decide)] at h) (by rwa [e 8 (by decide)] at h8)).below hB,fun h=>(hc.f4 (by rwa [e 4 (by decide)] at h)).below hB,fun h=>(hc.f5 (by rwa [e 5 (by decide)] at h)).below hB,fun h=>hc.f6 (by rwa [e 6 (by decide)] at h),fun _=>⟨w'.heap.size,_,rfl,hc.b.size,ZJ w' _,rfl,fun h9=>by rw[e 8 (by decide),h8] at h9;cases h9⟩,fun h=>by obtain⟨k0,k3,k4,k5,k7⟩:=hc.f8 (by rwa [e 8 (by decide)] at h);exact⟨k8 0 k0,k8 3 k3,k8 4 k4,k8 5 k5,k8 7 k7⟩,fun h=>hc.f9 (by rwa [e 9 (by decide)] at h),fun h=>k8 6 (hc.f10 (by rwa [e 9 (by decide)] at h))⟩⟩
theorem cs8 (hw0:ZT o 0) (hw3:ZT o 3) (hw4:ZT o 4) (hw5:ZT o 5) (hw7:ZT o 7) (hop:o.op=.store 270 (.tmp 3) (.tmp 37)) (hd:o.dst=none) (hI:(Tryz.prog.info? 270).map (·.size)=some 17):Tj f w w1 o 8:=by
 intro L a w' hI hi hl;obtain⟨u3,u4,u32,u33,u34,u35,u36,u37,u38,rfl,hc⟩:=hI;have e:∀j,j≠8->(L.setIfInBounds 8 true).getD j false=L.getD j false:=fun j hj=>getD_set_ne false (Ne.symm hj)
 have k8:∀j,L.getD j false=true->(L.setIfInBounds 8 true).getD j false=true:=fun j hj=>getD_set_true hj
 obtain⟨b,cs,q1,q2,q3,q4,-⟩:=hc.f7 (hl 7 hw7);have hq:=hc.f5 (hl 5 hw5);obtain⟨cs2,r1,r2,r3⟩:=hq.agg;have hrun:=run_storeVar_row (P:=Tryz.prog) w' b 270 270 cs cs2 q3 (by rw[r2];exact hI) (by rw[q4,r2]) r3
 have hR:Pn b w' (w'.setRow b cs2):=⟨⟨cs,_,q3,q4⟩,by simp[World.setRow],fun c hc _=>setRow_other w' b c cs2 hc⟩
 have hB:Below w1.heap.size w1 (w'.setRow b cs2):=⟨hc.b.os,hc.b.tape,hc.b.output,Nt hc.b.size hR.size,fun c hlt=>(setRow_other w' b c cs2 (by omega)).trans (hc.b.block c hlt)⟩
 have hself:(L.setIfInBounds 8 true).getD 8 false=true:=by
  have h8:=Yl hi
  by_cases hlt:8<L.size
  ·rw[Array.getD_eq_getD_getElem?,Array.getElem?_setIfInBounds,if_pos rfl,if_pos hlt];rfl
  ·rw[Array.getD_eq_getD_getElem?,Array.getElem?_eq_none (by omega)] at hi
   cases hi
 refine UB (w':=w'.setRow b cs2) ?_ ?_
 ·have hx:(FRc f w u3 u4 u32 u33 u34 u35 u36 u37 u38).eval (.tmp 3)=.pointer (some ⟨b,0,none⟩):=q1;have hy:(FRc f w u3 u4 u32 u33 u34 u35 u36 u37 u38).eval (.tmp 37)=.agg cs2:=r1;unfold execOp;simp only[hop,hx,hy,Instr.storeAt,Instr.sureAddr,Sem.run_bind,Sem.run_pure,Result.andThen_ok,hrun]
 rw[hd];exact⟨u3,u4,u32,u33,u34,u35,u36,u37,u38,rfl,⟨hB,fun _ h8=>(by rw[hself] at h8;cases h8),fun h=>hc.f1 (by rwa [e 1 (by decide)] at h),fun h=>hc.f2 (by rwa [e 2 (by decide)] at h),fun _ h8=>(by rw[hself] at h8;cases h8),fun h=>(hc.f4 (by rwa [e 4 (by decide)] at h)).row hR,fun h=>(hc.f5 (by rwa [e 5 (by decide)] at h)).row hR,fun h=>hc.f6 (by rwa [e 6 (by decide)] at h),fun _=>⟨b,cs2,q1,q2,setRow_heap w' b cs cs2 270 (0,0) q3,r2,fun _=>r1⟩,fun _=>⟨k8 0 (hl 0 hw0),k8 3 (hl 3 hw3),k8 4 (hl 4 hw4),k8 5 (hl 5 hw5),k8 7 (hl 7 hw7)⟩,fun h=>hc.f9 (by rwa [e 9 (by decide)] at h),fun h=>k8 6 (hc.f10 (by rwa [e 9 (by decide)] at h))⟩⟩
theorem cs9 (hw6:ZT o 6) (hrun:∀(a:Act) (w':World) (v:Value),a.eval (.tmp 38)=v->(execOp a.eval o).run Tryz.prog w'=.ok (.value v) w') (hd:o.dst=some 4):Tj f w w1 o 9:=by
 intro L a w' hI hi hl;obtain⟨u3,u4,u32,u33,u34,u35,u36,u37,u38,rfl,hc⟩:=hI;have e:∀j,j≠9->(L.setIfInBounds 9 true).getD j false=L.getD j false:=fun j hj=>getD_set_ne false (Ne.symm hj)
 have k8:∀j,L.getD j false=true->(L.setIfInBounds 9 true).getD j false=true:=fun j hj=>getD_set_true hj
 refine ZF (hrun _ w' _ rfl) ?_;rw[hd];exact⟨u3,u38,u32,u33,u34,u35,u36,u37,u38,rfl,⟨hc.b,fun h h8=>hc.f0 (by rwa [e 0 (by decide)] at h) (by rwa [e 8 (by decide)] at h8),fun h=>hc.f1 (by rwa [e 1 (by decide)] at h),fun h=>hc.f2 (by rwa [e 2 (by decide)] at h),fun h h8=>hc.f3 (by rwa [e 3 (by decide)] at h) (by rwa [e 8 (by decide)] at h8),fun h=>hc.f4 (by rwa [e 4 (by decide)] at h),fun h=>hc.f5 (by rwa [e 5 (by decide)] at h),fun h=>hc.f6 (by rwa [e 6 (by decide)] at h),fun h=>by obtain⟨b,cs,q1,q2,q3,q4,q5⟩:=hc.f7 (by rwa [e 7 (by decide)] at h);exact⟨b,cs,q1,q2,q3,q4,fun h8=>q5 (by rwa [e 8 (by decide)] at h8)⟩,fun h=>by obtain⟨k0,k3,k4,k5,k7⟩:=hc.f8 (by rwa [e 8 (by decide)] at h);exact⟨k8 0 k0,k8 3 k3,k8 4 k4,k8 5 k5,k8 7 k7⟩,fun _=>rfl,fun _=>k8 6 (hl 6 hw6)⟩⟩
end
theorem MS {id:Nat} {Q:Exit->Act->World->Prop} {f:Fct} {w w1:World} {a:Act} {L:List Oper} (hm:Tryz.prog.follows .mixedOrders=true) (hg:L.all (fun o=>o.guard.isNone)=true)
  (hbk:((List.range L.length).all fun i=>(L.getD i default).after.toList.all fun e=>!Region.binds .any e||decide (e.on<i))=true) (hl:L.length=10) (ha:a=FRc f w undef undef undef undef undef undef undef undef undef)
  (hstep:VC (Tj f w w1) L 0)
  (hend:∀(u3 u4 u32 u33 u34 u35 u36 u37 u38:Value) (w':World),CF f w w1 (Array.replicate 10 true) w' u3 u4 u32 u33 u34 u35 u36 u37 u38->Q .normal (FRc f w u3 u4 u32 u33 u34 u35 u36 u37 u38) w'):(Code.region id L.toArray true).wp Tryz.prog Q a w1:=by
 refine Ti (I:=CI f w w1) hm hg hbk (by rw[ha];exact Cr f w w1 _) (fun listed a' w' hall hI=>?_) hstep
 obtain⟨u3,u4,u32,u33,u34,u35,u36,u37,u38,rfl,hc⟩:=hI;have h:∀j,j<10->listed.getD j false=true:=fun j hj=>hall j (by omega)
 refine hend u3 u4 u32 u33 u34 u35 u36 u37 u38 w' ⟨hc.b,fun _ h8=>(by cases h8),fun _=>hc.f1 (h 1 (by decide)),fun _=>hc.f2 (h 2 (by decide)),fun _ h8=>(by cases h8),fun _=>hc.f4 (h 4 (by decide)),fun _=>hc.f5 (h 5 (by decide)),fun _=>hc.f6 (h 6 (by decide)),fun _=>?_,fun _=>⟨rfl,rfl,rfl,rfl,rfl⟩,fun _=>hc.f9 (h 9 (by decide)),fun _=>rfl⟩
 obtain⟨b,cs,q1,q2,q3,q4,q5⟩:=hc.f7 (h 7 (by decide))
 exact⟨b,cs,q1,q2,q3,q4,fun _=>q5 (h 8 (by decide))⟩
theorem QH {P:Program} {ops:Array Oper} {rest:List Oper} {op:Oper} {a:Act} {w:World} {Q:Exit->Act->World->Prop} (hw:Region.wanted op (yielded ops a.tmps)=true) (ty:TypeId) (x:Operand) (ho:op.op=.load ty x)
  (b:Nat) (hx:a.eval x=.pointer (some ⟨b,0,none⟩)) (cs:Array Value) {d:TypeDesc} (hc:Blk w b cs)
  (hu:P.underlying ty=some d) (hd:d.isRow=true) (hi:(P.info? ty).map (·.size)=some cs.size)
  (h:wpList P ops Q rest (a.put op.dst (.agg cs)) w):wpList P ops Q (op::rest) a w:=by
 unfold wpList;rw[hw];refine .inl ?_;unfold Oper.wp;rw[Wu (P:=P) (e:=a.eval) ty x ho b hx cs hc hu hd hi];exact h
def Zdc (w:World) (f:Fct) (ps:List Pk):Prop:=∀w',Below w.heap.size w w'->Calls Tryz.prog 121 #[.agg (ZB f)] w' fun e w''=>(∃E:Int,e=.returned (.int .i64 E)/\(GoodS f ps->E=0))/\Below w'.heap.size w' w''
theorem ZbQ {f:Fct} {ps:List Pk} {xs:List Lot} {A:Option Addr} {n:Nat} {w:World} (c:Nat) (kd:Int) (hG:GE w) (hL:Xp w A xs n) (hC:Zdc w f ps) :
  Calls Tryz.prog 89 #[.slice A n c,.agg (ZB f),.int .i64 kd] w fun e w'=>(∃E:Int,e=.returned (.int .i64 E)/\(Vp xs=0->GoodS f ps->f.kind=kd->E=0)/\(E=0->Vp xs=0/\f.kind=kd))/\Below w.heap.size w w':=by
 have hb0:=Zb w (.cells (ZB f) 48);have X0:Hid (Blk (w.alloc (.cells (ZB f) 48)) w.heap.size (ZB f)):=Blk.new w _ 48;have K1:=Lh (Qq c (hG.below hb0) (hL.below hb0));have HC:=Lh hC;obtain⟨E1,hE1⟩:∃E1,E1=Vp xs:=⟨_,rfl⟩
 rw[<-hE1] at K1;have HE1:=Lh hE1;rw[<-hE1];clear hE1 hC;go_enter Tryz.func89,Tryz.ntmps89;go_wp2_with fail
 with_reducible refine K1.out.mono ?_
 rintro e w1 ⟨rfl,hb1⟩;have X1:=Lh (X0.out.below hb1);have HB1:=Lh (bto hb0 hb1);clear hb0 hb1 X0 K1
 by_cases h0:E1=0
 rotate_left
 ·have e5:decide (E1=0)=false:=Df h0;have e6:(E1==0)=false:=by rw[Bn];exact h0
  have H0:=Lh h0;go_wp2;go_ret;exact⟨⟨_,rfl,fun h=>absurd h H0.out,fun h=>by cases h⟩,HB1.out⟩
 subst h0;have C2:=Lh (HC.out w1 HB1.out);go_wp2_with (refine QH rfl 48 (.tmp 4) rfl w.heap.size rfl (ZB f) X1.out Tryz.underlying48 rfl Z8 ?_)
 with_reducible refine C2.out.mono ?_
 rintro e w2 ⟨⟨E2,rfl,hE2⟩,hb2⟩;have q4:w2.cell? ⟨w.heap.size,4,none⟩=some (.int .i64 f.kind):=(X1.out.below hb2).c 4;have HB2:=Lh (bto HB1.out hb2);have HE2:=Lh hE2;clear hE2 hb2 C2 HB1 X1
 by_cases h0:E2=0
 rotate_left
 ·have e5:decide (E2=0)=false:=Df h0;have e6:(E2==0)=false:=by rw[Bn];exact h0
  have H0:=Lh h0;go_wp2;go_ret;exact⟨⟨_,rfl,fun hg _=>absurd (HE2.out hg) H0.out,fun h=>by cases h⟩,HB2.out⟩
 subst h0
 by_cases hk:f.kind=kd
 ·have e5:decide (f.kind=kd)=true:=Dt hk;have e6:(f.kind==kd)=true:=by rw[beq_iff_eq];exact hk
  have HK:=Lh hk;clear hk;go_wp2;go_ret;exact⟨⟨_,rfl,fun _ _=>rfl,fun _=>HK.out⟩,HB2.out⟩
 ·have e5:decide (f.kind=kd)=false:=Df hk;have e6:(f.kind==kd)=false:=by rw[Bn];exact hk
  have HK:=Lh hk;clear hk;go_wp2;go_ret;exact⟨⟨_,rfl,fun _ h=>absurd h HK.out,fun h=>by cases h⟩,HB2.out⟩
theorem J3:ZbG fA:=⟨by decide,by decide,by decide,by decide,by decide,by decide,by decide,by decide,by decide,by decide,by decide,by decide,by decide,by decide⟩
theorem Zao {w:World} (hG:GE w):Calls Tryz.prog 235 #[.agg (ZB fA)] w fun e w'=>e=.returned (.int .i64 0)/\Below w.heap.size w w':=by
 have hb0:=Zb w (.cells (ZB fA) 48);have HX0:Hid (Blk (w.alloc (.cells (ZB fA) 48)) w.heap.size (ZB fA)):=Blk.new w _ 48;have q18:(w.alloc (.cells (ZB fA) 48)).cell? ⟨w.heap.size,18,none⟩=some (.slice none 0 0):=HX0.out.c 18;go_enter Tryz.func235,Tryz.ntmps235;go_wp2_with fail
 go_loopw [3,4,5,6,14] (fun sv _ _ _ iv wr=>sv=.string ⟨#[]⟩/\iv=.int .i64 0/\Hid (Below w.heap.size w wr)/\Hid (Blk wr w.heap.size (ZB fA))) (fun _ _ _ _ _ _=>0)
 case atStart=>exact⟨rfl,rfl,hb0,HX0.out⟩
 case round=>
  clear hb0 HX0 q18;obtain⟨rfl,rfl,HB,HF⟩:=hrel;have q9:wr.cell? ⟨w.heap.size,9,none⟩=some (.string ⟨fA.q.toArray⟩):=HF.out.c 9;have CC:=Lh ((ZM (l:=[]) (l':=fA.q) (c:=-1) (by decide) (by decide) (by decide +kernel)).e)
  have hbq:=HB.out;go_wp2_with fail
  with_reducible refine (CC.out.of hG hbq).mono ?_
  rintro e w9 ⟨rfl,hb9⟩;go_wp2;go_ret;exact⟨rfl,bto hbq hb9⟩
theorem Zcy:∀k,k∈JX->(k∈[4,5,6]∨k∈[0,10])->k=0∨k=10:=by decide
theorem Zcz {w:World} {word:List UInt8} {cls:Int} {H:List Bool} {M:Option Nat} {code:Bool} {k:Nat} (hG:GE w) (hl:H.length=13) (hH:H[k]?=some true) (hQ:KQ 4 w (.agg (ZE word cls H M code))) :
  Calls Tryz.prog 184 #[.agg (ZB fA),.agg (ZE word cls H M code),.int .i64 (k:Int)] w fun e w'=>e=.returned (.int .i64 0)/\Below w.heap.size w w':=by
 obtain⟨bt,vp,vl,⟨word2,cls2,H2,code2,e2,⟨k1,k2⟩,-⟩,h3,h4,h5⟩:=hQ.2 rfl;obtain⟨-,-,rfl,rfl⟩:=OY hl k1 e2;obtain⟨x4,x5,x6⟩:=J0 h3 h4 h5;have hg:=PI
 by_cases hn:k∈JX
 ·have HKK:=Zcy k hn (k2 k hH);obtain⟨g1,g2,g3,g4⟩:=Xi w (.cells (ZB fA) 48) (.cells (ZE word cls H (some bt) code) 270);have X0:Hid (Blk ((w.alloc (.cells (ZB fA) 48)).alloc (.cells (ZE word cls H (some bt) code) 270)) w.heap.size (ZB fA)):=⟨_,g1⟩;have HB:=Lh g3;clear g1 g2 g3 g4 h3 h4 h5 x4 x5 x6 e2 hQ hH hn k2 k1;rcases HKK with rfl|rfl
  ·have q0:((w.alloc (.cells (ZB fA) 48)).alloc (.cells (ZE word cls H (some bt) code) 270)).cell? ⟨w.heap.size,5,none⟩=some (.string ⟨fA.ins.toArray⟩):=X0.out.c 5;have C1:=ZbF (l:=fA.ins) (by decide)
   have e0:nmE fA.ins=0:=hg.g0;rw[e0] at C1;have C2:=Lh C1;clear C1 e0 hg;go_enter Tryz.func184,Tryz.ntmps184;go_wp2_with fail
   with_reducible refine (C2.out.of hG HB.out).mono ?_
   rintro e w1 ⟨rfl,hb1⟩;go_wp2;go_ret;exact⟨rfl,bto HB.out hb1⟩
  ·have C1:=Lh (Zao (hG.below HB.out));go_enter Tryz.func184,Tryz.ntmps184;go_wp2_with (refine Zx rfl 48 (.tmp 3) rfl w.heap.size rfl (ZB fA) X0.out Tryz.underlying48 rfl Z8 ?_);refine C1.out.mono ?_;rintro e w1 ⟨rfl,hb1⟩;go_wp2;go_ret;exact⟨rfl,bto HB.out hb1⟩
 ·rcases k2 k hH with h|h
  ·simp only[List.mem_cons,List.not_mem_nil,or_false] at h;rcases h with rfl|rfl|rfl
   ·refine (MQ hG J3 hl (k:=4) rfl x4).mono ?_;rintro e w' ⟨rfl,hb⟩;exact⟨by rw[hg.q],hb⟩
   ·refine (MQ hG J3 hl (k:=5) rfl x5).mono ?_;rintro e w' ⟨rfl,hb⟩;exact⟨by rw[hg.amt],hb⟩
   ·refine (MQ hG J3 hl (k:=6) rfl x6).mono ?_;rintro e w' ⟨rfl,hb⟩;exact⟨by rw[hg.fee],hb⟩
  ·exfalso
   simp only[JX,List.mem_cons,List.not_mem_nil,or_false] at hn h;omega
theorem Zap {w:World} (hG:GE w) :
  Calls Tryz.prog 121 #[.agg (ZB fA)] w fun e w'=>e=.returned (.int .i64 0)/\Below w.heap.size w w':=by
 have hb0:=Zb w (.cells (ZB fA) 48);have x0:Blk (w.alloc (.cells (ZB fA) 48)) w.heap.size (ZB fA):=Blk.new w _ 48;have q0:(w.alloc (.cells (ZB fA) 48)).cell? ⟨w.heap.size,0,none⟩=some (.string ⟨fA.key.toArray⟩):=x0.c 0;have hnk:Yv fA.key=true:=PI.key;have C1:=((NG (l:=fA.key) (by decide)).e)
 rw[hnk] at C1;have X0:=Lh x0;clear x0;go_enter Tryz.func121,Tryz.ntmps121;go_wp2_with fail
 with_reducible refine (C1.of hG hb0).mono ?_
 rintro e w1 ⟨rfl,hb1⟩;have X1:=Lh (X0.out.below hb1);have HB1:=Lh (bto hb0 hb1);clear hb0 hb1 q0 X0 C1 hnk;have q1:w1.cell? ⟨w.heap.size,1,none⟩=some (.int .i64 fA.stamp):=X1.out.c 1;have q2:w1.cell? ⟨w.heap.size,2,none⟩=some (.bool false):=X1.out.c 2;have q3:w1.cell? ⟨w.heap.size,3,none⟩=some (.int .i64 fA.day):=X1.out.c 3;have e1:decide (fA.stamp<0)=false:=by decide
 have e2:decide (fA.day < -25567)=false:=by decide
 have e3:decide (84005<fA.day)=false:=by decide
 go_wp2_with fail;refine MS (f:=fA) (w:=w) (by kernel_rfl) (by kernel_rfl) (by kernel_rfl) rfl rfl ?_ ?_
 ·clear e1 e2 e3 q1 q2 q3;refine⟨cs0 (fun a w'=>by go_simp;first|done|rfl) rfl,?_⟩
  refine⟨cs1 (fun a w' h1=>by have g1:=toD h1;clear h1;go_simp;first|done|rfl) rfl,?_⟩
  refine⟨cs2 X1.out (Zh rfl) (fun a w' h1 h2=>by have g1:=toD h1;clear h1;go_simp;first|done|rfl) rfl,?_⟩
  refine⟨cs3 (Zh rfl) (Zh rfl) (fun a w' u v h1 h2 h3=>by have g1:=toD h1;have g2:=toD h2;have g3:(Instr.lookup 272 u (.int .i64 fA.kind) true).run Tryz.prog w'=.ok v w':=h3;clear h1 h2 h3;simp[execOp,Act.eval,g1,g2,g3,Result.andThen]) rfl,?_⟩
  refine⟨cs4 (Zh rfl) (fun a w' v h1=>by have g1:=toD h1;clear h1;go_simp;first|done|rfl) rfl,?_⟩
  refine⟨cs5 (Zh rfl) (fun a w' v b h1=>by have g1:=toD h1;clear h1;go_simp;first|done|rfl) rfl,?_⟩
  refine⟨cs6 (Zh rfl) (fun a w' v b h1=>by have g1:=toD h1;clear h1;go_simp;first|done|rfl) rfl,?_⟩
  refine⟨cs7 (fun a w'=>by go_simp;first|done|rfl) rfl,?_⟩
  refine⟨cs8 (Zh rfl) (Zh rfl) (Zh rfl) (Zh rfl) (Zh rfl) rfl rfl (by kernel_rfl),?_⟩
  exact⟨cs9 (Zh rfl) (fun a w' v h1=>by have g1:=toD h1;clear h1;go_simp;first|done|rfl) rfl,trivial⟩
 intro u3 u4 u32 u33 u34 u35 u36 u37 u38 w2 hc;clear q1 q2 q3 e1 e2 e3;obtain⟨b,cs,rfl,hbb,hbx,hsz,h37⟩:=hc.f7 rfl;obtain⟨bo,rfl,hbo⟩:=hc.f6 rfl;have h4:=hc.f9 rfl;subst h4;have hq:=hc.f5 rfl;have hu:=h37 rfl;subst hu;obtain⟨word,cls,H,M,code,e,hl13,-⟩:=hq.1;injection e with e
 subst e;have hb2:=bto HB1.out hc.b;have X2:=Lh (X1.out.below hc.b);have HB2:=Lh hb2;have HBX:=Lh hbx;have HQ:=Lh hq;have HL:=Lh hl13;have HBO:=Lh hbo;have HBB:=Lh hbb;clear hc h37 hbb hbx hsz hbo hq hl13 hb2 X1 HB1;unfold FRc;have hbt:bo=true:=HBO.out rfl;subst hbt;go_wp2_with fail
 go_loopw [5,6,41] (fun _ _ iv wr=>∃k:Nat,k<=13/\iv=.int .i64 (k:Int)/\Hid (Below w2.heap.size w2 wr)) (fun _ _ iv _=>13-(intOf iv).toNat)
 case atStart=>exact⟨0,by decide,rfl,Below.refl _ _⟩
 case round=>
  obtain⟨k,hk,rfl,HB⟩:=hrel
  by_cases hlk:k<13
  rotate_left
  ·have e3:decide (k<13)=false:=Df hlk;have e4:decide ((k:Int)<13)=false:=Df (by omega)
   go_wp2;go_ret;exact⟨rfl,bto HB2.out HB.out⟩
  have e3:decide (k<13)=true:=Dt hlk;have e4:decide ((k:Int)<13)=true:=Dt (by omega)
  obtain⟨h,hH⟩:∃h,H[k]?=some h:=⟨_,List.getElem?_eq_getElem (by rw[HL.out];exact hlk)⟩
  have hbx:=Zk HBX.out HB.out;have q5:wr.cell? ⟨b,2+k,none⟩=some (.bool h):=(Zg hbx (2+k)).trans (Cm hH);have XR:=Lh (X2.out.below HB.out);have HBR:=Lh (bto HB2.out HB.out);have HXR:=Lh hbx;have HHH:=Lh hH;clear hbx hH;have HXB:Hid (Blk wr b (ZE word cls H M code)):=⟨_,HXR.out⟩;have HKI:Hid ((Tryz.prog.info? 270).map (·.size)=some (ZE word cls H M code).size):=by
   show _=_;rw[Xx HL.out]
   kernel_rfl
  cases h with
  | true=>
   have C5:=Lh (Zcz (hG.below HBR.out) HL.out HHH.out (HQ.out.below HB.out));clear HHH;go_wp2_with (first|(refine Zx rfl 48 (.tmp 1) rfl w.heap.size rfl (ZB fA) XR.out Tryz.underlying48 rfl Z8 ?_)|(refine Zx rfl 270 (.tmp 3) rfl b rfl (ZE word cls H M code) HXB.out Tryz.underlying270 rfl HKI.out ?_))
   with_reducible refine C5.out.mono ?_
   rintro e w5 ⟨rfl,hb5⟩;have HB5:=Lh hb5;clear hb5 C5 q5;go_wp2;go_roundw
   case rel=>exact⟨k+1,by omega,by go_num,bto HB.out HB5.out⟩
   case measure=>simp[intOf];omega
  | false=>
   have C6:=Lh (ZbH fA hlk wr (hG.below HBR.out));go_wp2_with (refine Zx rfl 48 (.tmp 1) rfl w.heap.size rfl (ZB fA) XR.out Tryz.underlying48 rfl Z8 ?_)
   with_reducible refine C6.out.mono ?_
   rintro e w5 ⟨rfl,hb5⟩;have heb:emB fA k=true:=ZbN HL.out hlk HHH.out HQ.out PI;rw[heb];have HB5:=Lh hb5;clear heb hb5 C6 q5;go_wp2;go_roundw
   case rel=>exact⟨k+1,by omega,by go_num,bto HB.out HB5.out⟩
   case measure=>simp[intOf];omega
theorem Cs (args:Array Value) (w:World):(callFunc 92 args).run Tryz.prog w=.ok (.enter 92 args) w:=by kernel_rfl
theorem Ct (args:Array Value) (w:World):(callFunc 95 args).run Tryz.prog w=.ok (.enter 95 args) w:=by kernel_rfl
theorem Yy.cap {w:World} {B:Nat} {v:Value} {xs:List Pk} (h:Yy w B v xs):∃A c,v=.slice A xs.length c/\xs.length<=c:=by
 rcases h.2 with ⟨e,hn⟩|⟨g,cap,cur,e,-,-,hc,-⟩
 ·exact⟨none,0,by rw[e,hn],by rw[hn];exact Nl _⟩
 ·exact⟨_,_,e,hc⟩
theorem Zdd {W:World} {b:Nat} {o1 o2 o3 o4 a1 a2 a3 a4:Value} (h:W.heap[b]?=some (.cells #[o1,o2,o3,o4] 60 (0,0))) :
  W.there b 0 4/\(W.setCells b 0 [a1,a2,a3,a4]).heap[b]?=some (.cells #[a1,a2,a3,a4] 60 (0,0))/\∀k,k≠b->(W.setCells b 0 [a1,a2,a3,a4]).heap[k]?=W.heap[k]?:=by
 refine⟨fun j hj=>⟨by rw[Zg h,Array.getElem?_eq_getElem (by show 0+j<4;omega)];rfl,Zm h _⟩,hset (o:=3) _ (hset (o:=2) _ (hset (o:=1) _ (hset (o:=0) _ h))),fun k hk=>?_⟩
 show ((((W.setCell ⟨b,0,none⟩ _).setCell ⟨b,1,none⟩ _).setCell ⟨b,2,none⟩ _).setCell ⟨b,3,none⟩ _).heap[k]?=_;exact (Below.heap_setCell _ _ _ k hk).trans ((Below.heap_setCell _ _ _ k hk).trans ((Below.heap_setCell _ _ _ k hk).trans (Below.heap_setCell _ _ _ k hk)))
theorem TQA.of {w W:World} {g cr:Nat} {rest:List Lot} {v1 v2:Value} (hD:Zct w g cr rest tkA fA.key fA.ins fA.day (canon (val fA.amt-val fA.fee)) v1 v2 W):TQA W (.tuple #[.agg (Sl g rest.length cr v1 v2),.int .i64 0]):=by
 obtain⟨zs,hz,B,ho1,ho2⟩:=hD.sold;rw[J2,Co.1,Co.2] at hz;rw[Cp hz,Cq] at ho1;exact⟨_,v1,v2,rfl,rfl,U8 ho2,ZbP ho1⟩
theorem Fy {w:World} {A:Option Addr} {bl bf bm:Nat} (hG:GE w) (hL:Xp w A xsA 2) (hbl:Blk w bl #[.slice A 2 2]) (hbf:Blk w bf (ZB fA)) (hbm:Blk w bm #[.int .i64 1]) :
  Calls Tryz.prog 94 #[.slice A 2 2,.agg (ZB fA),.func (.func 92) #[] #[.pointer (some ⟨bl,0,none⟩),.pointer (some ⟨bf,0,none⟩),.pointer (some ⟨bm,0,none⟩)],.func (.func 95) #[] #[.pointer (some ⟨bf,0,none⟩)]] w fun e w'=>∃u,e=.returned u/\Below w.heap.size w w'/\TQA w' u:=by
 have hP:∀w:World,TD w none []:=fun w i r h=>by simp at h
 refine (D3 (A:=A) (n:=2) (c:=2) (FC:=ZB fA) (Q:=fun v W=>∃A3 c3,v=.slice A3 pkA.length c3/\pkA.length<=c3/\TD W A3 pkA) (TK:=fun _ taken=>taken=tkA) (BD:=False) (T:=canon (val fA.amt-val fA.fee)) (fid:=fA.key) (fins:=fA.ins) (day:=fA.day) hG Cs Ct (fun w' hb=>?_) (fun v w' hb hq=>?_) (fun v w' hb=>?_) rfl rfl rfl (by rw[J2];decide) (fun rest taken h=>?_)).mono ?_
 ·refine (ZbB (R:=fun v err w''=>err=0/\Below w'.heap.size w' w''/\∃A3 c3,v=.slice A3 pkA.length c3/\pkA.length<=c3/\TD w'' A3 pkA) ((hbl.below hb).c 0) ((hbf.below hb).c 5) ((hbf.below hb).c 9) ((hbm.below hb).c 0) ((hbf.below hb).c 18)
    ((DO 2 0 (hG.below hb) (hL.below hb) (hP w') rfl (by decide) (fun p hp=>(by cases hp)) (by decide) Cn (by decide)).mono ?_)).mono ?_
  ·rintro e w2 ⟨v,zs,rfl,hb2,hz,h20,hk⟩;rw[Zcx ⟨zs,hz,h20,rfl⟩] at hk;obtain⟨A3,c3,e3,hc3⟩:=hk.cap;exact⟨_,_,rfl,rfl,hb2,A3,c3,e3,hc3,hk.pkAt e3⟩
  ·rintro e w2 ⟨v,err,rfl,rfl,hb2,hq⟩;exact⟨v,rfl,hb2,hq⟩
 ·obtain⟨A3,c3,rfl,hc3,hk⟩:=hq;have hcq:ZbC xsA fA.ins fA.q 1 [] pkA:=⟨ofL fA.ins xsA,List.Perm.refl _,fun _ _ _=>rfl,by decide +kernel⟩
  have hpq:=ZbD Cn hL.sm (by decide) hcq
  refine (Zcr 2 c3 (hG.below hb) (hL.below hb) (by decide) MR hk rfl hc3 (by decide) hpq.sm Hn (ZbE MR hpq Hn).1).mono ?_
  rintro e w2 ⟨g,cr,v,B,rfl,hT⟩;exact .inr ⟨_,_,g,cr,v,B,Zan,rfl,hT⟩
 ·exact Fq v (hG.below hb) ((hbf.below hb).c 10) ((hbf.below hb).c 11) (by decide) (by decide)
 ·subst h;rw[J2];exact⟨by decide,by decide +kernel⟩
 ·rintro e w2 (⟨err,-,h2,-⟩|⟨rest,taken,rfl,g,cr,v1,v2,rfl,h2⟩)
  ·exact h2.elim
  ·exact⟨_,rfl,h2.below,.of h2⟩
theorem ZcA {w:World} {A:Option Addr} (hG:GE w) (hL:Xp w A xsA 2):Calls Tryz.prog 35 #[.slice A 2 2,.agg (ZB fA),.int .i64 1] w fun e w'=>∃u,e=.returned u/\Below w.heap.size w w'/\TQA w' u:=by
 obtain⟨g1,g2,g3,g4⟩:=Xi w (.cells #[.slice A 2 2] 44) (.cells (ZB fA) 48);obtain⟨k1,k2,k3,k4⟩:=Xi ((w.alloc (.cells #[.slice A 2 2] 44)).alloc (.cells (ZB fA) 48)) (.cells #[.int .i64 1] 3) (.cells RZ 60);rw[g4] at k1 k2 k4;have hb0:=bto g3 k3;have XL:Hid (Blk ((((w.alloc (.cells #[.slice A 2 2] 44)).alloc (.cells (ZB fA) 48)).alloc (.cells #[.int .i64 1] 3)).alloc (.cells RZ 60)) w.heap.size #[.slice A 2 2]):=⟨_,Zk g1 k3⟩;have XFF:Hid (Blk ((((w.alloc (.cells #[.slice A 2 2] 44)).alloc (.cells (ZB fA) 48)).alloc (.cells #[.int .i64 1] 3)).alloc (.cells RZ 60)) (w.heap.size+1) (ZB fA)):=⟨_,Zk g2 k3⟩;have XM:Hid (Blk ((((w.alloc (.cells #[.slice A 2 2] 44)).alloc (.cells (ZB fA) 48)).alloc (.cells #[.int .i64 1] 3)).alloc (.cells RZ 60)) (w.heap.size+1+1) #[.int .i64 1]):=⟨_,k1⟩;have HR:=Lh k2;have K1:=Lh (ZbQ (f:=fA) (ps:=[]) 2 4 (hG.below hb0) (hL.below hb0) (fun w' hb'=>(Zap (hG.below (bto hb0 hb'))).mono fun _ _ ⟨h1,h2⟩=>⟨⟨0,h1,fun _=>rfl⟩,h2⟩))
 have HL:=Lh hL;have HB0:=Lh hb0;have HI:Hid ((Tryz.prog.info? 60).map (·.size)=some RZ.size):=QX
 have q0:((((w.alloc (.cells #[.slice A 2 2] 44)).alloc (.cells (ZB fA) 48)).alloc (.cells #[.int .i64 1] 3)).alloc (.cells RZ 60)).cell? ⟨w.heap.size,0,none⟩=some (.slice A 2 2):=XL.out.c 0;clear g1 g2 g3 g4 k1 k2 k3 k4 hb0 hL;go_enter Tryz.func35,Tryz.ntmps35;go_wp2_with (refine Zx rfl 48 (.tmp 4) rfl (w.heap.size+1) rfl (ZB fA) XFF.out Tryz.underlying48 rfl Z8 ?_)
 (refine K1.out.mono ?_;rintro e w1 ⟨⟨E1,rfl,hE1,hE2⟩,hb1⟩)
 have hz:=hE1 MR PI rfl;subst hz;have CN:=Lh (Zbx w1);have q2:w1.cell? ⟨w.heap.size+1+1,0,none⟩=some (.int .i64 1):=(XM.out.below hb1).c 0;have HBw1:=Lh (bto HB0.out hb1);have HRw1:=Lh (Zk HR.out hb1);have XL1:=Lh (XL.out.below hb1);have XF1:=Lh (XFF.out.below hb1);have XM1:=Lh (XM.out.below hb1);clear hb1 hE1 hE2 q0 K1 HR XL XFF XM HB0;go_wp2_with fail
 with_reducible refine CN.out.mono ?_
 rintro e w4 ⟨⟨s,rfl⟩,hb2⟩;have HBw4:=Lh (bto HBw1.out hb2);have HRw4:=Lh (Zk HRw1.out hb2);have XL4:=Lh (XL1.out.below hb2);have XF4:=Lh (XF1.out.below hb2);have XM4:=Lh (XM1.out.below hb2);have q3:w4.cell? ⟨w.heap.size+1+1,0,none⟩=some (.int .i64 1):=XM4.out.c 0;have q0:w4.cell? ⟨w.heap.size,0,none⟩=some (.slice A 2 2):=XL4.out.c 0;have CD:=Lh (Fy (bl:=w.heap.size) (bf:=w.heap.size+1) (bm:=w.heap.size+1+1) (hG.below HBw4.out) (HL.out.below HBw4.out) XL4.out XF4.out XM4.out);clear hb2 CN HRw1 XL1 XF1 XM1 HBw1 q2;go_wp2_with (refine Zx rfl 48 (.tmp 4) rfl (w.heap.size+1) rfl (ZB fA) XF4.out Tryz.underlying48 rfl Z8 ?_)
 with_reducible refine CD.out.mono ?_
 rintro e w5 ⟨u,rfl,hb5,a1,a2,a3,rfl,o1,o3,hga⟩;have HGA:=Lh hga;have HO1:=Lh o1;have HO3:=Lh o3;have HR5:=Zk HRw4.out hb5;obtain⟨r1,r2,r3⟩:=Zdd (a1:=a1) (a2:=a2) (a3:=a3) (a4:=.slice none 0 0) HR5;have HTH:Hid (w5.there (w.heap.size+1+1+1) 0 4):=r1;obtain⟨wE,hwE⟩:∃wE,wE=w5.setCells (w.heap.size+1+1+1) 0 [a1,a2,a3,.slice none 0 0]:=⟨_,rfl⟩
 have HWE:=Lh hwE;rw[<-hwE] at r2 r3;have HRR:Hid (wE.rangeAt (w.heap.size+1+1+1) 0 [a1,a2,a3,.slice none 0 0]):=Yk r2;have HGE:Hid (GaQ wE a2):=by
  obtain⟨g,cap,cur,e,h1,h2⟩:=hga;refine⟨g,cap,cur,e,(r3 g (fun e=>?_)).trans h1,h2⟩
  rw[e,HR5] at h1;injection h1 with h1
  injection h1 with _ h1 _
  exact absurd h1 (by decide)
 have HBE:Hid (Below w.heap.size w wE):=by rw[hwE];exact Lib.below_setCells _ (by omega) _ _ (bto HBw4.out hb5)
 have HONE:Hid ((#[a1,a2,a3,.slice none 0 0]:Array Value).all (·.oneCell')=true):=all_oneCell_toArray (cs:=[a1,a2,a3,.slice none 0 0]) (fun v hv=>by
  simp only[List.mem_cons,List.not_mem_nil,or_false] at hv;rcases hv with rfl|rfl|rfl|rfl
  ·exact HO1.out
  ·obtain⟨g,cap,cur,rfl,-⟩:=HGA.out;rfl
  ·exact HO3.out
  ·rfl)
 clear hwE r1 r2 r3 hga o1 o3 hb5 HR5 CD q0 q3;go_wp2_with (refine wpList_store_mid rfl 60 (.tmp 6) (.tmp 39) rfl (w.heap.size+1+1+1) 0 #[a1,a2,a3,.slice none 0 0] rfl rfl HTH.out HI.out HONE.out ?_;rw[<-HWE.out]);refine bodyPost_ret (v:=.tuple #[.agg #[a1,a2,a3,.slice none 0 0],.int .i64 0]) ?_ rfl ?_
 ·exact results_cell_tmp Tryz.f35 6 7 60 #[a1,a2,a3,.slice none 0 0] (.int .i64 0) rfl rfl rfl HRR.out Tryz.underlying60 rfl HI.out
 exact⟨_,rfl,HBE.out,a1,a2,a3,rfl,HO1.out,HO3.out,HGE.out⟩
theorem ZcB (w:World):Calls Tryz.prog 41 #[] w fun e w'=>∃b,e=.returned (.slice (some ⟨b,0,none⟩) 2 2)/\Below w.heap.size w w'/\Xp w' (some ⟨b,0,none⟩) xsA 2:=by
 have hb:=Zb w (.cells #[.string ⟨#[97,47,49]⟩,.string ⟨#[97,98,99]⟩,.int .i64 5,.int .i64 5,.string ⟨#[49,48]⟩,.string ⟨#[49,48,48]⟩,.string ⟨#[]⟩,.string ⟨#[98,47,49]⟩,.string ⟨#[97,98,99]⟩,.int .i64 6,.int .i64 6,.string ⟨#[53]⟩,.string ⟨#[56,48]⟩,.string ⟨#[]⟩] 130);have hn:=ZJ w (.cells #[.string ⟨#[97,47,49]⟩,.string ⟨#[97,98,99]⟩,.int .i64 5,.int .i64 5,.string ⟨#[49,48]⟩,.string ⟨#[49,48,48]⟩,.string ⟨#[]⟩,.string ⟨#[98,47,49]⟩,.string ⟨#[97,98,99]⟩,.int .i64 6,.int .i64 6,.string ⟨#[53]⟩,.string ⟨#[56,48]⟩,.string ⟨#[]⟩] 130);obtain⟨W,hW⟩:∃W,W=w.alloc (.cells #[.string ⟨#[97,47,49]⟩,.string ⟨#[97,98,99]⟩,.int .i64 5,.int .i64 5,.string ⟨#[49,48]⟩,.string ⟨#[49,48,48]⟩,.string ⟨#[]⟩,.string ⟨#[98,47,49]⟩,.string ⟨#[97,98,99]⟩,.int .i64 6,.int .i64 6,.string ⟨#[53]⟩,.string ⟨#[56,48]⟩,.string ⟨#[]⟩] 130):=⟨_,rfl⟩
 rw[<-hW] at hb hn;have HB:=Lh hb;have HN:=Lh hn;have HW:=Lh hW;clear hb hn hW;go_enter Tryz.func41,Tryz.ntmps41;go_wp2_with fail;rw[<-HW.out];go_ret;refine⟨w.heap.size,rfl,HB.out,⟨rfl,by decide,fun x hx=>?_,fun i x hx=>⟨w.heap.size,0,rfl,(Ag.1 HN.out).1,?_⟩⟩⟩
 ·simp[xsA] at hx;rcases hx with rfl|rfl<;>exact⟨by decide,by decide,by decide,by decide,by decide⟩
 ·have hi:=(Lg.1 hx).1;have hi:i=0∨i=1:=by simp[xsA] at hi;omega
  rcases hi with rfl|rfl
  ·simp[xsA] at hx;subst hx;exact⟨Zg HN.out 0,Zg HN.out 1,Zg HN.out 2,Zg HN.out 3,Zg HN.out 4,Zg HN.out 5,Zg HN.out 6⟩
  ·simp[xsA] at hx;subst hx;exact⟨Zg HN.out 7,Zg HN.out 8,Zg HN.out 9,Zg HN.out 10,Zg HN.out 11,Zg HN.out 12,Zg HN.out 13⟩
def LtQ (w:World) (u:Value):Prop:=∃b,u=.slice (some ⟨b,0,none⟩) 2 2/\Xp w (some ⟨b,0,none⟩) xsA 2
theorem LtQ.below {w w':World} {u:Value} (h:LtQ w u) (hb:Below w.heap.size w w'):LtQ w' u:=by
 obtain⟨b,e,h⟩:=h;exact⟨b,e,h.below hb⟩
theorem TQA.below {w w':World} {u:Value} (h:TQA w u) (hb:Below w.heap.size w w'):TQA w' u:=by
 obtain⟨r,v1,v2,e,h1,h2,h3⟩:=h;exact⟨r,v1,v2,e,h1,h2,h3.below hb⟩
def AQA (w:World) (u:Value):Prop:=∃r v1 v2,u=.agg #[r,v1,v2,.slice none 0 0]/\r.oneCell'=true/\v2.oneCell'=true/\GaQ w v1
theorem AQA.below {w w':World} {u:Value} (h:AQA w u) (hb:Below w.heap.size w w'):AQA w' u:=by
 obtain⟨r,v1,v2,e,h1,h2,h3⟩:=h;exact⟨r,v1,v2,e,h1,h2,h3.below hb⟩
theorem GaQ.oth {w w':World} {b:Nat} {cs:Array Value} {v:Value} (h:GaQ w v) (hb:w.heap[b]?=some (.cells cs 60 (0,0))) (hx:∀k,k≠b->w'.heap[k]?=w.heap[k]?):GaQ w' v:=by
 obtain⟨g,cap,cur,e,h1,h2⟩:=h;refine⟨g,cap,cur,e,(hx g (fun e=>?_)).trans h1,h2⟩
 subst e;rw[hb] at h1;injection h1 with h1
 injection h1 with _ h1 _
 exact absurd h1 (by decide)
theorem TQA.oth {w w':World} {b:Nat} {cs:Array Value} {v:Value} (h:TQA w v) (hb:w.heap[b]?=some (.cells cs 60 (0,0))) (hx:∀k,k≠b->w'.heap[k]?=w.heap[k]?):TQA w' v:=by
 obtain⟨r,v1,v2,e,h1,h2,h3⟩:=h;exact⟨r,v1,v2,e,h1,h2,h3.oth hb hx⟩
theorem AQA.oth {w w':World} {b:Nat} {cs:Array Value} {v:Value} (h:AQA w v) (hb:w.heap[b]?=some (.cells cs 60 (0,0))) (hx:∀k,k≠b->w'.heap[k]?=w.heap[k]?):AQA w' v:=by
 obtain⟨r,v1,v2,e,h1,h2,h3⟩:=h;exact⟨r,v1,v2,e,h1,h2,h3.oth hb hx⟩
def FRa (w:World) (u2 u3 u7 u8 u9 u10 u11 u12:Value):Act:=⟨#[.bool false,.pointer (some ⟨w.heap.size,0,none⟩),u2,u3,undef,undef,.agg (ZB fA),u7,u8,u9,u10,u11,u12,undef,undef,undef,undef,undef,undef,undef,undef,undef,undef,undef,undef,undef,undef,undef,undef,undef,undef,undef,undef,undef,undef,undef,undef,undef,undef,undef,undef,undef,undef,undef,undef,undef,undef,undef,undef,undef,undef,undef,undef,undef,undef,undef,undef,undef,undef,undef,undef],[]⟩
structure AF (w w1:World) (L:Array Bool) (w':World) (u2 u3 u7 u8 u9 u10 u11 u12:Value):Prop where
 b:Below w1.heap.size w1 w'
 f0:L.getD 0 false=true->L.getD 7 false=false->LtQ w' u8
 f1:L.getD 1 false=true->u9=.agg (ZB fA)
 f2:L.getD 2 false=true->L.getD 7 false=false->TQA w' u10
 f3:L.getD 3 false=true->TQA w' u7
 f4:L.getD 4 false=true->AQA w' u11
 f5:L.getD 5 false=true->u12=.int .i64 0
 f6:L.getD 6 false=true->∃b cs,u2=.pointer (some ⟨b,0,none⟩)/\w1.heap.size<=b/\w'.heap[b]?=some (.cells cs 60 (0,0))/\cs.size=4/\(L.getD 7 false=true->u11=.agg cs)
 f7:L.getD 7 false=true->L.getD 0 false=true/\L.getD 2 false=true/\L.getD 3 false=true/\L.getD 4 false=true/\L.getD 6 false=true
 f8:L.getD 8 false=true->u3=u12
 f9:L.getD 8 false=true->L.getD 5 false=true
def AI (w w1:World) (L:Array Bool) (a:Act) (w':World):Prop:=∃u2 u3 u7 u8 u9 u10 u11 u12:Value,a=FRa w u2 u3 u7 u8 u9 u10 u11 u12/\AF w w1 L w' u2 u3 u7 u8 u9 u10 u11 u12
def TW (w w1:World) (o:Oper) (i:Nat):Prop:=∀listed a w',AI w w1 listed a w'->listed.getD i true=false->(∀j,ZT o j->listed.getD j false=true)->o.wp Tryz.prog a w' (AI w w1 (listed.setIfInBounds i true)) (WB fun _ _=>False)
theorem Cu (w w1:World) (n:Nat):AI w w1 (Array.replicate n false) (FRa w undef undef undef undef undef undef undef undef) { w1 with drawn:=w1.drawn+1 }:=by
 have h:∀j,(Array.replicate n false).getD j false=false:=fun j=>by
  rw[Array.getD_eq_getD_getElem?,Array.getElem?_replicate]
  split<;>rfl
 refine⟨undef,undef,undef,undef,undef,undef,undef,undef,rfl,⟨⟨rfl,rfl,rfl,Nl _,fun _ _=>rfl⟩,fun e=>?_,fun e=>?_,fun e=>?_,fun e=>?_,fun e=>?_,fun e=>?_,fun e=>?_,fun e=>?_,fun e=>?_,fun e=>?_⟩⟩<;>exact absurd e (by rw[h];decide)
section
variable {w w1:World} {o:Oper}
theorem as0 (hrun:∀(a:Act) (w':World),(execOp a.eval o).run Tryz.prog w'=.ok (.enter 41 #[]) w') (hd:o.dst=some 8):TW w w1 o 0:=by
 intro L a w' hI hi hl;obtain⟨u2,u3,u7,u8,u9,u10,u11,u12,rfl,hc⟩:=hI;have e:∀j,j≠0->(L.setIfInBounds 0 true).getD j false=L.getD j false:=fun j hj=>getD_set_ne false (Ne.symm hj)
 have k8:∀j,L.getD j false=true->(L.setIfInBounds 0 true).getD j false=true:=fun j hj=>getD_set_true hj
 refine Yt (hrun _ w') ?_;refine (ZcB w').mono ?_;rintro ex w2 ⟨b,rfl,hB,hM⟩;refine⟨_,rfl,?_⟩;rw[hd];exact⟨u2,u3,u7,.slice (some ⟨b,0,none⟩) 2 2,u9,u10,u11,u12,rfl,⟨bto hc.b hB,fun _ _=>⟨b,rfl,hM⟩,fun h=>hc.f1 (by rwa [e 1 (by decide)] at h),fun h h7=>(hc.f2 (by rwa [e 2 (by decide)] at h) (by rwa [e 7 (by decide)] at h7)).below hB,fun h=>(hc.f3 (by rwa [e 3 (by decide)] at h)).below hB,fun h=>(hc.f4 (by rwa [e 4 (by decide)] at h)).below hB,fun h=>hc.f5 (by rwa [e 5 (by decide)] at h),fun h=>by obtain⟨b,cs,q1,q2,q3,q4,q5⟩:=hc.f6 (by rwa [e 6 (by decide)] at h);exact⟨b,cs,q1,q2,Zk q3 hB,q4,fun h7=>q5 (by rwa [e 7 (by decide)] at h7)⟩,fun h=>by obtain⟨k0,k2,k3,k4,k6⟩:=hc.f7 (by rwa [e 7 (by decide)] at h);exact⟨k8 0 k0,k8 2 k2,k8 3 k3,k8 4 k4,k8 6 k6⟩,fun h=>hc.f8 (by rwa [e 8 (by decide)] at h),fun h=>k8 5 (hc.f9 (by rwa [e 8 (by decide)] at h))⟩⟩
theorem as1 (hX:Blk w1 w.heap.size (ZB fA)) (hop:o.op=.load 48 (.tmp 1)) (hd:o.dst=some 9):TW w w1 o 1:=by
 intro L a w' hI hi hl;obtain⟨u2,u3,u7,u8,u9,u10,u11,u12,rfl,hc⟩:=hI;have e:∀j,j≠1->(L.setIfInBounds 1 true).getD j false=L.getD j false:=fun j hj=>getD_set_ne false (Ne.symm hj)
 have k8:∀j,L.getD j false=true->(L.setIfInBounds 1 true).getD j false=true:=fun j hj=>getD_set_true hj
 refine ZF (Wu (P:=Tryz.prog) 48 (.tmp 1) hop w.heap.size rfl (ZB fA) (hX.below hc.b) Tryz.underlying48 rfl Z8) ?_;rw[hd];exact⟨u2,u3,u7,u8,.agg (ZB fA),u10,u11,u12,rfl,⟨hc.b,fun h h7=>hc.f0 (by rwa [e 0 (by decide)] at h) (by rwa [e 7 (by decide)] at h7),fun _=>rfl,fun h h7=>hc.f2 (by rwa [e 2 (by decide)] at h) (by rwa [e 7 (by decide)] at h7),fun h=>hc.f3 (by rwa [e 3 (by decide)] at h),fun h=>hc.f4 (by rwa [e 4 (by decide)] at h),fun h=>hc.f5 (by rwa [e 5 (by decide)] at h),fun h=>by obtain⟨b,cs,q1,q2,q3,q4,q5⟩:=hc.f6 (by rwa [e 6 (by decide)] at h);exact⟨b,cs,q1,q2,q3,q4,fun h7=>q5 (by rwa [e 7 (by decide)] at h7)⟩,fun h=>by obtain⟨k0,k2,k3,k4,k6⟩:=hc.f7 (by rwa [e 7 (by decide)] at h);exact⟨k8 0 k0,k8 2 k2,k8 3 k3,k8 4 k4,k8 6 k6⟩,fun h=>hc.f8 (by rwa [e 8 (by decide)] at h),fun h=>k8 5 (hc.f9 (by rwa [e 8 (by decide)] at h))⟩⟩
theorem as2 (hG:GE w1) (hw0:ZT o 0) (hw1:ZT o 1) (hrun:∀(a:Act) (w':World) (u v:Value),a.eval (.tmp 8)=u->a.eval (.tmp 9)=v->(execOp a.eval o).run Tryz.prog w'=.ok (.enter 35 #[u,v,.int .i64 1]) w') (hd:o.dst=some 10):TW w w1 o 2:=by
 intro L a w' hI hi hl;obtain⟨u2,u3,u7,u8,u9,u10,u11,u12,rfl,hc⟩:=hI;have e:∀j,j≠2->(L.setIfInBounds 2 true).getD j false=L.getD j false:=fun j hj=>getD_set_ne false (Ne.symm hj)
 have k8:∀j,L.getD j false=true->(L.setIfInBounds 2 true).getD j false=true:=fun j hj=>getD_set_true hj
 have h7:L.getD 7 false=false:=by
  cases hx:L.getD 7 false with
  | false=>rfl
  | true=>have:=(hc.f7 hx).2.1;rw[Yl hi] at this;cases this
 obtain⟨b,q1,q2⟩:=hc.f0 (hl 0 hw0) h7;have hr:=hrun (FRa w u2 u3 u7 u8 u9 u10 u11 u12) w' _ _ q1 (hc.f1 (hl 1 hw1));refine Yt hr ?_;refine (ZcA (hG.below hc.b) q2).mono ?_;rintro ex w2 ⟨u,rfl,hB,hM⟩;refine⟨u,rfl,?_⟩;rw[hd];exact⟨u2,u3,u7,u8,u9,u,u11,u12,rfl,⟨bto hc.b hB,fun h h7=>(hc.f0 (by rwa [e 0 (by decide)] at h) (by rwa [e 7 (by decide)] at h7)).below hB,fun h=>hc.f1 (by rwa [e 1 (by decide)] at h),fun _ _=>hM,fun h=>(hc.f3 (by rwa [e 3 (by decide)] at h)).below hB,fun h=>(hc.f4 (by rwa [e 4 (by decide)] at h)).below hB,fun h=>hc.f5 (by rwa [e 5 (by decide)] at h),fun h=>by obtain⟨b,cs,q1,q2,q3,q4,q5⟩:=hc.f6 (by rwa [e 6 (by decide)] at h);exact⟨b,cs,q1,q2,Zk q3 hB,q4,fun h7=>q5 (by rwa [e 7 (by decide)] at h7)⟩,fun h=>by obtain⟨k0,k2,k3,k4,k6⟩:=hc.f7 (by rwa [e 7 (by decide)] at h);exact⟨k8 0 k0,k8 2 k2,k8 3 k3,k8 4 k4,k8 6 k6⟩,fun h=>hc.f8 (by rwa [e 8 (by decide)] at h),fun h=>k8 5 (hc.f9 (by rwa [e 8 (by decide)] at h))⟩⟩
theorem as3 (hw2:ZT o 2) (hrun:∀(a:Act) (w':World) (v:Value),a.eval (.tmp 10)=v->(execOp a.eval o).run Tryz.prog w'=.ok (.value v) w') (hd:o.dst=some 7):TW w w1 o 3:=by
 intro L a w' hI hi hl;obtain⟨u2,u3,u7,u8,u9,u10,u11,u12,rfl,hc⟩:=hI;have e:∀j,j≠3->(L.setIfInBounds 3 true).getD j false=L.getD j false:=fun j hj=>getD_set_ne false (Ne.symm hj)
 have k8:∀j,L.getD j false=true->(L.setIfInBounds 3 true).getD j false=true:=fun j hj=>getD_set_true hj
 have h7:L.getD 7 false=false:=by
  cases hx:L.getD 7 false with
  | false=>rfl
  | true=>have:=(hc.f7 hx).2.2.1;rw[Yl hi] at this;cases this
 refine ZF (hrun _ w' _ rfl) ?_;rw[hd];exact⟨u2,u3,u10,u8,u9,u10,u11,u12,rfl,⟨hc.b,fun h h7=>hc.f0 (by rwa [e 0 (by decide)] at h) (by rwa [e 7 (by decide)] at h7),fun h=>hc.f1 (by rwa [e 1 (by decide)] at h),fun h h7=>hc.f2 (by rwa [e 2 (by decide)] at h) (by rwa [e 7 (by decide)] at h7),fun _=>hc.f2 (hl 2 hw2) h7,fun h=>hc.f4 (by rwa [e 4 (by decide)] at h),fun h=>hc.f5 (by rwa [e 5 (by decide)] at h),fun h=>by obtain⟨b,cs,q1,q2,q3,q4,q5⟩:=hc.f6 (by rwa [e 6 (by decide)] at h);exact⟨b,cs,q1,q2,q3,q4,fun h7=>q5 (by rwa [e 7 (by decide)] at h7)⟩,fun h=>by obtain⟨k0,k2,k3,k4,k6⟩:=hc.f7 (by rwa [e 7 (by decide)] at h);exact⟨k8 0 k0,k8 2 k2,k8 3 k3,k8 4 k4,k8 6 k6⟩,fun h=>hc.f8 (by rwa [e 8 (by decide)] at h),fun h=>k8 5 (hc.f9 (by rwa [e 8 (by decide)] at h))⟩⟩
theorem as4 (hw3:ZT o 3) (hrun:∀(a:Act) (w':World) (v b:Value),a.eval (.tmp 7)=.tuple #[v,b]->(execOp a.eval o).run Tryz.prog w'=.ok (.value v) w') (hd:o.dst=some 11):TW w w1 o 4:=by
 intro L a w' hI hi hl;obtain⟨u2,u3,u7,u8,u9,u10,u11,u12,rfl,hc⟩:=hI;have e:∀j,j≠4->(L.setIfInBounds 4 true).getD j false=L.getD j false:=fun j hj=>getD_set_ne false (Ne.symm hj)
 have k8:∀j,L.getD j false=true->(L.setIfInBounds 4 true).getD j false=true:=fun j hj=>getD_set_true hj
 have h7:L.getD 7 false=false:=by
  cases hx:L.getD 7 false with
  | false=>rfl
  | true=>have:=(hc.f7 hx).2.2.2.1;rw[Yl hi] at this;cases this
 obtain⟨r,v1,v2,q1,q2,q3,q4⟩:=hc.f3 (hl 3 hw3);refine ZF (hrun _ w' _ _ q1) ?_;rw[hd];exact⟨u2,u3,u7,u8,u9,u10,.agg #[r,v1,v2,.slice none 0 0],u12,rfl,⟨hc.b,fun h h7=>hc.f0 (by rwa [e 0 (by decide)] at h) (by rwa [e 7 (by decide)] at h7),fun h=>hc.f1 (by rwa [e 1 (by decide)] at h),fun h h7=>hc.f2 (by rwa [e 2 (by decide)] at h) (by rwa [e 7 (by decide)] at h7),fun h=>hc.f3 (by rwa [e 3 (by decide)] at h),fun _=>⟨r,v1,v2,rfl,q2,q3,q4⟩,fun h=>hc.f5 (by rwa [e 5 (by decide)] at h),fun h=>by obtain⟨b,cs,r1,r2,r3,r4,r5⟩:=hc.f6 (by rwa [e 6 (by decide)] at h);exact⟨b,cs,r1,r2,r3,r4,fun h9=>(by rw[e 7 (by decide),h7] at h9;cases h9)⟩,fun h=>by obtain⟨k0,k2,k3,k4,k6⟩:=hc.f7 (by rwa [e 7 (by decide)] at h);exact⟨k8 0 k0,k8 2 k2,k8 3 k3,k8 4 k4,k8 6 k6⟩,fun h=>hc.f8 (by rwa [e 8 (by decide)] at h),fun h=>k8 5 (hc.f9 (by rwa [e 8 (by decide)] at h))⟩⟩
theorem as5 (hw3:ZT o 3) (hrun:∀(a:Act) (w':World) (v b:Value),a.eval (.tmp 7)=.tuple #[v,b]->(execOp a.eval o).run Tryz.prog w'=.ok (.value b) w') (hd:o.dst=some 12):TW w w1 o 5:=by
 intro L a w' hI hi hl;obtain⟨u2,u3,u7,u8,u9,u10,u11,u12,rfl,hc⟩:=hI;have e:∀j,j≠5->(L.setIfInBounds 5 true).getD j false=L.getD j false:=fun j hj=>getD_set_ne false (Ne.symm hj)
 have k8:∀j,L.getD j false=true->(L.setIfInBounds 5 true).getD j false=true:=fun j hj=>getD_set_true hj
 obtain⟨r,v1,v2,q1,q2,q3,q4⟩:=hc.f3 (hl 3 hw3);refine ZF (hrun _ w' _ _ q1) ?_;rw[hd];exact⟨u2,u3,u7,u8,u9,u10,u11,.int .i64 0,rfl,⟨hc.b,fun h h7=>hc.f0 (by rwa [e 0 (by decide)] at h) (by rwa [e 7 (by decide)] at h7),fun h=>hc.f1 (by rwa [e 1 (by decide)] at h),fun h h7=>hc.f2 (by rwa [e 2 (by decide)] at h) (by rwa [e 7 (by decide)] at h7),fun h=>hc.f3 (by rwa [e 3 (by decide)] at h),fun h=>hc.f4 (by rwa [e 4 (by decide)] at h),fun _=>rfl,fun h=>by obtain⟨b,cs,q1,q2,q3,q4,q5⟩:=hc.f6 (by rwa [e 6 (by decide)] at h);exact⟨b,cs,q1,q2,q3,q4,fun h7=>q5 (by rwa [e 7 (by decide)] at h7)⟩,fun h=>by obtain⟨k0,k2,k3,k4,k6⟩:=hc.f7 (by rwa [e 7 (by decide)] at h);exact⟨k8 0 k0,k8 2 k2,k8 3 k3,k8 4 k4,k8 6 k6⟩,fun h=>(by have h9:=hc.f9 (by rwa [e 8 (by decide)] at h);rw[Yl hi] at h9;cases h9),fun h=>k8 5 (hc.f9 (by rwa [e 8 (by decide)] at h))⟩⟩
theorem as6 (hrun:∀(a:Act) (w':World),(execOp a.eval o).run Tryz.prog w'=.ok (.value (.pointer (some ⟨w'.heap.size,0,none⟩))) (w'.alloc (.cells #[.slice none 0 0,.slice none 0 0,.slice none 0 0,.slice none 0 0] 60))) (hd:o.dst=some 2):TW w w1 o 6:=by
 intro L a w' hI hi hl;obtain⟨u2,u3,u7,u8,u9,u10,u11,u12,rfl,hc⟩:=hI;have e:∀j,j≠6->(L.setIfInBounds 6 true).getD j false=L.getD j false:=fun j hj=>getD_set_ne false (Ne.symm hj)
 have k8:∀j,L.getD j false=true->(L.setIfInBounds 6 true).getD j false=true:=fun j hj=>getD_set_true hj
 have hB:=Zb w' (.cells #[.slice none 0 0,.slice none 0 0,.slice none 0 0,.slice none 0 0] 60);have h7:L.getD 7 false=false:=by
  cases hx:L.getD 7 false with
  | false=>rfl
  | true=>have:=(hc.f7 hx).2.2.2.2;rw[Yl hi] at this;cases this
 refine ZF (hrun _ w') ?_;rw[hd];exact⟨.pointer (some ⟨w'.heap.size,0,none⟩),u3,u7,u8,u9,u10,u11,u12,rfl,⟨bto hc.b hB,fun h h7=>(hc.f0 (by rwa [e 0 (by decide)] at h) (by rwa [e 7 (by decide)] at h7)).below hB,fun h=>hc.f1 (by rwa [e 1 (by decide)] at h),fun h h7=>(hc.f2 (by rwa [e 2 (by decide)] at h) (by rwa [e 7 (by decide)] at h7)).below hB,fun h=>(hc.f3 (by rwa [e 3 (by decide)] at h)).below hB,fun h=>(hc.f4 (by rwa [e 4 (by decide)] at h)).below hB,fun h=>hc.f5 (by rwa [e 5 (by decide)] at h),fun _=>⟨w'.heap.size,_,rfl,hc.b.size,ZJ w' _,rfl,fun h9=>by rw[e 7 (by decide),h7] at h9;cases h9⟩,fun h=>by obtain⟨k0,k2,k3,k4,k6⟩:=hc.f7 (by rwa [e 7 (by decide)] at h);exact⟨k8 0 k0,k8 2 k2,k8 3 k3,k8 4 k4,k8 6 k6⟩,fun h=>hc.f8 (by rwa [e 8 (by decide)] at h),fun h=>k8 5 (hc.f9 (by rwa [e 8 (by decide)] at h))⟩⟩
theorem as7 (hw0:ZT o 0) (hw2:ZT o 2) (hw3:ZT o 3) (hw4:ZT o 4) (hw6:ZT o 6) (hop:o.op=.store 60 (.tmp 2) (.tmp 11)) (hd:o.dst=none) (hI:(Tryz.prog.info? 60).map (·.size)=some 4):TW w w1 o 7:=by
 intro L a w' hI hi hl;obtain⟨u2,u3,u7,u8,u9,u10,u11,u12,rfl,hc⟩:=hI;have e:∀j,j≠7->(L.setIfInBounds 7 true).getD j false=L.getD j false:=fun j hj=>getD_set_ne false (Ne.symm hj)
 have k8:∀j,L.getD j false=true->(L.setIfInBounds 7 true).getD j false=true:=fun j hj=>getD_set_true hj
 obtain⟨b,cs,q1,q2,q3,q4,-⟩:=hc.f6 (hl 6 hw6);obtain⟨r,v1,v2,r1,r2,r3,r4⟩:=hc.f4 (hl 4 hw4)
 have hone:(#[r,v1,v2,.slice none 0 0]:Array Value).all (·.oneCell')=true:=all_oneCell_toArray (cs:=[r,v1,v2,.slice none 0 0]) (fun v hv=>by
  simp only[List.mem_cons,List.not_mem_nil,or_false] at hv;rcases hv with rfl|rfl|rfl|rfl
  ·exact r2
  ·obtain⟨g,cap,cur,rfl,-⟩:=r4;rfl
  ·exact r3
  ·rfl)
 have hrun:=run_storeVar_row (P:=Tryz.prog) w' b 60 60 cs #[r,v1,v2,.slice none 0 0] q3 hI q4 hone;have hx:∀k,k≠b->(w'.setRow b #[r,v1,v2,.slice none 0 0]).heap[k]?=w'.heap[k]?:=fun k hk=>setRow_other w' b k _ hk
 have hB:Below w1.heap.size w1 (w'.setRow b #[r,v1,v2,.slice none 0 0]):=⟨hc.b.os,hc.b.tape,hc.b.output,Nt hc.b.size (by simp[World.setRow]),fun c hlt=>(hx c (by omega)).trans (hc.b.block c hlt)⟩
 have hself:(L.setIfInBounds 7 true).getD 7 false=true:=by
  by_cases hlt:7<L.size
  ·rw[Array.getD_eq_getD_getElem?,Array.getElem?_setIfInBounds,if_pos rfl,if_pos hlt];rfl
  ·rw[Array.getD_eq_getD_getElem?,Array.getElem?_eq_none (by omega)] at hi
   cases hi
 refine UB (w':=w'.setRow b #[r,v1,v2,.slice none 0 0]) ?_ ?_
 ·have hx2:(FRa w u2 u3 u7 u8 u9 u10 u11 u12).eval (.tmp 2)=.pointer (some ⟨b,0,none⟩):=q1;have hy:(FRa w u2 u3 u7 u8 u9 u10 u11 u12).eval (.tmp 11)=.agg #[r,v1,v2,.slice none 0 0]:=r1;unfold execOp;simp only[hop,hx2,hy,Instr.storeAt,Instr.sureAddr,Sem.run_bind,Sem.run_pure,Result.andThen_ok,hrun]
 rw[hd];exact⟨u2,u3,u7,u8,u9,u10,u11,u12,rfl,⟨hB,fun _ h7=>(by rw[hself] at h7;cases h7),fun h=>hc.f1 (by rwa [e 1 (by decide)] at h),fun _ h7=>(by rw[hself] at h7;cases h7),fun h=>(hc.f3 (by rwa [e 3 (by decide)] at h)).oth q3 hx,fun h=>(hc.f4 (by rwa [e 4 (by decide)] at h)).oth q3 hx,fun h=>hc.f5 (by rwa [e 5 (by decide)] at h),fun _=>⟨b,_,q1,q2,setRow_heap w' b cs _ 60 (0,0) q3,rfl,fun _=>r1⟩,fun _=>⟨k8 0 (hl 0 hw0),k8 2 (hl 2 hw2),k8 3 (hl 3 hw3),k8 4 (hl 4 hw4),k8 6 (hl 6 hw6)⟩,fun h=>hc.f8 (by rwa [e 8 (by decide)] at h),fun h=>k8 5 (hc.f9 (by rwa [e 8 (by decide)] at h))⟩⟩
theorem as8 (hw5:ZT o 5) (hrun:∀(a:Act) (w':World) (v:Value),a.eval (.tmp 12)=v->(execOp a.eval o).run Tryz.prog w'=.ok (.value v) w') (hd:o.dst=some 3):TW w w1 o 8:=by
 intro L a w' hI hi hl;obtain⟨u2,u3,u7,u8,u9,u10,u11,u12,rfl,hc⟩:=hI;have e:∀j,j≠8->(L.setIfInBounds 8 true).getD j false=L.getD j false:=fun j hj=>getD_set_ne false (Ne.symm hj)
 have k8:∀j,L.getD j false=true->(L.setIfInBounds 8 true).getD j false=true:=fun j hj=>getD_set_true hj
 refine ZF (hrun _ w' _ rfl) ?_;rw[hd];exact⟨u2,u12,u7,u8,u9,u10,u11,u12,rfl,⟨hc.b,fun h h7=>hc.f0 (by rwa [e 0 (by decide)] at h) (by rwa [e 7 (by decide)] at h7),fun h=>hc.f1 (by rwa [e 1 (by decide)] at h),fun h h7=>hc.f2 (by rwa [e 2 (by decide)] at h) (by rwa [e 7 (by decide)] at h7),fun h=>hc.f3 (by rwa [e 3 (by decide)] at h),fun h=>hc.f4 (by rwa [e 4 (by decide)] at h),fun h=>hc.f5 (by rwa [e 5 (by decide)] at h),fun h=>by obtain⟨b,cs,q1,q2,q3,q4,q5⟩:=hc.f6 (by rwa [e 6 (by decide)] at h);exact⟨b,cs,q1,q2,q3,q4,fun h7=>q5 (by rwa [e 7 (by decide)] at h7)⟩,fun h=>by obtain⟨k0,k2,k3,k4,k6⟩:=hc.f7 (by rwa [e 7 (by decide)] at h);exact⟨k8 0 k0,k8 2 k2,k8 3 k3,k8 4 k4,k8 6 k6⟩,fun _=>rfl,fun _=>k8 5 (hl 5 hw5)⟩⟩
end
theorem MU {id:Nat} {Q:Exit->Act->World->Prop} {w w1:World} {a:Act} {L:List Oper} (hm:Tryz.prog.follows .mixedOrders=true) (hg:L.all (fun o=>o.guard.isNone)=true)
  (hbk:((List.range L.length).all fun i=>(L.getD i default).after.toList.all fun e=>!Region.binds .any e||decide (e.on<i))=true) (hl:L.length=9) (ha:a=FRa w undef undef undef undef undef undef undef undef)
  (hstep:VC (TW w w1) L 0)
  (hend:∀(u2 u3 u7 u8 u9 u10 u11 u12:Value) (w':World),Below w1.heap.size w1 w'->(∃b r v1 v2,u2=.pointer (some ⟨b,0,none⟩)/\w1.heap.size<=b/\w'.heap[b]?=some (.cells #[r,v1,v2,.slice none 0 0] 60 (0,0))/\GaQ w' v1)->u3=.int .i64 0->Q .normal (FRa w u2 u3 u7 u8 u9 u10 u11 u12) w'):(Code.region id L.toArray true).wp Tryz.prog Q a w1:=by
 refine Ti (I:=AI w w1) hm hg hbk (by rw[ha];exact Cu w w1 _) (fun listed a' w' hall hI=>?_) hstep
 obtain⟨u2,u3,u7,u8,u9,u10,u11,u12,rfl,hc⟩:=hI;have h:∀j,j<9->listed.getD j false=true:=fun j hj=>hall j (by omega)
 obtain⟨b,cs,q1,q2,q3,q4,q5⟩:=hc.f6 (h 6 (by decide))
 obtain⟨r,v1,v2,r1,r2,r3,r4⟩:=hc.f4 (h 4 (by decide))
 have hu:=q5 (h 7 (by decide))
 rw[r1] at hu;injection hu with hu
 subst hu;exact hend u2 u3 u7 u8 u9 u10 u11 u12 w' hc.b ⟨b,r,v1,v2,q1,q2,q3,r4⟩ ((hc.f8 (h 8 (by decide))).trans (hc.f5 (h 5 (by decide))))
def awP:List Pnt:=[⟨1,[49,48,48],[]⟩,⟨2,[49,49,48],[]⟩]
theorem ZbR:X3 awP=0:=by decide +kernel
theorem Zaq:EW awP=.tuple #[.agg #[.string ⟨#[49]⟩,.string ⟨#[49,48]⟩],.int .i64 0]:=by
 have e1:ZD 1 (Wd (pts awP))-1=Rat.divInt 1 10:=by decide +kernel
 have e2:fN (Rat.divInt 1 10)=[49]:=by decide +kernel
 have e3:fD (Rat.divInt 1 10)=[49,48]:=by decide +kernel
 unfold EW;rw[if_neg (fun h=>h ZbR),e1,e2,e3]
theorem PK:Vu 9 #[] (.bool true):=fun w hG=>by
 have hb1:=Zb w (.cells #[.string ⟨#[]⟩,.int .i64 0,.bool false,.int .i64 0,.int .i64 0,.string ⟨#[]⟩,.string ⟨#[]⟩,.string ⟨#[]⟩,.string ⟨#[]⟩,.string ⟨#[]⟩,.string ⟨#[]⟩,.string ⟨#[]⟩,.string ⟨#[]⟩,.string ⟨#[]⟩,.string ⟨#[]⟩,.string ⟨#[]⟩,.string ⟨#[]⟩,.string ⟨#[]⟩,.slice none 0 0,.slice none 0 0,.int .i64 0] 48);have h1:=ZJ w (.cells #[.string ⟨#[]⟩,.int .i64 0,.bool false,.int .i64 0,.int .i64 0,.string ⟨#[]⟩,.string ⟨#[]⟩,.string ⟨#[]⟩,.string ⟨#[]⟩,.string ⟨#[]⟩,.string ⟨#[]⟩,.string ⟨#[]⟩,.string ⟨#[]⟩,.string ⟨#[]⟩,.string ⟨#[]⟩,.string ⟨#[]⟩,.string ⟨#[]⟩,.string ⟨#[]⟩,.slice none 0 0,.slice none 0 0,.int .i64 0] 48);obtain⟨h2,hT⟩:=SY (cs:=ZB fA) h1 rfl;have HTH:=Lh h2;have HI:Hid ((Tryz.prog.info? 48).map (·.size)=some (ZB fA).size):=Z8
 have HM:Hid ((ZB fA).all (·.oneCell')=true):=by
  show _=_;decide +kernel
 obtain⟨W1,hW1⟩:∃W1,W1=(w.alloc (.cells #[.string ⟨#[]⟩,.int .i64 0,.bool false,.int .i64 0,.int .i64 0,.string ⟨#[]⟩,.string ⟨#[]⟩,.string ⟨#[]⟩,.string ⟨#[]⟩,.string ⟨#[]⟩,.string ⟨#[]⟩,.string ⟨#[]⟩,.string ⟨#[]⟩,.string ⟨#[]⟩,.string ⟨#[]⟩,.string ⟨#[]⟩,.string ⟨#[]⟩,.string ⟨#[]⟩,.slice none 0 0,.slice none 0 0,.int .i64 0] 48)).setCells w.heap.size 0 (ZB fA).toList:=⟨_,rfl⟩
 rw[<-hW1] at hT;have HW1:=Lh hW1;have HB1:Hid (Below w.heap.size w W1):=by rw[hW1];exact Lib.below_setCells _ (Nl _) _ _ hb1
 have HX1:Hid (Blk W1 w.heap.size (ZB fA)):=⟨_,hT.new⟩;clear hb1 h1 h2 hT hW1;go_enter Tryz.func9,Tryz.ntmps9
 go_wp2_with (first
  | (refine OU rfl 48 _ rfl (.agg (ZB fA)) (by go_simp;first|done|with_reducible rfl|rfl) ?_)
  | (refine wpList_store_mid rfl 48 (.tmp 1) (.tmp 6) rfl w.heap.size 0 (ZB fA) rfl rfl HTH.out HI.out HM.out ?_;rw[<-HW1.out]))
 refine MU (w:=w) (by kernel_rfl) (by kernel_rfl) (by kernel_rfl) rfl rfl ?_ ?_
 ·refine⟨as0 (fun a w'=>by go_simp;first|done|rfl) rfl,?_⟩
  refine⟨as1 HX1.out rfl rfl,?_⟩;refine⟨as2 (hG.below HB1.out) (Zh rfl) (Zh rfl) (fun a w' u v h1 h2=>by have g1:=toD h1;have g2:=toD h2;clear h1 h2;go_simp;first|done|rfl) rfl,?_⟩
  refine⟨as3 (Zh rfl) (fun a w' v h1=>by have g1:=toD h1;clear h1;go_simp;first|done|rfl) rfl,?_⟩
  refine⟨as4 (Zh rfl) (fun a w' v b h1=>by have g1:=toD h1;clear h1;go_simp;first|done|rfl) rfl,?_⟩
  refine⟨as5 (Zh rfl) (fun a w' v b h1=>by have g1:=toD h1;clear h1;go_simp;first|done|rfl) rfl,?_⟩
  refine⟨as6 (fun a w'=>by go_simp;first|done|rfl) rfl,?_⟩
  refine⟨as7 (Zh rfl) (Zh rfl) (Zh rfl) (Zh rfl) (Zh rfl) rfl rfl (by kernel_rfl),?_⟩
  exact⟨as8 (Zh rfl) (fun a w' v h1=>by have g1:=toD h1;clear h1;go_simp;first|done|rfl) rfl,trivial⟩
 intro u2 u3 u7 u8 u9 u10 u11 u12 w2 hb2 hres hu3;obtain⟨b,r,v1,v2,rfl,hbb,hrb,hga⟩:=hres;subst hu3;have HB2:=Lh (bto HB1.out hb2);have HRB:=Lh hrb;have HGA:=Lh hga;clear hb2 hbb hrb hga HB1 HX1 HTH HW1;unfold FRa;have hb3:=Zb w2 (.cells #[.int .i64 1,.string ⟨#[49,48,48]⟩,.string ⟨#[]⟩,.int .i64 2,.string ⟨#[49,49,48]⟩,.string ⟨#[]⟩] 98);have h3:=ZJ w2 (.cells #[.int .i64 1,.string ⟨#[49,48,48]⟩,.string ⟨#[]⟩,.int .i64 2,.string ⟨#[49,49,48]⟩,.string ⟨#[]⟩] 98);obtain⟨w3,hw3⟩:∃w3,w3=w2.alloc (.cells #[.int .i64 1,.string ⟨#[49,48,48]⟩,.string ⟨#[]⟩,.int .i64 2,.string ⟨#[49,49,48]⟩,.string ⟨#[]⟩] 98):=⟨_,rfl⟩
 rw[<-hw3] at hb3 h3;have HQ:QL w3 (some ⟨w2.heap.size,0,none⟩) awP 2:=by
  refine⟨rfl,by decide,.inl (by decide),by decide,fun i t ht=>?_⟩
  have hi:=(Lg.1 ht).1;have hi:i=0∨i=1:=by simp[awP] at hi;omega
  rcases hi with rfl|rfl
  ·simp[awP] at ht;subst ht;exact⟨w2.heap.size,0,rfl,(Ag.1 h3).1,Zg h3 0,Zg h3 1,Zg h3 2⟩
  ·simp[awP] at ht;subst ht;exact⟨w2.heap.size,0,rfl,(Ag.1 h3).1,Zg h3 3,Zg h3 4,Zg h3 5⟩
 have HB3:=Lh (bto HB2.out hb3);have CR0:=EX (hG.below HB3.out).g HQ 2;rw[Zaq] at CR0;have CR:=Lh (CR0 w3 (Below.refl _ _));clear CR0;have HW3:=Lh hw3;have HRB3:=Lh (Zk HRB.out hb3);have HGA3:=Lh (HGA.out.below hb3);clear hb3 h3 hw3 HQ HRB HGA HB2;go_wp2_with fail;rw[<-HW3.out]
 with_reducible refine CR.out.mono ?_
 rintro e w4 ⟨rfl,hb4⟩;have hga4:=HGA3.out.below hb4;have hrb4:=Zk HRB3.out hb4;have HB4:=Lh (bto HB3.out hb4);have hb5:=Zb w4 (.cells #[.string ⟨#[]⟩,.string ⟨#[]⟩] 34);have h5:=ZJ w4 (.cells #[.string ⟨#[]⟩,.string ⟨#[]⟩] 34);obtain⟨t5,hT5⟩:=SY (cs:=#[.string ⟨#[49]⟩,.string ⟨#[49,48]⟩]) h5 rfl;have HTF:=Lh t5;have HIF:Hid ((Tryz.prog.info? 34).map (·.size)=some (#[.string ⟨#[49]⟩,.string ⟨#[49,48]⟩]:Array Value).size):=by
  show _=_
  kernel_rfl
 have HMF:Hid ((#[.string ⟨#[49]⟩,.string ⟨#[49,48]⟩]:Array Value).all (·.oneCell')=true):=by
  show _=_;decide +kernel
 obtain⟨W5,hW5⟩:∃W5,W5=(w4.alloc (.cells #[.string ⟨#[]⟩,.string ⟨#[]⟩] 34)).setCells w4.heap.size 0 (#[.string ⟨#[49]⟩,.string ⟨#[49,48]⟩]:Array Value).toList:=⟨_,rfl⟩
 rw[<-hW5] at hT5;have HW5:=Lh hW5;have HB5:Hid (Below w.heap.size w W5):=by rw[hW5];exact Lib.below_setCells _ (by have:=HB4.out.size;omega) _ _ (bto HB4.out hb5)
 have hrb5:W5.heap[b]?=some (.cells #[r,v1,v2,.slice none 0 0] 60 (0,0)):=(hT5.old b (by have:=(Ag.1 hrb4).1;omega)).trans (Zk hrb4 hb5)
 have hga5:GaQ W5 v1:=by
  obtain⟨g,cap,cur,e1,e2,e3⟩:=hga4;exact⟨g,cap,cur,e1,(hT5.old g (by have:=(Ag.1 e2).1;omega)).trans (Zk e2 hb5),e3⟩
 obtain⟨g,cap,rfl,qb,qc,qd⟩:=hga5.at;have qa:W5.cell? ⟨b,1,none⟩=some (.slice (some ⟨g,0,none⟩) 2 cap):=Zg hrb5 1;have qe:W5.cell? ⟨w4.heap.size,0,none⟩=some (.string ⟨#[49]⟩):=Zg hT5.new 0;have qf:W5.cell? ⟨w4.heap.size,1,none⟩=some (.string ⟨#[49,48]⟩):=Zg hT5.new 1;clear hb5 h5 t5 hT5 hW5 hrb4 hga4 hrb5 hga5 CR HW3 HRB3 HGA3 HB3 HB4 hb4;go_wp2_with (refine wpList_store_mid rfl 34 (.tmp 4) (.tmp 18) rfl w4.heap.size 0 #[.string ⟨#[49]⟩,.string ⟨#[49,48]⟩] rfl rfl HTF.out HIF.out HMF.out ?_;rw[<-HW5.out]);go_ret;exact⟨rfl,HB5.out⟩
structure Sec where
 n:List UInt8
 w1:List UInt8
 w2:List UInt8
 r1:List UInt8
 r2:List UInt8
 b1:List UInt8
 b2:List UInt8
 c1:List UInt8
 c2:List UInt8
def Y7 (w:World) (A:Option Addr) (xs:List Sec):Prop:=∀(i:Nat) (x:Sec),xs[i]?=some x->∃b o,A=some ⟨b,o,none⟩/\b<w.heap.size/\w.cell? ⟨b,o+i*9,none⟩=some (.string ⟨x.n.toArray⟩)/\w.cell? ⟨b,o+i*9+1,none⟩=some (.string ⟨x.w1.toArray⟩)/\w.cell? ⟨b,o+i*9+2,none⟩=some (.string ⟨x.w2.toArray⟩)/\w.cell? ⟨b,o+i*9+3,none⟩=some (.string ⟨x.r1.toArray⟩)/\w.cell? ⟨b,o+i*9+4,none⟩=some (.string ⟨x.r2.toArray⟩)/\w.cell? ⟨b,o+i*9+5,none⟩=some (.string ⟨x.b1.toArray⟩)/\w.cell? ⟨b,o+i*9+6,none⟩=some (.string ⟨x.b2.toArray⟩)/\w.cell? ⟨b,o+i*9+7,none⟩=some (.string ⟨x.c1.toArray⟩)/\w.cell? ⟨b,o+i*9+8,none⟩=some (.string ⟨x.c2.toArray⟩)
theorem Y7.below {w w':World} {A:Option Addr} {xs:List Sec} (h:Y7 w A xs) (hb:Below w.heap.size w w'):Y7 w' A xs:=fun i x hx=>by
 obtain⟨b,o,hA,hl,h0,h1,h2,h3,h4,h5,h6,h7,h8⟩:=h i x hx;exact⟨b,o,hA,Nat.lt_of_lt_of_le hl hb.size,(hb.cell (p:=⟨b,_,none⟩) hl).trans h0,(hb.cell (p:=⟨b,_,none⟩) hl).trans h1,(hb.cell (p:=⟨b,_,none⟩) hl).trans h2,(hb.cell (p:=⟨b,_,none⟩) hl).trans h3,(hb.cell (p:=⟨b,_,none⟩) hl).trans h4,(hb.cell (p:=⟨b,_,none⟩) hl).trans h5,(hb.cell (p:=⟨b,_,none⟩) hl).trans h6,(hb.cell (p:=⟨b,_,none⟩) hl).trans h7,(hb.cell (p:=⟨b,_,none⟩) hl).trans h8⟩
theorem Y7.take {w:World} {A:Option Addr} {rs:List Sec} (h:Y7 w A rs) (k:Nat):Y7 w A (rs.take k):=fun i t ht=>by
 rw[List.getElem?_take] at ht
 split at ht
 ·exact h i t ht
 ·cases ht
theorem ZcC (f:Nat) (hcall:∀(args:Array Value) w,(callFunc f args).run Tryz.prog w=.ok (.enter f args) w) (p:Sec->Bool) (caps:Array Value) (A:Option Addr) (rs:List Sec) (n c:Nat) (w:World) (hn:rs.length=n) (hn2:n<=1000000000) (h:Y7 w A rs)
  (hp:∀x∈rs,∀w',Below w.heap.size w w'->Calls Tryz.prog f (#[.agg #[.string ⟨x.n.toArray⟩,.string ⟨x.w1.toArray⟩,.string ⟨x.w2.toArray⟩,.string ⟨x.r1.toArray⟩,.string ⟨x.r2.toArray⟩,.string ⟨x.b1.toArray⟩,.string ⟨x.b2.toArray⟩,.string ⟨x.c1.toArray⟩,.string ⟨x.c2.toArray⟩]]++caps) w' fun e w''=>e=.returned (.bool (p x))/\Below w'.heap.size w' w'') :
  Calls Tryz.prog 204 #[.slice A n c,.func (Fn.func f) #[] caps] w fun e w'=>e=.returned (.int .i64 (ZG p rs 0))/\Below w.heap.size w w':=by
 have HI:=Lh h;have HP:=Lh hp;have hn1:rs.length<=n:=by omega
 have hn3:n<=rs.length:=by omega
 obtain⟨Z,hZ⟩:∃Z,Z=ZG p rs 0:=⟨_,rfl⟩
 rw[<-hZ];have HZ:Hid (Z=ZG p (rs.drop 0) 0):=hZ;clear h hp hn hZ;go_enter Tryz.func204,Tryz.ntmps204;go_wp2_with fail
 go_loopw [8] (fun iv wr=>∃k:Nat,k<=n/\iv=.int .i64 (k:Int)/\Hid (Z=ZG p (rs.drop k) k)/\Below w.heap.size w wr) (fun iv _=>n-(intOf iv).toNat)
 case atStart=>exact⟨0,Nat.zero_le _,rfl,HZ.out,Below.refl _ _⟩
 case round=>
  clear HZ;obtain⟨k,hk,rfl,HK,hb⟩:=hrel
  by_cases hlt:k<n
  ·obtain⟨x,hx⟩:∃x,rs[k]?=some x:=⟨_,List.getElem?_eq_getElem (by omega)⟩
   obtain⟨b,o,rfl,hbs,p0,p1,p2,p3,p4,p5,p6,p7,p8⟩:=(HI.out.below hb) k x hx;have HD:=Lh (VX p rs k x hx);have CP:=Lh (HP.out x (Lm hx) wr hb);have e1:decide (k<n)=true:=Dt hlt;clear hx;go_wp2_with fail
   with_reducible refine CP.out.mono ?_
   rintro e w2 ⟨rfl,hb2⟩;replace hb:=bto hb hb2;clear hb2 CP p0 p1 p2 p3 p4 p5 p6 p7 p8
   by_cases hq:p x=true
   ·have HV:Hid (Z=(k:Int)):=by show _=_;rw[HK.out,HD.out,if_pos hq]
    rw[hq];clear hq HK HD;go_wp2;go_ret;exact⟨ZH HV.out.symm,hb⟩
   ·have HV:Hid (Z=ZG p (rs.drop (k+1)) (k+1)):=by show _=_;rw[HK.out,HD.out,if_neg hq]
    rw[Yc hq];clear hq HK HD;go_wp2;go_roundw
    case rel=>exact⟨k+1,by omega,by go_num,HV,hb⟩
    case measure=>simp[intOf];omega
  ·have HV:Hid (Z = -1):=by show _=_;rw[HK.out,List.drop_of_length_le (by omega)];rfl
   have e1:decide (k<n)=false:=Df hlt;clear HK;go_wp2;go_ret;exact⟨ZH HV.out.symm,hb⟩
theorem ZaW (f:Nat) (hcall:∀(args:Array Value) w,(callFunc f args).run Tryz.prog w=.ok (.enter f args) w) (p:Sec->Bool) (caps:Array Value) (A:Option Addr) (rs:List Sec) (n c:Nat) (w:World) (hn:rs.length=n) (hn2:n<=1000000000) (h:Y7 w A rs)
  (hp:∀x∈rs,∀w',Below w.heap.size w w'->Calls Tryz.prog f (#[.agg #[.string ⟨x.n.toArray⟩,.string ⟨x.w1.toArray⟩,.string ⟨x.w2.toArray⟩,.string ⟨x.r1.toArray⟩,.string ⟨x.r2.toArray⟩,.string ⟨x.b1.toArray⟩,.string ⟨x.b2.toArray⟩,.string ⟨x.c1.toArray⟩,.string ⟨x.c2.toArray⟩]]++caps) w' fun e w''=>e=.returned (.bool (p x))/\Below w'.heap.size w' w'') :
  Calls Tryz.prog 144 #[.slice A n c,.func (Fn.func f) #[] caps] w fun e w'=>e=.returned (.bool (rs.any p))/\Below w.heap.size w w':=by
 have C1:=Lh (ZcC f hcall p caps A rs n c w hn hn2 h hp);have HV:=Lh (SS p rs);generalize ZG p rs 0=z at *;clear hn h hp;go_enter Tryz.func144,Tryz.ntmps144;go_wp2_with fail;refine C1.out.mono ?_;rintro e w2 ⟨rfl,hb⟩
 by_cases g:0<=z
 ·have e1:decide (0<=z)=true:=Dt g;go_wp2;go_ret;exact⟨by rw[<-HV.out,e1];rfl,hb⟩
 ·have e1:decide (0<=z)=false:=Df g;go_wp2;go_ret;exact⟨by rw[<-HV.out,e1];rfl,hb⟩
abbrev Fp2:=List UInt8×List UInt8
def Po (w:World) (A:Option Addr) (rs:List Fp2):Prop:=∀(i:Nat) (r:Fp2),rs[i]?=some r->∃b o,A=some ⟨b,o,none⟩/\b<w.heap.size/\w.cell? ⟨b,o+i*2,none⟩=some (.string ⟨List.toArray r.1⟩)/\w.cell? ⟨b,o+i*2+1,none⟩=some (.string ⟨List.toArray r.2⟩)
theorem Po.below {w w':World} {A:Option Addr} {rs:List Fp2} (h:Po w A rs) (hb:Below w.heap.size w w'):Po w' A rs:=fun i t ht=>by
 obtain⟨b,o,hA,hl,h0,h1⟩:=h i t ht;exact⟨b,o,hA,Nat.lt_of_lt_of_le hl hb.size,(hb.cell (p:=⟨b,_,none⟩) hl).trans h0,(hb.cell (p:=⟨b,_,none⟩) hl).trans h1⟩
theorem ZcD (f:Nat) (hcall:∀(args:Array Value) w,(callFunc f args).run Tryz.prog w=.ok (.enter f args) w) (p:Fp2->Bool) (caps:Array Value) (A:Option Addr) (rs:List Fp2) (n c:Nat) (w:World) (hn:rs.length=n) (hn2:n<=1000000000) (h:Po w A rs)
  (hp:∀x∈rs,∀w',Below w.heap.size w w'->Calls Tryz.prog f (#[.agg #[.string ⟨List.toArray x.1⟩,.string ⟨List.toArray x.2⟩]]++caps) w' fun e w''=>e=.returned (.bool (p x))/\Below w'.heap.size w' w'') :
  Calls Tryz.prog 155 #[.slice A n c,.func (Fn.func f) #[] caps] w fun e w'=>e=.returned (.int .i64 (ZG p rs 0))/\Below w.heap.size w w':=by
 have HI:=Lh h;have HP:=Lh hp;have hn1:rs.length<=n:=by omega
 have hn3:n<=rs.length:=by omega
 obtain⟨Z,hZ⟩:∃Z,Z=ZG p rs 0:=⟨_,rfl⟩
 rw[<-hZ];have HZ:Hid (Z=ZG p (rs.drop 0) 0):=hZ;clear h hp hn hZ;go_enter Tryz.func155,Tryz.ntmps155;go_wp2_with fail
 go_loopw [8] (fun iv wr=>∃k:Nat,k<=n/\iv=.int .i64 (k:Int)/\Hid (Z=ZG p (rs.drop k) k)/\Below w.heap.size w wr) (fun iv _=>n-(intOf iv).toNat)
 case atStart=>exact⟨0,Nat.zero_le _,rfl,HZ.out,Below.refl _ _⟩
 case round=>
  clear HZ;obtain⟨k,hk,rfl,HK,hb⟩:=hrel
  by_cases hlt:k<n
  ·obtain⟨x,hx⟩:∃x,rs[k]?=some x:=⟨_,List.getElem?_eq_getElem (by omega)⟩
   obtain⟨b,o,rfl,hbs,p0,p1⟩:=(HI.out.below hb) k x hx;have HD:=Lh (VX p rs k x hx);have CP:=Lh (HP.out x (Lm hx) wr hb);have e1:decide (k<n)=true:=Dt hlt;clear hx;go_wp2_with fail
   with_reducible refine CP.out.mono ?_
   rintro e w2 ⟨rfl,hb2⟩;replace hb:=bto hb hb2;clear hb2 CP p0 p1
   by_cases hq:p x=true
   ·have HV:Hid (Z=(k:Int)):=by show _=_;rw[HK.out,HD.out,if_pos hq]
    rw[hq];clear hq HK HD;go_wp2;go_ret;exact⟨ZH HV.out.symm,hb⟩
   ·have HV:Hid (Z=ZG p (rs.drop (k+1)) (k+1)):=by show _=_;rw[HK.out,HD.out,if_neg hq]
    rw[Yc hq];clear hq HK HD;go_wp2;go_roundw
    case rel=>exact⟨k+1,by omega,by go_num,HV,hb⟩
    case measure=>simp[intOf];omega
  ·have HV:Hid (Z = -1):=by show _=_;rw[HK.out,List.drop_of_length_le (by omega)];rfl
   have e1:decide (k<n)=false:=Df hlt;clear HK;go_wp2;go_ret;exact⟨ZH HV.out.symm,hb⟩
theorem Cv (f:Nat) (hcall:∀(args:Array Value) w,(callFunc f args).run Tryz.prog w=.ok (.enter f args) w) (p:Fp2->Bool) (caps:Array Value) (A:Option Addr) (rs:List Fp2) (n c:Nat) (w:World) (hn:rs.length=n) (hn2:n<=1000000000) (h:Po w A rs)
  (hp:∀x∈rs,∀w',Below w.heap.size w w'->Calls Tryz.prog f (#[.agg #[.string ⟨List.toArray x.1⟩,.string ⟨List.toArray x.2⟩]]++caps) w' fun e w''=>e=.returned (.bool (p x))/\Below w'.heap.size w' w'') :
  Calls Tryz.prog 81 #[.slice A n c,.func (Fn.func f) #[] caps] w fun e w'=>e=.returned (.bool (rs.any p))/\Below w.heap.size w w':=by
 have C1:=Lh (ZcD f hcall p caps A rs n c w hn hn2 h hp);have HV:=Lh (SS p rs);generalize ZG p rs 0=z at *;clear hn h hp;go_enter Tryz.func81,Tryz.ntmps81;go_wp2_with fail;refine C1.out.mono ?_;rintro e w2 ⟨rfl,hb⟩
 by_cases g:0<=z
 ·have e1:decide (0<=z)=true:=Dt g;go_wp2;go_ret;exact⟨by rw[<-HV.out,e1];rfl,hb⟩
 ·have e1:decide (0<=z)=false:=Df g;go_wp2;go_ret;exact⟨by rw[<-HV.out,e1];rfl,hb⟩
def VD (r:Fp2):Bool:=decide (12<r.1.length)||decide (12<r.2.length)
theorem Qd {r:Fp2} (h:VD r=false):r.1.length<=12/\r.2.length<=12:=by
 unfold VD at h;simp at h;omega
theorem ZbS (x:Fp2) (w:World):Calls Tryz.prog 205 (#[.agg #[.string ⟨List.toArray x.1⟩,.string ⟨List.toArray x.2⟩]]++#[]) w fun e w''=>e=.returned (.bool (VD x))/\Below w.heap.size w w'':=by
 have hb:=Zb w (.cells #[.string ⟨List.toArray x.1⟩,.string ⟨List.toArray x.2⟩] 34);have x1:=Z0.new w (.string ⟨List.toArray x.1⟩) (.string ⟨List.toArray x.2⟩) 34;have q0:=x1.c0;have q1:=x1.c1;show Calls Tryz.prog 205 #[.agg #[.string ⟨List.toArray x.1⟩,.string ⟨List.toArray x.2⟩]] w _
 by_cases g1:12<x.1.length
 ·have e1:decide (12<x.1.length)=true:=Dt g1;have e2:decide ((12:Int)<(x.1.length:Int))=true:=Dt (by omega)
  have HV:Hid (VD x=true):=by unfold VD;show _=_;rw[e1];rfl
  clear g1;go_enter Tryz.func205,Tryz.ntmps205;go_wp2;go_ret;exact⟨by rw[HV.out];rfl,hb⟩
 have e1:decide (12<x.1.length)=false:=Df g1;have e2:decide ((12:Int)<(x.1.length:Int))=false:=Df (by omega)
 have HV:Hid (VD x=decide (12<x.2.length)):=by unfold VD;show _=_;rw[e1];rfl
 clear g1
 by_cases g2:12<x.2.length
 ·have e3:decide (12<x.2.length)=true:=Dt g2;have e4:decide ((12:Int)<(x.2.length:Int))=true:=Dt (by omega)
  clear g2;go_enter Tryz.func205,Tryz.ntmps205;go_wp2;go_ret;exact⟨by rw[HV.out,e3];rfl,hb⟩
 have e3:decide (12<x.2.length)=false:=Df g2;have e4:decide ((12:Int)<(x.2.length:Int))=false:=Df (by omega)
 clear g2;go_enter Tryz.func205,Tryz.ntmps205;go_wp2;go_ret;exact⟨by rw[HV.out,e3];rfl,hb⟩
theorem Fz (args:Array Value) (w:World):(callFunc 205 args).run Tryz.prog w=.ok (.enter 205 args) w:=by kernel_rfl
theorem ZbT {A:Option Addr} {rs:List Fp2} {n:Nat} (c:Nat) {w:World} (hn:rs.length=n) (hn2:n<=1000000000) (h:Po w A rs) :
  Calls Tryz.prog 146 #[.slice A n c] w fun e w'=>e=.returned (.bool (rs.any VD))/\Below w.heap.size w w':=by
 have C1:=Lh (Cv _ Fz VD #[] A rs n c w hn hn2 h (fun x _ w' _=>ZbS x w'))
 clear hn h;generalize rs.any VD=q at *;go_enter Tryz.func146,Tryz.ntmps146;go_wp2_with fail
 with_reducible refine C1.out.mono ?_
 rintro e w2 ⟨rfl,hb⟩;clear C1;go_wp2;go_ret;exact⟨rfl,hb⟩
def Pp (x:Sec):Bool:=decide (20<x.n.length)||[(x.w1,x.w2),(x.r1,x.r2),(x.b1,x.b2),(x.c1,x.c2)].any VD
theorem ZcE (x:Sec) (w:World):Calls Tryz.prog 145 (#[.agg #[.string ⟨x.n.toArray⟩,.string ⟨x.w1.toArray⟩,.string ⟨x.w2.toArray⟩,.string ⟨x.r1.toArray⟩,.string ⟨x.r2.toArray⟩,.string ⟨x.b1.toArray⟩,.string ⟨x.b2.toArray⟩,.string ⟨x.c1.toArray⟩,.string ⟨x.c2.toArray⟩]]++#[]) w fun e w''=>e=.returned (.bool (Pp x))/\Below w.heap.size w w'':=by
 have hb:=Zb w (.cells #[.string ⟨x.n.toArray⟩,.string ⟨x.w1.toArray⟩,.string ⟨x.w2.toArray⟩,.string ⟨x.r1.toArray⟩,.string ⟨x.r2.toArray⟩,.string ⟨x.b1.toArray⟩,.string ⟨x.b2.toArray⟩,.string ⟨x.c1.toArray⟩,.string ⟨x.c2.toArray⟩] 231);show Calls Tryz.prog 145 #[.agg #[.string ⟨x.n.toArray⟩,.string ⟨x.w1.toArray⟩,.string ⟨x.w2.toArray⟩,.string ⟨x.r1.toArray⟩,.string ⟨x.r2.toArray⟩,.string ⟨x.b1.toArray⟩,.string ⟨x.b2.toArray⟩,.string ⟨x.c1.toArray⟩,.string ⟨x.c2.toArray⟩]] w _
 by_cases g1:20<x.n.length
 ·have e1:decide (20<x.n.length)=true:=Dt g1;have e2:decide ((20:Int)<(x.n.length:Int))=true:=Dt (by omega)
  have HV:Hid (Pp x=true):=by unfold Pp;show _=_;rw[e1];rfl
  clear g1;go_enter Tryz.func145,Tryz.ntmps145;go_wp2;go_ret;exact⟨Ya HV.out.symm,hb⟩
 have e1:decide (20<x.n.length)=false:=Df g1;have e2:decide ((20:Int)<(x.n.length:Int))=false:=Df (by omega)
 have HV:Hid (Pp x=[(x.w1,x.w2),(x.r1,x.r2),(x.b1,x.b2),(x.c1,x.c2)].any VD):=by unfold Pp;show _=_;rw[e1];rfl
 obtain⟨k1,k2,k3,k4⟩:=Xi w (.cells #[.string ⟨x.n.toArray⟩,.string ⟨x.w1.toArray⟩,.string ⟨x.w2.toArray⟩,.string ⟨x.r1.toArray⟩,.string ⟨x.r2.toArray⟩,.string ⟨x.b1.toArray⟩,.string ⟨x.b2.toArray⟩,.string ⟨x.c1.toArray⟩,.string ⟨x.c2.toArray⟩] 231) (.cells #[.string ⟨x.w1.toArray⟩,.string ⟨x.w2.toArray⟩,.string ⟨x.r1.toArray⟩,.string ⟨x.r2.toArray⟩,.string ⟨x.b1.toArray⟩,.string ⟨x.b2.toArray⟩,.string ⟨x.c1.toArray⟩,.string ⟨x.c2.toArray⟩] 34);obtain⟨W,hW⟩:∃W,W=(w.alloc (.cells #[.string ⟨x.n.toArray⟩,.string ⟨x.w1.toArray⟩,.string ⟨x.w2.toArray⟩,.string ⟨x.r1.toArray⟩,.string ⟨x.r2.toArray⟩,.string ⟨x.b1.toArray⟩,.string ⟨x.b2.toArray⟩,.string ⟨x.c1.toArray⟩,.string ⟨x.c2.toArray⟩] 231)).alloc (.cells #[.string ⟨x.w1.toArray⟩,.string ⟨x.w2.toArray⟩,.string ⟨x.r1.toArray⟩,.string ⟨x.r2.toArray⟩,.string ⟨x.b1.toArray⟩,.string ⟨x.b2.toArray⟩,.string ⟨x.c1.toArray⟩,.string ⟨x.c2.toArray⟩] 34):=⟨_,rfl⟩
 rw[<-hW] at k1 k2 k3 k4;have hat:Po W (some ⟨w.heap.size+1,0,none⟩) [(x.w1,x.w2),(x.r1,x.r2),(x.b1,x.b2),(x.c1,x.c2)]:=fun i r hr=>by
  refine⟨_,_,rfl,by omega,?_⟩
  match i,hr with
  | 0,hr=>cases hr;exact⟨Zg k2 0,Zg k2 1⟩
  | 1,hr=>cases hr;exact⟨Zg k2 2,Zg k2 3⟩
  | 2,hr=>cases hr;exact⟨Zg k2 4,Zg k2 5⟩
  | 3,hr=>cases hr;exact⟨Zg k2 6,Zg k2 7⟩
  | i+4,hr=>cases hr
 have C1:=Lh (ZbT (n:=4) 4 rfl (by decide) hat)
 have HW:=Lh hW;have HB:=Lh k3;generalize Pp x=R at *;generalize [(x.w1,x.w2),(x.r1,x.r2),(x.b1,x.b2),(x.c1,x.c2)].any VD=q at *;clear hW k1 k2 k3 k4 hat g1 hb;go_enter Tryz.func145,Tryz.ntmps145;go_wp2_with fail;rw[<-HW.out]
 with_reducible refine C1.out.mono ?_
 rintro e w2 ⟨rfl,hb⟩;clear C1 HW;go_wp2;go_ret;exact⟨Ya HV.out.symm,bto HB.out hb⟩
theorem FA (args:Array Value) (w:World):(callFunc 145 args).run Tryz.prog w=.ok (.enter 145 args) w:=by kernel_rfl
def grS (xs:List Sec):Bool:=(decide (5<xs.length)&&decide (xs.length<=32))||(decide (34<xs.length)||xs.any Pp)
theorem Zar {A:Option Addr} {xs:List Sec} {n:Nat} (c:Nat) {w:World} (hn:xs.length=n) (hn2:n<=9223372036854775807) (h:Y7 w A xs) :
  Calls Tryz.prog 71 #[.slice A n c] w fun e w'=>e=.returned (.bool (grS xs))/\Below w.heap.size w w':=by
 have C1:=Lh (fun (hh:n<=34)=>ZaW _ FA Pp #[] A xs n c w hn (by omega) h (fun x _ w' _=>ZcE x w'))
 have HV:Hid (grS xs=((decide (5<n)&&decide (n<=32))||(decide (34<n)||xs.any Pp))):=by unfold grS;show _=_;rw[hn]
 have hb:=Below.refl w.heap.size w;clear hn h;generalize grS xs=R at *;generalize xs.any Pp=q at *
 by_cases h5:5<n
 ·by_cases h32:n<=32
  ·have HV2:Hid (R=true):=by show _=_;rw[HV.out,Dt h5,Dt h32];rfl
   have e1:decide ((5:Int)<(n:Int))=true:=Dt (by omega)
   have e2:decide ((n:Int)<=32)=true:=Dt (by omega)
   clear HV C1;go_enter Tryz.func71,Tryz.ntmps71;go_wp2;go_ret;exact⟨Ya HV2.out.symm,hb⟩
  have e1:decide ((5:Int)<(n:Int))=true:=Dt (by omega)
  have e2:decide ((n:Int)<=32)=false:=Df (by omega)
  by_cases h34:34<n
  ·have HV2:Hid (R=true):=by show _=_;rw[HV.out,Dt h34,Bool.true_or,Bool.or_true]
   have e3:decide ((34:Int)<(n:Int))=true:=Dt (by omega)
   clear HV C1;go_enter Tryz.func71,Tryz.ntmps71;go_wp2;go_ret;exact⟨Ya HV2.out.symm,hb⟩
  have HV2:Hid (R=q):=by show _=_;rw[HV.out,Df h34,Df h32,Bool.and_false,Bool.false_or,Bool.false_or]
  have e3:decide ((34:Int)<(n:Int))=false:=Df (by omega)
  clear HV;go_enter Tryz.func71,Tryz.ntmps71;go_wp2_with fail
  with_reducible refine (C1.out (by omega)).mono ?_
  rintro e w2 ⟨rfl,hb2⟩;clear C1;go_wp2;go_ret;exact⟨Ya HV2.out.symm,hb2⟩
 have e1:decide ((5:Int)<(n:Int))=false:=Df (by omega)
 have e3:decide ((34:Int)<(n:Int))=false:=Df (by omega)
 have HV2:Hid (R=q):=by show _=_;rw[HV.out,Df h5,Df (show ¬34<n by omega),Bool.false_and,Bool.false_or,Bool.false_or]
 clear HV;go_enter Tryz.func71,Tryz.ntmps71;go_wp2_with fail
 with_reducible refine (C1.out (by omega)).mono ?_
 rintro e w2 ⟨rfl,hb2⟩;clear C1;go_wp2;go_ret;exact⟨Ya HV2.out.symm,hb2⟩
theorem Zas {A:Option Addr} {xs:List Sec} {n:Nat} (c:Nat) {w:World} (hn:xs.length=n) (hn2:n<=9223372036854775807) (h:Y7 w A xs) :
  Calls Tryz.prog 27 #[.slice A n c] w fun e w'=>e=.returned (.bool (!grS xs))/\Below w.heap.size w w':=by
 have C1:=Lh (Zar c hn hn2 h);clear hn h;generalize grS xs=q at *;go_enter Tryz.func27,Tryz.ntmps27;go_wp2_with fail
 with_reducible refine C1.out.mono ?_
 rintro e w2 ⟨rfl,hb⟩;clear C1;go_wp2;go_ret;exact⟨rfl,hb⟩
def TX (w:World) (A:Option Addr) (ps:List (List Sec)):Prop:=∀(i:Nat) (xs:List Sec),ps[i]?=some xs->∃b o A1 c1,A=some ⟨b,o,none⟩/\b<w.heap.size/\w.cell? ⟨b,o+i,none⟩=some (.slice A1 xs.length c1)/\xs.length<=c1/\Y7 w A1 xs
theorem TX.below {w w':World} {A:Option Addr} {ps:List (List Sec)} (h:TX w A ps) (hb:Below w.heap.size w w'):TX w' A ps:=fun i x hx=>by
 obtain⟨b,o,A1,c1,hA,hl,h0,hc,h1⟩:=h i x hx;exact⟨b,o,A1,c1,hA,Nat.lt_of_lt_of_le hl hb.size,(hb.cell (p:=⟨b,_,none⟩) hl).trans h0,hc,h1.below hb⟩
theorem Zde {A:Option Addr} {xs:List Sec} {n:Nat} (c:Nat) {w:World} (hn:xs.length=n) (hn2:n<=9223372036854775807) (h:Y7 w A xs) :
  Calls Tryz.prog 26 #[.slice A n c] w fun e w'=>e=.returned (.bool (grS xs))/\Below w.heap.size w w':=by
 have C1:=Lh (Zas c hn hn2 h);clear hn h;generalize grS xs=q at *;go_enter Tryz.func26,Tryz.ntmps26;go_wp2_with fail
 with_reducible refine C1.out.mono ?_
 rintro e w2 ⟨rfl,hb⟩;clear C1;go_wp2;go_ret;exact⟨rfl,hb⟩
theorem FB (args:Array Value) (w:World):(callFunc 26 args).run Tryz.prog w=.ok (.enter 26 args) w:=by kernel_rfl
theorem ZcF (f:Nat) (hcall:∀(args:Array Value) w,(callFunc f args).run Tryz.prog w=.ok (.enter f args) w) (p:(List Sec)->Bool) (A:Option Addr) (rs:List (List Sec)) (n c:Nat) (w:World) (hn:rs.length=n) (hn2:n<=1000000000) (h:TX w A rs)
  (hp:∀x∈rs,∀A1 c1 w',Y7 w' A1 x->Calls Tryz.prog f #[.slice A1 x.length c1] w' fun e w''=>e=.returned (.bool (p x))/\Below w'.heap.size w' w'') :
  Calls Tryz.prog 70 #[.slice A n c,.func (Fn.func f) #[] #[]] w fun e w'=>e=.returned (.int .i64 (ZG p rs 0))/\Below w.heap.size w w':=by
 have HI:=Lh h;have HP:=Lh hp;have hn1:rs.length<=n:=by omega
 have hn3:n<=rs.length:=by omega
 obtain⟨Z,hZ⟩:∃Z,Z=ZG p rs 0:=⟨_,rfl⟩
 rw[<-hZ];have HZ:Hid (Z=ZG p (rs.drop 0) 0):=hZ;clear h hp hn hZ;go_enter Tryz.func70,Tryz.ntmps70;go_wp2_with fail
 go_loopw [8] (fun iv wr=>∃k:Nat,k<=n/\iv=.int .i64 (k:Int)/\Hid (Z=ZG p (rs.drop k) k)/\Below w.heap.size w wr) (fun iv _=>n-(intOf iv).toNat)
 case atStart=>exact⟨0,Nat.zero_le _,rfl,HZ.out,Below.refl _ _⟩
 case round=>
  clear HZ;obtain⟨k,hk,rfl,HK,hb⟩:=hrel
  by_cases hlt:k<n
  ·obtain⟨x,hx⟩:∃x,rs[k]?=some x:=⟨_,List.getElem?_eq_getElem (by omega)⟩
   obtain⟨b,o,A1,c1,rfl,hbs,p0,hc1,p1⟩:=(HI.out.below hb) k x hx;have HD:=Lh (VX p rs k x hx);have CP:=Lh (HP.out x (Lm hx) A1 c1 wr p1);have e1:decide (k<n)=true:=Dt hlt;clear hx;go_wp2_with fail
   with_reducible refine CP.out.mono ?_
   rintro e w2 ⟨rfl,hb2⟩;replace hb:=bto hb hb2;clear hb2 CP p0 p1 hc1
   by_cases hq:p x=true
   ·have HV:Hid (Z=(k:Int)):=by show _=_;rw[HK.out,HD.out,if_pos hq]
    rw[hq];clear hq HK HD;go_wp2;go_ret;exact⟨ZH HV.out.symm,hb⟩
   ·have HV:Hid (Z=ZG p (rs.drop (k+1)) (k+1)):=by show _=_;rw[HK.out,HD.out,if_neg hq]
    rw[Yc hq];clear hq HK HD;go_wp2;go_roundw
    case rel=>exact⟨k+1,by omega,by go_num,HV,hb⟩
    case measure=>simp[intOf];omega
  ·have HV:Hid (Z = -1):=by show _=_;rw[HK.out,List.drop_of_length_le (by omega)];rfl
   have e1:decide (k<n)=false:=Df hlt;clear HK;go_wp2;go_ret;exact⟨ZH HV.out.symm,hb⟩
theorem ZcG {A:Option Addr} {rs:List (List Sec)} {n:Nat} (c:Nat) {w:World} (hn:rs.length=n) (hn2:n<=1000000000) (h:TX w A rs) (hs:∀x∈rs,x.length<=9223372036854775807) :
  Calls Tryz.prog 25 #[.slice A n c,.func (Fn.func 26) #[] #[]] w fun e w'=>e=.returned (.bool (rs.any grS))/\Below w.heap.size w w':=by
 have C1:=Lh (ZcF _ FB grS A rs n c w hn hn2 h (fun x hx A1 c1 w' h1=>Zde c1 rfl (hs x hx) h1))
 have HV:=Lh (SS grS rs);generalize ZG grS rs 0=z at *;clear hn h hs;go_enter Tryz.func25,Tryz.ntmps25;go_wp2_with fail
 with_reducible refine C1.out.mono ?_
 rintro e w2 ⟨rfl,hb⟩
 by_cases g:0<=z
 ·have e1:decide (0<=z)=true:=Dt g;go_wp2;go_ret;exact⟨by rw[<-HV.out,e1];rfl,hb⟩
 ·have e1:decide (0<=z)=false:=Df g;go_wp2;go_ret;exact⟨by rw[<-HV.out,e1];rfl,hb⟩
end Go.Proofs.YtpieeldbamklkaaGreatDoor
