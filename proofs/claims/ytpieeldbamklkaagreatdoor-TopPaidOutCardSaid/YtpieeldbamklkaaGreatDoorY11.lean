/- Texts put together: Pd Pe Pf Za Pg Ph Pi Pj Pk Pl Re Aa Rx Pm. -/
import Derived.Test.YtpieeldbamklkaaGreatDoorY10
set_option maxHeartbeats 16000000
set_option maxRecDepth 100000
open Go.Proofs.Tryz
namespace Go.Proofs.YtpieeldbamklkaaGreatDoor
open Go.RowKit Go.Shelf Num
structure SI (N:Nat) (X Y:Value) (p:Nat) (b:Bool) (a:Act):Prop where
 sz:a.tmps.size=N
 e2:a.eval (.tmp 2)=X
 e3:a.eval (.tmp 3)=Y
 ep:a.eval (.tmp p)=.bool b
 df:a.defers=[]
theorem J0 {a:Act} {d t:Nat} {v:Value} (h:d<a.tmps.size):(a.put (some d) v).eval (.tmp t)=if t=d then v else a.eval (.tmp t):=by
 show (a.tmps.setIfInBounds d v).getD t undef=if t=d then v else a.tmps.getD t undef
 rw[Array.getD_eq_getD_getElem?,Array.getD_eq_getD_getElem?,Array.getElem?_setIfInBounds]
 by_cases e:d=t
 ·subst e;simp[h]
 ·rw[if_neg e,if_neg (Ne.symm e)]
theorem Ue (a:Act) (d:Nat) (v:Value):(a.put (some d) v).tmps.size=a.tmps.size:=Array.size_setIfInBounds
section
variable {P:Program} {ops:Array Oper} {Q:Exit->Act->World->Prop} {rest:List Oper}
theorem Wl {o:Oper} {a:Act} {w:World} {d:Nat} {v:Value} (hw:Region.wanted o (yielded ops a.tmps)=true) (hd:o.dst=some d) (h:(execOp a.eval o).run P w=.ok (.value v) w) (hn:wpList P ops Q rest (a.put (some d) v) w):wpList P ops Q (o::rest) a w:=by
 show (if _ then _ else _)
 rw[if_pos hw];refine .inl ?_;unfold Oper.wp;rw[h,Oper.upon_value,hd];exact hn
theorem LR {o:Oper} {a:Act} {w:World} {d:Nat} (hw:Region.wanted o (yielded ops a.tmps)=false) (hd:o.dst=some d) (hn:wpList P ops Q rest (a.put (some d) undef) w):wpList P ops Q (o::rest) a w:=by
 show (if _ then _ else _)
 rw[if_neg (by rw[hw];exact Bool.false_ne_true),hd]
 exact hn
theorem yl {a:Act} {j m:Nat} {o:Oper} {b:Bool} (hj:ops[j]?=some o) (hd:o.dst=some m) (he:a.eval (.tmp m)=.bool b):yielded ops a.tmps j=some b:=by
 unfold yielded;rw[hj];show (match (o.dst).bind (a.tmps[·]?) with|some (.bool b)=>some b|_=>none)=_
 rw[hd];show (match a.tmps[m]? with|some (.bool b)=>some b|_=>none)=_
 replace he:(a.tmps[m]?).getD undef=.bool b:=by rw[<-Array.getD_eq_getD_getElem?];exact he
 cases h:a.tmps[m]? with
 | none=>rw[h] at he;cases he
 | some v=>rw[h] at he;replace he:v=.bool b:=he;subst he;rfl
theorem wnt {o:Oper} {a:Act} {j m:Nat} {o1:Oper} {b:Bool} (hg:o.guard=some (j,true)) (hj:ops[j]?=some o1) (hd:o1.dst=some m) (he:a.eval (.tmp m)=.bool b):Region.wanted o (yielded ops a.tmps)=b:=by
 unfold Region.wanted;rw[hg];show (yielded ops a.tmps j==some true)=b;rw[yl hj hd he];cases b<;>rfl
theorem wn0 {o:Oper} {a:Act} (hg:o.guard=none):Region.wanted o (yielded ops a.tmps)=true:=by unfold Region.wanted;rw[hg]
theorem WH {a:Act} {w:World} {N:Nat} {X Y:Value} (p j:Nat) {b:Bool} {o1 o2 o3 o4 o5 o6 o7:Oper} {u1 u2 v1 v2:Value} (S:SI N X Y p b a) (hp:3<p) (hN:p+7<N)
  (hd:o1.dst=some (p+1)/\o2.dst=some (p+2)/\o3.dst=some (p+3)/\o4.dst=some (p+4)/\o5.dst=some (p+5)/\o6.dst=some (p+6)/\o7.dst=some (p+7))
  (hg:o1.guard=none/\o2.guard=some (j,true)/\o3.guard=some (j,true)/\o4.guard=some (j,true)/\o5.guard=some (j,true)/\o6.guard=some (j,true)/\o7.guard=none) (hj:ops[j]?=some o1)
  (h1:∀(a:Act),a.eval (.tmp p)=.bool b->(execOp a.eval o1).run P w=.ok (.value (.bool b)) w)
  (h2:∀(a:Act),a.eval (.tmp 2)=X->(execOp a.eval o2).run P w=.ok (.value u1) w)
  (h3:∀(a:Act),a.eval (.tmp (p+2))=u1->(execOp a.eval o3).run P w=.ok (.value v1) w)
  (h4:∀(a:Act),a.eval (.tmp 3)=Y->(execOp a.eval o4).run P w=.ok (.value u2) w)
  (h5:∀(a:Act),a.eval (.tmp (p+4))=u2->(execOp a.eval o5).run P w=.ok (.value v2) w)
  (h6:∀(a:Act) (K:Act->World->Prop),a.eval (.tmp (p+3))=v1->a.eval (.tmp (p+5))=v2->(∀b' w',Below w.heap.size w w'->K (a.put (some (p+6)) (.bool b')) w')->o6.wp P a w K Q)
  (h7:∀(a:Act) (w':World) (d:Value),a.eval (.tmp (p+1))=.bool b->a.eval (.tmp (p+6))=d->(execOp a.eval o7).run P w'=.ok (.value (bif b then d else .bool false)) w')
  (hn:∀a' b' w',Below w.heap.size w w'->SI N X Y (p+7) b' a'->wpList P ops Q rest a' w'):wpList P ops Q (o1::o2::o3::o4::o5::o6::o7::rest) a w:=by
 obtain⟨d1,d2,d3,d4,d5,d6,d7⟩:=hd;obtain⟨g1,g2,g3,g4,g5,g6,g7⟩:=hg;have E:∀(a:Act),a.tmps.size=N->∀(i t:Nat) (v:Value),i<=7->(a.put (some (p+i)) v).eval (.tmp t)=if t=p+i then v else a.eval (.tmp t):=fun a h i t v hi=>J0 (by omega)
 have T:∀(a:Act),a.tmps.size=N->∀(i:Nat) (v:Value),(a.put (some (p+i)) v).tmps.size=N:=fun a h i v=>(Ue _ _ _).trans h
 obtain⟨sz,e2,e3,ep,df⟩:=S;refine Wl (wn0 g1) d1 (h1 _ ep) ?_;cases b with
 | true=>
  refine Wl (wnt g2 hj d1 (by rw[E _ sz _ _ _ (by decide),if_pos rfl])) d2 (h2 _ (by rw[E _ sz _ _ _ (by decide),if_neg (by omega)];exact e2)) ?_
  have z1:=T _ sz 1 (.bool true);have k2:((a.put (some (p+1)) (.bool true)).eval (.tmp 2)=X/\(a.put (some (p+1)) (.bool true)).eval (.tmp 3)=Y/\(a.put (some (p+1)) (.bool true)).eval (.tmp (p+1))=.bool true):=⟨by rw[E _ sz _ _ _ (by decide),if_neg (by omega)];exact e2,by rw[E _ sz _ _ _ (by decide),if_neg (by omega)];exact e3,by rw[E _ sz _ _ _ (by decide),if_pos rfl]⟩
  have q1:(a.put (some (p+1)) (.bool true)).defers=[]:=df;generalize a.put (some (p+1)) (.bool true)=a1 at z1 k2 q1 ⊢;clear e2 e3 ep df;have step:∀(a1:Act) (i:Nat) (v:Value),a1.tmps.size=N->2<=i->i<=6->(a1.eval (.tmp 2)=X/\a1.eval (.tmp 3)=Y/\a1.eval (.tmp (p+1))=.bool true)->a1.defers=[]->(((a1.put (some (p+i)) v).eval (.tmp 2)=X/\(a1.put (some (p+i)) v).eval (.tmp 3)=Y/\(a1.put (some (p+i)) v).eval (.tmp (p+1))=.bool true)/\(a1.put (some (p+i)) v).defers=[]/\(a1.put (some (p+i)) v).tmps.size=N/\(a1.put (some (p+i)) v).eval (.tmp (p+i))=v/\∀k,k<i->(a1.put (some (p+i)) v).eval (.tmp (p+k))=a1.eval (.tmp (p+k))):=by
   intro a1 i v z hi hi2 ⟨x,y,t⟩ q;refine⟨⟨?_,?_,?_⟩,q,T _ z _ _,?_,fun k hk=>?_⟩
   ·rw[E _ z _ _ _ (by omega),if_neg (by omega)];exact x
   ·rw[E _ z _ _ _ (by omega),if_neg (by omega)];exact y
   ·rw[E _ z _ _ _ (by omega),if_neg (by omega)];exact t
   ·rw[E _ z _ _ _ (by omega),if_pos rfl]
   ·rw[E _ z _ _ _ (by omega),if_neg (by omega)]
  obtain⟨k3,q2,z2,t2,-⟩:=step a1 2 u1 z1 (by decide) (by decide) k2 q1
  generalize a1.put (some (p+2)) u1=a2 at k3 q2 z2 t2 ⊢;refine Wl (wnt g3 hj d1 k3.2.2) d3 (h3 _ t2) ?_;obtain⟨k4,q3,z3,t3,-⟩:=step a2 3 v1 z2 (by decide) (by decide) k3 q2
  generalize a2.put (some (p+3)) v1=a3 at k4 q3 z3 t3 ⊢;refine Wl (wnt g4 hj d1 k4.2.2) d4 (h4 _ k4.2.1) ?_;obtain⟨k5,q4,z4,t4,r4⟩:=step a3 4 u2 z3 (by decide) (by decide) k4 q3
  replace t3:=(r4 3 (by decide)).trans t3
  clear r4;generalize a3.put (some (p+4)) u2=a4 at k5 q4 z4 t4 t3 ⊢;refine Wl (wnt g5 hj d1 k5.2.2) d5 (h5 _ t4) ?_;obtain⟨k6,q5,z5,t5,r5⟩:=step a4 5 v2 z4 (by decide) (by decide) k5 q4
  replace t3:=(r5 3 (by decide)).trans t3
  clear r5;generalize a4.put (some (p+5)) v2=a5 at k6 q5 z5 t5 t3 ⊢;show (if _ then _ else _)
  rw[if_pos (wnt g6 hj d1 k6.2.2)];refine .inl (h6 _ _ t3 t5 (fun b' w' hb=>?_))
  obtain⟨k7,q6,z6,t6,-⟩:=step a5 6 (.bool b') z5 (by decide) (by decide) k6 q5
  generalize a5.put (some (p+6)) (.bool b')=a6 at k7 q6 z6 t6 ⊢;refine Wl (wn0 g7) d7 (h7 _ _ _ k7.2.2 t6) (hn _ b' _ hb ⟨T _ z6 _ _,?_,?_,?_,q6⟩)
  ·rw[E _ z6 _ _ _ (by omega),if_neg (by omega)];exact k7.1
  ·rw[E _ z6 _ _ _ (by omega),if_neg (by omega)];exact k7.2.1
  ·rw[E _ z6 _ _ _ (by omega),if_pos rfl];rfl
 | false=>
  have hf:∀(a1:Act) (i:Nat) (v:Value),a1.tmps.size=N->2<=i->i<=6->(a1.eval (.tmp 2)=X/\a1.eval (.tmp 3)=Y/\a1.eval (.tmp (p+1))=.bool false/\a1.defers=[])->(((a1.put (some (p+i)) v).eval (.tmp 2)=X/\(a1.put (some (p+i)) v).eval (.tmp 3)=Y/\(a1.put (some (p+i)) v).eval (.tmp (p+1))=.bool false/\(a1.put (some (p+i)) v).defers=[])/\(a1.put (some (p+i)) v).tmps.size=N):=by
   intro a1 i v z hi hi2 ⟨x,y,t,q⟩;refine⟨⟨?_,?_,?_,q⟩,T _ z _ _⟩
   ·rw[E _ z _ _ _ (by omega),if_neg (by omega)];exact x
   ·rw[E _ z _ _ _ (by omega),if_neg (by omega)];exact y
   ·rw[E _ z _ _ _ (by omega),if_neg (by omega)];exact t
  have k1:((a.put (some (p+1)) (.bool false)).eval (.tmp 2)=X/\(a.put (some (p+1)) (.bool false)).eval (.tmp 3)=Y/\(a.put (some (p+1)) (.bool false)).eval (.tmp (p+1))=.bool false/\(a.put (some (p+1)) (.bool false)).defers=[]):=⟨by rw[E _ sz _ _ _ (by decide),if_neg (by omega)];exact e2,by rw[E _ sz _ _ _ (by decide),if_neg (by omega)];exact e3,by rw[E _ sz _ _ _ (by decide),if_pos rfl],df⟩
  have z1:=T _ sz 1 (.bool false);generalize a.put (some (p+1)) (.bool false)=a1 at z1 k1 ⊢;refine LR (wnt g2 hj d1 k1.2.2.1) d2 ?_;obtain⟨k2,z2⟩:=hf a1 2 undef z1 (by decide) (by decide) k1
  generalize a1.put (some (p+2)) undef=a2 at z2 k2 ⊢;refine LR (wnt g3 hj d1 k2.2.2.1) d3 ?_;obtain⟨k3,z3⟩:=hf a2 3 undef z2 (by decide) (by decide) k2
  generalize a2.put (some (p+3)) undef=a3 at z3 k3 ⊢;refine LR (wnt g4 hj d1 k3.2.2.1) d4 ?_;obtain⟨k4,z4⟩:=hf a3 4 undef z3 (by decide) (by decide) k3
  generalize a3.put (some (p+4)) undef=a4 at z4 k4 ⊢;refine LR (wnt g5 hj d1 k4.2.2.1) d5 ?_;obtain⟨k5,z5⟩:=hf a4 5 undef z4 (by decide) (by decide) k4
  generalize a4.put (some (p+5)) undef=a5 at z5 k5 ⊢;refine LR (wnt g6 hj d1 k5.2.2.1) d6 ?_;obtain⟨k6,z6⟩:=hf a5 6 undef z5 (by decide) (by decide) k5
  generalize a5.put (some (p+6)) undef=a6 at z6 k6 ⊢;refine Wl (wn0 g7) d7 (h7 _ _ _ k6.2.2.1 rfl) (hn _ false _ (Below.refl _ _) ⟨T _ z6 _ _,?_,?_,?_,k6.2.2.2⟩)
  ·rw[E _ z6 _ _ _ (by omega),if_neg (by omega)];exact k6.1
  ·rw[E _ z6 _ _ _ (by omega),if_neg (by omega)];exact k6.2.1
  ·rw[E _ z6 _ _ _ (by omega),if_pos rfl];rfl
end
theorem Zb8 (A:Option Addr) (n c:Nat) (w:World):Calls prog 227 #[.slice A n c,.slice none 0 0] w fun e w'=>e=.returned (.bool (n==0))/\Below w.heap.size w w':=by
 by_cases h:n=0
 ·subst h;go_enter func227,ntmps227;go_wp2_with fail
  go_loopw [5,13] (fun _ iv wr=>iv=.int .i64 0/\wr=w) (fun _ _ _=>0)
  case atStart=>exact⟨rfl,rfl⟩
  case round=>
   obtain⟨rfl,rfl⟩:=hrel;go_wp2;go_ret;exact⟨rfl,Below.refl _ _⟩
 ·have e1:(n==0)=false:=by rw[Bn];exact h
  have e2:((n:Int)==0)=false:=by rw[Bn];omega
  have e3:((n:Int) != 0)=true:=by simp[bne,e2]
  go_enter func227,ntmps227;go_wp2;go_ret;exact⟨by rw[e1];rfl,Below.refl _ _⟩
theorem Zb9 (A:Option Addr) (n c:Nat) (w:World):Calls prog 228 #[.slice A n c,.slice none 0 0] w fun e w'=>e=.returned (.bool (n==0))/\Below w.heap.size w w':=by
 by_cases h:n=0
 ·subst h;go_enter func228,ntmps228;go_wp2_with fail
  go_loopw [5,13] (fun _ iv wr=>iv=.int .i64 0/\wr=w) (fun _ _ _=>0)
  case atStart=>exact⟨rfl,rfl⟩
  case round=>
   obtain⟨rfl,rfl⟩:=hrel;go_wp2;go_ret;exact⟨rfl,Below.refl _ _⟩
 ·have e1:(n==0)=false:=by rw[Bn];exact h
  have e2:((n:Int)==0)=false:=by rw[Bn];omega
  have e3:((n:Int) != 0)=true:=by simp[bne,e2]
  go_enter func228,ntmps228;go_wp2;go_ret;exact⟨by rw[e1];rfl,Below.refl _ _⟩
theorem Zca {P:Program} {ops:Array Oper} {Q:Exit->Act->World->Prop} {rest:List Oper} {a:Act} {w:World} {N:Nat} {X Y:Value} {o2 o3 o4 o5 o6:Oper} {u1 u2 v1 v2:Value} (sz:a.tmps.size=N) (e2:a.eval (.tmp 2)=X) (e3:a.eval (.tmp 3)=Y) (df:a.defers=[]) (hN:9<N)
  (hd:o2.dst=some 5/\o3.dst=some 6/\o4.dst=some 7/\o5.dst=some 8/\o6.dst=some 9)
  (hg:o2.guard=none/\o3.guard=none/\o4.guard=none/\o5.guard=none/\o6.guard=none)
  (h2:∀(a:Act),a.eval (.tmp 2)=X->(execOp a.eval o2).run P w=.ok (.value u1) w)
  (h3:∀(a:Act),a.eval (.tmp 5)=u1->(execOp a.eval o3).run P w=.ok (.value v1) w)
  (h4:∀(a:Act),a.eval (.tmp 3)=Y->(execOp a.eval o4).run P w=.ok (.value u2) w)
  (h5:∀(a:Act),a.eval (.tmp 7)=u2->(execOp a.eval o5).run P w=.ok (.value v2) w)
  (h6:∀(a:Act),a.eval (.tmp 6)=v1->a.eval (.tmp 8)=v2->∃b',(execOp a.eval o6).run P w=.ok (.value (.bool b')) w)
  (hn:∀a' b',SI N X Y 9 b' a'->wpList P ops Q rest a' w):wpList P ops Q (o2::o3::o4::o5::o6::rest) a w:=by
 obtain⟨d2,d3,d4,d5,d6⟩:=hd;obtain⟨g2,g3,g4,g5,g6⟩:=hg;have E:∀(a:Act),a.tmps.size=N->∀(i t:Nat) (v:Value),i<=9->(a.put (some i) v).eval (.tmp t)=if t=i then v else a.eval (.tmp t):=fun a h i t v hi=>J0 (by omega)
 have z1:(a.put (some 5) u1).tmps.size=N:=(Ue _ _ _).trans sz;have z2:((a.put (some 5) u1).put (some 6) v1).tmps.size=N:=(Ue _ _ _).trans z1;have z3:(((a.put (some 5) u1).put (some 6) v1).put (some 7) u2).tmps.size=N:=(Ue _ _ _).trans z2;have z4:((((a.put (some 5) u1).put (some 6) v1).put (some 7) u2).put (some 8) v2).tmps.size=N:=(Ue _ _ _).trans z3;refine Wl (wn0 g2) d2 (h2 _ e2) ?_;refine Wl (wn0 g3) d3 (h3 _ (by rw[E _ sz _ _ _ (by decide)];rfl)) ?_
 refine Wl (wn0 g4) d4 (h4 _ (by rw[E _ z1 _ _ _ (by decide),E _ sz _ _ _ (by decide)];exact e3)) ?_
 refine Wl (wn0 g5) d5 (h5 _ (by rw[E _ z2 _ _ _ (by decide)];rfl)) ?_
 obtain⟨b',e⟩:=h6 ((((a.put (some 5) u1).put (some 6) v1).put (some 7) u2).put (some 8) v2) (by rw[E _ z3 _ _ _ (by decide),E _ z2 _ _ _ (by decide),E _ z1 _ _ _ (by decide)];rfl) (by rw[E _ z3 _ _ _ (by decide)];rfl)
 refine Wl (wn0 g6) d6 e (hn _ b' ⟨(Ue _ _ _).trans z4,?_,?_,?_,df⟩)
 ·rw[E _ z4 _ _ _ (by decide),E _ z3 _ _ _ (by decide),E _ z2 _ _ _ (by decide),E _ z1 _ _ _ (by decide),E _ sz _ _ _ (by decide)];exact e2
 ·rw[E _ z4 _ _ _ (by decide),E _ z3 _ _ _ (by decide),E _ z2 _ _ _ (by decide),E _ z1 _ _ _ (by decide),E _ sz _ _ _ (by decide)];exact e3
 ·rw[E _ z4 _ _ _ (by decide)];rfl
def O7 (f:Fct):Array Value:=#[.string ⟨f.key.toArray⟩,.int .i64 f.stamp,.bool true,.int .i64 0,.int .i64 0,.string ⟨#[]⟩,.string ⟨#[]⟩,.string ⟨#[]⟩,.string ⟨#[]⟩,.string ⟨#[]⟩,.string ⟨#[]⟩,.string ⟨#[]⟩,.string ⟨#[]⟩,.string ⟨#[]⟩,.string ⟨#[]⟩,.string ⟨#[]⟩,.string ⟨#[]⟩,.string ⟨#[]⟩,.slice none 0 0,.slice none 0 0,.int .i64 0]
theorem YK {P:Program} {Q:Exit->Act->World->Prop} {o:Oper} {a:Act} {w:World} {d:Nat} {K:Act->World->Prop} (h:∃b',(execOp a.eval o).run P w=.ok (.value (.bool b')) w) (hd:o.dst=some d) (hk:∀b' w',Below w.heap.size w w'->K (a.put (some d) (.bool b')) w'):o.wp P a w K Q:=by
 obtain⟨b',e⟩:=h;unfold Oper.wp;rw[e,Oper.upon_value,hd];exact hk _ _ (Below.refl _ _)
theorem Zbj {f:Fct} (hcn:f.canc=true) (w:World):Calls prog 182 #[.agg (Zi f),.agg (O7 f)] w fun e w'=>(∃b,e=.returned (.bool b))/\Below w.heap.size w w':=by
 obtain⟨h1,h2,hb,-⟩:=VH w (.cells (Zi f) 48) (.cells (O7 f) 48);have X:Hid (Blk ((w.alloc (.cells (Zi f) 48)).alloc (.cells (O7 f) 48)) w.heap.size (Zi f)):=⟨_,h1⟩;have Y:Hid (Blk ((w.alloc (.cells (Zi f) 48)).alloc (.cells (O7 f) 48)) (w.heap.size+1) (O7 f)):=⟨_,h2⟩;have HCN:=Lh hcn;have HB:=Lh hb;clear h1 h2 hcn hb;have q0:((w.alloc (.cells (Zi f) 48)).alloc (.cells (O7 f) 48)).cell? ⟨w.heap.size,0,none⟩=some (.string ⟨f.key.toArray⟩):=X.out.c 0;have r0:((w.alloc (.cells (Zi f) 48)).alloc (.cells (O7 f) 48)).cell? ⟨w.heap.size+1,0,none⟩=some (.string ⟨f.key.toArray⟩):=Y.out.c 0;go_enter func182,ntmps182;go_wp2_with (refine JY 3 2 (fun a' w'=>Hid (w'=((w.alloc (.cells (Zi f) 48)).alloc (.cells (O7 f) 48))/\a'.tmps.size=129/\a'.eval (.tmp 2)=.pointer (some ⟨w.heap.size,0,none⟩)/\a'.eval (.tmp 3)=.pointer (some ⟨w.heap.size+1,0,none⟩)/\a'.defers=[])) rfl ?first ?rest)
 case first=>
  (try simp only[List.take_succ_cons,List.take_zero])
  go_wp2;exact⟨rfl,Lh ⟨rfl,rfl,rfl,rfl,rfl⟩⟩
 (try simp only[List.drop_succ_cons,List.drop_zero])
 intro a0 w0 h;obtain⟨rfl,z0,e2,e3,df⟩:=h.out;clear h;rename_i Q' K hK;refine hK a0 _ ?_;clear hK;refine wp_seq (wp_region_lit ?_);refine Zca z0 e2 e3 df (by decide) (u1:=.pointer (some ⟨w.heap.size,0,none⟩)) (u2:=.pointer (some ⟨w.heap.size+1,0,none⟩)) (v1:=.string ⟨f.key.toArray⟩) (v2:=.string ⟨f.key.toArray⟩) ?_ ?_ ?_ ?_ ?_ ?_ ?_ ?_
 ·exact⟨rfl,rfl,rfl,rfl,rfl⟩
 ·exact⟨rfl,rfl,rfl,rfl,rfl⟩
 ·intro a h;have g:=toD h;clear h;go_simp;first|done|rfl
 ·intro a h;have g:=toD h;clear h;go_simp;first|done|rfl
 ·intro a h;have g:=toD h;clear h;go_simp;first|done|rfl
 ·intro a h;have g:=toD h;clear h;go_simp;first|done|rfl
 ·intro a x y;have g1:=toD x;have g2:=toD y;clear x y;go_simp;first|done|exact⟨_,rfl⟩
 clear z0 e2 e3 df q0 r0;intro a0 b0 S0;refine WH 9 5 (u1:=.pointer (some ⟨w.heap.size,1,none⟩)) (u2:=.pointer (some ⟨w.heap.size+1,1,none⟩)) (v1:=.int .i64 f.stamp) (v2:=.int .i64 f.stamp) S0 (by decide) (by decide) ?_ ?_ ?_ ?_ ?_ ?_ ?_ ?_ ?_ ?_ ?_
 ·exact⟨rfl,rfl,rfl,rfl,rfl,rfl,rfl⟩
 ·exact⟨rfl,rfl,rfl,rfl,rfl,rfl,rfl⟩
 ·rfl
 ·intro a h;have g:=toD h;clear h;go_simp;first|done|rfl
 ·intro a h;have g:=toD h;clear h;go_simp;first|done|rfl
 ·intro a h;have g:=toD h;clear h;have q1:((w.alloc (.cells (Zi f) 48)).alloc (.cells (O7 f) 48)).cell? ⟨w.heap.size,1,none⟩=some (.int .i64 f.stamp) :=X.out.c 1;go_simp;first|done|rfl
 ·intro a h;have g:=toD h;clear h;go_simp;first|done|rfl
 ·intro a h;have g:=toD h;clear h;have r1:((w.alloc (.cells (Zi f) 48)).alloc (.cells (O7 f) 48)).cell? ⟨w.heap.size+1,1,none⟩=some (.int .i64 f.stamp) :=Y.out.c 1;go_simp;first|done|rfl
 ·exact fun a K x y hk=>by have g1:=toD x;have g2:=toD y;clear x y;exact YK (by go_simp;first|done|exact⟨_,rfl⟩) rfl hk
 ·intro a w' d x y;have g1:=toD x;have g2:=toD y;clear x y;go_simp;first|done|rfl
 clear S0;intro a1 b1 w1 hb1 S1;replace X:=Lh (X.out.below hb1);replace Y:=Lh (Y.out.below hb1);replace HB:=Lh (bto HB.out hb1);clear hb1;refine WH 16 12 (u1:=.pointer (some ⟨w.heap.size,2,none⟩)) (u2:=.pointer (some ⟨w.heap.size+1,2,none⟩)) (v1:=.bool true) (v2:=.bool true) S1 (by decide) (by decide) ?_ ?_ ?_ ?_ ?_ ?_ ?_ ?_ ?_ ?_ ?_
 ·exact⟨rfl,rfl,rfl,rfl,rfl,rfl,rfl⟩
 ·exact⟨rfl,rfl,rfl,rfl,rfl,rfl,rfl⟩
 ·rfl
 ·intro a h;have g:=toD h;clear h;go_simp;first|done|rfl
 ·intro a h;have g:=toD h;clear h;go_simp;first|done|rfl
 ·intro a h;have g:=toD h;clear h;have q2:w1.cell? ⟨w.heap.size,2,none⟩=some (.bool true) :=(X.out.c 2).trans (by show some (Value.bool f.canc)=_;rw[HCN.out]);go_simp;first|done|rfl
 ·intro a h;have g:=toD h;clear h;go_simp;first|done|rfl
 ·intro a h;have g:=toD h;clear h;have r2:w1.cell? ⟨w.heap.size+1,2,none⟩=some (.bool true) :=Y.out.c 2;go_simp;first|done|rfl
 ·exact fun a K x y hk=>by have g1:=toD x;have g2:=toD y;clear x y;exact YK (by go_simp;first|done|exact⟨_,rfl⟩) rfl hk
 ·intro a w' d x y;have g1:=toD x;have g2:=toD y;clear x y;go_simp;first|done|rfl
 clear S1;intro a2 b2 w2 hb2 S2;replace X:=Lh (X.out.below hb2);replace Y:=Lh (Y.out.below hb2);replace HB:=Lh (bto HB.out hb2);clear hb2;refine WH 23 19 (u1:=.pointer (some ⟨w.heap.size,3,none⟩)) (u2:=.pointer (some ⟨w.heap.size+1,3,none⟩)) (v1:=.int .i64 f.day) (v2:=.int .i64 0) S2 (by decide) (by decide) ?_ ?_ ?_ ?_ ?_ ?_ ?_ ?_ ?_ ?_ ?_
 ·exact⟨rfl,rfl,rfl,rfl,rfl,rfl,rfl⟩
 ·exact⟨rfl,rfl,rfl,rfl,rfl,rfl,rfl⟩
 ·rfl
 ·intro a h;have g:=toD h;clear h;go_simp;first|done|rfl
 ·intro a h;have g:=toD h;clear h;go_simp;first|done|rfl
 ·intro a h;have g:=toD h;clear h;have q3:w2.cell? ⟨w.heap.size,3,none⟩=some (.int .i64 f.day) :=X.out.c 3;go_simp;first|done|rfl
 ·intro a h;have g:=toD h;clear h;go_simp;first|done|rfl
 ·intro a h;have g:=toD h;clear h;have r3:w2.cell? ⟨w.heap.size+1,3,none⟩=some (.int .i64 0) :=Y.out.c 3;go_simp;first|done|rfl
 ·exact fun a K x y hk=>by have g1:=toD x;have g2:=toD y;clear x y;exact YK (by go_simp;first|done|exact⟨_,rfl⟩) rfl hk
 ·intro a w' d x y;have g1:=toD x;have g2:=toD y;clear x y;go_simp;first|done|rfl
 clear S2;intro a3 b3 w3 hb3 S3;replace X:=Lh (X.out.below hb3);replace Y:=Lh (Y.out.below hb3);replace HB:=Lh (bto HB.out hb3);clear hb3;refine WH 30 26 (u1:=.pointer (some ⟨w.heap.size,4,none⟩)) (u2:=.pointer (some ⟨w.heap.size+1,4,none⟩)) (v1:=.int .i64 f.kind) (v2:=.int .i64 0) S3 (by decide) (by decide) ?_ ?_ ?_ ?_ ?_ ?_ ?_ ?_ ?_ ?_ ?_
 ·exact⟨rfl,rfl,rfl,rfl,rfl,rfl,rfl⟩
 ·exact⟨rfl,rfl,rfl,rfl,rfl,rfl,rfl⟩
 ·rfl
 ·intro a h;have g:=toD h;clear h;go_simp;first|done|rfl
 ·intro a h;have g:=toD h;clear h;go_simp;first|done|rfl
 ·intro a h;have g:=toD h;clear h;have q4:w3.cell? ⟨w.heap.size,4,none⟩=some (.int .i64 f.kind) :=X.out.c 4;go_simp;first|done|rfl
 ·intro a h;have g:=toD h;clear h;go_simp;first|done|rfl
 ·intro a h;have g:=toD h;clear h;have r4:w3.cell? ⟨w.heap.size+1,4,none⟩=some (.int .i64 0) :=Y.out.c 4;go_simp;first|done|rfl
 ·exact fun a K x y hk=>by have g1:=toD x;have g2:=toD y;clear x y;exact YK (by go_simp;first|done|exact⟨_,rfl⟩) rfl hk
 ·intro a w' d x y;have g1:=toD x;have g2:=toD y;clear x y;go_simp;first|done|rfl
 clear S3;intro a4 b4 w4 hb4 S4;replace X:=Lh (X.out.below hb4);replace Y:=Lh (Y.out.below hb4);replace HB:=Lh (bto HB.out hb4);clear hb4;refine WH 37 33 (u1:=.pointer (some ⟨w.heap.size,5,none⟩)) (u2:=.pointer (some ⟨w.heap.size+1,5,none⟩)) (v1:=.string ⟨f.ins.toArray⟩) (v2:=.string ⟨#[]⟩) S4 (by decide) (by decide) ?_ ?_ ?_ ?_ ?_ ?_ ?_ ?_ ?_ ?_ ?_
 ·exact⟨rfl,rfl,rfl,rfl,rfl,rfl,rfl⟩
 ·exact⟨rfl,rfl,rfl,rfl,rfl,rfl,rfl⟩
 ·rfl
 ·intro a h;have g:=toD h;clear h;go_simp;first|done|rfl
 ·intro a h;have g:=toD h;clear h;go_simp;first|done|rfl
 ·intro a h;have g:=toD h;clear h;have q5:w4.cell? ⟨w.heap.size,5,none⟩=some (.string ⟨f.ins.toArray⟩) :=X.out.c 5;go_simp;first|done|rfl
 ·intro a h;have g:=toD h;clear h;go_simp;first|done|rfl
 ·intro a h;have g:=toD h;clear h;have r5:w4.cell? ⟨w.heap.size+1,5,none⟩=some (.string ⟨#[]⟩) :=Y.out.c 5;go_simp;first|done|rfl
 ·exact fun a K x y hk=>by have g1:=toD x;have g2:=toD y;clear x y;exact YK (by go_simp;first|done|exact⟨_,rfl⟩) rfl hk
 ·intro a w' d x y;have g1:=toD x;have g2:=toD y;clear x y;go_simp;first|done|rfl
 clear S4;intro a5 b5 w5 hb5 S5;replace X:=Lh (X.out.below hb5);replace Y:=Lh (Y.out.below hb5);replace HB:=Lh (bto HB.out hb5);clear hb5;refine WH 44 40 (u1:=.pointer (some ⟨w.heap.size,6,none⟩)) (u2:=.pointer (some ⟨w.heap.size+1,6,none⟩)) (v1:=.string ⟨f.oth.toArray⟩) (v2:=.string ⟨#[]⟩) S5 (by decide) (by decide) ?_ ?_ ?_ ?_ ?_ ?_ ?_ ?_ ?_ ?_ ?_
 ·exact⟨rfl,rfl,rfl,rfl,rfl,rfl,rfl⟩
 ·exact⟨rfl,rfl,rfl,rfl,rfl,rfl,rfl⟩
 ·rfl
 ·intro a h;have g:=toD h;clear h;go_simp;first|done|rfl
 ·intro a h;have g:=toD h;clear h;go_simp;first|done|rfl
 ·intro a h;have g:=toD h;clear h;have q6:w5.cell? ⟨w.heap.size,6,none⟩=some (.string ⟨f.oth.toArray⟩) :=X.out.c 6;go_simp;first|done|rfl
 ·intro a h;have g:=toD h;clear h;go_simp;first|done|rfl
 ·intro a h;have g:=toD h;clear h;have r6:w5.cell? ⟨w.heap.size+1,6,none⟩=some (.string ⟨#[]⟩) :=Y.out.c 6;go_simp;first|done|rfl
 ·exact fun a K x y hk=>by have g1:=toD x;have g2:=toD y;clear x y;exact YK (by go_simp;first|done|exact⟨_,rfl⟩) rfl hk
 ·intro a w' d x y;have g1:=toD x;have g2:=toD y;clear x y;go_simp;first|done|rfl
 clear S5;intro a6 b6 w6 hb6 S6;replace X:=Lh (X.out.below hb6);replace Y:=Lh (Y.out.below hb6);replace HB:=Lh (bto HB.out hb6);clear hb6;refine WH 51 47 (u1:=.pointer (some ⟨w.heap.size,7,none⟩)) (u2:=.pointer (some ⟨w.heap.size+1,7,none⟩)) (v1:=.string ⟨f.cur.toArray⟩) (v2:=.string ⟨#[]⟩) S6 (by decide) (by decide) ?_ ?_ ?_ ?_ ?_ ?_ ?_ ?_ ?_ ?_ ?_
 ·exact⟨rfl,rfl,rfl,rfl,rfl,rfl,rfl⟩
 ·exact⟨rfl,rfl,rfl,rfl,rfl,rfl,rfl⟩
 ·rfl
 ·intro a h;have g:=toD h;clear h;go_simp;first|done|rfl
 ·intro a h;have g:=toD h;clear h;go_simp;first|done|rfl
 ·intro a h;have g:=toD h;clear h;have q7:w6.cell? ⟨w.heap.size,7,none⟩=some (.string ⟨f.cur.toArray⟩) :=X.out.c 7;go_simp;first|done|rfl
 ·intro a h;have g:=toD h;clear h;go_simp;first|done|rfl
 ·intro a h;have g:=toD h;clear h;have r7:w6.cell? ⟨w.heap.size+1,7,none⟩=some (.string ⟨#[]⟩) :=Y.out.c 7;go_simp;first|done|rfl
 ·exact fun a K x y hk=>by have g1:=toD x;have g2:=toD y;clear x y;exact YK (by go_simp;first|done|exact⟨_,rfl⟩) rfl hk
 ·intro a w' d x y;have g1:=toD x;have g2:=toD y;clear x y;go_simp;first|done|rfl
 clear S6;intro a7 b7 w7 hb7 S7;replace X:=Lh (X.out.below hb7);replace Y:=Lh (Y.out.below hb7);replace HB:=Lh (bto HB.out hb7);clear hb7;refine WH 58 54 (u1:=.pointer (some ⟨w.heap.size,8,none⟩)) (u2:=.pointer (some ⟨w.heap.size+1,8,none⟩)) (v1:=.string ⟨f.tgt.toArray⟩) (v2:=.string ⟨#[]⟩) S7 (by decide) (by decide) ?_ ?_ ?_ ?_ ?_ ?_ ?_ ?_ ?_ ?_ ?_
 ·exact⟨rfl,rfl,rfl,rfl,rfl,rfl,rfl⟩
 ·exact⟨rfl,rfl,rfl,rfl,rfl,rfl,rfl⟩
 ·rfl
 ·intro a h;have g:=toD h;clear h;go_simp;first|done|rfl
 ·intro a h;have g:=toD h;clear h;go_simp;first|done|rfl
 ·intro a h;have g:=toD h;clear h;have q8:w7.cell? ⟨w.heap.size,8,none⟩=some (.string ⟨f.tgt.toArray⟩) :=X.out.c 8;go_simp;first|done|rfl
 ·intro a h;have g:=toD h;clear h;go_simp;first|done|rfl
 ·intro a h;have g:=toD h;clear h;have r8:w7.cell? ⟨w.heap.size+1,8,none⟩=some (.string ⟨#[]⟩) :=Y.out.c 8;go_simp;first|done|rfl
 ·exact fun a K x y hk=>by have g1:=toD x;have g2:=toD y;clear x y;exact YK (by go_simp;first|done|exact⟨_,rfl⟩) rfl hk
 ·intro a w' d x y;have g1:=toD x;have g2:=toD y;clear x y;go_simp;first|done|rfl
 clear S7;intro a8 b8 w8 hb8 S8;replace X:=Lh (X.out.below hb8);replace Y:=Lh (Y.out.below hb8);replace HB:=Lh (bto HB.out hb8);clear hb8;refine WH 65 61 (u1:=.pointer (some ⟨w.heap.size,9,none⟩)) (u2:=.pointer (some ⟨w.heap.size+1,9,none⟩)) (v1:=.string ⟨f.q.toArray⟩) (v2:=.string ⟨#[]⟩) S8 (by decide) (by decide) ?_ ?_ ?_ ?_ ?_ ?_ ?_ ?_ ?_ ?_ ?_
 ·exact⟨rfl,rfl,rfl,rfl,rfl,rfl,rfl⟩
 ·exact⟨rfl,rfl,rfl,rfl,rfl,rfl,rfl⟩
 ·rfl
 ·intro a h;have g:=toD h;clear h;go_simp;first|done|rfl
 ·intro a h;have g:=toD h;clear h;go_simp;first|done|rfl
 ·intro a h;have g:=toD h;clear h;have q9:w8.cell? ⟨w.heap.size,9,none⟩=some (.string ⟨f.q.toArray⟩) :=X.out.c 9;go_simp;first|done|rfl
 ·intro a h;have g:=toD h;clear h;go_simp;first|done|rfl
 ·intro a h;have g:=toD h;clear h;have r9:w8.cell? ⟨w.heap.size+1,9,none⟩=some (.string ⟨#[]⟩) :=Y.out.c 9;go_simp;first|done|rfl
 ·exact fun a K x y hk=>by have g1:=toD x;have g2:=toD y;clear x y;exact YK (by go_simp;first|done|exact⟨_,rfl⟩) rfl hk
 ·intro a w' d x y;have g1:=toD x;have g2:=toD y;clear x y;go_simp;first|done|rfl
 clear S8;intro a9 b9 w9 hb9 S9;replace X:=Lh (X.out.below hb9);replace Y:=Lh (Y.out.below hb9);replace HB:=Lh (bto HB.out hb9);clear hb9;refine WH 72 68 (u1:=.pointer (some ⟨w.heap.size,10,none⟩)) (u2:=.pointer (some ⟨w.heap.size+1,10,none⟩)) (v1:=.string ⟨f.amt.toArray⟩) (v2:=.string ⟨#[]⟩) S9 (by decide) (by decide) ?_ ?_ ?_ ?_ ?_ ?_ ?_ ?_ ?_ ?_ ?_
 ·exact⟨rfl,rfl,rfl,rfl,rfl,rfl,rfl⟩
 ·exact⟨rfl,rfl,rfl,rfl,rfl,rfl,rfl⟩
 ·rfl
 ·intro a h;have g:=toD h;clear h;go_simp;first|done|rfl
 ·intro a h;have g:=toD h;clear h;go_simp;first|done|rfl
 ·intro a h;have g:=toD h;clear h;have q10:w9.cell? ⟨w.heap.size,10,none⟩=some (.string ⟨f.amt.toArray⟩) :=X.out.c 10;go_simp;first|done|rfl
 ·intro a h;have g:=toD h;clear h;go_simp;first|done|rfl
 ·intro a h;have g:=toD h;clear h;have r10:w9.cell? ⟨w.heap.size+1,10,none⟩=some (.string ⟨#[]⟩) :=Y.out.c 10;go_simp;first|done|rfl
 ·exact fun a K x y hk=>by have g1:=toD x;have g2:=toD y;clear x y;exact YK (by go_simp;first|done|exact⟨_,rfl⟩) rfl hk
 ·intro a w' d x y;have g1:=toD x;have g2:=toD y;clear x y;go_simp;first|done|rfl
 clear S9;intro a10 b10 w10 hb10 S10;replace X:=Lh (X.out.below hb10);replace Y:=Lh (Y.out.below hb10);replace HB:=Lh (bto HB.out hb10);clear hb10;refine WH 79 75 (u1:=.pointer (some ⟨w.heap.size,11,none⟩)) (u2:=.pointer (some ⟨w.heap.size+1,11,none⟩)) (v1:=.string ⟨f.fee.toArray⟩) (v2:=.string ⟨#[]⟩) S10 (by decide) (by decide) ?_ ?_ ?_ ?_ ?_ ?_ ?_ ?_ ?_ ?_ ?_
 ·exact⟨rfl,rfl,rfl,rfl,rfl,rfl,rfl⟩
 ·exact⟨rfl,rfl,rfl,rfl,rfl,rfl,rfl⟩
 ·rfl
 ·intro a h;have g:=toD h;clear h;go_simp;first|done|rfl
 ·intro a h;have g:=toD h;clear h;go_simp;first|done|rfl
 ·intro a h;have g:=toD h;clear h;have q11:w10.cell? ⟨w.heap.size,11,none⟩=some (.string ⟨f.fee.toArray⟩) :=X.out.c 11;go_simp;first|done|rfl
 ·intro a h;have g:=toD h;clear h;go_simp;first|done|rfl
 ·intro a h;have g:=toD h;clear h;have r11:w10.cell? ⟨w.heap.size+1,11,none⟩=some (.string ⟨#[]⟩) :=Y.out.c 11;go_simp;first|done|rfl
 ·exact fun a K x y hk=>by have g1:=toD x;have g2:=toD y;clear x y;exact YK (by go_simp;first|done|exact⟨_,rfl⟩) rfl hk
 ·intro a w' d x y;have g1:=toD x;have g2:=toD y;clear x y;go_simp;first|done|rfl
 clear S10;intro a11 b11 w11 hb11 S11;replace X:=Lh (X.out.below hb11);replace Y:=Lh (Y.out.below hb11);replace HB:=Lh (bto HB.out hb11);clear hb11;refine WH 86 82 (u1:=.pointer (some ⟨w.heap.size,12,none⟩)) (u2:=.pointer (some ⟨w.heap.size+1,12,none⟩)) (v1:=.agg #[.string ⟨f.pn.toArray⟩,.string ⟨f.pd.toArray⟩]) (v2:=.agg #[.string ⟨#[]⟩,.string ⟨#[]⟩]) S11 (by decide) (by decide) ?_ ?_ ?_ ?_ ?_ ?_ ?_ ?_ ?_ ?_ ?_
 ·exact⟨rfl,rfl,rfl,rfl,rfl,rfl,rfl⟩
 ·exact⟨rfl,rfl,rfl,rfl,rfl,rfl,rfl⟩
 ·rfl
 ·intro a h;have g:=toD h;clear h;go_simp;first|done|rfl
 ·intro a h;have g:=toD h;clear h;go_simp;first|done|rfl
 ·intro a h;have g:=toD h;clear h;have q12:w11.cell? ⟨w.heap.size,12,none⟩=some (.string ⟨f.pn.toArray⟩) :=X.out.c 12;have q13:w11.cell? ⟨w.heap.size,13,none⟩=some (.string ⟨f.pd.toArray⟩) :=X.out.c 13;go_simp;first|done|rfl
 ·intro a h;have g:=toD h;clear h;go_simp;first|done|rfl
 ·intro a h;have g:=toD h;clear h;have r12:w11.cell? ⟨w.heap.size+1,12,none⟩=some (.string ⟨#[]⟩) :=Y.out.c 12;have r13:w11.cell? ⟨w.heap.size+1,13,none⟩=some (.string ⟨#[]⟩) :=Y.out.c 13;go_simp;first|done|rfl
 ·exact fun a K x y hk=>by have g1:=toD x;have g2:=toD y;clear x y;exact YK (by go_simp;first|done|exact⟨_,rfl⟩|(by_cases u:f.pn=[]<;>by_cases v:f.pd=[]<;>simp[u,v])) rfl hk
 ·intro a w' d x y;have g1:=toD x;have g2:=toD y;clear x y;go_simp;first|done|rfl
 clear S11;intro a12 b12 w12 hb12 S12;replace X:=Lh (X.out.below hb12);replace Y:=Lh (Y.out.below hb12);replace HB:=Lh (bto HB.out hb12);clear hb12;refine WH 93 89 (u1:=.pointer (some ⟨w.heap.size,14,none⟩)) (u2:=.pointer (some ⟨w.heap.size+1,14,none⟩)) (v1:=.agg #[.string ⟨f.rn.toArray⟩,.string ⟨f.rd.toArray⟩]) (v2:=.agg #[.string ⟨#[]⟩,.string ⟨#[]⟩]) S12 (by decide) (by decide) ?_ ?_ ?_ ?_ ?_ ?_ ?_ ?_ ?_ ?_ ?_
 ·exact⟨rfl,rfl,rfl,rfl,rfl,rfl,rfl⟩
 ·exact⟨rfl,rfl,rfl,rfl,rfl,rfl,rfl⟩
 ·rfl
 ·intro a h;have g:=toD h;clear h;go_simp;first|done|rfl
 ·intro a h;have g:=toD h;clear h;go_simp;first|done|rfl
 ·intro a h;have g:=toD h;clear h;have q14:w12.cell? ⟨w.heap.size,14,none⟩=some (.string ⟨f.rn.toArray⟩) :=X.out.c 14;have q15:w12.cell? ⟨w.heap.size,15,none⟩=some (.string ⟨f.rd.toArray⟩) :=X.out.c 15;go_simp;first|done|rfl
 ·intro a h;have g:=toD h;clear h;go_simp;first|done|rfl
 ·intro a h;have g:=toD h;clear h;have r14:w12.cell? ⟨w.heap.size+1,14,none⟩=some (.string ⟨#[]⟩) :=Y.out.c 14;have r15:w12.cell? ⟨w.heap.size+1,15,none⟩=some (.string ⟨#[]⟩) :=Y.out.c 15;go_simp;first|done|rfl
 ·exact fun a K x y hk=>by have g1:=toD x;have g2:=toD y;clear x y;exact YK (by go_simp;first|done|exact⟨_,rfl⟩|(by_cases u:f.rn=[]<;>by_cases v:f.rd=[]<;>simp[u,v])) rfl hk
 ·intro a w' d x y;have g1:=toD x;have g2:=toD y;clear x y;go_simp;first|done|rfl
 clear S12;intro a13 b13 w13 hb13 S13;replace X:=Lh (X.out.below hb13);replace Y:=Lh (Y.out.below hb13);replace HB:=Lh (bto HB.out hb13);clear hb13;refine WH 100 96 (u1:=.pointer (some ⟨w.heap.size,16,none⟩)) (u2:=.pointer (some ⟨w.heap.size+1,16,none⟩)) (v1:=.agg #[.string ⟨f.sn.toArray⟩,.string ⟨f.sd.toArray⟩]) (v2:=.agg #[.string ⟨#[]⟩,.string ⟨#[]⟩]) S13 (by decide) (by decide) ?_ ?_ ?_ ?_ ?_ ?_ ?_ ?_ ?_ ?_ ?_
 ·exact⟨rfl,rfl,rfl,rfl,rfl,rfl,rfl⟩
 ·exact⟨rfl,rfl,rfl,rfl,rfl,rfl,rfl⟩
 ·rfl
 ·intro a h;have g:=toD h;clear h;go_simp;first|done|rfl
 ·intro a h;have g:=toD h;clear h;go_simp;first|done|rfl
 ·intro a h;have g:=toD h;clear h;have q16:w13.cell? ⟨w.heap.size,16,none⟩=some (.string ⟨f.sn.toArray⟩) :=X.out.c 16;have q17:w13.cell? ⟨w.heap.size,17,none⟩=some (.string ⟨f.sd.toArray⟩) :=X.out.c 17;go_simp;first|done|rfl
 ·intro a h;have g:=toD h;clear h;go_simp;first|done|rfl
 ·intro a h;have g:=toD h;clear h;have r16:w13.cell? ⟨w.heap.size+1,16,none⟩=some (.string ⟨#[]⟩) :=Y.out.c 16;have r17:w13.cell? ⟨w.heap.size+1,17,none⟩=some (.string ⟨#[]⟩) :=Y.out.c 17;go_simp;first|done|rfl
 ·exact fun a K x y hk=>by have g1:=toD x;have g2:=toD y;clear x y;exact YK (by go_simp;first|done|exact⟨_,rfl⟩|(by_cases u:f.sn=[]<;>by_cases v:f.sd=[]<;>simp[u,v])) rfl hk
 ·intro a w' d x y;have g1:=toD x;have g2:=toD y;clear x y;go_simp;first|done|rfl
 clear S13;intro a14 b14 w14 hb14 S14;replace X:=Lh (X.out.below hb14);replace Y:=Lh (Y.out.below hb14);replace HB:=Lh (bto HB.out hb14);clear hb14;have CE:=Lh (Zb8 f.pA f.pN f.pC w14);refine WH 107 103 (u1:=.pointer (some ⟨w.heap.size,18,none⟩)) (u2:=.pointer (some ⟨w.heap.size+1,18,none⟩)) (v1:=.slice f.pA f.pN f.pC) (v2:=.slice none 0 0) S14 (by decide) (by decide) ?_ ?_ ?_ ?_ ?_ ?_ ?_ ?_ ?_ ?_ ?_
 ·exact⟨rfl,rfl,rfl,rfl,rfl,rfl,rfl⟩
 ·exact⟨rfl,rfl,rfl,rfl,rfl,rfl,rfl⟩
 ·rfl
 ·intro a h;have g:=toD h;clear h;go_simp;first|done|rfl
 ·intro a h;have g:=toD h;clear h;go_simp;first|done|rfl
 ·intro a h;have g:=toD h;clear h;have q18:w14.cell? ⟨w.heap.size,18,none⟩=some (.slice f.pA f.pN f.pC) :=X.out.c 18;go_simp;first|done|rfl
 ·intro a h;have g:=toD h;clear h;go_simp;first|done|rfl
 ·intro a h;have g:=toD h;clear h;have r18:w14.cell? ⟨w.heap.size+1,18,none⟩=some (.slice none 0 0) :=Y.out.c 18;go_simp;first|done|rfl
 ·exact fun a K x y hk=>by have g1:=toD x;have g2:=toD y;clear x y;simp only[Oper.wp];go_simp;exact CE.out.mono (fun e w' h=>by obtain⟨rfl,hb⟩:=h;exact hk _ _ hb)
 ·intro a w' d x y;have g1:=toD x;have g2:=toD y;clear x y;go_simp;first|done|rfl
 clear S14 CE;intro a15 b15 w15 hb15 S15;replace X:=Lh (X.out.below hb15);replace Y:=Lh (Y.out.below hb15);replace HB:=Lh (bto HB.out hb15);clear hb15;have CE:=Lh (Zb9 f.oA f.oN f.oC w15);refine WH 114 110 (u1:=.pointer (some ⟨w.heap.size,19,none⟩)) (u2:=.pointer (some ⟨w.heap.size+1,19,none⟩)) (v1:=.slice f.oA f.oN f.oC) (v2:=.slice none 0 0) S15 (by decide) (by decide) ?_ ?_ ?_ ?_ ?_ ?_ ?_ ?_ ?_ ?_ ?_
 ·exact⟨rfl,rfl,rfl,rfl,rfl,rfl,rfl⟩
 ·exact⟨rfl,rfl,rfl,rfl,rfl,rfl,rfl⟩
 ·rfl
 ·intro a h;have g:=toD h;clear h;go_simp;first|done|rfl
 ·intro a h;have g:=toD h;clear h;go_simp;first|done|rfl
 ·intro a h;have g:=toD h;clear h;have q19:w15.cell? ⟨w.heap.size,19,none⟩=some (.slice f.oA f.oN f.oC) :=X.out.c 19;go_simp;first|done|rfl
 ·intro a h;have g:=toD h;clear h;go_simp;first|done|rfl
 ·intro a h;have g:=toD h;clear h;have r19:w15.cell? ⟨w.heap.size+1,19,none⟩=some (.slice none 0 0) :=Y.out.c 19;go_simp;first|done|rfl
 ·exact fun a K x y hk=>by have g1:=toD x;have g2:=toD y;clear x y;simp only[Oper.wp];go_simp;exact CE.out.mono (fun e w' h=>by obtain⟨rfl,hb⟩:=h;exact hk _ _ hb)
 ·intro a w' d x y;have g1:=toD x;have g2:=toD y;clear x y;go_simp;first|done|rfl
 clear S15 CE;intro a16 b16 w16 hb16 S16;replace X:=Lh (X.out.below hb16);replace Y:=Lh (Y.out.below hb16);replace HB:=Lh (bto HB.out hb16);clear hb16;refine WH 121 117 (u1:=.pointer (some ⟨w.heap.size,20,none⟩)) (u2:=.pointer (some ⟨w.heap.size+1,20,none⟩)) (v1:=.int .i64 f.choice) (v2:=.int .i64 0) S16 (by decide) (by decide) ?_ ?_ ?_ ?_ ?_ ?_ ?_ ?_ ?_ ?_ ?_
 ·exact⟨rfl,rfl,rfl,rfl,rfl,rfl,rfl⟩
 ·exact⟨rfl,rfl,rfl,rfl,rfl,rfl,rfl⟩
 ·rfl
 ·intro a h;have g:=toD h;clear h;go_simp;first|done|rfl
 ·intro a h;have g:=toD h;clear h;go_simp;first|done|rfl
 ·intro a h;have g:=toD h;clear h;have q20:w16.cell? ⟨w.heap.size,20,none⟩=some (.int .i64 f.choice) :=X.out.c 20;go_simp;first|done|rfl
 ·intro a h;have g:=toD h;clear h;go_simp;first|done|rfl
 ·intro a h;have g:=toD h;clear h;have r20:w16.cell? ⟨w.heap.size+1,20,none⟩=some (.int .i64 0) :=Y.out.c 20;go_simp;first|done|rfl
 ·exact fun a K x y hk=>by have g1:=toD x;have g2:=toD y;clear x y;exact YK (by go_simp;first|done|exact⟨_,rfl⟩) rfl hk
 ·intro a w' d x y;have g1:=toD x;have g2:=toD y;clear x y;go_simp;first|done|rfl
 clear S16;intro a17 b17 w17 hb17 S17;replace X:=Lh (X.out.below hb17);replace Y:=Lh (Y.out.below hb17);replace HB:=Lh (bto HB.out hb17);clear hb17;refine Wl (v:=.bool b17) (d:=4) (wn0 rfl) rfl (by have g:=toD S17.ep;go_simp;first|done|rfl) ?_
 refine wpList_nil ?_;refine wp_ret (bodyPost_ret (v:=.bool b17) ?_ S17.df ⟨⟨_,rfl⟩,HB.out⟩);rw[results_tmp (t:=4) rfl];exact congrArg (fun v=>Result.ok v w17) ((J0 (by rw[S17.sz];decide)).trans (if_pos rfl))
theorem NN {f:Fct} {ps:List Pk} {os:List Opn} {w:World} (hG:GE w) (hA:Qj w f ps os) :
  Calls prog 121 #[.agg (Zi f)] w fun e w'=>(∃E:Int,e=.returned (.int .i64 E)/\(f.canc=false->f.kind=5∨f.kind=13->(E=0↔Hk f)))/\Below w.heap.size w w':=by
 cases hcn:f.canc with
 | false=>exact (DY hG hA hcn).mono (fun e w' h=>⟨h.1.elim fun E h=>⟨E,h.1,fun _=>h.2.2⟩,h.2⟩)
 | true=>
 have hb0:=Zb w (.cells (Zi f) 48);have x0:Blk (w.alloc (.cells (Zi f) 48)) w.heap.size (Zi f):=Blk.new w _ 48;have q0:(w.alloc (.cells (Zi f) 48)).cell? ⟨w.heap.size,0,none⟩=some (.string ⟨f.key.toArray⟩):=x0.c 0;have hkl:=hA.sm.key;have C1:=Lh ((P4 (l:=f.key) (by omega)).e)
 have X0:=Lh x0;have HCN:=Lh hcn;clear hkl hA x0 hcn;go_enter func121,ntmps121;go_wp2_with fail
 refine (C1.out.of hG hb0).mono ?_
 rintro e w1 ⟨rfl,hb1⟩;have X1:=Lh (X0.out.below hb1);have HB1:=Lh (bto hb0 hb1);clear hb0 hb1 q0 X0 C1;cases hnk:YL f.key with
 | false=>
  clear hnk;go_wp2;go_ret;exact⟨⟨_,rfl,fun h=>absurd h (by decide)⟩,HB1.out⟩
 | true=>
 clear hnk;have q0:w1.cell? ⟨w.heap.size,0,none⟩=some (.string ⟨f.key.toArray⟩):=X1.out.c 0;have q1:w1.cell? ⟨w.heap.size,1,none⟩=some (.int .i64 f.stamp):=X1.out.c 1;have q2:w1.cell? ⟨w.heap.size,2,none⟩=some (.bool true):=(X1.out.c 2).trans (by show some (Value.bool f.canc)=_;rw[HCN.out])
 by_cases hs:f.stamp<0
 ·have e1:decide (f.stamp<0)=true:=Dt hs;clear hs;go_wp2;go_ret;exact⟨⟨_,rfl,fun h=>absurd h (by decide)⟩,HB1.out⟩
 have e1:decide (f.stamp<0)=false:=Df hs;clear hs;have CS:=Lh (Zbj HCN.out w1);go_wp2_with (refine Zj rfl 48 (.tmp 1) rfl w.heap.size rfl (Zi f) X1.out underlying48 rfl Zs ?_);refine CS.out.mono ?_;rintro e w2 ⟨⟨b,rfl⟩,hb2⟩;have HB2:=Lh (bto HB1.out hb2);clear hb2 q0 q1 q2 e1;cases b with
 | true=>
  go_wp2;go_ret;exact⟨⟨_,rfl,fun h=>absurd h (by decide)⟩,HB2.out⟩
 | false=>
  go_wp2;go_ret;exact⟨⟨_,rfl,fun h=>absurd h (by decide)⟩,HB2.out⟩
def pvZ (l l' Q:List UInt8):Int:=rnd (fv l l'*(val Q:Rat)) 1
theorem DZ {l l' Q:List UInt8} (h1:l.length<=1000) (h2:l'.length<=1000) (h3:Q.length<=2000):Ret 16 #[(Value.agg #[.string ⟨l.toArray⟩,.string ⟨l'.toArray⟩]),.string ⟨Q.toArray⟩] (.string ⟨(canon (pvZ l l' Q)).toArray⟩):=fun w hG=>by
 have bp:=Iw h1 h2 (by decide)
 have bz:Bd 2000 ((val Q:Int):Rat):=Jf (Zo (k:=2000) h3) (by decide)
 have bm:=Je bp bz;have hZ:rnd (fv l l'*((val Q:Int):Rat)) 1=pvZ l l' Q:=rfl;have C1:=Lh (rOf (l:=Q) (by omega) rfl)
 have C2:=Lh (ZbH (SH (k:=1000) h1 h2 (by decide)) (UX bz (by decide)) rfl)
 have C3:=Lh (I3 (UX bm (by decide)) bm (by decide) hZ)
 have x2:=YQ.new w (.string ⟨l.toArray⟩) (.string ⟨l'.toArray⟩) 34;have hb:=Zb w (.cells #[.string ⟨l.toArray⟩,.string ⟨l'.toArray⟩] 34);generalize pvZ l l' Q=Z at *;generalize fv l l'*((val Q:Int):Rat)=q at *;generalize ((val Q:Int):Rat)=q1 at *;clear bp bz bm hZ h1 h2 h3;go_enter func16,ntmps16;go_wp2_with fail;refine Zm (by kernel_rfl) (by kernel_rfl) ?_
 refine KeW (fun ρ w hw=>by have q0:=(x2.below hw).c0;have q1:=(x2.below hw).c1;go_simp;try rfl) ?_
 simp only[Act.put,StT,StZ,StS,Nat.reduceAdd];refine KeV ?_;simp only[Act.put,StT,StZ,StS,Nat.reduceAdd];refine KeC (fun w hw=>C1.out.of (hG.below hb) hw) ?_
 simp only[Act.put,StT,StZ,StS,Nat.reduceAdd];refine KeC (fun w hw=>C2.out.of (hG.below hb) hw) ?_
 simp only[Act.put,StT,StZ,StS,Nat.reduceAdd];refine KeC (fun w hw=>C3.out.of (hG.below hb) hw) ?_
 iterate 5
  simp only[Act.put,StT,StZ,StS,Nat.reduceAdd];refine KeV ?_
 simp only[Act.put,StT,StZ,StS,Nat.reduceAdd];refine ZC (fun ρ w2 hF=>?_)
 have hb2:=bto hb hF.below;clear hF x2 hb C1 C2 C3;go_wp2;go_ret;exact⟨rfl,hb2⟩
theorem NO {w:World} {A:Option Addr} {xs:List Lot} {n:Nat} (c:Nat) (ins:List UInt8) (hG:GE w) (hL:Yf w A xs n) :
  Calls prog 17 #[.slice A n c,.string ⟨ins.toArray⟩] w fun e w'=>e=.returned (.string ⟨(canon (ZL (ofL ins xs))).toArray⟩)/\Below w.heap.size w w':=by
 have C1:=Lh (Mq c ins hG hL);clear hG hL;go_enter func17,ntmps17;go_wp2_with fail
 refine C1.out.mono ?_
 rintro e w2 ⟨rfl,hb⟩;clear C1;go_wp2;go_ret;exact⟨rfl,hb⟩
theorem Uf {P:Program} {ops:Array Oper} {rest:List Oper} {op:Oper} {a:Act} {w:World} {Q:Exit->Act->World->Prop} (hw:Region.wanted op (yielded ops a.tmps)=true) (ty:TypeId) (x:Operand) (ho:op.op=.load ty x)
  (b:Nat) (hx:a.eval x=.pointer (some ⟨b,0,none⟩)) (cs:Array Value) {d:TypeDesc} (hc:Blk w b cs)
  (hu:P.underlying ty=some d) (hd:d.isRow=true) (hi:(P.info? ty).map (·.size)=some cs.size)
  (h:wpList P ops Q rest (a.put op.dst (.agg cs)) w):wpList P ops Q (op::rest) a w:=by
 unfold wpList;rw[hw];refine .inl ?_;unfold Oper.wp;rw[Wv (P:=P) (e:=a.eval) ty x ho b hx cs hc hu hd hi];exact h
def ZcM (w:World) (f:Fct) (ps:List Pk):Prop:=∀w',Below w.heap.size w w'->Calls prog 121 #[.agg (Zi f)] w' fun e w''=>(∃E:Int,e=.returned (.int .i64 E)/\(GoodS f ps->E=0))/\Below w'.heap.size w' w''
theorem Zbk {f:Fct} {ps:List Pk} {xs:List Lot} {A:Option Addr} {n:Nat} {w:World} (c:Nat) (kd:Int) (hG:GE w) (hL:Yf w A xs n) (hC:ZcM w f ps) :
  Calls prog 89 #[.slice A n c,.agg (Zi f),.int .i64 kd] w fun e w'=>(∃E:Int,e=.returned (.int .i64 E)/\(YM xs=0->GoodS f ps->f.kind=kd->E=0)/\(E=0->YM xs=0/\f.kind=kd))/\Below w.heap.size w w':=by
 have hb0:=Zb w (.cells (Zi f) 48);have X0:Hid (Blk (w.alloc (.cells (Zi f) 48)) w.heap.size (Zi f)):=Blk.new w _ 48;have K1:=Lh (Tm c (hG.below hb0) (hL.below hb0));have HC:=Lh hC;obtain⟨E1,hE1⟩:∃E1,E1=YM xs:=⟨_,rfl⟩
 rw[<-hE1] at K1;have HE1:=Lh hE1;rw[<-hE1];clear hE1 hC;go_enter func89,ntmps89;go_wp2_with fail
 refine K1.out.mono ?_
 rintro e w1 ⟨rfl,hb1⟩;have X1:=Lh (X0.out.below hb1);have HB1:=Lh (bto hb0 hb1);clear hb0 hb1 X0 K1
 by_cases h0:E1=0
 rotate_left
 ·have e5:decide (E1=0)=false:=Df h0;have e6:(E1==0)=false:=by rw[Bn];exact h0
  have H0:=Lh h0;go_wp2;go_ret;exact⟨⟨_,rfl,fun h=>absurd h H0.out,fun h=>by cases h⟩,HB1.out⟩
 subst h0;have C2:=Lh (HC.out w1 HB1.out);go_wp2_with (refine Uf rfl 48 (.tmp 4) rfl w.heap.size rfl (Zi f) X1.out underlying48 rfl Zs ?_)
 refine C2.out.mono ?_
 rintro e w2 ⟨⟨E2,rfl,hE2⟩,hb2⟩;have q4:w2.cell? ⟨w.heap.size,4,none⟩=some (.int .i64 f.kind):=(X1.out.below hb2).c 4;have HB2:=Lh (bto HB1.out hb2);have HE2:=Lh hE2;clear hE2 hb2 C2 HB1 X1
 by_cases h0:E2=0
 rotate_left
 ·have e5:decide (E2=0)=false:=Df h0;have e6:(E2==0)=false:=by rw[Bn];exact h0
  have H0:=Lh h0;go_wp2;go_ret;exact⟨⟨_,rfl,fun hg _=>absurd (HE2.out hg) H0.out,fun h=>by cases h⟩,HB2.out⟩
 subst h0
 by_cases hk:f.kind=kd
 ·have e5:decide (f.kind=kd)=true:=Dt hk;have e6:(f.kind==kd)=true:=by rw[beq_iff_eq];exact hk
  have HK:=Lh hk;clear hk;go_wp2;go_ret;exact⟨⟨_,rfl,fun _ _=>rfl,fun _=>HK.out⟩,HB2.out⟩
 ·have e5:decide (f.kind=kd)=false:=Df hk;have e6:(f.kind==kd)=false:=by rw[Bn];exact hk
  have HK:=Lh hk;clear hk;go_wp2;go_ret;exact⟨⟨_,rfl,fun _ h=>absurd h HK.out,fun h=>by cases h⟩,HB2.out⟩
def Qm {α:Type} [DecidableEq α] (v:α):List α->Nat->Int
 | [],_=>-1
 | a::t,k=>if v=a then (k:Int) else Qm v t (k+1)
theorem Ff {α:Type} [DecidableEq α] (v:α) (zs:List α) (k:Nat) (y:α) (h:zs[k]?=some y):Qm v (zs.drop k) k=if v=y then (k:Int) else Qm v (zs.drop (k+1)) (k+1):=by
 obtain⟨hk,rfl⟩:=Lg.1 h;rw[List.drop_eq_getElem_cons hk];rfl
theorem LS {α:Type} [DecidableEq α] (v:α):∀(zs:List α) (k:Nat),0<=Qm v zs k↔v∈zs
 | [],k=>by simp[Qm]
 | a::t,k=>by
  unfold Qm
  by_cases h:v=a
  ·simp[h]
  ·rw[if_neg h,LS v t (k+1)];simp[h]
theorem AJ (v:Int) (zs:List Int) (g c:Nat) (w:World) (h:Blk w g (zs.map (Value.int .i64)).toArray) (hl:zs.length<=1000) :
  Calls prog 186 #[.slice (some ⟨g,0,none⟩) zs.length c,.int .i64 v] w fun e w'=>e=.returned (.int .i64 (Qm v zs 0))/\w=w':=by
 have HD:=Lh (fun k y h=>Ff v zs k y h)
 go_enter func186,ntmps186;go_wp2_with fail
 go_loop [8] (fun iv=>∃k:Nat,k<=zs.length/\iv=.int .i64 (k:Int)/\Hid (Qm v zs 0=Qm v (zs.drop k) k)) (fun iv=>zs.length-(intOf iv).toNat)
 case atStart=>exact⟨0,Nat.zero_le _,rfl,rfl⟩
 case round=>
  obtain⟨k,hk,rfl,HK⟩:=hrel
  by_cases hlt:k<zs.length
  ·obtain⟨y,hy⟩:∃y,zs[k]?=some y:=⟨_,List.getElem?_eq_getElem hlt⟩
   have hc:w.cell? ⟨g,k,none⟩=some (.int .i64 y):=by rw[h.c k];simp[hy]
   have HX:=Lh (HD.out k y hy);clear hy
   by_cases hv:v=y
   ·have e1:(v==y)=true:=by rw[beq_iff_eq];exact hv
    have HV:Hid (Qm v zs 0=k):=by show _=_;rw[HK.out,HX.out,if_pos hv]
    clear hv;go_wp2;go_ret;exact⟨ZU HV.out.symm,rfl⟩
   ·have e1:(v==y)=false:=by rw[Bn];exact hv
    have HV:Hid (Qm v zs 0=Qm v (zs.drop (k+1)) (k+1)):=by show _=_;rw[HK.out,HX.out,if_neg hv]
    clear hv;go_wp2
    go_round
    case rel=>exact⟨k+1,by omega,by go_num,HV⟩
    case measure=>simp[intOf];omega
  ·have HV:Hid (Qm v zs 0 = -1):=by show _=_;rw[HK.out,List.drop_of_length_le (by omega)];rfl
   go_wp2;go_ret;exact⟨ZU HV.out.symm,rfl⟩
theorem J2 (v:Int) (zs:List Int) (g c:Nat) (w:World) (h:Blk w g (zs.map (Value.int .i64)).toArray) (hl:zs.length<=1000) :
  Calls prog 122 #[.slice (some ⟨g,0,none⟩) zs.length c,.int .i64 v] w fun e w'=>e=.returned (.bool (decide (v∈zs)))/\Below w.heap.size w w':=by
 have c1:=AJ v zs g c w h hl;have hm:=LS v zs 0;generalize Qm v zs 0=i at *;have HV:Hid (decide (0<=i)=decide (v∈zs)):=by show _=_;exact decide_eq_decide.2 hm
 generalize decide (v∈zs)=b at *;have H1:=Lh c1;clear c1 hm h hl;go_enter func122,ntmps122;go_wp2_with fail
 refine H1.out.mono ?_
 rintro e w' ⟨rfl,rfl⟩;go_wp2;go_ret;exact⟨ZV HV.out,Below.refl _ _⟩
def Sn (E:Int) (cn:Bool) (kd:Int) (zs:List Int):Int:=if E≠0 then 1 else if cn=true∨kd∉zs then 7 else 0
theorem J3 {P:Int->Prop} {w:World} {A:Option Addr} {xs:List Lot} {n:Nat} (c:Nat) {f:Fct} {zs:List Int} {g:Nat} (d:Nat) (hG:GE w) (hL:Yf w A xs n) (hz:Blk w g (zs.map (Value.int .i64)).toArray) (hzl:zs.length<=1000)
  (HC:∀w',GE w'->Below w.heap.size w w'->Calls prog 121 #[.agg (Zi f)] w' fun e w''=>(∃E:Int,e=.returned (.int .i64 E)/\P E)/\Below w'.heap.size w' w'') :
  Calls prog 52 #[.slice A n c,.agg (Zi f),.slice (some ⟨g,0,none⟩) zs.length d] w fun e w'=>(∃R:Int,e=.returned (.int .i64 R)/\((YM xs≠0/\R=1)∨(YM xs=0/\∃E,P E/\R=Sn E f.canc f.kind zs)))/\Below w.heap.size w w':=by
 have hb0:=Zb w (.cells (Zi f) 48);have X0:=Lh (Blk.new w (Zi f) 48);have HZ:=Lh (hz.below hb0);have HZL:=Lh hzl;have C1:=Lh (Tm c (hG.below hb0) (hL.below hb0));have HG:=Lh hG;have HC':=Lh HC;clear hz hzl hG hL HC;obtain⟨L,hLe⟩:∃L,L=YM xs:=⟨_,rfl⟩
 rw[<-hLe] at C1 ⊢;clear hLe
 by_cases h0:L=0
 rotate_left
 ·have e1:(L != 0)=true:=UG (Qu h0);have H0:=Lh h0;clear h0;go_enter func52,ntmps52;go_wp2_with fail
  refine C1.out.mono ?_
  rintro e w2 ⟨rfl,hb⟩;have HB:=Lh (bto hb0 hb);clear hb hb0 C1 HC';go_wp2;go_ret;exact⟨⟨_,rfl,.inl ⟨H0.out,rfl⟩⟩,HB.out⟩
 subst h0;go_enter func52,ntmps52;go_wp2_with fail
 refine C1.out.mono ?_
 rintro e w2 ⟨rfl,hb⟩;have X2:=Lh (X0.out.below hb);have Z2:=Lh (HZ.out.below hb);have HB:=Lh (bto hb0 hb);have C2:=Lh (HC'.out w2 (HG.out.below HB.out) HB.out);clear hb hb0 C1 HC' X0 HZ;go_wp2_with (refine Uf rfl 48 (.tmp 4) rfl w.heap.size rfl (Zi f) X2.out underlying48 rfl Zs ?_);refine C2.out.mono ?_;rintro e w3 ⟨⟨E,rfl,hP⟩,hb⟩;have X3:=Lh (X2.out.below hb);have Z3:=Lh (Z2.out.below hb);have HB3:=Lh (bto HB.out hb);have HP:=Lh hP;clear hb hP C2 X2 Z2 HB
 by_cases hE:E=0
 rotate_left
 ·have e1:(E != 0)=true:=UG (Qu hE);have HV:Hid (1=Sn E f.canc f.kind zs):=by show _=_;unfold Sn;rw[if_pos hE]
  clear hE;go_wp2;go_ret;exact⟨⟨_,rfl,.inr ⟨(by first|rfl|trivial),E,HP.out,HV.out⟩⟩,HB3.out⟩
 subst hE;have q4:w3.cell? ⟨w.heap.size,4,none⟩=some (.int .i64 f.kind):=X3.out.c 4;cases hcn:f.canc with
 | true=>
  have q2:w3.cell? ⟨w.heap.size,2,none⟩=some (.bool true):=(X3.out.c 2).trans (by show some (Value.bool f.canc)=_;rw[hcn])
  have HCN:=Lh hcn;clear hcn;go_wp2;go_ret;exact⟨⟨_,rfl,.inr ⟨(by first|rfl|trivial),0,HP.out,by rw[HCN.out];unfold Sn;rw[if_neg (by decide),if_pos (.inl rfl)]⟩⟩,HB3.out⟩
 | false=>
  have q2:w3.cell? ⟨w.heap.size,2,none⟩=some (.bool false):=(X3.out.c 2).trans (by show some (Value.bool f.canc)=_;rw[hcn])
  have HCN:=Lh hcn;clear hcn;have CK:=Lh (J2 f.kind zs g d w3 Z3.out HZL.out)
  by_cases hk:f.kind∈zs
  ·rw[Dt hk] at CK;have HV:Hid (0=Sn 0 false f.kind zs):=by show _=_;unfold Sn;rw[if_neg (by decide),if_neg (fun h=>h.elim (by decide) (fun h=>h hk))]
   clear hk;go_wp2_with fail
   refine CK.out.mono ?_
   rintro e w4 ⟨rfl,hb⟩;have HB4:=Lh (bto HB3.out hb);clear hb CK;go_wp2;go_ret;exact⟨⟨_,rfl,.inr ⟨(by first|rfl|trivial),0,HP.out,by rw[HCN.out];exact HV.out⟩⟩,HB4.out⟩
  ·rw[Df hk] at CK;have HV:Hid (7=Sn 0 false f.kind zs):=by show _=_;unfold Sn;rw[if_neg (by decide),if_pos (.inr hk)]
   clear hk;go_wp2_with fail
   refine CK.out.mono ?_
   rintro e w4 ⟨rfl,hb⟩;have HB4:=Lh (bto HB3.out hb);clear hb CK;go_wp2;go_ret;exact⟨⟨_,rfl,.inr ⟨(by first|rfl|trivial),0,HP.out,by rw[HCN.out];exact HV.out⟩⟩,HB4.out⟩
theorem D3 {w:World} {A:Option Addr} {xs:List Lot} {n:Nat} (c:Nat) {f:Fct} {Z:Int} (hG:GE w) (hL:Yf w A xs n) (hF:OG f) (hZ:pvZ f.pn f.pd (canon (ZL (ofL f.ins xs)))=Z) (hZl:(canon Z).length<=4900) :
  Calls prog 53 #[.slice A n c,.agg (Zi f)] w fun e w'=>∃AP ps np cq,e=.returned (.tuple #[.string ⟨(canon Z).toArray⟩,.slice AP np cq])/\ps.length=np/\np<=1000/\Vy w' AP ps/\QZ (canon Z) ((ofL f.ins xs).map (·.q)) ps/\Below w.heap.size w w':=by
 have hn2:=hL.big;have hb0:=Zb w (.cells (Zi f) 48);have x0:=Blk.new w (Zi f) 48;have q5:(w.alloc (.cells (Zi f) 48)).cell? ⟨w.heap.size,5,none⟩=some (.string ⟨f.ins.toArray⟩):=x0.c 5;have X0:=Lh x0;obtain⟨ys,hys⟩:∃ys,ys=ofL f.ins xs:=⟨_,rfl⟩
 have hysm:∀y∈ys,y∈xs:=fun y hy=>by rw[hys] at hy;exact (List.mem_filter.1 hy).1
 have hyl:ys.length<=xs.length:=by rw[hys];exact List.length_filter_le _ _
 have hln:=hL.len;have hTl:(canon (ZL (ofL f.ins xs))).length<=1008:=by
  rw[<-hys];exact YB 1000 (fun x=>x.q) ys (fun y hy=>(hL.sm y (hysm y hy)).q) (by omega)
 have K5:=Lh (DZ (l:=f.pn) (l':=f.pd) (Q:=canon (ZL (ofL f.ins xs))) hF.pn hF.pd (by omega))
 rw[hZ] at K5;have K4':=Lh (fun (w':World) (hb:Below w.heap.size w w')=>NO c f.ins (hG.below hb) (hL.below hb))
 obtain⟨T1,hT1⟩:∃T1,T1=canon (ZL (ofL f.ins xs)):=⟨_,rfl⟩
 rw[<-hT1] at K4' K5;obtain⟨m,hm⟩:∃m,m=ys.length:=⟨_,rfl⟩
 have hmn:m<=n:=by omega
 have K2:=Lh (lOf c f.ins (hL.below hb0));rw[<-hys] at K2 ⊢;have HL:=Lh hL;have HM:=Lh hm;have HYM:=Lh hysm;have HG:=Lh hG;have HZL:=Lh hZl;clear hL hT1 hysm hyl hln hm hys hTl hF hZ hG hZl x0;go_enter func53,ntmps53;go_wp2_with fail
 refine K2.out.mono ?_
 rintro e w2 ⟨v2,rfl,hrow,hb2⟩;clear K2 q5;have hrow:WM w2 _ v2 ys:=hrow;obtain⟨A2,c2,rfl⟩:=hrow.formN HM.out.symm;have X2:=Lh (X0.out.below hb2);replace hb2:=bto hb0 hb2;clear hb0 X0;obtain⟨B,hB⟩:∃B,B=w2.heap.size:=⟨_,rfl⟩
 have HLY:Hid (Yc w2 A2 ys):=hrow.lotAt rfl;have hBw:w.heap.size<=B:=by rw[hB];exact hb2.size
 have HBW:=Lh hBw;have HB:=Lh hB;have HB2:=Lh hb2;have h0:Hid (w2.ownsRow B 32 1 (.slice none 0 0) 0 (UI ((ys.map (·.q)).take 0))):=World.ownsRow_nil w2 B 32 1
 have HBe:Hid (Below w2.heap.size w2 w2):=Below.refl _ _;clear hrow hB hBw hb2;go_wp2_with fail
 go_loopw [6,8,17] (fun qv _ iv wr=>∃(k:Nat) (v:Value),k<=m/\v=qv/\iv=.int .i64 (k:Int)/\Hid (wr.ownsRow B 32 1 v k (UI ((ys.map (·.q)).take k)))/\Hid (Below w2.heap.size w2 wr)) (fun _ _ iv _=>m-(intOf iv).toNat)
 case atStart=>exact⟨0,_,Nat.zero_le _,rfl,rfl,h0.out,HBe.out⟩
 case round=>
  clear h0 HBe;obtain⟨k,v,hk,rfl,rfl,HO,HBL⟩:=hrel
  by_cases hlk:k<m
  ·have e1:decide (k<m)=true:=Dt hlk;have e2:decide ((k:Int)<(m:Int))=true:=Dt (by omega)
   obtain⟨x,hx⟩:∃x,ys[k]?=some x:=⟨_,List.getElem?_eq_getElem (by have:=HM.out;omega)⟩
   obtain⟨b,o,rfl,hbs,hcells⟩:=(HLY.out.below HBL.out) k x hx;have p0:=hcells.c0;have p1:=hcells.c1;have p2:=hcells.c2;have p3:=hcells.c3;have p4:=hcells.c4;have p5:=hcells.c5;have p6:=hcells.c6;have hbA:=Zb wr (.cells #[.string ⟨x.id.toArray⟩,.string ⟨x.ins.toArray⟩,.int .i64 x.acq,.int .i64 x.opn,.string ⟨x.q.toArray⟩,.string ⟨x.cost.toArray⟩,.string ⟨x.used.toArray⟩] 130);have Y1:=Lh (YS.new wr x 130);have q4:=Y1.out.c4;have hbq:=Zb (wr.alloc (.cells #[.string ⟨x.id.toArray⟩,.string ⟨x.ins.toArray⟩,.int .i64 x.acq,.int .i64 x.opn,.string ⟨x.q.toArray⟩,.string ⟨x.cost.toArray⟩,.string ⟨x.used.toArray⟩] 130)) (.cells #[.string ⟨x.q.toArray⟩] 32);obtain⟨i0,hi,hz0,hz1,hz2⟩:=info_parts QG;have HAN:Hid (((wr.alloc (.cells #[.string ⟨x.id.toArray⟩,.string ⟨x.ins.toArray⟩,.int .i64 x.acq,.int .i64 x.opn,.string ⟨x.q.toArray⟩,.string ⟨x.cost.toArray⟩,.string ⟨x.used.toArray⟩] 130)).alloc (.cells #[.string ⟨x.q.toArray⟩] 32)).heap[wr.heap.size+1]?=some (.cells #[.string ⟨x.q.toArray⟩] 32)):=by
    have h:=ZG (wr.alloc (.cells #[.string ⟨x.id.toArray⟩,.string ⟨x.ins.toArray⟩,.int .i64 x.acq,.int .i64 x.opn,.string ⟨x.q.toArray⟩,.string ⟨x.cost.toArray⟩,.string ⟨x.used.toArray⟩] 130)) (.cells #[.string ⟨x.q.toArray⟩] 32);rw[show (wr.alloc (.cells #[.string ⟨x.id.toArray⟩,.string ⟨x.ins.toArray⟩,.int .i64 x.acq,.int .i64 x.opn,.string ⟨x.q.toArray⟩,.string ⟨x.cost.toArray⟩,.string ⟨x.used.toArray⟩] 130)).heap.size=wr.heap.size+1 by simp] at h
    exact h
   have HAZ:Hid (((wr.alloc (.cells #[.string ⟨x.id.toArray⟩,.string ⟨x.ins.toArray⟩,.int .i64 x.acq,.int .i64 x.opn,.string ⟨x.q.toArray⟩,.string ⟨x.cost.toArray⟩,.string ⟨x.used.toArray⟩] 130)).alloc (.cells #[.string ⟨x.q.toArray⟩] 32)).heap.size=wr.heap.size+2):=by show _=_;simp
   have HCZ:Hid (B<=wr.heap.size):=by show _<=_;rw[HB.out];exact HBL.out.size
   have HX:=Lh hx;have HBQ:=Lh (bto hbA hbq);clear hbs hcells hx hbA hbq;go_wp2_with (at_builtin;refine ZN rfl _ _ 50 rfl B 32 i0 (.string ⟨#[]⟩) 1 16 underlying50 hi hz0 hz1 hz2 rfl (by decide) _ _ _ rfl (Z0 HO.out HBQ.out) ⟨wr.heap.size+1,0,none⟩ 1 1 [.string ⟨x.q.toArray⟩] rfl rfl ?c1 ?c2 ?c3 ?c4 ?c5 ?_)
   case c1=>
    intro j u hu;have hj:j<1:=VP hu
    match j,hj with
    | 0,_=>cases hu;exact Zg HAN.out 0
   case c2=>
    intro u hu;simp only[List.mem_cons,List.not_mem_nil,or_false] at hu;subst hu;rfl
   case c3=>unfold maxLen;omega
   case c4=>omega
   case c5=>have:=HCZ.out;have:=HAZ.out;omega
   intro v' w5 hown' hgrow hfresh;have HO':Hid (w5.ownsRow B 32 1 v' (k+1) (UI ((ys.map (·.q)).take (k+1)))):=by
    have hq:(ys.map (·.q))[k]?=some x.q:=by simp[HX.out]
    obtain⟨hk2,hxe⟩:=Lg.1 hq;show w5.ownsRow _ _ _ _ _ _;rw[List.take_succ_eq_append_getElem hk2,hxe,NH];exact hown'
   have HBL':Hid (Below w2.heap.size w2 w5):=by
    have h1:=bto HBL.out HBQ.out
    exact h1.grown hgrow h1.size (fun g hg=>by
     have:=(World.ownsRow.lt HO.out g hg).1
     have:=HB.out
     omega)
   clear hown' hgrow hfresh HO HBL HBQ HAN HAZ HCZ p0 p1 p2 p3 p4 p5 p6 q4 e1 e2 HX Y1 hi hz0 hz1 hz2;go_wp2;go_roundw
   case rel=>exact⟨k+1,v',by omega,rfl,by go_num,HO'.out,HBL'.out⟩
   case measure=>simp[intOf];omega
  ·have hkm:k=m:=by omega
   subst hkm;have e1:decide (k<k)=false:=Df (by omega)
   have e2:decide ((k:Int)<(k:Int))=false:=Df (by omega)
   have hfm:Hid ((ys.map (·.q)).take k=ys.map (·.q)):=by show _=_;rw[List.take_of_length_le (by rw[List.length_map];have:=HM.out;omega)]
   obtain⟨A3,c3,rfl⟩:∃A3 c3,v=.slice A3 k c3:=by
    rcases HO.out.2 with ⟨e,h0⟩|⟨g,cap,cur,e,-⟩
    ·exact⟨none,0,by rw[e,h0]⟩
    ·exact⟨_,_,e⟩
   have HI:Hid (WK wr A3 (ys.map (·.q)) k):=by
    refine⟨by rw[List.length_map,<-HM.out],by omega,fun r hr=>?_,?_⟩
    ·obtain⟨y,hy,rfl⟩:=List.mem_map.1 hr
     have:=(HL.out.sm y (HYM.out y hy)).q
     omega
    ·have h:=HO.out;rw[hfm.out] at h;exact Hb h (by rw[List.length_map,<-HM.out])
   have hbw:=bto HB2.out HBL.out;have HG3:=Lh (HG.out.below hbw);have X3:=Lh (X2.out.below HBL.out);have HBW3:=Lh hbw;have K4:=Lh (fun (w':World) (hb:Below wr.heap.size wr w')=>K4'.out w' (bto hbw hb))
   have KS:=Lh (fun (w':World) (hb:Below wr.heap.size wr w')=>G7 (T:=canon Z) c3 (HG3.out.below hb) (HI.out.below hb) HZL.out)
   clear HO hfm HI HLY HBL K4' X2 hbw;go_wp2_with fail;refine Zm (by kernel_rfl) (by kernel_rfl) ?_
   refine KeV ?_;simp only[Act.put,StT,StZ,StS,Nat.reduceAdd];refine KeW (fun ρ wz hw=>by have q0:wz.cell? ⟨w.heap.size,12,none⟩=some (.string ⟨f.pn.toArray⟩):=(X3.out.below hw).c 12;have q1:wz.cell? ⟨w.heap.size,13,none⟩=some (.string ⟨f.pd.toArray⟩):=(X3.out.below hw).c 13;go_simp;try rfl) ?_
   iterate 2
    simp only[Act.put,StT,StZ,StS,Nat.reduceAdd];refine KeV ?_
   simp only[Act.put,StT,StZ,StS,Nat.reduceAdd];refine KeW (fun ρ wz hw=>by have q0:wz.cell? ⟨w.heap.size,5,none⟩=some (.string ⟨f.ins.toArray⟩):=(X3.out.below hw).c 5;go_simp;try rfl) ?_
   simp only[Act.put,StT,StZ,StS,Nat.reduceAdd];refine KeC (fun wz hw=>K4.out wz hw) ?_
   simp only[Act.put,StT,StZ,StS,Nat.reduceAdd];refine KeC (fun wz hw=>K5.out.of HG3.out.g hw) ?_
   simp only[Act.put,StT,StZ,StS,Nat.reduceAdd];refine KeV ?_;simp only[Act.put,StT,StZ,StS,Nat.reduceAdd];refine ZC (fun ρ w3 hF=>?_)
   have KS3:=Lh (KS.out w3 hF.below);have HB3:=Lh (bto HBW3.out hF.below);clear hF K4 K5 KS X3 HBW3 HG3;go_wp2_with fail
   refine KS3.out.mono ?_
   rintro e w6 ⟨AP,ps,np,cq,err,rfl,hpl,hnp,hst,hpp,hb6⟩;have HPL:=Lh hpl;have HNP:=Lh hnp;have HST:=Lh hst;have HPP:=Lh hpp;have HB6:=Lh (bto HB3.out hb6);clear hpl hnp hst hpp hb6 KS3;go_wp2;refine bodyPost_ret (results_tmp2 (t:=4) (u:=5) rfl _ _ _) rfl ?_;exact⟨AP,ps,np,cq,rfl,HPL.out,HNP.out,HST.out,HPP.out,HB6.out⟩
theorem Zbl {P:Int->Prop} {w:World} {A:Option Addr} {xs:List Lot} {n:Nat} (c:Nat) {f:Fct} {Z:Int} (hG:GE w) (hL:Yf w A xs n) (hF:OG f) (hZ:pvZ f.pn f.pd (canon (ZL (ofL f.ins xs)))=Z) (hZl:(canon Z).length<=4900)
  (HC:∀w',GE w'->Below w.heap.size w w'->Calls prog 121 #[.agg (Zi f)] w' fun e w''=>(∃E:Int,e=.returned (.int .i64 E)/\P E)/\Below w'.heap.size w' w'') :
  Calls prog 14 #[.slice A n c,.agg (Zi f)] w fun e w'=>((∃R:Int,R≠0/\e=.returned (.tuple #[.slice none 0 0,.int .i64 R])/\(YM xs≠0∨∃E,P E/\R=Sn E f.canc f.kind [5,13]))∨(YM xs=0/\(∃E,P E/\Sn E f.canc f.kind [5,13]=0)/\∃AP ps np cq,e=.returned (.tuple #[.slice AP np cq,.int .i64 0])/\ps.length=np/\np<=1000/\Vy w' AP ps/\QZ (canon Z) ((ofL f.ins xs).map (·.q)) ps))/\Below w.heap.size w w':=by
 have hb0:=Zb w (.cells (Zi f) 48);obtain⟨h1,h2,hb,-⟩:=VH w (.cells (Zi f) 48) (.cells #[.int .i64 5,.int .i64 13] 3);have X0:Hid (Blk (w.alloc (.cells (Zi f) 48)) w.heap.size (Zi f)):=Blk.new w (Zi f) 48;have X1:Hid (Blk ((w.alloc (.cells (Zi f) 48)).alloc (.cells #[.int .i64 5,.int .i64 13] 3)) w.heap.size (Zi f)):=⟨_,h1⟩;have Y1:Blk ((w.alloc (.cells (Zi f) 48)).alloc (.cells #[.int .i64 5,.int .i64 13] 3)) (w.heap.size+1) #[.int .i64 5,.int .i64 13]:=⟨_,h2⟩;have C1:Hid (Calls prog 52 #[.slice A n c,.agg (Zi f),.slice (some ⟨w.heap.size+1,0,none⟩) 2 2] ((w.alloc (.cells (Zi f) 48)).alloc (.cells #[.int .i64 5,.int .i64 13] 3)) _):=Lh (J3 (P:=P) (zs:=[5,13]) c 2 (hG.below hb) (hL.below hb) Y1 (by decide) (fun w' hg hb'=>HC w' hg (bto hb hb')))
 have C2:=Lh (fun (w':World) (hb':Below w.heap.size w w')=>D3 c (hG.below hb') (hL.below hb') hF hZ hZl)
 have HB:=Lh hb;clear hG hL hF hZ hZl HC hb0 h1 h2 hb Y1;go_enter func14,ntmps14;go_wp2_with (refine Zj rfl 48 (.tmp 3) rfl w.heap.size rfl (Zi f) X0.out underlying48 rfl Zs ?_)
 refine C1.out.mono ?_
 rintro e w2 ⟨⟨R,rfl,hR⟩,hb2⟩;have X2:=Lh (X1.out.below hb2);have HB2:=Lh (bto HB.out hb2);have HR:=Lh hR;clear C1 hR hb2 X0 X1 HB
 by_cases h0:R=0
 rotate_left
 ·have e1:(R != 0)=true:=UG (Qu h0);have H0:=Lh h0;clear h0 C2;go_wp2;refine bodyPost_ret (results_tmp2 (t:=4) (u:=5) rfl _ _ _) rfl ?_;exact⟨.inl ⟨R,H0.out,rfl,HR.out.elim (fun h=>.inl h.1) (fun h=>.inr h.2)⟩,HB2.out⟩
 subst h0;have HR2:Hid (YM xs=0/\∃E,P E/\Sn E f.canc f.kind [5,13]=0):=by
  rcases HR.out with h|⟨h,E,h1,h2⟩
  ·exact absurd h.2 (by decide)
  ·exact⟨h,E,h1,h2.symm⟩
 have K2:=Lh (C2.out w2 HB2.out);clear HR C2;go_wp2_with (refine Zj rfl 48 (.tmp 3) rfl w.heap.size rfl (Zi f) X2.out underlying48 rfl Zs ?_)
 refine K2.out.mono ?_
 rintro e w6 ⟨AP,ps,np,cq,rfl,hpl,hnp,hst,hpp,hb6⟩;have HPL:=Lh hpl;have HNP:=Lh hnp;have HST:=Lh hst;have HPP:=Lh hpp;have HB6:=Lh (bto HB2.out hb6);clear hpl hnp hst hpp hb6 K2 X2;go_wp2;refine bodyPost_ret (results_tmp2 (t:=4) (u:=5) rfl _ _ _) rfl ?_;exact⟨.inr ⟨HR2.out.1,HR2.out.2,AP,ps,np,cq,rfl,HPL.out,HNP.out,HST.out,HPP.out⟩,HB6.out⟩
theorem VE {P:Program} {w:World} {d:Nat} {xs ys:Array Value} {f:Field} {fs:List Field} {a b:Value} {r B:Bool} (hn:f.name≠ "_") (h1:(part f.type xs f.offset).run P w=.ok a w) (h2:(part f.type ys f.offset).run P w=.ok b w) (h3:(Op.equalIn d f.type a b).run P w=.ok r w) (h4:(Op.eqFields d xs ys fs).run P w=.ok B w) :
  (Op.eqFields d xs ys (f::fs)).run P w=.ok (r&&B) w:=by
 unfold Op.eqFields;rw[if_pos hn];simp only[Sem.run_bind,h1,h2,h3,Result.andThen_ok];cases r
 ·simp
 ·simp[h4]
theorem AK {P:Program} {w:World} {d:Nat} {xs ys:Array Value}:(Op.eqFields d xs ys []).run P w=.ok true w:=by unfold Op.eqFields;simp
theorem Zcb (x:Lot) (w:World):(Op.equalIn 10000 130 (Value.agg #[.string ⟨x.id.toArray⟩,.string ⟨x.ins.toArray⟩,.int .i64 x.acq,.int .i64 x.opn,.string ⟨x.q.toArray⟩,.string ⟨x.cost.toArray⟩,.string ⟨x.used.toArray⟩]) (Value.agg #[.string ⟨x.id.toArray⟩,.string ⟨x.ins.toArray⟩,.int .i64 x.acq,.int .i64 x.opn,.string ⟨x.q.toArray⟩,.string ⟨x.cost.toArray⟩,.string ⟨x.used.toArray⟩])).run prog w=.ok true w:=by
 have hS:prog.underlying 130=some (.struct (prog.fieldsOf 130)):=by kernel_rfl
 have hp:prog.stoodInHeld 130=false:=by kernel_rfl
 rw[show (10000:Nat)=9999+1 from rfl,run_equalIn_agg w 9999 130 _ _ hS hp]
 simp only[Program.fieldsOf,underlying130];exact (VE (r:=true) (by decide) (a:=.string ⟨x.id.toArray⟩) (b:=.string ⟨x.id.toArray⟩) (by go_simp) (by go_simp) (by rw[run_equalIn_string w 9998 _ _ _ underlying9];simp) (VE (r:=true) (by decide) (a:=.string ⟨x.ins.toArray⟩) (b:=.string ⟨x.ins.toArray⟩) (by go_simp) (by go_simp) (by rw[run_equalIn_string w 9998 _ _ _ underlying9];simp) (VE (r:=true) (by decide) (a:=.int .i64 x.acq) (b:=.int .i64 x.acq) (by go_simp) (by go_simp) (by rw[run_equalIn_int w 9998 _ _ _ _ _ underlying39];simp) (VE (r:=true) (by decide) (a:=.int .i64 x.opn) (b:=.int .i64 x.opn) (by go_simp) (by go_simp) (by rw[run_equalIn_int w 9998 _ _ _ _ _ underlying39];simp) (VE (r:=true) (by decide) (a:=.string ⟨x.q.toArray⟩) (b:=.string ⟨x.q.toArray⟩) (by go_simp) (by go_simp) (by rw[run_equalIn_string w 9998 _ _ _ underlying32];simp) (VE (r:=true) (by decide) (a:=.string ⟨x.cost.toArray⟩) (b:=.string ⟨x.cost.toArray⟩) (by go_simp) (by go_simp) (by rw[run_equalIn_string w 9998 _ _ _ underlying32];simp) (VE (r:=true) (by decide) (a:=.string ⟨x.used.toArray⟩) (b:=.string ⟨x.used.toArray⟩) (by go_simp) (by go_simp) (by rw[run_equalIn_string w 9998 _ _ _ underlying32];simp) AK)))))))
theorem AL:prog.eqGuardType prog.depth 130=false:=by kernel_rfl
theorem Zbm (A B:Option Addr) (xs:List Lot) (n c c':Nat) (w:World) (hn:xs.length=n) (hn2:n<=1000000000) (h:Yc w A xs) (h':Yc w B xs) :
  Calls prog 60 #[.slice A n c,.slice B n c'] w fun e w'=>e=.returned (.bool true)/\Below w.heap.size w w':=by
 have H1:=Lh h;have H2:=Lh h';have hn1:xs.length<=n:=by omega
 have hn3:n<=xs.length:=by omega
 clear h h' hn;go_enter func60,ntmps60;go_wp2_with fail
 go_loopw [5,13] (fun _ iv wr=>∃k:Nat,k<=n/\iv=.int .i64 (k:Int)/\Below w.heap.size w wr) (fun _ iv _=>n-(intOf iv).toNat)
 case atStart=>exact⟨0,Nat.zero_le _,rfl,Below.refl _ _⟩
 case round=>
  obtain⟨k,hk,rfl,hb⟩:=hrel
  by_cases hlt:k<n
  ·obtain⟨x,hx⟩:∃x,xs[k]?=some x:=⟨_,List.getElem?_eq_getElem (by omega)⟩
   obtain⟨b,o,rfl,hbs,px⟩:=(H1.out.below hb) k x hx;obtain⟨b',o',rfl,hds,py⟩:=(H2.out.below hb) k x hx;clear hx;go_wp2_with fail;refine Zm (by kernel_rfl) (by kernel_rfl) ?_
   iterate 3
    refine KeV ?_;simp only[Act.put,StT,StZ,StS,Nat.reduceAdd]
   refine KeW (fun ρ w hw=>by have q0:=(hw.cell (p:=⟨b,o+k*7,none⟩) hbs).trans px.c0;have q1:=(hw.cell (p:=⟨b,o+k*7+1,none⟩) hbs).trans px.c1;have q2:=(hw.cell (p:=⟨b,o+k*7+2,none⟩) hbs).trans px.c2;have q3:=(hw.cell (p:=⟨b,o+k*7+3,none⟩) hbs).trans px.c3;have q4:=(hw.cell (p:=⟨b,o+k*7+4,none⟩) hbs).trans px.c4;have q5:=(hw.cell (p:=⟨b,o+k*7+5,none⟩) hbs).trans px.c5;have q6:=(hw.cell (p:=⟨b,o+k*7+6,none⟩) hbs).trans px.c6;go_simp;try rfl) ?_
   iterate 3
    simp only[Act.put,StT,StZ,StS,Nat.reduceAdd];refine KeV ?_
   simp only[Act.put,StT,StZ,StS,Nat.reduceAdd];refine KeW (fun ρ w hw=>by have q0:=(hw.cell (p:=⟨b',o'+k*7,none⟩) hds).trans py.c0;have q1:=(hw.cell (p:=⟨b',o'+k*7+1,none⟩) hds).trans py.c1;have q2:=(hw.cell (p:=⟨b',o'+k*7+2,none⟩) hds).trans py.c2;have q3:=(hw.cell (p:=⟨b',o'+k*7+3,none⟩) hds).trans py.c3;have q4:=(hw.cell (p:=⟨b',o'+k*7+4,none⟩) hds).trans py.c4;have q5:=(hw.cell (p:=⟨b',o'+k*7+5,none⟩) hds).trans py.c5;have q6:=(hw.cell (p:=⟨b',o'+k*7+6,none⟩) hds).trans py.c6;go_simp;try rfl) ?_
   simp only[Act.put,StT,StZ,StS,Nat.reduceAdd];refine KeW (fun ρ w hw=>by have hE:=Zcb x;have hEG:=AL;go_simp;try rfl) ?_
   simp only[Act.put,StT,StZ,StS,Nat.reduceAdd];refine ZC (fun ρ w6 hF=>?_)
   replace hb:=bto hb hF.below;clear hF px py;go_wp2;go_roundw
   case rel=>exact⟨k+1,by omega,by go_num,hb⟩
   case measure=>simp[intOf];omega
  ·go_wp2;go_ret;exact⟨rfl,hb⟩
theorem Zav (A B:Option Addr) (xs:List Lot) (n c c':Nat) (w:World) (hn:xs.length=n) (hn2:n<=1000000000) (h:Yc w A xs) (h':Yc w B xs) :
  Calls prog 19 #[.slice A n c,.slice B n c'] w fun e w'=>e=.returned (.bool true)/\Below w.heap.size w w':=by
 have C1:=Lh (Zbm A B xs n c c' w hn hn2 h h');clear h h' hn;go_enter func19,ntmps19;go_wp2_with fail
 refine C1.out.mono ?_
 rintro e w2 ⟨rfl,hb⟩;clear C1;go_wp2;go_ret;exact⟨rfl,hb⟩
theorem Hm {w:World} {f:Fct} {kd:Int} {A:Option Addr} {n c:Nat} :
  Calls prog 59 #[.int .i64 kd,.agg (Zi f),.slice A n c] w fun e w'=>(∃b,e=.returned (.slice (some ⟨b,0,none⟩) 1 1)/\w.heap.size<=b/\Blk w' b #[.int .i64 kd,.int .i64 f.day,.string ⟨f.key.toArray⟩,.string ⟨f.ins.toArray⟩,.string ⟨#[]⟩,.string ⟨#[]⟩,.slice A n c])/\Below w.heap.size w w':=by
 have hb0:=Zb w (.cells (Zi f) 48);have x0:=Blk.new w (Zi f) 48;have q3:(w.alloc (.cells (Zi f) 48)).cell? ⟨w.heap.size,3,none⟩=some (.int .i64 f.day):=x0.c 3;have q0:(w.alloc (.cells (Zi f) 48)).cell? ⟨w.heap.size,0,none⟩=some (.string ⟨f.key.toArray⟩):=x0.c 0;have q5:(w.alloc (.cells (Zi f) 48)).cell? ⟨w.heap.size,5,none⟩=some (.string ⟨f.ins.toArray⟩):=x0.c 5;obtain⟨h1,h2,hb,hz⟩:=VH w (.cells (Zi f) 48) (.cells #[.int .i64 kd,.int .i64 f.day,.string ⟨f.key.toArray⟩,.string ⟨f.ins.toArray⟩,.string ⟨#[]⟩,.string ⟨#[]⟩,.slice A n c] 66);have H2:=Lh h2;have HB:=Lh hb;clear x0 h1 h2 hb hz hb0;go_enter func59,ntmps59;go_wp2;go_ret;exact⟨⟨w.heap.size+1,rfl,Nat.le_succ _,_,H2.out⟩,HB.out⟩
theorem LU (A:Option Addr) (xs:List Lot) (n c:Nat) (w:World) (hn:xs.length=n) (hn2:n<=1000000) (h:Yc w A xs) :
  Calls prog 58 #[.slice A n c] w fun e w'=>∃A' c',e=.returned (.slice A' n c')/\Yc w' A' xs/\(∀g o,0<n->A'=some ⟨g,o,none⟩->w.heap.size<=g)/\Below w.heap.size w w':=by
 by_cases h0:0<n
 ·refine (DC A xs n c w hn h0 hn2 h).mono ?_;rintro e w' ⟨v,rfl,ht,hb⟩;obtain⟨A2,c2,rfl⟩:=ht.formN hn;obtain⟨g,c3,e3,hg,-⟩:=ht.row (by omega)
  refine⟨A2,c2,rfl,ht.lotAt rfl,fun g' o _ e=>?_,hb⟩
  rw[e] at e3;cases e3;exact hg
 have hz:n=0:=by omega
 subst hz;have hx:xs=[]:=List.length_eq_zero_iff.1 hn;subst hx;clear h hn hn2 h0;cases A with
 | none=>
  refine (AnyE.slices_Clone_nil Tryz.cloneLt 0 c w).mono ?_;rintro e w' ⟨rfl,rfl⟩;exact⟨none,0,rfl,fun i y hy=>by simp at hy,fun _ _ h=>absurd h (by decide),Below.refl _ _⟩
 | some a=>
  have q22:∀w,(binOp .eql 44 (.slice (some a) 0 c) (.slice none 0 0)).run prog w=.ok (.bool false) w:=fun w=>Lib.run_eql_slice_nil w _ _ (some a) 0 c 0 0 underlying44
  go_enter func58,ntmps58;go_wp2;go_ret;exact⟨_,_,rfl,fun i y hy=>by simp at hy,fun _ _ h=>absurd h (by decide),Zb _ _⟩
theorem Yc.turn {w w':World} {A:Option Addr} {xs:List Lot} {b:Nat} {ob:Obj} (h:Yc w A xs) (ht:YX w w' b ob) (hA:∀g o,0<xs.length->A=some ⟨g,o,none⟩->g≠b):Yc w' A xs:=fun i x hx=>by
 obtain⟨g,o,rfl,h1,h2⟩:=h i x hx;have e:=ht.old g (hA g o (by have:=(Lg.1 hx).1;omega) rfl)
 have q:∀k,w'.cell? ⟨g,k,none⟩=w.cell? ⟨g,k,none⟩:=fun k=>by simp[World.cell?,e]
 exact⟨g,o,rfl,by rw[ht.size];exact h1,⟨(q _).trans h2.c0,(q _).trans h2.c1,(q _).trans h2.c2,(q _).trans h2.c3,(q _).trans h2.c4,(q _).trans h2.c5,(q _).trans h2.c6⟩⟩
def Zaw (w:World) (own:List Lot) (n f:Nat) (rv:Bool) (e:Ending) (w':World):Prop:=∃g cp zs,e=.returned (.slice (some ⟨g,0,none⟩) n cp)/\w.heap.size<=g/\Yo w' g zs/\zs.Perm own/\Below w.heap.size w w'/\(rv=false->f=269->n<=20->O2 cfF own->zs=own)
theorem ZcN {w0 w:World} {g n c f:Nat} {caps:Array Value} {cf:Lot->Lot->Int} {xs ys:List Lot} (H:GV w0 g xs f caps cf) (h:SAt w0 g xs w ys) (hn:xs.length=n) (hn2:n<20) :
  Calls prog 275 #[.slice (some ⟨g,0,none⟩) n c,.int .i64 (n:Int),.func (.func f) #[] caps] w (Zat w0 g xs ys n cf):=by
 have HS:=Lh h;have HN:=Lh hn;have HH:=Lh H;have e1:decide (20<=n)=false:=Df (by omega)
 have e2:decide ((20:Int)<=(n:Int))=false:=Df (by omega)
 have e3:decide (20<n)=false:=Df (by omega)
 have e4:decide ((20:Int)<(n:Int))=false:=Df (by omega)
 clear h hn H;go_enter func275,ntmps275;go_wp2_with fail
 go_loopw [7,8] (fun av bv wr=>av=.int .i64 0/\bv=.int .i64 20/\Hid (SAt w0 g xs wr ys)) (fun _ _ _=>0)
 case atStart=>exact⟨rfl,rfl,HS.out⟩
 case round=>
  clear HS;obtain⟨rfl,rfl,HS⟩:=hrel;go_wp2_with fail;refine (ZcB HH.out HS.out HN.out (by omega) 0 n (Nat.zero_le _) (Nl _)).mono ?_
  rintro e w2 ⟨rfl,zs2,hs2,ho2⟩;have HS2:=Lh hs2;have HO2:=Lh ho2;clear hs2 ho2 HS;go_wp2_with fail
  rename World=>wo
  go_loopw [6,7,8,9] (fun sv _ _ _ wr=>sv=.int .i64 20/\Hid (SAt w0 g xs wr zs2)) (fun _ _ _ _ _=>0)
  case atStart=>exact⟨rfl,HS2.out⟩
  case round=>
   clear HS2;obtain⟨rfl,HS⟩:=hrel;go_wp2
   go_end0
   exact⟨rfl,zs2,HS.out,fun _=>HO2.out⟩
theorem AM {w:World} {g n c f:Nat} {caps:Array Value} {cf:Lot->Lot->Int} {xs:List Lot} (H:GV w g xs f caps cf) (h:Yo w g xs) (hn:xs.length=n) (hn2:n<20) :
  Calls prog 211 #[.slice (some ⟨g,0,none⟩) n c,.func (.func f) #[] caps] w (Zat w g xs xs n cf):=by
 have C1:=Lh (ZcN (c:=c) H ⟨h,List.Perm.refl _,Zq.refl _ _⟩ hn hn2);clear H h hn;go_enter func211,ntmps211;go_wp2_with fail;refine C1.out.mono ?_;rintro e w2 ⟨rfl,zs,hs,ho⟩;have HS:=Lh hs;have HO:=Lh ho;clear hs ho C1;go_wp2
 go_end0
 exact⟨rfl,zs,HS.out,HO.out⟩
theorem VF {w:World} {b:Nat} {old cs:Array Value} {ty:TypeId} (h:w.heap[b]?=some (.cells old ty (0,0))) (hs:old.size=cs.size):w.there b 0 cs.size/\YX w (w.setCells b 0 cs.toList) b (.cells cs ty (0,0)):=by
 refine⟨fun j hj=>⟨by rw[Zg h,Array.getElem?_eq_getElem (by omega)];rfl,Zn h _⟩,?_⟩
 have h1:=VM b ty cs.toList 0 old w h;have h2:=QH cs.toList [] old.toList (by simpa using hs)
 simp only[List.nil_append,List.length_nil,Array.toArray_toList] at h2
 rwa [h2] at h1
theorem AN {w:World} {own:List Lot} {A:Option Addr} {n:Nat} (c:Nat) (_:GE w) (hL:Yf w A own n) (h0:1<=n) (hn20:n<20) (nm:List UInt8) (bf:Nat) (hB:Blk w bf #[.func (.func 269) #[] #[]]) :
  Calls prog 167 #[.agg #[.string ⟨nm.toArray⟩,.func (.func 269) #[] (#[]),.bool false],.slice A n c] w (Zaw w own n 269 false):=by
 have hn:=hL.big;have HS:=Lh hL.sm;have HL:=Lh hL.len;have hbA:=Zb w (.cells #[.string ⟨nm.toArray⟩,.func (.func 269) #[] (#[]),.bool false] 240);have HE:=Lh (Blk.new w #[.string ⟨nm.toArray⟩,.func (.func 269) #[] (#[]),.bool false] 240);have C1:=Lh (Nq A own n c _ hL.len h0 (by omega) (hL.mem.below hbA))
 have hbl:=hB.lt;have HBA:=Lh (hB.below hbA);clear hL hB;go_enter func167,ntmps167;go_wp2_with fail;refine C1.out.mono ?_;rintro e w1 ⟨g,cp,rfl,hg,hr,hb1⟩;have hsz:(w.alloc (.cells #[.string ⟨nm.toArray⟩,.func (.func 269) #[] (#[]),.bool false] 240)).heap.size=w.heap.size+1:=by simp
 have hg0:w.heap.size<=g:=by omega
 have hgb:w.heap.size≠g:=by omega
 have hgbf:bf≠g:=by omega
 have HE1:=Lh (HE.out.below hb1);have HBF:=Lh (HBA.out.below hb1);replace hb1:=bto hbA hb1;replace hg:=hg0;have HSC:Hid (GV w1 g own 269 (#[]) cfF):=⟨Dh,fun W x y hb hx hy=>Za5 x y W⟩
 have CS:=Lh (AM (c:=cp) HSC.out hr HL.out hn20);have q1:=HE1.out.c 1;clear hr hsz HSC hbA HE HBA C1;go_wp2_with fail;refine CS.out.mono ?_;rintro e w2 ⟨rfl,zs,hz,ho⟩;have HZS:=Lh hz;have HO:=Lh ho;have q2:=(HE1.out.keepX hz.bw hgb).c 2;clear q1 CS hz ho HE1;have HR:Hid (Zaw w own n 269 false (.returned (.slice (some ⟨g,0,none⟩) n cp)) w2):=⟨g,cp,zs,rfl,hg0,HZS.out.row,HZS.out.perm,HZS.out.bw.lower hb1 (fun k hk=>by rw[hk];exact hg),fun _ _ h20 ho=>HO.out h20 ho⟩
 clear HZS;go_wp2;go_ret;exact HR.out
theorem D4 (w:World):Calls prog 158 #[.int .i64 1] w (Zb3 1 w):=
 (Za6 w).mono fun _ _ ⟨bf,he,h1,h2,h3⟩=>⟨[102,105,102,111],269,false,false,bf,he,h1,h2,h3,.inl ⟨rfl,rfl⟩,fun _=>⟨rfl,rfl,rfl⟩⟩
theorem Zbn (w:World):Calls prog 90 #[.int .i64 1] w fun e w'=>(∃s:List UInt8,e=.returned (.tuple #[.string ⟨s.toArray⟩,.int .i64 0]))/\Below w.heap.size w w':=by
 have C1:=Lh (D4 w);go_enter func90,ntmps90;go_wp2_with fail;refine C1.out.mono ?_;rintro e w1 ⟨nm,f,cap,rv,bf,rfl,-,-,hb,-,-⟩;have hbA:=Zb w1 (.cells #[.string ⟨nm.toArray⟩,.func (.func f) #[] (GW cap bf),.bool rv] 240);have B:=Blk.new w1 #[.string ⟨nm.toArray⟩,.func (.func f) #[] (GW cap bf),.bool rv] 240;have p0:=B.c 0;replace hb:=bto hb hbA;clear hbA B C1;go_wp2;go_ret2;exact⟨⟨nm,rfl⟩,hb⟩
def RZ:Array Value:=#[.slice none 0 0,.slice none 0 0,.slice none 0 0,.slice none 0 0]
theorem Xu:(prog.info? 60).map (·.size)=some 4:=by kernel_rfl
theorem Blk.turn {w w':World} {b b0:Nat} {cs:Array Value} {ob:Obj} (h:Blk w b cs) (ht:YX w w' b0 ob) (hne:b≠b0):Blk w' b cs:=by
 obtain⟨t,h⟩:=h;exact⟨t,(ht.old b hne).trans h⟩
def ZcO (f:Fct) (Z:Int) (ps:List (List UInt8)) (w:World) (v:Value):Prop:=(ps=[]/\v=.slice none 0 0)∨(ps≠[]/\∃be bt,v=.slice (some ⟨be,0,none⟩) 1 1/\Blk w be #[.int .i64 6,.int .i64 f.day,.string ⟨f.key.toArray⟩,.string ⟨f.ins.toArray⟩,.string ⟨#[]⟩,.string ⟨#[]⟩,.slice (some ⟨bt,0,none⟩) 1 1]/\Blk w bt #[.string ⟨#[97,109,111,117,110,116]⟩,.string ⟨(canon Z).toArray⟩])
theorem AO {E0:Int} {w:World} {A:Option Addr} {xs:List Lot} {n:Nat} (c:Nat) {f:Fct} {Z:Int} (hG:GE w) (hL:Yf w A xs n) (hF:OG f) (hZ:pvZ f.pn f.pd (canon (ZL (ofL f.ins xs)))=Z) (hZl:(canon Z).length<=4900)
  (HC:∀w',GE w'->Below w.heap.size w w'->Calls prog 121 #[.agg (Zi f)] w' fun e w''=>(∃E:Int,e=.returned (.int .i64 E)/\E=E0)/\Below w'.heap.size w' w'') (hl:YM xs=0) (hE:Sn E0 f.canc f.kind [5]=0) :
  Calls prog 18 #[.slice A n c,.agg (Zi f)] w fun e w'=>(∃A' c' v ps,e=.returned (.tuple #[.agg #[.slice A' n c',.slice none 0 0,.slice none 0 0,v],.int .i64 0])/\Yc w' A' xs/\QZ (canon Z) ((ofL f.ins xs).map (·.q)) ps/\ZcO f Z ps w' v)/\Below w.heap.size w w':=by
 have hn:=hL.len;have hn2:=hL.big;have X20:Hid (Blk ((w.alloc (.cells (Zi f) 48)).alloc (.cells #[.slice none 0 0,.slice none 0 0,.slice none 0 0,.slice none 0 0] 60)) w.heap.size (Zi f)):=(Blk.new w (Zi f) 48).below (Zb _ _);have X3:Hid (Blk (((w.alloc (.cells (Zi f) 48)).alloc (.cells #[.slice none 0 0,.slice none 0 0,.slice none 0 0,.slice none 0 0] 60)).alloc (.cells #[.int .i64 5] 3)) w.heap.size (Zi f)):=((Blk.new w (Zi f) 48).below (Zb _ _)).below (Zb _ _);have R3:Hid (Blk (((w.alloc (.cells (Zi f) 48)).alloc (.cells #[.slice none 0 0,.slice none 0 0,.slice none 0 0,.slice none 0 0] 60)).alloc (.cells #[.int .i64 5] 3)) (w.heap.size+1) #[.slice none 0 0,.slice none 0 0,.slice none 0 0,.slice none 0 0]):=by
  have h:=(Blk.new (w.alloc (.cells (Zi f) 48)) #[.slice none 0 0,.slice none 0 0,.slice none 0 0,.slice none 0 0] 60).below (Zb _ (.cells #[.int .i64 5] 3));rw[show (w.alloc (.cells (Zi f) 48)).heap.size=w.heap.size+1 by simp] at h
  exact h
 have Y3:Blk (((w.alloc (.cells (Zi f) 48)).alloc (.cells #[.slice none 0 0,.slice none 0 0,.slice none 0 0,.slice none 0 0] 60)).alloc (.cells #[.int .i64 5] 3)) (w.heap.size+2) #[.int .i64 5]:=by
  have h:=Blk.new ((w.alloc (.cells (Zi f) 48)).alloc (.cells #[.slice none 0 0,.slice none 0 0,.slice none 0 0,.slice none 0 0] 60)) #[.int .i64 5] 3;rw[show ((w.alloc (.cells (Zi f) 48)).alloc (.cells #[.slice none 0 0,.slice none 0 0,.slice none 0 0,.slice none 0 0] 60)).heap.size=w.heap.size+2 by simp] at h
  exact h
 have hb:Below w.heap.size w (((w.alloc (.cells (Zi f) 48)).alloc (.cells #[.slice none 0 0,.slice none 0 0,.slice none 0 0,.slice none 0 0] 60)).alloc (.cells #[.int .i64 5] 3)):=bto (Zb _ _) (bto (Zb _ _) (Zb _ _));have C1:Hid (Calls prog 52 #[.slice A n c,.agg (Zi f),.slice (some ⟨w.heap.size+2,0,none⟩) 1 1] (((w.alloc (.cells (Zi f) 48)).alloc (.cells #[.slice none 0 0,.slice none 0 0,.slice none 0 0,.slice none 0 0] 60)).alloc (.cells #[.int .i64 5] 3)) _):=Lh (J3 (P:=fun E=>E=E0) (zs:=[5]) c 1 (hG.below hb) (hL.below hb) Y3 (by decide) (fun w' hg hb'=>HC w' hg (bto hb hb')))
 have C2:=Lh (fun (w':World) (hb':Below w.heap.size w w')=>D3 c (hG.below hb') (hL.below hb') hF hZ hZl)
 have C3:=Lh (fun (w':World) (hb':Below w.heap.size w w')=>LU A xs n c w' hn (by omega) (hL.mem.below hb'))
 have HB:=Lh hb;have HE:=Lh hE;have HL0:=Lh hl;clear hG hL hF hZ hZl HC hb Y3 hE hl hn2;go_enter func18,ntmps18;go_wp2_with (refine Zj rfl 48 (.tmp 3) rfl w.heap.size rfl (Zi f) X20.out underlying48 rfl Zs ?_)
 refine C1.out.mono ?_
 rintro e w2 ⟨⟨R,rfl,hR⟩,hb2⟩;have hR0:R=0:=by
  rcases hR with h|⟨-,E,h1,h2⟩
  ·exact absurd HL0.out h.1
  ·rw[h2,show E=E0 from h1,HE.out]
 subst hR0;have X2:=Lh (X3.out.below hb2);have R2:=Lh (R3.out.below hb2);have HB2:=Lh (bto HB.out hb2);have K3:=Lh (C3.out w2 HB2.out);clear C1 hR hb2 X3 R3 HB C3;go_wp2_with fail
 refine K3.out.mono ?_
 rintro e w3 ⟨A',c',rfl,hla,hfr,hb3⟩;have HFR:Hid (∀g o,0<xs.length->A'=some ⟨g,o,none⟩->g≠w.heap.size+1/\g≠w3.heap.size):=fun g o h0 e=>by
  have h1:=hfr g o (by omega) e
  have h2:=R2.out.lt;subst e;obtain⟨x,hx⟩:∃x,xs[0]?=some x:=⟨_,List.getElem?_eq_getElem h0⟩
  obtain⟨b,o',e,h3,-⟩:=hla 0 x hx;cases e;omega
 have HNE:Hid (w.heap.size+1<w3.heap.size):=Nat.lt_of_lt_of_le R2.out.lt hb3.size;clear hfr;have X4:=Lh (X2.out.below hb3);have R4:=Lh (R2.out.below hb3);have HB3:=Lh (bto HB2.out hb3);have HLA:=Lh hla;clear K3 hla hb3 X2 R2 HB2;have hb4:=Zb w3 (.cells #[.slice A' n c',.slice none 0 0,.slice none 0 0,.slice none 0 0] 60);have N4:Hid (Blk (w3.alloc (.cells #[.slice A' n c',.slice none 0 0,.slice none 0 0,.slice none 0 0] 60)) w3.heap.size #[.slice A' n c',.slice none 0 0,.slice none 0 0,.slice none 0 0]):=Blk.new _ _ _;have K2:=Lh (C2.out _ (bto HB3.out hb4));have X5:=Lh (X4.out.below hb4);have R5:=Lh (R4.out.below hb4);have HB5:=Lh (bto HB3.out hb4);have HLA5:=Lh (HLA.out.below hb4);clear C2 hb4 X4 R4 HLA;go_wp2_with (refine Zj rfl 48 (.tmp 3) rfl w.heap.size rfl (Zi f) X5.out underlying48 rfl Zs ?_)
 refine K2.out.mono ?_
 rintro e w6 ⟨AP,ps,np,cq,rfl,hpl,hnp,-,hpp,hb6⟩;have X6:=Lh (X5.out.below hb6);have R6:=Lh (R5.out.below hb6);have N6:=Lh (N4.out.below hb6);have HB6:=Lh (bto HB5.out hb6);have HLA6:=Lh (HLA5.out.below hb6);have HPP:=Lh hpp;clear K2 hb6 X5 R5 N4 HB5 HLA5 hpp
 by_cases h0:np=0
 ·subst h0;have hps:ps=[]:=List.length_eq_zero_iff.1 hpl;obtain⟨ty,hR⟩:=R6.out;obtain⟨r1,r2⟩:=VF (cs:=#[.slice A' n c',.slice none 0 0,.slice none 0 0,.slice none 0 0]) hR rfl;have HTH:=Lh r1;obtain⟨wE,hwE⟩:∃wE,wE=w6.setCells (w.heap.size+1) 0 (#[.slice A' n c',.slice none 0 0,.slice none 0 0,.slice none 0 0]:Array Value).toList:=⟨_,rfl⟩
  have HWE:=Lh hwE;rw[<-hwE] at r2;have HRR:=Lh r2.new;have HLE:=Lh (HLA6.out.turn r2 (fun g o h e=>(HFR.out g o h e).1))
  have HBE:Hid (Below w.heap.size w wE):=by rw[hwE];exact Lib.below_setCells _ (by omega) _ _ HB6.out
  have HI:Hid ((prog.info? 60).map (·.size)=some (#[.slice A' n c',.slice none 0 0,.slice none 0 0,.slice none 0 0]:Array Value).size):=Xu
  have HM:Hid ((#[.slice A' n c',.slice none 0 0,.slice none 0 0,.slice none 0 0]:Array Value).all (·.oneCell')=true):=all_oneCell_toArray (cs:=[.slice A' n c',.slice none 0 0,.slice none 0 0,.slice none 0 0]) (fun v hv=>by simp only[List.mem_cons,List.not_mem_nil,or_false] at hv;rcases hv with rfl|rfl|rfl|rfl<;>rfl)
  have HPS:=Lh hps;clear r1 r2 hR hwE hps hpl hnp R6 X6;go_wp2_with (first|(refine Zj rfl 60 (.tmp 7) rfl w3.heap.size rfl #[.slice A' n c',.slice none 0 0,.slice none 0 0,.slice none 0 0] N6.out underlying60 rfl HI.out ?_)|(refine wpList_store_mid rfl 60 (.tmp 4) (.tmp 36) rfl (w.heap.size+1) 0 #[.slice A' n c',.slice none 0 0,.slice none 0 0,.slice none 0 0] rfl rfl HTH.out HI.out HM.out ?_;rw[<-HWE.out]))
  refine bodyPost_ret (v:=.tuple #[.agg #[.slice A' n c',.slice none 0 0,.slice none 0 0,.slice none 0 0],.int .i64 0]) ?_ rfl ?_
  ·exact results_cell_tmp Tryz.f18 4 5 60 #[.slice A' n c',.slice none 0 0,.slice none 0 0,.slice none 0 0] (.int .i64 0) rfl rfl rfl (Z9 HRR.out) underlying60 rfl HI.out
  exact⟨⟨A',c',_,ps,rfl,HLE.out,HPP.out,.inl ⟨HPS.out,rfl⟩⟩,HBE.out⟩
 ·have hps:ps≠[]:=fun e=>h0 (by rw[<-hpl,e];rfl)
  have e1:decide (0<np)=true:=Dt (by omega)
  have e2:decide ((0:Int)<(np:Int))=true:=Dt (by omega)
  have HPS:=Lh hps;clear hps hpl hnp h0;have l1:=N6.out.lt;have l2:=R6.out.lt;have hb7:=Zb w6 (.cells #[.string ⟨#[97,109,111,117,110,116]⟩,.string ⟨List.toArray (canon Z)⟩] 68);have T7:Hid (Blk (w6.alloc (.cells #[.string ⟨#[97,109,111,117,110,116]⟩,.string ⟨List.toArray (canon Z)⟩] 68)) w6.heap.size #[.string ⟨#[97,109,111,117,110,116]⟩,.string ⟨List.toArray (canon Z)⟩]):=Blk.new _ _ _;have K7:=Lh (Hm (w:=w6.alloc (.cells #[.string ⟨#[97,109,111,117,110,116]⟩,.string ⟨List.toArray (canon Z)⟩] 68)) (f:=f) (kd:=6) (A:=some ⟨w6.heap.size,0,none⟩) (n:=1) (c:=1));go_wp2_with (refine Zj rfl 48 (.tmp 3) rfl w.heap.size rfl (Zi f) X6.out underlying48 rfl Zs ?_)
  refine K7.out.mono ?_
  rintro e w8 ⟨⟨be,rfl,hbe,hbk⟩,hb8⟩;have hb68:=bto hb7 hb8;have N8:=Lh (N6.out.below hb68);have R8:=Lh (R6.out.below hb68);have T8:=Lh (T7.out.below hb8);have HLA8:=Lh (HLA6.out.below hb68);have HB8:=Lh (bto HB6.out hb68);have HBK:=Lh hbk;have q3:w8.cell? ⟨w3.heap.size,3,none⟩=some (.slice none 0 0):=N8.out.c 3;have f3:w8.frozen? ⟨w3.heap.size,3,none⟩=false:=by obtain⟨ty,h⟩:=N8.out;exact Zn h _
  have hbe':w6.heap.size+1<=be:=by have:=hbe;simp at this;exact this
  have l3:=HNE.out;obtain⟨ty8,hN8⟩:=N8.out;have ht:=Wt w8 w3.heap.size 3 _ (.slice (some ⟨be,0,none⟩) 1 1) ty8 hN8;have N9:Hid (Blk (w8.setCell ⟨w3.heap.size,3,none⟩ (.slice (some ⟨be,0,none⟩) 1 1)) w3.heap.size #[.slice A' n c',.slice none 0 0,.slice none 0 0,.slice (some ⟨be,0,none⟩) 1 1]):=⟨ty8,ht.new⟩;have R9:=R8.out.turn ht (by omega)
  have T9:=T8.out.turn ht (by omega)
  have K9:=HBK.out.turn ht (by omega)
  have L9:=HLA8.out.turn ht (fun g o h e=>(HFR.out g o h e).2)
  have hb9:Below w.heap.size w (w8.setCell ⟨w3.heap.size,3,none⟩ (.slice (some ⟨be,0,none⟩) 1 1)):=HB8.out.setCell (p:=⟨w3.heap.size,3,none⟩) HB3.out.size _;obtain⟨ty,hR⟩:=R9;obtain⟨r1,r2⟩:=VF (cs:=#[.slice A' n c',.slice none 0 0,.slice none 0 0,.slice (some ⟨be,0,none⟩) 1 1]) hR rfl;have HTH:=Lh r1;obtain⟨wE,hwE⟩:∃wE,wE=(w8.setCell ⟨w3.heap.size,3,none⟩ (.slice (some ⟨be,0,none⟩) 1 1)).setCells (w.heap.size+1) 0 (#[.slice A' n c',.slice none 0 0,.slice none 0 0,.slice (some ⟨be,0,none⟩) 1 1]:Array Value).toList:=⟨_,rfl⟩
  have HWE:=Lh hwE;rw[<-hwE] at r2;have HRR:=Lh r2.new;have HLE:=Lh (L9.turn r2 (fun g o h e=>(HFR.out g o h e).1))
  have HTE:=Lh (T9.turn r2 (by omega))
  have HKE:=Lh (K9.turn r2 (by omega))
  have HBE:Hid (Below w.heap.size w wE):=by rw[hwE];exact Lib.below_setCells _ (by omega) _ _ hb9
  have HI:Hid ((prog.info? 60).map (·.size)=some (#[.slice A' n c',.slice none 0 0,.slice none 0 0,.slice (some ⟨be,0,none⟩) 1 1]:Array Value).size):=Xu
  have HM:Hid ((#[.slice A' n c',.slice none 0 0,.slice none 0 0,.slice (some ⟨be,0,none⟩) 1 1]:Array Value).all (·.oneCell')=true):=all_oneCell_toArray (cs:=[.slice A' n c',.slice none 0 0,.slice none 0 0,.slice (some ⟨be,0,none⟩) 1 1]) (fun v hv=>by simp only[List.mem_cons,List.not_mem_nil,or_false] at hv;rcases hv with rfl|rfl|rfl|rfl<;>rfl)
  clear K7 hbk hb8 hb7 hb68 T7 N6 R6 X6 N8 R8 T8 HLA8 HB8 HBK hbe hbe' l1 l2 l3 hN8 ht T9 K9 L9 hb9 hR r1 r2 hwE;go_wp2_with (first|(refine Zj rfl 60 (.tmp 7) rfl w3.heap.size rfl #[.slice A' n c',.slice none 0 0,.slice none 0 0,.slice (some ⟨be,0,none⟩) 1 1] N9.out underlying60 rfl HI.out ?_)|(refine wpList_store_mid rfl 60 (.tmp 4) (.tmp 36) rfl (w.heap.size+1) 0 #[.slice A' n c',.slice none 0 0,.slice none 0 0,.slice (some ⟨be,0,none⟩) 1 1] rfl rfl HTH.out HI.out HM.out ?_;rw[<-HWE.out]))
  refine bodyPost_ret (v:=.tuple #[.agg #[.slice A' n c',.slice none 0 0,.slice none 0 0,.slice (some ⟨be,0,none⟩) 1 1],.int .i64 0]) ?_ rfl ?_
  ·exact results_cell_tmp Tryz.f18 4 5 60 #[.slice A' n c',.slice none 0 0,.slice none 0 0,.slice (some ⟨be,0,none⟩) 1 1] (.int .i64 0) rfl rfl rfl (Z9 HRR.out) underlying60 rfl HI.out
  exact⟨⟨A',c',_,ps,rfl,HLE.out,HPP.out,.inr ⟨HPS.out,be,w6.heap.size,rfl,HKE.out,HTE.out⟩⟩,HBE.out⟩
end Go.Proofs.YtpieeldbamklkaaGreatDoor
