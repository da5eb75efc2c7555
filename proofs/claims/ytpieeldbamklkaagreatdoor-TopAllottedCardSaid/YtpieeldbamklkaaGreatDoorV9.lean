/- Texts put together: Rc Rd Rx Ry Rz Re. -/
import Derived.Test.YtpieeldbamklkaaGreatDoorV8
set_option maxHeartbeats 8000000
set_option maxRecDepth 100000
open Go.Proofs.Tryz
namespace Go.Proofs.YtpieeldbamklkaaGreatDoor
open Go.RowKit Num
def cfF (x y:Lot):Int:=PE x.acq y.acq
def cfU (x y:Lot):Int:=ZH (val x.cost*val y.q) (val y.cost*val x.q)
theorem J6 (x y:Lot) (w:World):Calls prog 269 #[(Value.agg (Zn x)),(Value.agg (Zn y))] w fun e w'=>e=.returned (Zi (cfF x y))/\Below w.heap.size w w':=by
 have C1:=Lh (fun w'=>Zde x.acq y.acq w')
 obtain⟨v,hv⟩:∃v,v=cfF x y:=⟨_,rfl⟩
 rw[show PE x.acq y.acq=v from hv.symm] at C1
 rw[<-hv];clear hv;have hbA:=Zh w (.cells (Zn x) 130);have hbB:=Zh (w.alloc (.cells (Zn x) 130)) (.cells (Zn y) 130);have x1:Yq ((w.alloc (.cells (Zn x) 130)).alloc (.cells (Zn y) 130)) w.heap.size x:=(Yq.new w x 130).below hbB;have x2:Yq ((w.alloc (.cells (Zn x) 130)).alloc (.cells (Zn y) 130)) (w.heap.size+1) y:=by
  have:=Yq.new (w.alloc (.cells (Zn x) 130)) y 130
  rwa [show (w.alloc (.cells (Zn x) 130)).heap.size=w.heap.size+1 by simp] at this
 have hb:=bto hbA hbB;clear hbA hbB;have q0:=x1.c2;have q1:=x2.c2;clear x1 x2;go_enter func269,ntmps269;go_wp2_with fail
 refine (C1.out _).mono ?_
 rintro e w3 ⟨rfl,rfl⟩;go_wp2;go_ret;exact⟨rfl,hb⟩
theorem OZ (args:Array Value) (w:World):(callFunc 269 args).run prog w=.ok (.enter 269 args) w:=by kernel_rfl
theorem D4 (args:Array Value) (w:World):(callFunc 271 args).run prog w=.ok (.enter 271 args) w:=by kernel_rfl
theorem D5 (args:Array Value) (w:World):(callFunc 274 args).run prog w=.ok (.enter 274 args) w:=by kernel_rfl
theorem Za5 {x y:Lot} (hx:Vh x) (hy:Vh y):WQ 273 #[(Value.agg (Zn x)),(Value.agg (Zn y))] (Zi (cfU x y)):=fun w hG=>by
 have a1:=Yf x.cost y.q;have a2:=Yf y.cost x.q;have b1:=hx.cost;have b2:=hx.q;have b3:=hy.cost;have b4:=hy.q;have C1:=Lh (IR (l:=x.cost) (l':=y.q) (by omega) (by omega) rfl)
 have C2:=Lh (IR (l:=y.cost) (l':=x.q) (by omega) (by omega) rfl)
 have C3:=Lh (ZF (l:=canon (val x.cost*val y.q)) (l':=canon (val y.cost*val x.q)) (c:=cfU x y) (by omega) (by omega) (by rw[Zm,Zm];rfl))
 generalize cfU x y=v at *;generalize canon (val x.cost*val y.q)=m1 at *;generalize canon (val y.cost*val x.q)=m2 at *;clear a1 a2 b1 b2 b3 b4 hx hy;have hbA:=Zh w (.cells (Zn x) 130);have hbB:=Zh (w.alloc (.cells (Zn x) 130)) (.cells (Zn y) 130);have x1:Yq ((w.alloc (.cells (Zn x) 130)).alloc (.cells (Zn y) 130)) w.heap.size x:=(Yq.new w x 130).below hbB;have x2:Yq ((w.alloc (.cells (Zn x) 130)).alloc (.cells (Zn y) 130)) (w.heap.size+1) y:=by
  have:=Yq.new (w.alloc (.cells (Zn x) 130)) y 130
  rwa [show (w.alloc (.cells (Zn x) 130)).heap.size=w.heap.size+1 by simp] at this
 have hb:=bto hbA hbB;clear hbA hbB;go_enter func273,ntmps273;go_wp2_with fail;refine Zx (by kernel_rfl) (by kernel_rfl) ?_
 refine PeV ?_;refine PeW (fun ρ wz hw=>by have q0:=(x1.below hw).c5;go_simp;try rfl) ?_
 refine PeV ?_;refine PeW (fun ρ wz hw=>by have q0:=(x2.below hw).c4;go_simp;try rfl) ?_
 refine PeC (fun wz hw=>C1.out.e.of hG (bto hb hw)) ?_
 refine PeV ?_;refine PeW (fun ρ wz hw=>by have q0:=(x2.below hw).c5;go_simp;try rfl) ?_
 refine PeV ?_;refine PeW (fun ρ wz hw=>by have q0:=(x1.below hw).c4;go_simp;try rfl) ?_
 refine PeC (fun wz hw=>C2.out.e.of hG (bto hb hw)) ?_
 refine PeC (fun wz hw=>C3.out.e.of hG (bto hb hw)) ?_
 refine PeV ?_;intro ρ w2 hF;dsimp only;have hb2:=bto hb hF.below;clear hF C1 C2 C3 x1 x2 hb;go_wp2;go_ret;exact⟨rfl,hb2⟩
theorem Zao (x y:Lot) (hx:Vh x) (hy:Vh y) (bf:Nat) (w:World) (hG:GE w) (hf0:Blk w bf #[.func (.func 269) #[] #[]]) :
  Calls prog 271 #[(Value.agg (Zn x)),(Value.agg (Zn y)),.pointer (some ⟨bf,0,none⟩)] w fun e w'=>e=.returned (Zi (orZ (cfU x y) (cfF x y)))/\Below w.heap.size w w':=by
 have HZ:=Lh YS;have CU:=Lh (Za5 hx hy);have CF:=Lh (fun w'=>J6 x y w')
 obtain⟨u,hu⟩:∃u,u=(cfU x y):=⟨_,rfl⟩
 obtain⟨v,hv⟩:∃v,v=cfF x y:=⟨_,rfl⟩
 rw[<-hu] at CU ⊢;rw[<-hv] at CF ⊢;clear hu hv hx hy;have hbA:=Zh w (.cells (Zn x) 130);have hbB:=Zh (w.alloc (.cells (Zn x) 130)) (.cells (Zn y) 130);have x1:Yq ((w.alloc (.cells (Zn x) 130)).alloc (.cells (Zn y) 130)) w.heap.size x:=(Yq.new w x 130).below hbB;have x2:Yq ((w.alloc (.cells (Zn x) 130)).alloc (.cells (Zn y) 130)) (w.heap.size+1) y:=by
  have:=Yq.new (w.alloc (.cells (Zn x) 130)) y 130
  rwa [show (w.alloc (.cells (Zn x) 130)).heap.size=w.heap.size+1 by simp] at this
 have hb:=bto hbA hbB;clear hbA hbB;have hf:=hf0.below hb;clear hf0;go_enter func271,ntmps271;go_wp2_with fail;refine Wk (by simp) (by simp) (by kernel_rfl) (by kernel_rfl) (by kernel_rfl) (by kernel_rfl) (by kernel_rfl) ?_
 simp only[List.dropLast_cons_cons,List.dropLast_singleton,List.getLast_cons_cons,List.getLast_singleton];refine PkV (.agg (Zn x)) (fun _=>rfl) (fun ρ wz hw=>Zo 130 _ rfl (w.heap.size) 0 rfl (lcs x) _ (Yj (x1.below hw)).out underlying130 rfl (by rw[HZ.out];rfl)) ?_
 refine PkV (.agg (Zn y)) (fun _=>rfl) (fun ρ wz hw=>Zo 130 _ rfl (w.heap.size+1) 0 rfl (lcs y) _ (Yj (x2.below hw)).out underlying130 rfl (by rw[HZ.out];rfl)) ?_
 refine PeC (fun wz hw=>CU.out.of hG (bto hb hw)) ?_
 refine PkV (.func (.func 269) #[] #[]) (fun _=>rfl) (fun ρ wz hw=>by have q0:=(hf.below hw).c 0;go_simp;try rfl) ?_
 refine PkV (.agg (Zn x)) (fun _=>rfl) (fun ρ wz hw=>Zo 130 _ rfl (w.heap.size) 0 rfl (lcs x) _ (Yj (x1.below hw)).out underlying130 rfl (by rw[HZ.out];rfl)) ?_
 refine PkV (.agg (Zn y)) (fun _=>rfl) (fun ρ wz hw=>Zo 130 _ rfl (w.heap.size+1) 0 rfl (lcs y) _ (Yj (x2.below hw)).out underlying130 rfl (by rw[HZ.out];rfl)) ?_
 refine PkC _ _ _ (fun _=>rfl) (fun ρ wz hw=>by have q0:=fun args w=>OZ args w;go_simp;try rfl) (fun wz hw=>CF.out wz) ?_
 refine Sq (fun b=>.slice (some ⟨b,0,none⟩) 2 2) (.cells #[Zi u,Zi v] 3) rfl (fun _=>rfl) (fun ρ wz hw=>by go_simp;try rfl) ?_
 simp only[Act.put,StT,StZ,StS,Nat.reduceAdd];intro ρ w2 hF;dsimp only;have hB:=(hF.box 7 _ _ rfl).2;have hb2:=bto hb hF.below;generalize ρ 7=bb at *;have h0:w2.cell? ⟨bb,0,none⟩=some (Zi u):=Zk hB 0;have h1:w2.cell? ⟨bb,1,none⟩=some (Zi v):=Zk hB 1;clear hF hB CU CF hb x1 x2 hf;go_wp2_with fail
 refine (JU bb u v w2 h0 h1).mono ?_
 rintro e w3 ⟨rfl,rfl⟩;go_wp2;go_ret;exact⟨rfl,hb2⟩
theorem D6 (x y:Lot) (hx:Vh x) (hy:Vh y) (bf:Nat) (w:World) (hG:GE w) (hf0:Blk w bf #[.func (.func 269) #[] #[]]) :
  Calls prog 274 #[(Value.agg (Zn x)),(Value.agg (Zn y)),.pointer (some ⟨bf,0,none⟩)] w fun e w'=>e=.returned (Zi (orZ (cfU y x) (cfF x y)))/\Below w.heap.size w w':=by
 have HZ:=Lh YS;have CU:=Lh (Za5 hy hx);have CF:=Lh (fun w'=>J6 x y w')
 obtain⟨u,hu⟩:∃u,u=(cfU y x):=⟨_,rfl⟩
 obtain⟨v,hv⟩:∃v,v=cfF x y:=⟨_,rfl⟩
 rw[<-hu] at CU ⊢;rw[<-hv] at CF ⊢;clear hu hv hx hy;have hbA:=Zh w (.cells (Zn x) 130);have hbB:=Zh (w.alloc (.cells (Zn x) 130)) (.cells (Zn y) 130);have x1:Yq ((w.alloc (.cells (Zn x) 130)).alloc (.cells (Zn y) 130)) w.heap.size x:=(Yq.new w x 130).below hbB;have x2:Yq ((w.alloc (.cells (Zn x) 130)).alloc (.cells (Zn y) 130)) (w.heap.size+1) y:=by
  have:=Yq.new (w.alloc (.cells (Zn x) 130)) y 130
  rwa [show (w.alloc (.cells (Zn x) 130)).heap.size=w.heap.size+1 by simp] at this
 have hb:=bto hbA hbB;clear hbA hbB;have hf:=hf0.below hb;clear hf0;go_enter func274,ntmps274;go_wp2_with fail;refine Wk (by simp) (by simp) (by kernel_rfl) (by kernel_rfl) (by kernel_rfl) (by kernel_rfl) (by kernel_rfl) ?_
 simp only[List.dropLast_cons_cons,List.dropLast_singleton,List.getLast_cons_cons,List.getLast_singleton];refine PkV (.agg (Zn y)) (fun _=>rfl) (fun ρ wz hw=>Zo 130 _ rfl (w.heap.size+1) 0 rfl (lcs y) _ (Yj (x2.below hw)).out underlying130 rfl (by rw[HZ.out];rfl)) ?_
 refine PkV (.agg (Zn x)) (fun _=>rfl) (fun ρ wz hw=>Zo 130 _ rfl (w.heap.size) 0 rfl (lcs x) _ (Yj (x1.below hw)).out underlying130 rfl (by rw[HZ.out];rfl)) ?_
 refine PeC (fun wz hw=>CU.out.of hG (bto hb hw)) ?_
 refine PkV (.func (.func 269) #[] #[]) (fun _=>rfl) (fun ρ wz hw=>by have q0:=(hf.below hw).c 0;go_simp;try rfl) ?_
 refine PkV (.agg (Zn x)) (fun _=>rfl) (fun ρ wz hw=>Zo 130 _ rfl (w.heap.size) 0 rfl (lcs x) _ (Yj (x1.below hw)).out underlying130 rfl (by rw[HZ.out];rfl)) ?_
 refine PkV (.agg (Zn y)) (fun _=>rfl) (fun ρ wz hw=>Zo 130 _ rfl (w.heap.size+1) 0 rfl (lcs y) _ (Yj (x2.below hw)).out underlying130 rfl (by rw[HZ.out];rfl)) ?_
 refine PkC _ _ _ (fun _=>rfl) (fun ρ wz hw=>by have q0:=fun args w=>OZ args w;go_simp;try rfl) (fun wz hw=>CF.out wz) ?_
 refine Sq (fun b=>.slice (some ⟨b,0,none⟩) 2 2) (.cells #[Zi u,Zi v] 3) rfl (fun _=>rfl) (fun ρ wz hw=>by go_simp;try rfl) ?_
 simp only[Act.put,StT,StZ,StS,Nat.reduceAdd];intro ρ w2 hF;dsimp only;have hB:=(hF.box 7 _ _ rfl).2;have hb2:=bto hb hF.below;generalize ρ 7=bb at *;have h0:w2.cell? ⟨bb,0,none⟩=some (Zi u):=Zk hB 0;have h1:w2.cell? ⟨bb,1,none⟩=some (Zi v):=Zk hB 1;clear hF hB CU CF hb x1 x2 hf;go_wp2_with fail
 refine (JU bb u v w2 h0 h1).mono ?_
 rintro e w3 ⟨rfl,rfl⟩;go_wp2;go_ret;exact⟨rfl,hb2⟩
theorem YX {P:Program} (fn:Func) (a:Tmp) (t:TypeId) {tmps:Array Value} {w:World} {b:Nat} (cs:Array Value) {d:TypeDesc} (hr:fn.results=#[.cell a t]) (ha:tmps.getD a undef=.pointer (some ⟨b,0,none⟩)) (hc:w.rangeAt b 0 cs.toList)
  (hu:P.underlying t=some d) (hd:d.isRow=true) (hi:(P.info? t).map (·.size)=some cs.size):(results fn tmps).run P w=.ok (.agg cs) w:=by
 unfold results;rw[hr];have h:=run_loadVar_mid w b 0 t cs.toList d hc hu hd (by simpa using hi)
 have ha':tmps[a]?.getD undef=.pointer (some ⟨b,0,none⟩):=by rw[<-Array.getD_eq_getD_getElem?];exact ha
 simp[ha',asAddr,h]
theorem results_cell_tmp {P:Program} (fn:Func) (a c:Tmp) (t:TypeId) {tmps:Array Value} {w:World} {b:Nat} (cs:Array Value) (u:Value) {d:TypeDesc} (hr:fn.results=#[.cell a t,.tmp c]) (ha:tmps.getD a undef=.pointer (some ⟨b,0,none⟩)) (hcu:tmps.getD c undef=u) (hc:w.rangeAt b 0 cs.toList)
  (hu:P.underlying t=some d) (hd:d.isRow=true) (hi:(P.info? t).map (·.size)=some cs.size):(results fn tmps).run P w=.ok (.tuple #[.agg cs,u]) w:=by
 unfold results;rw[hr];have h:=run_loadVar_mid w b 0 t cs.toList d hc hu hd (by simpa using hi)
 have ha':tmps[a]?.getD undef=.pointer (some ⟨b,0,none⟩):=by rw[<-Array.getD_eq_getD_getElem?];exact ha
 have hc':tmps[c]?.getD undef=u:=by rw[<-Array.getD_eq_getD_getElem?];exact hcu
 simp[ha',hc',asAddr,h]
theorem Xp {w:World} {b:Nat} {cs:Array Value} {t:TypeId} (h:w.heap[b]?=some (.cells cs t (0,0))):w.there b 0 cs.size:=fun j hj=>by
 rw[Nat.zero_add];exact⟨by rw[Zk h,Array.getElem?_eq_getElem hj];rfl,Zt h _⟩
theorem Ye {w:World} {b:Nat} {cs:Array Value} {t:TypeId} (h:w.heap[b]?=some (.cells cs t (0,0))):w.rangeAt b 0 cs.toList:=fun j v hv=>by
 rw[Nat.zero_add,Zk h,<-hv,Array.getElem?_toList]
abbrev Ym:Array Value:=#[Zj,.nilFunc,.bool false,Zj,.nilFunc,.bool false,Zj,.nilFunc,.bool false,Zj,.nilFunc,.bool false,Zj,.nilFunc,.bool false,Zj,.nilFunc,.bool false,Zj,.nilFunc,.bool false]
def YT (bf:Nat):Array Value:=#[Zj,.nilFunc,.bool false,.string ⟨#[102,105,102,111]⟩,.func (.func 269) #[] #[],.bool false,.string ⟨#[108,105,102,111]⟩,.func (.func 269) #[] #[],.bool true,.string ⟨#[104,105,103,104,101,115,116]⟩,.func (.func 274) #[] #[.pointer (some ⟨bf,0,none⟩)],.bool false,.string ⟨#[108,111,119,101,115,116]⟩,.func (.func 271) #[] #[.pointer (some ⟨bf,0,none⟩)],.bool false,.string ⟨#[110,97,109,101,100]⟩,.func (.func 269) #[] #[],.bool false,.string ⟨#[97,118,101,114,97,103,101]⟩,.func (.func 269) #[] #[],.bool false]
theorem SY (bf:Nat):(YT bf).all (·.oneCell')=true:=by simp[YT,Value.oneCell']
theorem XF (bf:Nat):(YT bf).size=21:=rfl
theorem QI:(prog.info? 293).map (·.size)=some 21:=by kernel_rfl
theorem O0:(prog.info? 240).map (·.size)=some 3:=by kernel_rfl
theorem QJ:∀(l pre suf:List Value),suf.length=l.length->Yp (pre++suf).toArray pre.length l=(pre++l).toArray
 | [],pre,suf,h=>by
  have:suf=[]:=List.eq_nil_of_length_eq_zero h
  subst this;rfl
 | v::l,pre,[],h=>by simp at h
 | v::l,pre,s::suf,h=>by
  have ih:=QJ l (pre++[v]) suf (by simpa using h)
  unfold Yp;have e:(pre++s::suf).toArray.setIfInBounds pre.length v=(pre++[v]++suf).toArray:=by simp
  rw[e,show pre.length+1=(pre++[v]).length by simp,ih]
  simp
theorem Tq (bf:Nat):Yp Ym 0 (YT bf).toList=YT bf:=by
 have h:=QJ (YT bf).toList [] [Zj,.nilFunc,.bool false,Zj,.nilFunc,.bool false,Zj,.nilFunc,.bool false,Zj,.nilFunc,.bool false,Zj,.nilFunc,.bool false,Zj,.nilFunc,.bool false,Zj,.nilFunc,.bool false] rfl;exact h
theorem O2 {P:Program} {ops:Array Oper} {rest:List Oper} {op:Oper} {a:Act} {w:World} {Q:Exit->Act->World->Prop} (hgd:op.guard=none) (ty:TypeId) (fs:Array (Nat×Operand)) (_ho:op.op=.build ty fs) (v:Value) (hr:(execOp a.eval op).run P w=.ok (.value v) w)
  (h:wpList P ops Q rest (a.put op.dst v) w):wpList P ops Q (op::rest) a w:=by
 exact wpList_plain hgd fun K hK=>by
  unfold Oper.wp;rw[hr];exact hK _ _ h
def Zdv (w:World) (e:Ending) (w':World):Prop:=∃bf,e=.returned (.agg (YT bf))/\w.heap.size<=bf/\Blk w' bf #[.func (.func 269) #[] #[]]/\Below w.heap.size w w'
theorem L4 (w:World):Calls prog 208 #[] w (Zdv w):=by
 have HZ:=Lh QI;have hbA:=Zh w (.cells Ym 293);have hbB:=Zh (w.alloc (.cells Ym 293)) (.cells #[.func (.func 269) #[] #[]] 238);have hb:=bto hbA hbB;have hz:(w.alloc (.cells Ym 293)).heap.size=w.heap.size+1:=by simp
 have hA:Hid (((w.alloc (.cells Ym 293)).alloc (.cells #[.func (.func 269) #[] #[]] 238)).heap[w.heap.size]?=some (.cells Ym 293 (0,0))):=Zv (ZJ w _) hbB;have hB:Hid (((w.alloc (.cells Ym 293)).alloc (.cells #[.func (.func 269) #[] #[]] 238)).heap[w.heap.size+1]?=some (.cells #[.func (.func 269) #[] #[]] 238 (0,0))):=by
  have:=ZJ (w.alloc (.cells Ym 293)) (.cells #[.func (.func 269) #[] #[]] 238)
  rwa [hz] at this
 have q0:((w.alloc (.cells Ym 293)).alloc (.cells #[.func (.func 269) #[] #[]] 238)).cell? ⟨w.heap.size+1,0,none⟩=some (.func (.func 269) #[] #[]):=Zk hB.out 0;have hM:=SY (w.heap.size+1);have hS:=Tq (w.heap.size+1);clear hbA hbB hz;have hTH:((w.alloc (.cells Ym 293)).alloc (.cells #[.func (.func 269) #[] #[]] 238)).there w.heap.size 0 (YT (w.heap.size+1)).size:=by rw[XF];exact Xp hA.out
 have hIN:(prog.info? 293).map (·.size)=some (YT (w.heap.size+1)).size:=by rw[XF];exact HZ.out
 have hT:=VO w.heap.size 293 (YT (w.heap.size+1)).toList 0 _ _ hA.out;rw[hS] at hT;have hb2:Below w.heap.size w (((w.alloc (.cells Ym 293)).alloc (.cells #[.func (.func 269) #[] #[]] 238)).setCells w.heap.size 0 (YT (w.heap.size+1)).toList):=
  (ZM (X:=fun k=>k=w.heap.size) rfl _ _ _).lower hb (fun k hk=>by rw[hk];exact Nl _)
 have hN:=hT.new;have hO:=(hT.old (w.heap.size+1) (by omega)).trans hB.out
 have HN:=Lh hN;have HO:=Lh hO;have HB2:=Lh hb2;clear hN hO hA hB hT hb hS hb2;go_enter func208,ntmps208
 go_wp2_with (first
  | (refine O2 rfl 293 _ rfl (.agg (YT (w.heap.size+1))) (by unfold YT;go_simp;first|done|rfl|rfl) ?_)
  | (refine wpList_store_mid rfl 293 (.tmp 0) (.tmp 18) rfl w.heap.size 0 (YT (w.heap.size+1)) rfl rfl hTH hIN hM ?_))
 refine bodyPost_ret (v:=.agg (YT (w.heap.size+1))) ?_ rfl ?_
 ·exact YX Tryz.f208 0 293 (YT (w.heap.size+1)) rfl rfl (Ye HN.out) underlying293 rfl HZ.out
 exact⟨w.heap.size+1,rfl,Nat.le_succ _,⟨_,HO.out⟩,HB2.out⟩
def ZcP (w:World) (nm:Value) (fv:Nat->Value) (rv:Bool) (e:Ending) (w':World):Prop:=∃bf,e=.returned (.tuple #[.agg #[nm,fv bf,.bool rv],.bool true])/\w.heap.size<=bf/\Blk w' bf #[.func (.func 269) #[] #[]]/\Below w.heap.size w w'
def WL (cap:Bool) (bf:Nat):Array Value:=if cap=true then #[.pointer (some ⟨bf,0,none⟩)] else #[]
theorem QK (j:Nat) (nm:List UInt8) (f:Nat) (cap rv:Bool) (h1:1<=j) (h6:j<=6) (hc:∀bf,(YT bf)[j*3]?=some (Zg nm)/\(YT bf)[j*3+1]?=some (.func (.func f) #[] (WL cap bf))/\(YT bf)[j*3+2]?=some (.bool rv)) (w:World):Calls prog 158 #[Zi (j:Int)] w (ZcP w (Zg nm) (fun bf=>.func (.func f) #[] (WL cap bf)) rv):=by
 have e1:decide ((j:Int)<1)=false:=Df (by omega)
 have e2:decide (7<=(j:Int))=false:=Df (by omega)
 have e3:decide (j<7)=true:=Dt (by omega)
 have HZ:=Lh QI;have HE:=Lh O0;have hb:=Zh w (.cells #[Zj,.nilFunc,.bool false] 240);have hr:Hid ((w.alloc (.cells #[Zj,.nilFunc,.bool false] 240)).heap[w.heap.size]?=some (.cells #[Zj,.nilFunc,.bool false] 240 (0,0))):=ZJ w _;have C1:=Lh (L4 (w.alloc (.cells #[Zj,.nilFunc,.bool false] 240)));go_enter func158,ntmps158;go_wp2_with fail;refine C1.out.mono ?_;rintro e w1 ⟨bf,rfl,hbf,hB,hb1⟩;have hr1:=Lh (Zv hr.out hb1);have hbf2:w.heap.size<=bf:=by
  have h1:(w.alloc (.cells #[Zj,.nilFunc,.bool false] 240)).heap.size=w.heap.size+1:=by simp
  omega
 replace hb:=bto hb hb1;have hlr:w.heap.size<w1.heap.size:=(Ag.1 hr1.out).1;have hne:w1.heap.size≠w.heap.size:=by omega
 have hbA:=Zh w1 (.cells Ym 293);have hA:Hid ((w1.alloc (.cells Ym 293)).heap[w1.heap.size]?=some (.cells Ym 293 (0,0))):=ZJ w1 _;have hM:=SY bf;have hS:=Tq bf;have HB:=Lh (hB.below hbA);have hbl:=hB.lt;have hr2:=Lh (Zv hr1.out hbA);replace hb:=bto hb hbA;clear hr hr1 C1 hbf hB hb1 hbA;have hTH:(w1.alloc (.cells Ym 293)).there w1.heap.size 0 (YT bf).size:=by rw[XF];exact Xp hA.out
 have hIN:(prog.info? 293).map (·.size)=some (YT bf).size:=by rw[XF];exact HZ.out
 have hT:=VO w1.heap.size 293 (YT bf).toList 0 _ _ hA.out;rw[hS] at hT;have hb2:Below w.heap.size w ((w1.alloc (.cells Ym 293)).setCells w1.heap.size 0 (YT bf).toList):=
  (ZM (X:=fun k=>k=w1.heap.size) rfl _ _ _).lower hb (fun k hk=>by rw[hk];omega)
 have hN:=Lh hT.new;have hr3:Hid (((w1.alloc (.cells Ym 293)).setCells w1.heap.size 0 (YT bf).toList).heap[w.heap.size]?=some (.cells #[Zj,.nilFunc,.bool false] 240 (0,0))):=(hT.old _ (by omega)).trans hr2.out
 have HB2:Hid (Blk ((w1.alloc (.cells Ym 293)).setCells w1.heap.size 0 (YT bf).toList) bf #[.func (.func 269) #[] #[]]):=by
  obtain⟨t0,h0⟩:=HB.out;exact⟨t0,(hT.old bf (by omega)).trans h0⟩
 obtain⟨W2,hW2⟩:∃W2,W2=((w1.alloc (.cells Ym 293)).setCells w1.heap.size 0 (YT bf).toList):=⟨_,rfl⟩
 rw[<-hW2] at hN hr3 HB2 hb2;clear hA hT hS HB hr2 hb;have p0:W2.cell? ⟨w1.heap.size,j*3,none⟩=some (Zg nm):=(Zk hN.out _).trans (hc bf).1;have p1:W2.cell? ⟨w1.heap.size,j*3+1,none⟩=some (.func (.func f) #[] (WL cap bf)):=(Zk hN.out _).trans (hc bf).2.1;have p2:W2.cell? ⟨w1.heap.size,j*3+2,none⟩=some (.bool rv):=(Zk hN.out _).trans (hc bf).2.2;have g0:W2.cell? ⟨w.heap.size,0,none⟩=some (Zj):=Zk hr3.out 0;have g1:W2.cell? ⟨w.heap.size,1,none⟩=some .nilFunc:=Zk hr3.out 1;have g2:W2.cell? ⟨w.heap.size,2,none⟩=some (.bool false):=Zk hr3.out 2;have f0:W2.frozen? ⟨w.heap.size,0,none⟩=false:=Zt hr3.out 0;have f1:W2.frozen? ⟨w.heap.size,1,none⟩=false:=Zt hr3.out 1;have f2:W2.frozen? ⟨w.heap.size,2,none⟩=false:=Zt hr3.out 2;have hR:(((W2.setCell ⟨w.heap.size,0,none⟩ (Zg nm)).setCell ⟨w.heap.size,1,none⟩ (.func (.func f) #[] (WL cap bf))).setCell ⟨w.heap.size,2,none⟩ (.bool rv)).rangeAt w.heap.size 0 [Zg nm,.func (.func f) #[] (WL cap bf),.bool rv]:=Ye (hset _ (hset _ (hset _ hr3.out)));have HW2:=Lh hW2;clear hW2;go_wp2_with (refine wpList_store_mid rfl 293 (.tmp 4) (.tmp 5) rfl w1.heap.size 0 (YT bf) rfl rfl hTH hIN hM ?_;rw[<-HW2.out]);refine bodyPost_ret (v:=.tuple #[.agg #[Zg nm,.func (.func f) #[] (WL cap bf),.bool rv],.bool true]) ?_ rfl ?_
 ·exact results_cell_tmp Tryz.f158 2 3 240 #[Zg nm,.func (.func f) #[] (WL cap bf),.bool rv] (.bool true) rfl rfl rfl hR underlying240 rfl HE.out
 refine⟨bf,rfl,hbf2,?_,((hb2.setCell (p:=⟨w.heap.size,0,none⟩) (Nl _) _).setCell (p:=⟨w.heap.size,1,none⟩) (Nl _) _).setCell (p:=⟨w.heap.size,2,none⟩) (Nl _) _⟩;have hn:bf≠w.heap.size:=by
  intro e
  have:=HB2.out
  rw[e] at this;obtain⟨t0,h0⟩:=this;rw[hr3.out] at h0;cases h0
 exact ((HB2.out.setO hn).setO hn).setO hn
def D7 (f:Nat) (cap:Bool):Prop:=(f=269/\cap=false)∨(f=271/\cap=true)∨(f=274/\cap=true)
def ZcQ (m:Int) (w:World) (e:Ending) (w':World):Prop:=∃(nm:List UInt8) (f:Nat) (cap rv:Bool) (bf:Nat),e=.returned (.tuple #[.agg #[Zg nm,.func (.func f) #[] (WL cap bf),.bool rv],.bool true])/\w.heap.size<=bf/\Blk w' bf #[.func (.func 269) #[] #[]]/\Below w.heap.size w w'/\D7 f cap/\(m=1->f=269/\cap=false/\rv=false)
theorem PV {m:Int} (h1:1<=m) (h6:m<=6) (w:World):Calls prog 158 #[Zi m] w (ZcQ m w):=by
 have h:m=1∨m=2∨m=3∨m=4∨m=5∨m=6:=by omega
 rcases h with rfl|rfl|rfl|rfl|rfl|rfl
 ·exact (QK 1 [102,105,102,111] 269 false false (by decide) (by decide) (fun bf=>⟨rfl,rfl,rfl⟩) w).mono fun e w' ⟨bf,he,h1,h2,h3⟩=>⟨[102,105,102,111],269,false,false,bf,he,h1,h2,h3,.inl ⟨rfl,rfl⟩,fun _=>⟨rfl,rfl,rfl⟩⟩
 ·exact (QK 2 [108,105,102,111] 269 false true (by decide) (by decide) (fun bf=>⟨rfl,rfl,rfl⟩) w).mono fun e w' ⟨bf,he,h1,h2,h3⟩=>⟨[108,105,102,111],269,false,true,bf,he,h1,h2,h3,.inl ⟨rfl,rfl⟩,fun h=>by omega⟩
 ·exact (QK 3 [104,105,103,104,101,115,116] 274 true false (by decide) (by decide) (fun bf=>⟨rfl,rfl,rfl⟩) w).mono fun e w' ⟨bf,he,h1,h2,h3⟩=>⟨[104,105,103,104,101,115,116],274,true,false,bf,he,h1,h2,h3,.inr (.inr ⟨rfl,rfl⟩),fun h=>by omega⟩
 ·exact (QK 4 [108,111,119,101,115,116] 271 true false (by decide) (by decide) (fun bf=>⟨rfl,rfl,rfl⟩) w).mono fun e w' ⟨bf,he,h1,h2,h3⟩=>⟨[108,111,119,101,115,116],271,true,false,bf,he,h1,h2,h3,.inr (.inl ⟨rfl,rfl⟩),fun h=>by omega⟩
 ·exact (QK 5 [110,97,109,101,100] 269 false false (by decide) (by decide) (fun bf=>⟨rfl,rfl,rfl⟩) w).mono fun e w' ⟨bf,he,h1,h2,h3⟩=>⟨[110,97,109,101,100],269,false,false,bf,he,h1,h2,h3,.inl ⟨rfl,rfl⟩,fun h=>by omega⟩
 ·exact (QK 6 [97,118,101,114,97,103,101] 269 false false (by decide) (by decide) (fun bf=>⟨rfl,rfl,rfl⟩) w).mono fun e w' ⟨bf,he,h1,h2,h3⟩=>⟨[97,118,101,114,97,103,101],269,false,false,bf,he,h1,h2,h3,.inl ⟨rfl,rfl⟩,fun h=>by omega⟩
theorem D8 {m:Int} (h:m<1∨7<=m) (w:World):Calls prog 158 #[Zi m] w fun e w'=>e=.returned (.tuple #[.agg #[Zj,.nilFunc,.bool false],.bool false])/\Below w.heap.size w w':=by
 have HZ:=Lh QI;have HE:=Lh O0;have hb:=Zh w (.cells #[Zj,.nilFunc,.bool false] 240);have hr:Hid ((w.alloc (.cells #[Zj,.nilFunc,.bool false] 240)).heap[w.heap.size]?=some (.cells #[Zj,.nilFunc,.bool false] 240 (0,0))):=ZJ w _;have C1:=Lh (L4 (w.alloc (.cells #[Zj,.nilFunc,.bool false] 240)))
 by_cases g1:m<1
 ·have e1:decide (m<1)=true:=Dt g1;clear h;go_enter func158,ntmps158;go_wp2_with fail;refine C1.out.mono ?_;rintro e w1 ⟨bf,rfl,hbf,hB,hb1⟩;have hr1:=Lh (Zv hr.out hb1);replace hb:=bto hb hb1;have hlr:w.heap.size<w1.heap.size:=(Ag.1 hr1.out).1;have hne:w1.heap.size≠w.heap.size:=by omega
  have hbA:=Zh w1 (.cells Ym 293);have hA:Hid ((w1.alloc (.cells Ym 293)).heap[w1.heap.size]?=some (.cells Ym 293 (0,0))):=ZJ w1 _;have hM:=SY bf;have hS:=Tq bf;have hr2:=Lh (Zv hr1.out hbA);replace hb:=bto hb hbA;clear hr hr1 C1 hbf hB hb1 hbA;have hTH:(w1.alloc (.cells Ym 293)).there w1.heap.size 0 (YT bf).size:=by rw[XF];exact Xp hA.out
  have hIN:(prog.info? 293).map (·.size)=some (YT bf).size:=by rw[XF];exact HZ.out
  have hT:=VO w1.heap.size 293 (YT bf).toList 0 _ _ hA.out;rw[hS] at hT;have hb2:Below w.heap.size w ((w1.alloc (.cells Ym 293)).setCells w1.heap.size 0 (YT bf).toList):=
   (ZM (X:=fun k=>k=w1.heap.size) rfl _ _ _).lower hb (fun k hk=>by rw[hk];omega)
  have hr3:Hid (((w1.alloc (.cells Ym 293)).setCells w1.heap.size 0 (YT bf).toList).heap[w.heap.size]?=some (.cells #[Zj,.nilFunc,.bool false] 240 (0,0))):=(hT.old _ (by omega)).trans hr2.out
  obtain⟨W2,hW2⟩:∃W2,W2=((w1.alloc (.cells Ym 293)).setCells w1.heap.size 0 (YT bf).toList):=⟨_,rfl⟩
  rw[<-hW2] at hr3 hb2;clear hA hT hS hr2 hb;have g0:W2.cell? ⟨w.heap.size,0,none⟩=some (Zj):=Zk hr3.out 0;have g1':W2.cell? ⟨w.heap.size,1,none⟩=some .nilFunc:=Zk hr3.out 1;have g2:W2.cell? ⟨w.heap.size,2,none⟩=some (.bool false):=Zk hr3.out 2;have f0:W2.frozen? ⟨w.heap.size,0,none⟩=false:=Zt hr3.out 0;have f1:W2.frozen? ⟨w.heap.size,1,none⟩=false:=Zt hr3.out 1;have f2:W2.frozen? ⟨w.heap.size,2,none⟩=false:=Zt hr3.out 2;have hR:(((W2.setCell ⟨w.heap.size,0,none⟩ (Zj)).setCell ⟨w.heap.size,1,none⟩ .nilFunc).setCell ⟨w.heap.size,2,none⟩ (.bool false)).rangeAt w.heap.size 0 [Zj,.nilFunc,.bool false]:=Ye (hset _ (hset _ (hset _ hr3.out)));have HW2:=Lh hW2;clear hW2;go_wp2_with (refine wpList_store_mid rfl 293 (.tmp 4) (.tmp 5) rfl w1.heap.size 0 (YT bf) rfl rfl hTH hIN hM ?_;rw[<-HW2.out]);refine bodyPost_ret (v:=.tuple #[.agg #[Zj,.nilFunc,.bool false],.bool false]) ?_ rfl ?_
  ·exact results_cell_tmp Tryz.f158 2 3 240 #[Zj,.nilFunc,.bool false] (.bool false) rfl rfl rfl hR underlying240 rfl HE.out
  exact⟨rfl,((hb2.setCell (p:=⟨w.heap.size,0,none⟩) (Nl _) _).setCell (p:=⟨w.heap.size,1,none⟩) (Nl _) _).setCell (p:=⟨w.heap.size,2,none⟩) (Nl _) _⟩
 ·have e1:decide (m<1)=false:=Df g1;have e2:decide (7<=m)=true:=Dt (by omega)
  clear h;go_enter func158,ntmps158;go_wp2_with fail;refine C1.out.mono ?_;rintro e w1 ⟨bf,rfl,hbf,hB,hb1⟩;have hr1:=Lh (Zv hr.out hb1);replace hb:=bto hb hb1;have hlr:w.heap.size<w1.heap.size:=(Ag.1 hr1.out).1;have hne:w1.heap.size≠w.heap.size:=by omega
  have hbA:=Zh w1 (.cells Ym 293);have hA:Hid ((w1.alloc (.cells Ym 293)).heap[w1.heap.size]?=some (.cells Ym 293 (0,0))):=ZJ w1 _;have hM:=SY bf;have hS:=Tq bf;have hr2:=Lh (Zv hr1.out hbA);replace hb:=bto hb hbA;clear hr hr1 C1 hbf hB hb1 hbA;have hTH:(w1.alloc (.cells Ym 293)).there w1.heap.size 0 (YT bf).size:=by rw[XF];exact Xp hA.out
  have hIN:(prog.info? 293).map (·.size)=some (YT bf).size:=by rw[XF];exact HZ.out
  have hT:=VO w1.heap.size 293 (YT bf).toList 0 _ _ hA.out;rw[hS] at hT;have hb2:Below w.heap.size w ((w1.alloc (.cells Ym 293)).setCells w1.heap.size 0 (YT bf).toList):=
   (ZM (X:=fun k=>k=w1.heap.size) rfl _ _ _).lower hb (fun k hk=>by rw[hk];omega)
  have hr3:Hid (((w1.alloc (.cells Ym 293)).setCells w1.heap.size 0 (YT bf).toList).heap[w.heap.size]?=some (.cells #[Zj,.nilFunc,.bool false] 240 (0,0))):=(hT.old _ (by omega)).trans hr2.out
  obtain⟨W2,hW2⟩:∃W2,W2=((w1.alloc (.cells Ym 293)).setCells w1.heap.size 0 (YT bf).toList):=⟨_,rfl⟩
  rw[<-hW2] at hr3 hb2;clear hA hT hS hr2 hb;have g0:W2.cell? ⟨w.heap.size,0,none⟩=some (Zj):=Zk hr3.out 0;have g1':W2.cell? ⟨w.heap.size,1,none⟩=some .nilFunc:=Zk hr3.out 1;have g2:W2.cell? ⟨w.heap.size,2,none⟩=some (.bool false):=Zk hr3.out 2;have f0:W2.frozen? ⟨w.heap.size,0,none⟩=false:=Zt hr3.out 0;have f1:W2.frozen? ⟨w.heap.size,1,none⟩=false:=Zt hr3.out 1;have f2:W2.frozen? ⟨w.heap.size,2,none⟩=false:=Zt hr3.out 2;have hR:(((W2.setCell ⟨w.heap.size,0,none⟩ (Zj)).setCell ⟨w.heap.size,1,none⟩ .nilFunc).setCell ⟨w.heap.size,2,none⟩ (.bool false)).rangeAt w.heap.size 0 [Zj,.nilFunc,.bool false]:=Ye (hset _ (hset _ (hset _ hr3.out)));have HW2:=Lh hW2;clear hW2;go_wp2_with (refine wpList_store_mid rfl 293 (.tmp 4) (.tmp 5) rfl w1.heap.size 0 (YT bf) rfl rfl hTH hIN hM ?_;rw[<-HW2.out]);refine bodyPost_ret (v:=.tuple #[.agg #[Zj,.nilFunc,.bool false],.bool false]) ?_ rfl ?_
  ·exact results_cell_tmp Tryz.f158 2 3 240 #[Zj,.nilFunc,.bool false] (.bool false) rfl rfl rfl hR underlying240 rfl HE.out
  exact⟨rfl,((hb2.setCell (p:=⟨w.heap.size,0,none⟩) (Nl _) _).setCell (p:=⟨w.heap.size,1,none⟩) (Nl _) _).setCell (p:=⟨w.heap.size,2,none⟩) (Nl _) _⟩
theorem ZcR {m:Int} (h1:1<=m) (h6:m<=6) (w:World):Calls prog 90 #[Zi m] w fun e w'=>(∃s:List UInt8,e=.returned (.tuple #[Zg s,Zi 0]))/\Below w.heap.size w w':=by
 have C1:=Lh (PV h1 h6 w);clear h1 h6;go_enter func90,ntmps90;go_wp2_with fail;refine C1.out.mono ?_;rintro e w1 ⟨nm,f,cap,rv,bf,rfl,-,-,hb,-,-⟩;have hbA:=Zh w1 (.cells #[Zg nm,.func (.func f) #[] (WL cap bf),.bool rv] 240);have B:=Blk.new w1 #[Zg nm,.func (.func f) #[] (WL cap bf),.bool rv] 240;have p0:=B.c 0;replace hb:=bto hb hbA;clear hbA B C1;go_wp2;go_ret2;exact⟨⟨nm,rfl⟩,hb⟩
theorem ZbT {m:Int} (h:m<1∨7<=m) (w:World):Calls prog 90 #[Zi m] w fun e w'=>e=.returned (.tuple #[Zj,Zi 7])/\Below w.heap.size w w':=by
 have C1:=Lh (D8 h w);clear h;go_enter func90,ntmps90;go_wp2_with fail;refine C1.out.mono ?_;rintro e w1 ⟨rfl,hb⟩;have hbA:=Zh w1 (.cells #[Zj,.nilFunc,.bool false] 240);replace hb:=bto hb hbA;clear hbA C1;go_wp2;go_ret2;exact⟨rfl,hb⟩
open Go.Shelf
def RZ:Array Value:=#[.slice none 0 0,.slice none 0 0,.slice none 0 0,.slice none 0 0]
theorem U5:(prog.info? 60).map (·.size)=some 4:=by kernel_rfl
theorem FB {w:World} {A:Option Addr} {n c:Nat} {FC capv capw:Array Value} {fv fw:Nat} {err:Int} {v:Value} (hen:∀(args:Array Value) w,(callFunc fv args).run prog w=.ok (.enter fv args) w) (hE:err≠0)
  (hK:∀w',Below w.heap.size w w'->Calls prog fv capv w' fun e w''=>e=.returned (.tuple #[v,Zi err])/\Below w'.heap.size w' w'') :
  Calls prog 94 #[.slice A n c,.agg FC,.func (.func fv) #[] capv,.func (.func fw) #[] capw] w fun e w'=>e=.returned (.tuple #[.agg RZ,Zi err])/\Below w.heap.size w w':=by
 have HK:=Lh hK;have HEN:=Lh hen;clear hK hen;have g1:decide (err=0)=false:=Df hE;obtain⟨-,hH,hb,-⟩:=V9 w (.cells FC 48) (.cells RZ 60);have HH:=Lh hH;have HB:=Lh hb;have HI:Hid ((prog.info? 60).map (·.size)=some RZ.size):=U5
 have HM:Hid (RZ.all (·.oneCell')=true):=all_oneCell_toArray (cs:=[.slice none 0 0,.slice none 0 0,.slice none 0 0,.slice none 0 0]) (fun v hv=>by simp only[List.mem_cons,List.not_mem_nil,or_false] at hv;rcases hv with rfl|rfl|rfl|rfl<;>rfl)
 clear hH hb;go_enter func94,ntmps94;go_wp2_with fail;rw[HEN.out];refine (HK.out _ HB.out).mono ?_;rintro e w1 ⟨rfl,hb1⟩;have hH1:=Zv HH.out hb1;have HTH:Hid (w1.there (w.heap.size+1) 0 RZ.size):=fun j hj=>⟨by rw[Zk hH1,Array.getElem?_eq_getElem (by have:j<4:=hj;show 0+j<4;omega)];rfl,Zt hH1 _⟩
 have hb2:=bto HB.out hb1;obtain⟨w2,hw2⟩:∃w2,w2=w1.setCells (w.heap.size+1) 0 RZ.toList:=⟨_,rfl⟩
 have HW2:=Lh hw2;have hbf:Below w.heap.size w w2:=by rw[hw2];exact Lib.below_setCells _ (by omega) _ _ hb2
 have HR:Hid (w2.rangeAt (w.heap.size+1) 0 RZ.toList):=by
  have h1:w2.heap[w.heap.size+1]?=some (.cells RZ 60 (0,0)):=by
   rw[hw2];exact hset (o:=3) _ (hset (o:=2) _ (hset (o:=1) _ (hset (o:=0) _ hH1)))
  exact fun j v hv=>by
   rw[Zk h1,Nat.zero_add,<-hv,Array.getElem?_toList]
 clear hH1 hw2 HK HEN HH HB hb1 hb2;go_wp2_with (refine wpList_store_mid rfl 60 (.tmp 8) (.tmp 24) rfl (w.heap.size+1) 0 RZ rfl rfl HTH.out HI.out HM.out ?_;rw[<-HW2.out]);refine bodyPost_ret (v:=.tuple #[.agg RZ,Zi err]) ?_ rfl ?_
 ·exact results_cell_tmp Tryz.f94 8 9 60 RZ (Zi err) rfl rfl rfl HR.out underlying60 rfl HI.out
 exact⟨rfl,hbf⟩
attribute [local go_sem] Oper.semAt_some
theorem D9:(prog.info? 60).map (·.size)=some 4:=by kernel_rfl
theorem Zap:(prog.info? 56).map (·.size)=some 1:=by kernel_rfl
theorem Zaq:(prog.info? 57).map (·.size)=some 1:=by kernel_rfl
theorem VG {w:World} {B k sz:Nat} {ty:TypeId} {v:Value} {cs:List Value} (h:w.ownsRow B ty sz v k cs):v.oneCell'=true:=by
 rcases h.2 with ⟨e,-⟩|⟨g,cap,cur,e,-⟩
 ·rw[e];rfl
 ·rw[e];rfl
structure Zar (w:World) (g cr:Nat) (rest taken:List Lot) (fid fins:List UInt8) (day:Int) (T:List UInt8) (v1 v2:Value) (W:World):Prop where
 sold:∃zs,UK (val T) (taken.map (fun x=>val x.q)) zs/\∃B,W.ownsRow B 89 10 v1 taken.length (Yo ((taken.zip (zs.map canon)).map (Ub fid fins day)))/\W.ownsRow B 136 6 v2 taken.length (Ux ((taken.zip (zs.map canon)).map (L0 fid)))
 row:YK W g rest
 cap:rest.length<=cr
 below:Below w.heap.size w W
theorem Ce {w:World} {A:Option Addr} {n c:Nat} {FC capv capw:Array Value} {fv fw:Nat} {Q:Value->World->Prop} {TK:List Lot->List Lot->Prop} {BD:Prop} {T fid fins:List UInt8} {day:Int} (hG:GE w) (hen:∀(args:Array Value) w,(callFunc fv args).run prog w=.ok (.enter fv args) w) (hew:∀(args:Array Value) w,(callFunc fw args).run prog w=.ok (.enter fw args) w)
  (hK:∀w',Below w.heap.size w w'->Calls prog fv capv w' fun e w''=>∃v,e=.returned (.tuple #[v,Zi 0])/\Below w'.heap.size w' w''/\Q v w'')
  (hT:∀v w',Below w.heap.size w w'->Q v w'->Calls prog 168 #[.slice A n c,v] w' fun e w''=>(∃err:Int,err≠0/\BD/\e=.returned (.tuple #[.slice none 0 0,.slice none 0 0,Zi err])/\Below w'.heap.size w' w'')∨∃rest taken g cr v2 B,TK rest taken/\e=.returned (.tuple #[.slice (some ⟨g,0,none⟩) rest.length cr,v2,Zi 0])/\T8 w' B g cr (rest,taken) v2 w'')
  (hP:∀v w',Below w.heap.size w w'->Calls prog fw (#[v]++capw) w' fun e w''=>e=.returned (Zg T)/\Below w'.heap.size w' w'')
  (c0:FC[0]?=some (Zg fid)) (c3:FC[3]?=some (Zi day)) (c5:FC[5]?=some (Zg fins)) (hT2:T.length<=4900) (hTK:∀rest taken,TK rest taken->(∀x∈taken,x.q.length<=2000)/\Tx T (taken.map (·.q))=0) :
  Calls prog 94 #[.slice A n c,.agg FC,.func (.func fv) #[] capv,.func (.func fw) #[] capw] w fun e w'=>(∃err:Int,err≠0/\BD/\e=.returned (.tuple #[.agg RZ,Zi err])/\Below w.heap.size w w')∨∃rest taken,TK rest taken/\∃g cr v1 v2,e=.returned (.tuple #[.agg (TA g rest.length cr v1 v2),Zi 0])/\Zar w g cr rest taken fid fins day T v1 v2 w':=by
 have HK:=Lh hK;have HEN:=Lh hen;have HEW:=Lh hew;have HT:=Lh hT;have HP:=Lh hP;have HTA:=Lh hTK;have HC0:=Lh c0;have HC3:=Lh c3;have HC5:=Lh c5;clear hK hen hT hew hP hTK c0 c3 c5;obtain⟨hA,hH,hb,-⟩:=V9 w (.cells FC 48) (.cells RZ 60);have HA:=Lh hA;have HH:=Lh hH;have HB:=Lh hb;have HI:Hid ((prog.info? 60).map (·.size)=some RZ.size):=U5
 clear hH hb hA;refine (callsIn_wide (n:=5)).1 ?_;refine callsIn_of_wp_marks func94 rfl trivial ?_ rfl;simp only[ntmps94,List.size_toArray,List.length_cons,List.length_nil,Nat.reduceAdd,Nat.reduceSub,Array.replicate_succ,Array.replicate_zero,List.push_toArray,List.append_toArray,List.nil_append,List.cons_append]
 gi_wp2_with fail
 rw[HEN.out];refine⟨trivial,fun h=>(by cases h),?_⟩
 refine (callsIn_wide.2 (HK.out _ HB.out)).mono ?_;rintro e w0 ⟨v,rfl,hb0,hq⟩;have KT:=Lh (HT.out v w0 (bto HB.out hb0) hq);clear hq HT
 gi_wp2_with fail
 refine⟨trivial,?_⟩
 (refine (callsIn_wide.2 KT.out).mono ?_)
 rintro e w1 (⟨err,hE,hBD,rfl,hb1⟩|⟨rest,taken,g,cr,v2,B,hTK2,rfl,hTk⟩)
 ·clear KT;have g1:decide (err=0)=false:=Df hE;have HBD:=Lh hBD;have HM:Hid (RZ.all (·.oneCell')=true):=all_oneCell_toArray (cs:=[.slice none 0 0,.slice none 0 0,.slice none 0 0,.slice none 0 0]) (fun v hv=>by simp only[List.mem_cons,List.not_mem_nil,or_false] at hv;rcases hv with rfl|rfl|rfl|rfl<;>rfl)
  replace hb1:=bto hb0 hb1;have hH1:=Zv HH.out hb1;have HTH:Hid (w1.there (w.heap.size+1) 0 RZ.size):=fun j hj=>⟨by rw[Zk hH1,Array.getElem?_eq_getElem (by have:j<4:=hj;show 0+j<4;omega)];rfl,Zt hH1 _⟩
  have hb2:=bto HB.out hb1;obtain⟨w2,hw2⟩:∃w2,w2=w1.setCells (w.heap.size+1) 0 RZ.toList:=⟨_,rfl⟩
  have HW2:=Lh hw2;have hbf:Below w.heap.size w w2:=by rw[hw2];exact Lib.below_setCells _ (by omega) _ _ hb2
  have HR:Hid (w2.rangeAt (w.heap.size+1) 0 RZ.toList):=by
   have h1:w2.heap[w.heap.size+1]?=some (.cells RZ 60 (0,0)):=by
    rw[hw2];exact hset (o:=3) _ (hset (o:=2) _ (hset (o:=1) _ (hset (o:=0) _ hH1)))
   exact fun j v hv=>by
    rw[Zk h1,Nat.zero_add,<-hv,Array.getElem?_toList]
  clear hH1 hw2 HK HEN HH HB hb1 hb2
  gi_wp2_with (refine VE rfl 60 (.tmp 8) (.tmp 35) rfl (w.heap.size+1) 0 RZ rfl rfl HTH.out HI.out HM.out ?_;rw[<-HW2.out])
  refine⟨.tuple #[.agg RZ,Zi err],results_cell_tmp Tryz.f94 8 9 60 RZ (Zi err) rfl rfl rfl HR.out underlying60 rfl HI.out,?_⟩;exact .inl ⟨err,hE,HBD.out,rfl,hbf⟩
 obtain⟨hq2,hS0⟩:=HTA.out _ _ hTK2;obtain⟨-,hs2,-⟩:=SJ hS0;rw[List.length_map] at hs2;have HS0:=Lh hS0;have HQL:=Lh hq2;have HSZ:=Lh hs2;have HTK:=Lh hTK2;clear KT hq2 hS0 hs2 hTK2 HTA;have hL2:w.heap.size+2<=w0.heap.size:=by have:=hb0.size;simpa using this
 have hwB:=hTk.le;have hlo:=hTk.lo;have hgb:=hTk.gb;obtain⟨A2,c2,hv2⟩:=hTk.tak.formN rfl;have hLT:=hTk.tak.lotAt hv2;subst hv2;have hB1:Below w.heap.size w w1:=bto (bto HB.out hb0) hTk.below;have hF1:w1.heap[w.heap.size]?=some (.cells FC 48 (0,0)):=Zv (Zv HA.out hb0) hTk.below;have hR1:w1.heap[w.heap.size+1]?=some (.cells RZ 60 (0,0)):=Zv (Zv HH.out hb0) hTk.below;have HLK:Hid (YK w1 g rest/\rest.length<=cr):=⟨hTk.row,hTk.cap⟩;have hb2:=Zh w1 (.cells (TA g rest.length cr (.slice none 0 0) (.slice none 0 0)) 60);have h14:=ZJ w1 (.cells (TA g rest.length cr (.slice none 0 0) (.slice none 0 0)) 60);have hs2:(w1.alloc (.cells (TA g rest.length cr (.slice none 0 0) (.slice none 0 0)) 60)).heap.size=w1.heap.size+1:=by simp
 obtain⟨W2,hW2⟩:∃W2,W2=w1.alloc (.cells (TA g rest.length cr (.slice none 0 0) (.slice none 0 0)) 60):=⟨_,rfl⟩
 rw[<-hW2] at hb2 h14 hs2;unfold TA at hW2;have HW2:=Lh hW2;have KP:=Lh (HP.out (.slice A2 taken.length c2) W2 (bto hB1 hb2));have HR1:=Lh hR1;have HF1:=Lh hF1;have HLT:=Lh hLT;have H14:=Lh h14;have HB1:=Lh hB1;have HB2:=Lh hb2;clear hTk hb0 HA HH HB HK HEN HP hR1 hF1 hLT h14 hB1 hb2 hW2
 gi_wp2_with fail
 rw[<-HW2.out,HEW.out];refine⟨trivial,fun h=>(by cases h),?_⟩
 refine (callsIn_wide.2 KP.out).mono ?_;rintro e w3 ⟨rfl,hb3⟩;have KS:=Lh (DU A2 taken.length c2 T w3);have hs3:=hb3.size;obtain⟨hz1,hz2,hz3,hz4⟩:=V9 w3 (.cells #[.slice A2 taken.length c2] 44) (.cells #[Zg T] 32);obtain⟨W0,hW0⟩:∃W0,W0=(w3.alloc (.cells #[.slice A2 taken.length c2] 44)).alloc (.cells #[Zg T] 32):=⟨_,rfl⟩
 rw[<-hW0] at KS hz1 hz2 hz3 hz4;have H30:Hid (Below w1.heap.size w1 W0/\W0.heap[w1.heap.size]?=some (.cells (TA g rest.length cr (.slice none 0 0) (.slice none 0 0)) 60 (0,0))/\Blk W0 w3.heap.size #[.slice A2 taken.length c2]/\Blk W0 (w3.heap.size+1) #[Zg T]):=
  ⟨bto (bto HB2.out hb3) hz3,Zv (Zv H14.out hb3) hz3,⟨_,hz1⟩,⟨_,hz2⟩⟩
 clear KP hb3 hz1 hz2 hz3 hW0 HB2 H14 HW2 HEW
 gi_wp2_with fail
 refine⟨trivial,?_⟩
 (refine (callsIn_wide.2 KS.out).mono ?_)
 rintro e W0 ⟨rfl,rfl⟩;clear KS
 gi_wp2_with fail
 refine VA (gf:=216) (lb:=#[.pointer (some ⟨w3.heap.size,0,none⟩),.pointer (some ⟨w3.heap.size+1,0,none⟩)]) rfl LV ?_;intro fn R hR;obtain⟨W1,hW1⟩:∃W1,W1=(W0.alloc (.deferred (some []))).alloc (.loop R):=⟨_,rfl⟩
 obtain⟨hD,hL,hbB,hsz1⟩:=V9 W0 (.deferred (some [])) (.loop R);rw[<-hW1] at hD hL hbB hsz1;rw[<-hW1];obtain⟨l,hl⟩:∃l,l=W0.heap.size+1:=⟨_,rfl⟩
 obtain⟨d,hd⟩:∃d,d=W0.heap.size:=⟨_,rfl⟩
 obtain⟨Bx,hBx⟩:∃Bx,Bx=W1.heap.size:=⟨_,rfl⟩
 rw[<-hl] at hL ⊢;rw[<-hd] at hD hR ⊢;have hS0:Zam w1 R Bx d l g rest.length cr w3.heap.size (w3.heap.size+1) (.slice A2 taken.length c2) T W1:=⟨bto H30.out.1 hbB,hL,hD,Nat.le_of_eq hBx,Zv H30.out.2.1 hbB,H30.out.2.2.1.below hbB,H30.out.2.2.2.below hbB⟩;have n1:l≠d/\w1.heap.size<l/\l<Bx:=by omega
 have n2:w1.heap.size<l/\w1.heap.size<d/\l<Bx/\d<Bx:=by omega
 have n4:w.heap.size+2<=g/\g<w1.heap.size:=by omega
 have n3:w.heap.size+1<w1.heap.size/\w.heap.size+1<d/\w.heap.size<=d/\w1.heap.size<=d:=by omega
 clear hW1 hbB hD hL hl hd hs2 hs3 hz4 hsz1 hBx H30 hL2 hwB hlo hgb;have hY:∀zs,UK (val T) (taken.map (fun x=>val x.q)) zs->∀b0 ob ys y W,Hj w1 R Bx d l g rest.length cr fid fins day b0 ob ys W->(taken.zip (zs.map canon))[ys.length]?=some y->YieldAt Fence.wide (5-1-1) prog l #[(Value.agg #[.string ⟨List.toArray y.1.id⟩,.string ⟨List.toArray y.1.ins⟩,Zi y.1.acq,Zi y.1.opn,.string ⟨List.toArray y.1.q⟩,.string ⟨List.toArray y.1.cost⟩,.string ⟨List.toArray y.1.used⟩]),Zg y.2] W fun e W'=>e=.returned (.bool true)/\Hj w1 R Bx d l g rest.length cr fid fins day b0 ob (ys++[y]) W':=by
  intro zs _ b0 ob ys y W hS hyb;obtain⟨v1,v2,hS⟩:=hS;have hlen:ys.length<1000:=by
   have h1:=(Lg.1 hyb).1;rw[List.length_zip] at h1
   have:=HSZ.out
   omega
  have hy:=run_yield (P:=prog) (args:=#[(Value.agg #[.string ⟨List.toArray y.1.id⟩,.string ⟨List.toArray y.1.ins⟩,Zi y.1.acq,Zi y.1.opn,.string ⟨List.toArray y.1.q⟩,.string ⟨List.toArray y.1.cost⟩,.string ⟨List.toArray y.1.used⟩]),Zg y.2]) hS.loop (by rw[hR];rfl)
  refine⟨R.fn,_,R.assign,R.body,hy,roundIn_of_wpIn trivial ?_⟩;have hlW:=(Ag.1 hS.loop).1;have hSa:=hS.mono (Zh W (.cells #[.string ⟨List.toArray y.1.id⟩,.string ⟨List.toArray y.1.ins⟩,Zi y.1.acq,Zi y.1.opn,.string ⟨List.toArray y.1.q⟩,.string ⟨List.toArray y.1.cost⟩,.string ⟨List.toArray y.1.used⟩] 130));have hbr:=run_beginRound (P:=prog) hSa.loop (by rw[hR])
  have hS1:Vl w1 { R with state:=.busy } Bx d l g rest.length cr b0 ob v1 v2 (ys.map (Ub fid fins day)) (ys.map (L0 fid)) ((W.alloc (.cells #[.string ⟨List.toArray y.1.id⟩,.string ⟨List.toArray y.1.ins⟩,Zi y.1.acq,Zi y.1.opn,.string ⟨List.toArray y.1.q⟩,.string ⟨List.toArray y.1.cost⟩,.string ⟨List.toArray y.1.used⟩] 130)).putObj l (.loop { R with state:=.busy })):=Vl.done rfl n1 hSa
  have x4:Blk ((W.alloc (.cells #[.string ⟨List.toArray y.1.id⟩,.string ⟨List.toArray y.1.ins⟩,Zi y.1.acq,Zi y.1.opn,.string ⟨List.toArray y.1.q⟩,.string ⟨List.toArray y.1.cost⟩,.string ⟨List.toArray y.1.used⟩] 130)).putObj l (.loop { R with state:=.busy })) W.heap.size #[.string ⟨List.toArray y.1.id⟩,.string ⟨List.toArray y.1.ins⟩,Zi y.1.acq,Zi y.1.opn,.string ⟨List.toArray y.1.q⟩,.string ⟨List.toArray y.1.cost⟩,.string ⟨List.toArray y.1.used⟩]:=(Blk.new W _ 130).putO (by omega)
  obtain⟨Wb,hWb⟩:∃Wb,Wb=(W.alloc (.cells #[.string ⟨List.toArray y.1.id⟩,.string ⟨List.toArray y.1.ins⟩,Zi y.1.acq,Zi y.1.opn,.string ⟨List.toArray y.1.q⟩,.string ⟨List.toArray y.1.cost⟩,.string ⟨List.toArray y.1.used⟩] 130)).putObj l (.loop { R with state:=.busy }):=⟨_,rfl⟩
  rw[<-hWb] at hbr hS1 x4;have hRe:({ { R with state:=.busy } with state:=.ready,pending:=none }:Loop)=R:=by rw[hR]
  obtain⟨R1,hR1⟩:∃R1,R1={ R with state:=.busy }:=⟨_,rfl⟩
  rw[<-hR1] at hS1 hRe;have hw1W:w1.heap.size<W.heap.size:=by omega
  have hk1:∀k,v1.ownBlock=some k->k<W.heap.size:=fun k hk=>(World.ownsRow.lt hS.o1 k hk).2
  have hk2:∀k,v2.ownBlock=some k->k<W.heap.size:=fun k hk=>(World.ownsRow.lt hS.o2 k hk).2
  have q0:Wb.cell? ⟨w.heap.size,0,none⟩=some (Zg fid):=(Zk (Zv HF1.out hS1.below) 0).trans HC0.out;have q3:Wb.cell? ⟨w.heap.size,3,none⟩=some (Zi day):=(Zk (Zv HF1.out hS1.below) 3).trans HC3.out;have q5:Wb.cell? ⟨w.heap.size,5,none⟩=some (Zg fins):=(Zk (Zv HF1.out hS1.below) 5).trans HC5.out;have r1:Wb.cell? ⟨w1.heap.size,1,none⟩=some v1:=Zk hS1.res 1;have p0:Wb.cell? ⟨W.heap.size,0,none⟩=some (.string ⟨List.toArray y.1.id⟩):=x4.c 0;have p2:Wb.cell? ⟨W.heap.size,2,none⟩=some (Zi y.1.acq):=x4.c 2;have p4:Wb.cell? ⟨W.heap.size,4,none⟩=some (.string ⟨List.toArray y.1.q⟩):=x4.c 4;have p5:Wb.cell? ⟨W.heap.size,5,none⟩=some (.string ⟨List.toArray y.1.cost⟩):=x4.c 5;have hG1:=hS1.mono (Zh Wb (.cells #[Zg fid,.string ⟨List.toArray y.1.id⟩,Zg fins,Zi y.1.acq,Zi day,.string ⟨List.toArray y.1.q⟩,.string ⟨List.toArray y.2⟩,.string ⟨List.toArray y.1.cost⟩,Zj,Zj] 89));have HNW:Hid ((Wb.alloc (.cells #[Zg fid,.string ⟨List.toArray y.1.id⟩,Zg fins,Zi y.1.acq,Zi day,.string ⟨List.toArray y.1.q⟩,.string ⟨List.toArray y.2⟩,.string ⟨List.toArray y.1.cost⟩,Zj,Zj] 89)).heap[Wb.heap.size]?=some (.cells #[Zg fid,.string ⟨List.toArray y.1.id⟩,Zg fins,Zi y.1.acq,Zi day,.string ⟨List.toArray y.1.q⟩,.string ⟨List.toArray y.2⟩,.string ⟨List.toArray y.1.cost⟩,Zj,Zj] 89 (0,0))):=ZJ Wb (.cells #[Zg fid,.string ⟨List.toArray y.1.id⟩,Zg fins,Zi y.1.acq,Zi day,.string ⟨List.toArray y.1.q⟩,.string ⟨List.toArray y.2⟩,.string ⟨List.toArray y.1.cost⟩,Zj,Zj] 89);have HO1:=Lh hG1.o1;rw[List.length_map] at HO1;have HLO:Hid (Bx<=(Wb.alloc (.cells #[Zg fid,.string ⟨List.toArray y.1.id⟩,Zg fins,Zi y.1.acq,Zi day,.string ⟨List.toArray y.1.q⟩,.string ⟨List.toArray y.2⟩,.string ⟨List.toArray y.1.cost⟩,Zj,Zj] 89)).heap.size):=hG1.lo.2;have HG1:=Lh hG1;have HX4:Hid (Blk (Wb.alloc (.cells #[Zg fid,.string ⟨List.toArray y.1.id⟩,Zg fins,Zi y.1.acq,Zi day,.string ⟨List.toArray y.1.q⟩,.string ⟨List.toArray y.2⟩,.string ⟨List.toArray y.1.cost⟩,Zj,Zj] 89)) W.heap.size #[.string ⟨List.toArray y.1.id⟩,.string ⟨List.toArray y.1.ins⟩,Zi y.1.acq,Zi y.1.opn,.string ⟨List.toArray y.1.q⟩,.string ⟨List.toArray y.1.cost⟩,.string ⟨List.toArray y.1.used⟩]):=x4.below (Zh Wb (.cells #[Zg fid,.string ⟨List.toArray y.1.id⟩,Zg fins,Zi y.1.acq,Zi day,.string ⟨List.toArray y.1.q⟩,.string ⟨List.toArray y.2⟩,.string ⟨List.toArray y.1.cost⟩,Zj,Zj] 89));obtain⟨i0,hi,hz0,hz1,hz2⟩:=info_parts QH;obtain⟨j0,hj,hj0,hj1,hj2⟩:=info_parts Ft;have HII:=Lh (And.intro hi (And.intro hz0 (And.intro hz1 hz2)));have HJJ:=Lh (And.intro hj (And.intro hj0 (And.intro hj1 hj2)));have HBr:=Lh hbr;have HRe:=Lh hRe;have HK1:=Lh hk1;have HK2:=Lh hk2;clear hWb hbr hy hS hSa hlW hS1 hRe hR1 hyb hG1 x4 hi hz0 hz1 hz2 hj hj0 hj1 hj2 hk1 hk2 hS0;rw[hR]
  gi_wp2
  refine⟨_,HBr.out,?_⟩
  gi_wp2_with (gi_at_builtin;refine XZ rfl _ _ 56 rfl Bx 89 i0 (.agg #[Zj,Zj,Zj,Zi 0,Zi 0,Zj,Zj,Zj,Zj,Zj]) 10 144 underlying56 HII.out.1 HII.out.2.1 HII.out.2.2.1 HII.out.2.2.2 rfl (by decide) _ _ _ rfl HO1.out ⟨Wb.heap.size,0,none⟩ 1 1 (Ua (Ub fid fins day y)) rfl rfl ?c1 ?c2 ?c3 ?c4 ?c5 ?_)
  case c1=>
   intro j u hu;rw[Lib.add_plain];have hj:j<10:=YG hu;show (Wb.alloc (.cells #[Zg fid,.string ⟨List.toArray y.1.id⟩,Zg fins,Zi y.1.acq,Zi day,.string ⟨List.toArray y.1.q⟩,.string ⟨List.toArray y.2⟩,.string ⟨List.toArray y.1.cost⟩,Zj,Zj] 89)).cell? ⟨Wb.heap.size,0+j,none⟩=some u;rw[Nat.zero_add,Zk HNW.out j,<-hu];show (List.toArray (Ua (Ub fid fins day y)))[j]?=_;rw[List.getElem?_toArray]
  case c2=>exact OW _
  case c3=>unfold maxLen;omega
  case c4=>omega
  case c5=>exact HLO.out
  intro v1' w5 hown hgrow hfresh;replace hown:w5.ownsRow Bx 89 10 v1' ((ys.map (Ub fid fins day)).length+1) (Yo (ys.map (Ub fid fins day))++Ua (Ub fid fins day y)):=by rw[List.length_map];exact hown
  have hg6:=HG1.out.grown n2 HG1.out.r1 hgrow;have HG6:=Lh (HG1.out.gain n2 hown hgrow (fun k hk=>(hfresh k hk).imp id (fun h=>by rw[World.size_alloc];exact h)))
  have HC6:Hid ((w5.cell? ⟨w1.heap.size,1,none⟩).isSome=true):=by show _=_;rw[Zk hg6.2.2.2.2.1 1];rfl
  have HF6:Hid (w5.frozen? ⟨w1.heap.size,1,none⟩=false):=Zt hg6.2.2.2.2.1 1;have HV6:=Lh (VG hown);obtain⟨tx,hx4⟩:=HX4.out;have hx5:w5.heap[W.heap.size]?=some (.cells #[.string ⟨List.toArray y.1.id⟩,.string ⟨List.toArray y.1.ins⟩,Zi y.1.acq,Zi y.1.opn,.string ⟨List.toArray y.1.q⟩,.string ⟨List.toArray y.1.cost⟩,.string ⟨List.toArray y.1.used⟩] tx (0,0)):=(hgrow.block _ (Ag.1 hx4).1 (fun e=>by have:=HK1.out _ e.symm;omega)).trans hx4
  have hx6:(w5.setCell ⟨w1.heap.size,1,none⟩ v1').heap[W.heap.size]?=some (.cells #[.string ⟨List.toArray y.1.id⟩,.string ⟨List.toArray y.1.ins⟩,Zi y.1.acq,Zi y.1.opn,.string ⟨List.toArray y.1.q⟩,.string ⟨List.toArray y.1.cost⟩,.string ⟨List.toArray y.1.used⟩] tx (0,0)):=hoth hx5 (by omega)
  obtain⟨W6,hW6⟩:∃W6,W6=w5.setCell ⟨w1.heap.size,1,none⟩ v1':=⟨_,rfl⟩
  have HW6:=Lh hW6;rw[<-hW6] at HG6 hx6;have HX6:=Lh hx6;clear hown hgrow hfresh hg6 hx4 hx5 hx6 hW6 q0 q3 q5 r1 p0 p2 p4 p5 HG1 HO1 HNW HLO HX4;have q0:W6.cell? ⟨w.heap.size,0,none⟩=some (Zg fid):=(Zk (Zv HF1.out HG6.out.below) 0).trans HC0.out;have r2:W6.cell? ⟨w1.heap.size,2,none⟩=some v2:=Zk HG6.out.res 2;have p0:W6.cell? ⟨W.heap.size,0,none⟩=some (.string ⟨List.toArray y.1.id⟩):=Zk HX6.out 0;have p4:W6.cell? ⟨W.heap.size,4,none⟩=some (.string ⟨List.toArray y.1.q⟩):=Zk HX6.out 4;have p5:W6.cell? ⟨W.heap.size,5,none⟩=some (.string ⟨List.toArray y.1.cost⟩):=Zk HX6.out 5;have hG1:=HG6.out.mono (Zh W6 (.cells #[Zg fid,.string ⟨List.toArray y.1.id⟩,Zj,.string ⟨List.toArray y.1.q⟩,Zj,.string ⟨List.toArray y.1.cost⟩] 136));have HNW:Hid ((W6.alloc (.cells #[Zg fid,.string ⟨List.toArray y.1.id⟩,Zj,.string ⟨List.toArray y.1.q⟩,Zj,.string ⟨List.toArray y.1.cost⟩] 136)).heap[W6.heap.size]?=some (.cells #[Zg fid,.string ⟨List.toArray y.1.id⟩,Zj,.string ⟨List.toArray y.1.q⟩,Zj,.string ⟨List.toArray y.1.cost⟩] 136 (0,0))):=ZJ W6 (.cells #[Zg fid,.string ⟨List.toArray y.1.id⟩,Zj,.string ⟨List.toArray y.1.q⟩,Zj,.string ⟨List.toArray y.1.cost⟩] 136);have HO2:=Lh hG1.o2;rw[List.length_map] at HO2;have HLO:Hid (Bx<=(W6.alloc (.cells #[Zg fid,.string ⟨List.toArray y.1.id⟩,Zj,.string ⟨List.toArray y.1.q⟩,Zj,.string ⟨List.toArray y.1.cost⟩] 136)).heap.size):=hG1.lo.2;have HG1:=Lh hG1;clear hG1 HX6
  gi_wp2_with (first|(refine WX rfl 56 (.tmp 66) (.tmp 65) rfl w1.heap.size 1 v1' rfl rfl HC6.out HF6.out Zap HV6.out ?_;rw[<-HW6.out])|(gi_at_builtin;refine XZ rfl _ _ 57 rfl Bx 136 j0 (.agg #[Zj,Zj,Zj,Zj,Zj,Zj]) 6 96 underlying57 HJJ.out.1 HJJ.out.2.1 HJJ.out.2.2.1 HJJ.out.2.2.2 rfl (by decide) _ _ _ rfl HO2.out ⟨W6.heap.size,0,none⟩ 1 1 (LW (L0 fid y)) rfl rfl ?d1 ?d2 ?d3 ?d4 ?d5 ?_))
  case d1=>
   intro j u hu;rw[Lib.add_plain];show (W6.alloc (.cells #[Zg fid,.string ⟨List.toArray y.1.id⟩,Zj,.string ⟨List.toArray y.1.q⟩,Zj,.string ⟨List.toArray y.1.cost⟩] 136)).cell? ⟨W6.heap.size,0+j,none⟩=some u;rw[Nat.zero_add,Zk HNW.out j,<-hu];show (List.toArray (LW (L0 fid y)))[j]?=_;rw[List.getElem?_toArray]
  case d2=>exact DX _
  case d3=>unfold maxLen;omega
  case d4=>omega
  case d5=>exact HLO.out
  intro v2' w7 hown hgrow hfresh;replace hown:w7.ownsRow Bx 136 6 v2' ((ys.map (L0 fid)).length+1) (Ux (ys.map (L0 fid))++LW (L0 fid y)):=by rw[List.length_map];exact hown
  have hg8:=HG1.out.grown n2 HG1.out.r2 hgrow;have HG8:=Lh (HG1.out.step n2 hown hgrow (fun k hk=>(hfresh k hk).imp id (fun h=>by rw[World.size_alloc];exact h)))
  have HC8:Hid ((w7.cell? ⟨w1.heap.size,2,none⟩).isSome=true):=by show _=_;rw[Zk hg8.2.2.2.2.1 2];rfl
  have HF8:Hid (w7.frozen? ⟨w1.heap.size,2,none⟩=false):=Zt hg8.2.2.2.2.1 2;have HV8:=Lh (VG hown);obtain⟨W8,hW8⟩:∃W8,W8=w7.setCell ⟨w1.heap.size,2,none⟩ v2':=⟨_,rfl⟩
  have HW8:=Lh hW8;rw[<-hW8] at HG8;clear hown hgrow hfresh hg8 hW8 q0 r2 p0 p4 p5 HG1 HO2 HNW HLO HC6 HF6 HV6 HW6
  gi_wp2_with (refine WX rfl 57 (.tmp 80) (.tmp 79) rfl w1.heap.size 2 v2' rfl rfl HC8.out HF8.out Zaq HV8.out ?_;rw[<-HW8.out])
  refine⟨_,_,run_endRound (P:=prog) none HG8.out.loop,rfl,v1',v2',?_⟩;rw[List.map_append,List.map_append];exact Vl.done (HRe.out.trans hR) n1 HG8.out
 have key:=ZcE w3.heap.size (w3.heap.size+1) A2 taken taken.length c2 T rfl hT2 HQL.out HS0.out (5-1) l (Zam w1 R Bx d l g rest.length cr w3.heap.size (w3.heap.size+1) (.slice A2 taken.length c2) T) (Hj w1 R Bx d l g rest.length cr fid fins day)
  (fun W h=>⟨hG.below (bto HB1.out h.below),HLT.out.below h.below,h.lots,h.txt⟩) (fun b0 ob W W' h hb h0 h1=>h.go fid fins day hb h0 h1) (fun b0 ob ys W h=>by obtain⟨v1,v2,h⟩:=h;exact⟨HLT.out.below h.below,h.par⟩) (fun b0 ob ys W W' h hb=>by obtain⟨v1,v2,h⟩:=h;exact⟨v1,v2,h.mono hb⟩) hY W1 hS0
 refine key.mono ?_;rintro e Wz ⟨hv,zs,b0,ob,hzs,v1,v2,hS2⟩;refine⟨hv,hS2.loop,?_⟩;have hS3:Vl w1 { R with state:=.exhausted } Bx d l g rest.length cr b0 ob v1 v2 _ _ (Wz.putObj l (.loop { R with state:=.exhausted })):=Vl.done rfl n1 hS2
 obtain⟨W3,hW3⟩:∃W3,W3=Wz.putObj l (.loop { R with state:=.exhausted }):=⟨_,rfl⟩
 rw[<-hW3] at hS3 ⊢;have hrv:=Zv HR1.out hS3.below;obtain⟨W4,hW4⟩:∃W4,W4=W3.setCells (w.heap.size+1) 0 [.slice (some ⟨g,0,none⟩) rest.length cr,v1,v2,.slice none 0 0]:=⟨_,rfl⟩
 have HW4:=Lh hW4;have HLD:Hid (W3.rangeAt w1.heap.size 0 [.slice (some ⟨g,0,none⟩) rest.length cr,v1,v2,.slice none 0 0]):=Ye hS3.res;have HTH:Hid (W3.there (w.heap.size+1) 0 4):=Xp hrv;have HM:Hid ((#[.slice (some ⟨g,0,none⟩) rest.length cr,v1,v2,.slice none 0 0]:Array Value).all (·.oneCell')=true):=all_oneCell_toArray (cs:=[.slice (some ⟨g,0,none⟩) rest.length cr,v1,v2,.slice none 0 0]) (fun v hv=>by simp only[List.mem_cons,List.not_mem_nil,or_false] at hv;rcases hv with rfl|rfl|rfl|rfl;rfl;exact VG hS3.o1;exact VG hS3.o2;rfl)
 have h4:W4.heap[w.heap.size+1]?=some (.cells (TA g rest.length cr v1 v2) 60 (0,0)):=by
  rw[hW4];exact hset (o:=3) _ (hset (o:=2) _ (hset (o:=1) _ (hset (o:=0) _ hrv)))
 have h4o:∀b,b≠w.heap.size+1->W4.heap[b]?=W3.heap[b]?:=fun b hb=>by
  rw[hW4];show ((((W3.setCell ⟨w.heap.size+1,0,none⟩ _).setCell ⟨w.heap.size+1,1,none⟩ _).setCell ⟨w.heap.size+1,2,none⟩ _).setCell ⟨w.heap.size+1,3,none⟩ _).heap[b]?=_;exact (Below.heap_setCell _ _ _ b hb).trans ((Below.heap_setCell _ _ _ b hb).trans ((Below.heap_setCell _ _ _ b hb).trans (Below.heap_setCell _ _ _ b hb)))
 have h4b:Below w.heap.size w W4:=by rw[hW4];exact Lib.below_setCells _ (by omega) _ _ (bto HB1.out hS3.below)
 have hD4:W4.heap[d]?=some (.deferred (some [])):=(h4o d (by omega)).trans hS3.dfr
 have HS3:=Lh hS3;have HZS:=Lh hzs;have H4:=Lh h4;have H4O:=Lh h4o;have H4B:=Lh h4b;have HD4:=Lh hD4;have HI4:Hid ((prog.info? 60).map (·.size)=some 4):=D9
 clear hW3 hW4 hS3 hzs h4 h4o h4b hD4 hrv key hY hS2 hS0 hv
 gi_wp2_with (first|(refine SU rfl 60 (.tmp 14) rfl w1.heap.size 0 rfl [.slice (some ⟨g,0,none⟩) rest.length cr,v1,v2,.slice none 0 0] HLD.out underlying60 rfl HI4.out ?_)|(refine VE rfl 60 (.tmp 8) (.tmp 81) rfl (w.heap.size+1) 0 #[.slice (some ⟨g,0,none⟩) rest.length cr,v1,v2,.slice none 0 0] rfl rfl HTH.out HI4.out HM.out ?_;rw[<-HW4.out]))
 refine⟨by simp,.inl ⟨_,_,rfl,run_takeDeferred HD4.out,?_⟩⟩
 have h5:(W4.putObj d (.deferred none)).heap[w.heap.size+1]?=some (.cells (TA g rest.length cr v1 v2) 60 (0,0)):=(World.putObj_heap_other (by omega)).trans H4.out
 have h5o:∀b,b≠w.heap.size+1->b≠d->(W4.putObj d (.deferred none)).heap[b]?=W3.heap[b]?:=fun b hb hb2=>(World.putObj_heap_other (by omega)).trans (H4O.out b hb)
 have hln:(taken.zip (zs.map canon)).length=taken.length:=by rw[List.length_zip,List.length_map,HZS.out.sum.2,List.length_map];omega
 refine⟨.tuple #[.agg (TA g rest.length cr v1 v2),Zi 0],results_cell_tmp Tryz.f94 8 9 60 (TA g rest.length cr v1 v2) (Zi 0) rfl rfl rfl (Ye h5) underlying60 rfl HI4.out,?_⟩;have ho1:=HS3.out.o1;have ho2:=HS3.out.o2;rw[List.length_map,hln] at ho1 ho2;refine .inr ⟨rest,taken,HTK.out,g,cr,v1,v2,rfl,⟨zs,HZS.out,Bx,Xo ho1 (fun b hb _=>h5o b (by omega) (by omega)),Xo ho2 (fun b hb _=>h5o b (by omega) (by omega))⟩,?_,HLK.out.2,XD H4B.out n3.2.2.1⟩
 obtain⟨cur,hc,hr⟩:=HLK.out.1.below HS3.out.below;exact⟨cur,(h5o g (by omega) (by omega)).trans hc,hr⟩
end Go.Proofs.YtpieeldbamklkaaGreatDoor
namespace Go.Proofs.YtpieeldbamklkaaGreatDoor
open Go.RowKit Num
def Cf (w:World) (own:List Lot) (n f:Nat) (rv:Bool) (e:Ending) (w':World):Prop:=∃g cp zs,e=.returned (.slice (some ⟨g,0,none⟩) n cp)/\w.heap.size<=g/\YK w' g zs/\zs.Perm own/\Below w.heap.size w w'/\(rv=false->f=269->n<=20->SS cfF own->zs=own)
theorem ZbU {w w1:World} {own:List Lot} {bf g f:Nat} {cap:Bool} (hE:D7 f cap) (hG:GE w) (hS:∀x∈own,Vh x) (hb1:Below w.heap.size w w1) (hg:w.heap.size<=g) (hgbf:bf≠g) (HBF:Blk w1 bf #[.func (.func 269) #[] #[]]) :
  ∃cf,Np w1 g own f (WL cap bf) cf/\(f=269->cf=cfF):=by
 rcases hE with ⟨rfl,rfl⟩|⟨rfl,rfl⟩|⟨rfl,rfl⟩
 ·exact⟨cfF,⟨OZ,fun W x y hb hx hy=>J6 x y W⟩,fun _=>rfl⟩
 ·exact⟨fun x y=>orZ (cfU x y) (cfF x y),⟨D4,fun W x y hb hx hy=>Zao x y (hS x hx) (hS y hy) bf W (hG.below (hb.lower hb1 (fun k hk=>by rw[hk];exact hg))) (HBF.keepX hb (by omega))⟩,fun h=>absurd h (by decide)⟩
 ·exact⟨fun x y=>orZ (cfU y x) (cfF x y),⟨D5,fun W x y hb hx hy=>D6 x y (hS x hx) (hS y hy) bf W (hG.below (hb.lower hb1 (fun k hk=>by rw[hk];exact hg))) (HBF.keepX hb (by omega))⟩,fun h=>absurd h (by decide)⟩
theorem Za6 {w:World} {own:List Lot} {A:Option Addr} {n:Nat} (c:Nat) (hG:GE w) (hL:Yk w A own n) (h0:1<=n) (nm:List UInt8) {f:Nat} {cap:Bool} (rv:Bool) (bf:Nat) (hE:D7 f cap) (hB:Blk w bf #[.func (.func 269) #[] #[]]) :
  Calls prog 167 #[.agg #[Zg nm,.func (.func f) #[] (WL cap bf),.bool rv],.slice A n c] w (Cf w own n f rv):=by
 have hn:=hL.big;have HS:=Lh hL.sm;have HL:=Lh hL.len;have hbA:=Zh w (.cells #[Zg nm,.func (.func f) #[] (WL cap bf),.bool rv] 240);have HE:=Lh (Blk.new w #[Zg nm,.func (.func f) #[] (WL cap bf),.bool rv] 240);have C1:=Lh (GZ A own n c _ hL.len h0 (by omega) (hL.mem.below hbA))
 have hbl:=hB.lt;have HBA:=Lh (hB.below hbA);have HEN:=Lh hE;clear hL hB hE;go_enter func167,ntmps167;go_wp2_with fail;refine C1.out.mono ?_;rintro e w1 ⟨g,cp,rfl,hg,hr,hb1⟩;have hsz:(w.alloc (.cells #[Zg nm,.func (.func f) #[] (WL cap bf),.bool rv] 240)).heap.size=w.heap.size+1:=by simp
 have hg0:w.heap.size<=g:=by omega
 have hgb:w.heap.size≠g:=by omega
 have hgbf:bf≠g:=by omega
 have HE1:=Lh (HE.out.below hb1);have HBF:=Lh (HBA.out.below hb1);replace hb1:=bto hbA hb1;obtain⟨cf,hSC,hcf⟩:=ZbU HEN.out hG HS.out hb1 hg0 hgbf HBF.out;have HCF:=Lh hcf;have CS:=Lh (Zan (c:=cp) hSC hr HL.out hn);have CR:=Lh (fun (w':World) (zs:List Lot) (h:SAt w1 g own w' zs)=>Zdu (c:=cp) h HL.out h0 hn)
 have q1:=HE1.out.c 1;clear hr hsz hSC hbA HE HBA C1 hcf hg;go_wp2_with fail;refine CS.out.mono ?_;rintro e w2 ⟨rfl,zs,hz,ho⟩;have HZS:=Lh hz;have HO:=Lh ho;have q2:=(HE1.out.keepX hz.bw hgb).c 2;clear q1 CS hz ho HE1;cases rv with
 | false=>
  have HR:Hid (Cf w own n f false (.returned (.slice (some ⟨g,0,none⟩) n cp)) w2):=⟨g,cp,zs,rfl,hg0,HZS.out.row,HZS.out.perm,HZS.out.bw.lower hb1 (fun k hk=>by rw[hk];exact hg0),fun _ hf h20 hord=>HO.out h20 (by rw[HCF.out hf];exact hord)⟩
  clear HZS CR;go_wp2;go_ret;exact HR.out
 | true=>
  go_wp2_with fail;refine (CR.out w2 zs HZS.out).mono ?_;rintro e w3 ⟨rfl,zs3,hz3⟩;have HZ3:=Lh hz3;clear hz3 CR HZS HO;have HR:Hid (Cf w own n f true (.returned (.slice (some ⟨g,0,none⟩) n cp)) w3):=⟨g,cp,zs3,rfl,hg0,HZ3.out.row,HZ3.out.perm,HZ3.out.bw.lower hb1 (fun k hk=>by rw[hk];exact hg0),fun h=>by cases h⟩
  clear HZ3;go_wp2;go_ret;exact HR.out
end Go.Proofs.YtpieeldbamklkaaGreatDoor
