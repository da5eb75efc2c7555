/- Texts put together: Rc Rd Re Aa Bu Rf Rg Rh Ab. -/
import Derived.Test.YtpieeldbamklkaaGreatDoorA5
import Derived.StillTailTactics
set_option maxHeartbeats 8000000
set_option maxRecDepth 100000
namespace Go.Proofs.YtpieeldbamklkaaGreatDoor
open Go.RowKit Num
def cfF (x y:Lot):Int:=Pf x.acq y.acq
theorem Zbv (x y:Lot) (w:World):Calls Tryz.prog 269 #[(Value.agg #[Value.string ⟨x.id.toArray⟩,Value.string ⟨x.ins.toArray⟩,Value.int .i64 x.acq,Value.int .i64 x.opn,Value.string ⟨x.q.toArray⟩,Value.string ⟨x.cost.toArray⟩,Value.string ⟨x.used.toArray⟩]),(Value.agg #[Value.string ⟨y.id.toArray⟩,Value.string ⟨y.ins.toArray⟩,Value.int .i64 y.acq,Value.int .i64 y.opn,Value.string ⟨y.q.toArray⟩,Value.string ⟨y.cost.toArray⟩,Value.string ⟨y.used.toArray⟩])] w fun e w'=>e=.returned (.int .i64 (cfF x y))/\Below w.heap.size w w':=by
 have C1:=Lh (fun w'=>ZcX x.acq y.acq w')
 obtain⟨v,hv⟩:∃v,v=cfF x y:=⟨_,rfl⟩
 rw[show Pf x.acq y.acq=v from hv.symm] at C1
 rw[<-hv];clear hv;have hbA:=Zb w (.cells #[Value.string ⟨x.id.toArray⟩,Value.string ⟨x.ins.toArray⟩,Value.int .i64 x.acq,Value.int .i64 x.opn,Value.string ⟨x.q.toArray⟩,Value.string ⟨x.cost.toArray⟩,Value.string ⟨x.used.toArray⟩] 130);have hbB:=Zb (w.alloc (.cells #[Value.string ⟨x.id.toArray⟩,Value.string ⟨x.ins.toArray⟩,Value.int .i64 x.acq,Value.int .i64 x.opn,Value.string ⟨x.q.toArray⟩,Value.string ⟨x.cost.toArray⟩,Value.string ⟨x.used.toArray⟩] 130)) (.cells #[Value.string ⟨y.id.toArray⟩,Value.string ⟨y.ins.toArray⟩,Value.int .i64 y.acq,Value.int .i64 y.opn,Value.string ⟨y.q.toArray⟩,Value.string ⟨y.cost.toArray⟩,Value.string ⟨y.used.toArray⟩] 130);have x1:Xh ((w.alloc (.cells #[Value.string ⟨x.id.toArray⟩,Value.string ⟨x.ins.toArray⟩,Value.int .i64 x.acq,Value.int .i64 x.opn,Value.string ⟨x.q.toArray⟩,Value.string ⟨x.cost.toArray⟩,Value.string ⟨x.used.toArray⟩] 130)).alloc (.cells #[Value.string ⟨y.id.toArray⟩,Value.string ⟨y.ins.toArray⟩,Value.int .i64 y.acq,Value.int .i64 y.opn,Value.string ⟨y.q.toArray⟩,Value.string ⟨y.cost.toArray⟩,Value.string ⟨y.used.toArray⟩] 130)) w.heap.size x:=(Xh.new w x 130).below hbB;have x2:Xh ((w.alloc (.cells #[Value.string ⟨x.id.toArray⟩,Value.string ⟨x.ins.toArray⟩,Value.int .i64 x.acq,Value.int .i64 x.opn,Value.string ⟨x.q.toArray⟩,Value.string ⟨x.cost.toArray⟩,Value.string ⟨x.used.toArray⟩] 130)).alloc (.cells #[Value.string ⟨y.id.toArray⟩,Value.string ⟨y.ins.toArray⟩,Value.int .i64 y.acq,Value.int .i64 y.opn,Value.string ⟨y.q.toArray⟩,Value.string ⟨y.cost.toArray⟩,Value.string ⟨y.used.toArray⟩] 130)) (w.heap.size+1) y:=by
  have:=Xh.new (w.alloc (.cells #[Value.string ⟨x.id.toArray⟩,Value.string ⟨x.ins.toArray⟩,Value.int .i64 x.acq,Value.int .i64 x.opn,Value.string ⟨x.q.toArray⟩,Value.string ⟨x.cost.toArray⟩,Value.string ⟨x.used.toArray⟩] 130)) y 130
  rwa [show (w.alloc (.cells #[Value.string ⟨x.id.toArray⟩,Value.string ⟨x.ins.toArray⟩,Value.int .i64 x.acq,Value.int .i64 x.opn,Value.string ⟨x.q.toArray⟩,Value.string ⟨x.cost.toArray⟩,Value.string ⟨x.used.toArray⟩] 130)).heap.size=w.heap.size+1 by simp] at this
 have hb:=bto hbA hbB;clear hbA hbB;have q0:=x1.c2;have q1:=x2.c2;clear x1 x2;go_enter Tryz.func269,Tryz.ntmps269;go_wp2_with fail
 with_reducible refine (C1.out _).mono ?_
 rintro e w3 ⟨rfl,rfl⟩;go_wp2;go_ret;exact⟨rfl,hb⟩
theorem DG (args:Array Value) (w:World):(callFunc 269 args).run Tryz.prog w=.ok (.enter 269 args) w:=by kernel_rfl
theorem Z9 {P:Program} (fn:Func) (a:Tmp) (t:TypeId) {tmps:Array Value} {w:World} {b:Nat} (cs:Array Value) {d:TypeDesc} (hr:fn.results=#[.cell a t]) (ha:tmps.getD a undef=.pointer (some ⟨b,0,none⟩)) (hc:w.rangeAt b 0 cs.toList)
  (hu:P.underlying t=some d) (hd:d.isRow=true) (hi:(P.info? t).map (·.size)=some cs.size):(results fn tmps).run P w=.ok (.agg cs) w:=by
 unfold results;rw[hr];have h:=run_loadVar_mid w b 0 t cs.toList d hc hu hd (by simpa using hi)
 have ha':tmps[a]?.getD undef=.pointer (some ⟨b,0,none⟩):=by rw[<-Array.getD_eq_getD_getElem?];exact ha
 simp[ha',asAddr,h]
theorem results_cell_tmp {P:Program} (fn:Func) (a c:Tmp) (t:TypeId) {tmps:Array Value} {w:World} {b:Nat} (cs:Array Value) (u:Value) {d:TypeDesc} (hr:fn.results=#[.cell a t,.tmp c]) (ha:tmps.getD a undef=.pointer (some ⟨b,0,none⟩)) (hcu:tmps.getD c undef=u) (hc:w.rangeAt b 0 cs.toList)
  (hu:P.underlying t=some d) (hd:d.isRow=true) (hi:(P.info? t).map (·.size)=some cs.size):(results fn tmps).run P w=.ok (.tuple #[.agg cs,u]) w:=by
 unfold results;rw[hr];have h:=run_loadVar_mid w b 0 t cs.toList d hc hu hd (by simpa using hi)
 have ha':tmps[a]?.getD undef=.pointer (some ⟨b,0,none⟩):=by rw[<-Array.getD_eq_getD_getElem?];exact ha
 have hc':tmps[c]?.getD undef=u:=by rw[<-Array.getD_eq_getD_getElem?];exact hcu
 simp[ha',hc',asAddr,h]
theorem Wh {w:World} {b:Nat} {cs:Array Value} {t:TypeId} (h:w.heap[b]?=some (.cells cs t (0,0))):w.there b 0 cs.size:=fun j hj=>by
 rw[Nat.zero_add];exact⟨by rw[Zg h,Array.getElem?_eq_getElem hj];rfl,Zm h _⟩
theorem Yk {w:World} {b:Nat} {cs:Array Value} {t:TypeId} (h:w.heap[b]?=some (.cells cs t (0,0))):w.rangeAt b 0 cs.toList:=fun j v hv=>by
 rw[Nat.zero_add,Zg h,<-hv,Array.getElem?_toList]
def WZ (bf:Nat):Array Value:=#[.string ⟨#[]⟩,.nilFunc,.bool false,.string ⟨#[102,105,102,111]⟩,.func (.func 269) #[] #[],.bool false,.string ⟨#[108,105,102,111]⟩,.func (.func 269) #[] #[],.bool true,.string ⟨#[104,105,103,104,101,115,116]⟩,.func (.func 274) #[] #[.pointer (some ⟨bf,0,none⟩)],.bool false,.string ⟨#[108,111,119,101,115,116]⟩,.func (.func 271) #[] #[.pointer (some ⟨bf,0,none⟩)],.bool false,.string ⟨#[110,97,109,101,100]⟩,.func (.func 269) #[] #[],.bool false,.string ⟨#[97,118,101,114,97,103,101]⟩,.func (.func 269) #[] #[],.bool false]
theorem LV (bf:Nat):(WZ bf).all (·.oneCell')=true:=by simp[WZ,Value.oneCell']
theorem Tx (bf:Nat):(WZ bf).size=21:=rfl
theorem NV:(Tryz.prog.info? 293).map (·.size)=some 21:=by kernel_rfl
theorem JL:(Tryz.prog.info? 240).map (·.size)=some 3:=by kernel_rfl
theorem QA:∀(l pre suf:List Value),suf.length=l.length->YR (pre++suf).toArray pre.length l=(pre++l).toArray
 | [],pre,suf,h=>by
  have:suf=[]:=List.eq_nil_of_length_eq_zero h
  subst this;rfl
 | v::l,pre,[],h=>by simp at h
 | v::l,pre,s::suf,h=>by
  have ih:=QA l (pre++[v]) suf (by simpa using h)
  unfold YR;have e:(pre++s::suf).toArray.setIfInBounds pre.length v=(pre++[v]++suf).toArray:=by simp
  rw[e,show pre.length+1=(pre++[v]).length by simp,ih]
  simp
theorem NW (bf:Nat):YR #[.string ⟨#[]⟩,.nilFunc,.bool false,.string ⟨#[]⟩,.nilFunc,.bool false,.string ⟨#[]⟩,.nilFunc,.bool false,.string ⟨#[]⟩,.nilFunc,.bool false,.string ⟨#[]⟩,.nilFunc,.bool false,.string ⟨#[]⟩,.nilFunc,.bool false,.string ⟨#[]⟩,.nilFunc,.bool false] 0 (WZ bf).toList=WZ bf:=by
 have h:=QA (WZ bf).toList [] [.string ⟨#[]⟩,.nilFunc,.bool false,.string ⟨#[]⟩,.nilFunc,.bool false,.string ⟨#[]⟩,.nilFunc,.bool false,.string ⟨#[]⟩,.nilFunc,.bool false,.string ⟨#[]⟩,.nilFunc,.bool false,.string ⟨#[]⟩,.nilFunc,.bool false,.string ⟨#[]⟩,.nilFunc,.bool false] rfl;exact h
theorem OU {P:Program} {ops:Array Oper} {rest:List Oper} {op:Oper} {a:Act} {w:World} {Q:Exit->Act->World->Prop} (hgd:op.guard=none) (ty:TypeId) (fs:Array (Nat×Operand)) (_ho:op.op=.build ty fs) (v:Value) (hr:(execOp a.eval op).run P w=.ok (.value v) w)
  (h:wpList P ops Q rest (a.put op.dst v) w):wpList P ops Q (op::rest) a w:=by
 exact wpList_plain hgd fun K hK=>by
  unfold Oper.wp;rw[hr];exact hK _ _ h
def Zc5 (w:World) (e:Ending) (w':World):Prop:=∃bf,e=.returned (.agg (WZ bf))/\w.heap.size<=bf/\Blk w' bf #[.func (.func 269) #[] #[]]/\Below w.heap.size w w'
theorem DI (w:World):Calls Tryz.prog 208 #[] w (Zc5 w):=by
 have HZ:=Lh NV;have hbA:=Zb w (.cells #[.string ⟨#[]⟩,.nilFunc,.bool false,.string ⟨#[]⟩,.nilFunc,.bool false,.string ⟨#[]⟩,.nilFunc,.bool false,.string ⟨#[]⟩,.nilFunc,.bool false,.string ⟨#[]⟩,.nilFunc,.bool false,.string ⟨#[]⟩,.nilFunc,.bool false,.string ⟨#[]⟩,.nilFunc,.bool false] 293);have hbB:=Zb (w.alloc (.cells #[.string ⟨#[]⟩,.nilFunc,.bool false,.string ⟨#[]⟩,.nilFunc,.bool false,.string ⟨#[]⟩,.nilFunc,.bool false,.string ⟨#[]⟩,.nilFunc,.bool false,.string ⟨#[]⟩,.nilFunc,.bool false,.string ⟨#[]⟩,.nilFunc,.bool false,.string ⟨#[]⟩,.nilFunc,.bool false] 293)) (.cells #[.func (.func 269) #[] #[]] 238);have hb:=bto hbA hbB;have hz:(w.alloc (.cells #[.string ⟨#[]⟩,.nilFunc,.bool false,.string ⟨#[]⟩,.nilFunc,.bool false,.string ⟨#[]⟩,.nilFunc,.bool false,.string ⟨#[]⟩,.nilFunc,.bool false,.string ⟨#[]⟩,.nilFunc,.bool false,.string ⟨#[]⟩,.nilFunc,.bool false,.string ⟨#[]⟩,.nilFunc,.bool false] 293)).heap.size=w.heap.size+1:=by simp
 have hA:Hid (((w.alloc (.cells #[.string ⟨#[]⟩,.nilFunc,.bool false,.string ⟨#[]⟩,.nilFunc,.bool false,.string ⟨#[]⟩,.nilFunc,.bool false,.string ⟨#[]⟩,.nilFunc,.bool false,.string ⟨#[]⟩,.nilFunc,.bool false,.string ⟨#[]⟩,.nilFunc,.bool false,.string ⟨#[]⟩,.nilFunc,.bool false] 293)).alloc (.cells #[.func (.func 269) #[] #[]] 238)).heap[w.heap.size]?=some (.cells #[.string ⟨#[]⟩,.nilFunc,.bool false,.string ⟨#[]⟩,.nilFunc,.bool false,.string ⟨#[]⟩,.nilFunc,.bool false,.string ⟨#[]⟩,.nilFunc,.bool false,.string ⟨#[]⟩,.nilFunc,.bool false,.string ⟨#[]⟩,.nilFunc,.bool false,.string ⟨#[]⟩,.nilFunc,.bool false] 293 (0,0))):=Zk (ZJ w _) hbB;have hB:Hid (((w.alloc (.cells #[.string ⟨#[]⟩,.nilFunc,.bool false,.string ⟨#[]⟩,.nilFunc,.bool false,.string ⟨#[]⟩,.nilFunc,.bool false,.string ⟨#[]⟩,.nilFunc,.bool false,.string ⟨#[]⟩,.nilFunc,.bool false,.string ⟨#[]⟩,.nilFunc,.bool false,.string ⟨#[]⟩,.nilFunc,.bool false] 293)).alloc (.cells #[.func (.func 269) #[] #[]] 238)).heap[w.heap.size+1]?=some (.cells #[.func (.func 269) #[] #[]] 238 (0,0))):=by
  have:=ZJ (w.alloc (.cells #[.string ⟨#[]⟩,.nilFunc,.bool false,.string ⟨#[]⟩,.nilFunc,.bool false,.string ⟨#[]⟩,.nilFunc,.bool false,.string ⟨#[]⟩,.nilFunc,.bool false,.string ⟨#[]⟩,.nilFunc,.bool false,.string ⟨#[]⟩,.nilFunc,.bool false,.string ⟨#[]⟩,.nilFunc,.bool false] 293)) (.cells #[.func (.func 269) #[] #[]] 238)
  rwa [hz] at this
 have q0:((w.alloc (.cells #[.string ⟨#[]⟩,.nilFunc,.bool false,.string ⟨#[]⟩,.nilFunc,.bool false,.string ⟨#[]⟩,.nilFunc,.bool false,.string ⟨#[]⟩,.nilFunc,.bool false,.string ⟨#[]⟩,.nilFunc,.bool false,.string ⟨#[]⟩,.nilFunc,.bool false,.string ⟨#[]⟩,.nilFunc,.bool false] 293)).alloc (.cells #[.func (.func 269) #[] #[]] 238)).cell? ⟨w.heap.size+1,0,none⟩=some (.func (.func 269) #[] #[]):=Zg hB.out 0;have hM:=LV (w.heap.size+1);have hS:=NW (w.heap.size+1);clear hbA hbB hz;have hTH:((w.alloc (.cells #[.string ⟨#[]⟩,.nilFunc,.bool false,.string ⟨#[]⟩,.nilFunc,.bool false,.string ⟨#[]⟩,.nilFunc,.bool false,.string ⟨#[]⟩,.nilFunc,.bool false,.string ⟨#[]⟩,.nilFunc,.bool false,.string ⟨#[]⟩,.nilFunc,.bool false,.string ⟨#[]⟩,.nilFunc,.bool false] 293)).alloc (.cells #[.func (.func 269) #[] #[]] 238)).there w.heap.size 0 (WZ (w.heap.size+1)).size:=by rw[Tx];exact Wh hA.out
 have hIN:(Tryz.prog.info? 293).map (·.size)=some (WZ (w.heap.size+1)).size:=by rw[Tx];exact HZ.out
 have hT:=Ts w.heap.size 293 (WZ (w.heap.size+1)).toList 0 _ _ hA.out;rw[hS] at hT;have hb2:Below w.heap.size w (((w.alloc (.cells #[.string ⟨#[]⟩,.nilFunc,.bool false,.string ⟨#[]⟩,.nilFunc,.bool false,.string ⟨#[]⟩,.nilFunc,.bool false,.string ⟨#[]⟩,.nilFunc,.bool false,.string ⟨#[]⟩,.nilFunc,.bool false,.string ⟨#[]⟩,.nilFunc,.bool false,.string ⟨#[]⟩,.nilFunc,.bool false] 293)).alloc (.cells #[.func (.func 269) #[] #[]] 238)).setCells w.heap.size 0 (WZ (w.heap.size+1)).toList):=
  (ZW (X:=fun k=>k=w.heap.size) rfl _ _ _).lower hb (fun k hk=>by rw[hk];exact Nl _)
 have hN:=hT.new;have hO:=(hT.old (w.heap.size+1) (by omega)).trans hB.out
 have HN:=Lh hN;have HO:=Lh hO;have HB2:=Lh hb2;clear hN hO hA hB hT hb hS hb2;go_enter Tryz.func208,Tryz.ntmps208
 go_wp2_with (first
  | (refine OU rfl 293 _ rfl (.agg (WZ (w.heap.size+1))) (by unfold WZ;go_simp;first|done|with_reducible rfl|rfl) ?_)
  | (refine wpList_store_mid rfl 293 (.tmp 0) (.tmp 18) rfl w.heap.size 0 (WZ (w.heap.size+1)) rfl rfl hTH hIN hM ?_))
 refine bodyPost_ret (v:=.agg (WZ (w.heap.size+1))) ?_ rfl ?_
 ·exact Z9 Tryz.f208 0 293 (WZ (w.heap.size+1)) rfl rfl (Yk HN.out) Tryz.underlying293 rfl HZ.out
 exact⟨w.heap.size+1,rfl,Nat.le_succ _,⟨_,HO.out⟩,HB2.out⟩
def Zco (w:World) (nm:Value) (fv:Nat->Value) (rv:Bool) (e:Ending) (w':World):Prop:=∃bf,e=.returned (.tuple #[.agg #[nm,fv bf,.bool rv],.bool true])/\w.heap.size<=bf/\Blk w' bf #[.func (.func 269) #[] #[]]/\Below w.heap.size w w'
theorem Zbw (w:World):Calls Tryz.prog 158 #[.int .i64 1] w (Zco w (.string ⟨#[102,105,102,111]⟩) (fun _=>.func (.func 269) #[] #[]) false):=by
 have HZ:=Lh NV;have HE:=Lh JL;have hb:=Zb w (.cells #[.string ⟨#[]⟩,.nilFunc,.bool false] 240);have hr:Hid ((w.alloc (.cells #[.string ⟨#[]⟩,.nilFunc,.bool false] 240)).heap[w.heap.size]?=some (.cells #[.string ⟨#[]⟩,.nilFunc,.bool false] 240 (0,0))):=ZJ w _;have C1:=Lh (DI (w.alloc (.cells #[.string ⟨#[]⟩,.nilFunc,.bool false] 240)));go_enter Tryz.func158,Tryz.ntmps158;go_wp2_with fail;refine C1.out.mono ?_;rintro e w1 ⟨bf,rfl,hbf,hB,hb1⟩;have hr1:=Lh (Zk hr.out hb1);have hbf2:w.heap.size<=bf:=by
  have h1:(w.alloc (.cells #[.string ⟨#[]⟩,.nilFunc,.bool false] 240)).heap.size=w.heap.size+1:=by simp
  omega
 replace hb:=bto hb hb1;have hlr:w.heap.size<w1.heap.size:=(Ag.1 hr1.out).1;have hne:w1.heap.size≠w.heap.size:=by omega
 have hbA:=Zb w1 (.cells #[.string ⟨#[]⟩,.nilFunc,.bool false,.string ⟨#[]⟩,.nilFunc,.bool false,.string ⟨#[]⟩,.nilFunc,.bool false,.string ⟨#[]⟩,.nilFunc,.bool false,.string ⟨#[]⟩,.nilFunc,.bool false,.string ⟨#[]⟩,.nilFunc,.bool false,.string ⟨#[]⟩,.nilFunc,.bool false] 293);have hA:Hid ((w1.alloc (.cells #[.string ⟨#[]⟩,.nilFunc,.bool false,.string ⟨#[]⟩,.nilFunc,.bool false,.string ⟨#[]⟩,.nilFunc,.bool false,.string ⟨#[]⟩,.nilFunc,.bool false,.string ⟨#[]⟩,.nilFunc,.bool false,.string ⟨#[]⟩,.nilFunc,.bool false,.string ⟨#[]⟩,.nilFunc,.bool false] 293)).heap[w1.heap.size]?=some (.cells #[.string ⟨#[]⟩,.nilFunc,.bool false,.string ⟨#[]⟩,.nilFunc,.bool false,.string ⟨#[]⟩,.nilFunc,.bool false,.string ⟨#[]⟩,.nilFunc,.bool false,.string ⟨#[]⟩,.nilFunc,.bool false,.string ⟨#[]⟩,.nilFunc,.bool false,.string ⟨#[]⟩,.nilFunc,.bool false] 293 (0,0))):=ZJ w1 _;have hM:=LV bf;have hS:=NW bf;have HB:=Lh (hB.below hbA);have hbl:=hB.lt;have hr2:=Lh (Zk hr1.out hbA);replace hb:=bto hb hbA;clear hr hr1 C1 hbf hB hb1 hbA;have hTH:(w1.alloc (.cells #[.string ⟨#[]⟩,.nilFunc,.bool false,.string ⟨#[]⟩,.nilFunc,.bool false,.string ⟨#[]⟩,.nilFunc,.bool false,.string ⟨#[]⟩,.nilFunc,.bool false,.string ⟨#[]⟩,.nilFunc,.bool false,.string ⟨#[]⟩,.nilFunc,.bool false,.string ⟨#[]⟩,.nilFunc,.bool false] 293)).there w1.heap.size 0 (WZ bf).size:=by rw[Tx];exact Wh hA.out
 have hIN:(Tryz.prog.info? 293).map (·.size)=some (WZ bf).size:=by rw[Tx];exact HZ.out
 have hT:=Ts w1.heap.size 293 (WZ bf).toList 0 _ _ hA.out;rw[hS] at hT;have hb2:Below w.heap.size w ((w1.alloc (.cells #[.string ⟨#[]⟩,.nilFunc,.bool false,.string ⟨#[]⟩,.nilFunc,.bool false,.string ⟨#[]⟩,.nilFunc,.bool false,.string ⟨#[]⟩,.nilFunc,.bool false,.string ⟨#[]⟩,.nilFunc,.bool false,.string ⟨#[]⟩,.nilFunc,.bool false,.string ⟨#[]⟩,.nilFunc,.bool false] 293)).setCells w1.heap.size 0 (WZ bf).toList):=
  (ZW (X:=fun k=>k=w1.heap.size) rfl _ _ _).lower hb (fun k hk=>by rw[hk];omega)
 have hN:=Lh hT.new;have hr3:Hid (((w1.alloc (.cells #[.string ⟨#[]⟩,.nilFunc,.bool false,.string ⟨#[]⟩,.nilFunc,.bool false,.string ⟨#[]⟩,.nilFunc,.bool false,.string ⟨#[]⟩,.nilFunc,.bool false,.string ⟨#[]⟩,.nilFunc,.bool false,.string ⟨#[]⟩,.nilFunc,.bool false,.string ⟨#[]⟩,.nilFunc,.bool false] 293)).setCells w1.heap.size 0 (WZ bf).toList).heap[w.heap.size]?=some (.cells #[.string ⟨#[]⟩,.nilFunc,.bool false] 240 (0,0))):=(hT.old _ (by omega)).trans hr2.out
 have HB2:Hid (Blk ((w1.alloc (.cells #[.string ⟨#[]⟩,.nilFunc,.bool false,.string ⟨#[]⟩,.nilFunc,.bool false,.string ⟨#[]⟩,.nilFunc,.bool false,.string ⟨#[]⟩,.nilFunc,.bool false,.string ⟨#[]⟩,.nilFunc,.bool false,.string ⟨#[]⟩,.nilFunc,.bool false,.string ⟨#[]⟩,.nilFunc,.bool false] 293)).setCells w1.heap.size 0 (WZ bf).toList) bf #[.func (.func 269) #[] #[]]):=by
  obtain⟨t0,h0⟩:=HB.out;exact⟨t0,(hT.old bf (by omega)).trans h0⟩
 obtain⟨W2,hW2⟩:∃W2,W2=((w1.alloc (.cells #[.string ⟨#[]⟩,.nilFunc,.bool false,.string ⟨#[]⟩,.nilFunc,.bool false,.string ⟨#[]⟩,.nilFunc,.bool false,.string ⟨#[]⟩,.nilFunc,.bool false,.string ⟨#[]⟩,.nilFunc,.bool false,.string ⟨#[]⟩,.nilFunc,.bool false,.string ⟨#[]⟩,.nilFunc,.bool false] 293)).setCells w1.heap.size 0 (WZ bf).toList):=⟨_,rfl⟩
 rw[<-hW2] at hN hr3 HB2 hb2;clear hA hT hS HB hr2 hb;have p0:W2.cell? ⟨w1.heap.size,3,none⟩=some (.string ⟨#[102,105,102,111]⟩):=Zg hN.out 3;have p1:W2.cell? ⟨w1.heap.size,4,none⟩=some (.func (.func 269) #[] #[]):=Zg hN.out 4;have p2:W2.cell? ⟨w1.heap.size,5,none⟩=some (.bool false):=Zg hN.out 5;have g0:W2.cell? ⟨w.heap.size,0,none⟩=some (.string ⟨#[]⟩):=Zg hr3.out 0;have g1:W2.cell? ⟨w.heap.size,1,none⟩=some .nilFunc:=Zg hr3.out 1;have g2:W2.cell? ⟨w.heap.size,2,none⟩=some (.bool false):=Zg hr3.out 2;have f0:W2.frozen? ⟨w.heap.size,0,none⟩=false:=Zm hr3.out 0;have f1:W2.frozen? ⟨w.heap.size,1,none⟩=false:=Zm hr3.out 1;have f2:W2.frozen? ⟨w.heap.size,2,none⟩=false:=Zm hr3.out 2;have hR:(((W2.setCell ⟨w.heap.size,0,none⟩ (.string ⟨#[102,105,102,111]⟩)).setCell ⟨w.heap.size,1,none⟩ (.func (.func 269) #[] #[])).setCell ⟨w.heap.size,2,none⟩ (.bool false)).rangeAt w.heap.size 0 [.string ⟨#[102,105,102,111]⟩,.func (.func 269) #[] #[],.bool false]:=Yk (hset _ (hset _ (hset _ hr3.out)));have HW2:=Lh hW2;clear hW2;go_wp2_with (refine wpList_store_mid rfl 293 (.tmp 4) (.tmp 5) rfl w1.heap.size 0 (WZ bf) rfl rfl hTH hIN hM ?_;rw[<-HW2.out]);refine bodyPost_ret (v:=.tuple #[.agg #[.string ⟨#[102,105,102,111]⟩,.func (.func 269) #[] #[],.bool false],.bool true]) ?_ rfl ?_
 ·exact results_cell_tmp Tryz.f158 2 3 240 #[.string ⟨#[102,105,102,111]⟩,.func (.func 269) #[] #[],.bool false] (.bool true) rfl rfl rfl hR Tryz.underlying240 rfl HE.out
 refine⟨bf,rfl,hbf2,?_,((hb2.setCell (p:=⟨w.heap.size,0,none⟩) (Nl _) _).setCell (p:=⟨w.heap.size,1,none⟩) (Nl _) _).setCell (p:=⟨w.heap.size,2,none⟩) (Nl _) _⟩;have hn:bf≠w.heap.size:=by
  intro e
  have:=HB2.out
  rw[e] at this;obtain⟨t0,h0⟩:=this;rw[hr3.out] at h0;cases h0
 exact ((HB2.out.setO hn).setO hn).setO hn
def Fa (cap:Bool) (bf:Nat):Array Value:=if cap=true then #[.pointer (some ⟨bf,0,none⟩)] else #[]
def Zcp (f:Nat) (cap:Bool):Prop:=(f=269/\cap=false)∨(f=271/\cap=true)∨(f=274/\cap=true)
def Zcq (m:Int) (w:World) (e:Ending) (w':World):Prop:=∃(nm:List UInt8) (f:Nat) (cap rv:Bool) (bf:Nat),e=.returned (.tuple #[.agg #[.string ⟨nm.toArray⟩,.func (.func f) #[] (Fa cap bf),.bool rv],.bool true])/\w.heap.size<=bf/\Blk w' bf #[.func (.func 269) #[] #[]]/\Below w.heap.size w w'/\Zcp f cap/\(m=1->f=269/\cap=false/\rv=false)
def ZaS (w:World) (own:List Lot) (n f:Nat) (rv:Bool) (e:Ending) (w':World):Prop:=∃g cp zs,e=.returned (.slice (some ⟨g,0,none⟩) n cp)/\w.heap.size<=g/\YL w' g zs/\zs.Perm own/\Below w.heap.size w w'/\(rv=false->f=269->n<=20->Nr cfF own->zs=own)
theorem Zc6 {w0 w:World} {g n c f:Nat} {caps:Array Value} {cf:Lot->Lot->Int} {xs ys:List Lot} (H:G7 w0 g xs f caps cf) (h:SAt w0 g xs w ys) (hn:xs.length=n) (hn2:n<20) :
  Calls Tryz.prog 275 #[.slice (some ⟨g,0,none⟩) n c,.int .i64 (n:Int),.func (.func f) #[] caps] w (ZaR w0 g xs ys n cf):=by
 have HS:=Lh h;have HN:=Lh hn;have HH:=Lh H;have e1:decide (20<=n)=false:=Df (by omega)
 have e2:decide ((20:Int)<=(n:Int))=false:=Df (by omega)
 have e3:decide (20<n)=false:=Df (by omega)
 have e4:decide ((20:Int)<(n:Int))=false:=Df (by omega)
 clear h hn H;go_enter Tryz.func275,Tryz.ntmps275;go_wp2_with fail
 go_loopw [7,8] (fun av bv wr=>av=.int .i64 0/\bv=.int .i64 20/\Hid (SAt w0 g xs wr ys)) (fun _ _ _=>0)
 case atStart=>exact⟨rfl,rfl,HS.out⟩
 case round=>
  clear HS;obtain⟨rfl,rfl,HS⟩:=hrel;go_wp2_with fail;refine (ZcZ HH.out HS.out HN.out (by omega) 0 n (Nat.zero_le _) (Nl _)).mono ?_
  rintro e w2 ⟨rfl,zs2,hs2,ho2⟩;have HS2:=Lh hs2;have HO2:=Lh ho2;clear hs2 ho2 HS;go_wp2_with fail
  rename World=>wo
  go_loopw [6,7,8,9] (fun sv _ _ _ wr=>sv=.int .i64 20/\Hid (SAt w0 g xs wr zs2)) (fun _ _ _ _ _=>0)
  case atStart=>exact⟨rfl,HS2.out⟩
  case round=>
   clear HS2;obtain⟨rfl,HS⟩:=hrel;go_wp2
   go_end0
   exact⟨rfl,zs2,HS.out,fun _=>HO2.out⟩
theorem AX {w:World} {g n c f:Nat} {caps:Array Value} {cf:Lot->Lot->Int} {xs:List Lot} (H:G7 w g xs f caps cf) (h:YL w g xs) (hn:xs.length=n) (hn2:n<20) :
  Calls Tryz.prog 211 #[.slice (some ⟨g,0,none⟩) n c,.func (.func f) #[] caps] w (ZaR w g xs xs n cf):=by
 have C1:=Lh (Zc6 (c:=c) H ⟨h,List.Perm.refl _,Zl.refl _ _⟩ hn hn2);clear H h hn;go_enter Tryz.func211,Tryz.ntmps211;go_wp2_with fail;refine C1.out.mono ?_;rintro e w2 ⟨rfl,zs,hs,ho⟩;have HS:=Lh hs;have HO:=Lh ho;clear hs ho C1;go_wp2
 go_end0
 exact⟨rfl,zs,HS.out,HO.out⟩
theorem SY {w:World} {b:Nat} {old cs:Array Value} {ty:TypeId} (h:w.heap[b]?=some (.cells old ty (0,0))) (hs:old.size=cs.size):w.there b 0 cs.size/\Xm w (w.setCells b 0 cs.toList) b (.cells cs ty (0,0)):=by
 refine⟨fun j hj=>⟨by rw[Zg h,Array.getElem?_eq_getElem (by omega)];rfl,Zm h _⟩,?_⟩
 have h1:=Ts b ty cs.toList 0 old w h;have h2:=QA cs.toList [] old.toList (by simpa using hs)
 simp only[List.nil_append,List.length_nil,Array.toArray_toList] at h2
 rwa [h2] at h1
theorem AY {w:World} {own:List Lot} {A:Option Addr} {n:Nat} (c:Nat) (_:GE w) (hL:Xp w A own n) (h0:1<=n) (hn20:n<20) (nm:List UInt8) (bf:Nat) (hB:Blk w bf #[.func (.func 269) #[] #[]]) :
  Calls Tryz.prog 167 #[.agg #[.string ⟨nm.toArray⟩,.func (.func 269) #[] (#[]),.bool false],.slice A n c] w (ZaS w own n 269 false):=by
 have hn:=hL.big;have HS:=Lh hL.sm;have HL:=Lh hL.len;have hbA:=Zb w (.cells #[.string ⟨nm.toArray⟩,.func (.func 269) #[] (#[]),.bool false] 240);have HE:=Lh (Blk.new w #[.string ⟨nm.toArray⟩,.func (.func 269) #[] (#[]),.bool false] 240);have C1:=Lh (GQ A own n c _ hL.len h0 (by omega) (hL.mem.below hbA))
 have hbl:=hB.lt;have HBA:=Lh (hB.below hbA);clear hL hB;go_enter Tryz.func167,Tryz.ntmps167;go_wp2_with fail;refine C1.out.mono ?_;rintro e w1 ⟨g,cp,rfl,hg,hr,hb1⟩;have hsz:(w.alloc (.cells #[.string ⟨nm.toArray⟩,.func (.func 269) #[] (#[]),.bool false] 240)).heap.size=w.heap.size+1:=by simp
 have hg0:w.heap.size<=g:=by omega
 have hgb:w.heap.size≠g:=by omega
 have hgbf:bf≠g:=by omega
 have HE1:=Lh (HE.out.below hb1);have HBF:=Lh (HBA.out.below hb1);replace hb1:=bto hbA hb1;replace hg:=hg0;have HSC:Hid (G7 w1 g own 269 (#[]) cfF):=⟨DG,fun W x y hb hx hy=>Zbv x y W⟩
 have CS:=Lh (AX (c:=cp) HSC.out hr HL.out hn20);have q1:=HE1.out.c 1;clear hr hsz HSC hbA HE HBA C1;go_wp2_with fail;refine CS.out.mono ?_;rintro e w2 ⟨rfl,zs,hz,ho⟩;have HZS:=Lh hz;have HO:=Lh ho;have q2:=(HE1.out.keepX hz.bw hgb).c 2;clear q1 CS hz ho HE1;have HR:Hid (ZaS w own n 269 false (.returned (.slice (some ⟨g,0,none⟩) n cp)) w2):=⟨g,cp,zs,rfl,hg0,HZS.out.row,HZS.out.perm,HZS.out.bw.lower hb1 (fun k hk=>by rw[hk];exact hg),fun _ _ h20 ho=>HO.out h20 ho⟩
 clear HZS;go_wp2;go_ret;exact HR.out
theorem DJ (w:World):Calls Tryz.prog 158 #[.int .i64 1] w (Zcq 1 w):=
 (Zbw w).mono fun _ _ ⟨bf,he,h1,h2,h3⟩=>⟨[102,105,102,111],269,false,false,bf,he,h1,h2,h3,.inl ⟨rfl,rfl⟩,fun _=>⟨rfl,rfl,rfl⟩⟩
theorem Zbx (w:World):Calls Tryz.prog 90 #[.int .i64 1] w fun e w'=>(∃s:List UInt8,e=.returned (.tuple #[.string ⟨s.toArray⟩,.int .i64 0]))/\Below w.heap.size w w':=by
 have C1:=Lh (DJ w);go_enter Tryz.func90,Tryz.ntmps90;go_wp2_with fail;refine C1.out.mono ?_;rintro e w1 ⟨nm,f,cap,rv,bf,rfl,-,-,hb,-,-⟩;have hbA:=Zb w1 (.cells #[.string ⟨nm.toArray⟩,.func (.func f) #[] (Fa cap bf),.bool rv] 240);have B:=Blk.new w1 #[.string ⟨nm.toArray⟩,.func (.func f) #[] (Fa cap bf),.bool rv] 240;have p0:=B.c 0;replace hb:=bto hb hbA;clear hbA B C1;go_wp2;go_ret2;exact⟨⟨nm,rfl⟩,hb⟩
section
variable {P:Program} {w:World}
theorem V8 (base:Nat) (t ty e:TypeId) (i:TypeInfo) (z:Value) (size bytes:Nat) (ht:P.underlying t=some (.slice e)) (hi:P.info? e=some i) (hz:i.zero=some z)
  (hsize:i.size=size) (hby:i.bytes=bytes) (hzs:z.cells.size=size) (hsz:0<size)
  (v:Value) (n:Nat) (xs:List Value) (hown:w.ownsRow base e size v n xs)
  (a:Addr) (m c:Nat) (news:List Value) (hl:news.length=m*size) (hnews:∀j u,news[j]?=some u->w.cell? (a.add j)=some u) (h1:∀u∈news,u.oneCell'=true)
  (h63:n+m<=maxLen) (hbytes:(n+m)*bytes<=140737488355328) {v':Value} {w':World} (hr:(Builtin.append_ #[t,t] ty #[v,.slice (some a) m c]).run P w=.ok v' w') :
  ∀g,v'.ownBlock=some g->v.ownBlock=some g∨w.heap.size<=g:=by
 intro g hg;have hsmall:n+m<=9223372036854775807:=by simp only[maxLen] at h63;omega
 rcases hown.2 with ⟨rfl,rfl⟩|⟨g0,cap,cur,rfl,hbg,hgg,hnc,hcm,hcs,htake⟩
 ·obtain⟨v2,w2,hr2,h2,-,-⟩:=run_append_own (P:=P) w w.heap.size t ty e i z size bytes ht hi hz hsize hby hzs hsz (.slice none 0 0) 0 [] (World.ownsRow_nil w w.heap.size e size) a m c news hl hnews h1 h63 hbytes (Nl _);rw[hr] at hr2;injection hr2 with e1 e2
  subst e1 e2;exact .inr (h2.lt g hg).1
 ·subst hsize;subst hby
  by_cases hroom:n+m<=cap
  ·have hfit:n*i.size+news.length<=cur.size:=by rw[hl,hcs,<-Nat.add_mul];exact Nat.mul_le_mul_right _ hroom
   have hr2:=run_append_room (P:=P) w t ty e i ht hi g0 n cap cur hgg a m c news hl hnews h1 hroom hfit;rw[hr] at hr2;injection hr2 with e1 e2
   subst e1;exact .inl hg
  ·have holds:∀j u,xs[j]?=some u->w.cell? ((⟨g0,0,none⟩:Addr).add j)=some u:=hown.cells (g:=g0) rfl
   have hr2:=run_append_grow (P:=P) w t ty e i z ht hi hz ⟨g0,0,none⟩ n cap xs hown.1 holds a m c news hl hnews (by omega) (by omega) (growslice_fits (by omega) hbytes)
   rw[hr] at hr2;injection hr2 with e1 e2
   subst e1;injection hg with hg
   exact .inr (Nat.le_of_eq hg)
theorem ZS {ops:Array Oper} {rest:List Oper} {o:Oper} {a:Act} {Q:Exit->Act->World->Prop} (hgd:o.guard=none) (s x:Operand) (t:TypeId)
  (ho:o.op=.call { callee:=.builtin .append,args:=#[s,x],argTypes:=#[t,t] })
  (base:Nat) (e:TypeId) (i:TypeInfo) (z:Value) (size bytes:Nat) (ht:P.underlying t=some (.slice e)) (hi:P.info? e=some i) (hz:i.zero=some z)
  (hsize:i.size=size) (hby:i.bytes=bytes) (hzs:z.cells.size=size) (hsz:0<size)
  (v:Value) (n:Nat) (xs:List Value) (hs:a.eval s=v) (hown:w.ownsRow base e size v n xs)
  (ad:Addr) (m c:Nat) (news:List Value) (hx:a.eval x=.slice (some ad) m c) (hl:news.length=m*size) (hnews:∀j u,news[j]?=some u->w.cell? (ad.add j)=some u) (h1:∀u∈news,u.oneCell'=true)
  (h63:n+m<=maxLen) (hbytes:(n+m)*bytes<=140737488355328) (hbase:base<=w.heap.size)
  (h:∀v' w',w'.ownsRow base e size v' (n+m) (xs++news)->w.grownBy w' v.ownBlock->(∀g,v'.ownBlock=some g->v.ownBlock=some g∨w.heap.size<=g)->wpList P ops Q rest (a.put o.dst v') w'):wpList P ops Q (o::rest) a w:=
 wpList_plain hgd fun _ hK=>by
  obtain⟨v',w',hr,h2,h3,-⟩:=run_append_own (P:=P) w base t o.type e i z size bytes ht hi hz hsize hby hzs hsz v n xs hown ad m c news hl hnews h1 h63 hbytes hbase;have h5:=V8 (P:=P) base t o.type e i z size bytes ht hi hz hsize hby hzs hsz v n xs hown ad m c news hl hnews h1 h63 hbytes hr;unfold Oper.wp execOp;simp only[ho,resolve,invoke,builtin,Sem.run_bind,Sem.run_pure,Result.andThen_ok,List.map_toArray,List.map_cons,List.map_nil,hs,hx,hr];exact hK _ _ (h v' w' h2 h3 h5)
end
def Dis (u v:Value):Prop:=∀g,u.ownBlock=some g->v.ownBlock≠some g
theorem Dis.symm {u v:Value} (h:Dis u v):Dis v u:=fun g hv hu=>h g hu hv
theorem Dis.fresh {u u' v:Value} {N:Nat} (h:Dis u v) (hf:∀g,u'.ownBlock=some g->u.ownBlock=some g∨N<=g) (hv:∀g,v.ownBlock=some g->g<N):Dis u' v:=fun g hu hg=>by
 rcases hf g hu with h1|h1
 ·exact h g h1 hg
 ·have:=hv g hg;omega
theorem LW {u u':Value} {N b:Nat} (h:u.ownBlock≠some b) (hf:∀g,u'.ownBlock=some g->u.ownBlock=some g∨N<=g) (hb:b<N):u'.ownBlock≠some b:=fun hu=>by
 rcases hf b hu with h1|h1
 ·exact h h1
 ·omega
def WO (xs:List Pk):List Value:=xs.flatMap (fun x=>[.string ⟨x.lot.toArray⟩,.string ⟨x.q.toArray⟩])
theorem Sj (x:Pk) (xs:List Pk):WO (x::xs)=.string ⟨x.lot.toArray⟩::.string ⟨x.q.toArray⟩::WO xs:=rfl
theorem NY:∀xs:List Pk,(WO xs).length=xs.length*2
 | []=>rfl
 | x::xs=>by rw[Sj,List.length_cons,List.length_cons,NY xs,List.length_cons];omega
theorem Fb (xs ys:List Pk):WO (xs++ys)=WO xs++WO ys:=List.flatMap_append
theorem SZ:∀{xs:List Pk} {i:Nat} {x:Pk},xs[i]?=some x->(WO xs)[i*2]?=some (.string ⟨x.lot.toArray⟩)/\(WO xs)[i*2+1]?=some (.string ⟨x.q.toArray⟩)
 | [],i,x,h=>by simp at h
 | y::xs,0,x,h=>by
  have:y=x:=by simpa using h
  subst this;exact⟨rfl,rfl⟩
 | y::xs,i+1,x,h=>by
  obtain⟨h1,h2⟩:=SZ (xs:=xs) (i:=i) (x:=x) (by simpa using h)
  rw[Sj,show (i+1)*2=i*2+1+1 by omega]
  exact⟨by simpa using h1,by simpa using h2⟩
theorem NZ:∀{xs:List Pk} {i:Nat} {x:Pk} (a:List UInt8),xs[i]?=some x->(WO xs).set (i*2+1) (.string ⟨a.toArray⟩)=WO (xs.set i ⟨x.lot,a⟩)
 | [],i,x,a,h=>by simp at h
 | y::xs,0,x,a,h=>by
  have:y=x:=by simpa using h
  subst this;rfl
 | y::xs,i+1,x,a,h=>by
  have h1:=NZ (xs:=xs) (i:=i) (x:=x) a (by simpa using h)
  rw[Sj,show (i+1)*2+1=(i*2+1)+1+1 by omega,List.set_cons_succ,List.set_cons_succ,h1];rfl
def Nu (w:World) (g:Nat) (qs:List Pk):Prop:=∃cur:Array Value,w.heap[g]?=some (.cells cur 195 (0,0))/\cur.toList.take (qs.length*2)=WO qs/\qs.length*2<=cur.size
section
variable {w w':World} {g b i:Nat} {qs:List Pk} {u:Value}
theorem Nu.lt (h:Nu w g qs):g<w.heap.size:=by obtain⟨cur,h,-⟩:=h;exact (Ag.1 h).1
theorem Nu.cells {x:Pk} (h:Nu w g qs) (hx:qs[i]?=some x):w.cell? ⟨g,i*2,none⟩=some (.string ⟨x.lot.toArray⟩)/\w.cell? ⟨g,i*2+1,none⟩=some (.string ⟨x.q.toArray⟩):=by
 obtain⟨cur,hh,ht,hs⟩:=h;have hi:=(Lg.1 hx).1;obtain⟨h1,h2⟩:=SZ hx;constructor
 ·rw[Zg hh,<-h1,<-ht,List.getElem?_take,if_pos (by omega),Array.getElem?_toList]
 ·rw[Zg hh,<-h2,<-ht,List.getElem?_take,if_pos (by omega),Array.getElem?_toList]
theorem Nu.pkAt (h:Nu w g qs):TD w (some ⟨g,0,none⟩) qs:=fun i t ht=>by
 obtain⟨h1,h2⟩:=h.cells ht;exact⟨g,0,rfl,h.lt,by rw[Nat.zero_add];exact h1,by rw[Nat.zero_add];exact h2⟩
end
theorem DK {w:World} {base n c:Nat} {A:Option Addr} {qs:List Pk} (h:w.ownsRow base 195 2 (.slice A n c) n (WO qs)) (hn:n=qs.length) (h0:0<n):∃g,A=some ⟨g,0,none⟩/\base<=g/\Nu w g qs:=by
 rcases h.2 with ⟨hv,h1⟩|⟨g,cap,cur,hv,hb,hh,hcap,_,hsz,htk⟩
 ·omega
 ·injection hv with h1 _ h3
  subst h1 h3;refine⟨g,rfl,hb,cur,hh,by rw[<-hn];exact htk,by omega⟩
def Yy (w:World) (B:Nat) (v:Value) (xs:List Pk):Prop:=w.ownsRow B 195 2 v xs.length (WO xs)
section
variable {w w':World} {B b i:Nat} {u v v':Value} {xs:List Pk}
theorem Yy.below (h:Yy w B v xs) (hb:Below w.heap.size w w'):Yy w' B v xs:=by
 refine⟨h.1,?_⟩;rcases h.2 with h2|⟨g,cap,cur,e,hB,hg,r⟩
 ·exact .inl h2
 ·exact .inr ⟨g,cap,cur,e,hB,(hb.block g (Ag.1 hg).1).trans hg,r⟩
theorem Yy.block (h:Yy w B v xs):∀g,v.ownBlock=some g->B<=g/\g<w.heap.size:=World.ownsRow.lt h
theorem Yy.form (h:Yy w B v xs):∃A c,v=.slice A xs.length c:=by
 rcases h.2 with ⟨e,hn⟩|⟨g,cap,cur,e,-⟩
 ·exact⟨none,0,by rw[e,hn]⟩
 ·exact⟨_,_,e⟩
theorem Yy.row (h:Yy w B v xs) (h0:0<xs.length):∃g c,v=.slice (some ⟨g,0,none⟩) xs.length c/\B<=g/\Nu w g xs:=by
 obtain⟨A,c,rfl⟩:=h.form;obtain⟨g,rfl,hB,hp⟩:=DK (show w.ownsRow B 195 2 (.slice A xs.length c) xs.length (WO xs) from h) rfl h0
 exact⟨g,c,rfl,hB,hp⟩
theorem Yy.pkAt (h:Yy w B v xs) {A:Option Addr} {n c:Nat} (e:v=.slice A n c):TD w A xs:=by
 by_cases h0:0<xs.length
 ·obtain⟨g,c',e2,-,hp⟩:=h.row h0;rw[e] at e2;injection e2 with e2
  subst e2;exact hp.pkAt
 ·have:xs=[]:=List.eq_nil_of_length_eq_zero (by omega)
  subst this;exact fun i x hx=>by simp at hx
theorem Yy.set {c:Nat} {g:Nat} {x:Pk} (h:Yy w B (.slice (some ⟨g,0,none⟩) xs.length c) xs) (hx:xs[i]?=some x) (a:List UInt8):Yy (w.setCell ⟨g,i*2+1,none⟩ (.string ⟨a.toArray⟩)) B (.slice (some ⟨g,0,none⟩) xs.length c) (xs.set i ⟨x.lot,a⟩):=by
 have hl:(xs.set i ⟨x.lot,a⟩).length=xs.length:=List.length_set ..;refine⟨by rw[NY],?_⟩
 rcases h.2 with ⟨e,hn⟩|⟨g',cap,cur,e,hB,hg,h1,h2,h3,h4⟩
 ·cases e
 ·injection e with e1 e2 e3
  injection e1 with e1
  injection e1 with e1
  subst e1 e3;refine .inr ⟨g,c,cur.setIfInBounds (i*2+1) (.string ⟨a.toArray⟩),by rw[hl],hB,?_,by rw[hl];exact h1,h2,by rw[Array.size_setIfInBounds];exact h3,?_⟩
  ·obtain⟨hlt,hk⟩:=Ag.1 hg;show (w.heap.modify g _)[g]?=_;rw[Array.getElem?_eq_getElem (by rw[Array.size_modify];exact hlt),Array.getElem_modify_self,hk]
   simp
  ·rw[hl,Array.toList_setIfInBounds,List.take_set,h4,NZ a hx]
theorem Yy.far (h:Yy w B v xs) (hn:v.ownBlock≠some b):Yy (w.setCell ⟨b,i,none⟩ u) B v xs:=by
 refine⟨h.1,?_⟩;rcases h.2 with h2|⟨g,cap,cur,e,hB,hg,r⟩
 ·exact .inl h2
 ·refine .inr ⟨g,cap,cur,e,hB,(Below.heap_setCell w ⟨b,i,none⟩ u g (fun hgb=>hn (by rw[e];exact congrArg some hgb))).trans hg,r⟩
end
theorem Yy.app {w:World} {B n:Nat} {v:Value} {xs:List Pk} {x:Pk} (h:w.ownsRow B 195 2 v (n+1) (WO xs++[.string ⟨x.lot.toArray⟩,.string ⟨x.q.toArray⟩])) (hn:xs.length=n):Yy w B v (xs++[x]):=by
 unfold Yy;rw[List.length_append,List.length_singleton,hn,Fb];exact h
theorem DL (w:World) (B:Nat):Yy w B (.slice none 0 0) []:=World.ownsRow_nil w B _ 2
theorem Yy.formN {w:World} {B n:Nat} {v:Value} {xs:List Pk} (h:Yy w B v xs) (hn:xs.length=n):∃A c,v=.slice A n c:=by rw[<-hn];exact h.form
theorem Fc:(Tryz.prog.info? 195).map (fun i=>(i.zero,i.size,i.bytes))=some (some (.agg #[.string ⟨#[]⟩,.string ⟨#[]⟩]),2,32):=by kernel_rfl
theorem ZaT (p:Pk) (x:Lot) (bx:Nat) (w:World) (h:Blk w bx #[Value.string ⟨x.id.toArray⟩,Value.string ⟨x.ins.toArray⟩,Value.int .i64 x.acq,Value.int .i64 x.opn,Value.string ⟨x.q.toArray⟩,Value.string ⟨x.cost.toArray⟩,Value.string ⟨x.used.toArray⟩]) :
  Calls Tryz.prog 164 #[.agg #[.string ⟨p.lot.toArray⟩,.string ⟨p.q.toArray⟩],.pointer (some ⟨bx,0,none⟩)] w fun e w'=>e=.returned (.bool (Yb x.id p))/\Below w.heap.size w w':=by
 have hb:=Zb w (.cells #[.string ⟨p.lot.toArray⟩,.string ⟨p.q.toArray⟩] 195);have x1:=Blk.new w #[.string ⟨p.lot.toArray⟩,.string ⟨p.q.toArray⟩] 195;have p0:=x1.c 0;have p1:=(h.below hb).c 0;have HV:Hid (Yb x.id p=(p.lot==x.id)):=rfl;have he:=Tn p.lot x.id;generalize Yb x.id p=R at *;clear h x1;go_enter Tryz.func164,Tryz.ntmps164;go_wp2;go_ret;refine⟨Ya ?_,hb⟩;rw[HV.out]<;>first|exact he|rfl
theorem OV (args:Array Value) (w:World):(callFunc 164 args).run Tryz.prog w=.ok (.enter 164 args) w:=by kernel_rfl
theorem Yy.same {w1 w2:World} {B:Nat} {v:Value} {xs:List Pk} (h:Yy w1 B v xs) (e:∀g,v.ownBlock=some g->w2.heap[g]?=w1.heap[g]?):Yy w2 B v xs:=by
 refine⟨h.1,?_⟩;rcases h.2 with h2|⟨g,cap,cur,ev,hB,hg,r⟩
 ·exact .inl h2
 ·exact .inr ⟨g,cap,cur,ev,hB,(e g (by rw[ev];rfl)).trans hg,r⟩
structure MJ (w:World) (B bo bq:Nat) (s:List Pk×List UInt8) (v:Value) (W:World):Prop where
 below:Below w.heap.size w W
 lq:w.heap.size<=bq
 lo:bq<bo
 lb:bo<B
 le:B<=W.heap.size
 rem:W.heap[bq]?=some (.cells #[.string ⟨s.2.toArray⟩] 32 (0,0))
 out:W.heap[bo]?=some (.cells #[v] 45 (0,0))
 row:Yy W B v s.1
theorem MJ.go {w W W':World} {B bo bq:Nat} {s:List Pk×List UInt8} {v:Value} (h:MJ w B bo bq s v W) (hb:Below W.heap.size W W'):MJ w B bo bq s v W':=
 ⟨bto h.below hb,h.lq,h.lo,h.lb,Nt h.le hb.size,Zk h.rem hb,Zk h.out hb,h.row.below hb⟩
def TkX (bo bq:Nat) (v:Value) (k:Nat):Prop:=k=bo∨k=bq∨v.ownBlock=some k
def LX (w:World) (B bo bq:Nat) (s:List Pk×List UInt8) (v:Value) (W:World) (e:Ending) (W':World):Prop:=
 e=.returned (.tuple #[])/\∃v',MJ w B bo bq s v' W'/\Zl (TkX bo bq v) W W'/\∀g,v'.ownBlock=some g->v.ownBlock=some g∨W.heap.size<=g
theorem Nv {w:World} {base n sz:Nat} {e:TypeId} {v:Value} {xs:List Value} (h:w.ownsRow base e sz v n xs):∀g,v.ownBlock=some g->base<=g:=fun g hg=>(World.ownsRow.lt h g hg).1
theorem Uw {a b:List UInt8} {k:Nat} (ha:a.length<=k) (hb:b.length<=k):(Y0 a b).length<=k:=by
 unfold Y0
 split<;>assumption
theorem DN {w W:World} {B bo bq:Nat} {own:List Lot} {Q:Int} {s:List Pk×List UInt8} {v:Value} {x:Lot} {most:List UInt8} (hG:GE w) (hC:MJ w B bo bq s v W) (hI:YC own Q s) (hs:OD x) (hm:most.length<=1000) (hQ:(canon Q).length<=1100) (hl:s.1.length<=100000) (hz0:0<=ZG (Yb x.id) s.1 0) :
  Calls Tryz.prog 162 #[(Value.agg #[Value.string ⟨x.id.toArray⟩,Value.string ⟨x.ins.toArray⟩,Value.int .i64 x.acq,Value.int .i64 x.opn,Value.string ⟨x.q.toArray⟩,Value.string ⟨x.cost.toArray⟩,Value.string ⟨x.used.toArray⟩]),.string ⟨most.toArray⟩,.pointer (some ⟨bo,0,none⟩),.pointer (some ⟨bq,0,none⟩)] W (LX w B bo bq (YM s x most) v W):=by
 have hxq:=hs.q;have hx0:=Tu s.1 (fun p hp=>(hI.pos p hp).1)
 have hsm:=hI.sum;have hrem:=hI.rem;have hrl:s.2.length<=1101:=by rw[hI.can];exact XH (by omega) hQ
 have hpl:∀p∈s.1,p.q.length<=1101:=fun p hp=>by
  rw[(hI.pos p hp).2];refine XH ⟨Int.le_of_lt (hI.pos p hp).1,?_⟩ hQ
  have:=hx0.2 p hp
  omega
 obtain⟨n,hn⟩:∃n,n=s.1.length:=⟨_,rfl⟩
 obtain⟨A,c,rfl⟩:=hC.row.formN hn.symm;have hbA:=Zb W (.cells #[Value.string ⟨x.id.toArray⟩,Value.string ⟨x.ins.toArray⟩,Value.int .i64 x.acq,Value.int .i64 x.opn,Value.string ⟨x.q.toArray⟩,Value.string ⟨x.cost.toArray⟩,Value.string ⟨x.used.toArray⟩] 130);have X1:=Lh (Xh.new W x 130);have HC:=Lh (hC.go hbA);have K1:=Lh (Do _ OV (Yb x.id) #[.pointer (some ⟨W.heap.size,0,none⟩)] A s.1 n c _ hn.symm (by omega) (HC.out.row.pkAt rfl) (fun p _ w' hb'=>ZaT p x W.heap.size w' (X1.out.below hb')))
 obtain⟨z,hz⟩:∃z,z=ZG (Yb x.id) s.1 0:=⟨_,rfl⟩
 rw[<-hz] at K1 hz0;obtain⟨i,p,hzi,hpi,hpx,-⟩:=VA _ _ _ (hz ▸ hz0);rw[Nat.zero_add] at hzi;have hzi2:z=(i:Int):=hz.trans hzi;have hin:i<n:=by rw[hn];exact VZ hpi
 have hppl:=hpl p (Lm hpi);obtain⟨lf,hlf⟩:∃lf,lf=canon (val x.q-val p.q):=⟨_,rfl⟩
 have elf:SR s.1 x=lf:=by
  unfold SR;rw[if_pos (hz ▸ hz0),hzi,Int.toNat_natCast,List.getD_eq_getElem?_getD,hpi,hlf];rfl
 have KL:=Lh (Um (l:=x.q) (l':=p.q) (z:=val x.q-val p.q) (by omega) (by omega) rfl)
 rw[<-hlf] at KL;have hlfl:lf.length<=1105:=by
  rw[hlf];obtain⟨M,hM⟩:∃M,M=1101:=⟨_,rfl⟩
  have h1:=Zz (l:=x.q) (k:=M) (by omega)
  have h2:=Zz (l:=p.q) (k:=M) (by omega)
  refine Nt (Zo _ (M+1) ?_) (by omega)
  have e:(10:Nat) ^ (M+1)=10 ^ M*10:=Nat.pow_succ ..;rw[e];generalize (10:Nat) ^ M=P at *;omega
 obtain⟨n1,hn1⟩:∃n1,n1=Y0 most lf:=⟨_,rfl⟩
 obtain⟨nn,hnn⟩:∃nn,nn=Y0 n1 s.2:=⟨_,rfl⟩
 have en:nS s.1 s.2 x most=nn:=by unfold nS;rw[elf,hnn,hn1]
 have hn1l:n1.length<=1105:=by rw[hn1];exact Uw (by omega) hlfl
 have hnnl:nn.length<=1105:=by rw[hnn];exact Uw hn1l (by omega)
 have L1:=Lh (MG (a:=most) (b:=lf) (by omega) (by omega))
 have L2:=Lh (MG (a:=n1) (b:=s.2) (by omega) (by omega))
 rw[<-hn1] at L1;rw[<-hnn] at L2;have L3:=Lh (VY (l:=nn) (by omega))
 have lq:=hC.lq;have lo:=hC.lo;have lb:=hC.lb;have le:=hC.le;have hbW0:=HC.out.below;have HGet:=Lh en;have HBA:Hid (Zl (TkX bo bq (.slice A n c)) W (W.alloc (.cells #[Value.string ⟨x.id.toArray⟩,Value.string ⟨x.ins.toArray⟩,Value.int .i64 x.acq,Value.int .i64 x.opn,Value.string ⟨x.q.toArray⟩,Value.string ⟨x.cost.toArray⟩,Value.string ⟨x.used.toArray⟩] 130))):=Zl.of_below hbA;clear hbA hC hI hs hm hQ hxq hx0 hsm hrem hpl elf hn1 hnn en hn1l hlfl;have HPI:=Lh hpi;have HZI:=Lh hzi;have HNL:Hid (s.1.length=n):=hn.symm;have HZ:=Lh hz;subst hzi2;have g1:decide ((0:Int)<=(i:Int))=true:=Dt (by omega)
 have g2:decide ((i:Int)<0)=false:=Df (by omega)
 clear hlf hn hz hl hpi hzi hz0 hpx;have q0:(W.alloc (.cells #[Value.string ⟨x.id.toArray⟩,Value.string ⟨x.ins.toArray⟩,Value.int .i64 x.acq,Value.int .i64 x.opn,Value.string ⟨x.q.toArray⟩,Value.string ⟨x.cost.toArray⟩,Value.string ⟨x.used.toArray⟩] 130)).cell? ⟨bo,0,none⟩=some (.slice A n c):=Zg HC.out.out 0;go_enter Tryz.func162,Tryz.ntmps162;go_wp2_with fail;refine K1.out.mono ?_;rintro e w1 ⟨rfl,hb1⟩;clear q0 K1;replace HC:=Lh (HC.out.go hb1);replace X1:=Lh (X1.out.below hb1);replace HBA:=Lh (HBA.out.trans (Zl.of_below hb1));have hbW:=bto hbW0 hb1;clear hbW0 hb1;have q4:=X1.out.c4;obtain⟨g,cc,e',hBg,hk⟩:=HC.out.row.row (by have:=HNL.out;omega)
 injection e' with e1 e2 e3
 subst e1 e3;have q0:w1.cell? ⟨bo,0,none⟩=some (.slice (some ⟨g,0,none⟩) n c):=Zg HC.out.out 0;have q1:=(hk.cells HPI.out).2;clear hk e2;go_wp2_with fail
 with_reducible refine (KL.out.e.of hG hbW).mono ?_
 rintro e w2 ⟨rfl,hb2⟩;clear q0 q1 KL;replace HC:=Lh (HC.out.go hb2);replace X1:=Lh (X1.out.below hb2);replace HBA:=Lh (HBA.out.trans (Zl.of_below hb2));replace hbW:=bto hbW hb2;clear hb2 q4;go_wp2_with fail;refine Zt (by kernel_rfl) (by kernel_rfl) ?_
 iterate 2
  refine Zd _ (fun _=>rfl) (fun ρ wz hw=>by go_simp;try with_reducible rfl) ?_
  simp only[Act.put,StT,StZ,StS,Nat.reduceAdd]
 refine Zr _ _ _ (fun _=>rfl) (fun ρ wz hw=>by go_simp;try with_reducible rfl) (fun wz hw=>L1.out.e.of hG (bto hbW hw)) ?_
 simp only[Act.put,StT,StZ,StS,Nat.reduceAdd];refine Zd _ (fun _=>rfl) (fun ρ wz hw=>by have q0:wz.cell? ⟨bq,0,none⟩=some (.string ⟨s.2.toArray⟩):=Zg (Zk HC.out.rem hw) 0;go_simp;try with_reducible rfl) ?_
 simp only[Act.put,StT,StZ,StS,Nat.reduceAdd];refine Zr _ _ _ (fun _=>rfl) (fun ρ wz hw=>by go_simp;try with_reducible rfl) (fun wz hw=>L2.out.e.of hG (bto hbW hw)) ?_
 simp only[Act.put,StT,StZ,StS,Nat.reduceAdd];refine Zd _ (fun _=>rfl) (fun ρ wz hw=>by go_simp;try with_reducible rfl) ?_
 simp only[Act.put,StT,StZ,StS,Nat.reduceAdd];intro ρ w3 hF;dsimp only;replace HC:=Lh (HC.out.go hF.below);replace X1:=Lh (X1.out.below hF.below);replace HBA:=Lh (HBA.out.trans (Zl.of_below hF.below));replace hbW:=bto hbW hF.below;clear hF L1 L2
 by_cases hp0:0<val nn
 rotate_left
 ·have e1:decide (0<val nn)=false:=Df hp0;rw[e1] at L3;have HT:Hid (YM s x most=s):=by
   show _=_;unfold YM;rw[HGet.out,if_pos (by omega)]
  clear hp0 e1;go_wp2_with fail
  with_reducible refine (L3.out.e.of hG hbW).mono ?_
  rintro e w4 ⟨rfl,hb4⟩;clear L3;go_wp2
  go_end0
  rw[HT.out];exact⟨rfl,_,HC.out.go hb4,HBA.out.trans (Zl.of_below hb4),fun g h=>.inl h⟩
 have e1:decide (0<val nn)=true:=Dt hp0;rw[e1] at L3;have HT:Hid (∀nq,nq=canon (val p.q+val nn)->YM s x most=(s.1.set i ⟨p.lot,nq⟩,canon (val s.2-val nn))):=fun nq h=>by
  unfold YM Pg;rw[HGet.out,if_neg (by omega)]
  simp only[<-HZ.out,Int.toNat_natCast,List.getD_eq_getElem?_getD,HPI.out,Option.getD_some];rw[if_pos (by omega),h]
 clear hp0 e1;go_wp2_with fail
 with_reducible refine (L3.out.e.of hG hbW).mono ?_
 rintro e W3 ⟨rfl,hb4⟩;clear L3;replace HC:=Lh (HC.out.go hb4);have HX3:=Lh (HBA.out.trans (Zl.of_below hb4));have hb3:=bto hbW hb4;clear hbW hb4 HBA X1;go_wp2_with fail;clear g1 g2;have HO:Hid (W3.heap[bo]?=some (.cells #[.slice (some ⟨g,0,none⟩) n c] 45 (0,0))):=HC.out.out;have HRM:=Lh HC.out.rem;have HRW:Hid (Yy W3 B (.slice (some ⟨g,0,none⟩) n c) s.1):=HC.out.row;have HP:=HPI;have HN:=HNL;have hll:s.1.length=n:=HNL.out;have HFR:Hid (∀g',Value.ownBlock (.slice (some ⟨g,0,none⟩) n c)=some g'->Value.ownBlock (.slice (some ⟨g,0,none⟩) n c)=some g'∨W.heap.size<=g'):=fun g' h=>.inl h
 have HGK:Hid (∀k,k<W.heap.size->¬TkX bo bq (.slice (some ⟨g,0,none⟩) n c) k->¬k=g):=fun k _ hn e=>hn (.inr (.inr (by rw[e];rfl)))
 have hgB:B<=g:=hBg;obtain⟨cur,hcur,hct,hcs⟩:Nu W3 g s.1:=by
  obtain⟨g',c',e',-,hk⟩:=HRW.out.row (by omega)
  injection e' with e1 e2 e3
  injection e1 with e1
  injection e1 with e1
  subst e1;exact hk
 have HCI:Hid (cur[i*2+1]?=some (.string ⟨p.q.toArray⟩)):=by
  have h1:=(SZ HP.out).2;rw[<-hct,List.getElem?_take,if_pos (by omega),Array.getElem?_toList] at h1
  exact h1
 have KA:=Lh (UU (l:=p.q) (l':=nn) (z:=val p.q+val nn) (by omega) (by omega) rfl)
 have KS:=Lh (Um (l:=s.2) (l':=nn) (z:=val s.2-val nn) (by omega) (by omega) rfl)
 obtain⟨nq,hnq⟩:∃nq,nq=canon (val p.q+val nn):=⟨_,rfl⟩
 obtain⟨nr,hnr⟩:∃nr,nr=canon (val s.2-val nn):=⟨_,rfl⟩
 rw[<-hnq] at KA;rw[<-hnr] at KS;have HNQ:=Lh hnq;have HNR:=Lh hnr;clear hnq hnr;obtain⟨F,hF⟩:∃F:Fx,F=fun b=>if b=g then some (.cells cur 195 (0,0)) else none:=⟨_,rfl⟩
 have f1:F g=some (.cells cur 195 (0,0)):=by rw[hF];exact if_pos rfl
 have hX:∀b,F b≠none->b=g:=fun b hb=>by
  rw[hF] at hb;dsimp only at hb
  by_cases h1:b=g
  ·exact h1
  ·rw[if_neg h1] at hb;exact absurd rfl hb
 have HFF:Hid (∀b ob,F b=some ob->W3.heap[b]?=some ob):=fun b ob h=>by
  rw[hF] at h;dsimp only at h
  by_cases h1:b=g
  ·rw[if_pos h1] at h;rw[h1,<-h];exact hcur
  ·rw[if_neg h1] at h;cases h
 have hno:¬(F bo≠none):=fun h=>by have:=hX _ h;omega
 have hnq':¬(F bq≠none):=fun h=>by have:=hX _ h;omega
 have hlow:∀k,F k≠none->w.heap.size<=k:=fun k hk=>by have:=hX _ hk;omega
 have hlbo:bo<W3.heap.size:=(Ag.1 HO.out).1;obtain⟨tch,htch⟩:∃tch:Nat->List Nat,tch=fun b=>if b=g then [6,11] else []:=⟨_,rfl⟩
 clear hF;refine Zw tch F (by kernel_rfl) (by kernel_rfl) (by kernel_rfl) HFF.out ?_
 refine Zi _ rfl (fun wz hw=>by have q0:wz.cell? ⟨bo,0,none⟩=some (.slice (some ⟨g,0,none⟩) n c):=(Zg ((hw.block _ hlbo hno).trans HO.out) 0);go_simp;try with_reducible rfl) ?_
 simp only[Act.put,StT,StZ,StS,Nat.reduceAdd];refine Zi _ rfl (fun wz hw=>by go_simp;try with_reducible rfl) ?_
 simp only[Act.put,StT,StZ,StS,Nat.reduceAdd];refine Zi _ rfl (fun wz hw=>by have q0:wz.cell? ⟨bo,0,none⟩=some (.slice (some ⟨g,0,none⟩) n c):=(Zg ((hw.block _ hlbo hno).trans HO.out) 0);go_simp;try with_reducible rfl) ?_
 simp only[Act.put,StT,StZ,StS,Nat.reduceAdd];refine Zi _ rfl (fun wz hw=>by go_simp;try with_reducible rfl) ?_
 simp only[Act.put,StT,StZ,StS,Nat.reduceAdd];refine Zi (.pointer (some ⟨g,i*2,none⟩)) rfl (fun wz hw=>by go_simp;try with_reducible rfl) ?_
 simp only[Act.put,StT,StZ,StS,Nat.reduceAdd];refine Zi (.pointer (some ⟨g,i*2+1,none⟩)) rfl (fun wz hw=>by go_simp;try with_reducible rfl) ?_
 simp only[Act.put,StT,StZ,StS,Nat.reduceAdd];refine Yp g cur 195 (.string ⟨p.q.toArray⟩) f1 (by simp[htch]) rfl (fun wz hw hc=>by have q0:wz.cell? ⟨g,i*2+1,none⟩=some (.string ⟨p.q.toArray⟩):=(hc _).trans HCI.out;clear hc;go_simp;try with_reducible rfl) ?_
 simp only[Act.put,StT,StZ,StS,Nat.reduceAdd];refine Zi _ rfl (fun wz hw=>by go_simp;try with_reducible rfl) ?_
 simp only[Act.put,StT,StZ,StS,Nat.reduceAdd];refine Zu _ _ _ rfl (fun wz hw=>by go_simp;try with_reducible rfl) (fun wz hw=>KA.out.e.of hG (hw.lower hb3 hlow)) ?_
 simp only[Act.put,StT,StZ,StS,Nat.reduceAdd];refine Zi (.pointer (some ⟨g,i*2,none⟩)) rfl (fun wz hw=>by go_simp;try with_reducible rfl) ?_
 simp only[Act.put,StT,StZ,StS,Nat.reduceAdd];refine Zi (.pointer (some ⟨g,i*2+1,none⟩)) rfl (fun wz hw=>by go_simp;try with_reducible rfl) ?_
 simp only[Act.put,StT,StZ,StS,Nat.reduceAdd];refine Xv g (i*2+1) cur (.string ⟨nq.toArray⟩) 195 f1 (by simp[htch]) (fun j oj hj=>Zq (l:=[6,11]) (by kernel_rfl) j oj (by simpa [htch] using hj)) rfl (fun wz hw hc hf=>by have q0:wz.cell? ⟨g,i*2+1,none⟩=some (.string ⟨p.q.toArray⟩):=(hc _).trans HCI.out;have q1:=hf (i*2+1);clear hc hf;go_simp;try with_reducible rfl) ?_
 simp only[Act.put,Nat.reduceAdd];refine ZY (fun w4 hF4=>?_)
 have hb4:=hF4.below.lower hb3 hlow;have HX4:Hid (Zl (fun k=>k=g) W3 w4):=⟨hF4.below.os,hF4.below.tape,hF4.below.output,hF4.below.size,fun k hk hn=>hF4.below.block k hk (fun h=>hn (hX k h))⟩
 have HO4:Hid (w4.heap[bo]?=some (.cells #[.slice (some ⟨g,0,none⟩) n c] 45 (0,0))):=(hF4.below.block _ hlbo hno).trans HO.out;have HR4:Hid (w4.heap[bq]?=some (.cells #[.string ⟨s.2.toArray⟩] 32 (0,0))):=(hF4.below.block _ (Ag.1 HRM.out).1 hnq').trans HRM.out;have HW4:Hid (Yy w4 B (.slice (some ⟨g,0,none⟩) n c) (s.1.set i ⟨p.lot,nq⟩)):=by
  have h1:Yy W3 B (.slice (some ⟨g,0,none⟩) s.1.length c) s.1:=by rw[HN.out];exact HRW.out
  have h2:=h1.set HP.out nq;rw[HN.out] at h2;refine h2.same (fun g' e=>?_)
  injection e with e
  have e:g=g':=e;subst e;rw[hF4.box g _ (if_pos rfl),hset _ hcur]
 have hs4:=hF4.below.size;clear hF4 f1 hX HFF hno hnq' htch KA HCI hcur hct hcs HRW;have q0:w4.cell? ⟨bq,0,none⟩=some (.string ⟨s.2.toArray⟩):=Zg HR4.out 0;go_wp2_with fail
 with_reducible refine (KS.out.e.of hG hb4).mono ?_
 rintro e w5 ⟨rfl,hb5⟩;clear q0 KS;have q0:w5.cell? ⟨bq,0,none⟩=some (.string ⟨s.2.toArray⟩):=Zg (Zk HR4.out hb5) 0;have q1:w5.frozen? ⟨bq,0,none⟩=false:=Zm (Zk HR4.out hb5) 0;have HFin:Hid (LX w B bo bq (YM s x most) (.slice (some ⟨g,0,none⟩) n c) W (.returned (.tuple #[])) (w5.setCell ⟨bq,0,none⟩ (.string ⟨nr.toArray⟩))):=by
  have e:YM s x most=(s.1.set i ⟨p.lot,nq⟩,nr):=by rw[HNR.out];exact HT.out nq HNQ.out
  rw[e];refine⟨rfl,_,⟨(bto hb4 hb5).setCell (p:=⟨bq,0,none⟩) lq _,lq,lo,lb,?_,hset _ (Zk HR4.out hb5),hoth (Zk HO4.out hb5) (by omega),?_⟩,?_,HFR.out⟩
  ·have h1:=hb5.size;have h2:=HX3.out.size;show B<=(w5.setCell _ _).heap.size;simp;omega
  ·exact (HW4.out.below hb5).far (fun e=>by injection e with e;have e:g=bq:=e;omega)
  ·have h1:=HX3.out.size;have h3:=hb5.size;refine⟨hb5.os.trans (HX4.out.os.trans HX3.out.os),hb5.tape.trans (HX4.out.tape.trans HX3.out.tape),hb5.output.trans (HX4.out.output.trans HX3.out.output),?_,fun k hk hn=>?_⟩
   ·show W.heap.size<=(w5.setCell _ _).heap.size;simp;omega
   ·exact (Below.heap_setCell w5 ⟨bq,0,none⟩ _ k (fun e=>hn (.inr (.inl e)))).trans ((hb5.block k (by omega)).trans ((HX4.out.block k (by omega) (HGK.out k hk hn)).trans (HX3.out.block k hk hn)))
 clear hb4 hb5 HX4 HO4 HR4 HW4;go_wp2
 go_end0
 exact HFin.out
theorem Ff {w W:World} {B bo bq:Nat} {own:List Lot} {Q:Int} {s:List Pk×List UInt8} {v:Value} {x:Lot} {most:List UInt8} (hG:GE w) (hC:MJ w B bo bq s v W) (hI:YC own Q s) (hs:OD x) (hm:most.length<=1000) (hQ:(canon Q).length<=1100) (hl:s.1.length<=100000) (hz0:ZG (Yb x.id) s.1 0<0) :
  Calls Tryz.prog 162 #[(Value.agg #[Value.string ⟨x.id.toArray⟩,Value.string ⟨x.ins.toArray⟩,Value.int .i64 x.acq,Value.int .i64 x.opn,Value.string ⟨x.q.toArray⟩,Value.string ⟨x.cost.toArray⟩,Value.string ⟨x.used.toArray⟩]),.string ⟨most.toArray⟩,.pointer (some ⟨bo,0,none⟩),.pointer (some ⟨bq,0,none⟩)] W (LX w B bo bq (YM s x most) v W):=by
 have hxq:=hs.q;have hx0:=Tu s.1 (fun p hp=>(hI.pos p hp).1)
 have hsm:=hI.sum;have hrem:=hI.rem;have hrl:s.2.length<=1101:=by rw[hI.can];exact XH (by omega) hQ
 have hpl:∀p∈s.1,p.q.length<=1101:=fun p hp=>by
  rw[(hI.pos p hp).2];refine XH ⟨Int.le_of_lt (hI.pos p hp).1,?_⟩ hQ
  have:=hx0.2 p hp
  omega
 obtain⟨n,hn⟩:∃n,n=s.1.length:=⟨_,rfl⟩
 obtain⟨A,c,rfl⟩:=hC.row.formN hn.symm;have hbA:=Zb W (.cells #[Value.string ⟨x.id.toArray⟩,Value.string ⟨x.ins.toArray⟩,Value.int .i64 x.acq,Value.int .i64 x.opn,Value.string ⟨x.q.toArray⟩,Value.string ⟨x.cost.toArray⟩,Value.string ⟨x.used.toArray⟩] 130);have X1:=Lh (Xh.new W x 130);have HC:=Lh (hC.go hbA);have K1:=Lh (Do _ OV (Yb x.id) #[.pointer (some ⟨W.heap.size,0,none⟩)] A s.1 n c _ hn.symm (by omega) (HC.out.row.pkAt rfl) (fun p _ w' hb'=>ZaT p x W.heap.size w' (X1.out.below hb')))
 obtain⟨z,hz⟩:∃z,z=ZG (Yb x.id) s.1 0:=⟨_,rfl⟩
 rw[<-hz] at K1 hz0;obtain⟨lf,hlf⟩:∃lf,lf=x.q:=⟨_,rfl⟩
 have elf:SR s.1 x=lf:=by
  unfold SR;rw[if_neg (by rw[<-hz];omega),hlf]
 have hlfl:lf.length<=1105:=by rw[hlf];omega
 obtain⟨n1,hn1⟩:∃n1,n1=Y0 most lf:=⟨_,rfl⟩
 obtain⟨nn,hnn⟩:∃nn,nn=Y0 n1 s.2:=⟨_,rfl⟩
 have en:nS s.1 s.2 x most=nn:=by unfold nS;rw[elf,hnn,hn1]
 have hn1l:n1.length<=1105:=by rw[hn1];exact Uw (by omega) hlfl
 have hnnl:nn.length<=1105:=by rw[hnn];exact Uw hn1l (by omega)
 have L1:=Lh (MG (a:=most) (b:=lf) (by omega) (by omega))
 have L2:=Lh (MG (a:=n1) (b:=s.2) (by omega) (by omega))
 rw[<-hn1] at L1;rw[<-hnn] at L2;have L3:=Lh (VY (l:=nn) (by omega))
 have lq:=hC.lq;have lo:=hC.lo;have lb:=hC.lb;have le:=hC.le;have hbW0:=HC.out.below;have HGet:=Lh en;have HBA:Hid (Zl (TkX bo bq (.slice A n c)) W (W.alloc (.cells #[Value.string ⟨x.id.toArray⟩,Value.string ⟨x.ins.toArray⟩,Value.int .i64 x.acq,Value.int .i64 x.opn,Value.string ⟨x.q.toArray⟩,Value.string ⟨x.cost.toArray⟩,Value.string ⟨x.used.toArray⟩] 130))):=Zl.of_below hbA;clear hbA hC hI hs hm hQ hxq hx0 hsm hrem hpl elf hn1 hnn en hn1l hlfl;have HLF:=Lh hlf;have HZ0:=Lh hz0;have HNL:Hid (s.1.length=n):=hn.symm;have HZ:=Lh hz;have g1:decide (0<=z)=false:=Df (by omega)
 have g2:decide (z<0)=true:=Dt hz0;have hnl:n<=100000:=by omega
 clear hlf hn hz hl;have q0:(W.alloc (.cells #[Value.string ⟨x.id.toArray⟩,Value.string ⟨x.ins.toArray⟩,Value.int .i64 x.acq,Value.int .i64 x.opn,Value.string ⟨x.q.toArray⟩,Value.string ⟨x.cost.toArray⟩,Value.string ⟨x.used.toArray⟩] 130)).cell? ⟨bo,0,none⟩=some (.slice A n c):=Zg HC.out.out 0;go_enter Tryz.func162,Tryz.ntmps162;go_wp2_with fail;refine K1.out.mono ?_;rintro e w1 ⟨rfl,hb1⟩;clear q0 K1;replace HC:=Lh (HC.out.go hb1);replace X1:=Lh (X1.out.below hb1);replace HBA:=Lh (HBA.out.trans (Zl.of_below hb1));have hbW:=bto hbW0 hb1;clear hbW0 hb1;have q4:=X1.out.c4;rw[<-HLF.out] at q4;go_wp2_with fail;refine Zt (by kernel_rfl) (by kernel_rfl) ?_
 iterate 2
  refine Zd _ (fun _=>rfl) (fun ρ wz hw=>by go_simp;try with_reducible rfl) ?_
  simp only[Act.put,StT,StZ,StS,Nat.reduceAdd]
 refine Zr _ _ _ (fun _=>rfl) (fun ρ wz hw=>by go_simp;try with_reducible rfl) (fun wz hw=>L1.out.e.of hG (bto hbW hw)) ?_
 simp only[Act.put,StT,StZ,StS,Nat.reduceAdd];refine Zd _ (fun _=>rfl) (fun ρ wz hw=>by have q0:wz.cell? ⟨bq,0,none⟩=some (.string ⟨s.2.toArray⟩):=Zg (Zk HC.out.rem hw) 0;go_simp;try with_reducible rfl) ?_
 simp only[Act.put,StT,StZ,StS,Nat.reduceAdd];refine Zr _ _ _ (fun _=>rfl) (fun ρ wz hw=>by go_simp;try with_reducible rfl) (fun wz hw=>L2.out.e.of hG (bto hbW hw)) ?_
 simp only[Act.put,StT,StZ,StS,Nat.reduceAdd];refine Zd _ (fun _=>rfl) (fun ρ wz hw=>by go_simp;try with_reducible rfl) ?_
 simp only[Act.put,StT,StZ,StS,Nat.reduceAdd];intro ρ w3 hF;dsimp only;replace HC:=Lh (HC.out.go hF.below);replace X1:=Lh (X1.out.below hF.below);replace HBA:=Lh (HBA.out.trans (Zl.of_below hF.below));replace hbW:=bto hbW hF.below;clear hF L1 L2;clear q4
 by_cases hp0:0<val nn
 rotate_left
 ·have e1:decide (0<val nn)=false:=Df hp0;rw[e1] at L3;have HT:Hid (YM s x most=s):=by
   show _=_;unfold YM;rw[HGet.out,if_pos (by omega)]
  clear hp0 e1;go_wp2_with fail
  with_reducible refine (L3.out.e.of hG hbW).mono ?_
  rintro e w4 ⟨rfl,hb4⟩;clear L3;go_wp2
  go_end0
  rw[HT.out];exact⟨rfl,_,HC.out.go hb4,HBA.out.trans (Zl.of_below hb4),fun g h=>.inl h⟩
 have e1:decide (0<val nn)=true:=Dt hp0;rw[e1] at L3;have HT:Hid (∀nq,nq=canon (val ([]:List UInt8)+val nn)->YM s x most=((s.1++[Pk.mk x.id []]).set n ⟨x.id,nq⟩,canon (val s.2-val nn))):=fun nq h=>by
  unfold YM Pg;rw[HGet.out,if_neg (by omega)]
  have hz1:=HZ0.out;simp only[<-HZ.out];rw[if_neg (by omega),h,<-HNL.out]
  have e:val ([]:List UInt8)+val nn=val nn:=by
   have:val ([]:List UInt8)=0:=by decide
   omega
  rw[e];simp
 clear hp0 e1;have q0:w3.cell? ⟨bo,0,none⟩=some (.slice A n c):=Zg HC.out.out 0;go_wp2_with fail
 with_reducible refine (L3.out.e.of hG hbW).mono ?_
 rintro e w4 ⟨rfl,hb4⟩;clear L3 q0;replace HC:=Lh (HC.out.go hb4);replace X1:=Lh (X1.out.below hb4);replace HBA:=Lh (HBA.out.trans (Zl.of_below hb4));have hb5:=bto hbW hb4;clear hbW hb4;have q0:w4.cell? ⟨bo,0,none⟩=some (.slice A n c):=Zg HC.out.out 0;have q1:=X1.out.c0;obtain⟨i0,hi,hz0,hz1,hz2⟩:=info_parts Fc;have hown:w4.ownsRow B 195 2 (.slice A n c) n (WO s.1):=by
  have h:=HC.out.row;unfold Yy at h;rw[HNL.out] at h;exact h
 have hbq:=Zb w4 (.cells #[.string ⟨x.id.toArray⟩,.string ⟨#[]⟩] 195);have hsz4:(w4.alloc (.cells #[.string ⟨x.id.toArray⟩,.string ⟨#[]⟩] 195)).heap.size=w4.heap.size+1:=by simp
 have HSZ:=Lh hsz4;have HOW:=Lh hown;have HII:=Lh (And.intro hi (And.intro hz0 (And.intro hz1 hz2)));clear hown hi hz0 hz1 hz2 hsz4;go_wp2_with (at_builtin;refine ZS rfl _ _ 45 rfl B 195 i0 (.agg #[.string ⟨#[]⟩,.string ⟨#[]⟩]) 2 32 Tryz.underlying45 HII.out.1 HII.out.2.1 HII.out.2.2.1 HII.out.2.2.2 rfl (by decide) _ _ _ rfl (ZN HOW.out hbq) ⟨w4.heap.size,0,none⟩ 1 1 [.string ⟨x.id.toArray⟩,.string ⟨#[]⟩] rfl rfl ?c1 ?c2 ?c3 ?c4 ?c5 ?_)
 case c1=>
  intro j u hu
  match j,hu with
  | 0,hu=>cases hu;exact Zg (ZJ w4 _) 0
  | 1,hu=>cases hu;exact Zg (ZJ w4 _) 1
 case c2=>
  intro u hu;simp only[List.mem_cons,List.not_mem_nil,or_false] at hu;rcases hu with rfl|rfl<;>rfl
 case c3=>unfold maxLen;omega
 case c4=>omega
 case c5=>have:=HC.out.le;have:=HSZ.out;omega
 intro v' w5 hown' hgrow hfresh;have hrow':Yy w5 B v' (s.1++[Pk.mk x.id []]):=Yy.app (x:=⟨x.id,[]⟩) hown' HNL.out;obtain⟨g,cc,rfl,hgB,hkb⟩:=hrow'.row (by simp)
 have hll0:(s.1++[Pk.mk x.id []]).length=n+1:=by rw[List.length_append,HNL.out];rfl
 rw[hll0] at hrow' hfresh hown' ⊢;have hov:=Nv HOW.out;have hnb:Value.ownBlock (.slice A n c)≠some bo:=fun e=>by have:=hov _ e;omega
 have hnq:Value.ownBlock (.slice A n c)≠some bq:=fun e=>by have:=hov _ e;omega
 have hOo:w5.heap[bo]?=some (.cells #[.slice A n c] 45 (0,0)):=by
  have h1:=Zk HC.out.out hbq;exact (hgrow.block bo (Ag.1 h1).1 (fun e=>hnb e.symm)).trans h1
 have hRo:w5.heap[bq]?=some (.cells #[.string ⟨s.2.toArray⟩] 32 (0,0)):=by
  have h1:=Zk HC.out.rem hbq;exact (hgrow.block bq (Ag.1 h1).1 (fun e=>hnq e.symm)).trans h1
 have hgr:Zl (TkX bo bq (.slice A n c)) (w4.alloc (.cells #[.string ⟨x.id.toArray⟩,.string ⟨#[]⟩] 195)) w5:=⟨hgrow.os,hgrow.tape,hgrow.output,hgrow.size,fun k hk hn=>hgrow.block k hk (fun e=>hn (.inr (.inr e.symm)))⟩
 have q2:w5.cell? ⟨bo,0,none⟩=some (.slice A n c):=Zg hOo 0;have q3:w5.frozen? ⟨bo,0,none⟩=false:=Zm hOo 0;have hb3:Below w.heap.size w (w5.setCell ⟨bo,0,none⟩ (.slice (some ⟨g,0,none⟩) (n+1) cc)):=by
  refine Below.setCell (p:=⟨bo,0,none⟩) ?_ (by show w.heap.size<=bo;omega) _
  refine (bto hb5 hbq).grown hgrow (bto hb5 hbq).size (fun k hk=>?_)
  have:=hov k hk
  omega
 have HX3:Hid (Zl (TkX bo bq (.slice A n c)) W (w5.setCell ⟨bo,0,none⟩ (.slice (some ⟨g,0,none⟩) (n+1) cc))):=
  ((HBA.out.trans (Zl.of_below hbq)).trans hgr).trans (ZW (g:=bo) (X:=TkX bo bq (.slice A n c)) (.inl rfl) [.slice (some ⟨g,0,none⟩) (n+1) cc] 0 w5)
 have HO:Hid ((w5.setCell ⟨bo,0,none⟩ (.slice (some ⟨g,0,none⟩) (n+1) cc)).heap[bo]?=some (.cells #[.slice (some ⟨g,0,none⟩) (n+1) cc] 45 (0,0))):=hset _ hOo;have HRM:Hid ((w5.setCell ⟨bo,0,none⟩ (.slice (some ⟨g,0,none⟩) (n+1) cc)).heap[bq]?=some (.cells #[.string ⟨s.2.toArray⟩] 32 (0,0))):=hoth hRo (by omega)
 have HRW:Hid (Yy (w5.setCell ⟨bo,0,none⟩ (.slice (some ⟨g,0,none⟩) (n+1) cc)) B (.slice (some ⟨g,0,none⟩) (n+1) cc) (s.1++[Pk.mk x.id []])):=hrow'.far (fun e=>by injection e with e;have e:g=bo:=e;omega)
 have hws:W.heap.size<=w4.heap.size:=by
  have:=HBA.out.size
  omega
 have HFR:Hid (∀g',Value.ownBlock (.slice (some ⟨g,0,none⟩) (n+1) cc)=some g'->Value.ownBlock (.slice A n c)=some g'∨W.heap.size<=g'):=fun g' h=>by
  rcases hfresh g' h with h1|h1
  ·exact .inl h1
  ·have:=HSZ.out
   exact .inr (by omega)
 have HGK:Hid (∀k,k<W.heap.size->¬TkX bo bq (.slice A n c) k->¬k=g):=fun k hk hn e=>by
  rcases HFR.out g rfl with h1|h1
  ·exact hn (.inr (.inr (by rw[e];exact h1)))
  ·omega
 have HN:Hid ((s.1++[Pk.mk x.id []]).length=n+1):=hll0;have HP:Hid ((s.1++[Pk.mk x.id []])[n]?=some ⟨x.id,[]⟩):=by show _=_;rw[<-HNL.out];simp
 obtain⟨p,hpe⟩:∃p:Pk,p=⟨x.id,[]⟩:=⟨_,rfl⟩
 obtain⟨l,hle⟩:∃l,l=s.1++[Pk.mk x.id []]:=⟨_,rfl⟩
 obtain⟨i,hie⟩:∃i,i=n:=⟨_,rfl⟩
 have hppl:p.q.length<=1101:=by rw[hpe];exact Nat.zero_le _
 have HT2:Hid (∀nq,nq=canon (val p.q+val nn)->YM s x most=(l.set i ⟨p.lot,nq⟩,canon (val s.2-val nn))):=by
  rw[hpe,hle,hie];exact HT.out
 rw[<-hle] at HRW HN HP;rw[<-hpe,<-hie] at HP;have HPE:=Lh hpe;have HIE2:=Lh hie;clear hpe hle hrow' hown' hgrow hfresh hOo hRo hgr hkb hnb hnq hov HC HOW HII hbq q0 q1 HBA X1 HT hb5 hll0 HLF;have HT:=HT2;clear HT2;go_wp2_with fail;clear q2 q3 g1 g2;obtain⟨W3,hW3⟩:∃W3,W3=w5.setCell ⟨bo,0,none⟩ (.slice (some ⟨g,0,none⟩) (n+1) cc):=⟨_,rfl⟩
 rw[<-hW3] at hb3 HX3 HO HRM HRW ⊢;rw[<-HIE2.out];rw[<-HIE2.out] at HO HRW HN HFR HX3 HGK;have hi1:i<=100000:=by rw[hie];omega
 clear hie hW3 hnl hws;obtain⟨N,hN⟩:∃N,N=i+1:=⟨_,rfl⟩
 rw[<-hN] at HO HRW HN HFR ⊢;have hll:l.length=N:=HN.out;have hin:i<N:=by omega
 have hi2:N<=100001:=by omega
 clear hN hi1;obtain⟨cur,hcur,hct,hcs⟩:Nu W3 g l:=by
  obtain⟨g',c',e',-,hk⟩:=HRW.out.row (by omega)
  injection e' with e1 e2 e3
  injection e1 with e1
  injection e1 with e1
  subst e1;exact hk
 have HCI:Hid (cur[i*2+1]?=some (.string ⟨p.q.toArray⟩)):=by
  have h1:=(SZ HP.out).2;rw[<-hct,List.getElem?_take,if_pos (by omega),Array.getElem?_toList] at h1
  exact h1
 have KA:=Lh (UU (l:=p.q) (l':=nn) (z:=val p.q+val nn) (by omega) (by omega) rfl)
 have KS:=Lh (Um (l:=s.2) (l':=nn) (z:=val s.2-val nn) (by omega) (by omega) rfl)
 obtain⟨nq,hnq⟩:∃nq,nq=canon (val p.q+val nn):=⟨_,rfl⟩
 obtain⟨nr,hnr⟩:∃nr,nr=canon (val s.2-val nn):=⟨_,rfl⟩
 rw[<-hnq] at KA;rw[<-hnr] at KS;have HNQ:=Lh hnq;have HNR:=Lh hnr;clear hnq hnr;obtain⟨F,hF⟩:∃F:Fx,F=fun b=>if b=g then some (.cells cur 195 (0,0)) else none:=⟨_,rfl⟩
 have f1:F g=some (.cells cur 195 (0,0)):=by rw[hF];exact if_pos rfl
 have hX:∀b,F b≠none->b=g:=fun b hb=>by
  rw[hF] at hb;dsimp only at hb
  by_cases h1:b=g
  ·exact h1
  ·rw[if_neg h1] at hb;exact absurd rfl hb
 have HFF:Hid (∀b ob,F b=some ob->W3.heap[b]?=some ob):=fun b ob h=>by
  rw[hF] at h;dsimp only at h
  by_cases h1:b=g
  ·rw[if_pos h1] at h;rw[h1,<-h];exact hcur
  ·rw[if_neg h1] at h;cases h
 have hno:¬(F bo≠none):=fun h=>by have:=hX _ h;omega
 have hnq':¬(F bq≠none):=fun h=>by have:=hX _ h;omega
 have hlow:∀k,F k≠none->w.heap.size<=k:=fun k hk=>by have:=hX _ hk;omega
 have hlbo:bo<W3.heap.size:=(Ag.1 HO.out).1;obtain⟨tch,htch⟩:∃tch:Nat->List Nat,tch=fun b=>if b=g then [6,11] else []:=⟨_,rfl⟩
 clear hF;refine Zw tch F (by kernel_rfl) (by kernel_rfl) (by kernel_rfl) HFF.out ?_
 refine Zi _ rfl (fun wz hw=>by have q0:wz.cell? ⟨bo,0,none⟩=some (.slice (some ⟨g,0,none⟩) N cc):=(Zg ((hw.block _ hlbo hno).trans HO.out) 0);go_simp;try with_reducible rfl) ?_
 simp only[Act.put,StT,StZ,StS,Nat.reduceAdd];refine Zi _ rfl (fun wz hw=>by go_simp;try with_reducible rfl) ?_
 simp only[Act.put,StT,StZ,StS,Nat.reduceAdd];refine Zi _ rfl (fun wz hw=>by have q0:wz.cell? ⟨bo,0,none⟩=some (.slice (some ⟨g,0,none⟩) N cc):=(Zg ((hw.block _ hlbo hno).trans HO.out) 0);go_simp;try with_reducible rfl) ?_
 simp only[Act.put,StT,StZ,StS,Nat.reduceAdd];refine Zi _ rfl (fun wz hw=>by go_simp;try with_reducible rfl) ?_
 simp only[Act.put,StT,StZ,StS,Nat.reduceAdd];refine Zi (.pointer (some ⟨g,i*2,none⟩)) rfl (fun wz hw=>by go_simp;try with_reducible rfl) ?_
 simp only[Act.put,StT,StZ,StS,Nat.reduceAdd];refine Zi (.pointer (some ⟨g,i*2+1,none⟩)) rfl (fun wz hw=>by go_simp;try with_reducible rfl) ?_
 simp only[Act.put,StT,StZ,StS,Nat.reduceAdd];refine Yp g cur 195 (.string ⟨p.q.toArray⟩) f1 (by simp[htch]) rfl (fun wz hw hc=>by have q0:wz.cell? ⟨g,i*2+1,none⟩=some (.string ⟨p.q.toArray⟩):=(hc _).trans HCI.out;clear hc;go_simp;try with_reducible rfl) ?_
 simp only[Act.put,StT,StZ,StS,Nat.reduceAdd];refine Zi _ rfl (fun wz hw=>by go_simp;try with_reducible rfl) ?_
 simp only[Act.put,StT,StZ,StS,Nat.reduceAdd];refine Zu _ _ _ rfl (fun wz hw=>by go_simp;try with_reducible rfl) (fun wz hw=>KA.out.e.of hG (hw.lower hb3 hlow)) ?_
 simp only[Act.put,StT,StZ,StS,Nat.reduceAdd];refine Zi (.pointer (some ⟨g,i*2,none⟩)) rfl (fun wz hw=>by go_simp;try with_reducible rfl) ?_
 simp only[Act.put,StT,StZ,StS,Nat.reduceAdd];refine Zi (.pointer (some ⟨g,i*2+1,none⟩)) rfl (fun wz hw=>by go_simp;try with_reducible rfl) ?_
 simp only[Act.put,StT,StZ,StS,Nat.reduceAdd];refine Xv g (i*2+1) cur (.string ⟨nq.toArray⟩) 195 f1 (by simp[htch]) (fun j oj hj=>Zq (l:=[6,11]) (by kernel_rfl) j oj (by simpa [htch] using hj)) rfl (fun wz hw hc hf=>by have q0:wz.cell? ⟨g,i*2+1,none⟩=some (.string ⟨p.q.toArray⟩):=(hc _).trans HCI.out;have q1:=hf (i*2+1);clear hc hf;go_simp;try with_reducible rfl) ?_
 simp only[Act.put,Nat.reduceAdd];refine ZY (fun w4 hF4=>?_)
 have hb4:=hF4.below.lower hb3 hlow;have HX4:Hid (Zl (fun k=>k=g) W3 w4):=⟨hF4.below.os,hF4.below.tape,hF4.below.output,hF4.below.size,fun k hk hn=>hF4.below.block k hk (fun h=>hn (hX k h))⟩
 have HO4:Hid (w4.heap[bo]?=some (.cells #[.slice (some ⟨g,0,none⟩) N cc] 45 (0,0))):=(hF4.below.block _ hlbo hno).trans HO.out;have HR4:Hid (w4.heap[bq]?=some (.cells #[.string ⟨s.2.toArray⟩] 32 (0,0))):=(hF4.below.block _ (Ag.1 HRM.out).1 hnq').trans HRM.out;have HW4:Hid (Yy w4 B (.slice (some ⟨g,0,none⟩) N cc) (l.set i ⟨p.lot,nq⟩)):=by
  have h1:Yy W3 B (.slice (some ⟨g,0,none⟩) l.length cc) l:=by rw[HN.out];exact HRW.out
  have h2:=h1.set HP.out nq;rw[HN.out] at h2;refine h2.same (fun g' e=>?_)
  injection e with e
  have e:g=g':=e;subst e;rw[hF4.box g _ (if_pos rfl),hset _ hcur]
 have hs4:=hF4.below.size;clear hF4 f1 hX HFF hno hnq' htch KA HCI hcur hct hcs HRW;have q0:w4.cell? ⟨bq,0,none⟩=some (.string ⟨s.2.toArray⟩):=Zg HR4.out 0;go_wp2_with fail
 with_reducible refine (KS.out.e.of hG hb4).mono ?_
 rintro e w5 ⟨rfl,hb5⟩;clear q0 KS;have q0:w5.cell? ⟨bq,0,none⟩=some (.string ⟨s.2.toArray⟩):=Zg (Zk HR4.out hb5) 0;have q1:w5.frozen? ⟨bq,0,none⟩=false:=Zm (Zk HR4.out hb5) 0;have HFin:Hid (LX w B bo bq (YM s x most) (.slice A i c) W (.returned (.tuple #[])) (w5.setCell ⟨bq,0,none⟩ (.string ⟨nr.toArray⟩))):=by
  have e:YM s x most=(l.set i ⟨p.lot,nq⟩,nr):=by rw[HNR.out];exact HT.out nq HNQ.out
  rw[e];refine⟨rfl,_,⟨(bto hb4 hb5).setCell (p:=⟨bq,0,none⟩) lq _,lq,lo,lb,?_,hset _ (Zk HR4.out hb5),hoth (Zk HO4.out hb5) (by omega),?_⟩,?_,HFR.out⟩
  ·have h1:=hb5.size;have h2:=HX3.out.size;show B<=(w5.setCell _ _).heap.size;simp;omega
  ·exact (HW4.out.below hb5).far (fun e=>by injection e with e;have e:g=bq:=e;omega)
  ·have h1:=HX3.out.size;have h3:=hb5.size;refine⟨hb5.os.trans (HX4.out.os.trans HX3.out.os),hb5.tape.trans (HX4.out.tape.trans HX3.out.tape),hb5.output.trans (HX4.out.output.trans HX3.out.output),?_,fun k hk hn=>?_⟩
   ·show W.heap.size<=(w5.setCell _ _).heap.size;simp;omega
   ·exact (Below.heap_setCell w5 ⟨bq,0,none⟩ _ k (fun e=>hn (.inr (.inl e)))).trans ((hb5.block k (by omega)).trans ((HX4.out.block k (by omega) (HGK.out k hk hn)).trans (HX3.out.block k hk hn)))
 clear hb4 hb5 HX4 HO4 HR4 HW4;go_wp2
 go_end0
 have h:=HFin.out;rw[HIE2.out] at h;exact h
theorem Zby {w W:World} {B bo bq:Nat} {own:List Lot} {Q:Int} {s:List Pk×List UInt8} {v:Value} {x:Lot} {most:List UInt8} (hG:GE w) (hC:MJ w B bo bq s v W) (hI:YC own Q s) (hs:OD x) (hm:most.length<=1000) (hQ:(canon Q).length<=1100) (hl:s.1.length<=100000) :
  Calls Tryz.prog 162 #[(Value.agg #[Value.string ⟨x.id.toArray⟩,Value.string ⟨x.ins.toArray⟩,Value.int .i64 x.acq,Value.int .i64 x.opn,Value.string ⟨x.q.toArray⟩,Value.string ⟨x.cost.toArray⟩,Value.string ⟨x.used.toArray⟩]),.string ⟨most.toArray⟩,.pointer (some ⟨bo,0,none⟩),.pointer (some ⟨bq,0,none⟩)] W (LX w B bo bq (YM s x most) v W):=by
 by_cases h:0<=ZG (Yb x.id) s.1 0
 ·exact DN hG hC hI hs hm hQ hl h
 ·exact Ff hG hC hI hs hm hQ hl (by omega)
def JM (p:Pk):Bool:=!decide (p.q=canon (val p.q))||!decide (0<val p.q)
def chE (xs:List Lot) (I q:List UInt8) (m:Int) (ps:List Pk):Int:=
 if Vp xs≠0 then 1 else if ¬q=canon (val q) then 1 else if m=5/\ps.any JM=true then 1 else if m<1∨7<=m then 7 else if val q<=0 then 2 else if XO (ofL I xs)<val q then 15 else 0
theorem JN {xs:List Lot} {I q:List UInt8} {m:Int} {ps:List Pk} (h:chE xs I q m ps=0):Vp xs=0/\q=canon (val q)/\¬(m=5/\ps.any JM=true)/\1<=m/\m<=6/\0<val q/\val q<=XO (ofL I xs):=by
 unfold chE at h
 by_cases h1:Vp xs≠0
 ·rw[if_pos h1] at h;exact absurd h (by decide)
 rw[if_neg h1] at h
 by_cases h2:¬q=canon (val q)
 ·rw[if_pos h2] at h;exact absurd h (by decide)
 rw[if_neg h2] at h
 by_cases h3:m=5/\ps.any JM=true
 ·rw[if_pos h3] at h;exact absurd h (by decide)
 rw[if_neg h3] at h
 by_cases h4:m<1∨7<=m
 ·rw[if_pos h4] at h;exact absurd h (by decide)
 rw[if_neg h4] at h
 by_cases h5:val q<=0
 ·rw[if_pos h5] at h;exact absurd h (by decide)
 rw[if_neg h5] at h
 by_cases h6:XO (ofL I xs)<val q
 ·rw[if_pos h6] at h;exact absurd h (by decide)
 exact⟨Decidable.not_not.1 h1,Decidable.not_not.1 h2,h3,by omega,by omega,by omega,by omega⟩
theorem Zc7 {p:Pk} (hp:p.q.length<=1000):Vu 160 #[.agg #[.string ⟨p.lot.toArray⟩,.string ⟨p.q.toArray⟩]] (.bool (JM p)):=fun w hG=>by
 have hb:=Zb w (.cells #[.string ⟨p.lot.toArray⟩,.string ⟨p.q.toArray⟩] 195);have X1:=Lh (Blk.new w #[.string ⟨p.lot.toArray⟩,.string ⟨p.q.toArray⟩] 195);have C1:=Lh (Yz (l:=p.q) (by omega) rfl)
 have C2:=Lh (VY (l:=p.q) (by omega))
 have HV:Hid (JM p=(!decide (p.q=canon (val p.q))||!decide (0<val p.q))):=rfl
 generalize JM p=R at *;have q1:=X1.out.c 1
 by_cases g:p.q=canon (val p.q)
 ·have HV2:Hid (R = !decide (0<val p.q)):=by show _=_;rw[HV.out,Dt g];rfl
  rw[if_pos g] at C1;generalize decide (0<val p.q)=nb at *;clear HV g;go_enter Tryz.func160,Tryz.ntmps160;go_wp2_with fail
  with_reducible refine (C1.out.e.of hG hb).mono ?_
  rintro e w1 ⟨rfl,hb1⟩;clear q1;have q1:=(X1.out.below hb1).c 1;replace hb:=bto hb hb1;go_wp2_with fail
  with_reducible refine (C2.out.e.of hG hb).mono ?_
  rintro e w2 ⟨rfl,hb2⟩;go_wp2;go_ret;exact⟨Ya HV2.out.symm,bto hb hb2⟩
 ·have HV2:Hid (R=true):=by show _=_;rw[HV.out,Df g];rfl
  rw[if_neg g] at C1;clear HV g C2;go_enter Tryz.func160,Tryz.ntmps160;go_wp2_with fail
  with_reducible refine (C1.out.e.of hG hb).mono ?_
  rintro e w1 ⟨rfl,hb1⟩;go_wp2;go_ret;exact⟨Ya HV2.out.symm,bto hb hb1⟩
theorem Fg (args:Array Value) (w:World):(callFunc 160 args).run Tryz.prog w=.ok (.enter 160 args) w:=by kernel_rfl
theorem Fh (args:Array Value) (w:World):(callFunc 162 args).run Tryz.prog w=.ok (.enter 162 args) w:=by kernel_rfl
theorem N3 {α:Type} [DecidableEq α]:∀(l m:List α),l.Nodup->(∀x∈l,x∈m)->l.length<=m.length
 | [],m,_,_=>Nat.zero_le _
 | a::l,m,hn,hs=>by
  have hn':=List.nodup_cons.1 hn;have ha:=hs a List.mem_cons_self;have ih:=N3 l (m.erase a) hn'.2 (fun x hx=>(List.mem_erase_of_ne (fun e=>hn'.1 (by rw[<-e];exact hx))).2 (hs x (List.mem_cons_of_mem _ hx)))
  rw[List.length_erase_of_mem ha] at ih
  have:=List.length_pos_of_mem ha
  simp only[List.length_cons];omega
theorem YC.len {own:List Lot} {Q:Int} {s:List Pk×List UInt8} (h:YC own Q s):s.1.length<=own.length:=by
 have:=N3 (s.1.map (·.lot)) (own.map (·.id)) h.nd (fun x hx=>by
  obtain⟨p,hp,rfl⟩:=List.mem_map.1 hx;obtain⟨y,hy,e⟩:=h.mem p hp
  exact List.mem_map.2 ⟨y,hy,e⟩)
 simpa using this
theorem MK {own:List Lot} {q:List UInt8} (hq:q=canon (val q)) (h0:0<=val q):YC own (val q) ([],q):=
 ⟨by show Y3 []+val q=val q;simp[Y3],h0,hq,fun p hp=>(by cases hp),by simp,fun p hp=>(by cases hp)⟩
theorem Yy.base {w:World} {B B':Nat} {v:Value} {xs:List Pk} (h:Yy w B v xs) (hb:B'<=B):Yy w B' v xs:=by
 refine⟨h.1,?_⟩;rcases h.2 with h2|⟨g,cap,cur,ev,hB,r⟩
 ·exact .inl h2
 ·exact .inr ⟨g,cap,cur,ev,Nt hb hB,r⟩
def Nw (own:List Lot) (q:List UInt8) (m:Int) (ps:List Pk):List Pk×List UInt8:=if m=5 then MF own ps ([],q) else ([],q)
def ZaU (w:World) (own:List Lot) (q:List UInt8) (m:Int) (ps:List Pk) (e:Ending) (w':World):Prop:=
 ∃v zs,e=.returned (.tuple #[v,.int .i64 0])/\Below w.heap.size w w'/\zs.Perm own/\(m=1->own.length<=20->Nr cfF own->zs=own)/\Yy w' w.heap.size v (YN zs (Nw own q m ps)).1
theorem DO {w:World} {A Ap:Option Addr} {xs:List Lot} {ps:List Pk} {n np:Nat} (c cp:Nat) {I q:List UInt8} (hG:GE w) (hL:Xp w A xs n) (hP:TD w Ap ps) (hpn:ps.length=np) (hpn2:np<=100000) (hps:∀p∈ps,p.lot.length<=1000/\p.q.length<=1000) (hql:q.length<=1000) (hE:chE xs I q 1 ps=0) (hn19:n<20) :
  Calls Tryz.prog 93 #[.slice A n c,.string ⟨I.toArray⟩,.string ⟨q.toArray⟩,.int .i64 1,.slice Ap np cp] w (ZaU w (ofL I xs) q 1 ps):=by
 obtain⟨c1,c2,c3,c4,c5,c6,c7⟩:=JN hE;have hb:=Zb w (.cells #[.string ⟨q.toArray⟩] 32);have HQ:Hid ((w.alloc (.cells #[.string ⟨q.toArray⟩] 32)).heap[w.heap.size]?=some (.cells #[.string ⟨q.toArray⟩] 32 (0,0))):=ZJ w _;have K1:=Lh (Qq c (hG.below hb) (hL.below hb));rw[c1] at K1;have K2:=Lh (Yz (l:=q) (c:=0) (by omega) (if_pos c2))
 have K3:=Lh (fun (w':World) (hb':Below w.heap.size w w')=>ZaP _ Fg JM #[] Ap ps np cp w' hpn (by omega) (hP.below hb') (fun p hp w2 hb2=>Zc7 (hps p hp).2 w2 ((hG.below hb').below hb2)))
 have K4:=Lh (fun (w':World)=>DJ w')
 have K5:=Lh (fun (w':World) (hb':Below w.heap.size w w')=>Zbl c I (hG.below hb') (hL.below hb'))
 have K6:=Lh (VY (l:=q) (by omega))
 rw[Dt c6] at K6;obtain⟨own,hown⟩:∃own,own=ofL I xs:=⟨_,rfl⟩
 have hosm:∀x∈own,OD x:=fun x hx=>by rw[hown] at hx;exact hL.sm x ((List.mem_filter.1 hx).1)
 have hol:own.length<=100000:=by
  have h1:own.length<=xs.length:=by rw[hown];exact List.length_filter_le _ _
  have:=hL.len
  have:=hL.big
  omega
 have hol19:own.length<20:=by
  have h1:own.length<=xs.length:=by rw[hown];exact List.length_filter_le _ _
  have:=hL.len
  omega
 have hol1:1<=own.length:=by
  rcases Nat.eq_zero_or_pos own.length with h|h
  ·have:own=[]:=List.eq_nil_of_length_eq_zero h
   rw[<-hown,this] at c7;have e:XO []=0:=rfl;omega
  ·exact h
 have K8:=Lh (fun (w':World) (hb':Below w.heap.size w w')=>lOf c I (hL.below hb'))
 rw[<-hown] at K5 K8 c7 ⊢;obtain⟨sq,hsq⟩:∃sq,sq=canon (XO own):=⟨_,rfl⟩
 obtain⟨sc,hsc⟩:∃sc,sc=canon (Vz own):=⟨_,rfl⟩
 rw[<-hsq,<-hsc] at K5;obtain⟨cc,hcc⟩:∃cc,cc=ZI (val sq) (val q):=⟨_,rfl⟩
 have hsql:sq.length<=100000:=by rw[hsq];exact VF (fun x=>x.q) own (fun x hx=>(hosm x hx).q) hol
 have K7:=Lh (ZM (l:=sq) (l':=q) (by omega) (by omega) hcc.symm)
 have hcc0:¬cc<0:=by
  rw[hcc,hsq,Zj];unfold ZI;rw[if_neg (by omega)]
  split<;>omega
 have e7:decide (cc<0)=false:=Df hcc0;have HQI:=Lh (MK (own:=own) c2 (Int.le_of_lt c6));have HQL:Hid ((canon (val q)).length<=1100):=by rw[<-c2];show q.length<=1100;omega
 have HOS:=Lh hosm;have HPA:=Lh hP;have HPS:=Lh hps;have HPN:=Lh hpn;have HC3:=Lh c3;have lq:w.heap.size<=w.heap.size:=Nl _;clear hE c1 c2 c3 c6 c7 hown hosm hsq hsc hcc hsql hcc0 hL hP hps hpn hql;obtain⟨bq,hbq⟩:∃bq,bq=w.heap.size:=⟨_,rfl⟩
 rw[<-hbq] at HQ;have lq:w.heap.size<=bq:=by omega
 clear HC3 K3 c4 c5;go_enter Tryz.func93,Tryz.ntmps93;go_wp2_with fail;rw[<-hbq];have HBQ:=Lh hbq;clear hbq;refine K1.out.mono ?_;rintro e w1 ⟨rfl,hb1⟩;replace hb:=bto hb hb1;replace HQ:=Lh (Zk HQ.out hb1);have q0:w1.cell? ⟨bq,0,none⟩=some (.string ⟨q.toArray⟩):=Zg HQ.out 0;clear K1 hb1;go_wp2_with fail
 with_reducible refine (K2.out.e.of hG hb).mono ?_
 rintro e w2 ⟨rfl,hb2⟩;replace hb:=bto hb hb2;replace HQ:=Lh (Zk HQ.out hb2);clear K2 hb2 q0;go_wp2_with fail;refine (K4.out _).mono ?_;rintro e w3 ⟨nm,f,cap,rv,bf,rfl,hbf,hB,hb3,-,hm1⟩;obtain⟨rfl,rfl,rfl⟩:=hm1 rfl;have hb3':=Zb w3 (.cells #[.string ⟨nm.toArray⟩,.func (.func 269) #[] (Fa false bf),.bool false] 240);have HE:Hid (Blk (w3.alloc (.cells #[.string ⟨nm.toArray⟩,.func (.func 269) #[] (Fa false bf),.bool false] 240)) w3.heap.size #[.string ⟨nm.toArray⟩,.func (.func 269) #[] (Fa false bf),.bool false]):=Blk.new w3 _ 240;have HB:=Lh (hB.below hb3');replace hb:=bto (bto hb hb3) hb3';replace HQ:=Lh (Zk (Zk HQ.out hb3) hb3');clear K4 hb3 hb3' hB hm1 hbf;go_wp2_with fail;refine (K5.out _ hb).mono ?_;rintro e w4 ⟨rfl,hb4⟩;replace HE:=Lh (HE.out.below hb4);replace HB:=Lh (HB.out.below hb4);replace hb:=bto hb hb4;replace HQ:=Lh (Zk HQ.out hb4);have q0:w4.cell? ⟨bq,0,none⟩=some (.string ⟨q.toArray⟩):=Zg HQ.out 0;clear K5 hb4;go_wp2_with fail
 with_reducible refine (K6.out.e.of hG hb).mono ?_
 rintro e w5 ⟨rfl,hb5⟩;replace HE:=Lh (HE.out.below hb5);replace HB:=Lh (HB.out.below hb5);replace hb:=bto hb hb5;replace HQ:=Lh (Zk HQ.out hb5);clear q0 K6 hb5;have q0:w5.cell? ⟨bq,0,none⟩=some (.string ⟨q.toArray⟩):=Zg HQ.out 0;go_wp2_with fail
 with_reducible refine (K7.out.e.of hG hb).mono ?_
 rintro e w6 ⟨rfl,hb6⟩;replace HE:=Lh (HE.out.below hb6);replace HB:=Lh (HB.out.below hb6);replace hb:=bto hb hb6;replace HQ:=Lh (Zk HQ.out hb6);clear q0 K7 hb6;go_wp2_with fail;refine (K8.out _ hb).mono ?_;rintro e w7 ⟨v0,rfl,hro,hb7⟩;replace HE:=Lh (HE.out.below hb7);replace HB:=Lh (HB.out.below hb7);replace hb:=bto hb hb7;replace HQ:=Lh (Zk HQ.out hb7);obtain⟨Ao,co,rfl⟩:∃Ao co,v0=.slice Ao own.length co:=by
  rcases hro.2 with ⟨hv,h1⟩|⟨g,cap,cur,hv,-⟩
  ·omega
  ·exact⟨_,_,hv⟩
 obtain⟨g0,rfl,hg0,hr0⟩:=LB hro rfl hol1;have HRO:=Lh hr0;clear K8 hb7 hro hr0 e7;have hbo:=Zb w7 (.cells #[.slice none 0 0] 45);have hsz:(w7.alloc (.cells #[.slice none 0 0] 45)).heap.size=w7.heap.size+1:=by simp
 have hqlt:bq<w7.heap.size:=(Ag.1 HQ.out).1;have helt:w3.heap.size<w7.heap.size:=HE.out.lt;have hblt:bf<w7.heap.size:=HB.out.lt;have hglt:g0<w7.heap.size:=HRO.out.lt;have hgq:g0≠bq:=fun e=>by
  obtain⟨cur,h0,-⟩:=HRO.out;rw[e,HQ.out] at h0;simp at h0
 have heq:w3.heap.size≠bq:=fun e=>by
  obtain⟨t0,h0⟩:=HE.out;rw[e,HQ.out] at h0;simp at h0
 have hfq:bf≠bq:=fun e=>by
  obtain⟨t0,h0⟩:=HB.out;rw[e,HQ.out] at h0;simp at h0
 have HC:Hid (MJ w (w7.heap.size+1) w7.heap.size bq ([],q) (.slice none 0 0) (w7.alloc (.cells #[.slice none 0 0] 45))):=⟨bto hb hbo,lq,hqlt,Nat.lt_succ_self _,by rw[hsz];exact Nl _,Zk HQ.out hbo,ZJ w7 _,DL _ _⟩
 replace HE:=Lh (HE.out.below hbo);replace HB:=Lh (HB.out.below hbo);replace HRO:=Lh (HRO.out.below hbo);clear hbo hsz hb HQ;obtain⟨bo,hbo⟩:∃bo,bo=w7.heap.size:=⟨_,rfl⟩
 obtain⟨be,hbe⟩:∃be,be=w3.heap.size:=⟨_,rfl⟩
 obtain⟨B,hB⟩:∃B,B=bo+1:=⟨_,rfl⟩
 obtain⟨N,hN⟩:∃N,N=own.length:=⟨_,rfl⟩
 rw[<-hbo,<-hB] at HC;rw[<-hbo] at hqlt helt hblt hglt;rw[<-hbe] at HE helt heq;have hEn:=fun args w=>Fh args w
 have hboB:bo<B:=by omega
 have HBO:=Lh hbo;have HBE:=Lh hbe;have HNN:=Lh hN;have hN1:1<=N:=by omega
 have hN2:N<=100000:=by omega
 clear hbo hbe hB hN;have HI:=HQI;have HS1:Hid (Nw own q 1 ps=([],q)):=if_neg (by decide)
 go_upto_region 24 with fail
 rw[<-HBO.out,<-HBE.out,<-HNN.out];have KSo:=Lh (AY co (hG.below HC.out.below) ⟨HNN.out.symm,hN2,HOS.out,HRO.out.lotAt⟩ hN1 (by have:=HNN.out;omega) nm bf HB.out)
 have q1:=HE.out.c 0;have q2:=HE.out.c 1;have q3:=HE.out.c 2;go_wp2_with fail;refine KSo.out.mono ?_;rintro e w9 ⟨gs,cps,zs,rfl,hgs,hrs,hperm,hb9,hord⟩;have hvb:=HC.out.row.block;have hle:=HC.out.le;have HVG:Hid (Value.ownBlock (.slice none 0 0)≠some gs):=fun e=>by have:=(hvb gs e).2;omega
 have hgbo:gs≠bo:=by omega
 have hgbq:gs≠bq:=by omega
 replace HC:=Lh (HC.out.go hb9);have HRS:=Lh hrs;have HPE:=Lh hperm;have HOR:=Lh hord;have hzl:zs.length=N:=hperm.length_eq.trans HNN.out.symm;have hz1:zs.length<=N:=by omega
 have hz2:N<=zs.length:=by omega
 clear hvb hle hgs hrs hperm hb9 hord hzl q1 q2 q3 KSo HE HB HRO;go_wp2_with fail
 rename World=>wo
 go_loopw [24,95] (fun _ iv wr=>∃(k:Nat) (s:List Pk×List UInt8) (v:Value),k<=N/\iv=.int .i64 (k:Int)/\Hid (MJ w B bo bq s v wr)/\Hid (YC own (val q) s)/\Hid (YN (zs.drop k) s=YN zs (([],q):List Pk×List UInt8))/\Hid (YL wr gs zs)/\Hid (v.ownBlock≠some gs)) (fun _ iv _=>N-(intOf iv).toNat)
 case atStart=>exact⟨0,_,_,Nat.zero_le _,rfl,HC.out,HI.out,rfl,HRS.out,HVG.out⟩
 case round=>
  clear HC HI HRS HVG;obtain⟨k,s,v,hk,rfl,HC,HI,HRE,HRS,HVG⟩:=hrel
  by_cases hlk:k<N
  rotate_left
  ·have e1:decide (k<N)=false:=Df hlk;have e2:decide ((k:Int)<(N:Int))=false:=Df (by omega)
   have q0:wr.cell? ⟨bo,0,none⟩=some v:=Zg HC.out.out 0;have HF:Hid (ZaU w own q 1 ps (.returned (.tuple #[v,.int .i64 0])) wr):=by
    have e:s=YN zs (Nw own q 1 ps):=by
     have h:=HRE.out;rw[List.drop_of_length_le (by omega)] at h
     rw[HS1.out];exact h
    refine⟨v,zs,rfl,HC.out.below,HPE.out,fun hm h20 ho=>?_,?_⟩
    · exact HOR.out (by trivial) (by trivial) (by have:=HNN.out;omega) ho
    ·rw[<-e];exact HC.out.row.base (by have:=HC.out.lq;have:=HC.out.lo;have:=HC.out.lb;omega)
   obtain⟨A1,c1,rfl⟩:=HC.out.row.form;clear HC HI HRE HRS HVG;go_wp2;go_ret2;exact HF.out
  have e1:decide (k<N)=true:=Dt hlk;have e2:decide ((k:Int)<(N:Int))=true:=Dt (by omega)
  obtain⟨x,hx⟩:∃x,zs[k]?=some x:=⟨_,List.getElem?_eq_getElem (by omega)⟩
  have hxo:x∈own:=HPE.out.subset (Lm hx);have hxs:=HOS.out x hxo;have hcells:=HRS.out.cells hx;have p0:=hcells.c0;have p1:=hcells.c1;have p2:=hcells.c2;have p3:=hcells.c3;have p4:=hcells.c4;have p5:=hcells.c5;have p6:=hcells.c6;have hbA:=Zb wr (.cells #[Value.string ⟨x.id.toArray⟩,Value.string ⟨x.ins.toArray⟩,Value.int .i64 x.acq,Value.int .i64 x.opn,Value.string ⟨x.q.toArray⟩,Value.string ⟨x.cost.toArray⟩,Value.string ⟨x.used.toArray⟩] 130);have x1:=Xh.new wr x 130;have q0:=x1.c0;have q1:=x1.c1;have q2:=x1.c2;have q3:=x1.c3;have q4:=x1.c4;have q5:=x1.c5;have q6:=x1.c6;have KT:=Lh (Zby hG (HC.out.go hbA) HI.out hxs hxs.q HQL.out (Nt HI.out.len (by have:=HNN.out;omega)))
  have HD:Hid (zs.drop k=x::zs.drop (k+1)):=by
   obtain⟨hk2,rfl⟩:=Lg.1 hx;exact List.drop_eq_getElem_cons hk2
  have HI2:=Lh (ON x.q HI.out hxo).1;have hgl:=HRS.out.lt;have HRA:=Lh (HRS.out.below hbA);have hsa:(wr.alloc (.cells #[Value.string ⟨x.id.toArray⟩,Value.string ⟨x.ins.toArray⟩,Value.int .i64 x.acq,Value.int .i64 x.opn,Value.string ⟨x.q.toArray⟩,Value.string ⟨x.cost.toArray⟩,Value.string ⟨x.used.toArray⟩] 130)).heap.size=wr.heap.size+1:=by simp
  have HSA:=Lh hsa;clear hx hxo hxs hcells x1 hbA hsa;go_wp2_with fail;refine KT.out.mono ?_;rintro e w10 ⟨rfl,v',hc',hx',hf'⟩;have HC':=Lh hc'
  have HRS':Hid (YL w10 gs zs):=HRA.out.keepX hx' (fun h=>by
   rcases h with h|h|h
   ·exact hgbo h
   ·exact hgbq h
   ·exact HVG.out h)
  have HVG':Hid (v'.ownBlock≠some gs):=fun e=>by
   rcases hf' gs e with h|h
   ·exact HVG.out h
   ·have:=HSA.out;omega
  have HRE':Hid (YN (zs.drop (k+1)) (YM s x x.q)=YN zs (([],q):List Pk×List UInt8)):=by
   have h:=HRE.out;rw[HD.out] at h;exact h
  clear p0 p1 p2 p3 p4 p5 p6 q0 q1 q2 q3 q4 q5 q6 e1 e2 KT hc' hx' hf' HC HI HRE HRS HVG HRA HD hgl HSA;go_wp2;go_roundw
  case rel=>exact⟨k+1,_,v',by omega,by go_num,HC'.out,HI2.out,HRE'.out,HRS'.out,HVG'.out⟩
  case measure=>simp[intOf];omega
end Go.Proofs.YtpieeldbamklkaaGreatDoor
