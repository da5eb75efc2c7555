/- Texts put together: Rd Ka Kb Bg Bu Rf. -/
import Derived.Test.YtpieeldbamklkaaGreatDoorY5
import Derived.Laws.Tables
set_option maxHeartbeats 8000000
set_option maxRecDepth 100000
open Go.Proofs.Tryz
namespace Go.Proofs.YtpieeldbamklkaaGreatDoor
open Go.RowKit Num
theorem Yr {P:Program} (fn:Func) (a:Tmp) (t:TypeId) {tmps:Array Value} {w:World} {b:Nat} (cs:Array Value) {d:TypeDesc} (hr:fn.results=#[.cell a t]) (ha:tmps.getD a undef=.pointer (some ⟨b,0,none⟩)) (hc:w.rangeAt b 0 cs.toList)
  (hu:P.underlying t=some d) (hd:d.isRow=true) (hi:(P.info? t).map (·.size)=some cs.size):(results fn tmps).run P w=.ok (.agg cs) w:=by
 unfold results;rw[hr];have h:=run_loadVar_mid w b 0 t cs.toList d hc hu hd (by simpa using hi)
 have ha':tmps[a]?.getD undef=.pointer (some ⟨b,0,none⟩):=by rw[<-Array.getD_eq_getD_getElem?];exact ha
 simp[ha',asAddr,h]
theorem results_cell_tmp {P:Program} (fn:Func) (a c:Tmp) (t:TypeId) {tmps:Array Value} {w:World} {b:Nat} (cs:Array Value) (u:Value) {d:TypeDesc} (hr:fn.results=#[.cell a t,.tmp c]) (ha:tmps.getD a undef=.pointer (some ⟨b,0,none⟩)) (hcu:tmps.getD c undef=u) (hc:w.rangeAt b 0 cs.toList)
  (hu:P.underlying t=some d) (hd:d.isRow=true) (hi:(P.info? t).map (·.size)=some cs.size):(results fn tmps).run P w=.ok (.tuple #[.agg cs,u]) w:=by
 unfold results;rw[hr];have h:=run_loadVar_mid w b 0 t cs.toList d hc hu hd (by simpa using hi)
 have ha':tmps[a]?.getD undef=.pointer (some ⟨b,0,none⟩):=by rw[<-Array.getD_eq_getD_getElem?];exact ha
 have hc':tmps[c]?.getD undef=u:=by rw[<-Array.getD_eq_getD_getElem?];exact hcu
 simp[ha',hc',asAddr,h]
theorem Wh {w:World} {b:Nat} {cs:Array Value} {t:TypeId} (h:w.heap[b]?=some (.cells cs t (0,0))):w.there b 0 cs.size:=fun j hj=>by
 rw[Nat.zero_add];exact⟨by rw[Zg h,Array.getElem?_eq_getElem hj];rfl,Zn h _⟩
theorem Z9 {w:World} {b:Nat} {cs:Array Value} {t:TypeId} (h:w.heap[b]?=some (.cells cs t (0,0))):w.rangeAt b 0 cs.toList:=fun j v hv=>by
 rw[Nat.zero_add,Zg h,<-hv,Array.getElem?_toList]
def Vd (bf:Nat):Array Value:=#[.string ⟨#[]⟩,.nilFunc,.bool false,.string ⟨#[102,105,102,111]⟩,.func (.func 269) #[] #[],.bool false,.string ⟨#[108,105,102,111]⟩,.func (.func 269) #[] #[],.bool true,.string ⟨#[104,105,103,104,101,115,116]⟩,.func (.func 274) #[] #[.pointer (some ⟨bf,0,none⟩)],.bool false,.string ⟨#[108,111,119,101,115,116]⟩,.func (.func 271) #[] #[.pointer (some ⟨bf,0,none⟩)],.bool false,.string ⟨#[110,97,109,101,100]⟩,.func (.func 269) #[] #[],.bool false,.string ⟨#[97,118,101,114,97,103,101]⟩,.func (.func 269) #[] #[],.bool false]
theorem LH (bf:Nat):(Vd bf).all (·.oneCell')=true:=by simp[Vd,Value.oneCell']
theorem Tu (bf:Nat):(Vd bf).size=21:=rfl
theorem ND:(prog.info? 293).map (·.size)=some 21:=by kernel_rfl
theorem JP:(prog.info? 240).map (·.size)=some 3:=by kernel_rfl
theorem QH:∀(l pre suf:List Value),suf.length=l.length->Xq (pre++suf).toArray pre.length l=(pre++l).toArray
 | [],pre,suf,h=>by
  have:suf=[]:=List.eq_nil_of_length_eq_zero h
  subst this;rfl
 | v::l,pre,[],h=>by simp at h
 | v::l,pre,s::suf,h=>by
  have ih:=QH l (pre++[v]) suf (by simpa using h)
  unfold Xq;have e:(pre++s::suf).toArray.setIfInBounds pre.length v=(pre++[v]++suf).toArray:=by simp
  rw[e,show pre.length+1=(pre++[v]).length by simp,ih]
  simp
theorem NE (bf:Nat):Xq #[.string ⟨#[]⟩,.nilFunc,.bool false,.string ⟨#[]⟩,.nilFunc,.bool false,.string ⟨#[]⟩,.nilFunc,.bool false,.string ⟨#[]⟩,.nilFunc,.bool false,.string ⟨#[]⟩,.nilFunc,.bool false,.string ⟨#[]⟩,.nilFunc,.bool false,.string ⟨#[]⟩,.nilFunc,.bool false] 0 (Vd bf).toList=Vd bf:=by
 have h:=QH (Vd bf).toList [] [.string ⟨#[]⟩,.nilFunc,.bool false,.string ⟨#[]⟩,.nilFunc,.bool false,.string ⟨#[]⟩,.nilFunc,.bool false,.string ⟨#[]⟩,.nilFunc,.bool false,.string ⟨#[]⟩,.nilFunc,.bool false,.string ⟨#[]⟩,.nilFunc,.bool false,.string ⟨#[]⟩,.nilFunc,.bool false] rfl;exact h
theorem OE {P:Program} {ops:Array Oper} {rest:List Oper} {op:Oper} {a:Act} {w:World} {Q:Exit->Act->World->Prop} (hgd:op.guard=none) (ty:TypeId) (fs:Array (Nat×Operand)) (_ho:op.op=.build ty fs) (v:Value) (hr:(execOp a.eval op).run P w=.ok (.value v) w)
  (h:wpList P ops Q rest (a.put op.dst v) w):wpList P ops Q (op::rest) a w:=by
 exact wpList_plain hgd fun K hK=>by
  unfold Oper.wp;rw[hr];exact hK _ _ h
def ZcE (w:World) (e:Ending) (w':World):Prop:=∃bf,e=.returned (.agg (Vd bf))/\w.heap.size<=bf/\Blk w' bf #[.func (.func 269) #[] #[]]/\Below w.heap.size w w'
theorem Di (w:World):Calls prog 208 #[] w (ZcE w):=by
 have HZ:=Lh ND;have hbA:=Zb w (.cells #[.string ⟨#[]⟩,.nilFunc,.bool false,.string ⟨#[]⟩,.nilFunc,.bool false,.string ⟨#[]⟩,.nilFunc,.bool false,.string ⟨#[]⟩,.nilFunc,.bool false,.string ⟨#[]⟩,.nilFunc,.bool false,.string ⟨#[]⟩,.nilFunc,.bool false,.string ⟨#[]⟩,.nilFunc,.bool false] 293);have hbB:=Zb (w.alloc (.cells #[.string ⟨#[]⟩,.nilFunc,.bool false,.string ⟨#[]⟩,.nilFunc,.bool false,.string ⟨#[]⟩,.nilFunc,.bool false,.string ⟨#[]⟩,.nilFunc,.bool false,.string ⟨#[]⟩,.nilFunc,.bool false,.string ⟨#[]⟩,.nilFunc,.bool false,.string ⟨#[]⟩,.nilFunc,.bool false] 293)) (.cells #[.func (.func 269) #[] #[]] 238);have hb:=bto hbA hbB;have hz:(w.alloc (.cells #[.string ⟨#[]⟩,.nilFunc,.bool false,.string ⟨#[]⟩,.nilFunc,.bool false,.string ⟨#[]⟩,.nilFunc,.bool false,.string ⟨#[]⟩,.nilFunc,.bool false,.string ⟨#[]⟩,.nilFunc,.bool false,.string ⟨#[]⟩,.nilFunc,.bool false,.string ⟨#[]⟩,.nilFunc,.bool false] 293)).heap.size=w.heap.size+1:=by simp
 have hA:Hid (((w.alloc (.cells #[.string ⟨#[]⟩,.nilFunc,.bool false,.string ⟨#[]⟩,.nilFunc,.bool false,.string ⟨#[]⟩,.nilFunc,.bool false,.string ⟨#[]⟩,.nilFunc,.bool false,.string ⟨#[]⟩,.nilFunc,.bool false,.string ⟨#[]⟩,.nilFunc,.bool false,.string ⟨#[]⟩,.nilFunc,.bool false] 293)).alloc (.cells #[.func (.func 269) #[] #[]] 238)).heap[w.heap.size]?=some (.cells #[.string ⟨#[]⟩,.nilFunc,.bool false,.string ⟨#[]⟩,.nilFunc,.bool false,.string ⟨#[]⟩,.nilFunc,.bool false,.string ⟨#[]⟩,.nilFunc,.bool false,.string ⟨#[]⟩,.nilFunc,.bool false,.string ⟨#[]⟩,.nilFunc,.bool false,.string ⟨#[]⟩,.nilFunc,.bool false] 293 (0,0))):=Zt (ZG w _) hbB;have hB:Hid (((w.alloc (.cells #[.string ⟨#[]⟩,.nilFunc,.bool false,.string ⟨#[]⟩,.nilFunc,.bool false,.string ⟨#[]⟩,.nilFunc,.bool false,.string ⟨#[]⟩,.nilFunc,.bool false,.string ⟨#[]⟩,.nilFunc,.bool false,.string ⟨#[]⟩,.nilFunc,.bool false,.string ⟨#[]⟩,.nilFunc,.bool false] 293)).alloc (.cells #[.func (.func 269) #[] #[]] 238)).heap[w.heap.size+1]?=some (.cells #[.func (.func 269) #[] #[]] 238 (0,0))):=by
  have:=ZG (w.alloc (.cells #[.string ⟨#[]⟩,.nilFunc,.bool false,.string ⟨#[]⟩,.nilFunc,.bool false,.string ⟨#[]⟩,.nilFunc,.bool false,.string ⟨#[]⟩,.nilFunc,.bool false,.string ⟨#[]⟩,.nilFunc,.bool false,.string ⟨#[]⟩,.nilFunc,.bool false,.string ⟨#[]⟩,.nilFunc,.bool false] 293)) (.cells #[.func (.func 269) #[] #[]] 238)
  rwa [hz] at this
 have q0:((w.alloc (.cells #[.string ⟨#[]⟩,.nilFunc,.bool false,.string ⟨#[]⟩,.nilFunc,.bool false,.string ⟨#[]⟩,.nilFunc,.bool false,.string ⟨#[]⟩,.nilFunc,.bool false,.string ⟨#[]⟩,.nilFunc,.bool false,.string ⟨#[]⟩,.nilFunc,.bool false,.string ⟨#[]⟩,.nilFunc,.bool false] 293)).alloc (.cells #[.func (.func 269) #[] #[]] 238)).cell? ⟨w.heap.size+1,0,none⟩=some (.func (.func 269) #[] #[]):=Zg hB.out 0;have hM:=LH (w.heap.size+1);have hS:=NE (w.heap.size+1);clear hbA hbB hz;have hTH:((w.alloc (.cells #[.string ⟨#[]⟩,.nilFunc,.bool false,.string ⟨#[]⟩,.nilFunc,.bool false,.string ⟨#[]⟩,.nilFunc,.bool false,.string ⟨#[]⟩,.nilFunc,.bool false,.string ⟨#[]⟩,.nilFunc,.bool false,.string ⟨#[]⟩,.nilFunc,.bool false,.string ⟨#[]⟩,.nilFunc,.bool false] 293)).alloc (.cells #[.func (.func 269) #[] #[]] 238)).there w.heap.size 0 (Vd (w.heap.size+1)).size:=by rw[Tu];exact Wh hA.out
 have hIN:(prog.info? 293).map (·.size)=some (Vd (w.heap.size+1)).size:=by rw[Tu];exact HZ.out
 have hT:=VM w.heap.size 293 (Vd (w.heap.size+1)).toList 0 _ _ hA.out;rw[hS] at hT;have hb2:Below w.heap.size w (((w.alloc (.cells #[.string ⟨#[]⟩,.nilFunc,.bool false,.string ⟨#[]⟩,.nilFunc,.bool false,.string ⟨#[]⟩,.nilFunc,.bool false,.string ⟨#[]⟩,.nilFunc,.bool false,.string ⟨#[]⟩,.nilFunc,.bool false,.string ⟨#[]⟩,.nilFunc,.bool false,.string ⟨#[]⟩,.nilFunc,.bool false] 293)).alloc (.cells #[.func (.func 269) #[] #[]] 238)).setCells w.heap.size 0 (Vd (w.heap.size+1)).toList):=
  (ZQ (X:=fun k=>k=w.heap.size) rfl _ _ _).lower hb (fun k hk=>by rw[hk];exact Nl _)
 have hN:=hT.new;have hO:=(hT.old (w.heap.size+1) (by omega)).trans hB.out
 have HN:=Lh hN;have HO:=Lh hO;have HB2:=Lh hb2;clear hN hO hA hB hT hb hS hb2;go_enter func208,ntmps208
 go_wp2_with (first
  | (refine OE rfl 293 _ rfl (.agg (Vd (w.heap.size+1))) (by unfold Vd;go_simp;first|done|rfl|rfl) ?_)
  | (refine wpList_store_mid rfl 293 (.tmp 0) (.tmp 18) rfl w.heap.size 0 (Vd (w.heap.size+1)) rfl rfl hTH hIN hM ?_))
 refine bodyPost_ret (v:=.agg (Vd (w.heap.size+1))) ?_ rfl ?_
 ·exact Yr Tryz.f208 0 293 (Vd (w.heap.size+1)) rfl rfl (Z9 HN.out) underlying293 rfl HZ.out
 exact⟨w.heap.size+1,rfl,Nat.le_succ _,⟨_,HO.out⟩,HB2.out⟩
def Zb1 (w:World) (nm:Value) (fv:Nat->Value) (rv:Bool) (e:Ending) (w':World):Prop:=∃bf,e=.returned (.tuple #[.agg #[nm,fv bf,.bool rv],.bool true])/\w.heap.size<=bf/\Blk w' bf #[.func (.func 269) #[] #[]]/\Below w.heap.size w w'
theorem Za6 (w:World):Calls prog 158 #[.int .i64 1] w (Zb1 w (.string ⟨#[102,105,102,111]⟩) (fun _=>.func (.func 269) #[] #[]) false):=by
 have HZ:=Lh ND;have HE:=Lh JP;have hb:=Zb w (.cells #[.string ⟨#[]⟩,.nilFunc,.bool false] 240);have hr:Hid ((w.alloc (.cells #[.string ⟨#[]⟩,.nilFunc,.bool false] 240)).heap[w.heap.size]?=some (.cells #[.string ⟨#[]⟩,.nilFunc,.bool false] 240 (0,0))):=ZG w _;have C1:=Lh (Di (w.alloc (.cells #[.string ⟨#[]⟩,.nilFunc,.bool false] 240)));go_enter func158,ntmps158;go_wp2_with fail;refine C1.out.mono ?_;rintro e w1 ⟨bf,rfl,hbf,hB,hb1⟩;have hr1:=Lh (Zt hr.out hb1);have hbf2:w.heap.size<=bf:=by
  have h1:(w.alloc (.cells #[.string ⟨#[]⟩,.nilFunc,.bool false] 240)).heap.size=w.heap.size+1:=by simp
  omega
 replace hb:=bto hb hb1;have hlr:w.heap.size<w1.heap.size:=(Ag.1 hr1.out).1;have hne:w1.heap.size≠w.heap.size:=by omega
 have hbA:=Zb w1 (.cells #[.string ⟨#[]⟩,.nilFunc,.bool false,.string ⟨#[]⟩,.nilFunc,.bool false,.string ⟨#[]⟩,.nilFunc,.bool false,.string ⟨#[]⟩,.nilFunc,.bool false,.string ⟨#[]⟩,.nilFunc,.bool false,.string ⟨#[]⟩,.nilFunc,.bool false,.string ⟨#[]⟩,.nilFunc,.bool false] 293);have hA:Hid ((w1.alloc (.cells #[.string ⟨#[]⟩,.nilFunc,.bool false,.string ⟨#[]⟩,.nilFunc,.bool false,.string ⟨#[]⟩,.nilFunc,.bool false,.string ⟨#[]⟩,.nilFunc,.bool false,.string ⟨#[]⟩,.nilFunc,.bool false,.string ⟨#[]⟩,.nilFunc,.bool false,.string ⟨#[]⟩,.nilFunc,.bool false] 293)).heap[w1.heap.size]?=some (.cells #[.string ⟨#[]⟩,.nilFunc,.bool false,.string ⟨#[]⟩,.nilFunc,.bool false,.string ⟨#[]⟩,.nilFunc,.bool false,.string ⟨#[]⟩,.nilFunc,.bool false,.string ⟨#[]⟩,.nilFunc,.bool false,.string ⟨#[]⟩,.nilFunc,.bool false,.string ⟨#[]⟩,.nilFunc,.bool false] 293 (0,0))):=ZG w1 _;have hM:=LH bf;have hS:=NE bf;have HB:=Lh (hB.below hbA);have hbl:=hB.lt;have hr2:=Lh (Zt hr1.out hbA);replace hb:=bto hb hbA;clear hr hr1 C1 hbf hB hb1 hbA;have hTH:(w1.alloc (.cells #[.string ⟨#[]⟩,.nilFunc,.bool false,.string ⟨#[]⟩,.nilFunc,.bool false,.string ⟨#[]⟩,.nilFunc,.bool false,.string ⟨#[]⟩,.nilFunc,.bool false,.string ⟨#[]⟩,.nilFunc,.bool false,.string ⟨#[]⟩,.nilFunc,.bool false,.string ⟨#[]⟩,.nilFunc,.bool false] 293)).there w1.heap.size 0 (Vd bf).size:=by rw[Tu];exact Wh hA.out
 have hIN:(prog.info? 293).map (·.size)=some (Vd bf).size:=by rw[Tu];exact HZ.out
 have hT:=VM w1.heap.size 293 (Vd bf).toList 0 _ _ hA.out;rw[hS] at hT;have hb2:Below w.heap.size w ((w1.alloc (.cells #[.string ⟨#[]⟩,.nilFunc,.bool false,.string ⟨#[]⟩,.nilFunc,.bool false,.string ⟨#[]⟩,.nilFunc,.bool false,.string ⟨#[]⟩,.nilFunc,.bool false,.string ⟨#[]⟩,.nilFunc,.bool false,.string ⟨#[]⟩,.nilFunc,.bool false,.string ⟨#[]⟩,.nilFunc,.bool false] 293)).setCells w1.heap.size 0 (Vd bf).toList):=
  (ZQ (X:=fun k=>k=w1.heap.size) rfl _ _ _).lower hb (fun k hk=>by rw[hk];omega)
 have hN:=Lh hT.new;have hr3:Hid (((w1.alloc (.cells #[.string ⟨#[]⟩,.nilFunc,.bool false,.string ⟨#[]⟩,.nilFunc,.bool false,.string ⟨#[]⟩,.nilFunc,.bool false,.string ⟨#[]⟩,.nilFunc,.bool false,.string ⟨#[]⟩,.nilFunc,.bool false,.string ⟨#[]⟩,.nilFunc,.bool false,.string ⟨#[]⟩,.nilFunc,.bool false] 293)).setCells w1.heap.size 0 (Vd bf).toList).heap[w.heap.size]?=some (.cells #[.string ⟨#[]⟩,.nilFunc,.bool false] 240 (0,0))):=(hT.old _ (by omega)).trans hr2.out
 have HB2:Hid (Blk ((w1.alloc (.cells #[.string ⟨#[]⟩,.nilFunc,.bool false,.string ⟨#[]⟩,.nilFunc,.bool false,.string ⟨#[]⟩,.nilFunc,.bool false,.string ⟨#[]⟩,.nilFunc,.bool false,.string ⟨#[]⟩,.nilFunc,.bool false,.string ⟨#[]⟩,.nilFunc,.bool false,.string ⟨#[]⟩,.nilFunc,.bool false] 293)).setCells w1.heap.size 0 (Vd bf).toList) bf #[.func (.func 269) #[] #[]]):=by
  obtain⟨t0,h0⟩:=HB.out;exact⟨t0,(hT.old bf (by omega)).trans h0⟩
 obtain⟨W2,hW2⟩:∃W2,W2=((w1.alloc (.cells #[.string ⟨#[]⟩,.nilFunc,.bool false,.string ⟨#[]⟩,.nilFunc,.bool false,.string ⟨#[]⟩,.nilFunc,.bool false,.string ⟨#[]⟩,.nilFunc,.bool false,.string ⟨#[]⟩,.nilFunc,.bool false,.string ⟨#[]⟩,.nilFunc,.bool false,.string ⟨#[]⟩,.nilFunc,.bool false] 293)).setCells w1.heap.size 0 (Vd bf).toList):=⟨_,rfl⟩
 rw[<-hW2] at hN hr3 HB2 hb2;clear hA hT hS HB hr2 hb;have p0:W2.cell? ⟨w1.heap.size,3,none⟩=some (.string ⟨#[102,105,102,111]⟩):=Zg hN.out 3;have p1:W2.cell? ⟨w1.heap.size,4,none⟩=some (.func (.func 269) #[] #[]):=Zg hN.out 4;have p2:W2.cell? ⟨w1.heap.size,5,none⟩=some (.bool false):=Zg hN.out 5;have g0:W2.cell? ⟨w.heap.size,0,none⟩=some (.string ⟨#[]⟩):=Zg hr3.out 0;have g1:W2.cell? ⟨w.heap.size,1,none⟩=some .nilFunc:=Zg hr3.out 1;have g2:W2.cell? ⟨w.heap.size,2,none⟩=some (.bool false):=Zg hr3.out 2;have f0:W2.frozen? ⟨w.heap.size,0,none⟩=false:=Zn hr3.out 0;have f1:W2.frozen? ⟨w.heap.size,1,none⟩=false:=Zn hr3.out 1;have f2:W2.frozen? ⟨w.heap.size,2,none⟩=false:=Zn hr3.out 2;have hR:(((W2.setCell ⟨w.heap.size,0,none⟩ (.string ⟨#[102,105,102,111]⟩)).setCell ⟨w.heap.size,1,none⟩ (.func (.func 269) #[] #[])).setCell ⟨w.heap.size,2,none⟩ (.bool false)).rangeAt w.heap.size 0 [.string ⟨#[102,105,102,111]⟩,.func (.func 269) #[] #[],.bool false]:=Z9 (hset _ (hset _ (hset _ hr3.out)));have HW2:=Lh hW2;clear hW2;go_wp2_with (refine wpList_store_mid rfl 293 (.tmp 4) (.tmp 5) rfl w1.heap.size 0 (Vd bf) rfl rfl hTH hIN hM ?_;rw[<-HW2.out]);refine bodyPost_ret (v:=.tuple #[.agg #[.string ⟨#[102,105,102,111]⟩,.func (.func 269) #[] #[],.bool false],.bool true]) ?_ rfl ?_
 ·exact results_cell_tmp Tryz.f158 2 3 240 #[.string ⟨#[102,105,102,111]⟩,.func (.func 269) #[] #[],.bool false] (.bool true) rfl rfl rfl hR underlying240 rfl HE.out
 refine⟨bf,rfl,hbf2,?_,((hb2.setCell (p:=⟨w.heap.size,0,none⟩) (Nl _) _).setCell (p:=⟨w.heap.size,1,none⟩) (Nl _) _).setCell (p:=⟨w.heap.size,2,none⟩) (Nl _) _⟩;have hn:bf≠w.heap.size:=by
  intro e
  have:=HB2.out
  rw[e] at this;obtain⟨t0,h0⟩:=this;rw[hr3.out] at h0;cases h0
 exact ((HB2.out.setO hn).setO hn).setO hn
def GW (cap:Bool) (bf:Nat):Array Value:=if cap=true then #[.pointer (some ⟨bf,0,none⟩)] else #[]
def Zb2 (f:Nat) (cap:Bool):Prop:=(f=269/\cap=false)∨(f=271/\cap=true)∨(f=274/\cap=true)
def Zb3 (m:Int) (w:World) (e:Ending) (w':World):Prop:=∃(nm:List UInt8) (f:Nat) (cap rv:Bool) (bf:Nat),e=.returned (.tuple #[.agg #[.string ⟨nm.toArray⟩,.func (.func f) #[] (GW cap bf),.bool rv],.bool true])/\w.heap.size<=bf/\Blk w' bf #[.func (.func 269) #[] #[]]/\Below w.heap.size w w'/\Zb2 f cap/\(m=1->f=269/\cap=false/\rv=false)
open Go.Shelf
theorem OF:(prog.info? 34).map (·.size)=some 2:=by kernel_rfl
def dgN (l:List UInt8):Int:=((Lib.trimPrefix l [45]).length:Int)
theorem I4 (l:List UInt8):Vt 287 #[.string ⟨l.toArray⟩] (.int .i64 (dgN l)):=fun w hG=>by
 have C1:=Lh (Lj l [45]);have HV:Hid (((Lib.trimPrefix l [45]).length:Int)=dgN l):=rfl;generalize Lib.trimPrefix l [45]=t at *;generalize dgN l=z at *;go_enter func287,ntmps287;go_wp2_with fail
 refine (C1.out.of hG (Below.refl _ _)).mono ?_
 rintro e w1 ⟨rfl,hb1⟩;go_wp2;go_ret;exact⟨ZU HV.out,hb1⟩
theorem My (l:List UInt8):Vt 290 #[.string ⟨l.toArray⟩] (.agg #[.string ⟨l.toArray⟩,.string ⟨#[]⟩]):=fun w hG=>by
 have hb:=Zb w (.cells #[.string ⟨l.toArray⟩,.string ⟨#[]⟩] 34);have HZ:=Lh OF;have HN:=Lh (ZG w (.cells #[.string ⟨l.toArray⟩,.string ⟨#[]⟩] 34));go_enter func290,ntmps290;go_wp2;refine bodyPost_ret (v:=.agg #[.string ⟨l.toArray⟩,.string ⟨#[]⟩]) ?_ rfl ?_
 ·exact Yr Tryz.f290 2 34 #[.string ⟨l.toArray⟩,.string ⟨#[]⟩] rfl rfl (Z9 HN.out) underlying34 rfl HZ.out
 exact⟨rfl,hb⟩
theorem Dj (p q:Bool) (w:World):Calls prog 229 #[.bool p,.bool q] w fun e w'=>e=.returned (.func (.func 286) #[] #[.pointer (some ⟨w.heap.size,0,none⟩),.pointer (some ⟨w.heap.size+1,0,none⟩)])/\w'=(w.alloc (.cells #[.bool p] 4)).alloc (.cells #[.bool q] 4):=by
 go_enter func229,ntmps229;go_wp2_with fail;go_ret;exact⟨rfl,rfl⟩
def bwE (p pt:Bool) (l l':List UInt8) (q:Rat):Int:=if ¬(l=fN q/\l'=fD q) then 1 else if 40<dgN l then 4 else if 40<dgN l' then 4 else if Mg q 0<0 then 2 else if p=true/\Mg q 0=0 then 2 else if pt=true/\0<Mg q ((1:Int):Rat) then 2 else 0
theorem I5 (p pt:Bool) {l l':List UInt8} {q:Rat} (h:IsQ l l' q) {b1 b2:Nat} {w:World} (hG:GE w) (hP:Blk w b1 #[.bool p]) (hPT:Blk w b2 #[.bool pt]) :
  Calls prog 286 #[(Value.agg #[.string ⟨l.toArray⟩,.string ⟨l'.toArray⟩]),.pointer (some ⟨b1,0,none⟩),.pointer (some ⟨b2,0,none⟩)] w fun e w'=>e=.returned (.int .i64 (bwE p pt l l' q))/\Below w.heap.size w w':=by
 have hb0:=Zb w (.cells #[.string ⟨l.toArray⟩,.string ⟨l'.toArray⟩] 34);have x0:=YQ.ofB (ZG w (.cells #[.string ⟨l.toArray⟩,.string ⟨l'.toArray⟩] 34));obtain⟨V,hV⟩:∃V,V=bwE p pt l l' q:=⟨_,rfl⟩
 rw[<-hV];unfold bwE at hV;obtain⟨c,hc⟩:∃c,c=Mg q 0:=⟨_,rfl⟩
 obtain⟨c2,hc2⟩:∃c,c=Mg q ((1:Int):Rat):=⟨_,rfl⟩
 have C1:=Lh ((Lf h Ea hc.symm).e);have hone:IsQ (fN ((1:Int):Rat)) (fD ((1:Int):Rat)) ((1:Int):Rat):=UX (k:=2) (Jf (a:=1) (by decide) (by decide)) (by decide)
 have C5:=Lh ((Lf h hone hc2.symm).e);have C4:=Lh ((rOf (l:=[49]) (by decide) (z:=1) (by decide +kernel)).e)
 have C3:=Lh (fun cc hcc=>(ZaP h (c:=cc) hcc).e)
 rw[<-hc,<-hc2] at hV;clear hc hc2 hone;have D1:=Lh (I4 l);have D2:=Lh (I4 l');have HVV:=Lh hV;generalize dgN l=d1 at *;generalize dgN l'=d2 at *;clear hV;have q0:=x0.c0;have q1:=x0.c1;go_enter func286,ntmps286;go_wp2_with fail
 refine (C1.out.of hG hb0).mono ?_
 rintro e w1 ⟨rfl,hb1⟩;have x1:=x0.below hb1;replace hb1:=bto hb0 hb1;clear x0 q0 q1 hb0 C1;have q0:=x1.c0;have q1:=x1.c1
 by_cases hcn:l=fN q/\l'=fD q
 rotate_left
 ·have C2:=Lh (C3.out 1 (if_neg hcn));have HV:Hid ((1:Int)=V):=by show _=_;rw[HVV.out,if_pos hcn]
  clear hcn;go_wp2_with fail
  refine (C2.out.of hG hb1).mono ?_
  rintro e w2 ⟨rfl,hb2⟩;replace hb2:=bto hb1 hb2;go_wp2;go_ret;exact⟨ZU HV.out,hb2⟩
 have C2:=Lh (C3.out 0 (if_pos hcn));have HVV:Hid (V=_):=HVV.out.trans (if_neg (fun h=>h hcn))
 clear hcn C3;go_wp2_with fail
 refine (C2.out.of hG hb1).mono ?_
 rintro e w2 ⟨rfl,hb2⟩;have x2:=x1.below hb2;replace hb2:=bto hb1 hb2;clear x1 q0 q1 hb1 C2;have q0:=x2.c0;go_wp2_with fail
 refine (D1.out.of hG hb2).mono ?_
 rintro e w3 ⟨rfl,hb3⟩;have x3:=x2.below hb3;replace hb3:=bto hb2 hb3;clear x2 q0 hb2 D1
 by_cases g1:40<d1
 ·have e1:decide (40<d1)=true:=Dt g1;have HV:Hid ((4:Int)=V):=by show _=_;rw[HVV.out,if_pos g1]
  go_wp2;go_ret;exact⟨ZU HV.out,hb3⟩
 have e1:decide (40<d1)=false:=Df g1;have HVV:Hid (V=_):=HVV.out.trans (if_neg g1);have q1:=x3.c1;go_wp2_with fail
 refine (D2.out.of hG hb3).mono ?_
 rintro e w5 ⟨rfl,hb5⟩;have x5:=x3.below hb5;replace hb5:=bto hb3 hb5;clear x3 q1 hb3 D2
 by_cases g2:40<d2
 ·have e2:decide (40<d2)=true:=Dt g2;have HV:Hid ((4:Int)=V):=by show _=_;rw[HVV.out,if_pos g2]
  go_wp2;go_ret;exact⟨ZU HV.out,hb5⟩
 have e2:decide (40<d2)=false:=Df g2;have HVV:Hid (V=_):=HVV.out.trans (if_neg g2);have HP:=Lh (hP.below hb5);have HPT:=Lh (hPT.below hb5);go_wp2_with fail;clear g1 g2 e1 e2 hP hPT;refine Zm (by kernel_rfl) (by kernel_rfl) ?_
 by_cases s1:c<0
 ·have e1:decide (c<0)=true:=Dt s1;refine KeV ?_;simp only[Act.put,StT,StZ,StS,Nat.reduceAdd];refine KeV (v:=.bool true) ?_;simp only[Act.put,StT,StZ,StS,Nat.reduceAdd];refine KeV ?_
  iterate 5
   simp only[Act.put,StT,StZ,StS,Nat.reduceAdd];refine Yn (fun _=>rfl) ?_
  iterate 2
   simp only[Act.put,StT,StZ,StS,Nat.reduceAdd];refine KeV ?_
  iterate 7
   simp only[Act.put,StT,StZ,StS,Nat.reduceAdd];refine Yn (fun _=>rfl) ?_
  iterate 2
   simp only[Act.put,StT,StZ,StS,Nat.reduceAdd];refine KeV ?_
  simp only[Act.put,StT,StZ,StS,Nat.reduceAdd];refine ZC (fun ρ w9 hF=>?_)
  have hb9:=bto hb5 hF.below;have HV:Hid ((2:Int)=V):=by show _=_;rw[HVV.out,if_pos s1]
  clear hF;go_wp2;go_ret;exact⟨ZU HV.out,hb9⟩
 have e1:decide (c<0)=false:=Df s1;have HVV:Hid (V=_):=HVV.out.trans (if_neg s1);cases p with
 | false=>
  have HVV:Hid (V=_):=HVV.out.trans (if_neg (fun h=>by cases h.1))
  cases pt with
  | false=>
   refine KeV ?_;simp only[Act.put,StT,StZ,StS,Nat.reduceAdd];refine KeV (v:=.bool false) ?_;simp only[Act.put,StT,StZ,StS,Nat.reduceAdd];refine KeV ?_;simp only[Act.put,StT,StZ,StS,Nat.reduceAdd];refine Zw (.bool false) (fun _=>rfl) (fun ρ w hw=>by have q0:=(HP.out.below hw).c 0;go_simp;try rfl) ?_
   simp only[Act.put,StT,StZ,StS,Nat.reduceAdd];refine KeV (v:=.bool false) ?_
   iterate 2
    simp only[Act.put,StT,StZ,StS,Nat.reduceAdd];refine Yn (fun _=>rfl) ?_
   iterate 3
    simp only[Act.put,StT,StZ,StS,Nat.reduceAdd];refine KeV ?_
   simp only[Act.put,StT,StZ,StS,Nat.reduceAdd];refine Zw (.bool false) (fun _=>rfl) (fun ρ w hw=>by have q0:=(HPT.out.below hw).c 0;go_simp;try rfl) ?_
   simp only[Act.put,StT,StZ,StS,Nat.reduceAdd];refine KeV (v:=.bool false) ?_
   iterate 4
    simp only[Act.put,StT,StZ,StS,Nat.reduceAdd];refine Yn (fun _=>rfl) ?_
   iterate 3
    simp only[Act.put,StT,StZ,StS,Nat.reduceAdd];refine KeV ?_
   simp only[Act.put,StT,StZ,StS,Nat.reduceAdd];refine ZC (fun ρ w9 hF=>?_)
   have hb9:=bto hb5 hF.below;have HV:Hid ((0:Int)=V):=by show _=_;rw[HVV.out,if_neg (fun h=>by cases h.1)]
   clear hF;go_wp2;go_ret;exact⟨ZU HV.out,hb9⟩
  | true=>
   by_cases s3:0<c2
   ·have e3:decide (0<c2)=true:=Dt s3;refine KeV ?_;simp only[Act.put,StT,StZ,StS,Nat.reduceAdd];refine KeV (v:=.bool false) ?_;simp only[Act.put,StT,StZ,StS,Nat.reduceAdd];refine KeV ?_;simp only[Act.put,StT,StZ,StS,Nat.reduceAdd];refine Zw (.bool false) (fun _=>rfl) (fun ρ w hw=>by have q0:=(HP.out.below hw).c 0;go_simp;try rfl) ?_
    simp only[Act.put,StT,StZ,StS,Nat.reduceAdd];refine KeV (v:=.bool false) ?_
    iterate 2
     simp only[Act.put,StT,StZ,StS,Nat.reduceAdd];refine Yn (fun _=>rfl) ?_
    iterate 3
     simp only[Act.put,StT,StZ,StS,Nat.reduceAdd];refine KeV ?_
    simp only[Act.put,StT,StZ,StS,Nat.reduceAdd];refine Zw (.bool true) (fun _=>rfl) (fun ρ w hw=>by have q0:=(HPT.out.below hw).c 0;go_simp;try rfl) ?_
    simp only[Act.put,StT,StZ,StS,Nat.reduceAdd];refine KeV (v:=.bool true) ?_;simp only[Act.put,StT,StZ,StS,Nat.reduceAdd];refine KeW (fun ρ w hw=>by have q0:=(x5.below hw).c0;have q1:=(x5.below hw).c1;go_simp;try rfl) ?_
    simp only[Act.put,StT,StZ,StS,Nat.reduceAdd];refine KeC (fun w hw=>C4.out.of hG (bto hb5 hw)) ?_
    simp only[Act.put,StT,StZ,StS,Nat.reduceAdd];refine KeC (fun w hw=>C5.out.of hG (bto hb5 hw)) ?_
    simp only[Act.put,StT,StZ,StS,Nat.reduceAdd];refine KeV (v:=.bool true) ?_
    iterate 3
     simp only[Act.put,StT,StZ,StS,Nat.reduceAdd];refine KeV ?_
    simp only[Act.put,StT,StZ,StS,Nat.reduceAdd];refine ZC (fun ρ w9 hF=>?_)
    have hb9:=bto hb5 hF.below;have HV:Hid ((2:Int)=V):=by show _=_;rw[HVV.out,if_pos ⟨rfl,s3⟩]
    clear hF;go_wp2;go_ret;exact⟨ZU HV.out,hb9⟩
   have e3:decide (0<c2)=false:=Df s3;refine KeV ?_;simp only[Act.put,StT,StZ,StS,Nat.reduceAdd];refine KeV (v:=.bool false) ?_;simp only[Act.put,StT,StZ,StS,Nat.reduceAdd];refine KeV ?_;simp only[Act.put,StT,StZ,StS,Nat.reduceAdd];refine Zw (.bool false) (fun _=>rfl) (fun ρ w hw=>by have q0:=(HP.out.below hw).c 0;go_simp;try rfl) ?_
   simp only[Act.put,StT,StZ,StS,Nat.reduceAdd];refine KeV (v:=.bool false) ?_
   iterate 2
    simp only[Act.put,StT,StZ,StS,Nat.reduceAdd];refine Yn (fun _=>rfl) ?_
   iterate 3
    simp only[Act.put,StT,StZ,StS,Nat.reduceAdd];refine KeV ?_
   simp only[Act.put,StT,StZ,StS,Nat.reduceAdd];refine Zw (.bool true) (fun _=>rfl) (fun ρ w hw=>by have q0:=(HPT.out.below hw).c 0;go_simp;try rfl) ?_
   simp only[Act.put,StT,StZ,StS,Nat.reduceAdd];refine KeV (v:=.bool true) ?_;simp only[Act.put,StT,StZ,StS,Nat.reduceAdd];refine KeW (fun ρ w hw=>by have q0:=(x5.below hw).c0;have q1:=(x5.below hw).c1;go_simp;try rfl) ?_
   simp only[Act.put,StT,StZ,StS,Nat.reduceAdd];refine KeC (fun w hw=>C4.out.of hG (bto hb5 hw)) ?_
   simp only[Act.put,StT,StZ,StS,Nat.reduceAdd];refine KeC (fun w hw=>C5.out.of hG (bto hb5 hw)) ?_
   simp only[Act.put,StT,StZ,StS,Nat.reduceAdd];refine KeV (v:=.bool false) ?_
   iterate 3
    simp only[Act.put,StT,StZ,StS,Nat.reduceAdd];refine KeV ?_
   simp only[Act.put,StT,StZ,StS,Nat.reduceAdd];refine ZC (fun ρ w9 hF=>?_)
   have hb9:=bto hb5 hF.below;have HV:Hid ((0:Int)=V):=by show _=_;rw[HVV.out,if_neg (fun h=>s3 h.2)]
   clear hF;go_wp2;go_ret;exact⟨ZU HV.out,hb9⟩
 | true=>
  by_cases s2:c=0
  ·have e2:(c==0)=true:=by rw[beq_iff_eq];exact s2
   refine KeV ?_;simp only[Act.put,StT,StZ,StS,Nat.reduceAdd];refine KeV (v:=.bool false) ?_;simp only[Act.put,StT,StZ,StS,Nat.reduceAdd];refine KeV ?_;simp only[Act.put,StT,StZ,StS,Nat.reduceAdd];refine Zw (.bool true) (fun _=>rfl) (fun ρ w hw=>by have q0:=(HP.out.below hw).c 0;go_simp;try rfl) ?_
   iterate 2
    simp only[Act.put,StT,StZ,StS,Nat.reduceAdd];refine KeV (v:=.bool true) ?_;simp only[Act.put,StT,StZ,StS,Nat.reduceAdd];refine KeV ?_
   iterate 2
    simp only[Act.put,StT,StZ,StS,Nat.reduceAdd];refine KeV ?_
   iterate 7
    simp only[Act.put,StT,StZ,StS,Nat.reduceAdd];refine Yn (fun _=>rfl) ?_
   iterate 2
    simp only[Act.put,StT,StZ,StS,Nat.reduceAdd];refine KeV ?_
   simp only[Act.put,StT,StZ,StS,Nat.reduceAdd];refine ZC (fun ρ w9 hF=>?_)
   have hb9:=bto hb5 hF.below;have HV:Hid ((2:Int)=V):=by show _=_;rw[HVV.out,if_pos ⟨rfl,s2⟩]
   clear hF;go_wp2;go_ret;exact⟨ZU HV.out,hb9⟩
  have e2:(c==0)=false:=by rw[Bn];exact s2
  have HVV:Hid (V=_):=HVV.out.trans (if_neg (fun h=>s2 h.2))
  cases pt with
  | false=>
   refine KeV ?_;simp only[Act.put,StT,StZ,StS,Nat.reduceAdd];refine KeV (v:=.bool false) ?_;simp only[Act.put,StT,StZ,StS,Nat.reduceAdd];refine KeV ?_;simp only[Act.put,StT,StZ,StS,Nat.reduceAdd];refine Zw (.bool true) (fun _=>rfl) (fun ρ w hw=>by have q0:=(HP.out.below hw).c 0;go_simp;try rfl) ?_
   simp only[Act.put,StT,StZ,StS,Nat.reduceAdd];refine KeV (v:=.bool true) ?_;simp only[Act.put,StT,StZ,StS,Nat.reduceAdd];refine KeV ?_;simp only[Act.put,StT,StZ,StS,Nat.reduceAdd];refine KeV (v:=.bool false) ?_
   iterate 3
    simp only[Act.put,StT,StZ,StS,Nat.reduceAdd];refine KeV ?_
   simp only[Act.put,StT,StZ,StS,Nat.reduceAdd];refine Zw (.bool false) (fun _=>rfl) (fun ρ w hw=>by have q0:=(HPT.out.below hw).c 0;go_simp;try rfl) ?_
   simp only[Act.put,StT,StZ,StS,Nat.reduceAdd];refine KeV (v:=.bool false) ?_
   iterate 4
    simp only[Act.put,StT,StZ,StS,Nat.reduceAdd];refine Yn (fun _=>rfl) ?_
   iterate 3
    simp only[Act.put,StT,StZ,StS,Nat.reduceAdd];refine KeV ?_
   simp only[Act.put,StT,StZ,StS,Nat.reduceAdd];refine ZC (fun ρ w9 hF=>?_)
   have hb9:=bto hb5 hF.below;have HV:Hid ((0:Int)=V):=by show _=_;rw[HVV.out,if_neg (fun h=>by cases h.1)]
   clear hF;go_wp2;go_ret;exact⟨ZU HV.out,hb9⟩
  | true=>
   by_cases s3:0<c2
   ·have e3:decide (0<c2)=true:=Dt s3;refine KeV ?_;simp only[Act.put,StT,StZ,StS,Nat.reduceAdd];refine KeV (v:=.bool false) ?_;simp only[Act.put,StT,StZ,StS,Nat.reduceAdd];refine KeV ?_;simp only[Act.put,StT,StZ,StS,Nat.reduceAdd];refine Zw (.bool true) (fun _=>rfl) (fun ρ w hw=>by have q0:=(HP.out.below hw).c 0;go_simp;try rfl) ?_
    simp only[Act.put,StT,StZ,StS,Nat.reduceAdd];refine KeV (v:=.bool true) ?_;simp only[Act.put,StT,StZ,StS,Nat.reduceAdd];refine KeV ?_;simp only[Act.put,StT,StZ,StS,Nat.reduceAdd];refine KeV (v:=.bool false) ?_
    iterate 3
     simp only[Act.put,StT,StZ,StS,Nat.reduceAdd];refine KeV ?_
    simp only[Act.put,StT,StZ,StS,Nat.reduceAdd];refine Zw (.bool true) (fun _=>rfl) (fun ρ w hw=>by have q0:=(HPT.out.below hw).c 0;go_simp;try rfl) ?_
    simp only[Act.put,StT,StZ,StS,Nat.reduceAdd];refine KeV (v:=.bool true) ?_;simp only[Act.put,StT,StZ,StS,Nat.reduceAdd];refine KeW (fun ρ w hw=>by have q0:=(x5.below hw).c0;have q1:=(x5.below hw).c1;go_simp;try rfl) ?_
    simp only[Act.put,StT,StZ,StS,Nat.reduceAdd];refine KeC (fun w hw=>C4.out.of hG (bto hb5 hw)) ?_
    simp only[Act.put,StT,StZ,StS,Nat.reduceAdd];refine KeC (fun w hw=>C5.out.of hG (bto hb5 hw)) ?_
    simp only[Act.put,StT,StZ,StS,Nat.reduceAdd];refine KeV (v:=.bool true) ?_
    iterate 3
     simp only[Act.put,StT,StZ,StS,Nat.reduceAdd];refine KeV ?_
    simp only[Act.put,StT,StZ,StS,Nat.reduceAdd];refine ZC (fun ρ w9 hF=>?_)
    have hb9:=bto hb5 hF.below;have HV:Hid ((2:Int)=V):=by show _=_;rw[HVV.out,if_pos ⟨rfl,s3⟩]
    clear hF;go_wp2;go_ret;exact⟨ZU HV.out,hb9⟩
   have e3:decide (0<c2)=false:=Df s3;refine KeV ?_;simp only[Act.put,StT,StZ,StS,Nat.reduceAdd];refine KeV (v:=.bool false) ?_;simp only[Act.put,StT,StZ,StS,Nat.reduceAdd];refine KeV ?_;simp only[Act.put,StT,StZ,StS,Nat.reduceAdd];refine Zw (.bool true) (fun _=>rfl) (fun ρ w hw=>by have q0:=(HP.out.below hw).c 0;go_simp;try rfl) ?_
   simp only[Act.put,StT,StZ,StS,Nat.reduceAdd];refine KeV (v:=.bool true) ?_;simp only[Act.put,StT,StZ,StS,Nat.reduceAdd];refine KeV ?_;simp only[Act.put,StT,StZ,StS,Nat.reduceAdd];refine KeV (v:=.bool false) ?_
   iterate 3
    simp only[Act.put,StT,StZ,StS,Nat.reduceAdd];refine KeV ?_
   simp only[Act.put,StT,StZ,StS,Nat.reduceAdd];refine Zw (.bool true) (fun _=>rfl) (fun ρ w hw=>by have q0:=(HPT.out.below hw).c 0;go_simp;try rfl) ?_
   simp only[Act.put,StT,StZ,StS,Nat.reduceAdd];refine KeV (v:=.bool true) ?_;simp only[Act.put,StT,StZ,StS,Nat.reduceAdd];refine KeW (fun ρ w hw=>by have q0:=(x5.below hw).c0;have q1:=(x5.below hw).c1;go_simp;try rfl) ?_
   simp only[Act.put,StT,StZ,StS,Nat.reduceAdd];refine KeC (fun w hw=>C4.out.of hG (bto hb5 hw)) ?_
   simp only[Act.put,StT,StZ,StS,Nat.reduceAdd];refine KeC (fun w hw=>C5.out.of hG (bto hb5 hw)) ?_
   simp only[Act.put,StT,StZ,StS,Nat.reduceAdd];refine KeV (v:=.bool false) ?_
   iterate 3
    simp only[Act.put,StT,StZ,StS,Nat.reduceAdd];refine KeV ?_
   simp only[Act.put,StT,StZ,StS,Nat.reduceAdd];refine ZC (fun ρ w9 hF=>?_)
   have hb9:=bto hb5 hF.below;have HV:Hid ((0:Int)=V):=by show _=_;rw[HVV.out,if_neg (fun h=>s3 h.2)]
   clear hF;go_wp2;go_ret;exact⟨ZU HV.out,hb9⟩
theorem I6 {l:List UInt8} (hl:l.length<=1000000) (w:World):Calls prog 234 #[.string ⟨l.toArray⟩] w fun e w'=>(∃b,e=.returned (.bool b))/\Below w.heap.size w w':=by
 have C1:=Lh (Tryz.strings_Trim ⟨l.toArray⟩ ⟨#[65,66,67,68,69,70,71,72,73,74,75,76,77,78,79,80,81,82,83,84,85,86,87,88,89,90]⟩ w (by show l.toArray.size<=_;simp;omega) (by decide) (ascii_of_all (by decide)))
 generalize Lib.trimS _ _=t at *
 by_cases g1:(l.length:Int)=3
 ·have e1:((l.length:Int)==3)=true:=by rw[beq_iff_eq];exact g1
  clear g1;go_enter func234,ntmps234;go_wp2_with fail
  refine C1.out.mono ?_
  rintro e w1 ⟨rfl,hb1⟩;go_wp2;go_ret;exact⟨⟨_,rfl⟩,hb1⟩
 ·have e1:((l.length:Int)==3)=false:=by rw[Bn];exact g1
  clear g1;go_enter func234,ntmps234;go_wp2;go_ret;exact⟨⟨_,rfl⟩,Below.refl _ _⟩
def nmE (l:List UInt8):Int:=if YL l=true then 0 else 23
theorem Mz {l:List UInt8} (hl:l.length<=1000000):Vt 233 #[.string ⟨l.toArray⟩] (.int .i64 (nmE l)):=fun w hG=>by
 have C1:=Lh ((P4 hl).e);have HV:Hid (nmE l=if YL l=true then 0 else 23):=rfl
 generalize nmE l=z at *;generalize YL l=b at *;go_enter func233,ntmps233;go_wp2_with fail
 refine (C1.out.of hG (Below.refl _ _)).mono ?_
 rintro e w1 ⟨rfl,hb1⟩;cases b with
 | true=>
  go_wp2;go_ret;exact⟨ZU (by rw[HV.out];rfl),hb1⟩
 | false=>
  go_wp2;go_ret;exact⟨ZU (by rw[HV.out];rfl),hb1⟩
structure Fct where
 key:List UInt8
 ins:List UInt8
 oth:List UInt8
 cur:List UInt8
 tgt:List UInt8
 q:List UInt8
 amt:List UInt8
 fee:List UInt8
 pn:List UInt8
 pd:List UInt8
 rn:List UInt8
 rd:List UInt8
 sn:List UInt8
 sd:List UInt8
 stamp:Int
 day:Int
 kind:Int
 choice:Int
 canc:Bool
 pA:Option Addr
 pN:Nat
 pC:Nat
 oA:Option Addr
 oN:Nat
 oC:Nat
def Zi (f:Fct):Array Value:=#[.string ⟨f.key.toArray⟩,.int .i64 f.stamp,.bool f.canc,.int .i64 f.day,.int .i64 f.kind,.string ⟨f.ins.toArray⟩,.string ⟨f.oth.toArray⟩,.string ⟨f.cur.toArray⟩,.string ⟨f.tgt.toArray⟩,.string ⟨f.q.toArray⟩,.string ⟨f.amt.toArray⟩,.string ⟨f.fee.toArray⟩,.string ⟨f.pn.toArray⟩,.string ⟨f.pd.toArray⟩,.string ⟨f.rn.toArray⟩,.string ⟨f.rd.toArray⟩,.string ⟨f.sn.toArray⟩,.string ⟨f.sd.toArray⟩,.slice f.pA f.pN f.pC,.slice f.oA f.oN f.oC,.int .i64 f.choice]
structure OG (f:Fct):Prop where
 key:f.key.length<=1000
 ins:f.ins.length<=1000
 oth:f.oth.length<=1000
 cur:f.cur.length<=1000
 tgt:f.tgt.length<=1000
 q:f.q.length<=1000
 amt:f.amt.length<=1000
 fee:f.fee.length<=1000
 pn:f.pn.length<=1000
 pd:f.pd.length<=1000
 rn:f.rn.length<=1000
 rd:f.rd.length<=1000
 sn:f.sn.length<=1000
 sd:f.sd.length<=1000
def LI (f:Fct):Nat->Option (List UInt8×List UInt8)
 | 4=>some (f.q,[])
 | 5=>some (f.amt,[])
 | 6=>some (f.fee,[])
 | 7=>some (f.pn,f.pd)
 | 8=>some (f.rn,f.rd)
 | 9=>some (f.sn,f.sd)
 | _=>none
theorem Zs:(prog.info? 48).map (·.size)=some 21:=by kernel_rfl
theorem Wv {P:Program} {e:Operand->Value} {o:Oper} {w:World} (ty:TypeId) (x:Operand) (ho:o.op=.load ty x) (b:Nat) (hx:e x=.pointer (some ⟨b,0,none⟩)) (cs:Array Value) {d:TypeDesc} (hc:Blk w b cs)
  (hu:P.underlying ty=some d) (hd:d.isRow=true) (hi:(P.info? ty).map (·.size)=some cs.size):(execOp e o).run P w=.ok (.value (.agg cs)) w:=by
 obtain⟨t,h⟩:=hc
 have:=ZH (P:=P) (e:=e) (w:=w) ty x ho b 0 hx cs.toList d (Z9 h) hu hd (by simpa using hi)
 simpa using this
theorem Zj {P:Program} {ops:Array Oper} {rest:List Oper} {op:Oper} {a:Act} {w:World} {Q:Exit->Act->World->Prop} (hgd:op.guard=none) (ty:TypeId) (x:Operand) (ho:op.op=.load ty x)
  (b:Nat) (hx:a.eval x=.pointer (some ⟨b,0,none⟩)) (cs:Array Value) {d:TypeDesc} (hc:Blk w b cs)
  (hu:P.underlying ty=some d) (hd:d.isRow=true) (hi:(P.info? ty).map (·.size)=some cs.size)
  (h:wpList P ops Q rest (a.put op.dst (.agg cs)) w):wpList P ops Q (op::rest) a w:=
 wpList_plain hgd fun _ hK=>by
  unfold Oper.wp;rw[Wv (P:=P) (e:=a.eval) ty x ho b hx cs hc hu hd hi];exact hK _ _ h
theorem As {f:Fct} (hs:OG f) {k:Nat} {l l':List UInt8} (h:LI f k=some (l,l')):l.length<=1000/\l'.length<=1000:=by
 unfold LI at h
 split at h<;>first|(cases h;first|exact⟨hs.q,by decide⟩|exact⟨hs.amt,by decide⟩|exact⟨hs.fee,by decide⟩|exact⟨hs.pn,hs.pd⟩|exact⟨hs.rn,hs.rd⟩|exact⟨hs.sn,hs.sd⟩)|cases h
theorem Dk (f:Fct) (w:World):(Instr.index 365 (.agg #[.string ⟨#[]⟩,.string ⟨#[]⟩,.string ⟨#[]⟩,.string ⟨#[]⟩,.string ⟨#[]⟩,.string ⟨#[]⟩,.string ⟨#[]⟩,.string ⟨#[]⟩,.string ⟨f.q.toArray⟩,.string ⟨#[]⟩,.string ⟨f.amt.toArray⟩,.string ⟨#[]⟩,.string ⟨f.fee.toArray⟩,.string ⟨#[]⟩,.string ⟨f.pn.toArray⟩,.string ⟨f.pd.toArray⟩,.string ⟨f.rn.toArray⟩,.string ⟨f.rd.toArray⟩,.string ⟨f.sn.toArray⟩,.string ⟨f.sd.toArray⟩,.string ⟨#[]⟩,.string ⟨#[]⟩,.string ⟨#[]⟩,.string ⟨#[]⟩,.string ⟨#[]⟩,.string ⟨#[]⟩]) (.int .i64 4)).run prog w=.ok (.agg #[.string ⟨f.q.toArray⟩,.string ⟨#[]⟩]) w:=by kernel_rfl
theorem Dl (f:Fct) (w:World):(Instr.index 365 (.agg #[.string ⟨#[]⟩,.string ⟨#[]⟩,.string ⟨#[]⟩,.string ⟨#[]⟩,.string ⟨#[]⟩,.string ⟨#[]⟩,.string ⟨#[]⟩,.string ⟨#[]⟩,.string ⟨f.q.toArray⟩,.string ⟨#[]⟩,.string ⟨f.amt.toArray⟩,.string ⟨#[]⟩,.string ⟨f.fee.toArray⟩,.string ⟨#[]⟩,.string ⟨f.pn.toArray⟩,.string ⟨f.pd.toArray⟩,.string ⟨f.rn.toArray⟩,.string ⟨f.rd.toArray⟩,.string ⟨f.sn.toArray⟩,.string ⟨f.sd.toArray⟩,.string ⟨#[]⟩,.string ⟨#[]⟩,.string ⟨#[]⟩,.string ⟨#[]⟩,.string ⟨#[]⟩,.string ⟨#[]⟩]) (.int .i64 5)).run prog w=.ok (.agg #[.string ⟨f.amt.toArray⟩,.string ⟨#[]⟩]) w:=by kernel_rfl
theorem Dm (f:Fct) (w:World):(Instr.index 365 (.agg #[.string ⟨#[]⟩,.string ⟨#[]⟩,.string ⟨#[]⟩,.string ⟨#[]⟩,.string ⟨#[]⟩,.string ⟨#[]⟩,.string ⟨#[]⟩,.string ⟨#[]⟩,.string ⟨f.q.toArray⟩,.string ⟨#[]⟩,.string ⟨f.amt.toArray⟩,.string ⟨#[]⟩,.string ⟨f.fee.toArray⟩,.string ⟨#[]⟩,.string ⟨f.pn.toArray⟩,.string ⟨f.pd.toArray⟩,.string ⟨f.rn.toArray⟩,.string ⟨f.rd.toArray⟩,.string ⟨f.sn.toArray⟩,.string ⟨f.sd.toArray⟩,.string ⟨#[]⟩,.string ⟨#[]⟩,.string ⟨#[]⟩,.string ⟨#[]⟩,.string ⟨#[]⟩,.string ⟨#[]⟩]) (.int .i64 6)).run prog w=.ok (.agg #[.string ⟨f.fee.toArray⟩,.string ⟨#[]⟩]) w:=by kernel_rfl
theorem Dn (f:Fct) (w:World):(Instr.index 365 (.agg #[.string ⟨#[]⟩,.string ⟨#[]⟩,.string ⟨#[]⟩,.string ⟨#[]⟩,.string ⟨#[]⟩,.string ⟨#[]⟩,.string ⟨#[]⟩,.string ⟨#[]⟩,.string ⟨f.q.toArray⟩,.string ⟨#[]⟩,.string ⟨f.amt.toArray⟩,.string ⟨#[]⟩,.string ⟨f.fee.toArray⟩,.string ⟨#[]⟩,.string ⟨f.pn.toArray⟩,.string ⟨f.pd.toArray⟩,.string ⟨f.rn.toArray⟩,.string ⟨f.rd.toArray⟩,.string ⟨f.sn.toArray⟩,.string ⟨f.sd.toArray⟩,.string ⟨#[]⟩,.string ⟨#[]⟩,.string ⟨#[]⟩,.string ⟨#[]⟩,.string ⟨#[]⟩,.string ⟨#[]⟩]) (.int .i64 7)).run prog w=.ok (.agg #[.string ⟨f.pn.toArray⟩,.string ⟨f.pd.toArray⟩]) w:=by kernel_rfl
theorem Do (f:Fct) (w:World):(Instr.index 365 (.agg #[.string ⟨#[]⟩,.string ⟨#[]⟩,.string ⟨#[]⟩,.string ⟨#[]⟩,.string ⟨#[]⟩,.string ⟨#[]⟩,.string ⟨#[]⟩,.string ⟨#[]⟩,.string ⟨f.q.toArray⟩,.string ⟨#[]⟩,.string ⟨f.amt.toArray⟩,.string ⟨#[]⟩,.string ⟨f.fee.toArray⟩,.string ⟨#[]⟩,.string ⟨f.pn.toArray⟩,.string ⟨f.pd.toArray⟩,.string ⟨f.rn.toArray⟩,.string ⟨f.rd.toArray⟩,.string ⟨f.sn.toArray⟩,.string ⟨f.sd.toArray⟩,.string ⟨#[]⟩,.string ⟨#[]⟩,.string ⟨#[]⟩,.string ⟨#[]⟩,.string ⟨#[]⟩,.string ⟨#[]⟩]) (.int .i64 8)).run prog w=.ok (.agg #[.string ⟨f.rn.toArray⟩,.string ⟨f.rd.toArray⟩]) w:=by kernel_rfl
theorem Dq (f:Fct) (w:World):(Instr.index 365 (.agg #[.string ⟨#[]⟩,.string ⟨#[]⟩,.string ⟨#[]⟩,.string ⟨#[]⟩,.string ⟨#[]⟩,.string ⟨#[]⟩,.string ⟨#[]⟩,.string ⟨#[]⟩,.string ⟨f.q.toArray⟩,.string ⟨#[]⟩,.string ⟨f.amt.toArray⟩,.string ⟨#[]⟩,.string ⟨f.fee.toArray⟩,.string ⟨#[]⟩,.string ⟨f.pn.toArray⟩,.string ⟨f.pd.toArray⟩,.string ⟨f.rn.toArray⟩,.string ⟨f.rd.toArray⟩,.string ⟨f.sn.toArray⟩,.string ⟨f.sd.toArray⟩,.string ⟨#[]⟩,.string ⟨#[]⟩,.string ⟨#[]⟩,.string ⟨#[]⟩,.string ⟨#[]⟩,.string ⟨#[]⟩]) (.int .i64 9)).run prog w=.ok (.agg #[.string ⟨f.sn.toArray⟩,.string ⟨f.sd.toArray⟩]) w:=by kernel_rfl
theorem Dr {f:Fct} {k:Nat} {l l':List UInt8} (hk:LI f k=some (l,l')):Vt 237 #[.agg (Zi f),.int .i64 (k:Int)] (.agg #[.string ⟨l.toArray⟩,.string ⟨l'.toArray⟩]):=fun w hG=>by
 have hb1:=Zb w (.cells (Zi f) 48);have x0:Blk (w.alloc (.cells (Zi f) 48)) w.heap.size (Zi f):=Blk.new w _ 48;obtain⟨w0,hw0⟩:∃w0,w0=w.alloc (.cells (Zi f) 48):=⟨_,rfl⟩
 have hsz0:w.heap.size+1=w0.heap.size:=by rw[hw0];exact (World.size_alloc _ _).symm
 rw[<-hw0] at hb1 x0;have hbz:=Zb w0 (.cells #[.string ⟨#[]⟩,.string ⟨#[]⟩] 34);have hbx:=heap_alloc_new w0 (.cells #[.string ⟨#[]⟩,.string ⟨#[]⟩] 34);have X:=Lh x0;have HW0:=Lh hw0;have HZ:Hid ((prog.info? 34).map (·.size)=some 2):=OF
 have C1:=Lh (My f.q);have C2:=Lh (My f.amt);have C3:=Lh (My f.fee);clear hw0 x0;unfold LI at hk
 split at hk<;>cases hk
 all_goals
  go_enter func237,ntmps237;go_wp2_with fail;rw[<-HW0.out]
  (try rw[hsz0])
  refine SE 20 w0.heap.size 4 _ (by kernel_rfl) (by kernel_rfl) (by decide) hbz (Nl _) hbx rfl ?_
  simp only[Act.put,List.setIfInBounds_toArray,List.set_cons_zero,List.set_cons_succ];clear hbx hsz0;refine KeV ?_;simp only[Act.put,StT,StZ,StS,Nat.reduceAdd];refine KeW (fun ρ wz hw=>by have q0:wz.cell? ⟨w.heap.size,9,none⟩=some (.string ⟨f.q.toArray⟩):=(X.out.below hw).c 9;go_simp;try rfl) ?_
  simp only[Act.put,StT,StZ,StS,Nat.reduceAdd];refine KeC (fun w hw=>C1.out.of hG (bto hb1 hw)) ?_
  simp only[Act.put,StT,StZ,StS,Nat.reduceAdd];refine KeV ?_;simp only[Act.put,StT,StZ,StS,Nat.reduceAdd];refine KeW (fun ρ wz hw=>by have q0:wz.cell? ⟨w.heap.size,10,none⟩=some (.string ⟨f.amt.toArray⟩):=(X.out.below hw).c 10;go_simp;try rfl) ?_
  simp only[Act.put,StT,StZ,StS,Nat.reduceAdd];refine KeC (fun w hw=>C2.out.of hG (bto hb1 hw)) ?_
  simp only[Act.put,StT,StZ,StS,Nat.reduceAdd];refine KeV ?_;simp only[Act.put,StT,StZ,StS,Nat.reduceAdd];refine KeW (fun ρ wz hw=>by have q0:wz.cell? ⟨w.heap.size,11,none⟩=some (.string ⟨f.fee.toArray⟩):=(X.out.below hw).c 11;go_simp;try rfl) ?_
  simp only[Act.put,StT,StZ,StS,Nat.reduceAdd];refine KeC (fun w hw=>C3.out.of hG (bto hb1 hw)) ?_
  simp only[Act.put,StT,StZ,StS,Nat.reduceAdd];refine KeV ?_;simp only[Act.put,StT,StZ,StS,Nat.reduceAdd];refine KeW (fun ρ wz hw=>by have q0:wz.cell? ⟨w.heap.size,12,none⟩=some (.string ⟨f.pn.toArray⟩):=(X.out.below hw).c 12;have q1:wz.cell? ⟨w.heap.size,13,none⟩=some (.string ⟨f.pd.toArray⟩):=(X.out.below hw).c 13;go_simp;try rfl) ?_
  simp only[Act.put,StT,StZ,StS,Nat.reduceAdd];refine KeV ?_;simp only[Act.put,StT,StZ,StS,Nat.reduceAdd];refine KeW (fun ρ wz hw=>by have q0:wz.cell? ⟨w.heap.size,14,none⟩=some (.string ⟨f.rn.toArray⟩):=(X.out.below hw).c 14;have q1:wz.cell? ⟨w.heap.size,15,none⟩=some (.string ⟨f.rd.toArray⟩):=(X.out.below hw).c 15;go_simp;try rfl) ?_
  simp only[Act.put,StT,StZ,StS,Nat.reduceAdd];refine KeV ?_;simp only[Act.put,StT,StZ,StS,Nat.reduceAdd];refine KeW (fun ρ wz hw=>by have q0:wz.cell? ⟨w.heap.size,16,none⟩=some (.string ⟨f.sn.toArray⟩):=(X.out.below hw).c 16;have q1:wz.cell? ⟨w.heap.size,17,none⟩=some (.string ⟨f.sd.toArray⟩):=(X.out.below hw).c 17;go_simp;try rfl) ?_
  iterate 2
   simp only[Act.put,StT,StZ,StS,Nat.reduceAdd];refine KeV ?_
  simp only[Act.put,StT,StZ,StS,Nat.reduceAdd];refine KeW (fun ρ wz hw=>by have q4:=Dk f wz;have q5:=Dl f wz;have q6:=Dm f wz;have q7:=Dn f wz;have q8:=Do f wz;have q9:=Dq f wz;go_simp;try rfl) ?_
  simp only[Act.put,StT,StZ,StS,Nat.reduceAdd];refine Gk 20 _ _ _ _ _ rfl rfl (fun _=>rfl) (fun ρ w hw q0 q1 q2 q3=>by go_simp;try rfl) ?_
  simp only[Act.put,Nat.reduceAdd];refine ZC (fun ρ w3 hF=>?_)
  have hb3:=bto hb1 hF.below;have hR:=(hF.box 20 _ _ rfl).2;generalize ρ 20=b6 at *;clear hF;go_wp2;refine bodyPost_ret (Yr Tryz.f237 4 34 _ rfl rfl (Z9 hR) underlying34 rfl HZ.out) rfl ?_;exact⟨rfl,hb3⟩
def emB (f:Fct):Nat->Bool
 | 0=>f.ins.isEmpty
 | 1=>f.oth.isEmpty
 | 2=>f.cur.isEmpty
 | 3=>f.tgt.isEmpty
 | 4=>f.q.isEmpty
 | 5=>f.amt.isEmpty
 | 6=>f.fee.isEmpty
 | 7=>f.pn.isEmpty&&f.pd.isEmpty
 | 8=>f.rn.isEmpty&&f.rd.isEmpty
 | 9=>f.sn.isEmpty&&f.sd.isEmpty
 | 10=>(f.pN:Int)==0
 | 11=>(f.oN:Int)==0
 | _=>f.choice==0
theorem Za7 (f:Fct) {k:Nat} (hk:k<13):Vt 185 #[.agg (Zi f),.int .i64 (k:Int)] (.bool (emB f k)):=fun w hG=>by
 have hb1:=Zb w (.cells (Zi f) 48);have x0:Blk (w.alloc (.cells (Zi f) 48)) w.heap.size (Zi f):=Blk.new w _ 48;have HV:=Lh (fun (k:Nat) l l' (h:LI f k=some (l,l'))=>Dr h)
 by_cases k0:k=0
 ·subst k0;have q0:(w.alloc (.cells (Zi f) 48)).cell? ⟨w.heap.size,5,none⟩=some (.string ⟨f.ins.toArray⟩):=x0.c 5;go_enter func185,ntmps185;go_wp2;go_ret;exact⟨ZV (by show _=_;rfl),hb1⟩
 by_cases k1:k=1
 ·subst k1;have q0:(w.alloc (.cells (Zi f) 48)).cell? ⟨w.heap.size,6,none⟩=some (.string ⟨f.oth.toArray⟩):=x0.c 6;go_enter func185,ntmps185;go_wp2;go_ret;exact⟨ZV (by show _=_;rfl),hb1⟩
 by_cases k2:k=2
 ·subst k2;have q0:(w.alloc (.cells (Zi f) 48)).cell? ⟨w.heap.size,7,none⟩=some (.string ⟨f.cur.toArray⟩):=x0.c 7;go_enter func185,ntmps185;go_wp2;go_ret;exact⟨ZV (by show _=_;rfl),hb1⟩
 by_cases k3:k=3
 ·subst k3;have q0:(w.alloc (.cells (Zi f) 48)).cell? ⟨w.heap.size,8,none⟩=some (.string ⟨f.tgt.toArray⟩):=x0.c 8;go_enter func185,ntmps185;go_wp2;go_ret;exact⟨ZV (by show _=_;rfl),hb1⟩
 by_cases k4:k=4
 ·subst k4;have C1:Hid (Vt 237 #[.agg (Zi f),.int .i64 4] (.agg #[.string ⟨f.q.toArray⟩,.string ⟨#[]⟩])):=HV.out 4 f.q [] rfl;go_enter func185,ntmps185;go_wp2_with (refine Zj rfl 48 (.tmp 2) rfl w.heap.size rfl (Zi f) x0 underlying48 rfl Zs ?_)
  refine (C1.out.of hG hb1).mono ?_
  rintro e w1 ⟨rfl,hb2⟩;go_wp2
  all_goals (go_ret;refine⟨ZV ?_,bto hb1 hb2⟩;simp[emB, *])
 by_cases k5:k=5
 ·subst k5;have C1:Hid (Vt 237 #[.agg (Zi f),.int .i64 5] (.agg #[.string ⟨f.amt.toArray⟩,.string ⟨#[]⟩])):=HV.out 5 f.amt [] rfl;go_enter func185,ntmps185;go_wp2_with (refine Zj rfl 48 (.tmp 2) rfl w.heap.size rfl (Zi f) x0 underlying48 rfl Zs ?_)
  refine (C1.out.of hG hb1).mono ?_
  rintro e w1 ⟨rfl,hb2⟩;go_wp2
  all_goals (go_ret;refine⟨ZV ?_,bto hb1 hb2⟩;simp[emB, *])
 by_cases k6:k=6
 ·subst k6;have C1:Hid (Vt 237 #[.agg (Zi f),.int .i64 6] (.agg #[.string ⟨f.fee.toArray⟩,.string ⟨#[]⟩])):=HV.out 6 f.fee [] rfl;go_enter func185,ntmps185;go_wp2_with (refine Zj rfl 48 (.tmp 2) rfl w.heap.size rfl (Zi f) x0 underlying48 rfl Zs ?_)
  refine (C1.out.of hG hb1).mono ?_
  rintro e w1 ⟨rfl,hb2⟩;go_wp2
  all_goals (go_ret;refine⟨ZV ?_,bto hb1 hb2⟩;simp[emB, *])
 by_cases k7:k=7
 ·subst k7;have C1:Hid (Vt 237 #[.agg (Zi f),.int .i64 7] (.agg #[.string ⟨f.pn.toArray⟩,.string ⟨f.pd.toArray⟩])):=HV.out 7 f.pn f.pd rfl;go_enter func185,ntmps185;go_wp2_with (refine Zj rfl 48 (.tmp 2) rfl w.heap.size rfl (Zi f) x0 underlying48 rfl Zs ?_)
  refine (C1.out.of hG hb1).mono ?_
  rintro e w1 ⟨rfl,hb2⟩;go_wp2
  all_goals (go_ret;refine⟨ZV ?_,bto hb1 hb2⟩;simp[emB, *])
 by_cases k8:k=8
 ·subst k8;have C1:Hid (Vt 237 #[.agg (Zi f),.int .i64 8] (.agg #[.string ⟨f.rn.toArray⟩,.string ⟨f.rd.toArray⟩])):=HV.out 8 f.rn f.rd rfl;go_enter func185,ntmps185;go_wp2_with (refine Zj rfl 48 (.tmp 2) rfl w.heap.size rfl (Zi f) x0 underlying48 rfl Zs ?_)
  refine (C1.out.of hG hb1).mono ?_
  rintro e w1 ⟨rfl,hb2⟩;go_wp2
  all_goals (go_ret;refine⟨ZV ?_,bto hb1 hb2⟩;simp[emB, *])
 by_cases k9:k=9
 ·subst k9;have C1:Hid (Vt 237 #[.agg (Zi f),.int .i64 9] (.agg #[.string ⟨f.sn.toArray⟩,.string ⟨f.sd.toArray⟩])):=HV.out 9 f.sn f.sd rfl;go_enter func185,ntmps185;go_wp2_with (refine Zj rfl 48 (.tmp 2) rfl w.heap.size rfl (Zi f) x0 underlying48 rfl Zs ?_)
  refine (C1.out.of hG hb1).mono ?_
  rintro e w1 ⟨rfl,hb2⟩;go_wp2
  all_goals (go_ret;refine⟨ZV ?_,bto hb1 hb2⟩;simp[emB, *])
 by_cases k10:k=10
 ·subst k10;have q0:(w.alloc (.cells (Zi f) 48)).cell? ⟨w.heap.size,18,none⟩=some (.slice f.pA f.pN f.pC):=x0.c 18;go_enter func185,ntmps185;go_wp2;go_ret;exact⟨ZV (by show _=_;rfl),hb1⟩
 by_cases k11:k=11
 ·subst k11;have q0:(w.alloc (.cells (Zi f) 48)).cell? ⟨w.heap.size,19,none⟩=some (.slice f.oA f.oN f.oC):=x0.c 19;go_enter func185,ntmps185;go_wp2;go_ret;exact⟨ZV (by show _=_;rfl),hb1⟩
 by_cases k12:k=12
 ·subst k12;have q0:(w.alloc (.cells (Zi f) 48)).cell? ⟨w.heap.size,20,none⟩=some (.int .i64 f.choice):=x0.c 20;go_enter func185,ntmps185;go_wp2;go_ret;exact⟨ZV (by show _=_;rfl),hb1⟩
 omega
abbrev SG:=(Nat->Value)->Act
abbrev BG':=Nat->Option (World->Value->Prop)
inductive Ve where
 | val (v:Value)
 | new (R:World->Value->Prop)
def Ve.at (i:Nat) (ρ:Nat->Value):Ve->Value
 | .val v=>v
 | .new _=>ρ i
def Ve.bx (i:Nat) (B:BG'):Ve->BG'
 | .val _=>B
 | .new R=>fun k=>if k=i then some R else B k
def Ve.pre (i:Nat) (B:BG'):Ve->Prop
 | .val _=>True
 | .new _=>B i=none
def Q9 (ρ:Nat->Value) (i:Nat) (v:Value):Nat->Value:=fun k=>if k=i then v else ρ k
def OH (P:Program) (w:World) (v:Value):Result Next->Prop
 | .ok (.value u) w'=>w'=w/\u=v
 | .ok .skip w'=>w'=w/\v=undef
 | .ok (.enter f args) w'=>w'=w/\Calls P f args w (fun e w''=>e=.returned v/\Below w.heap.size w w'')
 | _=>False
def OI (P:Program) (w:World) (R:World->Value->Prop):Result Next->Prop
 | .ok (.value u) w'=>Below w.heap.size w w'/\R w' u
 | .ok (.enter f args) w'=>w'=w/\Calls P f args w (fun e w''=>∃u,e=.returned u/\Below w.heap.size w w''/\R w'' u)
 | _=>False
def Kn (ks:List Nat) (ρ:Nat->Value) (B:BG') (w:World):Prop:=∀k∈ks,∀R,B k=some R->R w (ρ k)
section
variable {P:Program} {ops:Array Oper} {md:Region.Mode} {C:World->Prop}
def Tv (ops:Array Oper) (o:Oper) (ks:List Nat):Prop:=∀k∈ks,∃ok d,ops[k]?=some ok/\ok.dst=some d/\d∈o.looksAt ops
def Ww (P:Program) (ops:Array Oper) (C:World->Prop) (o:Oper) (ks:List Nat) (a:SG) (B:BG'):Ve->Prop
 | .val v=>(∀ρ,Region.wanted o (yielded ops (a ρ).tmps)=true/\∀w,C w->Kn ks ρ B w->OH P w v ((execOp (a ρ).eval o).run P w))∨((∀ρ,Region.wanted o (yielded ops (a ρ).tmps)=false)/\v=undef)
 | .new R=>(∀w w' u,R w u->Below w.heap.size w w'->R w' u)/\∀ρ,Region.wanted o (yielded ops (a ρ).tmps)=true/\∀w,C w->Kn ks ρ B w->OI P w R ((execOp (a ρ).eval o).run P w)
theorem Ww.of_same {o:Oper} {ks:List Nat} {x:Ve} {a a':SG} {B B':BG'} (hy:Ww P ops C o ks a B x) (he:∀ρ,execOp (a' ρ).eval o=execOp (a ρ).eval o)
  (hw:∀ρ,Region.wanted o (yielded ops (a' ρ).tmps)=Region.wanted o (yielded ops (a ρ).tmps)) (hk:∀ρ w,Kn ks ρ B' w->Kn ks ρ B w):Ww P ops C o ks a' B' x:=by
 cases x with
 | val v=>
  rcases hy with hy|⟨h1,h2⟩
  ·exact .inl fun ρ=>⟨by rw[hw];exact (hy ρ).1,fun w hc hn=>by rw[he];exact (hy ρ).2 w hc (hk ρ w hn)⟩
  ·exact .inr ⟨fun ρ=>by rw[hw];exact h1 ρ,h2⟩
 | new R=>exact⟨hy.1,fun ρ=>⟨by rw[hw];exact (hy.2 ρ).1,fun w hc hn=>by rw[he];exact (hy.2 ρ).2 w hc (hk ρ w hn)⟩⟩
def gOp (P:Program) (ops:Array Oper) (C:World->Prop) (i:Nat) (K:SG->BG'->Prop) (a:SG) (B:BG'):Prop:=
 match ops[i]? with
 | none=>K a B
 | some o=>∃(x:Ve) (ks:List Nat),x.pre i B/\Tv ops o ks/\Ww P ops C o ks a B x/\K (fun ρ=>(a ρ).put o.dst (x.at i ρ)) (x.bx i B)
theorem Ds {i:Nat} {a:SG} {B:BG'} {K K':SG->BG'->Prop} (h:∀a B,K a B->K' a B) (hh:gOp P ops C i K a B):gOp P ops C i K' a B:=by
 unfold gOp at *
 split
 ·exact h _ _ (by simpa [*] using hh)
 ·rename_i o ho;simp only[ho] at hh;obtain⟨x,ks,h0,hl,h1,h2⟩:=hh;exact⟨x,ks,h0,hl,h1,h _ _ h2⟩
def OJ (P:Program) (md:Region.Mode) (ops:Array Oper) (C:World->Prop) (Q:SG->BG'->Prop):Nat->Array Bool->SG->BG'->Prop
 | 0,listed,a,B=>Region.ready md ops listed=[]/\Q a B
 | fuel+1,listed,a,B=>
  (Region.ready md ops listed=[]->Q a B)/\
  ∀i∈Region.ready md ops listed,gOp P ops C i (OJ P md ops C Q fuel (listed.setIfInBounds i true)) a B
theorem Au {i j:Nat} (h:i≠j) (x y:Ve) (B:BG'):y.bx j (x.bx i B)=x.bx i (y.bx j B):=by
 cases x<;>cases y<;>try rfl
 funext k
 simp only[Ve.bx]
 by_cases h1:k=j
 ·rw[if_pos h1,if_neg (by omega),if_pos h1]
 ·rw[if_neg h1]
  by_cases h2:k=i
  ·rw[if_pos h2,if_pos h2]
  ·rw[if_neg h2,if_neg h2,if_neg h1]
theorem Du {i j:Nat} (h:i≠j) (x y:Ve) (B:BG') (hx:x.pre i B) (hy:y.pre j (x.bx i B)):y.pre j B/\x.pre i (y.bx j B):=by
 cases x<;>cases y<;>simp only[Ve.pre,Ve.bx] at *<;>first|exact⟨trivial,trivial⟩|exact⟨hy,trivial⟩|exact⟨trivial,hx⟩|(rw[if_neg (Ne.symm h)] at hy;exact⟨hy,by rw[if_neg h];exact hx⟩)
theorem Av {i j:Nat} {oi oj:Oper} {x:Ve} {ks:List Nat} (hij:i≠j) (hi:ops[i]?=some oi) (hj:ops[j]?=some oj) (hap:oi.apart ops oj=true)
  (hsi:∀cs b,oi.op≠.select cs b) (hsj:∀cs b,oj.op≠.select cs b) {K:SG->BG'->Prop} {a:SG} {B:BG'}
  (hp:x.pre i B) (_hl:Tv ops oi ks) (hy:Ww P ops C oi ks a B x) (h:gOp P ops C j K (fun ρ=>(a ρ).put oi.dst (x.at i ρ)) (x.bx i B)) :
  gOp P ops C j (fun a' B'=>x.pre i B'/\Ww P ops C oi ks a' B' x/\K (fun ρ=>(a' ρ).put oi.dst (x.at i ρ)) (x.bx i B')) a B:=by
 obtain⟨h1,h2,h3⟩:=Oper.apart_spec hap;unfold gOp at *;simp only[hj] at *;obtain⟨y,js,hp',hl',hy',hK⟩:=h;obtain⟨m1,m2⟩:=Du hij x y B hp hp'
 refine⟨y,js,m1,hl',hy'.of_same (fun ρ=>(execOp_put oj hsj (a ρ) oi.dst _ h1).symm) (fun ρ=>(wanted_put oj (a ρ) oi.dst _ h1).symm) (fun ρ w hn k hk R hR=>?_),m2,
  hy.of_same (fun ρ=>execOp_put oi hsi (a ρ) oj.dst _ h3) (fun ρ=>wanted_put oi (a ρ) oj.dst _ h3) (fun ρ w hn k hk R hR=>hn k hk R ?_),?_⟩
 ·cases x with
  | val v=>exact hn k hk R hR
  | new R'=>
   simp only[Ve.bx] at hR
   by_cases hki:k=i
   ·exfalso
    obtain⟨ok,d,e1,e2,e3⟩:=hl' k hk;rw[hki,hi] at e1;injection e1 with e1
    subst e1;exact h1 d e2 e3
   ·rw[if_neg hki] at hR;exact hn k hk R hR
 ·cases y with
  | val v=>exact hR
  | new R'=>
   simp only[Ve.bx,Ve.pre] at m1 ⊢;have hkj:k≠j:=fun e=>by rw[e,m1] at hR;cases hR
   rw[if_neg hkj];exact hR
 have e1:(fun ρ=>((a ρ).put oj.dst (y.at j ρ)).put oi.dst (x.at i ρ))=fun ρ=>((a ρ).put oi.dst (x.at i ρ)).put oj.dst (y.at j ρ):=by
  funext ρ;exact (Act.put_comm (a ρ) _ _ h2).symm
 rw[e1,<-Au hij];exact hK
theorem MA {Q:SG->BG'->Prop} {i:Nat} {oi:Oper} {x:Ve} {ks:List Nat} (hi:ops[i]?=some oi) (hl:Tv ops oi ks) (hsel:∀(j:Nat) (o:Oper) cs b,ops[j]?=some o->o.op≠.select cs b) :
  ∀(fuel:Nat) (listed:Array Bool) (a:SG) (B:BG'),
   (∀j oj,ops[j]?=some oj->j≠i->listed.getD j true=false->(∀e∈oj.after,Region.binds md e=true->e.on≠i)->oi.apart ops oj=true)->
   i∈Region.ready md ops listed->x.pre i B->Ww P ops C oi ks a B x->
   OJ P md ops C Q fuel (listed.setIfInBounds i true) (fun ρ=>(a ρ).put oi.dst (x.at i ρ)) (x.bx i B)->OJ P md ops C Q (fuel+1) listed a B:=by
 intro fuel
 induction fuel with
 | zero=>
  intro listed a B _ hr hp hy H;refine⟨fun h=>(by rw[h] at hr;cases hr),fun j hj=>?_⟩
  by_cases hji:j=i
  ·subst hji;unfold gOp;simp only[hi];exact⟨x,ks,hp,hl,hy,H⟩
  ·have:=ready_mono hj hji
   rw[H.1] at this;cases this
 | succ fuel ih=>
  intro listed a B hfree hr hp hy H;refine⟨fun h=>(by rw[h] at hr;cases hr),fun j hj=>?_⟩
  by_cases hji:j=i
  ·subst hji;unfold gOp;simp only[hi];exact⟨x,ks,hp,hl,hy,H⟩
  ·have h1:=H.2 j (ready_mono hj hji);obtain⟨hjun,oj,hoj,hall⟩:=mem_ready.1 hj;have hnot:∀e∈oj.after,Region.binds md e=true->e.on≠i:=fun e he hb heq=>by
    have h1:=hall e he hb;have h0:=(mem_ready.1 hr).1;rw[heq] at h1;rcases Nat.lt_or_ge i listed.size with h'|h'
    ·simp[h'] at h0 h1;rw[h0] at h1;cases h1
    ·simp[Array.getElem?_eq_none h'] at h1
   have h2:=Av (Ne.symm hji) hi hoj (hfree j oj hoj hji hjun hnot) (fun cs b=>hsel i oi cs b hi) (fun cs b=>hsel j oj cs b hoj) hp hl hy h1
   have hfree':∀k ok,ops[k]?=some ok->k≠i->(listed.setIfInBounds j true).getD k true=false->
     (∀e∈ok.after,Region.binds md e=true->e.on≠i)->oi.apart ops ok=true:=fun k ok hk hki hun hno=>by
    refine hfree k ok hk hki ?_ hno
    by_cases hjk:j=k
    ·subst hjk;exact hjun
    ·rw[getD_set_ne true hjk] at hun;exact hun
   refine Ds (fun a' B' h3=>ih (listed.setIfInBounds j true) a' B' hfree' (ready_mono hr (Ne.symm hji)) h3.1 h3.2.1 ?_) h2
   rw[Array.setIfInBounds_comm _ _ hji];exact h3.2.2
def Vz (P:Program) (ops:Array Oper) (C:World->Prop) (Q:SG->BG'->Prop):List Oper->Nat->SG->BG'->Prop
 | [],_,a,B=>Q a B
 | o::rest,i,a,B=>∃(x:Ve) (ks:List Nat),x.pre i B/\Tv ops o ks/\Ww P ops C o ks a B x/\Vz P ops C Q rest (i+1) (fun ρ=>(a ρ).put o.dst (x.at i ρ)) (x.bx i B)
theorem OK {Q:SG->BG'->Prop} (hs:Region.noSelect ops=true):∀(l:List Oper) (k:Nat) (listed:Array Bool) (a:SG) (B:BG'),(∀j,l[j]?=ops[k+j]?)->
  Region.lexFrom md ops l.length k listed=true->Vz P ops C Q l k a B->OJ P md ops C Q l.length listed a B
 | [],_,_,_,_,_,hB,h=>⟨by simpa [Region.lexFrom] using hB,h⟩
 | o::l,k,listed,a,B,hl,hB,h=>by
  have h0:ops[k]?=some o:=by simpa using (hl 0).symm
  simp only[List.length_cons,Region.lexFrom,Bool.and_eq_true] at hB;obtain⟨⟨hr,hf⟩,hB'⟩:=hB;obtain⟨x,ks,hp,hle,hy,hK⟩:=h;exact MA h0 hle (Region.noSelect_spec hs) l.length listed a B (Region.free_spec h0 hf) (by simpa using hr) hp hy
   (OK hs l (k+1) _ _ _ (fun j=>by have:=hl (j+1);simpa [Nat.add_assoc,Nat.add_comm 1 j] using this) hB' hK)
structure Ua (w0:World) (ρ:Nat->Value) (B:BG') (w:World):Prop where
 below:Below w0.heap.size w0 w
 box:∀i R,B i=some R->R w (ρ i)/\∀w w' u,R w u->Below w.heap.size w w'->R w' u
theorem Ua.kn {w0 w:World} {ρ:Nat->Value} {B:BG'} (h:Ua w0 ρ B w) (ks:List Nat):Kn ks ρ B w:=fun k _ R hR=>(h.box k R hR).1
theorem Ua.go {w0 w w':World} {ρ:Nat->Value} {B:BG'} (h:Ua w0 ρ B w) (hb:Below w.heap.size w w'):Ua w0 ρ B w':=
 ⟨h.below.trans (hb.mono h.below.size),fun i R hi=>⟨(h.box i R hi).2 _ _ _ (h.box i R hi).1 hb,(h.box i R hi).2⟩⟩
theorem Ua.new {w0 w w':World} {ρ:Nat->Value} {B:BG'} (h:Ua w0 ρ B w) (hb:Below w.heap.size w w') (i:Nat) {R:World->Value->Prop} {u:Value} (hR:R w' u) (hs:∀w w' u,R w u->Below w.heap.size w w'->R w' u) :
  Ua w0 (Q9 ρ i u) ((Ve.new R).bx i B) w':=by
 have h':=h.go hb;refine⟨h'.below,fun k R' hk=>?_⟩
 simp only[Ve.bx,Q9] at *
 by_cases hki:k=i
 ·rw[if_pos hki] at hk ⊢;injection hk with hk
  subst hk;exact⟨hR,hs⟩
 ·rw[if_neg hki] at hk ⊢;exact h'.box k R' hk
def I7 (listed:Array Bool) (a:SG):Prop:=∀(i:Nat) (ρ:Nat->Value) (b:Value),listed.getD i true=false->a (Q9 ρ i b)=a ρ
theorem I7.put {listed:Array Bool} {a:SG} (h:I7 listed a) {i:Nat} (hi:listed.getD i true=false) (d:Option Tmp) (x:Ve) :
  I7 (listed.setIfInBounds i true) (fun ρ=>(a ρ).put d (x.at i ρ)):=by
 intro k ρ b hk;have hlt:i<listed.size:=by
  rcases Nat.lt_or_ge i listed.size with h'|h'
  ·exact h'
  ·simp[Array.getElem?_eq_none h'] at hi
 have hki:k≠i:=fun e=>by subst e;simp[hlt] at hk
 have hk':listed.getD k true=false:=by rwa [getD_set_ne true (Ne.symm hki)] at hk
 show (a (Q9 ρ k b)).put d _=_;rw[h k ρ b hk'];cases x with
 | val v=>rfl
 | new R=>
  show (a ρ).put d (Q9 ρ k b i)=(a ρ).put d (ρ i)
  have:Q9 ρ k b i=ρ i:=if_neg (Ne.symm hki)
  rw[this]
theorem YP {w0:World} {Q:SG->BG'->Prop} {Q':Exit->Act->World->Prop} (hQ:∀a B ρ w,Ua w0 ρ B w->Q a B->Q' .normal (a ρ) w) :
  ∀(fuel:Nat) (listed:Array Bool) (a:SG) (B:BG') (ρ:Nat->Value) (w:World),Ua w0 ρ B w->I7 listed a->
  OJ P md ops (fun w=>Below w0.heap.size w0 w) Q fuel listed a B->wpAny P md ops Q' fuel listed (a ρ) w
 | 0,_,_,_,_,_,hf,_,h=>⟨h.1,hQ _ _ _ _ hf h.2⟩
 | fuel+1,listed,a,B,ρ,w,hf,hfr,h=>by
  refine⟨fun h0=>hQ _ _ _ _ hf (h.1 h0),fun i hi=>?_⟩
  have h1:=h.2 i hi;obtain⟨hun,o,ho,_⟩:=mem_ready.1 hi;unfold gOp at h1;simp only[ho] at h1;obtain⟨x,ks,hp,hle,hy,hK⟩:=h1;have hkn:=hf.kn ks;have hfr':=hfr.put hun o.dst x;unfold wpOp;simp only[ho];cases x with
  | val v=>
   simp only[Ww] at hy;rcases hy with hy|⟨hw,rfl⟩
   ·obtain⟨hw,hr⟩:=hy ρ;simp only[hw,if_true];refine .inl ?_;have h3:=hr w hf.below hkn;unfold Oper.wp;generalize (execOp (a ρ).eval o).run P w=r at *;cases r with
    | ok n w'=>
     cases n<;>simp only[OH] at h3<;>simp only[Oper.upon]
     case value u=>
      obtain⟨e1,e2⟩:=h3;rw[e1,e2];exact YP hQ fuel _ _ B ρ w hf hfr' hK
     case skip=>
      obtain⟨e1,e2⟩:=h3;rw[e1,<-e2];exact YP hQ fuel _ _ B ρ w hf hfr' hK
     case enter f args=>
      obtain⟨e1,hc⟩:=h3;rw[e1];exact hc.mono fun e w'' ⟨he,hw''⟩=>by subst he;exact YP hQ fuel _ _ B ρ w'' (hf.go hw'') hfr' hK
    | halt x w'=>simp only[OH] at h3
   ·simp only[hw ρ,Bool.false_eq_true,if_false];exact YP hQ fuel _ _ B ρ w hf hfr' hK
  | new R=>
   simp only[Ww] at hy;obtain⟨hs,hy⟩:=hy;obtain⟨hw,hr⟩:=hy ρ;simp only[hw,if_true];refine .inl ?_;have h3:=hr w hf.below hkn;have key:∀u w',Below w.heap.size w w'->R w' u->wpAny P md ops Q' fuel (listed.setIfInBounds i true) ((a ρ).put o.dst u) w':=fun u w' hb hR=>by
    have h5:=YP hQ fuel _ _ _ (Q9 ρ i u) w' (hf.new hb i hR hs) hfr' hK;have e1:(a (Q9 ρ i u)).put o.dst ((Ve.new R).at i (Q9 ρ i u))=(a ρ).put o.dst u:=by
     show (a (Q9 ρ i u)).put o.dst (Q9 ρ i u i)=_;rw[hfr i ρ _ hun]
     have:Q9 ρ i u i=u:=if_pos rfl
     rw[this]
    rwa [e1] at h5
   unfold Oper.wp;generalize (execOp (a ρ).eval o).run P w=r at *;cases r with
   | ok n w'=>
    cases n<;>simp only[OI] at h3<;>simp only[Oper.upon]
    case value u=>exact key u w' h3.1 h3.2
    case enter f args=>
     obtain⟨e1,hc⟩:=h3;rw[e1];exact hc.mono fun e w'' ⟨u,he,hw'',hR⟩=>by subst he;exact key u w'' hw'' hR
   | halt x w'=>simp only[OI] at h3
theorem VA {id:Nat} {Q:Exit->Act->World->Prop} {a:Act} {w:World} {l:List Oper} (hm:P.follows .mixedOrders=true) (hB:Region.lexB .any l.toArray=true)
  (h:Vz P l.toArray (fun w'=>Below w.heap.size w w') (fun a' B=>∀ρ w',Ua w ρ B w'->Q .normal (a' ρ) w') l 0 (fun _=>a) (fun _=>none)):(Code.region id l.toArray true).wp P Q a w:=by
 simp only[Region.lexB,Bool.and_eq_true] at hB;refine wp_region_any hm ?_;have hf:Ua w (fun _=>undef) (fun _=>none) { w with drawn:=w.drawn+1 }:=
  ⟨⟨rfl,rfl,rfl,Nl _,fun _ _=>rfl⟩,fun _ _ h=>(by cases h)⟩
 refine YP (Q:=fun a' B=>∀ρ w',Ua w ρ B w'->Q .normal (a' ρ) w') (fun a' B ρ w' hf' h'=>h' ρ w' hf') _ _ (fun _=>a) (fun _=>none) (fun _=>undef) _ hf (fun _ _ _ _=>rfl) ?_
 have:=OK (C:=fun w'=>Below w.heap.size w w') (md:=.any) hB.1 l 0 (Array.replicate l.toArray.size false) (fun _=>a) (fun _=>none) (by simp) (by simpa using hB.2) h
 simpa using this
variable {Q:SG->BG'->Prop} {o:Oper} {rest:List Oper} {i:Nat} {a:SG} {B:BG'}
theorem QI {o:Oper}:Tv ops o []:=fun _ h=>absurd h (by simp)
theorem GX {o:Oper} {k:Nat} (ok:Oper) (d:Tmp) (h1:ops[k]?=some ok) (h2:ok.dst=some d) (h3:d∈o.looksAt ops):Tv ops o [k]:=fun j hj=>by
 rw[List.mem_singleton.1 hj];exact⟨ok,d,h1,h2,h3⟩
theorem VB (v:Value) (hw:∀ρ,Region.wanted o (yielded ops (a ρ).tmps)=true) (h:∀ρ w,C w->(execOp (a ρ).eval o).run P w=.ok (.value v) w)
  (hn:Vz P ops C Q rest (i+1) (fun ρ=>(a ρ).put o.dst v) B):Vz P ops C Q (o::rest) i a B:=
 ⟨.val v,[],trivial,QI,.inl fun ρ=>⟨hw ρ,fun w hc _=>by rw[h ρ w hc];exact⟨rfl,rfl⟩⟩,hn⟩
theorem GY (f:FuncId) (args:Array Value) (v:Value) (hw:∀ρ,Region.wanted o (yielded ops (a ρ).tmps)=true) (h:∀ρ w,C w->(execOp (a ρ).eval o).run P w=.ok (.enter f args) w)
  (hc:∀w,C w->Calls P f args w fun e w'=>e=.returned v/\Below w.heap.size w w')
  (hn:Vz P ops C Q rest (i+1) (fun ρ=>(a ρ).put o.dst v) B):Vz P ops C Q (o::rest) i a B:=
 ⟨.val v,[],trivial,QI,.inl fun ρ=>⟨hw ρ,fun w hC _=>by rw[h ρ w hC];exact⟨rfl,hc w hC⟩⟩,hn⟩
theorem OL (f:FuncId) (args:Array Value) (R:World->Value->Prop) (hp:B i=none) (hs:∀w w' u,R w u->Below w.heap.size w w'->R w' u) (hw:∀ρ,Region.wanted o (yielded ops (a ρ).tmps)=true) (h:∀ρ w,C w->(execOp (a ρ).eval o).run P w=.ok (.enter f args) w)
  (hc:∀w,C w->Calls P f args w fun e w'=>∃u,e=.returned u/\Below w.heap.size w w'/\R w' u)
  (hn:Vz P ops C Q rest (i+1) (fun ρ=>(a ρ).put o.dst (ρ i)) (fun k=>if k=i then some R else B k)):Vz P ops C Q (o::rest) i a B:=
 ⟨.new R,[],hp,QI,⟨hs,fun ρ=>⟨hw ρ,fun w hC _=>by rw[h ρ w hC];exact⟨rfl,hc w hC⟩⟩⟩,hn⟩
theorem Sf (k:Nat) (R:World->Value->Prop) (v:Value) (ok:Oper) (d:Tmp) (hB:B k=some R) (h1:ops[k]?=some ok) (h2:ok.dst=some d) (h3:d∈o.looksAt ops) (hw:∀ρ,Region.wanted o (yielded ops (a ρ).tmps)=true)
  (h:∀ρ w,C w->R w (ρ k)->∃f args,(execOp (a ρ).eval o).run P w=.ok (.enter f args) w/\Calls P f args w fun e w'=>e=.returned v/\Below w.heap.size w w')
  (hn:Vz P ops C Q rest (i+1) (fun ρ=>(a ρ).put o.dst v) B):Vz P ops C Q (o::rest) i a B:=
 ⟨.val v,[k],trivial,GX ok d h1 h2 h3,.inl fun ρ=>⟨hw ρ,fun w hC hk=>by
  obtain⟨f,args,e,hc⟩:=h ρ w hC (hk k (by simp) R hB)
  rw[e];exact⟨rfl,hc⟩⟩,hn⟩
end
section
variable {P:Program} {ops:Array Oper} {C:World->Prop} {Q:St->Bx->Prop} {o:Oper} {rest:List Oper} {i:Nat} {a:St} {B:Bx}
end
section
variable {P:Program} {w:World}
theorem Ub (base:Nat) (t ty e:TypeId) (i:TypeInfo) (z:Value) (size bytes:Nat) (ht:P.underlying t=some (.slice e)) (hi:P.info? e=some i) (hz:i.zero=some z)
  (hsize:i.size=size) (hby:i.bytes=bytes) (hzs:z.cells.size=size) (hsz:0<size)
  (v:Value) (n:Nat) (xs:List Value) (hown:w.ownsRow base e size v n xs)
  (a:Addr) (m c:Nat) (news:List Value) (hl:news.length=m*size) (hnews:∀j u,news[j]?=some u->w.cell? (a.add j)=some u) (h1:∀u∈news,u.oneCell'=true)
  (h63:n+m<=maxLen) (hbytes:(n+m)*bytes<=140737488355328) {v':Value} {w':World} (hr:(Builtin.append_ #[t,t] ty #[v,.slice (some a) m c]).run P w=.ok v' w') :
  ∀g,v'.ownBlock=some g->v.ownBlock=some g∨w.heap.size<=g:=by
 intro g hg;have hsmall:n+m<=9223372036854775807:=by simp only[maxLen] at h63;omega
 rcases hown.2 with ⟨rfl,rfl⟩|⟨g0,cap,cur,rfl,hbg,hgg,hnc,hcm,hcs,htake⟩
 ·obtain⟨v2,w2,hr2,h2,-,-⟩:=run_append_own (P:=P) w w.heap.size t ty e i z size bytes ht hi hz hsize hby hzs hsz (.slice none 0 0) 0 [] (World.ownsRow_nil w w.heap.size e size) a m c news hl hnews h1 h63 hbytes (Nl _);rw[hr] at hr2;injection hr2 with e1 e2
  subst e1 e2;exact .inr (h2.lt g hg).1
 ·subst hsize;subst hby
  by_cases hroom:n+m<=cap
  ·have hfit:n*i.size+news.length<=cur.size:=by rw[hl,hcs,<-Nat.add_mul];exact Nat.mul_le_mul_right _ hroom
   have hr2:=run_append_room (P:=P) w t ty e i ht hi g0 n cap cur hgg a m c news hl hnews h1 hroom hfit;rw[hr] at hr2;injection hr2 with e1 e2
   subst e1;exact .inl hg
  ·have holds:∀j u,xs[j]?=some u->w.cell? ((⟨g0,0,none⟩:Addr).add j)=some u:=hown.cells (g:=g0) rfl
   have hr2:=run_append_grow (P:=P) w t ty e i z ht hi hz ⟨g0,0,none⟩ n cap xs hown.1 holds a m c news hl hnews (by omega) (by omega) (growslice_fits (by omega) hbytes)
   rw[hr] at hr2;injection hr2 with e1 e2
   subst e1;injection hg with hg
   exact .inr (Nat.le_of_eq hg)
theorem ZN {ops:Array Oper} {rest:List Oper} {o:Oper} {a:Act} {Q:Exit->Act->World->Prop} (hgd:o.guard=none) (s x:Operand) (t:TypeId)
  (ho:o.op=.call { callee:=.builtin .append,args:=#[s,x],argTypes:=#[t,t] })
  (base:Nat) (e:TypeId) (i:TypeInfo) (z:Value) (size bytes:Nat) (ht:P.underlying t=some (.slice e)) (hi:P.info? e=some i) (hz:i.zero=some z)
  (hsize:i.size=size) (hby:i.bytes=bytes) (hzs:z.cells.size=size) (hsz:0<size)
  (v:Value) (n:Nat) (xs:List Value) (hs:a.eval s=v) (hown:w.ownsRow base e size v n xs)
  (ad:Addr) (m c:Nat) (news:List Value) (hx:a.eval x=.slice (some ad) m c) (hl:news.length=m*size) (hnews:∀j u,news[j]?=some u->w.cell? (ad.add j)=some u) (h1:∀u∈news,u.oneCell'=true)
  (h63:n+m<=maxLen) (hbytes:(n+m)*bytes<=140737488355328) (hbase:base<=w.heap.size)
  (h:∀v' w',w'.ownsRow base e size v' (n+m) (xs++news)->w.grownBy w' v.ownBlock->(∀g,v'.ownBlock=some g->v.ownBlock=some g∨w.heap.size<=g)->wpList P ops Q rest (a.put o.dst v') w'):wpList P ops Q (o::rest) a w:=
 wpList_plain hgd fun _ hK=>by
  obtain⟨v',w',hr,h2,h3,-⟩:=run_append_own (P:=P) w base t o.type e i z size bytes ht hi hz hsize hby hzs hsz v n xs hown ad m c news hl hnews h1 h63 hbytes hbase;have h5:=Ub (P:=P) base t o.type e i z size bytes ht hi hz hsize hby hzs hsz v n xs hown ad m c news hl hnews h1 h63 hbytes hr;unfold Oper.wp execOp;simp only[ho,resolve,invoke,builtin,Sem.run_bind,Sem.run_pure,Result.andThen_ok,List.map_toArray,List.map_cons,List.map_nil,hs,hx,hr];exact hK _ _ (h v' w' h2 h3 h5)
end
def Dis (u v:Value):Prop:=∀g,u.ownBlock=some g->v.ownBlock≠some g
theorem Dis.symm {u v:Value} (h:Dis u v):Dis v u:=fun g hv hu=>h g hu hv
theorem Dis.fresh {u u' v:Value} {N:Nat} (h:Dis u v) (hf:∀g,u'.ownBlock=some g->u.ownBlock=some g∨N<=g) (hv:∀g,v.ownBlock=some g->g<N):Dis u' v:=fun g hu hg=>by
 rcases hf g hu with h1|h1
 ·exact h g h1 hg
 ·have:=hv g hg;omega
theorem LJ {u u':Value} {N b:Nat} (h:u.ownBlock≠some b) (hf:∀g,u'.ownBlock=some g->u.ownBlock=some g∨N<=g) (hb:b<N):u'.ownBlock≠some b:=fun hu=>by
 rcases hf b hu with h1|h1
 ·exact h h1
 ·omega
def WQ (xs:List Pk):List Value:=xs.flatMap (fun x=>[.string ⟨x.lot.toArray⟩,.string ⟨x.q.toArray⟩])
theorem Sg (x:Pk) (xs:List Pk):WQ (x::xs)=.string ⟨x.lot.toArray⟩::.string ⟨x.q.toArray⟩::WQ xs:=rfl
theorem NF:∀xs:List Pk,(WQ xs).length=xs.length*2
 | []=>rfl
 | x::xs=>by rw[Sg,List.length_cons,List.length_cons,NF xs,List.length_cons];omega
theorem GZ (xs ys:List Pk):WQ (xs++ys)=WQ xs++WQ ys:=List.flatMap_append
theorem SZ:∀{xs:List Pk} {i:Nat} {x:Pk},xs[i]?=some x->(WQ xs)[i*2]?=some (.string ⟨x.lot.toArray⟩)/\(WQ xs)[i*2+1]?=some (.string ⟨x.q.toArray⟩)
 | [],i,x,h=>by simp at h
 | y::xs,0,x,h=>by
  have:y=x:=by simpa using h
  subst this;exact⟨rfl,rfl⟩
 | y::xs,i+1,x,h=>by
  obtain⟨h1,h2⟩:=SZ (xs:=xs) (i:=i) (x:=x) (by simpa using h)
  rw[Sg,show (i+1)*2=i*2+1+1 by omega]
  exact⟨by simpa using h1,by simpa using h2⟩
theorem NG:∀{xs:List Pk} {i:Nat} {x:Pk} (a:List UInt8),xs[i]?=some x->(WQ xs).set (i*2+1) (.string ⟨a.toArray⟩)=WQ (xs.set i ⟨x.lot,a⟩)
 | [],i,x,a,h=>by simp at h
 | y::xs,0,x,a,h=>by
  have:y=x:=by simpa using h
  subst this;rfl
 | y::xs,i+1,x,a,h=>by
  have h1:=NG (xs:=xs) (i:=i) (x:=x) a (by simpa using h)
  rw[Sg,show (i+1)*2+1=(i*2+1)+1+1 by omega,List.set_cons_succ,List.set_cons_succ,h1];rfl
def O3 (w:World) (g:Nat) (qs:List Pk):Prop:=∃cur:Array Value,w.heap[g]?=some (.cells cur 195 (0,0))/\cur.toList.take (qs.length*2)=WQ qs/\qs.length*2<=cur.size
section
variable {w w':World} {g b i:Nat} {qs:List Pk} {u:Value}
theorem O3.lt (h:O3 w g qs):g<w.heap.size:=by obtain⟨cur,h,-⟩:=h;exact (Ag.1 h).1
theorem O3.cells {x:Pk} (h:O3 w g qs) (hx:qs[i]?=some x):w.cell? ⟨g,i*2,none⟩=some (.string ⟨x.lot.toArray⟩)/\w.cell? ⟨g,i*2+1,none⟩=some (.string ⟨x.q.toArray⟩):=by
 obtain⟨cur,hh,ht,hs⟩:=h;have hi:=(Lg.1 hx).1;obtain⟨h1,h2⟩:=SZ hx;constructor
 ·rw[Zg hh,<-h1,<-ht,List.getElem?_take,if_pos (by omega),Array.getElem?_toList]
 ·rw[Zg hh,<-h2,<-ht,List.getElem?_take,if_pos (by omega),Array.getElem?_toList]
theorem O3.pkAt (h:O3 w g qs):WB w (some ⟨g,0,none⟩) qs:=fun i t ht=>by
 obtain⟨h1,h2⟩:=h.cells ht;exact⟨g,0,rfl,h.lt,by rw[Nat.zero_add];exact h1,by rw[Nat.zero_add];exact h2⟩
end
theorem Dv {w:World} {base n c:Nat} {A:Option Addr} {qs:List Pk} (h:w.ownsRow base 195 2 (.slice A n c) n (WQ qs)) (hn:n=qs.length) (h0:0<n):∃g,A=some ⟨g,0,none⟩/\base<=g/\O3 w g qs:=by
 rcases h.2 with ⟨hv,h1⟩|⟨g,cap,cur,hv,hb,hh,hcap,_,hsz,htk⟩
 ·omega
 ·injection hv with h1 _ h3
  subst h1 h3;refine⟨g,rfl,hb,cur,hh,by rw[<-hn];exact htk,by omega⟩
def Yy (w:World) (B:Nat) (v:Value) (xs:List Pk):Prop:=w.ownsRow B 195 2 v xs.length (WQ xs)
section
variable {w w':World} {B b i:Nat} {u v v':Value} {xs:List Pk}
theorem Yy.below (h:Yy w B v xs) (hb:Below w.heap.size w w'):Yy w' B v xs:=by
 refine⟨h.1,?_⟩;rcases h.2 with h2|⟨g,cap,cur,e,hB,hg,r⟩
 ·exact .inl h2
 ·exact .inr ⟨g,cap,cur,e,hB,(hb.block g (Ag.1 hg).1).trans hg,r⟩
theorem Yy.block (h:Yy w B v xs):∀g,v.ownBlock=some g->B<=g/\g<w.heap.size:=World.ownsRow.lt h
theorem Yy.form (h:Yy w B v xs):∃A c,v=.slice A xs.length c:=by
 rcases h.2 with ⟨e,hn⟩|⟨g,cap,cur,e,-⟩
 ·exact⟨none,0,by rw[e,hn]⟩
 ·exact⟨_,_,e⟩
theorem Yy.row (h:Yy w B v xs) (h0:0<xs.length):∃g c,v=.slice (some ⟨g,0,none⟩) xs.length c/\B<=g/\O3 w g xs:=by
 obtain⟨A,c,rfl⟩:=h.form;obtain⟨g,rfl,hB,hp⟩:=Dv (show w.ownsRow B 195 2 (.slice A xs.length c) xs.length (WQ xs) from h) rfl h0
 exact⟨g,c,rfl,hB,hp⟩
theorem Yy.pkAt (h:Yy w B v xs) {A:Option Addr} {n c:Nat} (e:v=.slice A n c):WB w A xs:=by
 by_cases h0:0<xs.length
 ·obtain⟨g,c',e2,-,hp⟩:=h.row h0;rw[e] at e2;injection e2 with e2
  subst e2;exact hp.pkAt
 ·have:xs=[]:=List.eq_nil_of_length_eq_zero (by omega)
  subst this;exact fun i x hx=>by simp at hx
theorem Yy.set {c:Nat} {g:Nat} {x:Pk} (h:Yy w B (.slice (some ⟨g,0,none⟩) xs.length c) xs) (hx:xs[i]?=some x) (a:List UInt8):Yy (w.setCell ⟨g,i*2+1,none⟩ (.string ⟨a.toArray⟩)) B (.slice (some ⟨g,0,none⟩) xs.length c) (xs.set i ⟨x.lot,a⟩):=by
 have hl:(xs.set i ⟨x.lot,a⟩).length=xs.length:=List.length_set ..;refine⟨by rw[NF],?_⟩
 rcases h.2 with ⟨e,hn⟩|⟨g',cap,cur,e,hB,hg,h1,h2,h3,h4⟩
 ·cases e
 ·injection e with e1 e2 e3
  injection e1 with e1
  injection e1 with e1
  subst e1 e3;refine .inr ⟨g,c,cur.setIfInBounds (i*2+1) (.string ⟨a.toArray⟩),by rw[hl],hB,?_,by rw[hl];exact h1,h2,by rw[Array.size_setIfInBounds];exact h3,?_⟩
  ·obtain⟨hlt,hk⟩:=Ag.1 hg;show (w.heap.modify g _)[g]?=_;rw[Array.getElem?_eq_getElem (by rw[Array.size_modify];exact hlt),Array.getElem_modify_self,hk]
   simp
  ·rw[hl,Array.toList_setIfInBounds,List.take_set,h4,NG a hx]
theorem Yy.far (h:Yy w B v xs) (hn:v.ownBlock≠some b):Yy (w.setCell ⟨b,i,none⟩ u) B v xs:=by
 refine⟨h.1,?_⟩;rcases h.2 with h2|⟨g,cap,cur,e,hB,hg,r⟩
 ·exact .inl h2
 ·refine .inr ⟨g,cap,cur,e,hB,(Below.heap_setCell w ⟨b,i,none⟩ u g (fun hgb=>hn (by rw[e];exact congrArg some hgb))).trans hg,r⟩
end
theorem Yy.app {w:World} {B n:Nat} {v:Value} {xs:List Pk} {x:Pk} (h:w.ownsRow B 195 2 v (n+1) (WQ xs++[.string ⟨x.lot.toArray⟩,.string ⟨x.q.toArray⟩])) (hn:xs.length=n):Yy w B v (xs++[x]):=by
 unfold Yy;rw[List.length_append,List.length_singleton,hn,GZ];exact h
theorem Dw (w:World) (B:Nat):Yy w B (.slice none 0 0) []:=World.ownsRow_nil w B _ 2
theorem Yy.formN {w:World} {B n:Nat} {v:Value} {xs:List Pk} (h:Yy w B v xs) (hn:xs.length=n):∃A c,v=.slice A n c:=by rw[<-hn];exact h.form
theorem G0:(prog.info? 195).map (fun i=>(i.zero,i.size,i.bytes))=some (some (.agg #[.string ⟨#[]⟩,.string ⟨#[]⟩]),2,32):=by kernel_rfl
end Go.Proofs.YtpieeldbamklkaaGreatDoor
