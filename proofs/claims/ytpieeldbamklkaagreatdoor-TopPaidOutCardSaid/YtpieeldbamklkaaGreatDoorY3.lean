/- Texts put together: Tf Og Rl Oh Oi Mn Oj. -/
import Derived.Test.YtpieeldbamklkaaGreatDoorY2
import Derived.Shelf.SlicesE.Clone
import Derived.Deep.MidRow
import Derived.Calls
import Derived.Lib.QuietBelow
set_option maxHeartbeats 4000000
set_option maxRecDepth 100000
open Go.Proofs.Tryz
namespace Go.Proofs.YtpieeldbamklkaaGreatDoor
open Go.RowKit Num
section
variable {P:Program} {ops:Array Oper} {C:World->Prop} {Q:St->Bx->Prop} {rest:List Oper} {o:Oper} {i:Nat} {a:St} {B:Bx}
end
section
variable {l l':List UInt8}
theorem W7 (hl:l.length<=100000000) (hl':l'.length<=100000000) {z:Int} (e:val l-val l'=z):Ret 22 #[.string ⟨l.toArray⟩,.string ⟨l'.toArray⟩] (.string ⟨(canon z).toArray⟩):=fun w hG=>by
 subst e;exact M6 l l' w hl hl' hG
end
structure QL (w:World) (A:Option Addr) (ts:List Pnt) (n:Nat):Prop where
 len:ts.length=n
 sm:n<=1000
 gap:n<=12∨400<n
 str:∀t∈ts,t.vl.length<=60/\t.fl.length<=60
 mem:Nm w A ts
section
variable {w w':World} {A:Option Addr} {ts:List Pnt} {n:Nat}
theorem QL.below (h:QL w A ts n) (hb:Below w.heap.size w w'):QL w' A ts n:=⟨h.len,h.sm,h.gap,h.str,h.mem.below hb⟩
theorem QL.ok (h:QL w A ts n) (h0:XZ ts=0):1<=n/\n<=12/\Ln (pts ts)/\UpD none ts/\∀t∈ts,QW t:=by
 obtain⟨h1,h2,h3,h4,h5⟩:=B5 h0
 have:=h.len
 have:=h.gap
 exact⟨by omega,by omega,h3,h4,h5⟩
theorem EE (hG:Z5 w) (h:QL w A ts n) (c:Nat):B3 w 40 #[.slice A n c] (.int .i64 (XZ ts)):=fun w' hb=>B4 A ts n c w' (hG.below hb) h.len h.sm h.str (h.mem.below hb)
end
theorem EF (args:Array Value) (w:World):(callFunc 107 args).run prog w=.ok (.enter 107 args) w:=by kernel_rfl
theorem EG {ts:List Pnt} (h:∀t∈ts,QW t) (hp:Ln (pts ts)) (hn:ts.length<=12):Bd 505 (Yw 1 (Wd (pts ts))):=by
 have h1:=Oq (M:=42) (Wd (pts ts)) Jx (IN hp h);rw[SQ,Mo] at h1;exact BM h1 (by omega)
theorem GD {w:World} {B B' k sz:Nat} {ty:TypeId} {v:Value} {cs:List Value} (h:w.ownsRow B ty sz v k cs) (hb:B'<=B):w.ownsRow B' ty sz v k cs:=by
 refine⟨h.1,?_⟩;rcases h.2 with h2|⟨g,cap,cur,e,hB,r⟩
 ·exact .inl h2
 ·exact .inr ⟨g,cap,cur,e,Nt hb hB,r⟩
def EH (ts:List Pnt):Value:=if ¬XZ ts=0 then .tuple #[.agg #[.string ⟨#[]⟩,.string ⟨#[]⟩],.int .i64 1] else .tuple #[(Value.agg #[.string ⟨List.toArray (fN (Yw 1 (Wd (pts ts))-1))⟩,.string ⟨List.toArray (fD (Yw 1 (Wd (pts ts))-1))⟩]),.int .i64 0]
theorem EI {w:World} {A:Option Addr} {ts:List Pnt} {n:Nat} (hG:Z5 w) (h:QL w A ts n) (c:Nat):B3 w 42 #[.slice A n c] (EH ts):=fun w' hbw=>by
 replace hG:=hG.below hbw;replace h:=h.below hbw;clear hbw;have C1:=Lh (EE hG h c);have x2:=YQ.new w' (.string ⟨#[]⟩) (.string ⟨#[]⟩) 34;have hb:=Zb w' (.cells #[.string ⟨#[]⟩,.string ⟨#[]⟩] 34)
 by_cases g:XZ ts=0
 rotate_left
 ·have HV:Hid (EH ts=.tuple #[.agg #[.string ⟨#[]⟩,.string ⟨#[]⟩],.int .i64 1]):=if_pos g;have e1:(XZ ts != 0)=true:=UG (Qu g);generalize XZ ts=E at *;clear g h;go_enter func42,ntmps42;go_wp2_with fail
  refine (C1.out.of hG hb).mono ?_
  rintro e w1 ⟨rfl,hb1⟩;replace x2:=x2.below hb1;replace hb:=bto hb hb1;have g0:=x2.c0;have g1:=x2.c1;have g2:=x2.f0;have g3:=x2.f1;clear hb1;go_wp2;have hy:=x2.set (.string ⟨#[]⟩) (.string ⟨#[]⟩);have d0:=hy.c0;have d1:=hy.c1;refine bodyPost_ret (v:=.tuple #[.agg #[.string ⟨#[]⟩,.string ⟨#[]⟩],.int .i64 1]) (by simp[results,results42,go_sem,d0,d1]) rfl ?_
  exact⟨by rw[HV.out],ZF hb (Nl _) _ _⟩
 have HV0:Hid (EH ts=.tuple #[(Value.agg #[.string ⟨List.toArray (fN (Yw 1 (Wd (pts ts))-1))⟩,.string ⟨List.toArray (fD (Yw 1 (Wd (pts ts))-1))⟩]),.int .i64 0]):=if_neg (fun h=>h g)
 obtain⟨h1,h12,hp,-,hok⟩:=h.ok g;rw[g] at C1;have HB:=Lh (EG hok hp (by rw[h.len];exact h12))
 have hfl:(Wd (pts ts)).length<=12:=by rw[SQ,Mo,h.len];omega
 have CI:Hid (∀w1,Below w'.heap.size w' w1->Jy (w1.alloc (.cells #[.slice A n c] 23)) 107 #[.pointer (some ⟨w1.heap.size,0,none⟩)] (Wd (pts ts)) 42):=fun w1 hb1=>
  EC w1.heap.size A ts n c _ (hG.below (bto hb1 (Zb _ _))) h.len h1 (by omega) hok hp (h.mem.below (bto hb1 (Zb _ _))) (Blk.new _ _ _)
 obtain⟨qs,hqs⟩:∃qs,qs=Wd (pts ts):=⟨_,rfl⟩
 rw[<-hqs] at HV0 HB CI hfl;have c0:Ret 31 #[.string ⟨[49].toArray⟩] (Value.agg #[.string ⟨List.toArray (fN ((1:Rat)))⟩,.string ⟨List.toArray (fD ((1:Rat)))⟩]):=by have h:=rOf (l:=[49]) (by decide) (z:=1) (by decide);exact h
 have C3:=Lh c0;have C4:=Lh (Zct (UX HB.out (by decide)) (UX Jx (by decide)) rfl)
 obtain⟨y,hy⟩:∃y,y=Yw 1 qs-1:=⟨_,rfl⟩
 have HV:=HV0;rw[<-hy] at C4 HV;clear g h h12 hok hp hqs c0 HV0 hy;go_enter func42,ntmps42;go_wp2_with fail
 refine (C1.out.of hG hb).mono ?_
 rintro e w1 ⟨rfl,hb1⟩;replace x2:=x2.below hb1;replace hb:=bto hb hb1;clear hb1;go_wp2_with fail;refine (ED A n c _).mono ?_;rintro e w2 ⟨rfl,rfl⟩;have C2:=Lh (GC 107 #[.pointer (some ⟨w1.heap.size,0,none⟩)] qs 42 (w1.alloc (.cells #[.slice A n c] 23)) (hG.below (bto hb (Zb _ _))) EF (CI.out w1 hb) (by omega))
 replace x2:=x2.below (Zb _ (.cells #[.slice A n c] 23));replace hb:=bto hb (Zb _ (.cells #[.slice A n c] 23));go_wp2_with fail;refine C2.out.mono ?_;rintro e w3 ⟨rfl,hb3⟩;replace x2:=x2.below hb3;replace hb:=bto hb hb3;clear hb3 C2 CI;go_wp2_with fail
 refine (C3.out.of hG hb).mono ?_
 rintro e w4 ⟨rfl,hb4⟩;replace x2:=x2.below hb4;replace hb:=bto hb hb4;clear hb4;go_wp2_with fail
 refine (C4.out.of hG hb).mono ?_
 rintro e w5 ⟨rfl,hb5⟩;replace x2:=x2.below hb5;replace hb:=bto hb hb5;have g0:=x2.c0;have g1:=x2.c1;have g2:=x2.f0;have g3:=x2.f1;clear hb5;go_wp2;have hy:=x2.set (.string ⟨(fN (y)).toArray⟩) (.string ⟨(fD (y)).toArray⟩);have d0:=hy.c0;have d1:=hy.c1;refine bodyPost_ret (v:=.tuple #[(Value.agg #[.string ⟨List.toArray (fN y)⟩,.string ⟨List.toArray (fD y)⟩]),.int .i64 0]) (by simp[results,results42,go_sem,d0,d1]) rfl ?_
 exact⟨by rw[HV.out],ZF hb (Nl _) _ _⟩
open Go.Shelf
attribute [local go_sem] Oper.semAt_some
theorem Np (xs ys:List Lot):Ye (xs++ys)=Ye xs++Ye ys:=List.flatMap_append
theorem V3:∀xs:List Lot,(Ye xs).length=xs.length*7
 | []=>rfl
 | x::r=>by
  have:=V3 r
  unfold Ye at this ⊢;rw[List.flatMap_cons,List.length_append,this];simp;omega
theorem V4 (xs:List Lot):∀u∈Ye xs,u.oneCell'=true:=by
 intro u hu;obtain⟨x,-,hx⟩:=List.mem_flatMap.1 hu;simp at hx;rcases hx with rfl|rfl|rfl|rfl|rfl|rfl|rfl<;>rfl
theorem U1:(prog.info? 130).map (fun i=>(i.zero,i.size,i.bytes))=some (some (.agg #[.string ⟨#[]⟩,.string ⟨#[]⟩,.int .i64 0,.int .i64 0,.string ⟨#[]⟩,.string ⟨#[]⟩,.string ⟨#[]⟩]),7,96):=by kernel_rfl
def EJ (w:World) (gf:Nat) (lb:Array Value) (qs:List Lot):Prop:=
 ∀(m lw:Nat) (S:List Lot->World->Prop),(∀ys W,S ys W->Below w.heap.size w W)->(∀ys W W',S ys W->Below W.heap.size W W'->S ys W')->
  (∀ys y W,S ys W->qs[ys.length]?=some y->YieldAt Fence.wide (m-1) prog lw #[(Value.agg #[.string ⟨y.id.toArray⟩,.string ⟨y.ins.toArray⟩,.int .i64 y.acq,.int .i64 y.opn,.string ⟨y.q.toArray⟩,.string ⟨y.cost.toArray⟩,.string ⟨y.used.toArray⟩])] W fun e W'=>e=.returned (.bool true)/\S (ys++[y]) W')->
  ∀W,S [] W->CallsIn Fence.wide m prog gf (#[.func (.yield lw) #[] #[]]++lb) W fun e W'=>(∃v,e=.returned v)/\S qs W'
structure CoL (w:World) (R:Loop) (d l:Nat) (ys:List Lot) (W:World):Prop where
 below:Below w.heap.size w W
 loop:W.heap[l]?=some (.loop R)
 dfr:W.heap[d]?=some (.deferred (some []))
 row:∃v,Boxed W w.heap.size 44 v/\W.ownsRow w.heap.size 130 7 v ys.length (Ye ys)
section
variable {w W W':World} {R:Loop} {d l:Nat} {ys:List Lot}
theorem CoL.mono (h:CoL w R d l ys W) (hb:Below W.heap.size W W'):CoL w R d l ys W':=
 ⟨bto h.below hb,(hb.block _ (Ag.1 h.loop).1).trans h.loop,(hb.block _ (Ag.1 h.dfr).1).trans h.dfr,by
  obtain⟨v,h1,h2⟩:=h.row
  exact⟨v,(hb.block _ h1.lt).trans h1,Z0 h2 hb⟩⟩
theorem CoL.done {R1 R2:Loop} (hR:R2=R) (hl:l≠d/\l≠w.heap.size/\w.heap.size<=l) (h:CoL w R1 d l ys W):CoL w R d l ys (W.putObj l (.loop R2)):=by
 subst hR;refine⟨Xr h.below hl.2.2,World.putObj_heap_same (Ag.1 h.loop).1,(World.putObj_heap_other (by omega)).trans h.dfr,?_⟩
 obtain⟨v,h1,h2⟩:=h.row;exact⟨v,(World.putObj_heap_other (Ne.symm hl.2.1)).trans h1,ownsRow_putObj h2 _ h.loop rfl⟩
end
theorem Jz (gf:Nat) (lb:Array Value) (qs:List Lot) (w:World) (hEn:∀args w,(callFunc gf args).run prog w=.ok (.enter gf args) w) (hI:EJ w gf lb qs) (hM:qs.length<=100000) :
  Calls prog 238 #[.slice none 0 0,.func (.func gf) #[] lb] w fun e w'=>∃v,e=.returned v/\w'.ownsRow w.heap.size 130 7 v qs.length (Ye qs)/\Below w.heap.size w w':=by
 have HI:=Lh hI;have HE:=Lh hEn;obtain⟨i0,hi,hz0,hz1,hz2⟩:=info_parts U1;have hb0:=Zb w (.cells #[.slice none 0 0] 44);clear hI hEn;refine (callsIn_wide (n:=5)).1 ?_;refine callsIn_of_wp_marks func238 rfl trivial ?_ rfl;simp only[ntmps238,List.size_toArray,List.length_cons,List.length_nil,Nat.reduceAdd,Nat.reduceSub,Array.replicate_succ,Array.replicate_zero,List.push_toArray,List.append_toArray,List.nil_append,List.cons_append]
 gi_wp2_with fail
 refine Vs (gf:=gf) (lb:=lb) rfl HE.out ?_;intro fn R hR;obtain⟨W0,hW0⟩:∃W0,W0=w.alloc (.cells #[.slice none 0 0] 44):=⟨_,rfl⟩
 have hsz:W0.heap.size=w.heap.size+1:=by rw[hW0];simp only[World.size_alloc]
 have x2:Boxed W0 w.heap.size 44 (.slice none 0 0):=by rw[hW0];exact Boxed.new _ _ _
 rw[<-hW0] at hR hb0 ⊢;clear hW0;obtain⟨W1,hW1⟩:∃W1,W1=(W0.alloc (.deferred (some []))).alloc (.loop R):=⟨_,rfl⟩
 have hbB:Below W0.heap.size W0 W1:=by rw[hW1];exact bto (Zb _ _) (Zb _ _)
 have hD:W1.heap[W0.heap.size]?=some (.deferred (some [])):=by rw[hW1];exact (Below.heap_alloc _ _ _ (by simp)).trans (World.alloc_heap_new _ _)
 have hL:W1.heap[W0.heap.size+1]?=some (.loop R):=by
  rw[hW1]
  have:=World.alloc_heap_new (W0.alloc (.deferred (some []))) (.loop R)
  rwa [World.size_alloc] at this
 rw[<-hW1];obtain⟨l,hl⟩:∃l,l=W0.heap.size+1:=⟨_,rfl⟩
 obtain⟨d,hd⟩:∃d,d=W0.heap.size:=⟨_,rfl⟩
 rw[<-hl] at hL ⊢;rw[<-hd] at hD hR ⊢;have hS0:CoL w R d l [] W1:=⟨bto hb0 hbB,hL,hD,⟨_,(hbB.block _ x2.lt).trans x2,World.ownsRow_nil _ _ _ 7⟩⟩;have n1:l≠d/\l≠w.heap.size/\w.heap.size<=l:=by omega
 have n3:w.heap.size<=d/\d≠w.heap.size:=by omega
 clear hW1 hbB hD hL x2 hb0 hsz hl hd;have hY:∀ys y W,CoL w R d l ys W->qs[ys.length]?=some y->YieldAt Fence.wide (5-1-1) prog l #[(Value.agg #[.string ⟨y.id.toArray⟩,.string ⟨y.ins.toArray⟩,.int .i64 y.acq,.int .i64 y.opn,.string ⟨y.q.toArray⟩,.string ⟨y.cost.toArray⟩,.string ⟨y.used.toArray⟩])] W fun e W'=>e=.returned (.bool true)/\CoL w R d l (ys++[y]) W':=by
  intro ys y W hS hyb;have hlen:=(Lg.1 hyb).1;have hy:=run_yield (P:=prog) (args:=#[(Value.agg #[.string ⟨y.id.toArray⟩,.string ⟨y.ins.toArray⟩,.int .i64 y.acq,.int .i64 y.opn,.string ⟨y.q.toArray⟩,.string ⟨y.cost.toArray⟩,.string ⟨y.used.toArray⟩])]) hS.loop (by rw[hR];rfl)
  refine⟨R.fn,_,R.assign,R.body,hy,roundIn_of_wpIn trivial ?_⟩;have hlW:=(Ag.1 hS.loop).1;have hSa:=hS.mono (Zb W (.cells #[.string ⟨y.id.toArray⟩,.string ⟨y.ins.toArray⟩,.int .i64 y.acq,.int .i64 y.opn,.string ⟨y.q.toArray⟩,.string ⟨y.cost.toArray⟩,.string ⟨y.used.toArray⟩] 130));have hbr:=run_beginRound (P:=prog) hSa.loop (by rw[hR])
  have hS1:CoL w { R with state:=.busy } d l ys ((W.alloc (.cells #[.string ⟨y.id.toArray⟩,.string ⟨y.ins.toArray⟩,.int .i64 y.acq,.int .i64 y.opn,.string ⟨y.q.toArray⟩,.string ⟨y.cost.toArray⟩,.string ⟨y.used.toArray⟩] 130)).putObj l (.loop { R with state:=.busy })):=CoL.done rfl n1 hSa
  have x4:Blk ((W.alloc (.cells #[.string ⟨y.id.toArray⟩,.string ⟨y.ins.toArray⟩,.int .i64 y.acq,.int .i64 y.opn,.string ⟨y.q.toArray⟩,.string ⟨y.cost.toArray⟩,.string ⟨y.used.toArray⟩] 130)).putObj l (.loop { R with state:=.busy })) W.heap.size #[.string ⟨y.id.toArray⟩,.string ⟨y.ins.toArray⟩,.int .i64 y.acq,.int .i64 y.opn,.string ⟨y.q.toArray⟩,.string ⟨y.cost.toArray⟩,.string ⟨y.used.toArray⟩]:=(Blk.new W _ 130).putO (by omega)
  obtain⟨Wc,hWc⟩:∃Wc,Wc=(W.alloc (.cells #[.string ⟨y.id.toArray⟩,.string ⟨y.ins.toArray⟩,.int .i64 y.acq,.int .i64 y.opn,.string ⟨y.q.toArray⟩,.string ⟨y.cost.toArray⟩,.string ⟨y.used.toArray⟩] 130)).putObj l (.loop { R with state:=.busy }):=⟨_,rfl⟩
  rw[<-hWc] at hbr hS1 x4;have hRe:({ { R with state:=.busy } with state:=.ready,pending:=none }:Loop)=R:=by rw[hR]
  obtain⟨R1,hR1⟩:∃R1,R1={ R with state:=.busy }:=⟨_,rfl⟩
  rw[<-hR1] at hS1 hRe;obtain⟨v,hv,hrow⟩:=hS1.row;have hbc:=hS1.below;have hc:=hv.cell;have p0:Wc.cell? ⟨W.heap.size,0,none⟩=some (.string ⟨y.id.toArray⟩):=x4.c 0;have p1:Wc.cell? ⟨W.heap.size,1,none⟩=some (.string ⟨y.ins.toArray⟩):=x4.c 1;have p2:Wc.cell? ⟨W.heap.size,2,none⟩=some (.int .i64 y.acq):=x4.c 2;have p3:Wc.cell? ⟨W.heap.size,3,none⟩=some (.int .i64 y.opn):=x4.c 3;have p4:Wc.cell? ⟨W.heap.size,4,none⟩=some (.string ⟨y.q.toArray⟩):=x4.c 4;have p5:Wc.cell? ⟨W.heap.size,5,none⟩=some (.string ⟨y.cost.toArray⟩):=x4.c 5;have p6:Wc.cell? ⟨W.heap.size,6,none⟩=some (.string ⟨y.used.toArray⟩):=x4.c 6;have HBr:=Lh hbr;have HRe:=Lh hRe;have HS2:=Lh hS1;clear hWc hbr hy hS hSa hlW hS1 hRe hR1 hS0;rw[hR]
  gi_wp2
  refine⟨_,HBr.out,?_⟩
  gi_wp2_with (gi_at_builtin;refine wpListIn_append_own _ rfl _ _ 44 rfl w.heap.size 130 i0 (.agg #[.string ⟨#[]⟩,.string ⟨#[]⟩,.int .i64 0,.int .i64 0,.string ⟨#[]⟩,.string ⟨#[]⟩,.string ⟨#[]⟩]) 7 96 underlying44 hi hz0 hz1 hz2 rfl (by decide) _ _ _ rfl (Z0 hrow (Zb _ _)) ⟨Wc.heap.size,0,none⟩ 1 1 #[.string ⟨y.id.toArray⟩,.string ⟨y.ins.toArray⟩,.int .i64 y.acq,.int .i64 y.opn,.string ⟨y.q.toArray⟩,.string ⟨y.cost.toArray⟩,.string ⟨y.used.toArray⟩].toList rfl rfl ?c1 ?c2 ?c3 ?c4 ?c5 ?_)
  try (case c1=>
    intro j u hu
    match j with
    | 0=>simp at hu;subst hu;rw[Lib.add_plain];simp[go_sem]
    | 1=>simp at hu;subst hu;rw[Lib.add_plain];simp[go_sem]
    | 2=>simp at hu;subst hu;rw[Lib.add_plain];simp[go_sem]
    | 3=>simp at hu;subst hu;rw[Lib.add_plain];simp[go_sem]
    | 4=>simp at hu;subst hu;rw[Lib.add_plain];simp[go_sem]
    | 5=>simp at hu;subst hu;rw[Lib.add_plain];simp[go_sem]
    | 6=>simp at hu;subst hu;rw[Lib.add_plain];simp[go_sem]
    | j+7=>simp at hu)
  case c2=>exact⟨rfl,rfl,rfl,rfl,rfl,rfl,rfl⟩
  case c3=>unfold maxLen;omega
  case c4=>omega
  case c5=>have:=hbc.size;simp;omega
  intro v' w1 hown' hgrow _;obtain⟨g',cap',rfl⟩:=ownsRow_succ hown';obtain⟨hv1,hv2,hr2,hk2,hb2⟩:=hv.appended (by decide) hrow hbc.size (Nl _) hown' hgrow
  have hc1:=hv1.cell;have hf1:=hv1.frozen;have HGO:Hid (CoL w R1 d l (ys++[y]) (w1.setCell ⟨w.heap.size,0,none⟩ (.slice (some ⟨g',0,none⟩) (ys.length+1) cap'))):=by
   refine⟨hbc.trans hb2,hk2.same _ _ HS2.out.loop rfl,hk2.same _ _ HS2.out.dfr rfl,_,hv2,?_⟩;have e1:(ys++[y]).length=ys.length+1:=by simp
   have e2:Ye (ys++[y])=Ye ys++#[.string ⟨y.id.toArray⟩,.string ⟨y.ins.toArray⟩,.int .i64 y.acq,.int .i64 y.opn,.string ⟨y.q.toArray⟩,.string ⟨y.cost.toArray⟩,.string ⟨y.used.toArray⟩].toList:=by
    rw[Np];rfl
   rw[e1,e2];exact hr2
  clear hown' hgrow hv1 hv2 hr2 hk2 hb2 hv hrow hc p0 p1 p2 p3 p4 p5 p6 HS2 x4
  gi_wp2
  exact⟨_,_,run_endRound (P:=prog) none HGO.out.loop,rfl,CoL.done (HRe.out.trans hR) n1 HGO.out⟩
 have key:=HI.out (5-1) l (CoL w R d l) (fun ys W h=>h.below) (fun ys W W' h hb=>h.mono hb) hY W1 hS0
 refine key.mono ?_;rintro e W2 ⟨hv,hS2⟩;refine⟨hv,hS2.loop,?_⟩;have hS3:CoL w { R with state:=.exhausted } d l qs (W2.putObj l (.loop { R with state:=.exhausted })):=CoL.done rfl n1 hS2
 obtain⟨W3,hW3⟩:∃W3,W3=W2.putObj l (.loop { R with state:=.exhausted }):=⟨_,rfl⟩
 rw[<-hW3] at hS3 ⊢;obtain⟨v,hv,hrow⟩:=hS3.row;have q0:=hv.cell;have hD5:=hS3.dfr;have hb5:=hS3.below;have HR:=Lh (ownsRow_putObj hrow (.deferred none) hD5 rfl);clear hW3 hS3 key hY hS2 hS0 hrow HI
 gi_wp2
 refine⟨by simp,.inl ⟨_,_,rfl,run_takeDeferred hD5,?_⟩⟩
 refine⟨_,results_tmp rfl _ _ _,v,rfl,HR.out,Xr hb5 n3.1⟩
theorem EK (gf:Nat) (lb:Array Value) (qs:List Lot) (w:World) (hEn:∀args w,(callFunc gf args).run prog w=.ok (.enter gf args) w) (hI:EJ w gf lb qs) (hM:qs.length<=100000) :
  Calls prog 187 #[.func (.func gf) #[] lb] w fun e w'=>∃v,e=.returned v/\w'.ownsRow w.heap.size 130 7 v qs.length (Ye qs)/\Below w.heap.size w w':=by
 have C1:=Lh (Jz gf lb qs w hEn hI hM);clear hEn hI;go_enter func187,ntmps187;go_wp2_with fail;refine C1.out.mono ?_;rintro e w2 ⟨v,rfl,h1,h2⟩;go_wp2;go_ret;exact⟨_,rfl,h1,h2⟩
end Go.Proofs.YtpieeldbamklkaaGreatDoor
namespace Go.Proofs
open Go.Shelf
def Tryz.cloneLt_ren:Go.Shelf.Ren:=⟨fun|41=>58|n=>n,fun|22=>44|23=>130|4=>4|n=>n,fun|n=>n⟩
theorem Tryz.cloneLt:Go.Proofs.SlLaysE0.n41 prog Tryz.cloneLt_ren:={
 mixed:=by kernel_rfl
 f41:=⟨Tryz.f58.name,by decide,func58.trans (congrArg some (by kernel_rfl))⟩
 t4:=underlying4
 a4:=isAgg4
 z4:=sizeOf4
 v4:=zeroValue4
 t22:=underlying44
 a22:=isAgg44
 z22:=sizeOf44
 v22:=zeroValue44 }
end Go.Proofs
namespace Go.Proofs.YtpieeldbamklkaaGreatDoor
open Go.RowKit Num
theorem We (x:Lot) (xs:List Lot):Ye (x::xs)=.string ⟨x.id.toArray⟩::.string ⟨x.ins.toArray⟩::.int .i64 x.acq::.int .i64 x.opn::.string ⟨x.q.toArray⟩::.string ⟨x.cost.toArray⟩::.string ⟨x.used.toArray⟩::Ye xs:=rfl
def lcs (x:Lot):List Value:=[.string ⟨x.id.toArray⟩,.string ⟨x.ins.toArray⟩,.int .i64 x.acq,.int .i64 x.opn,.string ⟨x.q.toArray⟩,.string ⟨x.cost.toArray⟩,.string ⟨x.used.toArray⟩]
theorem B7 (x:Lot):(lcs x).length=7:=rfl
theorem Vx:∀{xs:List Lot} {i:Nat} {x:Lot},xs[i]?=some x->∀j,j<7->(Ye xs)[i*7+j]?=(lcs x)[j]?
 | [],i,x,h=>by simp at h
 | y::xs,0,x,h=>by
  have:y=x:=by simpa using h
  subst this;intro j hj;rw[We,Nat.zero_mul,Nat.zero_add]
  match j,hj with
  | 0,_|1,_|2,_|3,_|4,_|5,_|6,_=>rfl
 | y::xs,i+1,x,h=>by
  intro j hj;have h1:=Vx (xs:=xs) (i:=i) (x:=x) (by simpa using h) j hj
  rw[We,show (i+1)*7+j=i*7+j+1+1+1+1+1+1+1 by omega]
  simpa using h1
theorem Qz:∀{xs:List Lot} {j:Nat} {u:Value},(Ye xs)[j]?=some u->∃x,xs[j / 7]?=some x/\(lcs x)[j % 7]?=some u
 | [],j,u,h=>by simp[Ye] at h
 | y::xs,j,u,h=>by
  by_cases hj:j<7
  ·refine⟨y,by rw[Nat.div_eq_of_lt hj];rfl,?_⟩
   rw[Nat.mod_eq_of_lt hj,<-h]
   have:=Vx (xs:=y::xs) (i:=0) (x:=y) rfl j hj
   rw[Nat.zero_mul,Nat.zero_add] at this;exact this.symm
  ·obtain⟨k,rfl⟩:∃k,j=k+7:=⟨j-7,by omega⟩
   rw[We] at h;obtain⟨x,h1,h2⟩:=Qz (xs:=xs) (j:=k) (u:=u) (by simpa using h)
   exact⟨x,by rw[show (k+7) / 7=k / 7+1 by omega];simpa using h1,by rw[show (k+7) % 7=k % 7 by omega];exact h2⟩
theorem QA:∀{xs:List Lot} {i:Nat} (y:Lot),i<xs.length->(((((((Ye xs).set (i*7) (.string ⟨y.id.toArray⟩)).set (i*7+1) (.string ⟨y.ins.toArray⟩)).set (i*7+2) (.int .i64 y.acq)).set (i*7+3) (.int .i64 y.opn)).set (i*7+4) (.string ⟨y.q.toArray⟩)).set (i*7+5) (.string ⟨y.cost.toArray⟩)).set (i*7+6) (.string ⟨y.used.toArray⟩)=Ye (xs.set i y)
 | [],i,y,h=>by simp at h
 | x::xs,0,y,_=>rfl
 | x::xs,i+1,y,h=>by
  have h1:=QA (xs:=xs) (i:=i) y (by simpa using h)
  rw[We,show (i+1)*7=i*7+1+1+1+1+1+1+1 by omega]
  simp only[Nat.add_assoc,Nat.reduceAdd] at h1 ⊢
  simp only[show i*7+7=(i*7)+1+1+1+1+1+1+1 by omega,show i*7+8=(i*7+1)+1+1+1+1+1+1+1 by omega,show i*7+9=(i*7+2)+1+1+1+1+1+1+1 by omega,show i*7+10=(i*7+3)+1+1+1+1+1+1+1 by omega,
   show i*7+11=(i*7+4)+1+1+1+1+1+1+1 by omega,show i*7+12=(i*7+5)+1+1+1+1+1+1+1 by omega,show i*7+13=(i*7+6)+1+1+1+1+1+1+1 by omega,List.set_cons_succ]
  rw[h1];rfl
def Yo (w:World) (g:Nat) (qs:List Lot):Prop:=∃cur:Array Value,w.heap[g]?=some (.cells cur 130 (0,0))/\cur.toList.take (qs.length*7)=Ye qs/\qs.length*7<=cur.size
theorem Yi {w:World} {g o:Nat} {cur:Array Value} {t:TypeId} (v:Value) (h:w.heap[g]?=some (.cells cur t (0,0))):(w.setCell ⟨g,o,none⟩ v).heap[g]?=some (.cells (cur.setIfInBounds o v) t (0,0)):=by
 obtain⟨hlt,hk⟩:=Ag.1 h;show (w.heap.modify g _)[g]?=_;rw[Array.getElem?_eq_getElem (by rw[Array.size_modify];exact hlt),Array.getElem_modify_self,hk]
 rfl
section
variable {w w':World} {g b i:Nat} {qs:List Lot}
theorem Yo.lt (h:Yo w g qs):g<w.heap.size:=by obtain⟨cur,h,-⟩:=h;exact (Ag.1 h).1
theorem Yo.below (h:Yo w g qs) (hb:Below w.heap.size w w'):Yo w' g qs:=by
 have hl:=h.lt;obtain⟨cur,h,h2⟩:=h;exact⟨cur,(hb.block g hl).trans h,h2⟩
theorem Yo.keepX {X:Nat->Prop} (h:Yo w g qs) (hb:Zq X w w') (hx:¬X g):Yo w' g qs:=by
 have hl:=h.lt;obtain⟨cur,h,h2⟩:=h;exact⟨cur,(hb.block g hl hx).trans h,h2⟩
theorem Yo.range {x:Lot} (h:Yo w g qs) (hx:qs[i]?=some x):w.rangeAt g (i*7) (lcs x):=fun j v hv=>by
 obtain⟨cur,hh,ht,hs⟩:=h;have hi:=(Lg.1 hx).1;have hj:j<7:=(Lg.1 hv).1;have h1:=Vx hx j hj;rw[Zg hh,<-hv,<-h1,<-ht,List.getElem?_take,if_pos (by omega),Array.getElem?_toList]
theorem Yo.there (h:Yo w g qs) (hi:i<qs.length):w.there g (i*7) 7:=fun j hj=>by
 obtain⟨x,hx⟩:∃x,qs[i]?=some x:=⟨_,List.getElem?_eq_getElem hi⟩
 have h1:=h.range hx j _ (List.getElem?_eq_getElem (by rw[B7];exact hj))
 obtain⟨cur,hh,-⟩:=h;exact⟨by rw[h1];rfl,Zn hh _⟩
theorem Yo.cells {x:Lot} (h:Yo w g qs) (hx:qs[i]?=some x):P5 w g (i*7) x:=
 ⟨h.range hx 0 _ rfl,h.range hx 1 _ rfl,h.range hx 2 _ rfl,h.range hx 3 _ rfl,h.range hx 4 _ rfl,h.range hx 5 _ rfl,h.range hx 6 _ rfl⟩
theorem Yo.lotAt (h:Yo w g qs):Yc w (some ⟨g,0,none⟩) qs:=fun i t ht=>⟨g,0,rfl,h.lt,by rw[Nat.zero_add];exact h.cells ht⟩
theorem Yo.set (h:Yo w g qs) (y:Lot) (hi:i<qs.length):Yo (w.setCells g (i*7) (lcs y)) g (qs.set i y):=by
 obtain⟨cur,hh,ht,hs⟩:=h;refine⟨_,Yi _ (Yi _ (Yi _ (Yi _ (Yi _ (Yi _ (Yi _ hh)))))),?_,by simpa using hs⟩
 rw[List.length_set];simp only[Array.toList_setIfInBounds,List.take_set,ht];exact QA y hi
end
theorem Lp {w:World} {base n c:Nat} {A:Option Addr} {qs:List Lot} (h:w.ownsRow base 130 7 (.slice A n c) n (Ye qs)) (hn:n=qs.length) (h0:0<n):∃g,A=some ⟨g,0,none⟩/\base<=g/\Yo w g qs:=by
 rcases h.2 with ⟨hv,h1⟩|⟨g,cap,cur,hv,hb,hh,hcap,_,hsz,htk⟩
 ·omega
 ·injection hv with h1 _ h3
  subst h1 h3;refine⟨g,rfl,hb,cur,hh,by rw[<-hn];exact htk,by omega⟩
theorem Nq (A:Option Addr) (ps:List Lot) (n c:Nat) (w:World) (hn:ps.length=n) (h0:0<n) (hn2:n<=1000000) (h:Yc w A ps) :
  Calls prog 58 #[.slice A n c] w fun e w'=>∃g cp,e=.returned (.slice (some ⟨g,0,none⟩) n cp)/\w.heap.size<=g/\Yo w' g ps/\Below w.heap.size w w':=by
 obtain⟨x0,hx0⟩:∃x,ps[0]?=some x:=⟨_,List.getElem?_eq_getElem (by omega)⟩
 obtain⟨b,o,rfl,hbs,-⟩:=h 0 x0 hx0;obtain⟨i0,e0,e1,e2,e3⟩:=info_parts U1;refine (AnyE.slices_Clone Tryz.cloneLt i0 _ 7 96 e0 e1 e2 e3 rfl (by decide) sizeOf130 b o n c (Ye ps) w (by rw[V3,hn]) (by unfold maxLen;omega) (by omega) (fun j u hu=>?_) (V4 ps)).mono ?_
 ·obtain⟨x,h1,h2⟩:=Qz hu;obtain⟨b',o',hA,-,hc⟩:=h (j / 7) x h1;cases hA;have hlt:j % 7<7:=Nat.mod_lt _ (by decide)
  have ej:o+j=o+j / 7*7+j % 7:=by omega
  rw[ej];generalize j % 7=m at *
  match m,hlt with
  | 0,_=>cases h2;exact hc.c0
  | 1,_=>cases h2;exact hc.c1
  | 2,_=>cases h2;exact hc.c2
  | 3,_=>cases h2;exact hc.c3
  | 4,_=>cases h2;exact hc.c4
  | 5,_=>cases h2;exact hc.c5
  | 6,_=>cases h2;exact hc.c6
 ·rintro e w' ⟨v,rfl,hown,-,hb⟩;have hown':w'.ownsRow w.heap.size 130 7 v n (Ye ps):=hown;obtain⟨B,cp,rfl⟩:∃A c,v=.slice A n c:=by
   rcases hown'.2 with ⟨hv,h1⟩|⟨g,cap,cur,hv,-⟩
   ·omega
   ·exact⟨_,_,hv⟩
  obtain⟨g,rfl,hg,hr⟩:=Lp hown' hn.symm h0;exact⟨g,cp,rfl,hg,hr,hb⟩
theorem GF {xs:List Lot} {i j:Nat} {x y:Lot} (hi:xs[i]?=some x) (hj:xs[j]?=some y):((xs.set i y).set j x).Perm xs:=by
 obtain⟨hi1,hi2⟩:=Lg.1 hi;obtain⟨hj1,hj2⟩:=Lg.1 hj;rw[List.perm_iff_count];intro a
 by_cases hij:i=j
 ·subst hij
  have:x=y:=by rw[hi] at hj;exact Option.some.inj hj
  subst this;rw[List.set_set];congr 1;rw[<-hi2];exact List.set_getElem_self hi1
 ·rw[List.count_set (by simpa using hj1),List.count_set hi1,List.getElem_set_ne hij,hi2,hj2]
  have h1:(if x==a then 1 else 0)<=xs.count a:=by
   split
   ·rename_i h;rw[beq_iff_eq] at h;subst h;exact List.count_pos_iff.2 (Lm hi)
   ·exact Nat.zero_le _
  have h2:(if y==a then 1 else 0)<=xs.count a:=by
   split
   ·rename_i h;rw[beq_iff_eq] at h;subst h;exact List.count_pos_iff.2 (Lm hj)
   ·exact Nat.zero_le _
  generalize xs.count a=c at *
  by_cases e1:(x==a)=true<;>by_cases e2:(y==a)=true<;>simp only[e1,e2,if_true,if_false,Bool.false_eq_true] at *<;>omega
open Go.Shelf
attribute [local go_sem] Oper.semAt_some
def ofL (ins:List UInt8) (xs:List Lot):List Lot:=xs.filter (fun x=>x.ins==ins)
theorem Tn {ins:List UInt8} {x:Lot} {r:List Lot} (h:x.ins=ins):ofL ins (x::r)=x::ofL ins r:=by unfold ofL;rw[List.filter_cons_of_pos (by simpa using h)]
theorem Mp {ins:List UInt8} {x:Lot} {r:List Lot} (h:¬x.ins=ins):ofL ins (x::r)=ofL ins r:=by unfold ofL;rw[List.filter_cons_of_neg (by simpa using h)]
def ZbO (Kp:World->Prop) (gf:Nat) (lb:Array Value) (qs:List Lot):Prop:=
 ∀(m lw:Nat) (S:List Lot->World->Prop),(∀ys W,S ys W->Kp W)->(∀ys W W',S ys W->Below W.heap.size W W'->S ys W')->
  (∀ys y W,S ys W->qs[ys.length]?=some y->YieldAt Fence.wide (m-1) prog lw #[(Value.agg #[.string ⟨y.id.toArray⟩,.string ⟨y.ins.toArray⟩,.int .i64 y.acq,.int .i64 y.opn,.string ⟨y.q.toArray⟩,.string ⟨y.cost.toArray⟩,.string ⟨y.used.toArray⟩])] W fun e W'=>e=.returned (.bool true)/\S (ys++[y]) W')->
  ∀W,S [] W->CallsIn Fence.wide m prog gf (#[.func (.yield lw) #[] #[]]++lb) W fun e W'=>(∃v,e=.returned v)/\S qs W'
theorem IP (bl bi:Nat) (ins:List UInt8) (A:Option Addr) (xs:List Lot) (n c:Nat) (hn:xs.length=n) (hn3:n<=100000) :
  ZbO (fun W=>Yc W A xs/\Blk W bl #[.slice A n c]/\Blk W bi #[.string ⟨ins.toArray⟩]) 141 #[.pointer (some ⟨bl,0,none⟩),.pointer (some ⟨bi,0,none⟩)] (ofL ins xs):=by
 intro m lw S hSB hSm hY W hS;have HB:=Lh hSB;have HM:=Lh hSm;have HY:=Lh hY;have HX:=Lh hS;have hn1:xs.length<=n:=by omega
 have hn2:n<=xs.length:=by omega
 have hbl':=(hSB _ _ hS).2.1;have q0:W.cell? ⟨bl,0,none⟩=some (.slice A n c):=hbl'.c 0;clear hSB hSm hY hS hn hbl';show CallsIn Fence.wide m prog 141 #[.func (.yield lw) #[] #[],.pointer (some ⟨bl,0,none⟩),.pointer (some ⟨bi,0,none⟩)] W _;refine callsIn_of_wp func141 rfl trivial ?_ rfl;simp only[ntmps141,List.size_toArray,List.length_cons,List.length_nil,Nat.reduceAdd,Nat.reduceSub,Array.replicate_succ,Array.replicate_zero,List.push_toArray,List.append_toArray,List.nil_append,List.cons_append]
 gi_wp2_with fail
 clear q0
 gi_loopw [5,8] (fun _ iv wr=>∃(k:Nat) (ys:List Lot),k<=n/\iv=.int .i64 (k:Int)/\Hid (ys++ofL ins (xs.drop k)=ofL ins xs)/\Hid (S ys wr)) (fun _ iv _=>n-(intOf iv).toNat)
 case atStart=>exact⟨0,[],Nat.zero_le _,rfl,rfl,HX.out⟩
 case round=>
  clear HX;obtain⟨k,ys,hk,rfl,HQ,HX⟩:=hrel;obtain⟨hLt,-,hbi⟩:=HB.out _ _ HX.out
  by_cases hlk:k<n
  rotate_left
  ·have HE:Hid (S (ofL ins xs) wr):=by
    have h1:=HQ.out;rw[List.drop_of_length_le (by omega),show ofL ins []=[] from rfl,List.append_nil] at h1
    show S _ wr;rw[<-h1];exact HX.out
   have e1:decide (k<n)=false:=Df hlk;clear HQ HX hLt hbi
   gi_wp2
   go_end0
   exact⟨⟨_,rfl⟩,HE.out⟩
  have e1:decide (k<n)=true:=Dt hlk;obtain⟨x,hxk⟩:∃x,xs[k]?=some x:=⟨_,List.getElem?_eq_getElem (by omega)⟩
  obtain⟨b,o,rfl,hbs,hc0⟩:=hLt k x hxk;have HD:Hid (xs.drop k=x::xs.drop (k+1)):=by
   obtain⟨hk',rfl⟩:=Lg.1 hxk;exact List.drop_eq_getElem_cons hk'
  clear hxk;have p0:=hc0.c0;have p1:=hc0.c1;have p2:=hc0.c2;have p3:=hc0.c3;have p4:=hc0.c4;have p5:=hc0.c5;have p6:=hc0.c6;have hbA:=Zb wr (.cells #[.string ⟨x.id.toArray⟩,.string ⟨x.ins.toArray⟩,.int .i64 x.acq,.int .i64 x.opn,.string ⟨x.q.toArray⟩,.string ⟨x.cost.toArray⟩,.string ⟨x.used.toArray⟩] 130);have x5:=YS.new wr x 130;obtain⟨W1,hW1⟩:∃W1,W1=wr.alloc (.cells #[.string ⟨x.id.toArray⟩,.string ⟨x.ins.toArray⟩,.int .i64 x.acq,.int .i64 x.opn,.string ⟨x.q.toArray⟩,.string ⟨x.cost.toArray⟩,.string ⟨x.used.toArray⟩] 130):=⟨_,rfl⟩
  rw[<-hW1] at hbA x5;have HX1:=Lh (HM.out _ _ _ HX.out hbA);have hbi':W1.cell? ⟨bi,0,none⟩=some (.string ⟨ins.toArray⟩):=(hbi.below hbA).c 0;have q1:=x5.c1;rw[hW1] at hbi' q1
  by_cases hi:x.ins=ins
  ·have e3:(x.ins==ins)=true:=by rw[beq_iff_eq];exact hi
   have hq:(ofL ins xs)[ys.length]?=some x:=by
    rw[<-HQ.out,HD.out,Tn hi];simp
   have HQ2:Hid ((ys++[x])++ofL ins (xs.drop (k+1))=ofL ins xs):=by
    show _=_;rw[List.append_assoc,List.singleton_append,<-HQ.out,HD.out,Tn hi]
   have HYY:=Lh (HY.out ys x W1 HX1.out hq);have q0:=x5.c0;have q2:=x5.c2;have q3:=x5.c3;have q4:=x5.c4;have q5:=x5.c5;have q6:=x5.c6;rw[hW1] at q0 q2 q3 q4 q5 q6;clear hi hq HX HX1 HQ HD hLt hbi hbA x5 hc0
   gi_wp2_with fail
   rw[<-hW1];obtain⟨fn,tmps,assign,body,hyr,hR⟩:=HYY.out;rw[hyr];refine⟨fun h=>(by cases h),hR.mono ?_⟩
   rintro e W3 ⟨rfl,hS3⟩;have HX4:=Lh hS3;clear hS3 hR hyr hW1
   gi_wp2
   go_roundw
   case rel=>exact⟨k+1,ys++[x],by omega,by go_num,HQ2.out,HX4.out⟩
   case measure=>simp[intOf];omega
  ·have e3:(x.ins==ins)=false:=by rw[Bn];exact hi
   have HQ2:Hid (ys++ofL ins (xs.drop (k+1))=ofL ins xs):=by show _=_;rw[<-HQ.out,HD.out,Mp hi]
   rw[hW1] at HX1;clear hi HX HQ HD hLt hbi hbA x5 hc0 hW1
   gi_wp2_with fail
   refine⟨fun f h=>(by cases h),?_⟩
   gi_wp2
   go_roundw
   case rel=>exact⟨k+1,ys,by omega,by go_num,HQ2.out,HX1.out⟩
   case measure=>simp[intOf];omega
theorem ZaX (bl bi:Nat) (ins:List UInt8) (A:Option Addr) (xs:List Lot) (n c:Nat) (w:World) (hn:xs.length=n) (hn3:n<=100000) (h:Yc w A xs) (hbl:Blk w bl #[.slice A n c]) (hbi:Blk w bi #[.string ⟨ins.toArray⟩]) :
  EJ w 141 #[.pointer (some ⟨bl,0,none⟩),.pointer (some ⟨bi,0,none⟩)] (ofL ins xs):=fun m lw S h1 h2 h3 W h4=>
 IP bl bi ins A xs n c hn hn3 m lw S (fun ys W hS=>⟨h.below (h1 ys W hS),hbl.below (h1 ys W hS),hbi.below (h1 ys W hS)⟩) h2 h3 W h4
theorem EL (A:Option Addr) (n c:Nat) (ins:List UInt8) (w:World) :
  Calls prog 65 #[.slice A n c,.string ⟨ins.toArray⟩] w fun e w'=>e=.returned (.func (.func 141) #[] #[.pointer (some ⟨w.heap.size,0,none⟩),.pointer (some ⟨w.heap.size+1,0,none⟩)])/\w'=(w.alloc (.cells #[.slice A n c] 44)).alloc (.cells #[.string ⟨ins.toArray⟩] 9):=by
 go_enter func65,ntmps65;go_wp2_with fail;go_ret;exact⟨rfl,rfl⟩
theorem Lq (args:Array Value) (w:World):(callFunc 141 args).run prog w=.ok (.enter 141 args) w:=by kernel_rfl
theorem lOf {w:World} {A:Option Addr} {xs:List Lot} {n:Nat} (c:Nat) (ins:List UInt8) (hL:Yf w A xs n) :
  Calls prog 123 #[.slice A n c,.string ⟨ins.toArray⟩] w fun e w'=>∃v,e=.returned v/\w'.ownsRow w.heap.size 130 7 v (ofL ins xs).length (Ye (ofL ins xs))/\Below w.heap.size w w':=by
 have hl:(ofL ins xs).length<=100000:=Nt (List.length_filter_le _ _) (by rw[hL.len];exact hL.big)
 have hb1:=Zb w (.cells #[.slice A n c] 44);have hb2:=Zb (w.alloc (.cells #[.slice A n c] 44)) (.cells #[.string ⟨ins.toArray⟩] 9);have x1:=(Blk.new w #[.slice A n c] 44).below hb2;have x2:=Blk.new (w.alloc (.cells #[.slice A n c] 44)) #[.string ⟨ins.toArray⟩] 9;rw[World.size_alloc] at x2;have hb:=bto hb1 hb2;have hI:=ZaX w.heap.size (w.heap.size+1) ins A xs n c _ hL.len hL.big (hL.mem.below hb) x1 x2;have C1:=Lh (EL A n c ins w);clear hb1 hb2 x1 x2;have C2:=Lh (EK 141 _ (ofL ins xs) _ Lq hI hl);obtain⟨W,hW⟩:∃W,W=(w.alloc (.cells #[.slice A n c] 44)).alloc (.cells #[.string ⟨ins.toArray⟩] 9):=⟨_,rfl⟩
 rw[<-hW] at C1 C2 hb;have hsz:w.heap.size<=W.heap.size:=hb.size;clear hW hI hl;go_enter func123,ntmps123;go_wp2_with fail
 refine C1.out.mono ?_
 rintro e w1 ⟨rfl,rfl⟩;go_wp2_with fail;refine C2.out.mono ?_;rintro e w2 ⟨v,rfl,h1,h2⟩;go_wp2;go_ret;exact⟨_,rfl,GD h1 hsz,bto hb h2⟩
def ZL (xs:List Lot):Int:=(xs.map (fun x=>val x.q)).sum
def Yp (xs:List Lot):Int:=(xs.map (fun x=>val x.cost)).sum
theorem JA (xs:List Lot) (x:Lot):ZL (xs++[x])=ZL xs+val x.q:=by simp[ZL]
theorem JB (xs:List Lot) (x:Lot):Yp (xs++[x])=Yp xs+val x.cost:=by simp[Yp]
theorem EM (f:Lot->Int) (K:Nat):∀(xs:List Lot),(∀x∈xs,(f x).natAbs<=K)->((xs.map f).sum).natAbs<=xs.length*K
 | [],_=>by simp
 | x::r,h=>by
  have h1:=EM f K r (fun y hy=>h y (List.mem_cons_of_mem _ hy))
  have h2:=h x List.mem_cons_self;have h3:=Int.natAbs_add_le (f x) ((r.map f).sum);rw[List.map_cons,List.sum_cons,List.length_cons,Nat.add_mul,Nat.one_mul];omega
theorem YB (e:Nat) (f:Lot->List UInt8) (xs:List Lot) (hx:∀x∈xs,(f x).length<=e) (hn:xs.length<=100000):(canon ((xs.map (fun x=>val (f x))).sum)).length<=e+8:=by
 have h1:=EM (fun x=>val (f x)) (10 ^ e) xs (fun x h=>Nat.le_of_lt (Zo (hx x h)))
 refine Nt (Zl _ (e+6) ?_) (by omega)
 have h2:xs.length*10 ^ e<=100000*10 ^ e:=Nat.mul_le_mul_right _ hn;have h3:(100000:Nat)*10 ^ e<10 ^ (e+6):=by
  rw[Nat.pow_add,Nat.mul_comm];exact Nat.mul_lt_mul_of_pos_left (by decide) (Nat.pow_pos (by decide))
 omega
theorem VS (f:Lot->List UInt8) (xs:List Lot) (hx:∀x∈xs,(f x).length<=1000) (hn:xs.length<=100000):(canon ((xs.map (fun x=>val (f x))).sum)).length<=100000:=
 Nt (YB 1000 f xs hx hn) (by decide)
structure XF (w:World) (v1 v2:Value) (R:Loop) (d l:Nat) (ys:List Lot) (W:World):Prop where
 b1:Blk W (w.heap.size+1+1) #[v1]
 b2:Blk W (w.heap.size+1+1+1) #[v2]
 below:Below w.heap.size w W
 loop:W.heap[l]?=some (.loop R)
 dfr:W.heap[d]?=some (.deferred (some []))
 qb:Blk W w.heap.size #[.string ⟨(canon (ZL ys)).toArray⟩]
 cb:Blk W (w.heap.size+1) #[.string ⟨(canon (Yp ys)).toArray⟩]
 sm:ys.length<=100000/\∀y∈ys,Qw y
section
variable {w W W':World} {v1 v2:Value} {R:Loop} {d l:Nat} {ys:List Lot}
theorem XF.mono (h:XF w v1 v2 R d l ys W) (hb:Below W.heap.size W W'):XF w v1 v2 R d l ys W':=
 ⟨h.b1.below hb,h.b2.below hb,bto h.below hb,(hb.block _ (Ag.1 h.loop).1).trans h.loop,(hb.block _ (Ag.1 h.dfr).1).trans h.dfr,h.qb.below hb,h.cb.below hb,h.sm⟩
theorem XF.done {R1 R2:Loop} (hR:R2=R) (hl:l≠d/\w.heap.size+3<l) (h:XF w v1 v2 R1 d l ys W):XF w v1 v2 R d l ys (W.putObj l (.loop R2)):=by
 subst hR;exact⟨h.b1.putO (by omega),h.b2.putO (by omega),Xr h.below (by omega),World.putObj_heap_same (Ag.1 h.loop).1,(World.putObj_heap_other (by omega)).trans h.dfr,h.qb.putO (by omega),h.cb.putO (by omega),h.sm⟩
theorem XF.step {X:Nat->Prop} (h:XF w v1 v2 R d l ys W) {y:Lot} (hy:Qw y) (hn:ys.length<100000) (hX:∀k,X k->k=w.heap.size∨k=w.heap.size+1) (hl:w.heap.size+1<l/\w.heap.size+1<d) (hb:Zq X W W')
  (h1:Blk W' w.heap.size #[.string ⟨(canon (ZL ys+val y.q)).toArray⟩]) (h2:Blk W' (w.heap.size+1) #[.string ⟨(canon (Yp ys+val y.cost)).toArray⟩]):XF w v1 v2 R d l (ys++[y]) W':=by
 refine⟨h.b1.keepX hb (fun hx=>by rcases hX _ hx with e|e<;>omega),h.b2.keepX hb (fun hx=>by rcases hX _ hx with e|e<;>omega),hb.lower h.below (fun k hk=>by rcases hX k hk with rfl|rfl<;>omega),(hb.block _ (Ag.1 h.loop).1 (fun hx=>by rcases hX _ hx with e|e<;>omega)).trans h.loop,(hb.block _ (Ag.1 h.dfr).1 (fun hx=>by rcases hX _ hx with e|e<;>omega)).trans h.dfr,?_,?_,⟨by simp;omega,fun z hz=>?_⟩⟩
 ·rw[JA];exact h1
 ·rw[JB];exact h2
 ·rcases List.mem_append.1 hz with hz|hz
  ·exact h.sm.2 z hz
  ·rw[List.mem_singleton.1 hz];exact hy
end
theorem Mq {w:World} {A:Option Addr} {xs:List Lot} {n:Nat} (c:Nat) (ins:List UInt8) (hG:GE w) (hL:Yf w A xs n) :
  Calls prog 21 #[.slice A n c,.string ⟨ins.toArray⟩] w fun e w'=>e=.returned (.tuple #[.string ⟨(canon (ZL (ofL ins xs))).toArray⟩,.string ⟨(canon (Yp (ofL ins xs))).toArray⟩])/\Below w.heap.size w w':=by
 have hsm:∀y∈ofL ins xs,Qw y:=fun y hy=>hL.sm y (List.mem_filter.1 hy).1
 have hln:(ofL ins xs).length<=100000:=Nt (List.length_filter_le _ _) (by rw[hL.len];exact hL.big)
 have hb1:=Zb w (.cells #[.string ⟨#[]⟩] 32);have hb2:=Zb (w.alloc (.cells #[.string ⟨#[]⟩] 32)) (.cells #[.string ⟨#[]⟩] 32);have y6:=(Blk.new w #[.string ⟨#[]⟩] 32).below hb2;have y7:=Blk.new (w.alloc (.cells #[.string ⟨#[]⟩] 32)) #[.string ⟨#[]⟩] 32;rw[World.size_alloc] at y7;have hb:=bto hb1 hb2;obtain⟨wa,hwa⟩:∃wa,wa=(w.alloc (.cells #[.string ⟨#[]⟩] 32)).alloc (.cells #[.string ⟨#[]⟩] 32):=⟨_,rfl⟩
 have hsa:wa.heap.size=w.heap.size+1+1:=by rw[hwa,World.size_alloc,World.size_alloc]
 have HWa:=Lh hwa;rw[<-hwa] at y6 y7 hb;have hb3:=Zb wa (.cells #[.slice A n c] 44);have hb4:=Zb (wa.alloc (.cells #[.slice A n c] 44)) (.cells #[.string ⟨ins.toArray⟩] 9);have x1:=(Blk.new wa #[.slice A n c] 44).below hb4;have x2:=Blk.new (wa.alloc (.cells #[.slice A n c] 44)) #[.string ⟨ins.toArray⟩] 9;rw[World.size_alloc] at x2;have hb34:=bto hb3 hb4;replace y6:=y6.below hb34;replace y7:=y7.below hb34;have hI:=IP (w.heap.size+1+1) (w.heap.size+1+1+1) ins A xs n c hL.len hL.big;have hLm:=Lh hL.mem;have C1:=Lh (EL A n c ins wa);replace hb:=bto hb hb34;obtain⟨W0,hW0⟩:∃W0,W0=(wa.alloc (.cells #[.slice A n c] 44)).alloc (.cells #[.string ⟨ins.toArray⟩] 9):=⟨_,rfl⟩
 have hs0:W0.heap.size=wa.heap.size+1+1:=by rw[hW0,World.size_alloc,World.size_alloc]
 rw[<-hW0] at C1 y6 y7 hb x1 x2;rw[hsa] at x1 x2;have HI:=Lh hI;have HSM:=Lh hsm;clear hW0 hb1 hb2 hb3 hb4 hb34 hI hwa hsm hL;refine (callsIn_wide (n:=5)).1 ?_;refine callsIn_of_wp_marks func21 rfl trivial ?_ rfl;simp only[ntmps21,List.size_toArray,List.length_cons,List.length_nil,Nat.reduceAdd,Nat.reduceSub,Array.replicate_succ,Array.replicate_zero,List.push_toArray,List.append_toArray,List.nil_append,List.cons_append]
 gi_wp2_with fail
 refine⟨trivial,?_⟩;rw[<-HWa.out]
 (refine (callsIn_wide.2 C1.out).mono ?_)
 rintro e W0 ⟨rfl,rfl⟩
 gi_wp2_with fail
 refine Vs (gf:=141) (lb:=#[.pointer (some ⟨w.heap.size+1+1,0,none⟩),.pointer (some ⟨w.heap.size+1+1+1,0,none⟩)]) rfl Lq ?_;intro fn R hR;obtain⟨W1,hW1⟩:∃W1,W1=(W0.alloc (.deferred (some []))).alloc (.loop R):=⟨_,rfl⟩
 have hbB:Below W0.heap.size W0 W1:=by rw[hW1];exact bto (Zb _ _) (Zb _ _)
 have hD:W1.heap[W0.heap.size]?=some (.deferred (some [])):=by rw[hW1];exact (Below.heap_alloc _ _ _ (by simp)).trans (World.alloc_heap_new _ _)
 have hL:W1.heap[W0.heap.size+1]?=some (.loop R):=by
  rw[hW1]
  have:=World.alloc_heap_new (W0.alloc (.deferred (some []))) (.loop R)
  rwa [World.size_alloc] at this
 rw[<-hW1];obtain⟨l,hl⟩:∃l,l=W0.heap.size+1:=⟨_,rfl⟩
 obtain⟨d,hd⟩:∃d,d=W0.heap.size:=⟨_,rfl⟩
 rw[<-hl] at hL ⊢;rw[<-hd] at hD hR ⊢;have hS0:XF w (.slice A n c) (.string ⟨ins.toArray⟩) R d l [] W1:=⟨x1.below hbB,x2.below hbB,bto hb hbB,hL,hD,y6.below hbB,y7.below hbB,by simp,fun q hq=>by cases hq⟩
 have n1:l≠d/\w.heap.size+3<l:=by omega
 have n2:w.heap.size+1<l/\w.heap.size+1<d:=by omega
 have n3:w.heap.size<=d:=by omega
 have n4:w.heap.size≠d/\w.heap.size+1≠d:=by omega
 clear hW1 hbB hD hL y6 y7 x1 x2 hl hd hs0 hb C1 HWa hsa;have hY:∀ys y W,XF w (.slice A n c) (.string ⟨ins.toArray⟩) R d l ys W->(ofL ins xs)[ys.length]?=some y->YieldAt Fence.wide (5-1-1) prog l #[(Value.agg #[.string ⟨y.id.toArray⟩,.string ⟨y.ins.toArray⟩,.int .i64 y.acq,.int .i64 y.opn,.string ⟨y.q.toArray⟩,.string ⟨y.cost.toArray⟩,.string ⟨y.used.toArray⟩])] W fun e W'=>e=.returned (.bool true)/\XF w (.slice A n c) (.string ⟨ins.toArray⟩) R d l (ys++[y]) W':=by
  intro ys y W hS hyb;have hlen:=(Lg.1 hyb).1;have hys:=HSM.out y (Lm hyb);have hy:=run_yield (P:=prog) (args:=#[(Value.agg #[.string ⟨y.id.toArray⟩,.string ⟨y.ins.toArray⟩,.int .i64 y.acq,.int .i64 y.opn,.string ⟨y.q.toArray⟩,.string ⟨y.cost.toArray⟩,.string ⟨y.used.toArray⟩])]) hS.loop (by rw[hR];rfl)
  refine⟨R.fn,_,R.assign,R.body,hy,roundIn_of_wpIn trivial ?_⟩;have hlW:=(Ag.1 hS.loop).1;have hSa:=hS.mono (Zb W (.cells #[.string ⟨y.id.toArray⟩,.string ⟨y.ins.toArray⟩,.int .i64 y.acq,.int .i64 y.opn,.string ⟨y.q.toArray⟩,.string ⟨y.cost.toArray⟩,.string ⟨y.used.toArray⟩] 130));have hbr:=run_beginRound (P:=prog) hSa.loop (by rw[hR])
  have hS1:XF w (.slice A n c) (.string ⟨ins.toArray⟩) { R with state:=.busy } d l ys ((W.alloc (.cells #[.string ⟨y.id.toArray⟩,.string ⟨y.ins.toArray⟩,.int .i64 y.acq,.int .i64 y.opn,.string ⟨y.q.toArray⟩,.string ⟨y.cost.toArray⟩,.string ⟨y.used.toArray⟩] 130)).putObj l (.loop { R with state:=.busy })):=XF.done rfl n1 hSa
  have x4:Blk ((W.alloc (.cells #[.string ⟨y.id.toArray⟩,.string ⟨y.ins.toArray⟩,.int .i64 y.acq,.int .i64 y.opn,.string ⟨y.q.toArray⟩,.string ⟨y.cost.toArray⟩,.string ⟨y.used.toArray⟩] 130)).putObj l (.loop { R with state:=.busy })) W.heap.size #[.string ⟨y.id.toArray⟩,.string ⟨y.ins.toArray⟩,.int .i64 y.acq,.int .i64 y.opn,.string ⟨y.q.toArray⟩,.string ⟨y.cost.toArray⟩,.string ⟨y.used.toArray⟩]:=(Blk.new W _ 130).putO (by omega)
  obtain⟨Wb,hWb⟩:∃Wb,Wb=(W.alloc (.cells #[.string ⟨y.id.toArray⟩,.string ⟨y.ins.toArray⟩,.int .i64 y.acq,.int .i64 y.opn,.string ⟨y.q.toArray⟩,.string ⟨y.cost.toArray⟩,.string ⟨y.used.toArray⟩] 130)).putObj l (.loop { R with state:=.busy }):=⟨_,rfl⟩
  rw[<-hWb] at hbr hS1 x4;have hRe:({ { R with state:=.busy } with state:=.ready,pending:=none }:Loop)=R:=by rw[hR]
  obtain⟨R1,hR1⟩:∃R1,R1={ R with state:=.busy }:=⟨_,rfl⟩
  rw[<-hR1] at hS1 hRe;have hl1:(canon (ZL ys)).length<=100000:=VS (·.q) ys (fun z hz=>(hS1.sm.2 z hz).q) hS1.sm.1
  have hl2:(canon (Yp ys)).length<=100000:=VS (·.cost) ys (fun z hz=>(hS1.sm.2 z hz).cost) hS1.sm.1
  have hl3:=hys.q;have hl4:=hys.cost;have HC1:=Lh (Ret.e (VK (l:=canon (ZL ys)) (l':=y.q) (by omega) (by omega) (z:=ZL ys+val y.q) (by rw[Zh])))
  have HC2:=Lh (Ret.e (VK (l:=canon (Yp ys)) (l':=y.cost) (by omega) (by omega) (z:=Yp ys+val y.cost) (by rw[Zh])))
  have HST:Hid (∀W' (X:Nat->Prop),(∀k,X k->k=w.heap.size∨k=w.heap.size+1)->Zq X Wb W'->Blk W' w.heap.size #[.string ⟨(canon (ZL ys+val y.q)).toArray⟩]->Blk W' (w.heap.size+1) #[.string ⟨(canon (Yp ys+val y.cost)).toArray⟩]->XF w (.slice A n c) (.string ⟨ins.toArray⟩) R1 d l (ys++[y]) W'):=fun W' X hX hb h1 h2=>hS1.step hys (by omega) hX n2 hb h1 h2
  have hx4:W.heap.size≠w.heap.size/\W.heap.size≠w.heap.size+1:=by
   have:=hS.cb.ltB
   omega
  have HBr:=Lh hbr;have HRe:=Lh hRe;have HS2:=Lh hS1;have hqb:=hS1.qb;have hcb:=hS1.cb;have hbW:=hS1.below;obtain⟨cq,hcq⟩:∃cq,cq=canon (ZL ys):=⟨_,rfl⟩
  obtain⟨cc,hcc⟩:∃cc,cc=canon (Yp ys):=⟨_,rfl⟩
  obtain⟨nq,hnq⟩:∃nq,nq=canon (ZL ys+val y.q):=⟨_,rfl⟩
  obtain⟨nc,hnc⟩:∃nc,nc=canon (Yp ys+val y.cost):=⟨_,rfl⟩
  rw[<-hcq] at HC1 hqb;rw[<-hcc] at HC2 hcb;rw[<-hnq] at HC1 HST;rw[<-hnc] at HC2 HST;have n5:w.heap.size≠w.heap.size+1:=by omega
  clear hWb hbr hy hS hSa hlW hS1 hRe hR1 hlen hyb hl1 hl2 hl3 hl4 hcq hcc hnq hnc hys hS0;rw[hR]
  gi_wp2
  refine⟨_,HBr.out,?_⟩
  gi_wp2_with fail
  obtain⟨tq,htq⟩:=hqb;obtain⟨tc,htc⟩:=hcb;obtain⟨tch,htch⟩:∃tch:Nat->List Nat,tch=fun b=>if b=w.heap.size then [0,8] else if b=w.heap.size+1 then [4,9] else []:=⟨_,rfl⟩
  obtain⟨F,hFd⟩:∃F:Fx,F=fun b=>if b=w.heap.size then some (.cells #[.string ⟨cq.toArray⟩] tq (0,0)) else if b=w.heap.size+1 then some (.cells #[.string ⟨cc.toArray⟩] tc (0,0)) else none:=⟨_,rfl⟩
  have f1:F w.heap.size=some (.cells #[.string ⟨cq.toArray⟩] tq (0,0)):=by rw[hFd];simp
  have f2:F (w.heap.size+1)=some (.cells #[.string ⟨cc.toArray⟩] tc (0,0)):=by rw[hFd];simp
  have hXX:∀k,F k≠none->k=w.heap.size∨k=w.heap.size+1:=fun k hk=>by
   rw[hFd] at hk
   by_cases h1:k=w.heap.size
   ·exact .inl h1
   ·by_cases h2:k=w.heap.size+1
    ·exact .inr h2
    ·simp[h1,h2] at hk
  have hlow:∀k,F k≠none->w.heap.size<=k:=fun k hk=>by rcases hXX k hk with rfl|rfl<;>omega
  have hnx:¬(F W.heap.size≠none):=fun hk=>by rcases hXX _ hk with e|e;exact hx4.1 e;exact hx4.2 e
  have hFF:∀b ob,F b=some ob->Wb.heap[b]?=some ob:=fun b ob hb=>by
   rcases hXX b (by rw[hb];simp) with rfl|rfl
   ·rw[f1] at hb;rw[<-Option.some.inj hb];exact htq
   ·rw[f2] at hb;rw[<-Option.some.inj hb];exact htc
  have hq8:(fun k=>if k=w.heap.size then some (Obj.cells (#[.string ⟨cq.toArray⟩].setIfInBounds 0 (.string ⟨nq.toArray⟩)) tq (0,0)) else F k) (w.heap.size+1)=some (.cells #[.string ⟨cc.toArray⟩] tc (0,0)):=by
   show (if w.heap.size+1=w.heap.size then _ else F (w.heap.size+1))=_
   rw[if_neg (by omega),f2]
  refine VL (Ll l) tch F (by kernel_rfl) (by kernel_rfl) (by kernel_rfl) hFF ?_
  refine Xn (w.heap.size) #[.string ⟨cq.toArray⟩] tq _ f1 (by simp[htch]) rfl (fun wz hw hc=>by have q0:=hc 0;go_simp;try rfl) ?_
  simp only[Act.put,StT,StZ,StS,Nat.reduceAdd];refine Zk _ rfl (fun wz hw=>by go_simp;try rfl) ?_
  simp only[Act.put,StT,StZ,StS,Nat.reduceAdd];refine Zk _ rfl (fun wz hw=>by have q0:wz.cell? ⟨W.heap.size,4,none⟩=some (.string ⟨y.q.toArray⟩):=(x4.keepX hw hnx).c 4;go_simp;try rfl) ?_
  simp only[Act.put,StT,StZ,StS,Nat.reduceAdd];refine XX _ _ _ rfl (fun wz hw=>by go_simp;try rfl) (fun wz hw=>HC1.out.of hG (hw.lower hbW hlow)) ?_
  simp only[Act.put,StT,StZ,StS,Nat.reduceAdd];refine Xn (w.heap.size+1) #[.string ⟨cc.toArray⟩] tc _ f2 (by simp[htch]) rfl (fun wz hw hc=>by have q0:=hc 0;go_simp;try rfl) ?_
  simp only[Act.put,StT,StZ,StS,Nat.reduceAdd];refine Zk _ rfl (fun wz hw=>by go_simp;try rfl) ?_
  simp only[Act.put,StT,StZ,StS,Nat.reduceAdd];refine Zk _ rfl (fun wz hw=>by have q0:wz.cell? ⟨W.heap.size,5,none⟩=some (.string ⟨y.cost.toArray⟩):=(x4.keepX hw hnx).c 5;go_simp;try rfl) ?_
  simp only[Act.put,StT,StZ,StS,Nat.reduceAdd];refine XX _ _ _ rfl (fun wz hw=>by go_simp;try rfl) (fun wz hw=>HC2.out.of hG (hw.lower hbW hlow)) ?_
  simp only[Act.put,StT,StZ,StS,Nat.reduceAdd];refine Xo (w.heap.size) 0 #[.string ⟨cq.toArray⟩] (.string ⟨nq.toArray⟩) tq f1 (by simp[htch]) (fun j oj hj=>ZO (l:=[0,8]) (by kernel_rfl) j oj (by simpa [htch] using hj)) rfl (fun wz hw hc hf=>by have q0:=hc 0;have q1:=hf 0;go_simp;try rfl) ?_
  simp only[Act.put,Nat.reduceAdd];refine Xo (w.heap.size+1) 0 #[.string ⟨cc.toArray⟩] (.string ⟨nc.toArray⟩) tc hq8 (by simp[htch]) (fun j oj hj=>ZO (l:=[4,9]) (by kernel_rfl) j oj (by simpa [htch] using hj)) rfl (fun wz hw hc hf=>by have q0:=hc 0;have q1:=hf 0;go_simp;try rfl) ?_
  simp only[Act.put,Nat.reduceAdd];refine Xp (fun w4 hF4=>?_)
  have b1:Blk w4 w.heap.size #[.string ⟨nq.toArray⟩]:=⟨tq,hF4.box _ _ (by show (if w.heap.size=w.heap.size+1 then _ else if w.heap.size=w.heap.size then _ else _)=_;rw[if_neg (by omega),if_pos rfl];rfl)⟩
  have b2:Blk w4 (w.heap.size+1) #[.string ⟨nc.toArray⟩]:=⟨tc,hF4.box _ _ (by show (if w.heap.size+1=w.heap.size+1 then _ else _)=_;rw[if_pos rfl];rfl)⟩
  have HGO:=Lh (HST.out w4 _ hXX hF4.below b1 b2);clear hF4 HS2 HST x4 HBr HC1 HC2 b1 b2 hq8 hFF hnx hlow hXX f1 f2 hFd F htch tch htq htc tq tc
  gi_wp2
  exact⟨_,_,run_endRound (P:=prog) none HGO.out.loop,rfl,XF.done (HRe.out.trans hR) n1 HGO.out⟩
 have key:=HI.out (5-1) l (XF w (.slice A n c) (.string ⟨ins.toArray⟩) R d l) (fun ys W h=>⟨hLm.out.below h.below,h.b1,h.b2⟩) (fun ys W W' h hb=>h.mono hb) hY W1 hS0
 refine key.mono ?_;rintro e W2 ⟨hv,hS2⟩;refine⟨hv,hS2.loop,?_⟩;have hS3:XF w (.slice A n c) (.string ⟨ins.toArray⟩) { R with state:=.exhausted } d l (ofL ins xs) (W2.putObj l (.loop { R with state:=.exhausted })):=XF.done rfl n1 hS2
 obtain⟨W3,hW3⟩:∃W3,W3=W2.putObj l (.loop { R with state:=.exhausted }):=⟨_,rfl⟩
 rw[<-hW3] at hS3 ⊢;have hD5:=hS3.dfr;have hb5:=hS3.below;have hqb:=hS3.qb;have hcb:=hS3.cb;obtain⟨cq,hcq⟩:∃cq,cq=canon (ZL (ofL ins xs)):=⟨_,rfl⟩
 obtain⟨cc,hcc⟩:∃cc,cc=canon (Yp (ofL ins xs)):=⟨_,rfl⟩
 rw[<-hcq] at hqb;rw[<-hcc] at hcb;have HQ1:=Lh hcq;have HQ2:=Lh hcc;clear hW3 hS3 key hY hS2 hS0 hv HI hcq hcc
 gi_wp2_with fail
 refine wpIn_wide.2 ?_;refine Zm (by kernel_rfl) (by kernel_rfl) ?_
 refine KeW (fun ρ wz hw=>by have q0:wz.cell? ⟨w.heap.size,0,none⟩=some (.string ⟨cq.toArray⟩):=(hqb.below hw).c 0;go_simp;try rfl) ?_
 simp only[Act.put,StT,StZ,StS,Nat.reduceAdd];refine KeW (fun ρ wz hw=>by have q0:wz.cell? ⟨w.heap.size+1,0,none⟩=some (.string ⟨cc.toArray⟩):=(hcb.below hw).c 0;go_simp;try rfl) ?_
 iterate 2
  simp only[Act.put,StT,StZ,StS,Nat.reduceAdd];refine KeV ?_
 simp only[Act.put,StT,StZ,StS,Nat.reduceAdd];refine ZC (fun ρ w9 hF=>?_)
 have hD9:=(hF.below.block _ (Ag.1 hD5).1).trans hD5;have hb9:=bto hb5 hF.below;clear hF hqb hcb hb5 hD5
 gi_wp2
 refine⟨by simp,.inl ⟨_,_,rfl,run_takeDeferred hD9,?_⟩⟩
 refine⟨.tuple #[.string ⟨cq.toArray⟩,.string ⟨cc.toArray⟩],by simp[results,results21,go_sem],?_⟩
 exact⟨by rw[HQ1.out,HQ2.out],Xr hb9 n3⟩
end Go.Proofs.YtpieeldbamklkaaGreatDoor
namespace Go.Proofs.YtpieeldbamklkaaGreatDoor
open Go.RowKit Num
def Vy (w:World) (A:Option Addr) (rs:List (List UInt8)):Prop:=∀(i:Nat) (r:List UInt8),rs[i]?=some r->∃b o,A=some ⟨b,o,none⟩/\b<w.heap.size/\w.cell? ⟨b,o+i,none⟩=some (.string ⟨r.toArray⟩)
theorem Vy.below {w w':World} {A:Option Addr} {rs:List (List UInt8)} (h:Vy w A rs) (hb:Below w.heap.size w w'):Vy w' A rs:=fun i t ht=>by
 obtain⟨b,o,hA,hl,h0⟩:=h i t ht;exact⟨b,o,hA,Nat.lt_of_lt_of_le hl hb.size,(hb.cell (p:=⟨b,_,none⟩) hl).trans h0⟩
def stV (r:List UInt8):Value:=.string ⟨r.toArray⟩
theorem ZbP (f:Nat) (hcall:∀(args:Array Value) w,(callFunc f args).run prog w=.ok (.enter f args) w) (p:(List UInt8)->Bool) (A:Option Addr) (rs:List (List UInt8)) (n c:Nat) (w:World) (hn:rs.length=n) (hn2:n<=1000000000) (h:Vy w A rs)
  (hp:∀x∈rs,∀w',Below w.heap.size w w'->Calls prog f #[stV x] w' fun e w''=>e=.returned (.bool (p x))/\Below w'.heap.size w' w'') :
  Calls prog 179 #[.slice A n c,.func (Fn.func f) #[] #[]] w fun e w'=>∃z:Int,e=.returned (.int .i64 z)/\decide (0<=z)=rs.any p/\Below w.heap.size w w':=by
 have HI:=Lh h;have HP:=Lh hp;have hn1:rs.length<=n:=by omega
 have hn3:n<=rs.length:=by omega
 clear h hp hn;go_enter func179,ntmps179;go_wp2_with fail
 go_loopw [8] (fun iv wr=>∃k:Nat,k<=n/\iv=.int .i64 (k:Int)/\Hid (rs.any p=(rs.drop k).any p)/\Below w.heap.size w wr) (fun iv _=>n-(intOf iv).toNat)
 case atStart=>exact⟨0,Nat.zero_le _,rfl,rfl,Below.refl _ _⟩
 case round=>
  obtain⟨k,hk,rfl,HK,hb⟩:=hrel
  by_cases hlt:k<n
  ·obtain⟨x,hx⟩:∃x,rs[k]?=some x:=⟨_,List.getElem?_eq_getElem (by omega)⟩
   obtain⟨b,o,rfl,hbs,p0⟩:=(HI.out.below hb) k x hx;have hd:rs.drop k=x::rs.drop (k+1):=by
    obtain⟨hk2,rfl⟩:=Lg.1 hx;exact List.drop_eq_getElem_cons hk2
   have HD:=Lh hd;have CP:=HP.out x (Lm hx) wr hb;unfold stV at CP;have CP:=Lh CP;clear hx hd;go_wp2_with fail
   refine CP.out.mono ?_
   rintro e w2 ⟨rfl,hb2⟩;replace hb:=bto hb hb2;clear hb2 CP p0
   by_cases hq:p x=true
   ·have HV:Hid (decide (0<=(k:Int))=rs.any p):=by show _=_;rw[HK.out,HD.out,List.any_cons,hq,Dt (by omega)];rfl
    rw[hq];clear hq HK HD;go_wp2;go_ret;exact⟨_,rfl,HV.out,hb⟩
   ·have HV:Hid (rs.any p=(rs.drop (k+1)).any p):=by show _=_;rw[HK.out,HD.out,List.any_cons,YH hq,Bool.false_or]
    rw[YH hq];clear hq HK HD;go_wp2;go_roundw
    case rel=>exact⟨k+1,by omega,by go_num,HV,hb⟩
    case measure=>simp[intOf];omega
  ·have HV:Hid (decide (0<=(-1:Int))=rs.any p):=by show _=_;rw[HK.out,List.drop_of_length_le (by omega)];rfl
   go_wp2;go_ret;exact⟨_,rfl,HV.out,hb⟩
theorem ZbQ (f:Nat) (hcall:∀(args:Array Value) w,(callFunc f args).run prog w=.ok (.enter f args) w) (p:(List UInt8)->Bool) (A:Option Addr) (rs:List (List UInt8)) (n c:Nat) (w:World) (hn:rs.length=n) (hn2:n<=1000000000) (h:Vy w A rs)
  (hp:∀x∈rs,∀w',Below w.heap.size w w'->Calls prog f #[stV x] w' fun e w''=>e=.returned (.bool (p x))/\Below w'.heap.size w' w'') :
  Calls prog 109 #[.slice A n c,.func (Fn.func f) #[] #[]] w fun e w'=>e=.returned (.bool (rs.any p))/\Below w.heap.size w w':=by
 have C1:=Lh (ZbP f hcall p A rs n c w hn hn2 h hp);clear hn h hp;go_enter func109,ntmps109;go_wp2_with fail;refine C1.out.mono ?_;rintro e w2 ⟨z,rfl,hz,hb⟩;have HZ:=Lh hz;clear hz
 by_cases g:0<=z
 ·have e1:decide (0<=z)=true:=Dt g;go_wp2;go_ret;exact⟨by rw[<-HZ.out,e1];rfl,hb⟩
 ·have e1:decide (0<=z)=false:=Df g;go_wp2;go_ret;exact⟨by rw[<-HZ.out,e1];rfl,hb⟩
def XJ (ws:List (List UInt8)):Int:=(ws.map val).sum
theorem GG (ws:List (List UInt8)) (r:List UInt8):XJ (ws++[r])=XJ ws+val r:=by simp[XJ]
theorem Nr (r:List UInt8) (ws:List (List UInt8)):XJ (r::ws)=val r+XJ ws:=by simp[XJ]
theorem IQ (e:Nat):∀(ws:List (List UInt8)),(∀r∈ws,r.length<=e)->(XJ ws).natAbs<=ws.length*10 ^ e
 | [],_=>by simp[XJ]
 | r::t,h=>by
  have h1:=IQ e t (fun y hy=>h y (List.mem_cons_of_mem _ hy))
  have h2:=Nat.le_of_lt (Zo (h r List.mem_cons_self));have h3:=Int.natAbs_add_le (val r) (XJ t);rw[Nr,List.length_cons,Nat.add_mul,Nat.one_mul];omega
theorem Lr (e:Nat) (ws:List (List UInt8)) (hx:∀r∈ws,r.length<=e) (hn:ws.length<=100000):(canon (XJ ws)).length<=e+8:=by
 have h1:=IQ e ws hx;refine Nt (Zl _ (e+6) ?_) (by omega)
 have h2:ws.length*10 ^ e<=100000*10 ^ e:=Nat.mul_le_mul_right _ hn;have h3:(100000:Nat)*10 ^ e<10 ^ (e+6):=by
  rw[Nat.pow_add,Nat.mul_comm];exact Nat.mul_lt_mul_of_pos_left (by decide) (Nat.pow_pos (by decide))
 omega
structure WK (w:World) (A:Option Addr) (ws:List (List UInt8)) (n:Nat):Prop where
 len:ws.length=n
 big:n<=100000
 sm:∀r∈ws,r.length<=2000
 mem:Vy w A ws
theorem WK.below {w w':World} {A:Option Addr} {ws:List (List UInt8)} {n:Nat} (h:WK w A ws n) (hb:Below w.heap.size w w'):WK w' A ws n:=⟨h.len,h.big,h.sm,h.mem.below hb⟩
theorem EN {w:World} {A:Option Addr} {ws:List (List UInt8)} {n:Nat} (c:Nat) (hG:Z5 w) (hI:WK w A ws n) :
  Calls prog 241 #[.slice A n c] w fun e w'=>e=.returned (.string ⟨(canon (XJ ws)).toArray⟩)/\Below w.heap.size w w':=by
 have HI:=Lh hI.mem;have HX:=Lh hI.sm;have hn1:ws.length<=n:=by have:=hI.len;omega
 have hn2:n<=ws.length:=by have:=hI.len;omega
 have hn3:=hI.big;clear hI;go_enter func241,ntmps241;go_wp2_with fail
 go_loopw [3,5,8] (fun sv _ iv wr=>∃(k:Nat) (s:List UInt8),k<=n/\sv=.string ⟨s.toArray⟩/\iv=.int .i64 (k:Int)/\Hid (s=canon (XJ (ws.take k)))/\Below w.heap.size w wr) (fun _ _ iv _=>n-(intOf iv).toNat)
 case atStart=>exact⟨0,[],Nat.zero_le _,rfl,rfl,(by show ([]:List UInt8)=canon 0;decide),Below.refl _ _⟩
 case round=>
  obtain⟨k,s,hk,rfl,rfl,HS,hb⟩:=hrel
  by_cases hlk:k<n
  rotate_left
  ·have HQ:Hid (s=canon (XJ ws)):=by show _=_;rw[HS.out,List.take_of_length_le (by omega)]
   have e1:decide (k<n)=false:=Df hlk;clear HS;go_wp2;go_ret;exact⟨congrArg Ending.returned (str_eq HQ.out),hb⟩
  have e1:decide (k<n)=true:=Dt hlk;obtain⟨r,hr⟩:∃r,ws[k]?=some r:=⟨_,List.getElem?_eq_getElem (by omega)⟩
  obtain⟨b,o,rfl,hbs,p0⟩:=(HI.out.below hb) k r hr;have hrl:=HX.out r (Lm hr);have hsl:s.length<=2008:=by
   rw[HS.out];exact Lr 2000 _ (fun y hy=>HX.out y (List.mem_of_mem_take hy)) (by rw[List.length_take];omega)
  have HN:Hid (canon (val s+val r)=canon (XJ (ws.take (k+1)))):=by
   show _=_;obtain⟨hk',rfl⟩:=Lg.1 hr;rw[List.take_succ_eq_append_getElem hk',GG];congr 2;rw[HS.out,Zh]
  have C1:=Lh (VK (l:=s) (l':=r) (by omega) (by omega) rfl)
  obtain⟨s',hs'⟩:∃s',s'=canon (val s+val r):=⟨_,rfl⟩
  rw[<-hs'] at C1 HN;clear hr HS hrl hsl hs';go_wp2_with fail
  refine (C1.out.of hG hb).mono ?_
  rintro e w2 ⟨rfl,hb2⟩;replace hb:=bto hb hb2;clear p0 hb2 C1;go_wp2;go_roundw
  case rel=>exact⟨k+1,s',by omega,rfl,by go_num,HN.out,hb⟩
  case measure=>simp[intOf];omega
theorem To {l:List UInt8} (hl:l.length<=100000):Ret 240 #[.string ⟨l.toArray⟩] (.bool (decide (val l<0))):=fun w hG=>by
 have hb:=Below.refl w.heap.size w;have C1:=Lh (ZA (l:=l) (l':=[]) (by omega) (by decide) (show _=Zy (val l) 0 from rfl))
 have hz:=(Lk (val l)).2.1;have HV:Hid (decide (Zy (val l) 0<0)=decide (val l<0)):=by show _=_;rw[decide_eq_decide];exact hz
 generalize Zy (val l) 0=c at *;generalize decide (val l<0)=R at *;clear hz;go_enter func240,ntmps240;go_wp2_with fail
 refine (C1.out.of hG hb).mono ?_
 rintro e w1 ⟨rfl,hb1⟩;go_wp2;go_ret;exact⟨ZV HV.out,bto hb hb1⟩
def Ot (r:List UInt8):Bool:=!decide (r=canon (val r))||decide (val r<0)
theorem B8 {r:List UInt8} (hl:r.length<=100000):Ret 239 #[.string ⟨r.toArray⟩] (.bool (Ot r)):=fun w hG=>by
 have hb:=Below.refl w.heap.size w;have C1:=Lh (Yz (l:=r) (by omega) rfl)
 have C2:=Lh (To (l:=r) hl);have HV:Hid (Ot r=(!decide (r=canon (val r))||decide (val r<0))):=rfl
 generalize Ot r=R at *
 by_cases g:r=canon (val r)
 ·have HV2:Hid (R=decide (val r<0)):=by show _=_;rw[HV.out,Dt g];rfl
  rw[if_pos g] at C1;generalize decide (val r<0)=nb at *;clear HV g;go_enter func239,ntmps239;go_wp2_with fail
  refine (C1.out.of hG hb).mono ?_
  rintro e w1 ⟨rfl,hb1⟩;replace hb:=bto hb hb1;go_wp2_with fail
  refine (C2.out.of hG hb).mono ?_
  rintro e w2 ⟨rfl,hb2⟩;go_wp2;go_ret;exact⟨ZV HV2.out.symm,bto hb hb2⟩
 ·have HV2:Hid (R=true):=by show _=_;rw[HV.out,Df g];rfl
  rw[if_neg g] at C1;clear HV g C2;go_enter func239,ntmps239;go_wp2_with fail
  refine (C1.out.of hG hb).mono ?_
  rintro e w1 ⟨rfl,hb1⟩;go_wp2;go_ret;exact⟨ZV HV2.out.symm,bto hb hb1⟩
theorem GH (args:Array Value) (w:World):(callFunc 239 args).run prog w=.ok (.enter 239 args) w:=by kernel_rfl
def TB (T:List UInt8) (ws:List (List UInt8)):Int:=
 if ws.length=0 then 11 else if 1000<ws.length then 4 else if ¬T=canon (val T) then 1 else if ws.any Ot=true then 1 else if XJ ws=0 then 10 else 0
theorem Tq {T:List UInt8} {ws:List (List UInt8)} (h:TB T ws=0):1<=ws.length/\ws.length<=1000/\T=canon (val T)/\(∀r∈ws,r=canon (val r)/\0<=val r)/\XJ ws≠0:=by
 unfold TB at h
 by_cases h0:ws.length=0
 ·rw[if_pos h0] at h;exact absurd h (by decide)
 rw[if_neg h0] at h
 by_cases h1:1000<ws.length
 ·rw[if_pos h1] at h;exact absurd h (by decide)
 rw[if_neg h1] at h
 by_cases h2:¬T=canon (val T)
 ·rw[if_pos h2] at h;exact absurd h (by decide)
 rw[if_neg h2] at h
 by_cases h3:ws.any Ot=true
 ·rw[if_pos h3] at h;exact absurd h (by decide)
 rw[if_neg h3] at h
 by_cases h4:XJ ws=0
 ·rw[if_pos h4] at h;exact absurd h (by decide)
 refine⟨by omega,by omega,Decidable.not_not.1 h2,fun r hr=>?_,h4⟩
 have h5:Ot r=false:=by
  cases hc:Ot r with
  | false=>rfl
  | true=>exact absurd (List.any_eq_true.2 ⟨r,hr,hc⟩) h3
 unfold Ot at h5;simp at h5;exact⟨h5.1,h5.2⟩
theorem OZ {z:Int}:(canon z==[])=decide (z=0):=by
 by_cases h:z=0
 ·subst h;decide
 ·rw[Df h,Bn];intro hc
  have:=Zh z
  rw[hc] at this;exact h this.symm
theorem EO {w:World} {A:Option Addr} {ws:List (List UInt8)} {n:Nat} (c:Nat) {T:List UInt8} (hT:T.length<=100000) (hG:Z5 w) (hI:WK w A ws n) :
  Calls prog 188 #[.string ⟨T.toArray⟩,.slice A n c] w fun e w'=>e=.returned (.int .i64 (TB T ws))/\Below w.heap.size w w':=by
 have hn:=hI.len;have hn3:=hI.big;have hb:=Below.refl w.heap.size w;have C1:=Lh (Yz (l:=T) (by omega) rfl)
 have C2:=Lh (fun (w':World) (hb':Below w.heap.size w w')=>ZbQ _ GH Ot A ws n c w' hn (by omega) (hI.mem.below hb') (fun q hq w2 hb2=>B8 (Nt (hI.sm q hq) (by decide)) w2 ((hG.below hb').below hb2)))
 have C3:=Lh (fun (w':World) (hb':Below w.heap.size w w')=>EN c (hG.below hb') (hI.below hb'))
 obtain⟨E,hE⟩:∃E,E=TB T ws:=⟨_,rfl⟩
 rw[<-hE];unfold TB at hE;rw[hn] at hE;have HV:=Lh hE;clear hE hn hI
 by_cases g1:n=0
 ·have HQ:Hid (E=11):=by show _=_;rw[HV.out,if_pos g1]
  subst g1;clear HV;go_enter func188,ntmps188;go_wp2;go_ret;exact⟨ZU HQ.out.symm,hb⟩
 have HV1:=Lh (HV.out.trans (if_neg g1));have e1:(n==0)=false:=by rw[Bn];exact g1
 have e1':((n:Int)==0)=false:=by rw[Bn];omega
 clear HV g1
 by_cases g2:1000<n
 ·have HQ:Hid (E=4):=by show _=_;rw[HV1.out,if_pos g2]
  have e2:decide (1000<n)=true:=Dt g2;have e2':decide ((1000:Int)<(n:Int))=true:=Dt (by omega)
  clear HV1 g2;go_enter func188,ntmps188;go_wp2;go_ret;exact⟨ZU HQ.out.symm,hb⟩
 have HV2:=Lh (HV1.out.trans (if_neg g2));have e2:decide (1000<n)=false:=Df g2;have e2':decide ((1000:Int)<(n:Int))=false:=Df (by omega)
 clear HV1 g2
 by_cases g3:T=canon (val T)
 rotate_left
 ·have HQ:Hid (E=1):=by show _=_;rw[HV2.out,if_pos g3]
  rw[if_neg g3] at C1;clear HV2 g3 C2 C3;go_enter func188,ntmps188;go_wp2_with fail
  refine (C1.out.of hG hb).mono ?_
  rintro e w1 ⟨rfl,hb1⟩;go_wp2;go_ret;exact⟨ZU HQ.out.symm,bto hb hb1⟩
 have HV3:=Lh (HV2.out.trans (if_neg (fun h=>h g3)))
 rw[if_pos g3] at C1;clear HV2 g3;go_enter func188,ntmps188;go_wp2_with fail
 refine (C1.out.of hG hb).mono ?_
 rintro e w1 ⟨rfl,hb1⟩;replace hb:=bto hb hb1;clear hb1 C1;go_wp2_with fail;refine (C2.out _ hb).mono ?_;rintro e w2 ⟨rfl,hb2⟩;replace hb:=bto hb hb2;clear hb2 C2
 by_cases g4:ws.any Ot=true
 ·have HQ:Hid (E=1):=by show _=_;rw[HV3.out,if_pos g4]
  rw[g4];clear HV3 g4 C3;go_wp2;go_ret;exact⟨ZU HQ.out.symm,hb⟩
 have HV4:=Lh (HV3.out.trans (if_neg g4));rw[YH g4];clear HV3 g4;go_wp2_with fail;refine (C3.out _ hb).mono ?_;rintro e w3 ⟨rfl,hb3⟩;replace hb:=bto hb hb3;clear hb3 C3;have hci:=OZ (z:=XJ ws);obtain⟨s,hs⟩:∃s,s=canon (XJ ws):=⟨_,rfl⟩
 rw[<-hs] at hci ⊢
 by_cases g5:XJ ws=0
 ·have HQ:Hid (E=10):=by show _=_;rw[HV4.out,if_pos g5]
  rw[Dt g5] at hci;have hem:s.isEmpty=true:=by rw[List.isEmpty_iff];simpa using hci
  clear HV4 g5 hs;go_wp2;go_ret;exact⟨ZU HQ.out.symm,hb⟩
 ·have HQ:Hid (E=0):=by show _=_;rw[HV4.out,if_neg g5]
  rw[Df g5] at hci;have hem:s.isEmpty=false:=by rw[List.isEmpty_eq_false_iff];simpa using hci
  clear HV4 g5 hs;go_wp2;go_ret;exact⟨ZU HQ.out.symm,hb⟩
end Go.Proofs.YtpieeldbamklkaaGreatDoor
namespace Go.Proofs.YtpieeldbamklkaaGreatDoorMono
open Go
def rd {α:Type}:Result α->Nat
 | .ok _ w=>w.drawn
 | .halt _ w=>w.drawn
theorem Ou {α:Type}:∀(a:Ask α) (w:World),w.drawn<=(w.ask a).2.drawn
 | .done a,w=>Nl _
 | .ask what range k,w=>by
  unfold World.ask;simp only
  split
  ·exact Ou (k 0) w
  ·exact Nt (Nat.le_succ _) (Ou (k _) { w with drawn:=w.drawn+1 })
theorem Ov (w:World) (c:Sys):w.drawn<=(w.sys c).2.drawn:=by
 unfold World.sys;have h:=Ou (Kernel.perform c w.os) w;generalize w.ask (Kernel.perform c w.os)=r at *;obtain⟨⟨r,os⟩,w'⟩:=r;cases r<;>first|exact Nl _|exact h
theorem QX (w:World) (a:Addr) (n:Nat):(w.freeze a n).drawn=w.drawn:=by
 unfold World.freeze;split<;>rfl
theorem GI {p:Program} {w w':World} {t:Addr} {u:TypeId} {k:Addr} {v:Value} {b:Bool} {l:List Addr} (h:w.viewStore p t u k v b=.ok (w',l)):w'.drawn=w.drawn:=by
 unfold World.viewStore at h;simp only[bind,Except.bind,pure,Except.pure] at h
 repeat' (first|contradiction|split at h)
 all_goals first|contradiction|(simp at h;obtain⟨rfl,-⟩:=h;rfl)|skip
theorem Ls {p:Program} {w w':World} {a:Addr} {v:Value} {b:Bool} {l:List Addr} (h:w.farStore p a v b=.ok (w',l)):w'.drawn=w.drawn:=by
 unfold World.farStore at h
 split at h
 ·split at h
  ·rename_i h2;simp at h;obtain⟨rfl,rfl⟩:=h;exact GI h2
  ·cases h
 ·cases h
theorem Z4 {α:Type} (p:Program):∀(s:Sem α) (w:World),w.drawn<=rd (s.run p w)
 | .pure a,w=>Nl _
 | .load m a k,w=>by
  unfold Sem.run
  split
  ·exact Z4 p _ w
  ·split
   ·exact Z4 p _ w
   ·exact Nl _
 | .store m a v k,w=>by
  unfold Sem.run
  split<;>first|exact Nl _|skip
  all_goals first|contradiction|skip
  all_goals (try (rename_i h;cases h))
  all_goals split
  all_goals first
   | (split<;>first|exact Nl _|(refine Nt (Nat.le_of_eq ?_) (Z4 p _ _);rfl))
   | (
    split
    ·rename_i h;exact Nt (Nat.le_of_eq (Ls h).symm) (Z4 p _ _)
    ·exact Nl _)
 | .new o k,w=>by unfold Sem.run;exact Z4 p _ { w with heap:=w.heap.push o }
 | .shape r k,w=>by unfold Sem.run;exact Z4 p _ w
 | .freeze a n k,w=>by
  unfold Sem.run
  have:=Z4 p k (w.freeze a n)
  rwa [QX] at this
 | .frozen a k,w=>by unfold Sem.run;exact Z4 p _ w
 | .getObj r k,w=>by
  unfold Sem.run
  split
  ·exact Nl _
  ·exact Z4 p _ w
  ·exact Nl _
 | .setObj r o k,w=>by
  unfold Sem.run
  split
  ·exact Nl _
  ·exact Z4 p k { w with heap:=w.heap.setIfInBounds r o }
  ·exact Nl _
 | .choose q k,w=>by
  unfold Sem.run
  split
  ·exact Z4 p _ w
  ·exact Nt (Nat.le_succ _) (Z4 p _ { w with drawn:=w.drawn+1 })
 | .sys c k,w=>by
  unfold Sem.run;exact Nt (Ov w c) (Z4 p _ _)
 | .program k,w=>by unfold Sem.run;exact Z4 p _ w
 | .mark m k,w=>by unfold Sem.run;exact Z4 p k w
 | .halt h,w=>Nl _
theorem ZE {α:Type} (p:Program):∀(s:Sem α) (w:World) (es:Array Event),w.drawn<=rd (s.runT p w es).1
 | .pure a,w,_=>Nl _
 | .load m a k,w,es=>by
  unfold Sem.runT
  split
  ·exact ZE p _ w _
  ·split
   ·exact ZE p _ w _
   ·exact Nl _
 | .store m a v k,w,es=>by
  unfold Sem.runT
  split<;>first|exact Nl _|skip
  all_goals first|contradiction|skip
  all_goals (try (rename_i h;cases h))
  all_goals split
  all_goals first
   | (split<;>first|exact Nl _|(refine Nt (Nat.le_of_eq ?_) (ZE p _ _ _);rfl))
   | (
    split
    ·rename_i h;exact Nt (Nat.le_of_eq (Ls h).symm) (ZE p _ _ _)
    ·exact Nl _)
 | .new o k,w,es=>by unfold Sem.runT;exact ZE p _ { w with heap:=w.heap.push o } _
 | .shape r k,w,es=>by unfold Sem.runT;exact ZE p _ w _
 | .freeze a n k,w,es=>by
  unfold Sem.runT
  have:=ZE p k (w.freeze a n) es
  rwa [QX] at this
 | .frozen a k,w,es=>by unfold Sem.runT;exact ZE p _ w _
 | .getObj r k,w,es=>by
  unfold Sem.runT
  split
  ·exact Nl _
  ·exact ZE p _ w _
  ·exact Nl _
 | .setObj r o k,w,es=>by
  unfold Sem.runT
  split
  ·exact Nl _
  ·exact ZE p k { w with heap:=w.heap.setIfInBounds r o } _
  ·exact Nl _
 | .choose q k,w,es=>by
  unfold Sem.runT
  split
  ·exact ZE p _ w _
  ·exact Nt (Nat.le_succ _) (ZE p _ { w with drawn:=w.drawn+1 } _)
 | .sys c k,w,es=>by
  unfold Sem.runT;exact Nt (Ov w c) (ZE p _ _ _)
 | .program k,w,es=>by unfold Sem.runT;exact ZE p _ w _
 | .mark m k,w,es=>by unfold Sem.runT;exact ZE p k w _
 | .halt h,w,es=>Nl _
theorem YZ {α:Type} {p:Program} {s:Sem α} {w w':World} {a:α} (h:s.run p w=.ok a w'):w.drawn<=w'.drawn:=by
 have:=Z4 p s w;rw[h] at this;exact this
theorem run_halt {α:Type} {p:Program} {s:Sem α} {w w':World} {a:Halt} (h:s.run p w=.halt a w'):w.drawn<=w'.drawn:=by
 have:=Z4 p s w;rw[h] at this;exact this
theorem B9 {α:Type} {p:Program} {s:Sem α} {w w':World} {a:α} {es es':Array Event} (h:s.runT p w es=(.ok a w',es')):w.drawn<=w'.drawn:=by
 have:=ZE p s w es;rw[h] at this;exact this
theorem GJ {α:Type} {p:Program} {s:Sem α} {w w':World} {a:Halt} {es es':Array Event} (h:s.runT p w es=(.halt a w',es')):w.drawn<=w'.drawn:=by
 have:=ZE p s w es;rw[h] at this;exact this
theorem JC {α:Type} {p:Program} {s:Sem α} {w w':World} {a:α} {es:Array Event} (h:(s.runT p w es).1=.ok a w'):w.drawn<=w'.drawn:=by
 have:=ZE p s w es;rw[h] at this;exact this
theorem EP {α:Type} {p:Program} {s:Sem α} {w w':World} {a:Halt} {es:Array Event} (h:(s.runT p w es).1=.halt a w'):w.drawn<=w'.drawn:=by
 have:=ZE p s w es;rw[h] at this;exact this
def gw:GStep->World
 | .go _ w _=>w
 | .comm _ _ _ _ w _=>w
 | .spawn _ _ w _=>w
 | .count _ w _=>w
 | .timer _ _ w _=>w
 | .alone _ _ w _=>w
 | .newcoro _ _ _ w _=>w
 | .coroswitch _ _ _ w _=>w
 | .collect _ w _=>w
 | .watch _ w _=>w
 | .ended _ w _=>w
def gd (s:GStep):Nat:=(gw s).drawn
theorem V5 (es:Array Event) (s:GStep):gd (GStep.after es s)=gd s:=by cases s<;>rfl
theorem Lt {c:Prop} [Decidable c] {a b:GStep} {d:Nat} (h1:d<=gd a) (h2:d<=gd b):d<=gd (if c then a else b):=by split<;>assumption
theorem Wu (p:Program) (main:Bool) (fr:Frame) (callers:List Frame) (dying:Option Dying) (v:Value) (w:World):w.drawn<=gd (doReturn p main fr callers dying v w):=by
 unfold doReturn
 repeat' (first|exact Nl _|split)
theorem VT (fr:Frame) (m:String) (w:World):w.drawn<=gd (endThrow fr m w):=Nl _
theorem V6 (p:Program) (fr:Frame) (v:Value) (w:World):w.drawn<=gd (endPrinting p fr v w):=by
 unfold endPrinting;simp only
 split<;>exact Nl _
theorem TM (p:Program) (fr:Frame) (callers:List Frame) (dying:Option Dying) (m:String) (w:World):w.drawn<=gd (endFatal p fr callers dying m w):=by
 unfold endFatal;simp only
 split<;>first|exact YZ ‹_› | exact run_halt ‹_›
theorem Mr (w:World) (fd:Nat) (t:ByteArray) (o:Outcome):w.drawn<=gd (endWith w fd t o):=by
 unfold endWith;simp only;have h:=Ov w (.write fd t);generalize w.sys (.write fd t)=r at *;obtain⟨r,w'⟩:=r;cases r<;>(simp only;repeat' (first|exact h|split))
theorem SR (p:Program) (fr:Frame) (callers:List Frame) (dying:Option Dying) (d:Deferred) (w:World):w.drawn<=gd (callDeferred p fr callers dying d w):=by
 unfold callDeferred;refine Lt (Nl _) ?_
 ·have h:=ZE p (invoke d.target d.args) w #[];generalize (invoke d.target d.args).runT p w #[]=r at *;obtain⟨r,es⟩:=r;simp only;rw[V5]
  repeat' (first|exact h|exact Nt h (TM ..)|exact Nt h (VT ..)|split)
theorem Lu (p:Program) (main:Bool) (fr:Frame) (callers:List Frame) (dying:Option Dying) (w:World):w.drawn<=gd (unwind p main fr callers dying w):=by
 unfold unwind
 split
 ·rename_i block _ _ _;have h:=ZE p (Instr.takeDeferred block) w #[];generalize (Instr.takeDeferred block).runT p w #[]=r at *;obtain⟨r,es⟩:=r;simp only;rw[V5]
  repeat' (first|exact h|split)
 ·exact SR ..
 ·split
  ·exact Nl _
  ·repeat' (first|exact Nl _|exact V6 .. | (exact YZ ‹_›)|(exact run_halt ‹_›)|split)
  ·split
   ·exact Wu ..
   ·rename_i fn _;have h:=ZE p (results fn fr.tmps) w #[];generalize (results fn fr.tmps).runT p w #[]=r at *;obtain⟨r,es⟩:=r;simp only;rw[V5]
    repeat' (first|exact h|exact Nt h (Wu ..)|split)
theorem Ms (p:Program) (fr:Frame) (d:Dying) (f:Fatal) (w:World):w.drawn<=gd (writeOn p fr d f w):=by
 unfold writeOn;simp only
 split
 ·exact Nl _
 ·split<;>first|exact B9 ‹_› | exact GJ ‹_›
theorem EQ (p:Program) (fr:Frame) (d:Dying) (w:World):w.drawn<=gd (die p fr d w):=by
 unfold die
 split
 ·exact Ms ..
 ·split
  ·split
   ·exact Nl _
   ·exact Mr ..
  ·simp only
   split
   ·exact Nl _
   ·split<;>first|exact YZ ‹_› | exact run_halt ‹_›
   ·rename_i t recv name _;have h:=ZE p (invoke (.fn (.method name) #[]) #[.iface t recv]) w #[];generalize (invoke (.fn (.method name) #[]) #[.iface t recv]).runT p w #[]=r at *;obtain⟨r,es⟩:=r;simp only;rw[V5]
    repeat' (first|exact Nl _|exact h|exact Nt h (V6 ..)|split)
   ·exact Nl _
theorem JD (p:Program) (fr:Frame) (callers:List Frame) (dying:Option Dying) (g:Nat) (w:World):w.drawn<=gd (early p fr callers dying g w):=by
 have hn:∀w:World,w.drawn<=gd (match w.heap[g]? with
  | some (.pending c elem)=>GStep.go { frame:=fr,callers,status:=.running,dying } { w with heap:=w.heap.setIfInBounds g (.cells c elem) }
  | _=>.ended (.stuck "early: the variable does not wait" (fr.pos p)) w):=fun w=>by
   split<;>exact Nl _
 unfold early;simp only
 split
 ·exact hn w
 ·split
  ·exact Nl _
  ·repeat' (first|exact Nl _|exact hn w|exact Nt (YZ ‹_›) (hn _)|exact YZ ‹_› | exact run_halt ‹_› | split)
theorem T0 (p:Program) (listen:Bool) (fr:Frame) (callers:List Frame) (dying:Option Dying) (s:Sem Next) (w:World):w.drawn<=gd (stepG.apply p listen fr callers dying s w):=by
 unfold stepG.apply;simp only;have h:w.drawn<=rd (if listen=true then s.runT p w #[] else (s.run p w,#[])).1:=by
  split
  ·exact ZE p s w #[]
  ·exact Z4 p s w
 generalize (if listen=true then s.runT p w #[] else (s.run p w,#[]))=r at *
 obtain⟨r,es⟩:=r;simp only;rw[V5];cases r with
 | ok n w'=>
  have h:w.drawn<=w'.drawn:=h;cases n<;>simp only<;>(repeat' (first|exact h|exact Nt h (VT ..)|(refine Lt ?_ ?_)|split))
 | halt n w'=>
  have h:w.drawn<=w'.drawn:=h;cases n with
  | unsupported u=>cases u<;>(try simp only)<;>(first|exact h|exact Nt h (JD ..))
  | _=>(try simp only);(first|exact h|exact Nt h (VT ..)|exact Nt h (TM ..))
theorem GK (p:Program) (listen:Bool) (fr:Frame) (callers:List Frame) (dying:Option Dying) (w:World):w.drawn<=gd (stepG.oper p listen fr callers dying w):=by
 unfold stepG.oper
 repeat' (first|exact Nl _|exact T0 p listen .. | split)
theorem GL (p:Program) (main listen:Bool) (fr:Frame) (callers:List Frame) (dying:Option Dying) (w:World):w.drawn<=gd (stepG.exec p main listen fr callers dying w):=by
 unfold stepG.exec;simp only
 split
 all_goals (repeat' (first
  | with_reducible exact T0 p listen ..
  | with_reducible exact GK ..
  | with_reducible exact Wu ..
  | (with_reducible rw[V5])
  | split
  | exact JC ‹_›
  | exact EP ‹_›
  | exact Nt (JC ‹_›) (Wu ..)
  | exact Nt (JC ‹_›) (T0 p listen ..)
  | exact YZ ‹_›
  | exact run_halt ‹_›
  | exact Nl _
  | (simp only[Option.elim])))
theorem JE (p:Program) (main:Bool) (g:Goroutine) (w:World) (listen:Bool):w.drawn<=gd (stepG p main g w listen):=by
 unfold stepG;obtain⟨fr,callers,st,dying,offers⟩:=g;simp only
 split
 ·exact EQ ..
 ·exact GL ..
 ·exact Lu ..
def SD (d:Nat):Stepped->Prop
 | .next m=>d<=m.world.drawn
 | _=>True
theorem JF (w:World) (c:Nat):(drain w c).2.drawn=w.drawn:=by
 unfold drain;split<;>rfl
theorem QY (m:Machine) (k:Nat) (t:Timer) (a b:Nat):(retime m k t a b).2.world.drawn=m.world.drawn:=by
 unfold retime;cases t.chan with
 | none=>rfl
 | some c=>exact JF _ _
theorem JG {m m':Machine} {op:TimerOp} {v:Value} (h:timerOp m op=.ok (v,m')):m'.world.drawn=m.world.drawn:=by
 unfold timerOp at h
 split at h
 ·split at h
  ·simp at h;obtain⟨-,rfl⟩:=h;rfl
  ·split at h
   ·split at h
    ·cases h
    ·simp at h;obtain⟨-,rfl⟩:=h;rfl
   ·cases h
 ·unfold timerOp.named at h
  split at h
  ·simp only[Except.ok.injEq] at h
   have:=congrArg (fun x:Value×Machine=>x.2.world.drawn) h
   simp only[QY] at this;exact this.symm
  ·cases h
 ·split at h
  ·rename_i m1 ho;unfold timerOp.opened at ho;have e:m1.world.drawn=m.world.drawn:=by
    split at ho
    ·split at ho
     ·simp at ho;subst ho;rfl
     ·cases ho
    ·simp at ho;subst ho;rfl
   unfold timerOp.named at h
   split at h
   ·simp only[Except.ok.injEq] at h
    have:=congrArg (fun x:Value×Machine=>x.2.world.drawn) h
    simp only[QY] at this;exact this.symm.trans e
   ·cases h
  ·cases h
 ·simp at h;obtain⟨-,rfl⟩:=h;rfl
theorem Ns (p:Program) (gs:Array Goroutine) (rest:Rest) (w:World):SD w.drawn (look p gs rest w):=by
 unfold look
 split
 ·simp only
  split
  ·trivial
  ·split
   ·trivial
   ·split
    ·rename_i h;have h1:=YZ h;exact h1
    ·trivial
    ·trivial
 ·trivial
theorem JH (p:Program) (m:Machine) (k:Nat):SD m.world.drawn (serve p m k):=by
 unfold serve
 split
 ·trivial
 ·exact Nl _
 ·simp only
  split
  ·trivial
  ·exact Nl _
theorem Mt {rest:Rest} {cases:Array CommCase} {w w':World} (h:waitingAt rest cases w=some w'):w'.drawn=w.drawn:=by
 unfold waitingAt at h
 split at h
 ·split at h
  ·simp at h;subst h;rfl
  ·cases h
 ·simp at h;subst h;rfl
theorem GM (p:Program) (rest:Rest) (gs:Array Goroutine) (i:Nat) (g:Goroutine) (cases:Array CommCase) (blocking:Bool) (shape:CommShape) (w:World):SD w.drawn (communicate p rest gs i g cases blocking shape w).1:=by
 unfold communicate;simp only
 split
 ·trivial
 ·split
  ·split
   ·split
    ·rename_i h;exact Nat.le_of_eq (Mt h).symm
    ·trivial
   ·exact Nl _
  ·split
   ·trivial
   ·rename_i k c way w' h;have h1:=YZ h
    repeat' (first|trivial|exact h1|(have h2:=Nt h1 (YZ ‹_›);exact h2)|(have h2:=Nt h1 (run_halt ‹_›);exact h2)|split)
theorem GN (p:Program) (m:Machine) (i:Nat) (listen:Bool):SD m.world.drawn (runT p m i listen).1:=by
 unfold runT;simp only;have h:=JE p (i==0) (m.gs.swapAt! i { (default:Goroutine) with status:=.finished }).1 m.world listen
 generalize stepG p (i==0) (m.gs.swapAt! i { (default:Goroutine) with status:=.finished }).1 m.world listen=s at *
 generalize (m.gs.swapAt! i { (default:Goroutine) with status:=.finished })=sw at *
 obtain⟨g0,gs⟩:=sw;simp only;cases s with
 | ended o w es=>trivial
 | comm g cases blocking shape w es=>
  have h1:=GM p m.rest gs i g cases blocking shape w;simp only;generalize (communicate p m.rest gs i g cases blocking shape w)=r at *;obtain⟨r,more⟩:=r;cases r with
  | next m'=>exact Nt h h1
  | ended=>trivial
 | go g w es=>exact h
 | spawn g child w es=>exact h
 | count g w es=>simp only;split<;>first|trivial|exact h
 | timer g op w es=>
  simp only
  split
  ·rename_i v m' ht
   have:=JG ht
   exact Nt h (Nat.le_of_eq this.symm)
  ·exact h
  ·trivial
  ·trivial
 | alone g on w es=>exact h
 | newcoro g c d w es=>exact h
 | coroswitch g c exit w es=>
  simp only
  split
  ·exact h
  ·exact h
  ·trivial
 | collect g w es=>
  simp only;have h1:=Ns p (gs.setIfInBounds i g) m.rest w;generalize look p (gs.setIfInBounds i g) m.rest w=r at *;cases r with
  | next m'=>exact Nt h h1
  | ended=>trivial
 | watch g w es=>exact h
def MD (d:Nat):Move->Prop
 | .goroutine m _=>d<=m.world.drawn
 | .machine s _=>SD d s
theorem SD.trans {a b:Nat} {s:Stepped} (h:a<=b) (hs:SD b s):SD a s:=by
 cases s with
 | next m=>exact Nt h hs
 | ended=>trivial
theorem QB {p:Program} {rs:List Nat} {d:Nat} (m:Machine) (w:World) (h:d<=w.drawn):MD d (match (choose (.sched rs.length)).run p w with
   | .halt _ w=>.machine (.ended (.stuck "sched" "") w)
   | .ok k world=>
    if rs.length<=1 then .goroutine { m with world } (rs.getD k 0) else
    match (choose (.extern "sched.slice" 65536)).run p world with
    | .halt _ w=>.machine (.ended (.stuck "sched.slice" "") w)
    | .ok n world=>.goroutine { m with world,rest:={ m.rest with slice:=if n=0 then none else some (rs.getD k 0,n) } } (rs.getD k 0)):=by
 split
 ·trivial
 ·rename_i k w1 e1;have h1:=Nt h (YZ e1)
  split
  ·exact h1
  ·split
   ·trivial
   ·rename_i n w2 e2;exact Nt h1 (YZ e2)
theorem T4 (p:Program) (m:Machine):MD m.world.drawn (askOn p m):=by
 unfold askOn;dsimp only
 split
 ·trivial
 ·rename_i k w' h;have h1:=YZ h
  split
  ·exact SD.trans h1 (JH p { m with world:=w' } _)
  ·split
   ·split
    ·exact h1
    ·split
     ·exact h1
     ·split<;>trivial
   ·split
    ·exact QB (rs:=_) { m with world:=w' } w' h1
    ·split
     ·trivial
     ·rename_i e2;exact QB (rs:=_) _ _ (Nt h1 (YZ e2))
     ·rename_i e2;have h2:=Nt h1 (YZ e2);exact h2
     ·rename_i e2;have h2:=Nt h1 (YZ e2);exact QB (rs:=_) _ _ h2
theorem Nu (p:Program) (m:Machine):MD m.world.drawn (ask p m):=by
 unfold ask
 split
 ·split
  ·trivial
  ·rename_i w' e;have h1:=YZ e;have h2:=Ns p m.gs m.rest w'
   split
   ·rename_i m' e2;rw[e2] at h2;have h3:=T4 p m';have h4:m.world.drawn<=m'.world.drawn:=Nt h1 h2;generalize askOn p m'=r at *;cases r with
    | goroutine m i=>exact Nt h4 h3
    | machine s ops=>exact SD.trans h4 h3
   ·exact SD.trans h1 h2
  ·rename_i w' _ e;have h1:=YZ e;have h3:=T4 p { m with world:=w' }
   generalize askOn p { m with world:=w' }=r at *
   cases r with
   | goroutine m i=>exact Nt h1 h3
   | machine s ops=>exact SD.trans h1 h3
 ·exact T4 p m
theorem GO (p:Program) (m:Machine):MD m.world.drawn (move p m):=by
 unfold move
 split
 ·split
  ·exact Nl _
  ·trivial
 ·split
  ·split
   ·exact Nl _
   ·exact Nu p _
  ·exact Nu p m
theorem GP {p:Program} {m m':Machine} (h:step p m=.next m'):m.world.drawn<=m'.world.drawn:=by
 unfold step stepT at h;have h1:=GO p m;generalize move p m=r at *;cases r with
 | goroutine m1 i=>
  have h2:=GN p m1 i true;simp only at h;rw[h] at h2;exact Nt h1 h2
 | machine s ops=>
  simp only at h;subst h;exact h1
theorem Nv (p:Program):∀(n:Nat) {m m':Machine},runN p n m=.next m'->m.world.drawn<=m'.world.drawn
 | 0,m,m',h=>by simp only[runN,Stepped.next.injEq] at h;subst h;exact Nl _
 | n+1,m,m',h=>by
  unfold runN at h
  split at h
  ·rename_i m1 e;exact Nt (GP e) (Nv p n h)
  ·rename_i h2;exact absurd h (h2 _)
theorem JI {p:Program} {m m':Machine} (h:Steps p m m'):m.world.drawn<=m'.world.drawn:=by
 obtain⟨n,h⟩:=h;exact Nv p n h
theorem JJ {P:Program} {f:FuncId} {args:Array Value} {w:World} {R:Ending->World->Prop} (h:Calls P f args w R) :
  Calls P f args w fun e w'=>R e w'/\∀v,e=.returned v->w.drawn<=w'.drawn:=fun cs=>by
 obtain⟨e,w',fr,hR,hc,h1,h2⟩:=h cs;refine⟨e,w',fr,⟨hR,fun v hv=>?_⟩,hc,h1,h2⟩
 subst hv;exact JI hc
theorem Ow {w w':World} (h:RowKit.Below w.heap.size w w') (hd:w.drawn<=w'.drawn):∃q os,w'=Sort.grow (w.drewN q) os:=by
 obtain⟨p,hp⟩:=regrown_of_below h;have hd2:w'.drawn=p.d:=by rw[hp];rfl
 refine⟨p.d-w.drawn,p.os,?_⟩;rw[hp]
 have:redrawn w p.d=w.drewN (p.d-w.drawn):=by
  unfold redrawn World.drewN;congr 1;omega
 rw[this]
theorem calls_grown {P:Program} {f:FuncId} {args:Array Value} {w:World} {v:Value} (h:Calls P f args w fun e w'=>e=.returned v/\RowKit.Below w.heap.size w w') :
  Calls P f args w fun e w'=>e=.returned v/\∃q os,w'=Sort.grow (w.drewN q) os:=
 (JJ h).mono fun _ _ ⟨⟨he,hb⟩,hd⟩=>⟨he,Ow hb (hd v he)⟩
end Go.Proofs.YtpieeldbamklkaaGreatDoorMono
namespace Go.Proofs.YtpieeldbamklkaaGreatDoor
open Go.RowKit Num
def Q6 (x y:Int):Int:=if x<y then -1 else if y<x then 1 else 0
theorem Zcv (x y:Int) (w:World):Calls prog 293 #[.int .i64 x,.int .i64 y] w fun e w'=>e=.returned (.int .i64 (Q6 x y))/\w=w':=by
 unfold Q6
 by_cases h1:x<y
 ·have e1:decide (x<y)=true:=Dt h1;rw[if_pos h1];clear h1;go_enter func293,ntmps293;go_wp2;go_ret;exact⟨rfl,rfl⟩
 ·have e1:decide (x<y)=false:=Df h1;rw[if_neg h1];clear h1
  by_cases h2:y<x
  ·have e2:decide (y<x)=true:=Dt h2;rw[if_pos h2];clear h2;go_enter func293,ntmps293;go_wp2;go_ret;exact⟨rfl,rfl⟩
  ·have e2:decide (y<x)=false:=Df h2;rw[if_neg h2];clear h2;go_enter func293,ntmps293;go_wp2;go_ret;exact⟨rfl,rfl⟩
theorem Zcw (x y:Int) (w:World):Calls prog 270 #[.int .i64 x,.int .i64 y] w fun e w'=>e=.returned (.int .i64 (Q6 x y))/\w=w':=by
 unfold Q6
 by_cases h1:x<y
 ·have e1:decide (x<y)=true:=Dt h1;rw[if_pos h1];clear h1;go_enter func270,ntmps270;go_wp2;go_ret;exact⟨rfl,rfl⟩
 ·have e1:decide (x<y)=false:=Df h1;rw[if_neg h1];clear h1
  by_cases h2:y<x
  ·have e2:decide (y<x)=true:=Dt h2;rw[if_pos h2];clear h2;go_enter func270,ntmps270;go_wp2;go_ret;exact⟨rfl,rfl⟩
  ·have e2:decide (y<x)=false:=Df h2;rw[if_neg h2];clear h2;go_enter func270,ntmps270;go_wp2;go_ret;exact⟨rfl,rfl⟩
def orZ (x y:Int):Int:=if x=0 then y else x
theorem ZaY (b:Nat) (x y:Int) (w:World) (h0:w.cell? ⟨b,0,none⟩=some (.int .i64 x)) (h1:w.cell? ⟨b,1,none⟩=some (.int .i64 y)) :
  Calls prog 272 #[.slice (some ⟨b,0,none⟩) 2 2] w fun e w'=>e=.returned (.int .i64 (orZ x y))/\w=w':=by
 have HV:Hid (orZ x y=if x=0 then y else x):=rfl
 generalize orZ x y=R at *;go_enter func272,ntmps272;go_wp2_with fail
 go_loop [5,8] (fun _ iv=>∃k:Nat,k<=2/\iv=.int .i64 (k:Int)/\Hid (R=if k=0 then (if x=0 then y else x) else if k=1 then y else 0)) (fun _ iv=>2-(intOf iv).toNat)
 case atStart=>exact⟨0,by omega,rfl,HV.out⟩
 case round=>
  clear HV;obtain⟨k,hk,rfl,HV⟩:=hrel;have hk3:k=0∨k=1∨k=2:=by omega
  rcases hk3 with rfl|rfl|rfl
  ·by_cases g:x=0
   ·subst g;have HV2:Hid (R=y):=HV.out;clear HV;go_wp2
    go_round
    case rel=>exact⟨1,by omega,by go_num,HV2.out⟩
    case measure=>simp[intOf]
   ·have e1:(x==0)=false:=by rw[Bn];exact g
    have e2:=UG e1;have HV2:Hid (R=x):=by show _=_;rw[HV.out,if_pos rfl,if_neg g]
    clear HV g;go_wp2;go_ret;exact⟨ZU HV2.out.symm,rfl⟩
  ·have HV1:Hid (R=y):=HV.out;clear HV
   by_cases g:y=0
   ·subst g;go_wp2
    go_round
    case rel=>exact⟨2,by omega,by go_num,HV1.out⟩
    case measure=>simp[intOf]
   ·have e1:(y==0)=false:=by rw[Bn];exact g
    have e2:=UG e1;clear g;go_wp2;go_ret;exact⟨ZU HV1.out.symm,rfl⟩
  ·have HV1:Hid (R=0):=HV.out;clear HV;go_wp2;go_ret;exact⟨ZU HV1.out.symm,rfl⟩
end Go.Proofs.YtpieeldbamklkaaGreatDoor
