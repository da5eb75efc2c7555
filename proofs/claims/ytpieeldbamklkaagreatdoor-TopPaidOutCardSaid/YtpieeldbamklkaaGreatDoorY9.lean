/- Texts put together: Kf Kg Kh Bv Kj Kk Kl Bp Bf Bj. -/
import Derived.Test.YtpieeldbamklkaaGreatDoorY8
import Derived.Maps.RangeRun
set_option maxHeartbeats 4000000
set_option maxRecDepth 100000
open Go.Proofs.Tryz
namespace Go.Proofs.YtpieeldbamklkaaGreatDoor
open Go.RowKit Go.Shelf Num
def Zv (word:List UInt8) (cls:Int) (H:List Bool) (M:Option Nat) (code:Bool):Array Value:=(Value.string ⟨word.toArray⟩::.int .i64 cls::(H.map Value.bool++[.map M,.bool code])).toArray
theorem Xt {word:List UInt8} {cls:Int} {H:List Bool} {M:Option Nat} {code:Bool} (h:H.length=13):(Zv word cls H M code).size=17:=by simp[Zv,h]
theorem DJ {word:List UInt8} {cls:Int} {H:List Bool} {M:Option Nat} {code:Bool} {k:Nat} (h:H.length=13) (hk:k<13):(Zv word cls H M code).setIfInBounds (2+k) (.bool true)=Zv word cls (H.set k true) M code:=by
 unfold Zv;rw[List.setIfInBounds_toArray,show 2+k=k+1+1 by omega,List.set_cons_succ,List.set_cons_succ,List.set_append_left _ _ (by rw[List.length_map];omega),List.map_set]
theorem U3 {word:List UInt8} {cls:Int} {H:List Bool} {M:Option Nat} {code:Bool}:(Zv word cls H M code).all (·.oneCell')=true:=by
 refine all_oneCell_toArray (fun v hv=>?_)
 simp only[List.mem_cons,List.mem_append,List.mem_map,List.not_mem_nil,or_false] at hv;rcases hv with rfl|rfl|⟨b,-,rfl⟩|rfl|rfl<;>rfl
theorem Tx:(prog.info? 270).map (·.size)=some 17:=by kernel_rfl
theorem Ty:(prog.info? 4).map (·.size)=some 1:=by kernel_rfl
theorem Q2 {w:World} {r a b:Nat} {m:Option Nat} {s:Array Nat} (h:w.heap[r]?=some (.mapIter m a s b)):w.iterSeen r=s:=by
 unfold World.iterSeen;rw[h]
theorem Wx {w:World} {b:Nat} {o:Obj} (h:b<w.heap.size):(ChangeMaps.setBlock w b o).heap[b]?=some o:=by simp[ChangeMaps.setBlock,h]
theorem Yb {w:World} {b c:Nat} {o:Obj} (h:c≠b):(ChangeMaps.setBlock w b o).heap[c]?=w.heap[c]?:=by simp[ChangeMaps.setBlock,Ne.symm h]
theorem VD {w w1:World} {B b:Nat} {o:Obj} (h:Below B w w1) (hb:B<=b):Below B w (ChangeMaps.setBlock w1 b o):=
 h.trans ⟨rfl,rfl,rfl,by simp[ChangeMaps.setBlock],fun k hk=>Yb (by omega)⟩
def JW (w:World) (A:Option Addr) (ms:List Nat):Prop:=∀(i m:Nat),ms[i]?=some m->∃b o,A=some ⟨b,o,none⟩/\b<w.heap.size/\w.cell? ⟨b,o+i,none⟩=some (.int .i64 (m:Int))
theorem JW.below {w w':World} {A:Option Addr} {ms:List Nat} (h:JW w A ms) (hb:Below w.heap.size w w'):JW w' A ms:=fun i m hm=>by
 obtain⟨b,o,e,hlt,hc⟩:=h i m hm;exact⟨b,o,e,Nat.lt_of_lt_of_le hlt hb.size,(World.cell?_of_block (hb.block _ hlt)).trans hc⟩
def TR (H:List Bool) (K:Nat->Prop):Prop:=H.length=13/\∀i,H[i]?=some true->K i
def QK (es:Array MapEntry) (i:Nat):Prop:=∃e∈es.toList,e.key=.int .i64 (i:Int)
theorem WF {H:List Bool} {k i:Nat} (hl:H.length=13) (hk:k<13):(H.set k true)[i]?=some true↔i=k∨H[i]?=some true:=by
 rw[List.getElem?_set]
 by_cases h:k=i
 ·subst h;simp[hl,hk]
 ·rw[if_neg h];constructor
  ·exact .inr
  ·rintro (h2|h2)
   ·exact absurd h2.symm h
   ·exact h2
structure Sk (w:World) (word:List UInt8) (cls:Int) (M:Option Nat) (H:List Bool) (W:World):Prop where
 below:Below w.heap.size w W
 res:W.heap[w.heap.size]?=some (.cells #[.string ⟨#[]⟩,.int .i64 0,.bool false,.bool false,.bool false,.bool false,.bool false,.bool false,.bool false,.bool false,.bool false,.bool false,.bool false,.bool false,.bool false,.map none,.bool false] 270 (0,0))
 box:W.heap[w.heap.size+1]?=some (.cells (Zv word cls H M false) 270 (0,0))
 len:H.length=13
theorem Sk.there {w W:World} {word:List UInt8} {cls:Int} {M:Option Nat} {H:List Bool} (h:Sk w word cls M H W) {k:Nat} (hk:k<13):(W.cell? ⟨w.heap.size+1,2+k,none⟩).isSome=true/\W.frozen? ⟨w.heap.size+1,2+k,none⟩=false:=by
 refine⟨?_,Zn h.box _⟩;rw[Zg h.box,Array.getElem?_eq_getElem (by rw[Xt h.len];omega)]
 rfl
theorem Sk.set {w W:World} {word:List UInt8} {cls:Int} {M:Option Nat} {H:List Bool} (h:Sk w word cls M H W) {k:Nat} (hk:k<13):Sk w word cls M (H.set k true) (W.setCell ⟨w.heap.size+1,2+k,none⟩ (.bool true)):=by
 have hb:Below w.heap.size w (W.setCell ⟨w.heap.size+1,2+k,none⟩ (.bool true)):=Yv h.below (by omega) _ _
 refine⟨hb,hoth h.res (by omega),?_,by rw[List.length_set];exact h.len⟩
 have:=hset (o:=2+k) (.bool true) h.box
 rwa [DJ h.len hk] at this
theorem Sk.other {w W W':World} {word:List UInt8} {cls:Int} {M:Option Nat} {H:List Bool} (h:Sk w word cls M H W) (hb:Below (w.heap.size+2) W W'):Sk w word cls M H W':=
 ⟨h.below.trans (hb.mono (by omega)),(hb.block _ (by omega)).trans h.res,(hb.block _ (by omega)).trans h.box,h.len⟩
theorem YR {P:Program} {w:World} {ops:Array Oper} {rest:List Oper} {op:Oper} {a:Act} {Q:Exit->Act->World->Prop} (hgd:op.guard=none) (ty:TypeId) (x y:Operand) (ho:op.op=.store ty x y)
  (b k:Nat) (v:Value) (hx:a.eval x=.pointer (some ⟨b,k,none⟩)) (hy:a.eval y=v)
  (hc:(w.cell? ⟨b,k,none⟩).isSome=true) (hf:w.frozen? ⟨b,k,none⟩=false) (hi:(P.info? ty).map (·.size)=some 1) (h1:v.oneCell'=true)
  (h:wpList P ops Q rest (a.put op.dst undef) (w.setCell ⟨b,k,none⟩ v)):wpList P ops Q (op::rest) a w:=
 wpList_plain hgd fun _ hK=>by
  unfold Oper.wp;rw[UJ (P:=P) (e:=a.eval) (w:=w) ty x y ho b k v hx hy hc hf hi h1];exact hK _ _ h
theorem Zbc (word:List UInt8) (cls:Int) {w:World} {bm clock:Nat} {es:Array MapEntry} (hb:w.heap[bm]?=some (.map es clock)) (hst:MapKept.Stamped es clock) (hk:∀e∈es.toList,∃k:Nat,e.key=.int .i64 (k:Int)/\k<13) {A:Option Addr} {ms:List Nat} {n c:Nat} (hms:JW w A ms) (hn:ms.length=n) (hn2:n<=100) (hm:∀m∈ms,m<13) :
  Calls prog 230 #[.string ⟨word.toArray⟩,.int .i64 cls,.map (some bm),.slice A n c] w fun e w'=>∃H,e=.returned (.agg (Zv word cls H (some bm) false))/\TR H (fun i=>QK es i∨i∈ms)/\(∀i,(fun i=>QK es i∨i∈ms) i->H[i]?=some true)/\Below w.heap.size w w':=by
 have HMS:=Lh hms;have HN:=Lh hn;have HM:=Lh hm;have HZ:=Lh (List.length_replicate (n:=13) (a:=false));obtain⟨h1,h2,h3,h4⟩:=VH w (.cells #[.string ⟨#[]⟩,.int .i64 0,.bool false,.bool false,.bool false,.bool false,.bool false,.bool false,.bool false,.bool false,.bool false,.bool false,.bool false,.bool false,.bool false,.map none,.bool false] 270) (.cells #[.string ⟨word.toArray⟩,.int .i64 cls,.bool false,.bool false,.bool false,.bool false,.bool false,.bool false,.bool false,.bool false,.bool false,.bool false,.bool false,.bool false,.bool false,.map (some bm),.bool false] 270);obtain⟨W0,hW0⟩:∃W0,W0=(w.alloc (.cells #[.string ⟨#[]⟩,.int .i64 0,.bool false,.bool false,.bool false,.bool false,.bool false,.bool false,.bool false,.bool false,.bool false,.bool false,.bool false,.bool false,.bool false,.map none,.bool false] 270)).alloc (.cells #[.string ⟨word.toArray⟩,.int .i64 cls,.bool false,.bool false,.bool false,.bool false,.bool false,.bool false,.bool false,.bool false,.bool false,.bool false,.bool false,.bool false,.bool false,.map (some bm),.bool false] 270):=⟨_,rfl⟩
 rw[<-hW0] at h1 h2 h3 h4;have HO0:Hid (Sk w word cls (some bm) (List.replicate 13 false) W0):=⟨h3,h1,h2,rfl⟩;have HW0:=Lh hW0;have HS0:=Lh h4;have HB:=Lh hb;have HST:=Lh hst;have HK:=Lh hk;have hb0:W0.heap[bm]?=some (.map es clock):=Zt hb h3;have hrg:=run_range_map (P:=prog) W0 268 _ _ bm es clock underlying268 hb0;have hbI:=Zb W0 (.mapIter (some bm) clock #[] clock);have hrI:(W0.alloc (.mapIter (some bm) clock #[] clock)).heap[w.heap.size+2]?=some (.mapIter (some bm) clock #[] clock):=by rw[<-h4];exact ZG W0 _
 rw[h4] at hrg hbI;have HO1:Hid (Sk w word cls (some bm) (List.replicate 13 false) (W0.alloc (.mapIter (some bm) clock #[] clock))):=HO0.out.other hbI;have HRI:=Lh hrI;rw[hW0] at hrg;clear hb hst hk hb0 hbI hrI;clear h1 h2 h3 h4 hW0 hms hn hm;go_enter func230,ntmps230;go_wp2_with fail;clear hrg
 go_loopw [10] (fun _ wr=>∃(H:List Bool) (seen:Array Nat),Hid (Sk w word cls (some bm) H wr)/\Hid (wr.heap[w.heap.size+2]?=some (.mapIter (some bm) clock seen clock))/\Hid ((∀i,H[i]?=some true->QK es i)/\(∀e∈es.toList,seen.contains e.born=true->∀i:Nat,e.key=.int .i64 (i:Int)->H[i]?=some true))) (fun _ wr=>(leftOf es (wr.iterSeen (w.heap.size+2))).size)
 case atStart=>
  refine⟨List.replicate 13 false,#[],?_,?_,?_⟩
  ·rw[HW0.out] at HO1;exact HO1
  ·rw[HW0.out] at HRI;exact HRI
  ·exact⟨fun i hi=>(by rw[List.getElem?_replicate] at hi;split at hi<;>cases hi),fun e _ h=>(by simp at h)⟩
 case round=>
  clear HO1 HRI HW0 HS0 HO0;obtain⟨H,seen,HO,HR,HI⟩:=hrel;have hbm:=Zt HB.out HO.out.below;have law:=run_next_at (P:=prog) wr 0 (w.heap.size+2) bm clock clock seen es clock HR.out hbm HST.out.1 (Nl _);rcases law with ⟨h0,hrun⟩|⟨e,he,w2,hal,hrun⟩
  rotate_left
  ·obtain⟨k,hk,hk13⟩:=HK.out e (mem_left he).1;have hrlt:=(Ag.1 HR.out).1;have hb2:Below (w.heap.size+2) wr (ChangeMaps.setBlock w2 (w.heap.size+2) (.mapIter (some bm) clock (seen.push e.born) clock)):=VD (by rcases hal with rfl|rfl;exact Below.refl _ _;exact Zaq (Below.refl _ _)) (Nl _)
   have hO2:=HO.out.other hb2;have hr2:(ChangeMaps.setBlock w2 (w.heap.size+2) (.mapIter (some bm) clock (seen.push e.born) clock)).heap[w.heap.size+2]?=some (.mapIter (some bm) clock (seen.push e.born) clock):=Wx (by rcases hal with rfl|rfl<;>exact hrlt)
   have hen:=run_entry_at (P:=prog) _ (w.heap.size+2) bm clock seen es clock e hr2 (Zt HB.out hO2.below) (mem_left he).1 HST.out.2.1;rw[hk] at hrun hen;obtain⟨W2,hW2⟩:∃W2,W2=ChangeMaps.setBlock w2 (w.heap.size+2) (.mapIter (some bm) clock (seen.push e.born) clock):=⟨_,rfl⟩
   rw[<-hW2] at hrun hen hO2 hr2;have hnx:∀ty,(Instr.next (.pointer (some ⟨w.heap.size+2,0,none⟩)) false ty).run prog wr=_:=fun _=>hrun
   have hth:=hO2.there hk13;have HO3:=Lh (hO2.set hk13);have HR3:Hid ((W2.setCell ⟨w.heap.size+1,2+k,none⟩ (.bool true)).heap[w.heap.size+2]?=some (.mapIter (some bm) clock (seen.push e.born) clock)):=hoth hr2 (by omega)
   have hle:=HO.out.len;have HI3:Hid ((∀i,(H.set k true)[i]?=some true->QK es i)/\(∀e'∈es.toList,(seen.push e.born).contains e'.born=true->∀i:Nat,e'.key=.int .i64 (i:Int)->(H.set k true)[i]?=some true)):=by
    refine⟨fun i hi=>?_,fun e' he' hs i hi=>?_⟩
    ·rcases (WF hle hk13).1 hi with rfl|h
     ·exact⟨e,(mem_left he).1,hk⟩
     ·exact HI.out.1 i h
    ·refine (WF hle hk13).2 ?_;rw[contains_push,Bool.or_eq_true] at hs;rcases hs with hs|hs
     ·exact .inr (HI.out.2 e' he' hs i hi)
     ·have:e'=e:=born_inj HST.out.2.1 he' (mem_left he).1 (by simpa using hs)
      subst this;rw[hk] at hi;injection hi with _ hi
      exact .inl (by omega)
   have HMS2:Hid ((leftOf es (seen.push e.born)).size<(leftOf es seen).size):=left_shrinks es seen e he;have HTH:=Lh hth;have HHR:=HR;clear hrun hO2 hr2 hW2 hb2 HI hbm hal hk he hrlt hle hth HO;go_wp2_with (refine YR rfl 4 (.tmp 25) (.const (.bool true)) rfl (w.heap.size+1) (2+k) (.bool true) rfl rfl HTH.out.1 HTH.out.2 Ty rfl ?_);simp only[Act.put];go_roundw
   case rel=>exact⟨H.set k true,seen.push e.born,HO3.out,HR3.out,HI3.out⟩
   case measure=>
    rw[Q2 HR3.out,Q2 HHR.out];exact HMS2.out
  have hnx:∀ty,(Instr.next (.pointer (some ⟨w.heap.size+2,0,none⟩)) false ty).run prog wr=_:=fun _=>hrun
  have HKE:Hid ((∀i,H[i]?=some true->QK es i)/\∀i,QK es i->H[i]?=some true):=⟨HI.out.1,fun i ⟨e,he,hi⟩=>HI.out.2 e he (all_seen es seen h0 e he) i hi⟩
  clear hrun h0 HI HR hbm;go_wp2_with fail;clear hnx
  go_loopw [12,28] (fun _ iv wr=>∃(j:Nat) (H:List Bool),j<=n/\iv=.int .i64 (j:Int)/\Hid (Sk w word cls (some bm) H wr)/\Hid ((∀i,H[i]?=some true->QK es i∨i∈ms)/\(∀i:Nat,QK es i->H[i]?=some true)/\(∀i,i∈ms.take j->H[i]?=some true))) (fun _ iv _=>n-(intOf iv).toNat)
  case atStart=>exact⟨0,H,Nat.zero_le _,rfl,HO.out,⟨fun i hi=>.inl (HKE.out.1 i hi),HKE.out.2,fun i hi=>by simp at hi⟩⟩
  case round=>
   clear HO HKE;obtain⟨j,H,hj,rfl,HO,HI⟩:=hrel
   by_cases hlj:j<n
   ·have e1:decide (j<n)=true:=Dt hlj;have e2:decide ((j:Int)<(n:Int))=true:=Dt (by omega)
    obtain⟨m,hmj⟩:∃m,ms[j]?=some m:=⟨_,List.getElem?_eq_getElem (by have:=HN.out;omega)⟩
    obtain⟨b,o,rfl,hbs,hc⟩:=(HMS.out.below HO.out.below) j m hmj;have hm13:=HM.out m (Lm hmj);have HTH:=Lh (HO.out.there hm13);have HO3:=Lh (HO.out.set hm13);have hle:=HO.out.len;have HI3:Hid ((∀i,(H.set m true)[i]?=some true->QK es i∨i∈ms)/\(∀i:Nat,QK es i->(H.set m true)[i]?=some true)/\(∀i,i∈ms.take (j+1)->(H.set m true)[i]?=some true)):=by
     refine⟨fun i hi=>?_,fun i hi=>(WF hle hm13).2 (.inr (HI.out.2.1 i hi)),fun i hi=>(WF hle hm13).2 ?_⟩
     ·rcases (WF hle hm13).1 hi with rfl|h
      ·exact .inr (Lm hmj)
      ·exact HI.out.1 i h
     ·obtain⟨hj2,rfl⟩:=Lg.1 hmj;rw[List.take_succ_eq_append_getElem hj2,List.mem_append,List.mem_singleton] at hi;rcases hi with hi|hi
      ·exact .inr (HI.out.2.2 i hi)
      ·exact .inl hi
    clear hmj hle HI HO;go_wp2_with (refine YR rfl 4 (.tmp 34) (.const (.bool true)) rfl (w.heap.size+1) (2+m) (.bool true) rfl rfl HTH.out.1 HTH.out.2 Ty rfl ?_)
    (try simp only[Act.put])
    go_roundw
    case rel=>exact⟨j+1,H.set m true,by omega,by go_num,HO3.out,HI3.out⟩
    case measure=>simp[intOf];omega
   have e1:decide (j<n)=false:=Df hlj;have e2:decide ((j:Int)<(n:Int))=false:=Df (by omega)
   have HQ:Hid (TR H (fun i=>QK es i∨i∈ms)/\∀i,(QK es i∨i∈ms)->H[i]?=some true):=by
    have h3:=HI.out.2.2;rw[List.take_of_length_le (by have:=HN.out;omega)] at h3
    refine⟨⟨HO.out.len,fun i hi=>HI.out.1 i hi⟩,fun i hi=>hi.elim (HI.out.2.1 i) (h3 i)⟩
   have hsz:(Zv word cls H (some bm) false).size=17:=Xt HO.out.len;have HZ2:Hid ((prog.info? 270).map (·.size)=some (Zv word cls H (some bm) false).size):=by show _=_;rw[hsz];exact Tx
   have HBX:Hid (Blk wr (w.heap.size+1) (Zv word cls H (some bm) false)):=⟨_,HO.out.box⟩;have HTH:Hid (wr.there w.heap.size 0 (Zv word cls H (some bm) false).size):=by
    have:=Wh HO.out.res
    show World.there _ _ _ _;rw[hsz];exact this
   have HBW:=Lh HO.out.below;obtain⟨W9,hW9⟩:∃W9,W9=wr.setCells w.heap.size 0 (Zv word cls H (some bm) false).toList:=⟨_,rfl⟩
   have HW9:=Lh hW9;have HB9:Hid (Below w.heap.size w W9):=by show Below _ _ _;rw[hW9];exact Lib.below_setCells _ (Nl _) _ _ HBW.out
   have HR9:Hid (W9.rangeAt w.heap.size 0 (Zv word cls H (some bm) false).toList):=by
    show World.rangeAt _ _ _ _;rw[hW9];exact World.rangeAt_setCells_same _ _ _ _ (by rw[Array.length_toList];exact HTH.out)
   clear hsz hW9 HI HO;go_wp2_with (first|(refine Zj rfl 270 (.tmp 9) rfl (w.heap.size+1) rfl (Zv word cls H (some bm) false) HBX.out underlying270 rfl HZ2.out ?_)|(refine wpList_store_mid rfl 270 (.tmp 8) (.tmp 36) rfl w.heap.size 0 (Zv word cls H (some bm) false) rfl rfl HTH.out HZ2.out U3 ?_;rw[<-HW9.out]))
   refine bodyPost_ret (v:=.agg (Zv word cls H (some bm) false)) ?_ rfl ?_
   ·exact Yr Tryz.f230 8 270 (Zv word cls H (some bm) false) rfl rfl HR9.out underlying270 rfl HZ2.out
   exact⟨H,rfl,HQ.out.1,HQ.out.2,HB9.out⟩
theorem ZcJ (word:List UInt8) (cls:Int) {w:World} {A:Option Addr} {ms:List Nat} {n c:Nat} (hms:JW w A ms) (hn:ms.length=n) (hn2:n<=100) (hm:∀m∈ms,m<13) :
  Calls prog 230 #[.string ⟨word.toArray⟩,.int .i64 cls,.map none,.slice A n c] w fun e w'=>∃H,e=.returned (.agg (Zv word cls H none false))/\TR H (fun i=>i∈ms)/\(∀i,(fun i=>i∈ms) i->H[i]?=some true)/\Below w.heap.size w w':=by
 have HMS:=Lh hms;have HN:=Lh hn;have HM:=Lh hm;have HZ:=Lh (List.length_replicate (n:=13) (a:=false));obtain⟨h1,h2,h3,h4⟩:=VH w (.cells #[.string ⟨#[]⟩,.int .i64 0,.bool false,.bool false,.bool false,.bool false,.bool false,.bool false,.bool false,.bool false,.bool false,.bool false,.bool false,.bool false,.bool false,.map none,.bool false] 270) (.cells #[.string ⟨word.toArray⟩,.int .i64 cls,.bool false,.bool false,.bool false,.bool false,.bool false,.bool false,.bool false,.bool false,.bool false,.bool false,.bool false,.bool false,.bool false,.map none,.bool false] 270);obtain⟨W0,hW0⟩:∃W0,W0=(w.alloc (.cells #[.string ⟨#[]⟩,.int .i64 0,.bool false,.bool false,.bool false,.bool false,.bool false,.bool false,.bool false,.bool false,.bool false,.bool false,.bool false,.bool false,.bool false,.map none,.bool false] 270)).alloc (.cells #[.string ⟨word.toArray⟩,.int .i64 cls,.bool false,.bool false,.bool false,.bool false,.bool false,.bool false,.bool false,.bool false,.bool false,.bool false,.bool false,.bool false,.bool false,.map none,.bool false] 270):=⟨_,rfl⟩
 rw[<-hW0] at h1 h2 h3 h4;have HO0:Hid (Sk w word cls none (List.replicate 13 false) W0):=⟨h3,h1,h2,rfl⟩;have HW0:=Lh hW0;have HS0:=Lh h4;have hrg:=run_range_nilMap (P:=prog) W0 268 _ _ underlying268;have hbI:=Zb W0 (.mapIter none 0 #[] 0);have hnx0:=fun ty=>run_next_nilMap (P:=prog) W0 ty 0 0 #[]
 rw[h4] at hrg hbI;simp only[h4] at hnx0;have HO1:Hid (Sk w word cls none (List.replicate 13 false) (W0.alloc (.mapIter none 0 #[] 0))):=HO0.out.other hbI;rw[hW0] at hrg;have HNX:=Lh hnx0;clear hbI hnx0;clear h1 h2 h3 h4 hW0 hms hn hm;go_enter func230,ntmps230;go_wp2_with fail;clear hrg
 go_loopw [10] (fun _ wr=>wr=(W0.alloc (.mapIter none 0 #[] 0))) (fun _ _=>0)
 case atStart=>rw[HW0.out]
 case round=>
  subst hrel;have HO:=HO1;obtain⟨H,hH⟩:∃H,H=List.replicate 13 false:=⟨_,rfl⟩
  have HKE:Hid ((∀i,H[i]?=some true->False)/\∀i:Nat,False->H[i]?=some true):=⟨fun i hi=>(by rw[hH,List.getElem?_replicate] at hi;split at hi<;>cases hi),fun i h=>h.elim⟩
  rw[<-hH] at HO;have hnx:=HNX.out;obtain⟨wr,hwr⟩:∃wr,wr=W0.alloc (.mapIter none 0 #[] 0):=⟨_,rfl⟩
  rw[<-hwr] at hnx HO ⊢;clear HO1 HNX HW0 HS0 HO0 hH hwr HZ;go_wp2_with fail;clear hnx
  go_loopw [12,28] (fun _ iv wr=>∃(j:Nat) (H:List Bool),j<=n/\iv=.int .i64 (j:Int)/\Hid (Sk w word cls none H wr)/\Hid ((∀i,H[i]?=some true->False∨i∈ms)/\(∀i:Nat,False->H[i]?=some true)/\(∀i,i∈ms.take j->H[i]?=some true))) (fun _ iv _=>n-(intOf iv).toNat)
  case atStart=>exact⟨0,H,Nat.zero_le _,rfl,HO.out,⟨fun i hi=>.inl (HKE.out.1 i hi),HKE.out.2,fun i hi=>by simp at hi⟩⟩
  case round=>
   clear HO HKE;obtain⟨j,H,hj,rfl,HO,HI⟩:=hrel
   by_cases hlj:j<n
   ·have e1:decide (j<n)=true:=Dt hlj;have e2:decide ((j:Int)<(n:Int))=true:=Dt (by omega)
    obtain⟨m,hmj⟩:∃m,ms[j]?=some m:=⟨_,List.getElem?_eq_getElem (by have:=HN.out;omega)⟩
    obtain⟨b,o,rfl,hbs,hc⟩:=(HMS.out.below HO.out.below) j m hmj;have hm13:=HM.out m (Lm hmj);have HTH:=Lh (HO.out.there hm13);have HO3:=Lh (HO.out.set hm13);have hle:=HO.out.len;have HI3:Hid ((∀i,(H.set m true)[i]?=some true->False∨i∈ms)/\(∀i:Nat,False->(H.set m true)[i]?=some true)/\(∀i,i∈ms.take (j+1)->(H.set m true)[i]?=some true)):=by
     refine⟨fun i hi=>?_,fun i hi=>(WF hle hm13).2 (.inr (HI.out.2.1 i hi)),fun i hi=>(WF hle hm13).2 ?_⟩
     ·rcases (WF hle hm13).1 hi with rfl|h
      ·exact .inr (Lm hmj)
      ·exact HI.out.1 i h
     ·obtain⟨hj2,rfl⟩:=Lg.1 hmj;rw[List.take_succ_eq_append_getElem hj2,List.mem_append,List.mem_singleton] at hi;rcases hi with hi|hi
      ·exact .inr (HI.out.2.2 i hi)
      ·exact .inl hi
    clear hmj hle HI HO;go_wp2_with (refine YR rfl 4 (.tmp 34) (.const (.bool true)) rfl (w.heap.size+1) (2+m) (.bool true) rfl rfl HTH.out.1 HTH.out.2 Ty rfl ?_)
    (try simp only[Act.put])
    go_roundw
    case rel=>exact⟨j+1,H.set m true,by omega,by go_num,HO3.out,HI3.out⟩
    case measure=>simp[intOf];omega
   have e1:decide (j<n)=false:=Df hlj;have e2:decide ((j:Int)<(n:Int))=false:=Df (by omega)
   have HQ:Hid (TR H (fun i=>i∈ms)/\∀i,(i∈ms)->H[i]?=some true):=by
    have h3:=HI.out.2.2;rw[List.take_of_length_le (by have:=HN.out;omega)] at h3
    refine⟨⟨HO.out.len,fun i hi=>(HI.out.1 i hi).resolve_left id⟩,fun i hi=>h3 i hi⟩
   have hsz:(Zv word cls H none false).size=17:=Xt HO.out.len;have HZ2:Hid ((prog.info? 270).map (·.size)=some (Zv word cls H none false).size):=by show _=_;rw[hsz];exact Tx
   have HBX:Hid (Blk wr (w.heap.size+1) (Zv word cls H none false)):=⟨_,HO.out.box⟩;have HTH:Hid (wr.there w.heap.size 0 (Zv word cls H none false).size):=by
    have:=Wh HO.out.res
    show World.there _ _ _ _;rw[hsz];exact this
   have HBW:=Lh HO.out.below;obtain⟨W9,hW9⟩:∃W9,W9=wr.setCells w.heap.size 0 (Zv word cls H none false).toList:=⟨_,rfl⟩
   have HW9:=Lh hW9;have HB9:Hid (Below w.heap.size w W9):=by show Below _ _ _;rw[hW9];exact Lib.below_setCells _ (Nl _) _ _ HBW.out
   have HR9:Hid (W9.rangeAt w.heap.size 0 (Zv word cls H none false).toList):=by
    show World.rangeAt _ _ _ _;rw[hW9];exact World.rangeAt_setCells_same _ _ _ _ (by rw[Array.length_toList];exact HTH.out)
   clear hsz hW9 HI HO;go_wp2_with (first|(refine Zj rfl 270 (.tmp 9) rfl (w.heap.size+1) rfl (Zv word cls H none false) HBX.out underlying270 rfl HZ2.out ?_)|(refine wpList_store_mid rfl 270 (.tmp 8) (.tmp 36) rfl w.heap.size 0 (Zv word cls H none false) rfl rfl HTH.out HZ2.out U3 ?_;rw[<-HW9.out]))
   refine bodyPost_ret (v:=.agg (Zv word cls H none false)) ?_ rfl ?_
   ·exact Yr Tryz.f230 8 270 (Zv word cls H none false) rfl rfl HR9.out underlying270 rfl HZ2.out
   exact⟨H,rfl,HQ.out.1,HQ.out.2,HB9.out⟩
def YJ:Nat->List (Nat×Value)->List MapEntry
 | _,[]=>[]
 | n,x::l=>{ key:=.int .i64 (x.1:Int),val:=x.2,born:=n }::YJ (n+1) l
def YT (l:List (Nat×Value)):Array MapEntry:=(YJ 0 l).toArray
theorem Q3:∀(l:List (Nat×Value)) (x:Nat×Value) (n:Nat),YJ n (l++[x])=YJ n l++[{ key:=.int .i64 (x.1:Int),val:=x.2,born:=n+l.length }]
 | [],x,n=>by simp[YJ]
 | y::l,x,n=>by
  rw[List.cons_append,YJ,YJ,Q3 l x (n+1),List.cons_append,List.length_cons,show n+1+l.length=n+(l.length+1) by omega]
theorem G9 (l:List (Nat×Value)) (x:Nat×Value):(YT l).push { key:=.int .i64 (x.1:Int),val:=x.2,born:=l.length }=YT (l++[x]):=by
 unfold YT;rw[Q3,List.push_toArray,Nat.zero_add]
theorem Xk:∀{l:List (Nat×Value)} {n:Nat} {e:MapEntry},e∈YJ n l->∃x∈l,e.key=.int .i64 (x.1:Int)/\n<=e.born/\e.born<n+l.length
 | [],_,_,h=>by cases h
 | y::l,n,e,h=>by
  rcases List.mem_cons.1 h with rfl|h
  ·exact⟨y,List.mem_cons_self,rfl,Nl _,by simp⟩
  ·obtain⟨x,h1,h2,h3,h4⟩:=Xk h;exact⟨x,List.mem_cons_of_mem _ h1,h2,by omega,by rw[List.length_cons];omega⟩
theorem VV:∀{l:List (Nat×Value)} {n:Nat} {x:Nat×Value},x∈l->∃e∈YJ n l,e.key=.int .i64 (x.1:Int)
 | y::l,n,x,h=>by
  rcases List.mem_cons.1 h with rfl|h
  ·exact⟨_,List.mem_cons_self,rfl⟩
  ·obtain⟨e,h1,h2⟩:=VV (n:=n+1) h;exact⟨e,List.mem_cons_of_mem _ h1,h2⟩
theorem Hd {a b:Nat} (h:(Value.int .i64 (a:Int))=.int .i64 (b:Int)):a=b:=by injection h with _ h;omega
theorem He {l:List (Nat×Value)} {i:Nat}:QK (YT l) i↔i∈l.map (·.1):=by
 constructor
 ·rintro⟨e,he,hk⟩;obtain⟨x,hx,h2,-⟩:=Xk he;rw[h2] at hk;rw[<-Hd hk];exact List.mem_map.2 ⟨x,hx,rfl⟩
 ·intro h;obtain⟨x,hx,rfl⟩:=List.mem_map.1 h;exact VV hx
theorem Qc:∀(l:List (Nat×Value)) (n:Nat),(l.map (·.1)).Nodup->((YJ n l).map (·.born)).Nodup/\((YJ n l).map (·.key)).Nodup
 | [],_,_=>by simp[YJ]
 | x::l,n,h=>by
  rw[List.map_cons,List.nodup_cons] at h;obtain⟨h1,h2⟩:=Qc l (n+1) h.2;constructor
  ·rw[YJ,List.map_cons,List.nodup_cons];refine⟨fun hm=>?_,h1⟩
   obtain⟨e,he,hb⟩:=List.mem_map.1 hm;obtain⟨-,-,-,h3,-⟩:=Xk he;have hb:e.born=n:=hb;omega
  ·rw[YJ,List.map_cons,List.nodup_cons];refine⟨fun hm=>?_,h2⟩
   obtain⟨e,he,hb⟩:=List.mem_map.1 hm;obtain⟨y,hy,h3,-⟩:=Xk he;have hb:e.key=.int .i64 (x.1:Int):=hb;rw[h3] at hb;exact h.1 (by rw[<-Hd hb];exact List.mem_map.2 ⟨y,hy,rfl⟩)
theorem Sl {l:List (Nat×Value)} (h:(l.map (·.1)).Nodup):MapKept.Stamped (YT l) l.length:=by
 obtain⟨h1,h2⟩:=Qc l 0 h;refine⟨fun e he=>?_,h1,h2⟩
 obtain⟨-,-,-,-,h4⟩:=Xk he;omega
theorem NK {kd:IntKind}:∀(l:List (Nat×Value)) (n i:Nat) (k:Nat),i∉l.map (·.1)->Instr.findNow (.int kd) (.int .i64 (i:Int)) (YJ n l) k=some none
 | [],_,_,_,_=>rfl
 | x::l,n,i,k,h=>by
  rw[List.map_cons,List.mem_cons,not_or] at h;rw[YJ,Instr.findNow];have e1:Instr.sameNow (.int kd) (.int .i64 (i:Int)) (.int .i64 (x.1:Int))=some false:=by
   simp only[Instr.sameNow,if_true]
   have:((i:Int)==(x.1:Int))=false:=by rw[Bn];exact fun e=>h.1 (by omega)
   rw[this]
  rw[e1];exact NK l (n+1) i (k+1) h.2
theorem Qd {kd:IntKind}:∀(l:List (Nat×Value)) (n i:Nat) (u:Value) (k:Nat),(l.map (·.1)).Nodup->(i,u)∈l->∃j,Instr.findNow (.int kd) (.int .i64 (i:Int)) (YJ n l) k=some (some (j,u))
 | x::l,n,i,u,k,hn,h=>by
  rw[List.map_cons,List.nodup_cons] at hn;rw[YJ,Instr.findNow]
  by_cases hx:i=x.1
  ·have e1:Instr.sameNow (.int kd) (.int .i64 (i:Int)) (.int .i64 (x.1:Int))=some true:=by
    simp only[Instr.sameNow,if_true];rw[hx];simp
   rw[e1];rcases List.mem_cons.1 h with rfl|h
   ·exact⟨_,rfl⟩
   ·exact absurd (List.mem_map.2 ⟨_,h,hx⟩) hn.1
  ·have e1:Instr.sameNow (.int kd) (.int .i64 (i:Int)) (.int .i64 (x.1:Int))=some false:=by
    simp only[Instr.sameNow,if_true]
    have:((i:Int)==(x.1:Int))=false:=by rw[Bn];exact fun e=>hx (by omega)
    rw[this]
   rw[e1];rcases List.mem_cons.1 h with rfl|h
   ·exact absurd rfl hx
   ·exact Qd l (n+1) i u (k+1) hn.2 h
structure Uz (w:World) (r:Nat) (u:Value) (p q:Bool):Prop where
 is:∃b1 b2,u=.func (.func 286) #[] #[.pointer (some ⟨b1,0,none⟩),.pointer (some ⟨b2,0,none⟩)]/\Blk w b1 #[.bool p]/\Blk w b2 #[.bool q]/\b1≠r/\b2≠r
theorem Blk.keepR {w w':World} {r b:Nat} {cs:Array Value} (h:Blk w b cs) (hb:Zq (fun k=>k=r) w w') (hn:b≠r):Blk w' b cs:=by
 obtain⟨t,h⟩:=h;exact⟨t,(hb.block _ (Ag.1 h).1 hn).trans h⟩
theorem Uz.keep {w w':World} {r:Nat} {u:Value} {p q:Bool} (h:Uz w r u p q) (hb:Zq (fun k=>k=r) w w'):Uz w' r u p q:=by
 obtain⟨b1,b2,e,h1,h2,n1,n2⟩:=h.is;exact⟨b1,b2,e,h1.keepR hb n1,h2.keepR hb n2,n1,n2⟩
structure Zb6 (w:World) (r:Nat) (M:Option Nat) (nums:List (Nat×Bool×Bool)):Prop where
 is:∀i p q,(i,p,q)∈nums->∃bm es clock j u,M=some bm/\w.heap[bm]?=some (.map es clock)/\bm≠r/\Instr.findNow (.int .i64) (.int .i64 (i:Int)) es.toList 0=some (some (j,u))/\Uz w r u p q
structure KOk (w:World) (r:Nat) (v:Value) (nums:List (Nat×Bool×Bool)) (more:List Nat):Prop where
 is:∃word cls H M code,v=.agg (Zv word cls H M code)/\TR H (fun i=>i∈nums.map (·.1)∨i∈more)/\(∀i,(i∈nums.map (·.1)∨i∈more)->H[i]?=some true)/\Zb6 w r M nums
theorem Az {w:World} {r bm:Nat} {l:List (Nat×Value)} {nums:List (Nat×Bool×Bool)} (hb:w.heap[bm]?=some (.map (YT l) l.length)) (hr:bm≠r) (hn:(l.map (·.1)).Nodup) (h:∀i p q,(i,p,q)∈nums->∃u,(i,u)∈l/\Uz w r u p q):Zb6 w r (some bm) nums:=⟨fun i p q hm=>by
 obtain⟨u,h1,h2⟩:=h i p q hm;obtain⟨j,h3⟩:=Qd (kd:=.i64) l 0 i u 0 hn h1
 exact⟨bm,_,_,j,u,rfl,hb,hr,h3,h2⟩⟩
section
variable {P:Program} {ops:Array Oper} {rest:List Oper} {o:Oper} {a:Act} {Q:Exit->Act->World->Prop} {mty kt et:TypeId}
theorem XH {w:World} (l:List (Nat×Value)) (i:Nat) (val:Value) (hg:o.guard=none) (m x v:Operand) (hop:o.op=Op.insert mty m x v) (hm:P.underlying mty=some (.map kt et)) (hk:P.underlying kt=some (.int .i64))
  (hmv:a.eval m=.map (some w.heap.size)) (hx:a.eval x=.int .i64 (i:Int)) (hv:a.eval v=val) (hf:i∉l.map (·.1))
  (hK:wpList P ops Q rest (a.put o.dst undef) (w.alloc (.map (YT (l++[(i,val)])) (l++[(i,val)]).length))):wpList P ops Q (o::rest) a (w.alloc (.map (YT l) l.length)):=by
 refine wpList_plain hg fun K' hK'=>?_
 have hrun:=UY (P:=P) (w:=w.alloc (.map (YT l) l.length)) (mty:=mty) (key:=.int .i64 (i:Int)) (val:=val) hm hk rfl (ZG w (.map (YT l) l.length)) (NK l 0 i 0 hf);have e:({ w.alloc (.map (YT l) l.length) with heap:=(w.alloc (.map (YT l) l.length)).heap.setIfInBounds w.heap.size (.map ((YT l).push { key:=.int .i64 (i:Int),val,born:=l.length }) (l.length+1)) }:World)=w.alloc (.map (YT (l++[(i,val)])) (l++[(i,val)]).length):=by
  rw[G9 l (i,val),List.length_append,List.length_singleton];have e2:∀(h:Array Obj) (x y:Obj),(h.push x).setIfInBounds h.size y=h.push y:=fun h x y=>by apply Array.toList_inj.1;simp
  simp[World.alloc,-World.alloc_eq,e2]
 rw[e] at hrun;unfold Oper.wp;simp[execOp,hop,hmv,hx,hv,hrun,Result.andThen];exact hK' _ _ (by simpa using hK)
end
theorem Zbd {w:World} {word:List UInt8} {cls:Int} {H:List Bool} {M:Option Nat} {code:Bool} (h1:H.length=13) :
  Calls prog 232 #[.agg (Zv word cls H M code)] w fun e w'=>e=.returned (.agg (Zv word cls H M true))/\Below w.heap.size w w':=by
 have hs2:=Xt (word:=word) (cls:=cls) (M:=M) (code:=true) h1;have hset:(Zv word cls H M code).setIfInBounds 16 (.bool true)=Zv word cls H M true:=by
  unfold Zv;rw[List.setIfInBounds_toArray,List.set_cons_succ,List.set_cons_succ,List.set_append_right _ _ (by rw[List.length_map,h1];decide),List.length_map,h1]
  rfl
 have hs:=Xt (word:=word) (cls:=cls) (M:=M) (code:=code) h1;obtain⟨g1,g2,g3,-⟩:=VH w (.cells (Zv word cls H M code) 270) (.cells #[.string ⟨#[]⟩,.int .i64 0,.bool false,.bool false,.bool false,.bool false,.bool false,.bool false,.bool false,.bool false,.bool false,.bool false,.bool false,.bool false,.bool false,.map none,.bool false] 270);obtain⟨W1,hW1⟩:∃W1,W1=((w.alloc (.cells (Zv word cls H M code) 270)).alloc (.cells #[.string ⟨#[]⟩,.int .i64 0,.bool false,.bool false,.bool false,.bool false,.bool false,.bool false,.bool false,.bool false,.bool false,.bool false,.bool false,.bool false,.bool false,.map none,.bool false] 270)).setCell ⟨w.heap.size,16,none⟩ (.bool true):=⟨_,rfl⟩
 have k1:W1.heap[w.heap.size]?=some (.cells (Zv word cls H M true) 270 (0,0)):=by
  rw[hW1,<-hset];exact Go.Proofs.YtpieeldbamklkaaGreatDoor.hset (o:=16) (.bool true) g1
 have k2:W1.heap[w.heap.size+1]?=some (.cells #[.string ⟨#[]⟩,.int .i64 0,.bool false,.bool false,.bool false,.bool false,.bool false,.bool false,.bool false,.bool false,.bool false,.bool false,.bool false,.bool false,.bool false,.map none,.bool false] 270 (0,0)):=by rw[hW1];exact hoth g2 (by omega)
 have k3:Below w.heap.size w W1:=by rw[hW1];exact Yv g3 (Nl _) _ _
 have HC:Hid ((((w.alloc (.cells (Zv word cls H M code) 270)).alloc (.cells #[.string ⟨#[]⟩,.int .i64 0,.bool false,.bool false,.bool false,.bool false,.bool false,.bool false,.bool false,.bool false,.bool false,.bool false,.bool false,.bool false,.bool false,.map none,.bool false] 270)).cell? ⟨w.heap.size,16,none⟩).isSome=true):=by show _=_;rw[Zg g1,Array.getElem?_eq_getElem (by rw[hs];decide)];rfl
 have HF:Hid (((w.alloc (.cells (Zv word cls H M code) 270)).alloc (.cells #[.string ⟨#[]⟩,.int .i64 0,.bool false,.bool false,.bool false,.bool false,.bool false,.bool false,.bool false,.bool false,.bool false,.bool false,.bool false,.bool false,.bool false,.map none,.bool false] 270)).frozen? ⟨w.heap.size,16,none⟩=false):=Zn g1 _;have HBX:Hid (Blk W1 w.heap.size (Zv word cls H M true)):=⟨_,k1⟩;have HZ2:Hid ((prog.info? 270).map (·.size)=some (Zv word cls H M true).size):=by show _=_;rw[hs2];exact Tx
 have HTH:Hid (W1.there (w.heap.size+1) 0 (Zv word cls H M true).size):=by
  have:=Wh k2
  show World.there _ _ _ _;rw[hs2];exact this
 obtain⟨W9,hW9⟩:∃W9,W9=W1.setCells (w.heap.size+1) 0 (Zv word cls H M true).toList:=⟨_,rfl⟩
 have HW9:=Lh hW9;have HB9:Hid (Below w.heap.size w W9):=by show Below _ _ _;rw[hW9];exact Lib.below_setCells _ (by omega) _ _ k3
 have HR9:Hid (W9.rangeAt (w.heap.size+1) 0 (Zv word cls H M true).toList):=by
  show World.rangeAt _ _ _ _;rw[hW9];exact World.rangeAt_setCells_same _ _ _ _ (by rw[Array.length_toList];exact HTH.out)
 have HW1:=Lh hW1;clear hW9 hW1 k1 k2 k3 g1 g2 g3 hs hs2 hset h1;go_enter func232,ntmps232;go_wp2_with (first|(refine YR rfl 4 (.tmp 3) (.const (.bool true)) rfl w.heap.size 16 (.bool true) rfl rfl HC.out HF.out Ty rfl ?_;rw[<-HW1.out])|(refine Zj rfl 270 (.tmp 1) rfl w.heap.size rfl (Zv word cls H M true) HBX.out underlying270 rfl HZ2.out ?_)|(refine wpList_store_mid rfl 270 (.tmp 2) (.tmp 4) rfl (w.heap.size+1) 0 (Zv word cls H M true) rfl rfl HTH.out HZ2.out U3 ?_;rw[<-HW9.out]))
 refine bodyPost_ret (v:=.agg (Zv word cls H M true)) ?_ rfl ?_
 ·exact Yr Tryz.f232 2 270 (Zv word cls H M true) rfl rfl HR9.out underlying270 rfl HZ2.out
 exact⟨rfl,HB9.out⟩
theorem PE {w:World} {b:Nat} {ms:List Nat} (h:Blk w b (ms.map (fun (m:Nat)=>Value.int .i64 (m:Int))).toArray):JW w (some ⟨b,0,none⟩) ms:=fun i m hm=>by
 refine⟨b,0,rfl,h.ltB,?_⟩;rw[Nat.zero_add,h.c i,List.getElem?_toArray,List.getElem?_map,hm];rfl
theorem ZcK (word:List UInt8) {w:World} {r bo bp:Nat} {vp:Value} (hr:r<w.heap.size) (h1:Blk w bo #[.func (.func 230) #[] #[]]) (h2:Blk w bp #[vp]) (hL:Uz w r vp true false) :
  Calls prog 231 #[.string ⟨word.toArray⟩,.pointer (some ⟨bo,0,none⟩),.pointer (some ⟨bp,0,none⟩)] w fun e w'=>∃v,e=.returned v/\KOk w' r v [(5,true,false)] [2]/\Below w.heap.size w w'/\∃H bm,v=.agg (Zv word 2 H (some bm) false)/\TR H (fun i=>i=5∨i=2)/\w'.heap[bm]?=some (.map (YT [(5,vp)]) 1):=by
 obtain⟨g1,g2,g3,g4⟩:=VH w (.cells #[.string ⟨#[]⟩,.int .i64 0,.bool false,.bool false,.bool false,.bool false,.bool false,.bool false,.bool false,.bool false,.bool false,.bool false,.bool false,.bool false,.bool false,.map none,.bool false] 270) (.map (YT []) 0);have q1:(w.alloc (.cells #[.string ⟨#[]⟩,.int .i64 0,.bool false,.bool false,.bool false,.bool false,.bool false,.bool false,.bool false,.bool false,.bool false,.bool false,.bool false,.bool false,.bool false,.map none,.bool false] 270)).cell? ⟨bo,0,none⟩=some (.func (.func 230) #[] #[]):=(h1.below (Zb _ _)).c 0;have q2:((w.alloc (.cells #[.string ⟨#[]⟩,.int .i64 0,.bool false,.bool false,.bool false,.bool false,.bool false,.bool false,.bool false,.bool false,.bool false,.bool false,.bool false,.bool false,.bool false,.map none,.bool false] 270)).alloc (.map (YT []) 0)).cell? ⟨bp,0,none⟩=some vp:=(h2.below g3).c 0;clear g1 g2 g3 g4;obtain⟨g1,g2,g3,g4⟩:=VH w (.cells #[.string ⟨#[]⟩,.int .i64 0,.bool false,.bool false,.bool false,.bool false,.bool false,.bool false,.bool false,.bool false,.bool false,.bool false,.bool false,.bool false,.bool false,.map none,.bool false] 270) (.map (YT [(5,vp)]) 1);have g5:=Zb ((w.alloc (.cells #[.string ⟨#[]⟩,.int .i64 0,.bool false,.bool false,.bool false,.bool false,.bool false,.bool false,.bool false,.bool false,.bool false,.bool false,.bool false,.bool false,.bool false,.map none,.bool false] 270)).alloc (.map (YT [(5,vp)]) 1)) (.cells #[.int .i64 2] 3);have g6:=ZG ((w.alloc (.cells #[.string ⟨#[]⟩,.int .i64 0,.bool false,.bool false,.bool false,.bool false,.bool false,.bool false,.bool false,.bool false,.bool false,.bool false,.bool false,.bool false,.bool false,.map none,.bool false] 270)).alloc (.map (YT [(5,vp)]) 1)) (.cells #[.int .i64 2] 3);rw[g4] at g6;obtain⟨W2,hW2⟩:∃W2,W2=((w.alloc (.cells #[.string ⟨#[]⟩,.int .i64 0,.bool false,.bool false,.bool false,.bool false,.bool false,.bool false,.bool false,.bool false,.bool false,.bool false,.bool false,.bool false,.bool false,.map none,.bool false] 270)).alloc (.map (YT [(5,vp)]) 1)).alloc (.cells #[.int .i64 2] 3):=⟨_,rfl⟩
 rw[<-hW2] at g5 g6;have hb:=bto g3 g5;have k1:=Zt g1 g5;have k2:=Zt g2 g5;have hms:JW W2 (some ⟨w.heap.size+2,0,none⟩) [2]:=PE ⟨_,g6⟩
 have C1:=Zbc (A:=some ⟨w.heap.size+2,0,none⟩) (ms:=[2]) (n:=1) (c:=1) word 2 k2 (Sl (l:=[(5,vp)]) (by simp)) (fun e he=>⟨5,by
  obtain⟨x,hx,h2,-⟩:=Xk he;rw[List.mem_singleton] at hx
  rw[h2,hx],by decide⟩) hms rfl (by decide) (by simp)
 simp only[He] at C1;have HK2:=Lh k2;have HL:=Lh hL;have HR:=Lh hr;have HK1:=Lh k1;have HB:=Lh hb;rw[hW2] at C1;have HC:=Lh C1;have HW2:=Lh hW2;have hmk:=fun (w:World)=>show (Instr.makeMap 268 none).run prog w=.ok (.map (some w.heap.size)) (w.alloc (.map (YT []) 0)) from run_makeMap (P:=prog) 268 w
 clear C1 hW2 k1 k2 hb g1 g2 g3 g4 g5 g6 hms h1 h2 hL hr;go_enter func231,ntmps231;go_wp2_with (refine XH [] 5 vp rfl (.tmp 7) (.const (.int .i64 5)) (.tmp 8) rfl underlying268 underlying3 (by rw[World.size_alloc];rfl) rfl rfl (by simp) ?_)
 refine HC.out.mono ?_;rintro e w3 ⟨H,rfl,j1,j2,hb3⟩;rw[<-HW2.out] at hb3;have hs2:=Xt (word:=word) (cls:=2) (M:=some (w.heap.size+1)) (code:=false) j1.1;have k1:=Zt HK1.out hb3;have k2:=Zt HK2.out hb3;have hb4:=bto HB.out hb3;have HZ2:Hid ((prog.info? 270).map (·.size)=some (Zv word 2 H (some (w.heap.size+1)) false).size):=by show _=_;rw[hs2];exact Tx
 have HTH:Hid (w3.there w.heap.size 0 (Zv word 2 H (some (w.heap.size+1)) false).size):=by
  have:=Wh k1
  show World.there _ _ _ _;rw[hs2];exact this
 obtain⟨W9,hW9⟩:∃W9,W9=w3.setCells w.heap.size 0 (Zv word 2 H (some (w.heap.size+1)) false).toList:=⟨_,rfl⟩
 have HW9:=Lh hW9;have HB9:Hid (Below w.heap.size w W9):=by show Below _ _ _;rw[hW9];exact Lib.below_setCells _ (Nl _) _ _ hb4
 have HR9:Hid (W9.rangeAt w.heap.size 0 (Zv word 2 H (some (w.heap.size+1)) false).toList):=by
  show World.rangeAt _ _ _ _;rw[hW9];exact World.rangeAt_setCells_same _ _ _ _ (by rw[Array.length_toList];exact HTH.out)
 have k9:W9.heap[w.heap.size+1]?=some (.map (YT [(5,vp)]) 1):=by
  have hX:=ZQ (X:=fun k=>k=w.heap.size) (g:=w.heap.size) rfl (Zv word 2 H (some (w.heap.size+1)) false).toList 0 w3
  rw[hW9];exact (hX.block _ (Ag.1 k2).1 (by omega)).trans k2
 have HEND:Hid (KOk W9 r (.agg (Zv word 2 H (some (w.heap.size+1)) false)) [(5,true,false)] [2]):=⟨word,2,H,_,false,rfl,j1,j2,Az (l:=[(5,vp)]) k9 (by have:=HR.out;omega) (by simp) (fun i p q hm=>by
  simp only[List.mem_singleton,Prod.mk.injEq] at hm;obtain⟨rfl,rfl,rfl⟩:=hm
  exact⟨vp,by simp,HL.out.keep (Zq.of_below HB9.out)⟩)⟩
 have HX:Hid (TR H (fun i=>i=5∨i=2)/\W9.heap[w.heap.size+1]?=some (.map (YT [(5,vp)]) 1)):=⟨⟨j1.1,fun i hi=>by simpa using j1.2 i hi⟩,k9⟩
 clear hW9 k1 k2 k9 hb3 hb4 hs2 j1 j2 hmk q1 q2;go_wp2_with (refine wpList_store_mid rfl 270 (.tmp 4) (.tmp 11) rfl w.heap.size 0 (Zv word 2 H (some (w.heap.size+1)) false) rfl rfl HTH.out HZ2.out U3 ?_;rw[<-HW9.out]);refine bodyPost_ret (v:=.agg (Zv word 2 H (some (w.heap.size+1)) false)) ?_ rfl ?_
 ·exact Yr Tryz.f231 4 270 (Zv word 2 H (some (w.heap.size+1)) false) rfl rfl HR9.out underlying270 rfl HZ2.out
 exact⟨_,rfl,HEND.out,HB9.out,_,_,rfl,HX.out.1,HX.out.2⟩
section
variable {P:Program} {md:Region.Mode} {ops:Array Oper} {Q:Exit->Act->World->Prop}
def cntF:List Bool->Nat
 | []=>0
 | b::l=>(if b then 0 else 1)+cntF l
theorem LQ:∀(l:List Bool) (i:Nat),l[i]?=some false->cntF (l.set i true)+1=cntF l
 | [],_,h=>by simp at h
 | b::l,0,h=>by
  have:b=false:=by simpa using h
  subst this;simp[cntF];omega
 | b::l,i+1,h=>by
  have h1:=LQ l i (by simpa using h)
  simp only[List.set_cons_succ,cntF];omega
theorem NL:∀(l:List Bool),cntF l=0->∀i:Nat,i<l.length->l[i]?=some true
 | [],_,_,h=>by simp at h
 | b::l,h,0,_=>by
  cases b with
  | true=>rfl
  | false=>simp[cntF] at h
 | b::l,h,i+1,hi=>by
  rw[List.getElem?_cons_succ];exact NL l (by simp only[cntF] at h;omega) i (by simpa using hi)
theorem JX (hbk:∀(i:Nat) (o:Oper),ops[i]?=some o->∀e∈o.after,Region.binds md e=true->e.on<i) {listed:Array Bool} (hs:listed.size=ops.size) (h:Region.ready md ops listed=[]):∀i,i<ops.size->listed.getD i false=true:=by
 intro i
 induction i using Nat.strongRecOn with
 | _ i ih=>
  intro hi;cases hl:listed.getD i false with
  | true=>rfl
  | false=>
   exfalso
   have ho:ops[i]?=some ops[i]:=Array.getElem?_eq_getElem hi
   have hm:i∈Region.ready md ops listed:=mem_ready.2 ⟨by
    rw[Array.getD_eq_getD_getElem?,Array.getElem?_eq_getElem (by omega)] at hl ⊢
    exact hl,_,ho,fun e he hb=>ih e.on (hbk i _ ho e he hb) (by have:=hbk i _ ho e he hb;omega)⟩
   rw[h] at hm;cases hm
theorem QM {I:Array Bool->Act->World->Prop} (hbk:∀(i:Nat) (o:Oper),ops[i]?=some o->∀e∈o.after,Region.binds md e=true->e.on<i)
  (hend:∀listed a w,(∀i,i<ops.size->listed.getD i false=true)->I listed a w->Q .normal a w)
  (hstep:∀listed a w i o,I listed a w->ops[i]?=some o->listed.getD i true=false->(∀e∈o.after,Region.binds md e=true->listed.getD e.on false=true)->wpOp P ops Q i (I (listed.setIfInBounds i true)) a w) :
  ∀(fuel:Nat) (listed:Array Bool) (a:Act) (w:World),listed.size=ops.size->cntF listed.toList<=fuel->I listed a w->wpAny P md ops Q fuel listed a w
 | 0,listed,a,w,hs,hc,hI=>by
  have hall:∀i,i<ops.size->listed.getD i false=true:=fun i hi=>by
   have h1:=NL listed.toList (by omega) i (by rw[Array.length_toList];omega)
   rw[Array.getElem?_toList] at h1;rw[Array.getD_eq_getD_getElem?,h1];rfl
  refine⟨?_,hend _ _ _ hall hI⟩;apply List.eq_nil_iff_forall_not_mem.2;intro j hj;obtain⟨h1,o,ho,-⟩:=mem_ready.1 hj;have hjs:=(Ag.1 ho).1;have h2:=hall j hjs;rw[Array.getD_eq_getD_getElem?,Array.getElem?_eq_getElem (by omega)] at h1 h2
  simp at h1 h2;rw[h1] at h2;cases h2
 | fuel+1,listed,a,w,hs,hc,hI=>by
  refine⟨fun h0=>hend _ _ _ (JX hbk hs h0) hI,fun i hi=>?_⟩
  obtain⟨h1,o,ho,h2⟩:=mem_ready.1 hi;have hjs:=(Ag.1 ho).1;refine wpOp_mono (fun a' w' hI'=>?_) (hstep listed a w i o hI ho h1 h2)
  refine QM hbk hend hstep fuel _ a' w' (by simpa using hs) ?_ hI'
  have h3:listed.toList[i]?=some false:=by
   rw[Array.getElem?_toList];rw[Array.getD_eq_getD_getElem?,Array.getElem?_eq_getElem (by omega)] at h1
   rw[Array.getElem?_eq_getElem (by omega)]
   simpa using h1
  have h4:=LQ listed.toList i h3;rw[Array.toList_setIfInBounds];omega
theorem OM:∀n:Nat,cntF (List.replicate n false)=n
 | 0=>rfl
 | n+1=>by
  rw[List.replicate_succ,cntF,OM n];simp;omega
theorem O5 {id:Nat} {a:Act} {w:World} {I:Array Bool->Act->World->Prop} (hm:P.follows .mixedOrders=true) (hbk:∀(i:Nat) (o:Oper),ops[i]?=some o->∀e∈o.after,Region.binds .any e=true->e.on<i)
  (h0:I (Array.replicate ops.size false) a { w with drawn:=w.drawn+1 })
  (hend:∀listed a w,(∀i,i<ops.size->listed.getD i false=true)->I listed a w->Q .normal a w)
  (hstep:∀listed a w i o,I listed a w->ops[i]?=some o->listed.getD i true=false->(∀e∈o.after,Region.binds .any e=true->listed.getD e.on false=true)->wpOp P ops Q i (I (listed.setIfInBounds i true)) a w):(Code.region id ops true).wp P Q a w:=
 wp_region_any hm (QM hbk hend hstep ops.size _ a _ (by simp) (by rw[Array.toList_replicate,OM];exact Nl _) h0)
end
section
variable {P:Program} {w:World} {mty kt et:TypeId} {d:TypeDesc} {r clock:Nat} {es:Array MapEntry} {key val:Value}
theorem Hf (hm:P.underlying mty=some (.map kt et)) (hd:P.underlying kt=some d) (hb:w.heap[r]?=some (.map es clock)) (hs:MapKept.Stamped es clock) (hks:∀x∈es.toList,MapKept.IsKey d x.key) (hk:MapKept.IsKey d key) :
  ∃es' clock',(Instr.mapUpdate mty (.map (some r)) key val).run P w=.ok () (ChangeMaps.setBlock w r (.map es' clock'))/\MapKept.Stamped es' clock'/\(∀x∈es'.toList,(x.key=key/\x.val=val)∨x∈es.toList)/\(∀x∈es.toList,∃y∈es'.toList,y.key=x.key)/\∃y∈es'.toList,y.key=key:=by
 rcases MapKept.findNow_spec hk es.toList 0 hks with ⟨h1,h2⟩|⟨j,e,h1,h2,h3⟩
 ·refine⟨es.push { key,val,born:=clock },clock+1,UY hm hd hk hb h1,MapKept.stamped_push hs h2,fun x hx=>?_,fun x hx=>⟨x,by simp[Array.toList_push,hx],rfl⟩,⟨_,by rw[Array.toList_push];exact List.mem_append_right _ (List.mem_singleton.2 rfl),rfl⟩⟩
  rw[Array.toList_push,List.mem_append,List.mem_singleton] at hx;rcases hx with hx|rfl
  ·exact .inr hx
  ·exact .inl ⟨rfl,rfl⟩
 ·have hj:es[j]?=some e:=by simpa using h2
  have hjl:=(Ag.1 hj).1;have hrun:(Instr.mapUpdate mty (.map (some r)) key val).run P w=.ok () (ChangeMaps.setBlock w r (.map (es.modify j fun e=>{ e with key:=key,val:=val }) clock)):=by
   simp[Instr.mapUpdate,run_underlying hm,MapKept.run_getObj_map hb,MapKept.run_checkKey hd hk,MapKept.run_findKey hd h1,hj,h3,MapKept.run_keyThatStays hk,MapKept.run_setObj_map _ hb,Result.andThen,ChangeMaps.setBlock]
  have hat:∀i:Nat,(es.modify j fun e=>{ e with key:=key,val:=val })[i]?=if j=i then (es[i]?).map (fun e=>({ e with key:=key,val:=val }:MapEntry)) else es[i]?:=fun i=>Array.getElem?_modify
  have hkey:∀e',es[j]?=some e'->({ e' with key:=key,val:=val }:MapEntry).key=e'.key:=fun e' he'=>by rw[hj] at he';cases he';exact h3.symm
  refine⟨_,_,hrun,MapKept.stamped_modify hs _ _ (fun _ _=>rfl) (fun e' _ he'=>hkey e' he'),fun x hx=>?_,fun x hx=>?_,?_⟩
  ·obtain⟨i,hi⟩:=List.mem_iff_getElem?.1 hx;rw[Array.getElem?_toList,hat i] at hi
   by_cases hij:j=i
   ·rw[if_pos hij,<-hij,hj] at hi;cases hi;exact .inl ⟨rfl,rfl⟩
   ·rw[if_neg hij] at hi;exact .inr (by rw[<-Array.getElem?_toList] at hi;exact Lm hi)
  ·obtain⟨i,hi⟩:=List.mem_iff_getElem?.1 hx;rw[Array.getElem?_toList] at hi
   by_cases hij:j=i
   ·subst hij;rw[hj] at hi;cases hi;refine⟨{ e with key:=key,val:=val },?_,h3.symm⟩
    have:=hat j
    rw[if_pos rfl,hj] at this;rw[<-Array.getElem?_toList] at this;exact Lm this
   ·refine⟨x,?_,rfl⟩
    have:=hat i
    rw[if_neg hij,hi,<-Array.getElem?_toList] at this;exact Lm this
  ·refine⟨{ e with key:=key,val:=val },?_,rfl⟩
   have:=hat j
   rw[if_pos rfl,hj,<-Array.getElem?_toList] at this;exact Lm this
end
structure GrM (w w':World):Prop where
 size:w.heap.size<=w'.heap.size
 block:∀(b:Nat) (ob:Obj),w.heap[b]?=some ob->(∀es c,ob≠.map es c)->w'.heap[b]?=some ob
theorem GrM.of_below {w w':World} (h:Below w.heap.size w w'):GrM w w':=⟨h.size,fun _ _ hb _=>Zt hb h⟩
theorem GrM.upd {w:World} {b:Nat} {es:Array MapEntry} {c:Nat} (h:w.heap[b]?=some (.map es c)) (o:Obj):GrM w (ChangeMaps.setBlock w b o):=⟨by simp[ChangeMaps.setBlock],fun b' ob hb hn=>by
 have hne:b'≠b:=fun e=>by rw[e,h] at hb;exact hn es c (Option.some.inj hb).symm
 exact (Yb hne).trans hb⟩
theorem Blk.gr {w w':World} {b:Nat} {cs:Array Value} (h:Blk w b cs) (hg:GrM w w'):Blk w' b cs:=by
 obtain⟨t,h⟩:=h;exact⟨t,hg.block _ _ h (fun _ _ e=>by cases e)⟩
def Yl (w:World) (u:Value):Prop:=∃p q b1 b2,u=.func (.func 286) #[] #[.pointer (some ⟨b1,0,none⟩),.pointer (some ⟨b2,0,none⟩)]/\Blk w b1 #[.bool p]/\Blk w b2 #[.bool q]
theorem Yl.gr {w w':World} {u:Value} (h:Yl w u) (hg:GrM w w'):Yl w' u:=by
 obtain⟨p,q,b1,b2,e,h1,h2⟩:=h;exact⟨p,q,b1,b2,e,h1.gr hg,h2.gr hg⟩
theorem Uz.any {w:World} {r:Nat} {u:Value} {p q:Bool} (h:Uz w r u p q):Yl w u:=by
 obtain⟨b1,b2,e,h1,h2,-,-⟩:=h.is;exact⟨p,q,b1,b2,e,h1,h2⟩
def Vg (w:World) (b:Nat):Prop:=∃es c,w.heap[b]?=some (.map es c)/\MapKept.Stamped es c/\∀e∈es.toList,(∃k:Nat,k<13/\e.key=.int .i64 (k:Int))/\Yl w e.val
def ZJ (w:World) (b i:Nat):Prop:=∃es c,w.heap[b]?=some (.map es c)/\∃e∈es.toList,e.key=.int .i64 (i:Int)
theorem Vg.below {w w':World} {b:Nat} (h:Vg w b) (hb:Below w.heap.size w w'):Vg w' b:=by
 obtain⟨es,c,h1,h2,h3⟩:=h;exact⟨es,c,Zt h1 hb,h2,fun e he=>⟨(h3 e he).1,(h3 e he).2.gr (GrM.of_below hb)⟩⟩
theorem Vg.other {w:World} {b b':Nat} {es:Array MapEntry} {c:Nat} {o:Obj} (h:Vg w b') (hb:w.heap[b]?=some (.map es c)) (hn:b'≠b):Vg (ChangeMaps.setBlock w b o) b':=by
 obtain⟨es',c',h1,h2,h3⟩:=h;exact⟨es',c',(Yb hn).trans h1,h2,fun e he=>⟨(h3 e he).1,(h3 e he).2.gr (GrM.upd hb o)⟩⟩
theorem ZJ.below {w w':World} {b i:Nat} (h:ZJ w b i) (hb:Below w.heap.size w w'):ZJ w' b i:=by
 obtain⟨es,c,h1,h2⟩:=h;exact⟨es,c,Zt h1 hb,h2⟩
theorem ZJ.upd {w:World} {b b' i:Nat} {es es':Array MapEntry} {c c':Nat} (h:ZJ w b' i) (hb:w.heap[b]?=some (.map es c)) (hk:∀x∈es.toList,∃y∈es'.toList,y.key=x.key):ZJ (ChangeMaps.setBlock w b (.map es' c')) b' i:=by
 obtain⟨es1,c1,h1,e,he,hk1⟩:=h
 by_cases hn:b'=b
 ·subst hn;rw[hb] at h1;cases h1;obtain⟨y,hy,hk2⟩:=hk e he;exact⟨es',c',Wx (Ag.1 hb).1,y,hy,hk2.trans hk1⟩
 ·exact⟨es1,c1,(Yb hn).trans h1,e,he,hk1⟩
theorem ZJ.other {w:World} {b b' i:Nat} {o:Obj} (h:ZJ w b' i) (hn:b'≠b):ZJ (ChangeMaps.setBlock w b o) b' i:=by
 obtain⟨es1,c1,h1,h2⟩:=h;exact⟨es1,c1,(Yb hn).trans h1,h2⟩
def O6:List Nat:=[0,1,2,3,10,11,12]
def KPg (w:World) (v:Value):Prop:=∃word cls H M code,v=.agg (Zv word cls H M code)/\H.length=13/\∀i:Nat,H[i]?=some true->i∈O6∨∃b,M=some b/\Vg w b/\ZJ w b i
def KX (bt:Nat) (v:Value):Prop:=∃word cls H code,v=.agg (Zv word cls H (some bt) code)/\TR H (fun i=>i∈[4,5,6]∨i∈[0,10])/\∀i,(i∈[4,5,6]∨i∈[0,10])->H[i]?=some true
def Uc (vp:Value) (w:World) (b:Nat):Prop:=∃es c,w.heap[b]?=some (.map es c)/\∀e∈es.toList,e.key=.int .i64 7/\e.val=vp
def KY (X:Nat->Prop) (v:Value):Prop:=∃word cls H b code,v=.agg (Zv word cls H (some b) code)/\X b/\TR H (fun i=>i=7∨i=0)/\H[7]?=some true/\H[0]?=some true
structure KC where
 b:Nat
 v:Value
def KP (bt:KC) (X:Nat->Prop) (k:Nat) (w:World) (v:Value):Prop:=KPg w v/\(k=4->KX bt.b v)/\(k=5∨k=13->KY X v)
theorem KY.mono {X X':Nat->Prop} {v:Value} (h:KY X v) (hX:∀b,X b->X' b):KY X' v:=by
 obtain⟨word,cls,H,b,code,e,h1,h2⟩:=h;exact⟨word,cls,H,b,code,e,hX b h1,h2⟩
theorem Uc.below {vp:Value} {w w':World} {b:Nat} (h:Uc vp w b) (hb:Below w.heap.size w w'):Uc vp w' b:=by
 obtain⟨es,c,h1,h2⟩:=h;exact⟨es,c,Zt h1 hb,h2⟩
theorem Uc.other {vp:Value} {w:World} {b b':Nat} {o:Obj} (h:Uc vp w b') (hn:b'≠b):Uc vp (ChangeMaps.setBlock w b o) b':=by
 obtain⟨es',c',h1,h2⟩:=h;exact⟨es',c',(Yb hn).trans h1,h2⟩
theorem Uc.lt {vp:Value} {w:World} {b:Nat} (h:Uc vp w b):b<w.heap.size:=by
 obtain⟨es',c',h1,-⟩:=h;exact (Ag.1 h1).1
theorem KPg.below {w w':World} {v:Value} (h:KPg w v) (hb:Below w.heap.size w w'):KPg w' v:=by
 obtain⟨word,cls,H,M,code,e,h1,h2⟩:=h;refine⟨word,cls,H,M,code,e,h1,fun i hi=>(h2 i hi).imp id ?_⟩
 rintro⟨b,e2,h3,h4⟩;exact⟨b,e2,h3.below hb,h4.below hb⟩
def TD (bt:KC) (X:Nat->Prop) (w:World) (b:Nat):Prop:=∃es c,w.heap[b]?=some (.map es c)/\MapKept.Stamped es c/\∀e∈es.toList,∃k:Nat,e.key=.int .i64 (k:Int)/\KP bt X k w e.val
theorem TD.mono {bt:KC} {X X':Nat->Prop} {w:World} {b:Nat} (h:TD bt X w b) (hX:∀b,X b->X' b):TD bt X' w b:=by
 obtain⟨es,c,h1,h2,h3⟩:=h;refine⟨es,c,h1,h2,fun e he=>?_⟩
 obtain⟨k,hk,h4,h5,h6⟩:=h3 e he;exact⟨k,hk,h4,h5,fun h=>(h6 h).mono hX⟩
theorem TD.below {bt:KC} {X:Nat->Prop} {w w':World} {b:Nat} (h:TD bt X w b) (hb:Below w.heap.size w w'):TD bt X w' b:=by
 obtain⟨es,c,h1,h2,h3⟩:=h;refine⟨es,c,Zt h1 hb,h2,fun e he=>?_⟩
 obtain⟨k,hk,h4,h5⟩:=h3 e he;exact⟨k,hk,h4.below hb,h5⟩
theorem KPg.agg {w:World} {v:Value} (h:KPg w v) (hl:Yl w v):False:=by
 obtain⟨word,cls,H,M,code,e,-⟩:=h;obtain⟨p,q,b1,b2,e2,-⟩:=hl;rw[e] at e2;cases e2
theorem KPg.num {w:World} {v:Value} {b:Nat} {es es':Array MapEntry} {c c':Nat} (h:KPg w v) (hb:w.heap[b]?=some (.map es c)) (hk:∀x∈es.toList,∃y∈es'.toList,y.key=x.key) (hn:Vg (ChangeMaps.setBlock w b (.map es' c')) b):KPg (ChangeMaps.setBlock w b (.map es' c')) v:=by
 obtain⟨word,cls,H,M,code,e,h1,h2⟩:=h;refine⟨word,cls,H,M,code,e,h1,fun i hi=>(h2 i hi).imp id ?_⟩
 rintro⟨b',e2,h3,h4⟩;refine⟨b',e2,?_,h4.upd hb hk⟩
 by_cases hbb:b'=b
 ·rw[hbb];exact hn
 ·exact h3.other hb hbb
theorem KPg.out {bt:KC} {X:Nat->Prop} {w:World} {v:Value} {b:Nat} {es':Array MapEntry} {c':Nat} (h:KPg w v) (ho:TD bt X w b):KPg (ChangeMaps.setBlock w b (.map es' c')) v:=by
 obtain⟨es,c,hb,-,ho⟩:=ho;obtain⟨word,cls,H,M,code,e,h1,h2⟩:=h;refine⟨word,cls,H,M,code,e,h1,fun i hi=>(h2 i hi).imp id ?_⟩
 rintro⟨b',e2,h3,h4⟩;have hne:b'≠b:=fun e=>by
  subst e;obtain⟨es1,c1,g1,e1,he1,-⟩:=h4;rw[hb] at g1;cases g1;obtain⟨k,-,hp,-⟩:=ho e1 he1;obtain⟨es2,c2,g2,-,g3⟩:=h3;rw[hb] at g2;cases g2;exact hp.agg (g3 e1 he1).2
 obtain⟨es1,c1,g1,g2⟩:=h4;exact⟨b',e2,h3.other hb hne,es1,c1,(Yb hne).trans g1,g2⟩
theorem Vg.ins {P:Program} {mty kt et:TypeId} {w:World} {b i:Nat} {u:Value} (h:Vg w b) (hi:i<13) (hu:Yl w u) (hm:P.underlying mty=some (.map kt et)) (hd:P.underlying kt=some (.int .i64)) :
  ∃es es' c c',w.heap[b]?=some (.map es c)/\(Instr.mapUpdate mty (.map (some b)) (.int .i64 (i:Int)) u).run P w=.ok () (ChangeMaps.setBlock w b (.map es' c'))/\Vg (ChangeMaps.setBlock w b (.map es' c')) b/\(∀x∈es.toList,∃y∈es'.toList,y.key=x.key)/\ZJ (ChangeMaps.setBlock w b (.map es' c')) b i/\(Uc u w b->i=7->Uc u (ChangeMaps.setBlock w b (.map es' c')) b):=by
 obtain⟨es,c,h1,h2,h3⟩:=h;obtain⟨es',c',hr,hs,ha,hb,y,hy,hyk⟩:=Hf (P:=P) (mty:=mty) (val:=u) (key:=.int .i64 (i:Int)) hm hd h1 h2 (fun x hx=>by obtain⟨⟨k,-,hk⟩,-⟩:=h3 x hx;rw[hk];rfl) rfl
 have hsame:=Wx (w:=w) (b:=b) (o:=.map es' c') (Ag.1 h1).1;refine⟨es,es',c,c',h1,hr,⟨es',c',hsame,hs,fun e he=>?_⟩,hb,⟨es',c',hsame,y,hy,hyk⟩,?_⟩
 ·rcases ha e he with ⟨e1,e2⟩|he
  ·exact⟨⟨i,hi,e1⟩,by rw[e2];exact hu.gr (GrM.upd h1 _)⟩
  ·exact⟨(h3 e he).1,(h3 e he).2.gr (GrM.upd h1 _)⟩
 ·rintro⟨es2,c2,k1,k2⟩ rfl;rw[h1] at k1;cases k1;refine⟨es',c',hsame,fun e he=>?_⟩
  rcases ha e he with ⟨e1,e2⟩|he
  ·exact⟨e1,e2⟩
  ·exact k2 e he
theorem TD.ins {P:Program} {mty kt et:TypeId} {bt:KC} {X:Nat->Prop} {w:World} {b k:Nat} {v:Value} (h:TD bt X w b) (hv:KP bt X k w v) (hm:P.underlying mty=some (.map kt et)) (hd:P.underlying kt=some (.int .i64)) :
  ∃es es' c c',w.heap[b]?=some (.map es c)/\(Instr.mapUpdate mty (.map (some b)) (.int .i64 (k:Int)) v).run P w=.ok () (ChangeMaps.setBlock w b (.map es' c'))/\TD bt X (ChangeMaps.setBlock w b (.map es' c')) b/\(∀x∈es.toList,∃y∈es'.toList,y.key=x.key)/\ZJ (ChangeMaps.setBlock w b (.map es' c')) b k:=by
 have ho:=h;obtain⟨es,c,h1,h2,h3⟩:=h;obtain⟨es',c',hr,hs,ha,hb,y,hy,hk⟩:=Hf (P:=P) (mty:=mty) (val:=v) (key:=.int .i64 (k:Int)) hm hd h1 h2 (fun x hx=>by obtain⟨k,hk,-⟩:=h3 x hx;rw[hk];rfl) rfl
 have hsame:=Wx (w:=w) (b:=b) (o:=.map es' c') (Ag.1 h1).1;refine⟨es,es',c,c',h1,hr,⟨es',c',hsame,hs,fun e he=>?_⟩,hb,es',c',hsame,y,hy,hk⟩
 rcases ha e he with ⟨e1,e2⟩|he
 ·exact⟨k,e1,by rw[e2];exact⟨hv.1.out ho,hv.2⟩⟩
 ·obtain⟨k',hk',h4,h5⟩:=h3 e he;exact⟨k',hk',h4.out ho,h5⟩
inductive Od where
 | mk (s:Nat)
 | out
 | con (s:Nat) (v:Value)
 | mv (s:Nat)
 | ins
 | xins (m:Nat)
 | oins (k:Nat)
 | sl (s:Nat) (ms:List Nat)
 | lim (s:Nat)
 | kp (s k:Nat)
def ZP (a:Act) (s:Nat):Value:=a.tmps.getD s undef
theorem Wj {a:Act} {d s:Nat} {v:Value} (hd:d<a.tmps.size):ZP (a.put (some d) v) s=if s=d then v else ZP a s:=by
 unfold ZP;simp only[Act.put,Array.getD_eq_getD_getElem?,Array.getElem?_setIfInBounds]
 by_cases h:d=s
 ·subst h;simp[hd]
 ·rw[if_neg h,if_neg (Ne.symm h)]
def slC (ms:List Nat):Array Value:=(ms.map (fun (m:Nat)=>Value.int .i64 (m:Int))).toArray
def xS:List Nat:=[29,31,75,77]
def RD (bt:KC) (X:Nat->Prop) (B:Nat) (a:Act) (w:World):Od->Prop
 | .mk s=>∃b,ZP a s=.map (some b)/\B<=b/\Vg w b/\(X b↔s∈xS)
 | .con s v=>ZP a s=v
 | .mv s=>∃b,ZP a s=.map (some b)/\Vg w b/\(X b↔s∈xS)/\(s∈xS->ZJ w b 7)
 | .sl s ms=>∃b,ZP a s=.slice (some ⟨b,0,none⟩) ms.length ms.length/\Blk w b (slC ms)
 | .lim s=>Yl w (ZP a s)
 | .kp s k=>KP bt X k w (ZP a s)
 | _=>True
def Qe:Od->Option Nat
 | .mk s|.con s _|.mv s|.sl s _|.lim s|.kp s _=>some s
 | .out=>some 15
 | _=>none
theorem RD.mono {bt:KC} {X X':Nat->Prop} {B:Nat} {a:Act} {w:World} {d:Od} (h:RD bt X B a w d) (hX:∀b,X b->X' b) (hX2:∀b,X' b->b<w.heap.size->X b):RD bt X' B a w d:=by
 have hn:∀{b s:Nat},Vg w b->(X b↔s∈xS)->(X' b↔s∈xS):=fun h1 h2=>by
  obtain⟨es,c,h1,-⟩:=h1;have hlt:=(Ag.1 h1).1;exact⟨fun h=>h2.1 (hX2 _ h hlt),fun h=>hX _ (h2.2 h)⟩
 cases d with
 | mk s=>
  obtain⟨b,h1,h2,h3,h4⟩:=h;exact⟨b,h1,h2,h3,hn h3 h4⟩
 | mv s=>
  obtain⟨b,h1,h3,h4,h5⟩:=h;exact⟨b,h1,h3,hn h3 h4,h5⟩
 | kp s k=>exact⟨h.1,h.2.1,fun e=>(h.2.2 e).mono hX⟩
 | con s v=>exact h
 | sl s ms=>exact h
 | lim s=>exact h
 | out=>trivial
 | ins=>trivial
 | xins m=>trivial
 | oins k=>trivial
theorem RD.below {bt:KC} {X:Nat->Prop} {B:Nat} {a a':Act} {w w':World} {d:Od} (h:RD bt X B a w d) (hs:∀s,Qe d=some s->ZP a' s=ZP a s) (hb:Below w.heap.size w w'):RD bt X B a' w' d:=by
 cases d with
 | mk s=>
  obtain⟨b,h1,h2,h3,h4⟩:=h;exact⟨b,(hs s rfl).trans h1,h2,h3.below hb,h4⟩
 | con s v=>exact (hs s rfl).trans h
 | mv s=>
  obtain⟨b,h1,h3,h4,h5⟩:=h;exact⟨b,(hs s rfl).trans h1,h3.below hb,h4,fun e=>(h5 e).below hb⟩
 | sl s ms=>
  obtain⟨b,h1,h3⟩:=h;exact⟨b,(hs s rfl).trans h1,h3.below hb⟩
 | lim s=>
  show Yl w' (ZP a' s);rw[hs s rfl];exact Yl.gr h (GrM.of_below hb)
 | kp s k=>
  show KP bt X k w' (ZP a' s);rw[hs s rfl];exact⟨KPg.below h.1 hb,h.2⟩
 | out=>trivial
 | ins=>trivial
 | xins m=>trivial
 | oins k=>trivial
theorem RD.num {bt:KC} {X:Nat->Prop} {B:Nat} {a:Act} {w:World} {d:Od} {b:Nat} {es es':Array MapEntry} {c c':Nat} (h:RD bt X B a w d) (hb:w.heap[b]?=some (.map es c)) (hk:∀x∈es.toList,∃y∈es'.toList,y.key=x.key) (hn:Vg (ChangeMaps.setBlock w b (.map es' c')) b):RD bt X B a (ChangeMaps.setBlock w b (.map es' c')) d:=by
 have hG:∀b',Vg w b'->Vg (ChangeMaps.setBlock w b (.map es' c')) b':=fun b' h'=>by
  by_cases hbb:b'=b
  ·rw[hbb];exact hn
  ·exact h'.other hb hbb
 cases d with
 | mk s=>
  obtain⟨b',h1,h2,h3,h4⟩:=h;exact⟨b',h1,h2,hG _ h3,h4⟩
 | con s v=>exact h
 | mv s=>
  obtain⟨b',h1,h3,h4,h5⟩:=h;exact⟨b',h1,hG _ h3,h4,fun e=>(h5 e).upd hb hk⟩
 | sl s ms=>
  obtain⟨b',h1,h3⟩:=h;exact⟨b',h1,h3.gr (GrM.upd hb _)⟩
 | lim s=>exact Yl.gr h (GrM.upd hb _)
 | kp s k=>exact⟨KPg.num h.1 hb hk hn,h.2⟩
 | out=>trivial
 | ins=>trivial
 | xins m=>trivial
 | oins k=>trivial
theorem RD.outs {bt:KC} {X:Nat->Prop} {B:Nat} {a:Act} {w:World} {d:Od} {b:Nat} {es':Array MapEntry} {c':Nat} (h:RD bt X B a w d) (ho:TD bt X w b) (hn:∀s,(d=.mk s∨d=.mv s)->ZP a s≠.map (some b)):RD bt X B a (ChangeMaps.setBlock w b (.map es' c')) d:=by
 have ho':=ho;obtain⟨es,c,hb,-,-⟩:=ho';cases d with
 | mk s=>
  obtain⟨b',h1,h2,h3,h4⟩:=h;exact⟨b',h1,h2,h3.other hb (fun e=>hn s (.inl rfl) (by rw[h1,e])),h4⟩
 | con s v=>exact h
 | mv s=>
  obtain⟨b',h1,h3,h4,h5⟩:=h;have hne:b'≠b:=fun e=>hn s (.inr rfl) (by rw[h1,e])
  exact⟨b',h1,h3.other hb hne,h4,fun e=>(h5 e).other hne⟩
 | sl s ms=>
  obtain⟨b',h1,h3⟩:=h;exact⟨b',h1,h3.gr (GrM.upd hb _)⟩
 | lim s=>exact Yl.gr h (GrM.upd hb _)
 | kp s k=>exact⟨KPg.out h.1 ho,h.2⟩
 | out=>trivial
 | ins=>trivial
 | xins m=>trivial
 | oins k=>trivial
structure IX (X:Nat->Prop) (ds:Nat->Od) (bt:KC) (a0:Act) (W0:World) (listed:Array Bool) (a:Act) (w:World):Prop where
 below:Below W0.heap.size W0 w
 size:a.tmps.size=a0.tmps.size
 dfr:a.defers=a0.defers
 base:∀s,s<7->ZP a s=ZP a0 s
 x:∀b,X b->Uc bt.v w b
 r:∀j,listed.getD j false=true->RD bt X W0.heap.size a w (ds j)
 o1:listed.getD 0 false=true->∃b,ZP a 15=.map (some b)/\W0.heap.size<=b/\TD bt X w b/\(∀j k,listed.getD j false=true->ds j=.oins k->ZJ w b k)/\(∀j s,listed.getD j false=true->(ds j=.mk s∨ds j=.mv s)->ZP a s≠.map (some b))/\¬X b
 o0:listed.getD 0 false=false->∀j k,listed.getD j false=true->ds j≠.oins k
 k7:∀j m,listed.getD j false=true->ds j=.xins m->(∃jm,listed.getD jm false=true/\ds jm=.mk m)/\∀b,ZP a m=.map (some b)->ZJ w b 7
def II (ds:Nat->Od) (bt:KC) (a0:Act) (W0:World) (listed:Array Bool) (a:Act) (w:World):Prop:=∃X,IX X ds bt a0 W0 listed a w
theorem ZB {listed:Array Bool} {i j:Nat} (h:(listed.setIfInBounds i true).getD j false=true):j=i∨listed.getD j false=true:=by
 by_cases hij:i=j
 ·exact .inl hij.symm
 ·exact .inr (by rwa [getD_set_ne false hij] at h)
section
variable {X:Nat->Prop} {ds:Nat->Od} {bt:KC} {a0:Act} {W0:World} {listed:Array Bool} {a:Act} {w w':World} {i:Nat}
def UM (ds:Nat->Od):Prop:=∀i j s,Qe (ds i)=some s->Qe (ds j)=some s->i=j
theorem IX.val {X':Nat->Prop} (h:IX X ds bt a0 W0 listed a w) (hu:UM ds) (hi:listed.getD i true=false) {d:Nat} {v:Value} (hd:Qe (ds i)=some d) (hd7:7<=d) (hd2:d<a0.tmps.size) (h0:i≠0) (h15:d≠15) (ho:(∀k,ds i≠.oins k)/\∀m,ds i≠.xins m) (hb:Below w.heap.size w w') (hX:∀b,X b->X' b) (hX2:∀b,X' b->b<w.heap.size->X b) (hx:∀b,X' b->Uc bt.v w' b) (hr:RD bt X' W0.heap.size (a.put (some d) v) w' (ds i))
  (hm:∀s,(ds i=.mk s∨ds i=.mv s)->∀b,ZP a 15=.map (some b)->b<w.heap.size->TD bt X w b->W0.heap.size<=b->listed.getD 0 false=true->v≠.map (some b)):IX X' ds bt a0 W0 (listed.setIfInBounds i true) (a.put (some d) v) w':=by
 have hsl:∀s,s≠d->ZP (a.put (some d) v) s=ZP a s:=fun s hs=>by rw[Wj (by rw[h.size];exact hd2),if_neg hs]
 have hne:∀j,listed.getD j false=true->j≠i:=fun j hj e=>by
  subst e;rw[Array.getD_eq_getD_getElem?] at hi hj;cases hx:listed[j]? with
  | none=>rw[hx] at hj;cases hj
  | some x=>rw[hx] at hi hj;simp at hi hj;rw[hi] at hj;cases hj
 have hslot:∀j,listed.getD j false=true->∀s,Qe (ds j)=some s->ZP (a.put (some d) v) s=ZP a s:=fun j hj s hs=>hsl s (fun e=>hne j hj (hu j i d (by rw[hs,e]) hd))
 refine⟨bto h.below hb,by show (a.tmps.setIfInBounds d v).size=_;rw[Array.size_setIfInBounds];exact h.size,h.dfr,fun s hs=>(hsl s (by omega)).trans (h.base s hs),hx,fun j hj=>?_,fun h1=>?_,fun h1 j k hj e=>?_,fun j m hj e=>?_⟩
 ·rcases ZB hj with rfl|hj
  ·exact hr
  ·exact ((h.r j hj).mono hX hX2).below (hslot j hj) hb
 ·rw[getD_set_ne false h0] at h1;obtain⟨b,h2,h3,h4,h5,h6,h7⟩:=h.o1 h1;have hlt:b<w.heap.size:=by obtain⟨es,c,g,-,-⟩:=h4;exact (Ag.1 g).1
  refine⟨b,(hsl 15 (Ne.symm h15)).trans h2,h3,(h4.mono hX).below hb,fun j k hj e=>?_,fun j s hj e=>?_,fun e=>h7 (hX2 b e hlt)⟩
  ·rcases ZB hj with rfl|hj
   ·exact absurd e (ho.1 k)
   ·exact (h5 j k hj e).below hb
  ·rcases ZB hj with rfl|hj
   ·have hsd:s=d:=by
     rcases e with e|e<;>(rw[e] at hd;exact Option.some.inj hd)
    subst hsd;rw[Wj (by rw[h.size];exact hd2),if_pos rfl]
    exact hm s e b h2 hlt h4 h3 h1
   ·rw[hslot j hj s (by rcases e with e|e<;>(rw[e];rfl))]
    exact h6 j s hj e
 ·rw[getD_set_ne false h0] at h1;rcases ZB hj with rfl|hj
  ·exact ho.1 k e
  ·exact h.o0 h1 j k hj e
 ·rcases ZB hj with rfl|hj
  ·exact absurd e (ho.2 m)
  ·obtain⟨⟨jm,h1,h2⟩,h3⟩:=h.k7 j m hj e;exact⟨⟨jm,getD_set_true h1,h2⟩,fun b hb'=>(h3 b ((hslot jm h1 m (by rw[h2];rfl)).symm.trans hb')).below hb⟩
end
section
variable {P:Program} {o:Oper} {a:Act} {w w':World} {K:Act->World->Prop} {Q:Exit->Act->World->Prop}
theorem Zz {v:Value} (hr:(execOp a.eval o).run P w=.ok (.value v) w') (hK:K (a.put o.dst v) w'):o.wp P a w K Q:=by
 unfold Oper.wp;rw[hr];exact hK
theorem UA (hr:(execOp a.eval o).run P w=.ok .skip w') (hK:K (a.put o.dst undef) w'):o.wp P a w K Q:=by
 unfold Oper.wp;rw[hr];exact hK
theorem Ys {f:FuncId} {args:Array Value} (hr:(execOp a.eval o).run P w=.ok (.enter f args) w) (hc:Calls P f args w fun e w'=>∃v,e=.returned v/\K (a.put o.dst v) w'):o.wp P a w K Q:=by
 unfold Oper.wp;rw[hr];exact hc.mono fun e w' ⟨v,he,hk⟩=>by subst he;exact hk
end
theorem Hh {w:World} {b n:Nat} {l:List (Nat×Value)} (h:w.heap[b]?=some (.map (YT l) n)) (hn:n=l.length) (hd:(l.map (·.1)).Nodup) (hk:∀x∈l,x.1<13/\Yl w x.2):Vg w b:=by
 subst hn;refine⟨_,_,h,Sl hd,fun e he=>?_⟩
 obtain⟨x,hx,h1,-⟩:=Xk he;refine⟨⟨x.1,(hk x hx).1,h1⟩,?_⟩
 have:∀(l:List (Nat×Value)) (n:Nat),e∈YJ n l->∃x∈l,e.val=x.2:=by
  intro l
  induction l with
  | nil=>intro n h;cases h
  | cons y l ih=>
   intro n h;rcases List.mem_cons.1 h with rfl|h
   ·exact⟨y,List.mem_cons_self,rfl⟩
   ·obtain⟨x,h1,h2⟩:=ih _ h;exact⟨x,List.mem_cons_of_mem _ h1,h2⟩
 obtain⟨y,hy,h2⟩:=this l 0 he;rw[h2];exact (hk y hy).2
theorem NM {w:World} {b n i:Nat} {l:List (Nat×Value)} (h:w.heap[b]?=some (.map (YT l) n)) (hi:i∈l.map (·.1)):ZJ w b i:=by
 obtain⟨x,hx,rfl⟩:=List.mem_map.1 hi;obtain⟨e,he,hk⟩:=VV (n:=0) hx;exact⟨_,_,h,e,he,hk⟩
structure KB (bt:KC) (bo bp:Nat) (vl:Value) (a0:Act) (W0:World):Prop where
 size:a0.tmps.size=105
 s1:ZP a0 1=.pointer (some ⟨bp,0,none⟩)
 s2:ZP a0 2=vl
 s3:ZP a0 3=.pointer (some ⟨bo,0,none⟩)
 s4:ZP a0 4=.func (.func 231) #[] #[.pointer (some ⟨bo,0,none⟩),.pointer (some ⟨bp,0,none⟩)]
 s5:ZP a0 5=.func (.func 232) #[] #[]
 s6:ZP a0 6=.map (some bt.b)
 hbo:Blk W0 bo #[.func (.func 230) #[] #[]]
 hbp:Blk W0 bp #[bt.v]
 hbt:W0.heap[bt.b]?=some (.map (YT [(4,bt.v),(5,vl),(6,vl)]) 3)
 lp:Uz W0 bo bt.v true false
 ll:Uz W0 bo vl false false
theorem WG {word word2:List UInt8} {cls cls2:Int} {H H2:List Bool} {M M2:Option Nat} {code code2:Bool} (h1:H.length=13) (h2:H2.length=13) (e:(Value.agg (Zv word cls H M code))=.agg (Zv word2 cls2 H2 M2 code2)):word=word2/\cls=cls2/\H=H2/\M=M2:=by
 injection e with e
 unfold Zv at e;have e:=congrArg Array.toList e;simp only[List.cons.injEq,Value.string.injEq,Value.int.injEq,ByteArray.mk.injEq,true_and] at e;obtain⟨e1,e2,e3⟩:=e;have e3:=List.append_inj e3 (by rw[List.length_map,List.length_map,h1,h2])
 refine⟨by simpa using e1,e2,?_,?_⟩
 ·exact (List.map_inj_right (fun a b h=>by injection h)).1 e3.1
 ·have e4:=e3.2;simp only[List.cons.injEq,Value.map.injEq] at e4;exact e4.1
theorem toD {a:Act} {x:Nat} {v:Value} (h:a.eval (.tmp x)=v):a.tmps[x]?.getD undef=v:=by
 rw[<-Array.getD_eq_getD_getElem?];exact h
def ZM (o:Oper) (j:Nat):Prop:=∃e∈o.after,e.on=j/\Region.binds .any e=true
def Step (ds:Nat->Od) (bt:KC) (a0:Act) (W0:World) (o:Oper) (i:Nat):Prop:=
 ∀listed a w,II ds bt a0 W0 listed a w->listed.getD i true=false->(∀j,ZM o j->listed.getD j false=true)->o.wp prog a w (II ds bt a0 W0 (listed.setIfInBounds i true)) (YY fun _ _=>False)
section
variable {ds:Nat->Od} {bt:KC} {bo bp:Nat} {vl:Value} {a0:Act} {W0:World} {o:Oper} {i s:Nat}
theorem IX.con {X:Nat->Prop} {listed:Array Bool} {a:Act} {w w':World} {v:Value} (h:IX X ds bt a0 W0 listed a w) (hu:UM ds) (hz:a0.tmps.size=105) (hi:listed.getD i true=false) (hd:Qe (ds i)=some s) (hs:7<=s/\s<105/\s≠15/\i≠0) (hn:∀s,ds i≠.mk s/\ds i≠.mv s) (ho:(∀k,ds i≠.oins k)/\∀m,ds i≠.xins m) (hb:Below w.heap.size w w') (hr:RD bt X W0.heap.size (a.put (some s) v) w' (ds i)):II ds bt a0 W0 (listed.setIfInBounds i true) (a.put (some s) v) w':=
 ⟨X,h.val hu hi hd hs.1 (by omega) hs.2.2.2 hs.2.2.1 ho hb (fun _ h=>h) (fun _ h _=>h) (fun b e=>(h.x b e).below hb) hr (fun s e=>by rcases e with e|e;exact absurd e (hn s).1;exact absurd e (hn s).2)⟩
theorem Xl {a:Act} {v:Value} (h:s<a.tmps.size):ZP (a.put (some s) v) s=v:=by rw[Wj h,if_pos rfl]
theorem XI (hz:a0.tmps.size=105) (hu:UM ds) {v:Value} {x:Nat} (hop:o.op=.move (.tmp x)) (hd:o.dst=some s) (hds:ds i=.con s v) (hx:x<7) (hv:ZP a0 x=v) (hs:7<=s/\s<105/\s≠15/\i≠0):Step ds bt a0 W0 o i:=fun listed a w h hi _=>by
 obtain⟨X,h⟩:=h;refine Zz (v:=v) (w':=w) ?_ ?_
 ·have e:a.eval (.tmp x)=v:=(h.base x hx).trans hv;simp[execOp,hop,e]
 ·rw[hd];refine h.con hu hz hi (by rw[hds];rfl) hs (fun s=>by rw[hds];exact⟨fun e=>(by cases e),fun e=>(by cases e)⟩) ⟨fun k=>by rw[hds];exact (fun e=>by cases e),fun k=>by rw[hds];exact (fun e=>by cases e)⟩ (Below.refl _ _) ?_
  rw[hds];exact Xl (by rw[h.size,hz];exact hs.2.1)
theorem Zau (hz:a0.tmps.size=105) (hu:UM ds) {v:Value} {x b:Nat} {ty:TypeId} (hrun:∀(a:Act) w,a.eval (.tmp x)=.pointer (some ⟨b,0,none⟩)->w.cell? ⟨b,0,none⟩=some v->(execOp a.eval o).run prog w=.ok (.value v) w) (hd:o.dst=some s) (hds:ds i=.con s v) (hx:x<7) (hv:ZP a0 x=.pointer (some ⟨b,0,none⟩)) (hB:Blk W0 b #[v]) (hs:7<=s/\s<105/\s≠15/\i≠0) (_hop:o.op=.load ty (.tmp x)):Step ds bt a0 W0 o i:=fun listed a w h hi _=>by
 obtain⟨X,h⟩:=h;refine Zz (v:=v) (w':=w) (hrun _ w ((h.base x hx).trans hv) ((hB.below h.below).c 0)) ?_;rw[hd];refine h.con hu hz hi (by rw[hds];rfl) hs (fun s=>by rw[hds];exact⟨fun e=>(by cases e),fun e=>(by cases e)⟩) ⟨fun k=>by rw[hds];exact (fun e=>by cases e),fun k=>by rw[hds];exact (fun e=>by cases e)⟩ (Below.refl _ _) ?_
 rw[hds];exact Xl (by rw[h.size,hz];exact hs.2.1)
theorem Ud (hz:a0.tmps.size=105) (hu:UM ds) {ms:List Nat} (hrun:∀(a:Act) (w:World),(execOp a.eval o).run prog w=.ok (.value (.slice (some ⟨w.heap.size,0,none⟩) ms.length ms.length)) (w.alloc (.cells (slC ms) 3))) (hd:o.dst=some s) (hds:ds i=.sl s ms) (hs:7<=s/\s<105/\s≠15/\i≠0):Step ds bt a0 W0 o i:=fun listed a w h hi _=>by
 obtain⟨X,h⟩:=h;refine Zz (hrun _ w) ?_;rw[hd];refine h.con hu hz hi (by rw[hds];rfl) hs (fun s=>by rw[hds];exact⟨fun e=>(by cases e),fun e=>(by cases e)⟩) ⟨fun k=>by rw[hds];exact (fun e=>by cases e),fun k=>by rw[hds];exact (fun e=>by cases e)⟩ (Zb _ _) ?_
 rw[hds];exact⟨w.heap.size,Xl (by rw[h.size,hz];exact hs.2.1),_,ZG w _⟩
theorem Zbe (hz:a0.tmps.size=105) (hu:UM ds) {p q:Bool} (hrun:∀(a:Act) (w:World),(execOp a.eval o).run prog w=.ok (.enter 229 #[.bool p,.bool q]) w) (hd:o.dst=some s) (hds:ds i=.lim s) (hs:7<=s/\s<105/\s≠15/\i≠0):Step ds bt a0 W0 o i:=fun listed a w h hi _=>by
 obtain⟨X,h⟩:=h;refine Ys (hrun _ w) ?_;refine (Vl p q w).mono ?_;rintro e w' ⟨u,rfl,hb,b1,b2,hu1,h1,h2⟩;refine⟨u,rfl,?_⟩;rw[hd];refine h.con hu hz hi (by rw[hds];rfl) hs (fun s=>by rw[hds];exact⟨fun e=>(by cases e),fun e=>(by cases e)⟩) ⟨fun k=>by rw[hds];exact (fun e=>by cases e),fun k=>by rw[hds];exact (fun e=>by cases e)⟩ hb ?_
 rw[hds];show Yl w' _;rw[Xl (by rw[h.size,hz];exact hs.2.1)]
 exact⟨p,q,b1,b2,hu1,h1,h2⟩
theorem Qf (hz:a0.tmps.size=105) (hu:UM ds) (hop:o.op=.makeMap 268 none) (hd:o.dst=some s) (hds:ds i=.mk s) (hs:7<=s/\s<105/\s≠15/\i≠0):Step ds bt a0 W0 o i:=fun listed a w h hi _=>by
 obtain⟨X,h⟩:=h;have hb:=Zb w (.map #[] 0);refine Zz (v:=.map (some w.heap.size)) (w':=w.alloc (.map #[] 0)) ?_ ?_
 ·simp[execOp,hop,run_makeMap (P:=prog) 268 w,Result.andThen]
 ·rw[hd];refine⟨fun b=>X b∨(s∈xS/\b=w.heap.size),h.val hu hi (by rw[hds];rfl) hs.1 (by omega) hs.2.2.2 hs.2.2.1 ⟨fun k=>by rw[hds];exact (fun e=>by cases e),fun k=>by rw[hds];exact (fun e=>by cases e)⟩ hb (fun _ e=>.inl e) (fun b e hlt=>e.elim id (fun e=>by omega)) (fun b e=>?_) ?_ (fun s' e b _ hlt _ _ _ e2=>by injection e2 with e2;injection e2 with e2;omega)⟩
  ·rcases e with e|⟨-,rfl⟩
   ·exact (h.x b e).below hb
   ·exact⟨#[],0,ZG w _,fun e he=>by simp at he⟩
  ·rw[hds];exact⟨w.heap.size,Xl (by rw[h.size,hz];exact hs.2.1),h.below.size,⟨#[],0,ZG w _,MapKept.stamped_empty 0,fun e he=>by simp at he⟩,fun e=>e.elim (fun e=>absurd (h.x _ e).lt (Nat.lt_irrefl _)) (fun e=>e.1),fun e=>.inr ⟨e,rfl⟩⟩
theorem Qg (hz:a0.tmps.size=105) (hu:UM ds) {m j:Nat} (hop:o.op=.move (.tmp m)) (hd:o.dst=some s) (hds:ds i=.mv s) (hj:ds j=.mk m) (hw:ZM o j) (hms:m∈xS↔s∈xS) (hx:s∈xS->∃jx,ds jx=.xins m/\ZM o jx) (hs:7<=s/\s<105/\s≠15/\i≠0):Step ds bt a0 W0 o i:=fun listed a w h hi hl=>by
 obtain⟨X,h⟩:=h;have hlj:=hl j hw;have hr:=h.r j hlj;rw[hj] at hr;obtain⟨b,h1,h2,h3,h4⟩:=hr;refine Zz (v:=.map (some b)) (w':=w) ?_ ?_
 ·have e:a.eval (.tmp m)=.map (some b):=h1;simp[execOp,hop,e]
 ·rw[hd];refine⟨X,h.val hu hi (by rw[hds];rfl) hs.1 (by omega) hs.2.2.2 hs.2.2.1 ⟨fun k=>by rw[hds];exact (fun e=>by cases e),fun k=>by rw[hds];exact (fun e=>by cases e)⟩ (Below.refl _ _) (fun _ h=>h) (fun _ h _=>h) h.x ?_ (fun s' e b' h15 hlt _ _ hl0 e2=>?_)⟩
  ·rw[hds]
   exact⟨b,Xl (by rw[h.size,hz];exact hs.2.1),h3,h4.trans hms,fun e=>by
    obtain⟨jx,q1,q2⟩:=hx e
    exact (h.k7 jx m (hl jx q2) q1).2 b h1⟩
  ·obtain⟨b2,g1,-,-,-,g5,-⟩:=h.o1 hl0;rw[h15] at g1;injection g1 with g1
   injection g1 with g1
   have:=g5 j m hlj (.inl hj)
   rw[h1,e2,g1] at this;exact this rfl
theorem Zbf (hz:a0.tmps.size=105) (hu:UM ds) (hop:o.op=.makeMap 272 none) (hd:o.dst=some 15) (hds:ds 0=.out):Step ds bt a0 W0 o 0:=fun listed a w h hi _=>by
 obtain⟨X,h⟩:=h;have hb:=Zb w (.map #[] 0);refine Zz (v:=.map (some w.heap.size)) (w':=w.alloc (.map #[] 0)) ?_ ?_
 ·simp[execOp,hop,run_makeMap (P:=prog) 272 w,Result.andThen]
 rw[hd];have hsl:∀s,s≠15->ZP (a.put (some 15) (.map (some w.heap.size))) s=ZP a s:=fun s hs=>by rw[Wj (by rw[h.size,hz];decide),if_neg hs]
 have hl0:listed.getD 0 false=false:=by
  rw[Array.getD_eq_getD_getElem?] at hi ⊢;cases hx:listed[0]? with
  | none=>rfl
  | some x=>rw[hx] at hi;exact hi
 have hne:∀j,listed.getD j false=true->j≠0:=fun j hj e=>by subst e;rw[hl0] at hj;cases hj
 have hslot:∀j,listed.getD j false=true->∀s,Qe (ds j)=some s->ZP (a.put (some 15) (.map (some w.heap.size))) s=ZP a s:=fun j hj s hs=>hsl s (fun e=>hne j hj (hu j 0 15 (by rw[hs,e]) (by rw[hds];rfl)))
 refine⟨X,bto h.below hb,by show (a.tmps.setIfInBounds _ _).size=_;rw[Array.size_setIfInBounds];exact h.size,h.dfr,fun s hs=>(hsl s (by omega)).trans (h.base s hs),fun b e=>(h.x b e).below hb,fun j hj=>?_,fun _=>?_,fun h1=>?_,fun j m hj e=>?_⟩
 ·rcases ZB hj with rfl|hj
  ·rw[hds];trivial
  ·exact (h.r j hj).below (hslot j hj) hb
 ·refine⟨w.heap.size,by rw[Wj (by rw[h.size,hz];decide),if_pos rfl],h.below.size,⟨#[],0,ZG w _,MapKept.stamped_empty 0,fun e he=>by simp at he⟩,fun j k hj e=>?_,fun j s hj e=>?_,fun e=>absurd (h.x _ e).lt (Nat.lt_irrefl _)⟩
  ·rcases ZB hj with rfl|hj
   ·rw[hds] at e;cases e
   ·exact absurd e (h.o0 hl0 j k hj)
  ·rcases ZB hj with rfl|hj
   ·rw[hds] at e;rcases e with e|e<;>cases e
   ·rw[hslot j hj s (by rcases e with e|e<;>(rw[e];rfl))]
    have hr:=h.r j hj;intro e2;rcases e with e|e
    ·rw[e] at hr;obtain⟨b,g1,-,⟨es,c,g2,-⟩,-⟩:=hr;rw[g1] at e2;injection e2 with e2
     injection e2 with e2
     have:=(Ag.1 g2).1
     omega
    ·rw[e] at hr;obtain⟨b,g1,⟨es,c,g2,-⟩,-⟩:=hr;rw[g1] at e2;injection e2 with e2
     injection e2 with e2
     have:=(Ag.1 g2).1
     omega
 ·by_cases hsz:0<listed.size
  ·rw[Array.getD_eq_getD_getElem?,Array.getElem?_setIfInBounds,if_pos rfl,if_pos hsz] at h1;cases h1
  ·have:listed.getD 0 true=true:=by rw[Array.getD_eq_getD_getElem?,Array.getElem?_eq_none (by omega)];rfl
   rw[this] at hi;cases hi
 ·rcases ZB hj with rfl|hj
  ·rw[hds] at e;cases e
  ·obtain⟨⟨jm,h1,h2⟩,h3⟩:=h.k7 j m hj e;exact⟨⟨jm,getD_set_true h1,h2⟩,fun b hb'=>(h3 b ((hslot jm h1 m (by rw[h2];rfl)).symm.trans hb')).below hb⟩
theorem Xm {m jm jv k v:Nat} (hop:o.op=.insert 268 (.tmp m) (.const (.int .i64 (k:Int))) (.tmp v)) (hd:o.dst=none) (hds:(ds i=.ins/\m∉xS)∨(ds i=.xins m/\k=7/\ds jv=.con v bt.v)) (hk:k<13) (hjm:ds jm=.mk m) (hjv:ds jv=.lim v∨∃u,ds jv=.con v u/\Yl W0 u) (hw1:ZM o jm) (hw2:ZM o jv) (h0:i≠0):Step ds bt a0 W0 o i:=fun listed a w h hi hl=>by
 obtain⟨X,h⟩:=h;have hrun:∀(a:Act) (w w':World) b u,a.eval (.tmp m)=.map (some b)->a.eval (.tmp v)=u->(Instr.mapUpdate 268 (.map (some b)) (.int .i64 (k:Int)) u).run prog w=.ok () w'->(execOp a.eval o).run prog w=.ok .skip w':=fun a w w' b u h1 h2 h3=>by
  have e:a.eval (.const (.int .i64 (k:Int)))=.int .i64 (k:Int):=rfl;simp[execOp,hop,h1,h2,e,h3,Result.andThen]
 have hr:=h.r jm (hl jm hw1);rw[hjm] at hr;obtain⟨b,h1,h2,h3,hXb⟩:=hr;have hlv:Yl w (ZP a v):=by
  have hr:=h.r jv (hl jv hw2);rcases hjv with e|⟨u,e,hu⟩
  ·rw[e] at hr;exact hr
  ·rw[e] at hr;have hr:ZP a v=u:=hr;rw[hr];exact hu.gr ⟨h.below.size,fun b ob hb _=>(h.below.block _ (Ag.1 hb).1).trans hb⟩
 have hno:(∀s,ds i≠.mk s)/\(∀s,ds i≠.mv s)/\∀k,ds i≠.oins k:=by
  rcases hds with ⟨e,-⟩|⟨e,-⟩<;>(rw[e];exact⟨fun _ e=>(by cases e),fun _ e=>(by cases e),fun _ e=>(by cases e)⟩)
 obtain⟨es,es',c,c',g1,g2,g3,g4,g6,g5⟩:=h3.ins (P:=prog) (mty:=268) hk hlv underlying268 underlying3;refine UA (hrun _ w _ b _ h1 rfl g2) ?_;rw[hd];show II ds bt a0 W0 _ a _;refine⟨X,VD h.below h2,h.size,h.dfr,h.base,fun b' e=>?_,fun j hj=>?_,fun h5=>?_,fun h5 j k hj e=>?_,fun j m' hj e=>?_⟩
 ·by_cases hbb:b'=b
  ·subst hbb;rcases hds with ⟨-,hm⟩|⟨-,hk7,hv⟩
   ·exact absurd (hXb.1 e) hm
   ·have hr:=h.r jv (hl jv hw2);rw[hv] at hr;have hr:ZP a v=bt.v:=hr;rw[hr] at g5;exact g5 (h.x _ e) hk7
  ·exact (h.x b' e).other hbb
 ·rcases ZB hj with rfl|hj
  ·rcases hds with ⟨e,-⟩|⟨e,-⟩<;>(rw[e];trivial)
  ·exact (h.r j hj).num g1 g4 g3
 ·rw[getD_set_ne false h0] at h5;obtain⟨b2,k1,k2,k3,k4,k5,k6⟩:=h.o1 h5;have hne:b2≠b:=fun e=>by subst e;exact k5 jm m (hl jm hw1) (.inl hjm) h1
  refine⟨b2,k1,k2,?_,fun j k hj e=>?_,fun j s hj e=>?_,k6⟩
  ·obtain⟨es2,c2,q1,q2,q3⟩:=k3;refine⟨es2,c2,(Yb hne).trans q1,q2,fun e he=>?_⟩
   obtain⟨k,p1,p2,p3⟩:=q3 e he;exact⟨k,p1,p2.num g1 g4 g3,p3⟩
  ·rcases ZB hj with rfl|hj
   ·exact absurd e (hno.2.2 k)
   ·exact (k4 j k hj e).upd g1 g4
  ·rcases ZB hj with rfl|hj
   ·rcases e with e|e
    ·exact absurd e (hno.1 s)
    ·exact absurd e (hno.2.1 s)
   ·exact k5 j s hj e
 ·rw[getD_set_ne false h0] at h5;rcases ZB hj with rfl|hj
  ·exact absurd e (hno.2.2 k)
  ·exact h.o0 h5 j k hj e
 ·rcases ZB hj with rfl|hj
  ·rcases hds with ⟨e2,-⟩|⟨e2,hk7,-⟩
   ·rw[e2] at e;cases e
   ·rw[e2] at e;injection e with e
    subst e;refine⟨⟨jm,getD_set_true (hl jm hw1),hjm⟩,fun b' hb'=>?_⟩
    rw[h1] at hb';injection hb' with hb'
    injection hb' with hb'
    subst hb';rw[<-hk7];exact g6
  ·obtain⟨q1,q2⟩:=h.k7 j m' hj e;exact⟨q1.imp fun jm h=>⟨getD_set_true h.1,h.2⟩,fun b' hb'=>(q2 b' hb').upd g1 g4⟩
theorem Yk {jv k v:Nat} (hop:o.op=.insert 272 (.tmp 15) (.const (.int .i64 (k:Int))) (.tmp v)) (hd:o.dst=none) (hds:ds i=.oins k) (hjv:ds jv=.kp v k) (hw1:ZM o 0) (hw2:ZM o jv) (h0:i≠0):Step ds bt a0 W0 o i:=fun listed a w h hi hl=>by
 obtain⟨X,h⟩:=h;have hrun:∀(a:Act) (w w':World) b u,a.eval (.tmp 15)=.map (some b)->a.eval (.tmp v)=u->(Instr.mapUpdate 272 (.map (some b)) (.int .i64 (k:Int)) u).run prog w=.ok () w'->(execOp a.eval o).run prog w=.ok .skip w':=fun a w w' b u h1 h2 h3=>by
  have e:a.eval (.const (.int .i64 (k:Int)))=.int .i64 (k:Int):=rfl;simp[execOp,hop,h1,h2,e,h3,Result.andThen]
 have hl0:=hl 0 hw1;obtain⟨b,k1,k2,k3,k4,k5,k6⟩:=h.o1 hl0;have hv:=h.r jv (hl jv hw2);rw[hjv] at hv;have hv:KP bt X k w (ZP a v):=hv;obtain⟨es,es',c,c',g1,g2,g3,g4,g5⟩:=k3.ins (P:=prog) (mty:=272) hv underlying272 underlying3;refine UA (hrun _ w _ b _ k1 rfl g2) ?_;rw[hd];show II ds bt a0 W0 _ a _;refine⟨X,VD h.below k2,h.size,h.dfr,h.base,fun b' e=>(h.x b' e).other (fun e2=>by subst e2;exact k6 e),fun j hj=>?_,fun h5=>?_,fun h5 j k' hj e=>?_,fun j m hj e=>?_⟩
 ·rcases ZB hj with rfl|hj
  ·rw[hds];trivial
  ·exact (h.r j hj).outs k3 (fun s e=>k5 j s hj e)
 ·refine⟨b,k1,k2,g3,fun j k' hj e=>?_,fun j s hj e=>?_,k6⟩
  ·rcases ZB hj with rfl|hj
   ·rw[hds] at e;injection e with e
    rw[<-e];exact g5
   ·exact (k4 j k' hj e).upd g1 g4
  ·rcases ZB hj with rfl|hj
   ·rw[hds] at e;rcases e with e|e<;>cases e
   ·exact k5 j s hj e
 ·rw[getD_set_ne false h0,hl0] at h5;cases h5
 ·rcases ZB hj with rfl|hj
  ·rw[hds] at e;cases e
  ·obtain⟨q1,q2⟩:=h.k7 j m hj e;exact⟨q1.imp fun jm h=>⟨getD_set_true h.1,h.2⟩,fun b' hb'=>(q2 b' hb').upd g1 g4⟩
theorem IX.kp {X:Nat->Prop} {listed:Array Bool} {a:Act} {w w':World} {v:Value} {k:Nat} (h:IX X ds bt a0 W0 listed a w) (hu:UM ds) (hz:a0.tmps.size=105) (hi:listed.getD i true=false) (hds:ds i=.kp s k) (hs:7<=s/\s<105/\s≠15/\i≠0) (hb:Below w.heap.size w w') (hr:KP bt X k w' v):II ds bt a0 W0 (listed.setIfInBounds i true) (a.put (some s) v) w':=by
 refine h.con hu hz hi (by rw[hds];rfl) hs (fun s=>by rw[hds];exact⟨fun e=>(by cases e),fun e=>(by cases e)⟩) ⟨fun k=>by rw[hds];exact (fun e=>by cases e),fun k=>by rw[hds];exact (fun e=>by cases e)⟩ hb ?_
 rw[hds];show KP bt X k w' _;rw[Xl (by rw[h.size,hz];exact hs.2.1)]
 exact hr
theorem ON {AT:Array TypeId} (kb:KB bt bo bp vl a0 W0) (hu:UM ds) {f j k:Nat} {word:List UInt8} (hop:o.op=.call { callee:=.value (.tmp f),args:=#[.const (.string ⟨word.toArray⟩)],argTypes:=AT }) (hd:o.dst=some s) (hds:ds i=.kp s k) (hj:ds j=.con f (.func (.func 231) #[] #[.pointer (some ⟨bo,0,none⟩),.pointer (some ⟨bp,0,none⟩)])) (hw:ZM o j) (hk:k≠4/\k≠5/\k≠13) (hs:7<=s/\s<105/\s≠15/\i≠0):Step ds bt a0 W0 o i:=fun listed a w h hi hl=>by
 obtain⟨X,h⟩:=h;have hrun:∀(a:Act) (w:World),a.eval (.tmp f)=.func (.func 231) #[] #[.pointer (some ⟨bo,0,none⟩),.pointer (some ⟨bp,0,none⟩)]->(execOp a.eval o).run prog w=.ok (.enter 231 #[.string ⟨word.toArray⟩,.pointer (some ⟨bo,0,none⟩),.pointer (some ⟨bp,0,none⟩)]) w:=fun a w h1=>by
  have g1:=toD h1;clear h1;unfold execOp;rw[hop];go_simp
  first|done|rfl
 have hr:=h.r j (hl j hw);rw[hj] at hr;refine Ys (hrun _ w hr) ?_;refine (ZcK word (Nat.lt_of_lt_of_le kb.hbo.ltB h.below.size) (kb.hbo.below h.below) (kb.hbp.below h.below) (kb.lp.keep (Zq.of_below h.below))).mono ?_;rintro e w' ⟨v,rfl,-,hb,H,bm,rfl,hH,hm⟩;refine⟨_,rfl,?_⟩;rw[hd];have hl2:Yl w' bt.v:=kb.lp.any.gr (GrM.of_below (bto h.below hb));refine h.kp hu kb.size hi hds hs hb ⟨⟨word,2,H,some bm,false,rfl,hH.1,fun i hi=>?_⟩,fun e=>absurd e hk.1,fun e=>absurd e (by omega)⟩
 rcases hH.2 i hi with rfl|rfl
 ·exact .inr ⟨bm,rfl,Hh hm rfl (by simp) (fun x hx=>by rw[List.mem_singleton.1 hx];exact⟨by simp,hl2⟩),NM hm (by simp)⟩
 ·exact .inl (by decide)
theorem Qh {AT:Array TypeId} (kb:KB bt bo bp vl a0 W0) (hu:UM ds) {f m s2 jf jm js k:Nat} {word:List UInt8} {cls:Int} {ms:List Nat} (hop:o.op=.call { callee:=.value (.tmp f),args:=#[.const (.string ⟨word.toArray⟩),.const (.int .i64 cls),.tmp m,.tmp s2],argTypes:=AT }) (hd:o.dst=some s) (hds:ds i=.kp s k) (hjf:ds jf=.con f (.func (.func 230) #[] #[])) (hjm:ds jm=.mv m) (hjs:ds js=.sl s2 ms) (hw1:ZM o jf) (hw2:ZM o jm) (hw3:ZM o js) (hm:∀m∈ms,m<13/\m∈O6) (hml:ms.length<=100) (hk:k≠4) (hkx:(k=5∨k=13)->m∈xS/\ms=[0]) (hs:7<=s/\s<105/\s≠15/\i≠0):Step ds bt a0 W0 o i:=fun listed a w h hi hl=>by
 obtain⟨X,h⟩:=h;have hrun:∀(a:Act) (w:World) b bs,a.eval (.tmp f)=.func (.func 230) #[] #[]->a.eval (.tmp m)=.map (some b)->a.eval (.tmp s2)=.slice (some ⟨bs,0,none⟩) ms.length ms.length->(execOp a.eval o).run prog w=.ok (.enter 230 #[.string ⟨word.toArray⟩,.int .i64 cls,.map (some b),.slice (some ⟨bs,0,none⟩) ms.length ms.length]) w:=fun a w b bs h1 h2 h3=>by
  have g1:=toD h1;have g2:=toD h2;have g3:=toD h3;clear h1 h2 h3;unfold execOp;rw[hop];go_simp
  first|done|rfl
 have hr1:=h.r jf (hl jf hw1);have hr2:=h.r jm (hl jm hw2);have hr3:=h.r js (hl js hw3);rw[hjf] at hr1;rw[hjm] at hr2;rw[hjs] at hr3;obtain⟨b,g1,hN,hX,hX7⟩:=hr2;obtain⟨bs,g3,g4⟩:=hr3;have hN':=hN;obtain⟨es,c,q1,q2,q3⟩:=hN';refine Ys (hrun _ w b bs hr1 g1 g3) ?_;refine (Zbc word cls q1 q2 (fun e he=>by obtain⟨⟨k,h1,h2⟩,-⟩:=q3 e he;exact⟨k,h2,h1⟩) (PE g4) rfl hml (fun m hm'=>(hm m hm').1)).mono ?_
 rintro e w' ⟨H,rfl,⟨hH1,hH2⟩,hH3,hb⟩;refine⟨_,rfl,?_⟩;rw[hd];refine h.kp hu kb.size hi hds hs hb ⟨⟨word,cls,H,some b,false,rfl,hH1,fun i hi=>?_⟩,fun e=>absurd e hk,fun e=>?_⟩
 ·rcases hH2 i hi with ⟨e,he,hke⟩|hms
  ·exact .inr ⟨b,rfl,hN.below hb,es,c,Zt q1 hb,e,he,hke⟩
  ·exact .inl (hm i hms).2
 ·obtain⟨hmx,rfl⟩:=hkx e;have hXb:=hX.2 hmx;obtain⟨es2,c2,k1,k2⟩:=h.x b hXb;rw[q1] at k1;cases k1;obtain⟨es3,c3,p1,y,p2,p3⟩:=hX7 hmx;rw[q1] at p1;cases p1;refine⟨word,cls,H,b,false,rfl,hXb,⟨hH1,fun i hi=>?_⟩,hH3 7 (.inl ⟨y,p2,p3⟩),hH3 0 (.inr (by simp))⟩
  rcases hH2 i hi with ⟨e,he,hke⟩|hms
  ·left
   have:=(k2 e he).1
   rw[hke] at this;injection this with _ this
   omega
  ·right;simpa using hms
theorem DK {AT:Array TypeId} (kb:KB bt bo bp vl a0 W0) (hu:UM ds) {f m s2 jf jm js k:Nat} {word:List UInt8} {cls:Int} {ms:List Nat} (hop:o.op=.call { callee:=.value (.tmp f),args:=#[.const (.string ⟨word.toArray⟩),.const (.int .i64 cls),.tmp m,.tmp s2],argTypes:=AT }) (hd:o.dst=some s) (hds:ds i=.kp s k) (hjf:ds jf=.con f (.func (.func 230) #[] #[])) (hjm:ds jm=.con m (.map (some bt.b))) (hjs:ds js=.sl s2 ms) (hw1:ZM o jf) (hw2:ZM o jm) (hw3:ZM o js) (hm:∀m∈ms,m<13/\m∈O6) (hml:ms.length<=100) (hk:k=4->ms=[0,10]) (hk2:k≠5/\k≠13) (hs:7<=s/\s<105/\s≠15/\i≠0):Step ds bt a0 W0 o i:=fun listed a w h hi hl=>by
 obtain⟨X,h⟩:=h;have hrun:∀(a:Act) (w:World) b bs,a.eval (.tmp f)=.func (.func 230) #[] #[]->a.eval (.tmp m)=.map (some b)->a.eval (.tmp s2)=.slice (some ⟨bs,0,none⟩) ms.length ms.length->(execOp a.eval o).run prog w=.ok (.enter 230 #[.string ⟨word.toArray⟩,.int .i64 cls,.map (some b),.slice (some ⟨bs,0,none⟩) ms.length ms.length]) w:=fun a w b bs h1 h2 h3=>by
  have g1:=toD h1;have g2:=toD h2;have g3:=toD h3;clear h1 h2 h3;unfold execOp;rw[hop];go_simp
  first|done|rfl
 have hr1:=h.r jf (hl jf hw1);have hr2:=h.r jm (hl jm hw2);have hr3:=h.r js (hl js hw3);rw[hjf] at hr1;rw[hjm] at hr2;rw[hjs] at hr3;obtain⟨bs,g3,g4⟩:=hr3;have q1:=Zt kb.hbt h.below;have hlp:Yl w bt.v:=kb.lp.any.gr (GrM.of_below h.below);have hll:Yl w vl:=kb.ll.any.gr (GrM.of_below h.below)
 have hN:Vg w bt.b:=Hh q1 rfl (by simp) (fun x hx=>by
  simp only[List.mem_cons,List.not_mem_nil,or_false] at hx;rcases hx with rfl|rfl|rfl
  ·exact⟨by simp,hlp⟩
  ·exact⟨by simp,hll⟩
  ·exact⟨by simp,hll⟩)
 refine Ys (hrun _ w bt.b bs hr1 hr2 g3) ?_
 refine (Zbc word cls q1 (Sl (l:=[(4,bt.v),(5,vl),(6,vl)]) (by simp)) (fun e he=>by
  obtain⟨es,c,k1,-,k3⟩:=hN;rw[q1] at k1;cases k1;obtain⟨⟨k,h1,h2⟩,-⟩:=k3 e he
  exact⟨k,h2,h1⟩) (PE g4) rfl hml (fun m hm'=>(hm m hm').1)).mono ?_
 rintro e w' ⟨H,rfl,⟨hH1,hH2⟩,hH3,hb⟩;simp only[He] at hH2 hH3;refine⟨_,rfl,?_⟩;rw[hd];refine h.kp hu kb.size hi hds hs hb ⟨⟨word,cls,H,some bt.b,false,rfl,hH1,fun i hi=>?_⟩,fun e=>?_,fun e=>absurd e (by omega)⟩
 ·rcases hH2 i hi with hke|hms
  ·exact .inr ⟨bt.b,rfl,hN.below hb,NM (Zt q1 hb) hke⟩
  ·exact .inl (hm i hms).2
 ·have hms:=hk e;subst hms;exact⟨word,cls,H,false,rfl,⟨hH1,hH2⟩,hH3⟩
theorem DL {AT:Array TypeId} (kb:KB bt bo bp vl a0 W0) (hu:UM ds) {f s2 jf js k:Nat} {word:List UInt8} {cls:Int} {ms:List Nat} (hop:o.op=.call { callee:=.value (.tmp f),args:=#[.const (.string ⟨word.toArray⟩),.const (.int .i64 cls),.const (.map none),.tmp s2],argTypes:=AT }) (hd:o.dst=some s) (hds:ds i=.kp s k) (hjf:ds jf=.con f (.func (.func 230) #[] #[])) (hjs:ds js=.sl s2 ms) (hw1:ZM o jf) (hw3:ZM o js) (hm:∀m∈ms,m<13/\m∈O6) (hml:ms.length<=100) (hk:k≠4/\k≠5/\k≠13) (hs:7<=s/\s<105/\s≠15/\i≠0):Step ds bt a0 W0 o i:=fun listed a w h hi hl=>by
 obtain⟨X,h⟩:=h;have hrun:∀(a:Act) (w:World) bs,a.eval (.tmp f)=.func (.func 230) #[] #[]->a.eval (.tmp s2)=.slice (some ⟨bs,0,none⟩) ms.length ms.length->(execOp a.eval o).run prog w=.ok (.enter 230 #[.string ⟨word.toArray⟩,.int .i64 cls,.map none,.slice (some ⟨bs,0,none⟩) ms.length ms.length]) w:=fun a w bs h1 h3=>by
  have g1:=toD h1;have g3:=toD h3;clear h1 h3;unfold execOp;rw[hop];go_simp
  first|done|rfl
 have hr1:=h.r jf (hl jf hw1);have hr3:=h.r js (hl js hw3);rw[hjf] at hr1;rw[hjs] at hr3;obtain⟨bs,g3,g4⟩:=hr3;refine Ys (hrun _ w bs hr1 g3) ?_;refine (ZcJ word cls (PE g4) rfl hml (fun m hm'=>(hm m hm').1)).mono ?_
 rintro e w' ⟨H,rfl,⟨hH1,hH2⟩,-,hb⟩;refine⟨_,rfl,?_⟩;rw[hd];exact h.kp hu kb.size hi hds hs hb ⟨⟨word,cls,H,none,false,rfl,hH1,fun i hi=>.inl (hm i (hH2 i hi)).2⟩,fun e=>absurd e hk.1,fun e=>absurd e (by omega)⟩
theorem Hi {AT:Array TypeId} (kb:KB bt bo bp vl a0 W0) (hu:UM ds) {f x jf jx k k':Nat} (hop:o.op=.call { callee:=.value (.tmp f),args:=#[.tmp x],argTypes:=AT }) (hd:o.dst=some s) (hds:ds i=.kp s k) (hjf:ds jf=.con f (.func (.func 232) #[] #[])) (hjx:ds jx=.kp x k') (hw1:ZM o jf) (hw2:ZM o jx) (hk:k≠4/\k≠5/\k≠13) (hs:7<=s/\s<105/\s≠15/\i≠0):Step ds bt a0 W0 o i:=fun listed a w h hi hl=>by
 obtain⟨X,h⟩:=h;have hrun:∀(a:Act) (w:World) u,a.eval (.tmp f)=.func (.func 232) #[] #[]->a.eval (.tmp x)=u->(execOp a.eval o).run prog w=.ok (.enter 232 #[u]) w:=fun a w u h1 h2=>by
  have g1:=toD h1;have g2:=toD h2;clear h1 h2;unfold execOp;rw[hop];go_simp
  first|done|rfl
 have hr1:=h.r jf (hl jf hw1);have hr2:=h.r jx (hl jx hw2);rw[hjf] at hr1;rw[hjx] at hr2;obtain⟨hr2,-⟩:=hr2;have hr3:=hr2;obtain⟨word,cls,H,M,code,e,h1,-⟩:=hr3;refine Ys (hrun _ w (ZP a x) hr1 rfl) ?_;rw[e];refine (Zbd h1).mono ?_;rintro e' w' ⟨rfl,hb⟩;refine⟨_,rfl,?_⟩;rw[hd];have hr4:=hr2.below hb;rw[e] at hr4;refine h.kp hu kb.size hi hds hs hb ⟨?_,fun e=>absurd e hk.1,fun e=>absurd e (by omega)⟩
 obtain⟨word2,cls2,H2,M2,code2,e2,k1,k2⟩:=hr4;obtain⟨rfl,rfl,rfl,rfl⟩:=WG h1 k1 e2;exact⟨_,_,_,_,true,rfl,k1,k2⟩
end
abbrev SV:=(Nat->Value)->Act
abbrev BV:=Nat->Option (World->Value->Prop)
section
variable {P:Program} {ops:Array Oper} {md:Region.Mode} {C:World->Prop}
variable {Q:SV->BV->Prop} {o:Oper} {rest:List Oper} {i:Nat} {a:SV} {B:BV}
end
section
variable {P:Program} {ops:Array Oper} {Q:Exit->Act->World->Prop} {S:Act->World->Prop}
theorem OO {o:Oper} {a:Act} {w:World} {K K':Act->World->Prop} (hk:∀a w,K a w->K' a w) (h:o.wp P a w K (YY S)):o.wp P a w K' Q:=by
 unfold Oper.wp at *;generalize (execOp a.eval o).run P w=r at *;cases r with
 | ok x w'=>
  cases x<;>simp only[Oper.upon] at h ⊢ <;>
   first
    | exact hk _ _ h
    | exact Calls.mono h (fun e w'' he=>by
      cases e<;>first
       | exact hk _ _ he
       | exact absurd he.1 (by simp)
       | (obtain⟨_,_,hx⟩:=he;exact absurd hx.1 (by simp)))
    | exact Rows.mono h (fun _ _ he=>hk _ _ he)
    | exact absurd h (by simp)
 | halt x w'=>
  cases x<;>simp only[Oper.upon] at h ⊢<;>first
   | exact absurd h.1 (by simp)
   | exact h
theorem UB:∀(l1 l2:List Oper) (a:Act) (w:World),wpList P ops (YY S) l1 a w->(∀a' w',S a' w'->wpList P ops Q l2 a' w')->wpList P ops Q (l1++l2) a w
 | [],_,_,_,h,hn=>hn _ _ h.2
 | o::l1,l2,a,w,h,hn=>by
  show (if Region.wanted o (yielded ops a.tmps) then o.wp P a w (wpList P ops Q (l1++l2)) Q∨(o.asks P a w/\LetsOut Q) else wpList P ops Q (l1++l2) (a.put o.dst undef) w)
  replace h:(if Region.wanted o (yielded ops a.tmps) then o.wp P a w (wpList P ops (YY S) l1) (YY S)∨(o.asks P a w/\LetsOut (YY S)) else wpList P ops (YY S) l1 (a.put o.dst undef) w):=h
  split at h
  ·rename_i hw;rw[if_pos hw];rcases h with h|⟨-,a1,w1,h1⟩
   ·exact .inl (OO (fun a w h=>UB l1 l2 a w h hn) h)
   ·exact absurd h1.1 (by simp)
  ·rename_i hw;rw[if_neg hw];exact UB l1 l2 _ _ h hn
theorem JY {o:Oper} {rest:List Oper} {a:Act} {w:World} (d:Tmp) (n:Nat) (S:Act->World->Prop) (_ho:o.dst=some d) (h1:wpList P ops (YY S) ((o::rest).take n) a w) (h2:∀a' w',S a' w'->wpList P ops Q ((o::rest).drop n) a' w'):wpList P ops Q (o::rest) a w:=by
 have h:=UB ((o::rest).take n) ((o::rest).drop n) a w h1 h2
 rwa [List.take_append_drop] at h
end
end Go.Proofs.YtpieeldbamklkaaGreatDoor
