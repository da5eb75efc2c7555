/- Texts put together: Bq Br Tr Bh Ia Ib Ic Pw Wa Ws Bs Ta Pt Tb Tp Td Tc Te. -/
import Derived.Test.YtpieeldbamklkaaGreatDoorVBk
import Derived.Test.YtpieeldbamklkaaGreatDoorVBd
import Derived.Test.YtpieeldbamklkaaGreatDoorVCd
import Derived.Test.YtpieeldbamklkaaGreatDoorVBe
import Derived.OrdersIn
import Derived.TacticsIn
import Derived.Laws.IdiomStrings
import Derived.Shelf.Strings.Trim
import Derived.Shelf.Strconv.Itoa3
import Derived.Shelf.Strings.Search3
import Derived.Shelf.Strings.Prefix
import Derived.Lib.AppendIntMem
import Derived.Shelf.SlicesE.Clone
import Derived.Laws.StructEq
import Derived.RangeFuncBox
import Derived.OwnWalkIn
set_option maxHeartbeats 8000000
set_option maxRecDepth 100000
open Go.Proofs.Tryz
namespace Go.Proofs.YtpieeldbamklkaaGreatDoor
open Go.RowKit
section
variable {P:Program} {md:Region.Mode}
def Y0 (md:Region.Mode) (l:List Oper) (st:Oper):Bool:=
 (List.range l.length).all (fun i=>(((l++[st]).drop (i+1))).any (fun o=>o.after.any (fun e=>Region.binds md e&&e.on==i)))&&
 (List.range (l.length+1)).all (fun j=>(((l++[st])[j]?).map (fun o=>o.after.all (fun e=>!Region.binds md e||decide (e.on<j)))).getD true)
theorem GN {l:List Oper} {st:Oper} (h:Y0 md l st=true) {i:Nat} (hi:i<l.length):∃j o e,i<j/\(l++[st])[j]?=some o/\e∈o.after/\Region.binds md e=true/\e.on=i:=by
 simp only[Y0,Bool.and_eq_true,List.all_eq_true,List.mem_range,List.any_eq_true] at h;obtain⟨o,ho,hh⟩:=h.1 i hi;obtain⟨k,hk⟩:=List.mem_iff_getElem?.1 ho;rw[List.getElem?_drop] at hk;rw[Array.any_eq_true] at hh;obtain⟨m,hm,he⟩:=hh;simp only[Bool.and_eq_true,beq_iff_eq] at he;exact⟨i+1+k,o,o.after[m],by omega,hk,Array.getElem_mem hm,he.1,he.2⟩
theorem Xx {l:List Oper} {st:Oper} (h:Y0 md l st=true) {j:Nat} {o:Oper} (ho:(l++[st])[j]?=some o):∀e∈o.after,Region.binds md e=true->e.on<j:=by
 simp only[Y0,Bool.and_eq_true,List.all_eq_true,List.mem_range] at h;have hj:j<l.length+1:=by have:=(Lg.1 ho).1;simpa using this
 have h2:=h.2 j hj;rw[ho] at h2;simp only[Option.map_some,Option.getD_some,Array.all_eq_true_iff_forall_mem] at h2;intro e he hb;have h3:=h2 e he;rw[hb] at h3;simpa using h3
structure Tw (l:List Oper) (st:Oper) (md:Region.Mode) (listed listed0:Array Bool):Prop where
 s:listed.size=l.length+1
 s0:listed0.size=l.length
 same:∀j,j<l.length->listed.getD j true=listed0.getD j true
 last:listed.getD l.length true=false
 down:∀j o,j<l.length->listed.getD j true=true->(l++[st])[j]?=some o->∀e∈o.after,Region.binds md e=true->listed.getD e.on true=true
theorem WA {x:Array Bool} {j:Nat} (h:j<x.size):x.getD j true=x.getD j false:=by simp[h]
theorem Tw.all {l:List Oper} {st:Oper} {listed listed0:Array Bool} (t:Tw l st md listed listed0) (hU:Y0 md l st=true) (h:Region.ready md l.toArray listed0=[]):∀j,j<l.length->listed0.getD j true=true:=by
 intro j
 induction j using Nat.strongRecOn with
 | _ j ih=>
  intro hj
  by_cases hx:listed0.getD j true=true
  ·exact hx
  ·have:j∈Region.ready md l.toArray listed0:=by
    rw[mem_ready];refine⟨by simpa using hx,l[j],by simp[hj],fun e he hb=>?_⟩
    have h1:(l++[st])[j]?=some l[j]:=by rw[List.getElem?_append_left hj];simp[hj]
    have h2:=Xx hU h1 e he hb;rw[<-WA (by rw[t.s0];omega)]
    exact ih e.on h2 (by omega)
   rw[h] at this;cases this
theorem Tw.ready_last {l:List Oper} {st:Oper} {listed listed0:Array Bool} (t:Tw l st md listed listed0) (hU:Y0 md l st=true) (h:∀j,j<l.length->listed0.getD j true=true):l.length∈Region.ready md (l++[st]).toArray listed:=by
 rw[mem_ready];refine⟨t.last,st,by simp,fun e he hb=>?_⟩
 have h2:=Xx hU (j:=l.length) (o:=st) (by simp) e he hb
 rw[<-WA (by rw[t.s];omega),t.same _ h2]
 exact h _ h2
theorem Tw.of_last {l:List Oper} {st:Oper} {listed listed0:Array Bool} (t:Tw l st md listed listed0) (hU:Y0 md l st=true) (h:l.length∈Region.ready md (l++[st]).toArray listed):∀j,j<l.length->listed0.getD j true=true:=by
 obtain⟨_,o,ho,hall⟩:=mem_ready.1 h;have hst:o=st:=by simpa using ho.symm
 subst hst;have key:∀m j,l.length-j<=m->j<l.length->listed.getD j true=true:=by
  intro m
  induction m with
  | zero=>intro j h1 h2;omega
  | succ m ih=>
   intro j h1 h2;obtain⟨k,o',e,hk,ho',he,hb,rfl⟩:=GN hU h2
   by_cases hkl:k<l.length
   ·exact t.down k o' hkl (ih k (by omega) hkl) ho' e he hb
   ·have hk2:k=l.length:=by have:=(Lg.1 ho').1;simp at this;omega
    subst hk2;have ho2:o'=o:=by simpa using ho'.symm
    subst ho2
    have:=hall e he hb
    rw[WA (by rw[t.s];omega)]
    exact this
 intro j hj;rw[<-t.same j hj];exact key _ j (Nl _) hj
theorem Tw.ready {l:List Oper} {st:Oper} {listed listed0:Array Bool} (t:Tw l st md listed listed0) (hU:Y0 md l st=true) {i:Nat} (hi:i<l.length) (h:i∈Region.ready md (l++[st]).toArray listed):i∈Region.ready md l.toArray listed0:=by
 obtain⟨h0,o,ho,hall⟩:=mem_ready.1 h;have ho2:(l++[st])[i]?=some o:=by simpa using ho
 rw[mem_ready];refine⟨by rw[<-t.same i hi];exact h0,o,by rw[List.getElem?_append_left hi] at ho2;simpa using ho2,fun e he hb=>?_⟩
 have h2:=Xx hU ho2 e he hb;have h3:=hall e he hb;rw[<-WA (by rw[t.s0];omega),<-t.same e.on (by omega),WA (by rw[t.s];omega)]
 exact h3
theorem Tw.step {l:List Oper} {st:Oper} {listed listed0:Array Bool} (t:Tw l st md listed listed0) (hU:Y0 md l st=true) {i:Nat} (hi:i<l.length) (h:i∈Region.ready md (l++[st]).toArray listed):Tw l st md (listed.setIfInBounds i true) (listed0.setIfInBounds i true):=by
 obtain⟨h0,o,ho,hall⟩:=mem_ready.1 h;have ho2:(l++[st])[i]?=some o:=by simpa using ho
 refine⟨by simp[t.s],by simp[t.s0],fun j hj=>?_,by rw[getD_set_ne true (by omega)];exact t.last,fun j o' hj hl ho' e he hb=>?_⟩
 ·by_cases hij:i=j
  ·subst hij;simp[t.s,t.s0,hi,Nat.lt_succ_of_lt hi]
  ·rw[getD_set_ne true hij,getD_set_ne true hij];exact t.same j hj
 ·by_cases hij:i=j
  ·subst hij
   have:o'=o:=by rw[ho2] at ho';injection ho' with h;exact h.symm
   subst this;have h2:=Xx hU ho2 e he hb;have h3:=hall e he hb;rw[getD_set_ne true (by omega),WA (by rw[t.s];omega)]
   exact h3
  ·rw[getD_set_ne true hij] at hl
   have:=t.down j o' hj hl ho' e he hb
   by_cases hie:i=e.on
   ·rw[<-hie];simp[t.s,Nat.lt_succ_of_lt hi]
   ·rw[getD_set_ne true hie];exact this
end
section
variable {P:Program} {md:Region.Mode}
theorem Oper.wp_mono2 {o:Oper} {a:Act} {w:World} {K K':Act->World->Prop} {Q Q':Exit->Act->World->Prop} (h:∀a w,K a w->K' a w) (hp:∀c a w,Q (.panic c) a w->Q' (.panic c) a w) (hl:LetsOut Q->LetsOut Q')
  (hh:o.wp P a w K Q):o.wp P a w K' Q':=by
 unfold Oper.wp at *;generalize (execOp a.eval o).run P w=r at *;cases r with
 | ok n w'=>
  cases n<;>simp only[Oper.upon] at hh ⊢ <;>
   first
    | exact h _ _ hh
    | exact Calls.mono hh (fun e w'' he=>by
      cases e<;>first
       | exact h _ _ he
       | exact hp _ _ _ he
       | exact hl he)
    | exact Rows.mono hh (fun _ _ he=>h _ _ he)
 | halt x w'=>
  cases x<;>simp only[Oper.upon] at hh ⊢<;>first
   | exact hp _ _ _ hh
   | exact hh
theorem YD {o:Oper} (h:o.guard=none) (f:Nat->Option Bool):Region.wanted o f=true:=by unfold Region.wanted;rw[h]
theorem Uo {L:List Oper} {st:Oper} {Q:Exit->Act->World->Prop} (hU:Y0 md L st=true) (hg:st.guard=none) (hgs:∀o∈L,o.guard=none) :
  ∀(fuel:Nat) (listed listed0:Array Bool) (a:Act) (w:World),Tw L st md listed listed0->
  wpAny P md L.toArray (Exit.then (wpList P (L++[st]).toArray Q [st]) Q) fuel listed0 a w->wpAny P md (L++[st]).toArray Q (fuel+1) listed a w:=by
 have lo:LetsOut (Exit.then (wpList P (L++[st]).toArray Q [st]) Q)->LetsOut Q:=fun ⟨a,w,h⟩=>⟨a,w,h⟩
 have fin:∀(fuel:Nat) (listed listed0:Array Bool) (a:Act) (w:World),Tw L st md listed listed0->(∀j,j<L.length->listed0.getD j true=true)->wpList P (L++[st]).toArray Q [st] a w->
   wpOp P (L++[st]).toArray Q L.length (wpAny P md (L++[st]).toArray Q fuel (listed.setIfInBounds L.length true)) a w:=by
  intro fuel listed listed0 a w t hall h;have hnone:Region.ready md (L++[st]).toArray (listed.setIfInBounds L.length true)=[]:=by
   apply List.eq_nil_iff_forall_not_mem.2;intro j hj;have hj0:=(mem_ready.1 hj).1
   by_cases hjl:j=L.length
   ·subst hjl;simp[t.s] at hj0
   ·have hlt:j<L.length:=by
     obtain⟨o,ho,_⟩:=(mem_ready.1 hj).2
     have:=(Ag.1 ho).1;simp at this;omega
    rw[getD_set_ne true (by omega),t.same j hlt,hall j hlt] at hj0;cases hj0
  have hK:∀a w,Q .normal a w->wpAny P md (L++[st]).toArray Q fuel (listed.setIfInBounds L.length true) a w:=by
   intro a w hq;cases fuel with
   | zero=>exact⟨hnone,hq⟩
   | succ n=>exact⟨fun _=>hq,fun j hj=>by rw[hnone] at hj;cases hj⟩
  unfold wpList at h;unfold wpOp;simp only[List.getElem?_toArray,List.getElem?_append_right (Nl _),Nat.sub_self,List.getElem?_cons_zero];simp only[YD hg,if_true] at h ⊢;rcases h with h|h
  ·exact .inl (Oper.wp_mono (fun a w h=>hK a w h) h)
  ·exact .inr h
 intro fuel
 induction fuel with
 | zero=>
  intro listed listed0 a w t h;have hall:=t.all hU h.1;refine⟨fun h0=>?_,fun i hi=>?_⟩
  ·have:=t.ready_last hU hall;rw[h0] at this;cases this
  ·by_cases hil:i<L.length
   ·have:=t.ready hU hil hi;rw[h.1] at this;cases this
   ·have hi2:i=L.length:=by
     obtain⟨o,ho,_⟩:=(mem_ready.1 hi).2
     have:=(Ag.1 ho).1;simp at this;omega
    subst hi2;exact fin 0 _ _ _ _ t hall h.2
 | succ fuel ih=>
  intro listed listed0 a w t h;refine⟨fun h0=>?_,fun i hi=>?_⟩
  ·have hr0:Region.ready md L.toArray listed0=[]:=by
    apply List.eq_nil_iff_forall_not_mem.2;intro j hj;obtain⟨j0,o,ho,hall⟩:=mem_ready.1 hj;have hjl:j<L.length:=by have:=(Ag.1 ho).1;simpa using this
    have:j∈Region.ready md (L++[st]).toArray listed:=by
     rw[mem_ready];have ho2:(L++[st])[j]?=some o:=by rw[List.getElem?_append_left hjl];simpa using ho
     refine⟨by rw[t.same j hjl];exact j0,o,by simpa using ho2,fun e he hb=>?_⟩
     have h2:=Xx hU ho2 e he hb;have h3:=hall e he hb;rw[<-WA (by rw[t.s];omega),t.same e.on (by omega),WA (by rw[t.s0];omega)]
     exact h3
    rw[h0] at this;cases this
   have:=t.ready_last hU (t.all hU hr0);rw[h0] at this;cases this
  ·by_cases hil:i<L.length
   ·have hi0:=t.ready hU hil hi;have h1:=h.2 i hi0;have t':=t.step hU hil hi;obtain⟨hun,o,ho,_⟩:=mem_ready.1 hi0;have hoL:o∈L:=by
     have:L[i]?=some o:=by simpa using ho
     exact Lm this
    have ho2:(L++[st]).toArray[i]?=some o:=by
     have:(L++[st])[i]?=some o:=by rw[List.getElem?_append_left hil];simpa using ho
     simpa using this
    unfold wpOp at h1 ⊢;simp only[ho,ho2,YD (hgs o hoL),if_true] at h1 ⊢;rcases h1 with h1|h1
    ·exact .inl (Oper.wp_mono2 (fun a w h=>ih _ _ _ _ t' h) (fun _ _ _ h=>h) lo h1)
    ·exact .inr ⟨h1.1,lo h1.2⟩
   ·have hi2:i=L.length:=by
     obtain⟨o,ho,_⟩:=(mem_ready.1 hi).2
     have:=(Ag.1 ho).1;simp at this;omega
    subst hi2;have hall:=t.of_last hU hi;have hr0:Region.ready md L.toArray listed0=[]:=by
     apply List.eq_nil_iff_forall_not_mem.2;intro j hj;obtain⟨j0,o,ho,_⟩:=mem_ready.1 hj;have hjl:j<L.length:=by have:=(Ag.1 ho).1;simpa using this
     rw[hall j hjl] at j0;cases j0
    exact fin (fuel+1) _ _ _ _ t hall (h.1 hr0)
theorem VZ (L:List Oper) (st:Oper):Tw L st md (Array.replicate (L++[st]).toArray.size false) (Array.replicate L.toArray.size false):=by
 refine⟨by simp,by simp,fun j hj=>?_,?_,fun j o hj hl=>?_⟩
 ·simp[hj,Nat.lt_succ_of_lt hj]
 ·simp
 ·simp[Nat.lt_succ_of_lt hj] at hl
theorem PC {id:Nat} {Q:Exit->Act->World->Prop} {a:Act} {w:World} {l:List Oper} {s1 s2:Oper} (hm:P.follows .mixedOrders=true) (hB:Region.lexB .any l.toArray=true) (hU1:Y0 .any l s1=true) (hU2:Y0 .any (l++[s1]) s2=true) (hg:(l++[s1]++[s2]).all (fun o=>o.guard.isNone)=true)
  (h:ZI P l.toArray (fun w'=>Below w.heap.size w w') (fun a' B=>∀ρ w',Fits w ρ B w'->wpList P (l++[s1]++[s2]).toArray Q [s1,s2] (a' ρ) w') l 0 (fun _=>a) (fun _=>none)):(Code.region id (l++[s1]++[s2]).toArray true).wp P Q a w:=by
 simp only[Region.lexB,Bool.and_eq_true] at hB;have hgs:∀o∈l++[s1]++[s2],o.guard=none:=fun o ho=>by
  have:=(List.all_eq_true.1 hg) o ho
  simpa using this
 refine wp_region_any hm ?_;have hf:Fits w (fun _=>0) (fun _=>none) { w with drawn:=w.drawn+1 }:=
  ⟨⟨rfl,rfl,rfl,Nl _,fun _ _=>rfl⟩,fun _ _ _ h=>(by cases h),fun _ _ h=>absurd rfl h⟩
 have h1:=Vz (C:=fun w'=>Below w.heap.size w w') (md:=.any) hB.1 l 0 (Array.replicate l.toArray.size false) (fun _=>a) (fun _=>none) (by simp) (by simpa using hB.2) h
 have g1:s1.guard=none:=hgs s1 (by simp)
 have g2:s2.guard=none:=hgs s2 (by simp)
 have h2:=Z4 (P:=P) (md:=.any) (Q:=fun a' B=>∀ρ w',Fits w ρ B w'->wpList P (l++[s1]++[s2]).toArray Q [s1,s2] (a' ρ) w') (Q':=Exit.then (wpList P (l++[s1]).toArray (Exit.then (wpList P (l++[s1]++[s2]).toArray Q [s2]) Q) [s1]) (Exit.then (wpList P (l++[s1]++[s2]).toArray Q [s2]) Q)) (fun a' B ρ w' hf' h'=>by
  have h3:wpList P (l++[s1]++[s2]).toArray Q [s1,s2] (a' ρ) w':=h' ρ w' hf';show wpList P (l++[s1]).toArray _ [s1] (a' ρ) w';rw[wpList] at h3 ⊢;simp only[YD g1,if_true] at h3 ⊢;rcases h3 with h3|h3
  ·exact .inl (Oper.wp_mono2 (fun a w h=>h) (fun _ _ _ h=>h) (fun ⟨a,w,h⟩=>⟨a,w,h⟩) h3)
  ·exact .inr ⟨h3.1,(fun ⟨a,w,h⟩=>⟨a,w,h⟩) h3.2⟩) l.toArray.size _ (fun _=>a) (fun _=>none) (fun _=>0) _ hf (fun _ _ _ _=>rfl) (by simpa using h1)
 have h3:=Uo (P:=P) (md:=.any) hU1 g1 (fun o ho=>hgs o (by simp[ho])) _ _ _ a _ (VZ l s1) h2
 have h4:=Uo (P:=P) (md:=.any) hU2 g2 (fun o ho=>hgs o (List.mem_append_left _ ho)) _ _ _ a _ (VZ (l++[s1]) s2) h3
 simpa using h4
theorem Wk {id:Nat} {Q:Exit->Act->World->Prop} {a:Act} {w:World} {L:List Oper} (hne:L≠[]) (hne2:L.dropLast≠[]) (hm:P.follows .mixedOrders=true) (hB:Region.lexB .any L.dropLast.dropLast.toArray=true) (hU1:Y0 .any L.dropLast.dropLast (L.dropLast.getLast hne2)=true) (hU2:Y0 .any L.dropLast (L.getLast hne)=true) (hg:L.all (fun o=>o.guard.isNone)=true)
  (h:ZI P L.dropLast.dropLast.toArray (fun w'=>Below w.heap.size w w') (fun a' B=>∀ρ w',Fits w ρ B w'->wpList P L.toArray Q [L.dropLast.getLast hne2,L.getLast hne] (a' ρ) w') L.dropLast.dropLast 0 (fun _=>a) (fun _=>none)):(Code.region id L.toArray true).wp P Q a w:=by
 have e1:L.dropLast.dropLast++[L.dropLast.getLast hne2]=L.dropLast:=List.dropLast_concat_getLast hne2;have e2:L.dropLast++[L.getLast hne]=L:=List.dropLast_concat_getLast hne
 have:=PC (P:=P) (id:=id) (Q:=Q) (a:=a) (w:=w) (l:=L.dropLast.dropLast) (s1:=L.dropLast.getLast hne2) (s2:=L.getLast hne) hm hB hU1 (by rw[e1];exact hU2) (by rw[e1,e2];exact hg) (by rw[e1,e2];exact h)
 rwa [e1,e2] at this
end
section
variable {P:Program} {md:Region.Mode} {F:Fence} {n:Nat}
theorem Oper.wpIn_mono2 {o:Oper} {a:Act} {w:World} {K K':Act->World->Prop} {Q Q':Exit->Act->World->Prop} (h:∀a w,K a w->K' a w) (hp:∀c a w,Q (.panic c) a w->Q' (.panic c) a w) (hl:LetsOut Q->LetsOut Q')
  (hh:o.wpIn F n P a w K Q):o.wpIn F n P a w K' Q':=by
 unfold Oper.wpIn at *;refine⟨hh.1,?_⟩;have hh:=hh.2;generalize (o.semAt F.round a.eval).run P w=r at *;cases r with
 | ok x w'=>
  cases x<;>simp only[Oper.uponIn] at hh ⊢ <;>
   first
    | exact h _ _ hh
    | exact⟨hh.1,CallsIn.mono hh.2 (fun e w'' he=>by cases e<;>first|exact h _ _ he|exact hp _ _ _ he|exact hl he)⟩
    | exact⟨hh.1,RowsIn.mono hh.2 (fun _ _ he=>h _ _ he)⟩
    | exact⟨hh.1,RoundIn.mono hh.2 (fun e w'' he=>by cases e<;>first|exact h _ _ he|exact hp _ _ _ he|exact hl he)⟩
 | halt x w'=>
  cases x<;>simp only[Oper.uponIn] at hh ⊢<;>first
   | exact hp _ _ _ hh
   | exact hh
def WI (Q:Act->World->Prop):Exit->Act->World->Prop:=fun e a w=>e=.normal/\Q a w
theorem GO {row:String} {args:Array Value} {w:World} {R:Value->World->Prop} (h:Rows P row args w R):RowsIn Fence.wide n P row args w R:=
 fun c cs _=>let ⟨v,w',r,s⟩:=h c cs;⟨v,w',r,stepsIn_wide.2 s⟩
theorem Jr {o:Oper} {a:Act} {w:World} {K K':Act->World->Prop} {Q0:Act->World->Prop} {Q:Exit->Act->World->Prop} (hk:∀a w,K a w->K' a w) (h:o.wp P a w K (WI Q0)):o.wpIn Fence.wide n P a w K' Q:=by
 unfold Oper.wp at h;unfold Oper.wpIn;refine⟨fun _ _=>trivial,?_⟩
 have e:o.semAt Fence.wide.round a.eval=execOp a.eval o:=rfl;rw[e];generalize (execOp a.eval o).run P w=r at *;cases r with
 | ok x w'=>
  cases x<;>simp only[Oper.upon,Oper.uponIn] at h ⊢ <;>
   first
    | exact hk _ _ h
    | exact⟨fun h=>(by cases h),callsIn_wide.2 (Calls.mono h (fun e w'' he=>by
      cases e<;>first
       | exact hk _ _ he
       | exact absurd he.1 (by simp)
       | (obtain⟨_,_,hx⟩:=he;exact absurd hx.1 (by simp))))⟩
    | exact⟨fun h=>(by cases h),GO (Rows.mono h (fun _ _ he=>hk _ _ he))⟩
    | exact absurd h (by simp)
 | halt x w'=>
  cases x<;>simp only[Oper.upon,Oper.uponIn] at h ⊢<;>first
   | exact absurd h.1 (by simp)
   | exact h
theorem Vf {ops:Array Oper} {Q0:Act->World->Prop} {Q:Exit->Act->World->Prop} (hq:∀a w,Q0 a w->Q .normal a w):∀(fuel:Nat) (listed:Array Bool) (a:Act) (w:World),wpAny P md ops (WI Q0) fuel listed a w->wpAnyIn Fence.wide n P md ops Q fuel listed a w
 | 0,listed,a,w,h=>⟨h.1,hq _ _ h.2.2⟩
 | fuel+1,listed,a,w,h=>by
  refine⟨fun h0=>hq _ _ (h.1 h0).2,fun i hi=>?_⟩
  have h1:=h.2 i hi;unfold wpOp at h1;unfold wpOpIn;cases ho:ops[i]? with
  | none=>simp only[ho] at h1 ⊢;exact Vf hq fuel _ _ _ h1
  | some o=>
   simp only[ho] at h1 ⊢
   split
   ·rename_i hw;simp only[hw,if_true] at h1;rcases h1 with h1|⟨_,_,_,h1⟩
    ·exact Jr (fun a w hk=>Vf hq fuel _ _ _ hk) h1
    ·exact absurd h1.1 (by simp)
   ·rename_i hw;simp only[hw] at h1;exact⟨fun _ _=>trivial,Vf hq fuel _ _ _ h1⟩
theorem Sy {L:List Oper} {st:Oper} {Q:Exit->Act->World->Prop} (hU:Y0 md L st=true) (hg:st.guard=none) (hgs:∀o∈L,o.guard=none) :
  ∀(fuel:Nat) (listed listed0:Array Bool) (a:Act) (w:World),Tw L st md listed listed0->
  wpAnyIn F n P md L.toArray (Exit.then (wpListIn F n P (L++[st]).toArray Q [st]) Q) fuel listed0 a w->wpAnyIn F n P md (L++[st]).toArray Q (fuel+1) listed a w:=by
 have lo:LetsOut (Exit.then (wpListIn F n P (L++[st]).toArray Q [st]) Q)->LetsOut Q:=fun ⟨a,w,h⟩=>⟨a,w,h⟩
 have fin:∀(fuel:Nat) (listed listed0:Array Bool) (a:Act) (w:World),Tw L st md listed listed0->(∀j,j<L.length->listed0.getD j true=true)->wpListIn F n P (L++[st]).toArray Q [st] a w->
   wpOpIn F n P (L++[st]).toArray Q L.length (wpAnyIn F n P md (L++[st]).toArray Q fuel (listed.setIfInBounds L.length true)) a w:=by
  intro fuel listed listed0 a w t hall h;have hnone:Region.ready md (L++[st]).toArray (listed.setIfInBounds L.length true)=[]:=by
   apply List.eq_nil_iff_forall_not_mem.2;intro j hj;have hj0:=(mem_ready.1 hj).1
   by_cases hjl:j=L.length
   ·subst hjl;simp[t.s] at hj0
   ·have hlt:j<L.length:=by
     obtain⟨o,ho,_⟩:=(mem_ready.1 hj).2
     have:=(Ag.1 ho).1;simp at this;omega
    rw[getD_set_ne true (by omega),t.same j hlt,hall j hlt] at hj0;cases hj0
  have hK:∀a w,Q .normal a w->wpAnyIn F n P md (L++[st]).toArray Q fuel (listed.setIfInBounds L.length true) a w:=by
   intro a w hq;cases fuel with
   | zero=>exact⟨hnone,hq⟩
   | succ m=>exact⟨fun _=>hq,fun j hj=>by rw[hnone] at hj;cases hj⟩
  unfold wpListIn at h;unfold wpOpIn;simp only[List.getElem?_toArray,List.getElem?_append_right (Nl _),Nat.sub_self,List.getElem?_cons_zero];simp only[YD hg,if_true] at h ⊢;exact Oper.wpIn_mono (fun a w h=>hK a w h) h
 intro fuel
 induction fuel with
 | zero=>
  intro listed listed0 a w t h;have hall:=t.all hU h.1;refine⟨fun h0=>?_,fun i hi=>?_⟩
  ·have:=t.ready_last hU hall;rw[h0] at this;cases this
  ·by_cases hil:i<L.length
   ·have:=t.ready hU hil hi;rw[h.1] at this;cases this
   ·have hi2:i=L.length:=by
     obtain⟨o,ho,_⟩:=(mem_ready.1 hi).2
     have:=(Ag.1 ho).1;simp at this;omega
    subst hi2;exact fin 0 _ _ _ _ t hall h.2
 | succ fuel ih=>
  intro listed listed0 a w t h;refine⟨fun h0=>?_,fun i hi=>?_⟩
  ·have hr0:Region.ready md L.toArray listed0=[]:=by
    apply List.eq_nil_iff_forall_not_mem.2;intro j hj;obtain⟨j0,o,ho,hall⟩:=mem_ready.1 hj;have hjl:j<L.length:=by have:=(Ag.1 ho).1;simpa using this
    have:j∈Region.ready md (L++[st]).toArray listed:=by
     rw[mem_ready];have ho2:(L++[st])[j]?=some o:=by rw[List.getElem?_append_left hjl];simpa using ho
     refine⟨by rw[t.same j hjl];exact j0,o,by simpa using ho2,fun e he hb=>?_⟩
     have h2:=Xx hU ho2 e he hb;have h3:=hall e he hb;rw[<-WA (by rw[t.s];omega),t.same e.on (by omega),WA (by rw[t.s0];omega)]
     exact h3
    rw[h0] at this;cases this
   have:=t.ready_last hU (t.all hU hr0);rw[h0] at this;cases this
  ·by_cases hil:i<L.length
   ·have hi0:=t.ready hU hil hi;have h1:=h.2 i hi0;have t':=t.step hU hil hi;obtain⟨hun,o,ho,_⟩:=mem_ready.1 hi0;have hoL:o∈L:=by
     have:L[i]?=some o:=by simpa using ho
     exact Lm this
    have ho2:(L++[st]).toArray[i]?=some o:=by
     have:(L++[st])[i]?=some o:=by rw[List.getElem?_append_left hil];simpa using ho
     simpa using this
    unfold wpOpIn at h1 ⊢;simp only[ho,ho2,YD (hgs o hoL),if_true] at h1 ⊢;exact Oper.wpIn_mono2 (fun a w h=>ih _ _ _ _ t' h) (fun _ _ _ h=>h) lo h1
   ·have hi2:i=L.length:=by
     obtain⟨o,ho,_⟩:=(mem_ready.1 hi).2
     have:=(Ag.1 ho).1;simp at this;omega
    subst hi2;have hall:=t.of_last hU hi;have hr0:Region.ready md L.toArray listed0=[]:=by
     apply List.eq_nil_iff_forall_not_mem.2;intro j hj;obtain⟨j0,o,ho,_⟩:=mem_ready.1 hj;have hjl:j<L.length:=by have:=(Ag.1 ho).1;simpa using this
     rw[hall j hjl] at j0;cases j0
    exact fin (fuel+1) _ _ _ _ t hall (h.1 hr0)
theorem Sz {id:Nat} {Q:Exit->Act->World->Prop} {a:Act} {w:World} {l:List Oper} {s1 s2:Oper} (hm:P.follows .mixedOrders=true) (hB:Region.lexB .any l.toArray=true) (hU1:Y0 .any l s1=true) (hU2:Y0 .any (l++[s1]) s2=true) (hg:(l++[s1]++[s2]).all (fun o=>o.guard.isNone)=true)
  (h:ZI P l.toArray (fun w'=>Below w.heap.size w w') (fun a' B=>∀ρ w',Fits w ρ B w'->wpListIn Fence.wide n P (l++[s1]++[s2]).toArray Q [s1,s2] (a' ρ) w') l 0 (fun _=>a) (fun _=>none)):(Code.region id (l++[s1]++[s2]).toArray true).wpIn Fence.wide n P Q a w:=by
 simp only[Region.lexB,Bool.and_eq_true] at hB;have hgs:∀o∈l++[s1]++[s2],o.guard=none:=fun o ho=>by
  have:=(List.all_eq_true.1 hg) o ho
  simpa using this
 refine wpIn_region_any hm ?_;have hf:Fits w (fun _=>0) (fun _=>none) { w with drawn:=w.drawn+1 }:=
  ⟨⟨rfl,rfl,rfl,Nl _,fun _ _=>rfl⟩,fun _ _ _ h=>(by cases h),fun _ _ h=>absurd rfl h⟩
 have h1:=Vz (C:=fun w'=>Below w.heap.size w w') (md:=.any) hB.1 l 0 (Array.replicate l.toArray.size false) (fun _=>a) (fun _=>none) (by simp) (by simpa using hB.2) h
 have g1:s1.guard=none:=hgs s1 (by simp)
 have g2:s2.guard=none:=hgs s2 (by simp)
 have h2:=Z4 (P:=P) (md:=.any) (Q:=fun a' B=>∀ρ w',Fits w ρ B w'->wpListIn Fence.wide n P (l++[s1]++[s2]).toArray Q [s1,s2] (a' ρ) w') (Q':=WI (wpListIn Fence.wide n P (l++[s1]).toArray (Exit.then (wpListIn Fence.wide n P (l++[s1]++[s2]).toArray Q [s2]) Q) [s1])) (fun a' B ρ w' hf' h'=>by
  have h3:wpListIn Fence.wide n P (l++[s1]++[s2]).toArray Q [s1,s2] (a' ρ) w':=h' ρ w' hf';refine⟨rfl,?_⟩;rw[wpListIn] at h3 ⊢;simp only[YD g1,if_true] at h3 ⊢
  exact Oper.wpIn_mono2 (fun a w h=>h) (fun _ _ _ h=>h) (fun ⟨a,w,h⟩=>⟨a,w,h⟩) h3) l.toArray.size _ (fun _=>a) (fun _=>none) (fun _=>0) _ hf (fun _ _ _ _=>rfl) (by simpa using h1)
 have h2b:=Vf (P:=P) (md:=.any) (n:=n) (Q:=Exit.then (wpListIn Fence.wide n P (l++[s1]).toArray (Exit.then (wpListIn Fence.wide n P (l++[s1]++[s2]).toArray Q [s2]) Q) [s1]) (Exit.then (wpListIn Fence.wide n P (l++[s1]++[s2]).toArray Q [s2]) Q)) (fun a w h=>h) _ _ _ _ h2
 have h3:=Sy (P:=P) (md:=.any) (F:=Fence.wide) (n:=n) hU1 g1 (fun o ho=>hgs o (by simp[ho])) _ _ _ a _ (VZ l s1) h2b
 have h4:=Sy (P:=P) (md:=.any) (F:=Fence.wide) (n:=n) hU2 g2 (fun o ho=>hgs o (List.mem_append_left _ ho)) _ _ _ a _ (VZ (l++[s1]) s2) h3
 simpa using h4
theorem VB {id:Nat} {Q:Exit->Act->World->Prop} {a:Act} {w:World} {L:List Oper} (hne:L≠[]) (hne2:L.dropLast≠[]) (hm:P.follows .mixedOrders=true) (hB:Region.lexB .any L.dropLast.dropLast.toArray=true) (hU1:Y0 .any L.dropLast.dropLast (L.dropLast.getLast hne2)=true) (hU2:Y0 .any L.dropLast (L.getLast hne)=true) (hg:L.all (fun o=>o.guard.isNone)=true)
  (h:ZI P L.dropLast.dropLast.toArray (fun w'=>Below w.heap.size w w') (fun a' B=>∀ρ w',Fits w ρ B w'->wpListIn Fence.wide n P L.toArray Q [L.dropLast.getLast hne2,L.getLast hne] (a' ρ) w') L.dropLast.dropLast 0 (fun _=>a) (fun _=>none)):(Code.region id L.toArray true).wpIn Fence.wide n P Q a w:=by
 have e1:L.dropLast.dropLast++[L.dropLast.getLast hne2]=L.dropLast:=List.dropLast_concat_getLast hne2;have e2:L.dropLast++[L.getLast hne]=L:=List.dropLast_concat_getLast hne
 have:=Sz (P:=P) (n:=n) (id:=id) (Q:=Q) (a:=a) (w:=w) (l:=L.dropLast.dropLast) (s1:=L.dropLast.getLast hne2) (s2:=L.getLast hne) hm hB hU1 (by rw[e1];exact hU2) (by rw[e1,e2];exact hg) (by rw[e1,e2];exact h)
 rwa [e1,e2] at this
end
open Num
theorem Tj {p:UInt8->Bool} {r:List UInt8} {k:Nat} {x:UInt8} (h:(r.take k).all p=true) (hx:r[k]?=some x) (h1:p x=true):(r.take (k+1)).all p=true:=by
 obtain⟨hk,rfl⟩:=Lg.1 hx;rw[List.take_succ_eq_append_getElem hk,List.all_append,h];simp[h1]
theorem Mx {p:UInt8->Bool} {r:List UInt8} {k:Nat} {x:UInt8} (hx:r[k]?=some x) (h1:p x=false):r.all p=false:=by
 rw[List.all_eq_false];exact⟨x,Lm hx,by simp[h1]⟩
theorem ZR {a b:Bool} (h:a=b):Ending.returned (.bool a)=.returned (.bool b):=by rw[h]
theorem Zbt {a b:Int} (h:(a==b)=true):(a != b)=false:=by simp[bne,h]
theorem V0 {a b:Int} (h:(a==b)=false):(a != b)=true:=by simp[bne,h]
theorem YW {b:Bool} (h:¬b=true):b=false:=by cases b<;>simp_all
theorem Z2 {a b:Int} (h:a=b):Ending.returned (Zi a)=.returned (Zi b):=by rw[h]
def Blk (w:World) (b:Nat) (cs:Array Value):Prop:=∃t,w.heap[b]?=some (.cells cs t (0,0))
section
variable {w w':World} {b:Nat} {cs:Array Value}
theorem Blk.new (w:World) (cs:Array Value) (t:TypeId):Blk (w.alloc (.cells cs t)) w.heap.size cs:=⟨t,heap_alloc_new w _⟩
theorem Blk.below (h:Blk w b cs) (hb:Below w.heap.size w w'):Blk w' b cs:=by
 obtain⟨t,h⟩:=h;exact⟨t,(hb.block b (Ag.1 h).1).trans h⟩
theorem Blk.c (h:Blk w b cs) (i:Nat):w.cell? ⟨b,i,none⟩=cs[i]?:=by
 obtain⟨t,h⟩:=h;exact Zk h i
theorem Blk.f (h:Blk w b cs) (i:Nat):w.frozen? ⟨b,i,none⟩=false:=by
 obtain⟨t,h⟩:=h;exact Zt h i
theorem Blk.lt (h:Blk w b cs):b<w.heap.size:=by
 obtain⟨t,h⟩:=h;exact (Ag.1 h).1
end
theorem OB {a b:Int} (h:¬a=b):(a==b)=false:=by rw[Bn];exact h
def NB (c:UInt8):Bool:=(decide (97<=c.toNat)&&decide (c.toNat<=122))||(decide (48<=c.toNat)&&decide (c.toNat<=57))||decide (c.toNat=95)
def YE (l:List UInt8):Bool:=decide (1<=l.length)&&decide (l.length<=16)&&l.all NB
def ZdE (c:UInt8):Bool:=decide (65<=c.toNat)&&decide (c.toNat<=90)
def Wl (d:Int):Bool:=decide (-25567<=d)&&decide (d<=84005)
theorem Js (l:List UInt8) (w:World):∃(cap:Nat) (C:Array Value),(convert 9 214 (Zg l)).run prog w=.ok (.slice (some ⟨w.heap.size,0,none⟩) l.length cap) (w.drew.alloc (.cells C 5 (C.size,C.size+1)))/\
  ∀(j:Nat) (x:UInt8),l[j]?=some x->(w.alloc (.cells C 5 (C.size,C.size+1))).cell? ⟨w.heap.size,j,none⟩=some (.int .u8 (x.toNat:Int)):=by
 have h:=run_bytes_of_string (P:=prog) w 9 214 5 ⟨l.toArray⟩ underlying9 underlying214 underlying5;have hs:(⟨l.toArray⟩:ByteArray).size=l.length:=by show l.toArray.size=_;simp
 rw[hs] at h;refine⟨_,_,h,fun j x hx=>?_⟩
 obtain⟨hj,rfl⟩:=Lg.1 hx;rw[World.cell?_alloc_mark,bytesRow_at _ _ _ (by simpa using hj)]
 simp
theorem Wm (c:UInt8):NB c=true↔(97<=c.toNat/\c.toNat<=122)∨(48<=c.toNat/\c.toNat<=57)∨c.toNat=95:=by simp[NB,or_assoc]
theorem TH {l:List UInt8} (hl:l.length<=1000000):Ret 86 #[Zg l] (.bool (YE l)):=fun w hG=>by
 by_cases h1:l.length=0
 ·have k2:((l.length:Int)==0)=true:=by rw[beq_iff_eq];omega
  have HV:Hid (YE l=false):=by show _=_;unfold YE;rw[Df (by omega),Bool.false_and,Bool.false_and]
  clear h1;go_enter func86,ntmps86;go_wp2;go_ret;exact⟨ZR HV.out.symm,Below.refl _ _⟩
 by_cases h2:16<l.length
 ·have k2:((l.length:Int)==0)=false:=by rw[Bn];omega
  have k3:decide (16<l.length)=true:=Dt h2;have HV:Hid (YE l=false):=by show _=_;unfold YE;rw[Df (p:=l.length<=16) (by omega),Bool.and_false,Bool.false_and]
  clear h1;go_enter func86,ntmps86;go_wp2;go_ret;exact⟨ZR HV.out.symm,Below.refl _ _⟩
 obtain⟨cap,C,hconv,hcell⟩:=Js l w;have HC:=Lh hcell;have k2:((l.length:Int)==0)=false:=by rw[Bn];omega
 have k3:decide (16<l.length)=false:=Df h2;have HV:Hid (∀b,l.all NB=b->YE l=b):=by intro b hb;unfold YE;rw[hb,Dt (by omega),Dt (by omega)];rfl
 have hb:Below w.heap.size w (w.alloc (.cells C 5 (C.size,C.size+1))).drew:=bto (Zh _ _) (bdr _);clear hcell h1;go_enter func86,ntmps86;go_wp2_with fail;clear hconv k2 k3 h2
 go_loop [16] (fun iv=>∃k:Nat,k<=l.length/\iv=Zi (k:Int)/\Hid ((l.take k).all NB=true)) (fun iv=>l.length-(intOf iv).toNat)
 case atStart=>exact⟨0,Nat.zero_le _,rfl,rfl⟩
 case round=>
  obtain⟨k,hk,rfl,HK⟩:=hrel
  by_cases hlt:k<l.length
  ·obtain⟨x,hx⟩:∃x,l[k]?=some x:=⟨_,List.getElem?_eq_getElem hlt⟩
   have hc:=HC.out k x hx;have HX:=Lh hx;clear hx
   by_cases d1:(x.toNat:Int)<97
   ·have ed1:decide ((x.toNat:Int)<97)=true:=Dt d1
    by_cases d3:(x.toNat:Int)<48
    ·have ed3:decide ((x.toNat:Int)<48)=true:=Dt d3
     by_cases d5:x.toNat=95
     ·have e5:((x.toNat:Int)==95)=true:=by rw[beq_iff_eq];omega
      have e6:((x.toNat:Int) != 95)=false:=Zbt e5;go_wp2
      go_round
      case rel=>exact⟨k+1,by omega,by go_num,Tj HK.out HX.out ((Wm _).2 (by omega))⟩
      case measure=>simp[intOf];omega
     ·have e5:((x.toNat:Int)==95)=false:=by rw[Bn];omega
      have e6:((x.toNat:Int) != 95)=true:=V0 e5;go_wp2;go_ret;exact⟨ZR (HV.out _ (Mx HX.out (YW (fun h=>by have:=(Wm _).1 h;omega)))).symm,hb⟩
    ·have ed3:decide ((x.toNat:Int)<48)=false:=Df d3
     by_cases d4:57<(x.toNat:Int)
     ·have ed4:decide (57<(x.toNat:Int))=true:=Dt d4
      by_cases d5:x.toNat=95
      ·have e5:((x.toNat:Int)==95)=true:=by rw[beq_iff_eq];omega
       have e6:((x.toNat:Int) != 95)=false:=Zbt e5;go_wp2
       go_round
       case rel=>exact⟨k+1,by omega,by go_num,Tj HK.out HX.out ((Wm _).2 (by omega))⟩
       case measure=>simp[intOf];omega
      ·have e5:((x.toNat:Int)==95)=false:=by rw[Bn];omega
       have e6:((x.toNat:Int) != 95)=true:=V0 e5;go_wp2;go_ret;exact⟨ZR (HV.out _ (Mx HX.out (YW (fun h=>by have:=(Wm _).1 h;omega)))).symm,hb⟩
     ·have ed4:decide (57<(x.toNat:Int))=false:=Df d4;go_wp2
      go_round
      case rel=>exact⟨k+1,by omega,by go_num,Tj HK.out HX.out ((Wm _).2 (by omega))⟩
      case measure=>simp[intOf];omega
   ·have ed1:decide ((x.toNat:Int)<97)=false:=Df d1
    by_cases d2:122<(x.toNat:Int)
    ·have ed2:decide (122<(x.toNat:Int))=true:=Dt d2;have e3:decide ((x.toNat:Int)<48)=false:=Df (by omega)
     have d3:¬(x.toNat:Int)<48:=by omega
     have e4:decide (57<(x.toNat:Int))=true:=Dt (by omega)
     have d4:57<(x.toNat:Int):=by omega
     have e5:((x.toNat:Int)==95)=false:=by rw[Bn];omega
     have e6:((x.toNat:Int) != 95)=true:=V0 e5;have d5:¬x.toNat=95:=by omega
     go_wp2;go_ret;exact⟨ZR (HV.out _ (Mx HX.out (YW (fun h=>by have:=(Wm _).1 h;omega)))).symm,hb⟩
    ·have ed2:decide (122<(x.toNat:Int))=false:=Df d2;go_wp2
     go_round
     case rel=>exact⟨k+1,by omega,by go_num,Tj HK.out HX.out ((Wm _).2 (by omega))⟩
     case measure=>simp[intOf];omega
  ·have HK':Hid (l.all NB=true):=by have:=HK.out;rw[List.take_of_length_le (by omega)] at this;exact this
   clear HK;go_wp2;go_ret;exact⟨ZR (HV.out _ HK'.out).symm,hb⟩
def EI:List UInt8->Int
 | []=>0
 | c::t=>if c.toNat=45 then t.length else t.length+1
theorem Jt (c:Int):(c<0/\ZH c 0 = -1)∨(c=0/\ZH c 0=0)∨(0<c/\ZH c 0=1):=by
 unfold ZH
 by_cases h:c<0
 ·left;exact⟨h,if_pos h⟩
 ·by_cases h2:0<c
  ·right;right;exact⟨h2,by rw[if_neg h,if_pos h2]⟩
  ·right;left;exact⟨by omega,by rw[if_neg h,if_neg h2]⟩
def AK (w:World) (f:Nat) (args:Array Value) (v:Value):Prop:=∀w':World,Below w.heap.size w w'->Calls prog f args w' fun e w''=>e=.returned v/\Below w'.heap.size w' w''
theorem AK.of {w w':World} {f:Nat} {args:Array Value} {v:Value} (h:AK w f args v) (_:Yb w) (hb:Below w.heap.size w w'):Calls prog f args w' fun e w''=>e=.returned v/\Below w'.heap.size w' w'':=h w' hb
end Go.Proofs.YtpieeldbamklkaaGreatDoor
namespace Go.Proofs
open Go.Shelf
def Tryz.laysM171_ren:Go.Shelf.Ren:=⟨fun|171=>140|243=>203|246=>267|283=>258|284=>259|285=>260|286=>261|129=>302|317=>301|318=>303|319=>304|320=>305|337=>326|338=>327|n=>n,fun|3=>3|9=>9|2=>2|4=>4|171=>334|0=>0|53=>207|37=>214|5=>5|173=>337|212=>378|51=>339|20=>20|213=>379|46=>283|232=>410|233=>411|n=>n,fun|17=>2|18=>6|19=>7|n=>n⟩
theorem Tryz.laysM171:Go.Proofs.LaysM.n171 prog Tryz.laysM171_ren:={
 mixed:=by kernel_rfl
 f129:=FkR func302
 f171:=FkR func140
 f243:=FkR func203
 f246:=FkR func267
 f283:=FkR func258
 f284:=FkR func259
 f285:=FkR func260
 f286:=FkR func261
 f317:=FkR func301
 f318:=FkR func303
 f319:=FkR func304
 f320:=FkR func305
 f337:=FkR func326
 f338:=FkR func327
 t0:=underlying0
 a0:=isAgg0
 z0:=sizeOf0
 v0:=zeroValue0
 t2:=underlying2
 a2:=isAgg2
 z2:=sizeOf2
 v2:=zeroValue2
 t3:=underlying3
 a3:=isAgg3
 z3:=sizeOf3
 v3:=zeroValue3
 t4:=underlying4
 a4:=isAgg4
 z4:=sizeOf4
 v4:=zeroValue4
 t5:=underlying5
 a5:=isAgg5
 z5:=sizeOf5
 v5:=zeroValue5
 t9:=underlying9
 a9:=isAgg9
 z9:=sizeOf9
 v9:=zeroValue9
 t20:=underlying20
 a20:=isAgg20
 z20:=sizeOf20
 v20:=zeroValue20
 t37:=underlying214
 a37:=isAgg214
 z37:=sizeOf214
 v37:=zeroValue214
 t46:=underlying283
 a46:=isAgg283
 z46:=sizeOf283
 v46:=zeroValue283
 t51:=underlying339
 a51:=isAgg339
 z51:=sizeOf339
 v51:=zeroValue339
 t53:=underlying207
 a53:=isAgg207
 z53:=sizeOf207
 v53:=zeroValue207
 t171:=underlying334
 a171:=isAgg334
 z171:=sizeOf334
 v171:=zeroValue334
 t173:=underlying337
 a173:=isAgg337
 z173:=sizeOf337
 v173:=zeroValue337
 t212:=underlying378
 a212:=isAgg378
 z212:=sizeOf378
 v212:=zeroValue378
 t213:=underlying379
 a213:=isAgg379
 z213:=sizeOf379
 t232:=underlying410
 a232:=isAgg410
 z232:=sizeOf410
 v232:=zeroValue410
 t233:=underlying411
 a233:=isAgg411
 z233:=sizeOf411
 v233:=zeroValue411
 g17:=by kernel_rfl
 g18:=by kernel_rfl
 g19:=by kernel_rfl
 i0:=by kernel_rfl
 i2:=by kernel_rfl
 i3:=by kernel_rfl
 i4:=by kernel_rfl
 i5:=by kernel_rfl
 i9:=by kernel_rfl
 i20:=by kernel_rfl
 i37:=by kernel_rfl
 i46:=by kernel_rfl
 i51:=by kernel_rfl
 i53:=by kernel_rfl
 i171:=by kernel_rfl
 i173:=by kernel_rfl
 i212:=by kernel_rfl
 i232:=by kernel_rfl
 i233:=by kernel_rfl
 m17:=by kernel_rfl
 m18:=by kernel_rfl
 m19:=by kernel_rfl }
open Go.RowKit Go.Sort Go.Lib in
theorem Tryz.strconv_Itoa (n:Int) (h0 : -9223372036854775808<=n) (h1:n<=9223372036854775807) (w:World) (htab:Lib.TabIs prog w "internal/strconv.uint64pow10" .u64 Lib.pow10Tab) :
  Calls prog 140 #[Zi n] w fun e w'=>e=.returned (Zg (Lib.itoa n))/\∃k os,w'=grow (w.drewN k) os:=Any.strconv_Itoa Tryz.laysM171 n h0 h1 w htab
end Go.Proofs
namespace Go.Proofs.YtpieeldbamklkaaGreatDoor
open Go.RowKit Num
theorem Ju (n:Int):Lib.itoa n=Z3 n:=by
 unfold Lib.itoa Z3
 by_cases h:n<0
 ·rw[if_pos h,if_neg (by omega),<-Mh]
  unfold canon fmt;rw[if_pos h,if_neg (by omega)]
 ·rw[if_neg h,<-Mh]
  by_cases h0:n=0
  ·rw[if_pos h0,h0];rfl
  ·rw[if_neg h0];unfold canon fmt;rw[if_neg h,if_neg (by omega),show n.toNat=n.natAbs by omega]
theorem IG (n:Int) (h0 : -9223372036854775808<=n) (h1:n<=9223372036854775807):Ret 140 #[Zi n] (Zg (Z3 n)):=fun w hG=>by
 refine (Tryz.strconv_Itoa n h0 h1 w hG.1).mono ?_;rintro e w' ⟨rfl,k,os,rfl⟩;exact⟨by rw[Ju],Lib.below_grow _ _ (Nl _) _ _⟩
theorem SA (n:Int) (h0 : -9223372036854775808<=n) (h1:n<=9223372036854775807):(Z3 n).length<=25:=by
 unfold Z3;split
 ·simp
 ·exact Nt (Zu n 20 (by omega)) (by omega)
theorem Zdc (n:Int) (h0 : -9223372036854775808<=n) (h1:n<=9223372036854775807):Ret 61 #[Zi n] (Zg (canon n)):=fun w hG=>by
 have hl:=SA n h0 h1;have C1:=Lh (IG n h0 h1);have c2:Ret 139 #[Zg (Z3 n)] (Zg (canon n)):=fun w _=>by
  have:=Xr (Z3 n) w (by omega)
  rwa [Jq] at this
 have C2:=Lh c2;have hb:=Below.refl w.heap.size w;clear c2 hl;generalize Z3 n=P at *;go_enter func61,ntmps61;go_wp2_with fail
 refine (C1.out.of hG hb).mono ?_
 rintro e w2 ⟨rfl,hb2⟩;replace hb:=bto hb hb2;go_wp2_with fail
 refine (C2.out.of hG hb).mono ?_
 rintro e w3 ⟨rfl,hb3⟩;go_wp2;go_ret;exact⟨rfl,bto hb hb3⟩
structure Pnt where
 day:Int
 vl:List UInt8
 fl:List UInt8
def NC (w:World) (A:Option Addr) (ts:List Pnt):Prop:=∀i t,ts[i]?=some t->∃b o,A=some ⟨b,o,none⟩/\b<w.heap.size/\w.cell? ⟨b,o+i*3,none⟩=some (Zi t.day)/\w.cell? ⟨b,o+i*3+1,none⟩=some (Zg t.vl)/\w.cell? ⟨b,o+i*3+2,none⟩=some (Zg t.fl)
theorem NC.below {w w':World} {A:Option Addr} {ts:List Pnt} (h:NC w A ts) (hb:Below w.heap.size w w'):NC w' A ts:=fun i t ht=>by
 obtain⟨b,o,h0,h1,h2,h3,h4⟩:=h i t ht;exact⟨b,o,h0,Nat.lt_of_lt_of_le h1 hb.size,(hb.cell (p:=⟨b,o+i*3,none⟩) h1).trans h2,(hb.cell (p:=⟨b,o+i*3+1,none⟩) h1).trans h3,(hb.cell (p:=⟨b,o+i*3+2,none⟩) h1).trans h4⟩
def Nj:Option Int->Int->Bool
 | none,_=>false
 | some q,d=>decide (d<=q)
def WU (l:List UInt8):Bool:=decide (40<EI l)
def UI:Option Int->List Pnt->Int
 | _,[]=>0
 | o,p::r=>if Wl p.day=false then 13 else if ¬p.vl=canon (val p.vl) then 1 else if ¬p.fl=canon (val p.fl) then 1 else if WU p.vl=true then 4 else if WU p.fl=true then 4 else if Nj o p.day=true then 8 else if val p.vl<0 then 2 else if r≠[]/\val p.vl+val p.fl<=0 then 2 else UI (some p.day) r
def Wn (ts:List Pnt):Int:=if ts.length=0 then 11 else if 400<ts.length then 4 else UI none ts
def XY (ts:List Pnt):Nat->Option Int
 | 0=>none
 | k+1=>(ts[k]?).map (·.day)
theorem GP {ts:List Pnt} {k n:Nat} {p:Pnt} (h:ts[k]?=some p) (hn:ts.length=n):UI (XY ts k) (ts.drop k)=if Wl p.day=false then 13 else if ¬p.vl=canon (val p.vl) then 1 else if ¬p.fl=canon (val p.fl) then 1 else if WU p.vl=true then 4 else if WU p.fl=true then 4 else if Nj (XY ts k) p.day=true then 8 else if val p.vl<0 then 2 else if k+1<n/\val p.vl+val p.fl<=0 then 2 else UI (XY ts (k+1)) (ts.drop (k+1)):=by
 obtain⟨hk,rfl⟩:=Lg.1 h;have e:XY ts (k+1)=some ts[k].day:=by show (ts[k]?).map (·.day)=_;rw[h];rfl
 have e2:(ts.drop (k+1)≠[]/\val ts[k].vl+val ts[k].fl<=0)=(k+1<n/\val ts[k].vl+val ts[k].fl<=0):=by
  have:(ts.drop (k+1)≠[])=(k+1<n):=by
   rw[ne_eq,List.drop_eq_nil_iff];apply propext;omega
  rw[this]
 rw[List.drop_eq_getElem_cons hk,e];show (if Wl ts[k].day=false then (13:Int) else _)=_
 simp only[e2]
theorem EJ {ts:List Pnt} {k:Nat} (h:ts.length<=k):UI (XY ts k) (ts.drop k)=0:=by rw[List.drop_of_length_le h];cases XY ts k<;>rfl
theorem Zbu (d:Int):Ret 102 #[Zi d] (.bool (Wl d)):=fun w hG=>by
 by_cases h1 : -25567<=d
 ·have e1:decide (-25567<=d)=true:=Dt h1;have HV:Hid (Wl d=decide (d<=84005)):=by show _=_;unfold Wl;rw[e1];rfl
  go_enter func102,ntmps102;go_wp2;go_ret;exact⟨ZR HV.out.symm,Below.refl _ _⟩
 ·have e1:decide (-25567<=d)=false:=Df h1;have HV:Hid (Wl d=false):=by show _=_;unfold Wl;rw[e1];rfl
  go_enter func102,ntmps102;go_wp2;go_ret;exact⟨ZR HV.out.symm,Below.refl _ _⟩
theorem IJ {l:List UInt8} (hl:l.length<=1000000):Ret 104 #[Zg l] (.bool (WU l)):=fun w hG=>by
 cases l with
 | nil=>
  have k1:decide (0<([]:List UInt8).length)=false:=rfl;go_enter func104,ntmps104;go_wp2;go_ret;exact⟨ZR (by decide),Below.refl _ _⟩
 | cons c t=>
  have htl:t.length<=999999:=by simp only[List.length_cons] at hl;omega
  have k1:decide (0<(c::t).length)=true:=Dt (by simp)
  have k3:0<(c::t).length:=by simp
  by_cases hc:c.toNat=45
  ·have k2:∀hp,((((⟨(c::t).toArray⟩:ByteArray)[0]'hp).toNat:Int)==45)=true:=fun hp=>by rw[beq_iff_eq];show ((c.toNat:Nat):Int)=45;omega
   have HV:Hid (WU (c::t)=decide (40<(t.length:Int))):=by show _=_;unfold WU;rw[show EI (c::t)=t.length from if_pos hc]
   clear hc;go_enter func104,ntmps104;go_wp2;go_ret;exact⟨ZR (by rw[HV.out];first|done|rfl|(simp;done)|(apply decide_eq_decide.2;simp;done)|(apply decide_eq_decide.2;omega)|simp_all),Below.refl _ _⟩
  ·have k2:∀hp,((((⟨(c::t).toArray⟩:ByteArray)[0]'hp).toNat:Int)==45)=false:=fun hp=>by rw[Bn];show ¬((c.toNat:Nat):Int)=45;omega
   have HV:Hid (WU (c::t)=decide (40<(t.length:Int)+1)):=by show _=_;unfold WU;rw[show EI (c::t)=t.length+1 from if_neg hc]
   clear hc;go_enter func104,ntmps104;go_wp2;go_ret;exact⟨ZR (by rw[HV.out];first|done|rfl|(simp;done)|(apply decide_eq_decide.2;simp;done)|(apply decide_eq_decide.2;omega)|simp_all),Below.refl _ _⟩
theorem Jv (t:Pnt) (h1:t.vl.length<=60) (h2:t.fl.length<=60):Ret 105 #[.agg #[Zi t.day,Zg t.vl,Zg t.fl]] (Zg (canon (val t.vl+val t.fl))):=fun w hG=>by
 have hb:=Zh w (.cells #[Zi t.day,Zg t.vl,Zg t.fl] 98);have x1:=Blk.new w #[Zi t.day,Zg t.vl,Zg t.fl] 98;have C1:=Lh (XX (l:=t.vl) (l':=t.fl) (by omega) (by omega) rfl)
 have q0:=x1.c 0;have q1:=x1.c 1;have q2:=x1.c 2;generalize canon (val t.vl+val t.fl)=y at *;clear x1;go_enter func105,ntmps105;go_wp2_with fail
 refine (C1.out.of hG hb).mono ?_
 rintro e w2 ⟨rfl,hb2⟩;go_wp2;go_ret;exact⟨rfl,bto hb hb2⟩
theorem PS {v:Int}:(ZH v 0<0↔v<0)/\(ZH v 0<=0↔v<=0):=by
 rcases Jt v with h|h|h<;>rw[h.2]<;>constructor<;>omega
theorem Blk.ltB {w:World} {b:Nat} {cs:Array Value} (x:Blk w b cs):b<w.heap.size:=by obtain⟨t,h⟩:=x;exact (Ag.1 h).1
theorem EK {w wr:World} {b:Nat} {cs:Array Value} (h:b<wr.heap.size) (x:Blk w wr.heap.size cs):b<w.heap.size:=Nat.lt_trans h x.ltB
theorem AL (A:Option Addr) (ts:List Pnt) (n c:Nat) (w:World) (hG:Yb w) (hn:ts.length=n) (hn67:n<=1000) (hs:∀t∈ts,t.vl.length<=60/\t.fl.length<=60) (h:NC w A ts) :
  Calls prog 40 #[.slice A n c] w fun e w'=>e=.returned (Zi (Wn ts))/\Below w.heap.size w w':=by
 by_cases h0:n=0
 ·subst h0;have HV:Hid (Wn ts=11):=by show _=_;unfold Wn;rw[if_pos hn]
  clear hn hs h;go_enter func40,ntmps40;go_wp2;go_ret;exact⟨Z2 HV.out.symm,Below.refl _ _⟩
 have z1:((n:Int)==0)=false:=OB (by omega)
 by_cases h4:400<n
 ·have HV:Hid (Wn ts=4):=by show _=_;unfold Wn;rw[if_neg (by omega),if_pos (by omega)]
  have e1:decide (400<n)=true:=Dt h4;clear hn hs h;go_enter func40,ntmps40;go_wp2;go_ret;exact⟨Z2 HV.out.symm,Below.refl _ _⟩
 have e1:decide (400<n)=false:=Df h4;have HE:Hid (Wn ts=UI none ts):=by show _=_;unfold Wn;rw[if_neg (by omega),if_neg (by omega)]
 have HI:=Lh h;have HS:=Lh hs;have HNn:=Lh hn;clear h hn hs;go_enter func40,ntmps40;go_wp2_with fail;clear e1 z1
 go_loopw [15] (fun iv wr=>∃k:Nat,k<=n/\iv=Zi (k:Int)/\Hid (UI none ts=UI (XY ts k) (ts.drop k))/\Below w.heap.size w wr) (fun iv _=>n-(intOf iv).toNat)
 case atStart=>exact⟨0,Nat.zero_le _,rfl,rfl,Below.refl _ _⟩
 case round=>
  obtain⟨k,hk,rfl,HK,hb⟩:=hrel;have hnl:=HNn.out
  by_cases hlk:k<n
  rotate_left
  ·have HV:Hid (Wn ts=0):=by show _=_;rw[HE.out,HK.out,EJ (by omega)]
   clear HK HE HI HS;go_wp2;go_ret;exact⟨Z2 HV.out.symm,hb⟩
  obtain⟨t,ht⟩:∃t,ts[k]?=some t:=⟨_,List.getElem?_eq_getElem (by omega)⟩
  obtain⟨b,o,hA,hbs,p0,p1,p2⟩:=(HI.out.below hb) k t ht;subst hA;obtain⟨hv40,hf40⟩:=HS.out t (Lm ht);have HN:=Lh (GP ht hnl);have hbA:=Zh wr (.cells #[Zi t.day,Zg t.vl,Zg t.fl] 98);have x4:=Blk.new wr #[Zi t.day,Zg t.vl,Zg t.fl] 98;replace hb:=bto hb hbA;clear hbA ht;have CD:=Lh (Zbu t.day);cases gd:Wl t.day
  ·have HG:=Lh gd;rw[gd] at CD;clear gd;have q0:=x4.c 0;have q1:=x4.c 1;have q2:=x4.c 2;go_wp2_with fail
   refine (CD.out.of hG hb).mono ?_
   rintro e w10 ⟨rfl,hb10⟩;clear q0 q1 q2;replace x4:=x4.below hb10;replace hb:=bto hb hb10;clear hb10;clear p0 p1 p2;have HV:Hid (Wn ts=13):=by show _=_;rw[HE.out,HK.out,HN.out,if_pos HG.out]
   clear HK HN HE HI HS;have q0:=x4.c 0;have q1:=x4.c 1;have q2:=x4.c 2;go_wp2;go_ret;exact⟨Z2 HV.out.symm,hb⟩
  have HGd:Hid (¬Wl t.day=false):=by show ¬_;rw[gd];decide
  rw[gd] at CD;clear gd;have q0:=x4.c 0;have q1:=x4.c 1;have q2:=x4.c 2;go_wp2_with fail
  refine (CD.out.of hG hb).mono ?_
  rintro e w11 ⟨rfl,hb11⟩;clear q0 q1 q2;replace x4:=x4.below hb11;replace hb:=bto hb hb11;clear hb11;clear p0 p1 p2 CD
  by_cases gv:t.vl=canon (val t.vl)
  rotate_left
  ·have CC:=Lh (Yv (l:=t.vl) (c:=1) (by omega) (if_neg gv))
   have HB:=Lh gv;clear gv;have q0:=x4.c 0;have q1:=x4.c 1;have q2:=x4.c 2;go_wp2_with fail
   refine (CC.out.of hG hb).mono ?_
   rintro e w12 ⟨rfl,hb12⟩;clear q0 q1 q2;replace x4:=x4.below hb12;replace hb:=bto hb hb12;clear hb12;have HV:Hid (Wn ts=1):=by show _=_;rw[HE.out,HK.out,HN.out,if_neg HGd.out,if_pos HB.out]
   clear HK HN HE HI HS;have q0:=x4.c 0;have q1:=x4.c 1;have q2:=x4.c 2;go_wp2;go_ret;exact⟨Z2 HV.out.symm,hb⟩
  have CC:=Lh (Yv (l:=t.vl) (c:=0) (by omega) (if_pos gv))
  have Hgv:Hid (¬ ¬t.vl=canon (val t.vl)):=fun h=>h gv
  clear gv;have q0:=x4.c 0;have q1:=x4.c 1;have q2:=x4.c 2;go_wp2_with fail
  refine (CC.out.of hG hb).mono ?_
  rintro e w13 ⟨rfl,hb13⟩;clear q0 q1 q2;replace x4:=x4.below hb13;replace hb:=bto hb hb13;clear hb13;clear CC
  by_cases gf:t.fl=canon (val t.fl)
  rotate_left
  ·have CC:=Lh (Yv (l:=t.fl) (c:=1) (by omega) (if_neg gf))
   have HB:=Lh gf;clear gf;have q0:=x4.c 0;have q1:=x4.c 1;have q2:=x4.c 2;go_wp2_with fail
   refine (CC.out.of hG hb).mono ?_
   rintro e w14 ⟨rfl,hb14⟩;clear q0 q1 q2;replace x4:=x4.below hb14;replace hb:=bto hb hb14;clear hb14;have HV:Hid (Wn ts=1):=by show _=_;rw[HE.out,HK.out,HN.out,if_neg HGd.out,if_neg Hgv.out,if_pos HB.out]
   clear HK HN HE HI HS;have q0:=x4.c 0;have q1:=x4.c 1;have q2:=x4.c 2;go_wp2;go_ret;exact⟨Z2 HV.out.symm,hb⟩
  have CC:=Lh (Yv (l:=t.fl) (c:=0) (by omega) (if_pos gf))
  have Hgf:Hid (¬ ¬t.fl=canon (val t.fl)):=fun h=>h gf
  clear gf;have q0:=x4.c 0;have q1:=x4.c 1;have q2:=x4.c 2;go_wp2_with fail
  refine (CC.out.of hG hb).mono ?_
  rintro e w15 ⟨rfl,hb15⟩;clear q0 q1 q2;replace x4:=x4.below hb15;replace hb:=bto hb hb15;clear hb15;clear CC;cases gg:WU t.vl;rotate_left
  ·have CV:=Lh (IJ (l:=t.vl) (by omega))
   have HC:=Lh gg;rw[gg] at CV;clear gg;have q0:=x4.c 0;have q1:=x4.c 1;have q2:=x4.c 2;go_wp2_with fail
   refine (CV.out.of hG hb).mono ?_
   rintro e w16 ⟨rfl,hb16⟩;clear q0 q1 q2;replace x4:=x4.below hb16;replace hb:=bto hb hb16;clear hb16;have HV:Hid (Wn ts=4):=by show _=_;rw[HE.out,HK.out,HN.out,if_neg HGd.out,if_neg Hgv.out,if_neg Hgf.out,if_pos HC.out]
   clear HK HN HE HI HS;have q0:=x4.c 0;have q1:=x4.c 1;have q2:=x4.c 2;go_wp2;go_ret;exact⟨Z2 HV.out.symm,hb⟩
  have CV:=Lh (IJ (l:=t.vl) (by omega))
  have HLv:Hid (¬WU t.vl=true):=by show ¬_;rw[gg];decide
  rw[gg] at CV;clear gg;have q0:=x4.c 0;have q1:=x4.c 1;have q2:=x4.c 2;go_wp2_with fail
  refine (CV.out.of hG hb).mono ?_
  rintro e w17 ⟨rfl,hb17⟩;clear q0 q1 q2;replace x4:=x4.below hb17;replace hb:=bto hb hb17;clear hb17;clear CV;cases gg:WU t.fl;rotate_left
  ·have CV:=Lh (IJ (l:=t.fl) (by omega))
   have HC:=Lh gg;rw[gg] at CV;clear gg;have q0:=x4.c 0;have q1:=x4.c 1;have q2:=x4.c 2;go_wp2_with fail
   refine (CV.out.of hG hb).mono ?_
   rintro e w18 ⟨rfl,hb18⟩;clear q0 q1 q2;replace x4:=x4.below hb18;replace hb:=bto hb hb18;clear hb18;have HV:Hid (Wn ts=4):=by show _=_;rw[HE.out,HK.out,HN.out,if_neg HGd.out,if_neg Hgv.out,if_neg Hgf.out,if_neg HLv.out,if_pos HC.out]
   clear HK HN HE HI HS;have q0:=x4.c 0;have q1:=x4.c 1;have q2:=x4.c 2;go_wp2;go_ret;exact⟨Z2 HV.out.symm,hb⟩
  have CV:=Lh (IJ (l:=t.fl) (by omega))
  have HLf:Hid (¬WU t.fl=true):=by show ¬_;rw[gg];decide
  rw[gg] at CV;clear gg;have q0:=x4.c 0;have q1:=x4.c 1;have q2:=x4.c 2;go_wp2_with fail
  refine (CV.out.of hG hb).mono ?_
  rintro e w19 ⟨rfl,hb19⟩;clear q0 q1 q2;replace x4:=x4.below hb19;replace hb:=bto hb hb19;clear hb19;clear CV;cases k with
  | zero=>
   go_wp2_with fail;refine Zx (by kernel_rfl) (by kernel_rfl) ?_
   iterate 3 refine PeV ?_
   iterate 9 refine PeO ?_
   iterate 2 refine PeV ?_
   refine ZY (fun ρ w20 hF=>?_)
   have hbF:=hF.below;clear hF;replace x4:=x4.below hbF;replace hb:=bto hb hbF;clear hbF;have hcn:=PS (v:=val t.vl);obtain⟨c1,hc1⟩:∃c1,ZH (val t.vl) 0=c1:=⟨_,rfl⟩
   rw[hc1] at hcn;have CA:=Lh (ZF (l:=t.vl) (l':=[]) (by omega) (by decide) hc1)
   clear hc1
   by_cases gn:val t.vl<0
   ·have f3:decide (c1<0)=true:=Dt (hcn.1.2 gn);have HC:=Lh gn;clear gn hcn;have q0:=x4.c 0;have q1:=x4.c 1;have q2:=x4.c 2;go_wp2_with fail
    refine (CA.out.of hG hb).mono ?_
    rintro e w20 ⟨rfl,hb20⟩;clear q0 q1 q2;replace x4:=x4.below hb20;replace hb:=bto hb hb20;clear hb20;have HV:Hid (Wn ts=2):=by show _=_;rw[HE.out,HK.out,HN.out,if_neg HGd.out,if_neg Hgv.out,if_neg Hgf.out,if_neg HLv.out,if_neg HLf.out,if_neg (show ¬Nj (XY ts 0) t.day=true from fun h=>by cases h),if_pos HC.out]
    clear HK HN HE HI HS;have q0:=x4.c 0;have q1:=x4.c 1;have q2:=x4.c 2;go_wp2;go_ret;exact⟨Z2 HV.out.symm,hb⟩
   have f3:decide (c1<0)=false:=Df (fun h=>gn (hcn.1.1 h))
   have HGn:=Lh gn;clear gn hcn
   by_cases gl:0+1<n
   rotate_left
   ·have HV:Hid (UI none ts=UI (XY ts (0+1)) (ts.drop (0+1))):=by show _=_;rw[HK.out,HN.out,if_neg HGd.out,if_neg Hgv.out,if_neg Hgf.out,if_neg HLv.out,if_neg HLf.out,if_neg (show ¬Nj (XY ts 0) t.day=true from fun h=>by cases h),if_neg (show ¬val t.vl<0 from by have:=HGn.out;omega),if_neg (fun h=>gl h.1)]
    have f4:decide (((0:Nat):Int)+1<(n:Int))=false:=Df (by omega)
    clear HK HN;have q0:=x4.c 0;have q1:=x4.c 1;have q2:=x4.c 2;go_wp2_with fail
    refine (CA.out.of hG hb).mono ?_
    rintro e w21 ⟨rfl,hb21⟩;clear q0 q1 q2;replace x4:=x4.below hb21;replace hb:=bto hb hb21;clear hb21;have q0:=x4.c 0;have q1:=x4.c 1;have q2:=x4.c 2;go_wp2;go_roundw
    case rel=>exact⟨0+1,by omega,by go_num,HV.out,hb⟩
    case measure=>simp[intOf];omega
   have CB:=Lh (Jv t hv40 hf40);have hyl:(canon (val t.vl+val t.fl)).length<=100:=Nt (Zu _ 62 (by have h1:=Zw hv40;have h2:=Zw hf40;have h3:=Int.natAbs_add_le (val t.vl) (val t.fl);have h4:(10:Nat) ^ 60+10 ^ 60<=10 ^ 62:=(by decide);omega)) (by decide)
   have hcm:=PS (v:=val t.vl+val t.fl);obtain⟨c2,hc2⟩:∃c2,ZH (val t.vl+val t.fl) 0=c2:=⟨_,rfl⟩
   rw[hc2] at hcm;have CE:=Lh (ZF (l:=canon (val t.vl+val t.fl)) (l':=[]) (by omega) (by decide) (c:=c2) (by rw[Zm];exact hc2))
   clear hc2
   by_cases gs:val t.vl+val t.fl<=0
   ·have f5:decide (c2<=0)=true:=Dt (hcm.2.2 gs);have HC:=Lh (And.intro gl gs);generalize canon (val t.vl+val t.fl)=yy at *;clear gs hcm;have q0:=x4.c 0;have q1:=x4.c 1;have q2:=x4.c 2;go_wp2_with fail
    refine (CA.out.of hG hb).mono ?_
    rintro e w22 ⟨rfl,hb22⟩;clear q0 q1 q2;replace x4:=x4.below hb22;replace hb:=bto hb hb22;clear hb22;have q0:=x4.c 0;have q1:=x4.c 1;have q2:=x4.c 2;go_wp2_with fail
    refine (CB.out.of hG hb).mono ?_
    rintro e w23 ⟨rfl,hb23⟩;clear q0 q1 q2;replace x4:=x4.below hb23;replace hb:=bto hb hb23;clear hb23;have q0:=x4.c 0;have q1:=x4.c 1;have q2:=x4.c 2;go_wp2_with fail
    refine (CE.out.of hG hb).mono ?_
    rintro e w24 ⟨rfl,hb24⟩;clear q0 q1 q2;replace x4:=x4.below hb24;replace hb:=bto hb hb24;clear hb24;have HV:Hid (Wn ts=2):=by show _=_;rw[HE.out,HK.out,HN.out,if_neg HGd.out,if_neg Hgv.out,if_neg Hgf.out,if_neg HLv.out,if_neg HLf.out,if_neg (show ¬Nj (XY ts 0) t.day=true from fun h=>by cases h),if_neg (show ¬val t.vl<0 from by have:=HGn.out;omega),if_pos HC.out]
    clear HK HN HE HI HS;have q0:=x4.c 0;have q1:=x4.c 1;have q2:=x4.c 2;go_wp2;go_ret;exact⟨Z2 HV.out.symm,hb⟩
   have HV:Hid (UI none ts=UI (XY ts (0+1)) (ts.drop (0+1))):=by show _=_;rw[HK.out,HN.out,if_neg HGd.out,if_neg Hgv.out,if_neg Hgf.out,if_neg HLv.out,if_neg HLf.out,if_neg (show ¬Nj (XY ts 0) t.day=true from fun h=>by cases h),if_neg (show ¬val t.vl<0 from by have:=HGn.out;omega),if_neg (fun h=>gs h.2)]
   have f5:decide (c2<=0)=false:=Df (fun h=>gs (hcm.2.1 h))
   generalize canon (val t.vl+val t.fl)=yy at *;clear gs hcm HK HN;have q0:=x4.c 0;have q1:=x4.c 1;have q2:=x4.c 2;go_wp2_with fail
   refine (CA.out.of hG hb).mono ?_
   rintro e w25 ⟨rfl,hb25⟩;clear q0 q1 q2;replace x4:=x4.below hb25;replace hb:=bto hb hb25;clear hb25;have q0:=x4.c 0;have q1:=x4.c 1;have q2:=x4.c 2;go_wp2_with fail
   refine (CB.out.of hG hb).mono ?_
   rintro e w26 ⟨rfl,hb26⟩;clear q0 q1 q2;replace x4:=x4.below hb26;replace hb:=bto hb hb26;clear hb26;have q0:=x4.c 0;have q1:=x4.c 1;have q2:=x4.c 2;go_wp2_with fail
   refine (CE.out.of hG hb).mono ?_
   rintro e w27 ⟨rfl,hb27⟩;clear q0 q1 q2;replace x4:=x4.below hb27;replace hb:=bto hb hb27;clear hb27;have q0:=x4.c 0;have q1:=x4.c 1;have q2:=x4.c 2;go_wp2;go_roundw
   case rel=>exact⟨0+1,by omega,by go_num,HV.out,hb⟩
   case measure=>simp[intOf];omega
  | succ k'=>
   obtain⟨u,hu⟩:∃u,ts[k']?=some u:=⟨_,List.getElem?_eq_getElem (by omega)⟩
   obtain⟨b',o',hA',hbs',r0,-,-⟩:=(HI.out.below hb) k' u hu;obtain⟨rfl,rfl⟩:b=b'/\o=o':=by injection hA' with hA';injection hA' with h1 h2;exact⟨h1,h2⟩
   have hpd:XY ts (k'+1)=some u.day:=by show (ts[k']?).map (·.day)=_;rw[hu];rfl
   have HPd:=Lh hpd;have hwr:IntKind.i64.wrap (k':Int)=(k':Int):=Go.IntWalk.i64_in _ (by omega)
   have hkn:k'<n:=by omega
   clear hu hA' hpd hbs'
   by_cases go:t.day<=u.day
   ·have f6:decide (t.day<=u.day)=true:=Dt go;have HB:Hid (Nj (XY ts (k'+1)) t.day=true):=by show _=_;rw[HPd.out];exact f6
    have hbs2:=EK hbs x4;go_wp2_with fail;refine Zx (by kernel_rfl) (by kernel_rfl) ?_
    refine PeV ?_;refine PkV (.bool true) (fun _=>rfl) (fun ρ w hw=>by go_simp;first|done|omega|(simp;omega)) ?_
    iterate 2 refine PeV ?_
    refine PeW (fun ρ w hw=>by have q0:=(x4.below hw).c 0;go_simp;try rfl) ?_
    iterate 5 refine PeV ?_
    refine PeW (fun ρ w hw=>by have q0:=(hw.cell (p:=⟨b,o+k'*3,none⟩) hbs2).trans r0;go_simp;try rfl) ?_
    iterate 3 refine PeV ?_
    refine ZY (fun ρ w20 hF=>?_)
    have hbF:=hF.below;clear hF;replace x4:=x4.below hbF;replace hb:=bto hb hbF;clear hbF;clear r0 hbs2;have HV:Hid (Wn ts=8):=by show _=_;rw[HE.out,HK.out,HN.out,if_neg HGd.out,if_neg Hgv.out,if_neg Hgf.out,if_neg HLv.out,if_neg HLf.out,if_pos HB.out]
    clear HK HN HE HI HS;have q0:=x4.c 0;have q1:=x4.c 1;have q2:=x4.c 2;go_wp2;go_ret;exact⟨Z2 HV.out.symm,hb⟩
   have f6:decide (t.day<=u.day)=false:=Df go;have HB:Hid (¬Nj (XY ts (k'+1)) t.day=true):=by show ¬_;rw[HPd.out];exact fun h=>go (of_decide_eq_true h)
   have hbs2:=EK hbs x4;go_wp2_with fail;refine Zx (by kernel_rfl) (by kernel_rfl) ?_
   refine PeV ?_;refine PkV (.bool true) (fun _=>rfl) (fun ρ w hw=>by go_simp;first|done|omega|(simp;omega)) ?_
   iterate 2 refine PeV ?_
   refine PeW (fun ρ w hw=>by have q0:=(x4.below hw).c 0;go_simp;try rfl) ?_
   iterate 5 refine PeV ?_
   refine PeW (fun ρ w hw=>by have q0:=(hw.cell (p:=⟨b,o+k'*3,none⟩) hbs2).trans r0;go_simp;try rfl) ?_
   iterate 3 refine PeV ?_
   refine ZY (fun ρ w20 hF=>?_)
   have hbF:=hF.below;clear hF;replace x4:=x4.below hbF;replace hb:=bto hb hbF;clear hbF;clear r0 hbs2;have hcn:=PS (v:=val t.vl);obtain⟨c1,hc1⟩:∃c1,ZH (val t.vl) 0=c1:=⟨_,rfl⟩
   rw[hc1] at hcn;have CA:=Lh (ZF (l:=t.vl) (l':=[]) (by omega) (by decide) hc1)
   clear hc1
   by_cases gn:val t.vl<0
   ·have f3:decide (c1<0)=true:=Dt (hcn.1.2 gn);have HC:=Lh gn;clear gn hcn;have q0:=x4.c 0;have q1:=x4.c 1;have q2:=x4.c 2;go_wp2_with fail
    refine (CA.out.of hG hb).mono ?_
    rintro e w28 ⟨rfl,hb28⟩;clear q0 q1 q2;replace x4:=x4.below hb28;replace hb:=bto hb hb28;clear hb28;have HV:Hid (Wn ts=2):=by show _=_;rw[HE.out,HK.out,HN.out,if_neg HGd.out,if_neg Hgv.out,if_neg Hgf.out,if_neg HLv.out,if_neg HLf.out,if_neg HB.out,if_pos HC.out]
    clear HK HN HE HI HS;have q0:=x4.c 0;have q1:=x4.c 1;have q2:=x4.c 2;go_wp2;go_ret;exact⟨Z2 HV.out.symm,hb⟩
   have f3:decide (c1<0)=false:=Df (fun h=>gn (hcn.1.1 h))
   have HGn:=Lh gn;clear gn hcn
   by_cases gl:(k'+1)+1<n
   rotate_left
   ·have HV:Hid (UI none ts=UI (XY ts ((k'+1)+1)) (ts.drop ((k'+1)+1))):=by show _=_;rw[HK.out,HN.out,if_neg HGd.out,if_neg Hgv.out,if_neg Hgf.out,if_neg HLv.out,if_neg HLf.out,if_neg HB.out,if_neg (show ¬val t.vl<0 from by have:=HGn.out;omega),if_neg (fun h=>gl h.1)]
    have f4:decide ((((k'+1):Nat):Int)+1<(n:Int))=false:=Df (by omega)
    clear HK HN;have q0:=x4.c 0;have q1:=x4.c 1;have q2:=x4.c 2;go_wp2_with fail
    refine (CA.out.of hG hb).mono ?_
    rintro e w29 ⟨rfl,hb29⟩;clear q0 q1 q2;replace x4:=x4.below hb29;replace hb:=bto hb hb29;clear hb29;have q0:=x4.c 0;have q1:=x4.c 1;have q2:=x4.c 2;go_wp2;go_roundw
    case rel=>exact⟨(k'+1)+1,by omega,by go_num,HV.out,hb⟩
    case measure=>simp[intOf];omega
   have CB:=Lh (Jv t hv40 hf40);have hyl:(canon (val t.vl+val t.fl)).length<=100:=Nt (Zu _ 62 (by have h1:=Zw hv40;have h2:=Zw hf40;have h3:=Int.natAbs_add_le (val t.vl) (val t.fl);have h4:(10:Nat) ^ 60+10 ^ 60<=10 ^ 62:=(by decide);omega)) (by decide)
   have hcm:=PS (v:=val t.vl+val t.fl);obtain⟨c2,hc2⟩:∃c2,ZH (val t.vl+val t.fl) 0=c2:=⟨_,rfl⟩
   rw[hc2] at hcm;have CE:=Lh (ZF (l:=canon (val t.vl+val t.fl)) (l':=[]) (by omega) (by decide) (c:=c2) (by rw[Zm];exact hc2))
   clear hc2
   by_cases gs:val t.vl+val t.fl<=0
   ·have f5:decide (c2<=0)=true:=Dt (hcm.2.2 gs);have HC:=Lh (And.intro gl gs);generalize canon (val t.vl+val t.fl)=yy at *;clear gs hcm;have q0:=x4.c 0;have q1:=x4.c 1;have q2:=x4.c 2;go_wp2_with fail
    refine (CA.out.of hG hb).mono ?_
    rintro e w30 ⟨rfl,hb30⟩;clear q0 q1 q2;replace x4:=x4.below hb30;replace hb:=bto hb hb30;clear hb30;have q0:=x4.c 0;have q1:=x4.c 1;have q2:=x4.c 2;go_wp2_with fail
    refine (CB.out.of hG hb).mono ?_
    rintro e w31 ⟨rfl,hb31⟩;clear q0 q1 q2;replace x4:=x4.below hb31;replace hb:=bto hb hb31;clear hb31;have q0:=x4.c 0;have q1:=x4.c 1;have q2:=x4.c 2;go_wp2_with fail
    refine (CE.out.of hG hb).mono ?_
    rintro e w32 ⟨rfl,hb32⟩;clear q0 q1 q2;replace x4:=x4.below hb32;replace hb:=bto hb hb32;clear hb32;have HV:Hid (Wn ts=2):=by show _=_;rw[HE.out,HK.out,HN.out,if_neg HGd.out,if_neg Hgv.out,if_neg Hgf.out,if_neg HLv.out,if_neg HLf.out,if_neg HB.out,if_neg (show ¬val t.vl<0 from by have:=HGn.out;omega),if_pos HC.out]
    clear HK HN HE HI HS;have q0:=x4.c 0;have q1:=x4.c 1;have q2:=x4.c 2;go_wp2;go_ret;exact⟨Z2 HV.out.symm,hb⟩
   have HV:Hid (UI none ts=UI (XY ts ((k'+1)+1)) (ts.drop ((k'+1)+1))):=by show _=_;rw[HK.out,HN.out,if_neg HGd.out,if_neg Hgv.out,if_neg Hgf.out,if_neg HLv.out,if_neg HLf.out,if_neg HB.out,if_neg (show ¬val t.vl<0 from by have:=HGn.out;omega),if_neg (fun h=>gs h.2)]
   have f5:decide (c2<=0)=false:=Df (fun h=>gs (hcm.2.1 h))
   generalize canon (val t.vl+val t.fl)=yy at *;clear gs hcm HK HN;have q0:=x4.c 0;have q1:=x4.c 1;have q2:=x4.c 2;go_wp2_with fail
   refine (CA.out.of hG hb).mono ?_
   rintro e w33 ⟨rfl,hb33⟩;clear q0 q1 q2;replace x4:=x4.below hb33;replace hb:=bto hb hb33;clear hb33;have q0:=x4.c 0;have q1:=x4.c 1;have q2:=x4.c 2;go_wp2_with fail
   refine (CB.out.of hG hb).mono ?_
   rintro e w34 ⟨rfl,hb34⟩;clear q0 q1 q2;replace x4:=x4.below hb34;replace hb:=bto hb hb34;clear hb34;have q0:=x4.c 0;have q1:=x4.c 1;have q2:=x4.c 2;go_wp2_with fail
   refine (CE.out.of hG hb).mono ?_
   rintro e w35 ⟨rfl,hb35⟩;clear q0 q1 q2;replace x4:=x4.below hb35;replace hb:=bto hb hb35;clear hb35;have q0:=x4.c 0;have q1:=x4.c 1;have q2:=x4.c 2;go_wp2;go_roundw
   case rel=>exact⟨(k'+1)+1,by omega,by go_num,HV.out,hb⟩
   case measure=>simp[intOf];omega
abbrev PT:=Int×Int×Int
def Wo:List PT->List Rat
 | p::q::r=>Rat.divInt q.2.1 (p.2.1+p.2.2)::Wo (q::r)
 | _=>[]
def YN:Rat->List Rat->Rat
 | x,[]=>x
 | x,f::r=>YN (x*f) r
def Lu:List PT->Prop
 | p::q::r=>0<p.2.1+p.2.2/\Lu (q::r)
 | _=>True
theorem ND:∀(l m:List Rat) (x:Rat),YN x (l++m)=YN (YN x l) m
 | [],_,_=>rfl
 | f::r,m,x=>ND r m (x*f)
def ptZ (t:Pnt):PT:=(t.day,val t.vl,val t.fl)
def pts (ts:List Pnt):List PT:=ts.map ptZ
theorem My (ts:List Pnt):(pts ts).length=ts.length:=List.length_map _
def UpD:Option Int->List Pnt->Prop
 | _,[]=>True
 | o,p::r=>Nj o p.day=false/\UpD (some p.day) r
structure Q2 (t:Pnt):Prop where
 day : -25567<=t.day/\t.day<=84005
 cv:t.vl=canon (val t.vl)
 cf:t.fl=canon (val t.fl)
 lv:t.vl.length<=41
 lf:t.fl.length<=41
 nn:0<=val t.vl
theorem Lv {l:List UInt8} (h:¬WU l=true):l.length<=41:=by
 have h2:¬40<EI l:=fun h3=>h (Dt h3)
 cases l with
 | nil=>exact Nat.zero_le _
 | cons c t=>
  rw[List.length_cons];have e:EI (c::t)=if c.toNat=45 then (t.length:Int) else t.length+1:=rfl
  rw[e] at h2
  split at h2<;>omega
theorem IK:∀(ts:List Pnt) (o:Option Int),UI o ts=0->Lu (pts ts)/\UpD o ts/\∀t∈ts,Q2 t
 | [],_,_=>⟨trivial,trivial,fun _ h=>by cases h⟩
 | p::r,o,h=>by
  unfold UI at h
  by_cases g1:Wl p.day=false
  ·rw[if_pos g1] at h;cases h
  rw[if_neg g1] at h
  by_cases g2:p.vl=canon (val p.vl)
  rotate_left
  ·rw[if_pos g2] at h;cases h
  rw[if_neg (fun h=>h g2)] at h
  by_cases g3:p.fl=canon (val p.fl)
  rotate_left
  ·rw[if_pos g3] at h;cases h
  rw[if_neg (fun h=>h g3)] at h
  by_cases g7:WU p.vl=true
  ·rw[if_pos g7] at h;cases h
  rw[if_neg g7] at h
  by_cases g8:WU p.fl=true
  ·rw[if_pos g8] at h;cases h
  rw[if_neg g8] at h
  by_cases g4:Nj o p.day=true
  ·rw[if_pos g4] at h;cases h
  rw[if_neg g4] at h
  by_cases g5:val p.vl<0
  ·rw[if_pos g5] at h;cases h
  rw[if_neg g5] at h
  by_cases g6:r≠[]/\val p.vl+val p.fl<=0
  ·rw[if_pos g6] at h;cases h
  rw[if_neg g6] at h;obtain⟨i1,i2,i3⟩:=IK r (some p.day) h;refine⟨?_,⟨by simpa using g4,i2⟩,fun t ht=>?_⟩
  ·cases r with
   | nil=>exact trivial
   | cons q s=>
    refine⟨?_,i1⟩;show 0<val p.vl+val p.fl
    have:¬val p.vl+val p.fl<=0:=fun h=>g6 ⟨by simp,h⟩
    omega
  ·rcases List.mem_cons.1 ht with rfl|ht
   ·refine⟨?_,g2,g3,Lv g7,Lv g8,by omega⟩
    unfold Wl at g1;simp only[Bool.and_eq_false_iff,decide_eq_false_iff_not,not_or,Decidable.not_not] at g1;exact g1
   ·exact i3 t ht
theorem AM {ts:List Pnt} (h:Wn ts=0):1<=ts.length/\ts.length<=400/\Lu (pts ts)/\UpD none ts/\∀t∈ts,Q2 t:=by
 unfold Wn at h
 by_cases h0:ts.length=0
 ·rw[if_pos h0] at h;cases h
 rw[if_neg h0] at h
 by_cases h1:400<ts.length
 ·rw[if_pos h1] at h;cases h
 rw[if_neg h1] at h;exact⟨by omega,by omega,IK ts none h⟩
theorem EL (p q:PT) (r:List PT):Wo (p::q::r)=Rat.divInt q.2.1 (p.2.1+p.2.2)::Wo (q::r):=rfl
theorem SB:∀l:List PT,(Wo l).length=l.length-1
 | []=>rfl
 | [_]=>rfl
 | p::q::r=>by
  rw[EL,List.length_cons,SB (q::r)];simp
theorem GQ {ts:List Pnt} {k:Nat} {p q:Pnt} (hp:ts[k]?=some p) (hq:ts[k+1]?=some q):Wo (pts (ts.drop k))=Rat.divInt (val q.vl) (val p.vl+val p.fl)::Wo (pts (ts.drop (k+1))):=by
 obtain⟨h1,rfl⟩:=Lg.1 hp;obtain⟨h2,rfl⟩:=Lg.1 hq;rw[List.drop_eq_getElem_cons h1,List.drop_eq_getElem_cons h2];rfl
theorem EM {ts:List Pnt} {k:Nat} (h:ts.length<=k+1):Wo (pts (ts.drop k))=[]:=by
 have h1:(ts.drop k).length<=1:=by rw[List.length_drop];omega
 match hd:ts.drop k,h1 with
 | [],_=>rfl
 | [_],_=>rfl
 | _::_::_,h=>simp at h
theorem IL:∀{ts:List Pnt} {k:Nat} {p q:Pnt},Lu (pts ts)->ts[k]?=some p->ts[k+1]?=some q->0<val p.vl+val p.fl
 | [],k,p,q,_,h,_=>by simp at h
 | [a],k,p,q,_,_,h=>by simp at h
 | a::b::r,0,p,q,h,hp,_=>by
  have:a=p:=by simpa using hp
  subst this;exact h.1
 | a::b::r,k+1,p,q,h,hp,hq=>IL (ts:=b::r) (k:=k) h.2 (by simpa using hp) (by simpa using hq)
theorem EN {p q:Pnt} (h:0<val p.vl+val p.fl) (hp:Q2 p) (hq:Q2 q):Bd 42 (Rat.divInt (val q.vl) (val p.vl+val p.fl)):=by
 have a1:=Zw hq.lv;have a2:=Zw hp.lv;have a3:=Zw hp.lf;have a4:(10:Nat) ^ 41+10 ^ 41<=10 ^ 42:=by decide
 have a5:=Int.natAbs_add_le (val p.vl) (val p.fl);exact Vr (by omega) (by omega) (by omega)
theorem IM:∀{ts:List Pnt},Lu (pts ts)->(∀t∈ts,Q2 t)->∀q∈Wo (pts ts),Bd 42 q
 | [],_,_,q,h=>by cases h
 | [_],_,_,q,h=>by cases h
 | a::b::r,hp,hs,q,h=>by
  have h1:Wo (pts (a::b::r))=Rat.divInt (val b.vl) (val a.vl+val a.fl)::Wo (pts (b::r)):=rfl;rw[h1] at h;rcases List.mem_cons.1 h with rfl|h
  ·exact EN hp.1 (hs a (by simp)) (hs b (by simp))
  ·exact IM (ts:=b::r) hp.2 (fun t ht=>hs t (List.mem_cons_of_mem _ ht)) q h
theorem OC {M:Nat}:∀(l:List Rat) {x:Rat} {K:Nat},Bd K x->(∀q∈l,Bd M q)->Bd (K+M*l.length) (YN x l)
 | [],x,K,h,_=>by rw[List.length_nil,Nat.mul_zero];exact h
 | f::r,x,K,h,hl=>by
  have:=OC (M:=M) r (x:=x*f) (K:=K+M) (Zbp h (hl f (List.mem_cons_self ..))) (fun q hq=>hl q (List.mem_cons_of_mem _ hq))
  rw[List.length_cons,Nat.mul_succ,show K+(M*r.length+M)=K+M+M*r.length by omega]
  exact this
theorem Jw (l:List Rat) (x y:Rat):YN x (l++[y])=YN x l*y:=ND l [y] x
theorem Jx:Bd 1 (1:Rat):=⟨by decide,by decide⟩
theorem NE {α:Type} {T:List α} {k:Nat} {y:α} (h:T[k]?=some y):T.take (k+1)=T.take k++[y]:=by
 obtain⟨hk,rfl⟩:=Lg.1 h;exact (List.take_append_getElem hk).symm
open Go.Shelf
attribute [local go_sem] Oper.semAt_some
section
variable {w:World} {b c l i:Nat} {v u x y:Value} {cs:Array Value} {ob:Obj}
theorem Blk.setAt (h:Blk w b cs) (i:Nat) (u:Value):Blk (w.setCell ⟨b,i,none⟩ u) b (cs.setIfInBounds i u):=by
 obtain⟨t,h⟩:=h;refine⟨t,?_⟩;obtain⟨hlt,hk⟩:=Ag.1 h;show (w.heap.modify b _)[b]?=_;rw[Array.getElem?_eq_getElem (by rw[Array.size_modify];exact hlt),Array.getElem_modify_self,hk]
 simp
theorem Blk.set2 (h:Blk w b #[u,v]) (x y:Value):Blk ((w.setCell ⟨b,0,none⟩ x).setCell ⟨b,1,none⟩ y) b #[x,y]:=(h.setAt 0 x).setAt 1 y
theorem Blk.setO (h:Blk w b cs) (hn:b≠c):Blk (w.setCell ⟨c,i,none⟩ u) b cs:=by
 obtain⟨t,h⟩:=h;exact⟨t,(Below.heap_setCell w ⟨c,i,none⟩ u b hn).trans h⟩
theorem Blk.putO (h:Blk w b cs) (hn:b≠l):Blk (w.putObj l ob) b cs:=by
 obtain⟨t,h⟩:=h;exact⟨t,(World.putObj_heap_other hn).trans h⟩
theorem Blk.box (h:Blk w b #[u,v]):Xa w b u v:=⟨h.c 0,h.c 1,h.f 0,h.f 1,h.lt⟩
end
theorem XD {w W:World} {l:Nat} {ob:Obj} (h:Below w.heap.size w W) (hl:w.heap.size<=l):Below w.heap.size w (W.putObj l ob):=
 h.trans ⟨rfl,rfl,rfl,by simp,fun k hk=>World.putObj_heap_other (by omega)⟩
theorem Xn {w:World} {l c i:Nat} {u:Value} {ob:Obj} (h:w.heap[l]?=some ob) (hn:l≠c):(w.setCell ⟨c,i,none⟩ u).heap[l]?=some ob:=(Below.heap_setCell w ⟨c,i,none⟩ u l hn).trans h
theorem AN {l l':List UInt8} (hl:l.length<=1000000) (hl':l'.length<=1000000) (h0:val l'≠0) {q:Rat} (eq:Rat.divInt (val l) (val l')=q):Ret 108 #[Zg l,Zg l'] (Value.agg #[Zg (fN q),Zg (fD q)]):=fun w hG=>by
 have C1:=Lh (Zck (l:=l) (l':=l') hl hl' h0 eq);have x3:=Xa.new w (Zj) (Zj) 34;have hb:=Zh w (.cells #[Zj,Zj] 34);clear hl hl' h0 eq;go_enter func108,ntmps108;go_wp2_with fail
 refine (C1.out.of hG hb).mono ?_
 rintro e w2 ⟨rfl,hb2⟩;have x4:=Xa.new w2 (Zg (fN q)) (Zg (fD q)) 34;have hbA:=Zh w2 (.cells #[Zg (fN (q)),Zg (fD (q))] 34);replace x3:=(x3.below hb2).below hbA;replace hb:=bto hb (bto hb2 hbA);have g0:=x3.c0;have g1:=x3.c1;have g2:=x3.f0;have g3:=x3.f1;have p0:=x4.c0;have p1:=x4.c1;clear hb2 hbA;go_wp2;have hy:=x3.set (Zg (fN q)) (Zg (fD q));have d0:=hy.c0;have d1:=hy.c1;refine bodyPost_ret (v:=(Value.agg #[Zg (fN q),Zg (fD q)])) (by simp[results,results108,go_sem,d0,d1]) rfl ?_
 exact⟨rfl,ZS hb (Nl _) _ _⟩
def Jy (w:World) (gf:Nat) (lb:Array Value) (qs:List Rat) (M:Nat):Prop:=
 ∀(m lw:Nat) (S:List Rat->World->Prop),(∀ys W,S ys W->Below w.heap.size w W)->(∀ys W W',S ys W->Below W.heap.size W W'->S ys W')->
  (∀ys y W,S ys W->Bd M y->ys.length<qs.length->YieldAt Fence.wide (m-1) prog lw #[(Value.agg #[Zg (fN y),Zg (fD y)])] W fun e W'=>e=.returned (.bool true)/\S (ys++[y]) W')->
  ∀W,S [] W->CallsIn Fence.wide m prog gf (#[.func (.yield lw) #[] #[]]++lb) W fun e W'=>(∃v,e=.returned v)/\S qs W'
theorem EO (bl:Nat) (A:Option Addr) (ts:List Pnt) (n c:Nat) (w:World) (hG:Yb w) (hn:ts.length=n) (hn0:1<=n) (hn3:n<=1000) (hok:∀t∈ts,Q2 t) (hp:Lu (pts ts)) (h:NC w A ts) (hbl:Blk w bl #[.slice A n c]) :
  Jy w 107 #[.pointer (some ⟨bl,0,none⟩)] (Wo (pts ts)) 42:=by
 intro m lw S hSB hSm hY W hS;have HI:=Lh h;have HP:=Lh hp;have HS0:=Lh hok;have HB:=Lh hSB;have HM:=Lh hSm;have HY:=Lh hY;have HX:=Lh hS;have hn1:ts.length<=n:=by omega
 have hn2:n<=ts.length:=by omega
 have HFL:Hid ((Wo (pts ts)).length=n-1):=by show _=_;rw[SB,My];omega
 clear h hp hok hSB hSm hY hS hn;show CallsIn Fence.wide m prog 107 #[.func (.yield lw) #[] #[],.pointer (some ⟨bl,0,none⟩)] W _;refine callsIn_of_wp func107 rfl trivial ?_ rfl;simp only[ntmps107,List.size_toArray,List.length_cons,List.length_nil,Nat.reduceAdd,Nat.reduceSub,Array.replicate_succ,Array.replicate_zero,List.push_toArray,List.append_toArray,List.nil_append,List.cons_append]
 gi_wp2_with fail
 gi_loopw [3] (fun iv wr=>∃(k:Nat) (ys:List Rat),k+1<=n/\iv=Zi ((k:Int)+1)/\Hid (ys.length=k)/\Hid (ys++Wo (pts (ts.drop k))=Wo (pts ts))/\Hid (S ys wr)) (fun iv _=>n+1-(intOf iv).toNat)
 case atStart=>exact⟨0,[],hn0,rfl,rfl,rfl,HX.out⟩
 case round=>
  clear HX;obtain⟨k,ys,hk,rfl,HL,HQ,HX⟩:=hrel;have hb:=HB.out _ _ HX.out;have hGr:=hG.below hb;have hblk:=hbl.below hb;have q0:wr.cell? ⟨bl,0,none⟩=some (.slice A n c):=hblk.c 0
  by_cases hlk:k+1<n
  rotate_left
  ·have HE:Hid (S (Wo (pts ts)) wr):=by
    have h1:=HQ.out;rw[EM (by omega),List.append_nil] at h1
    show S _ wr;rw[<-h1];exact HX.out
   have e1:decide ((k:Int)+1<n)=false:=Df (by omega)
   clear HQ HX HL
   gi_wp2
   go_end0
   exact⟨⟨_,rfl⟩,HE.out⟩
  have e1:decide ((k:Int)+1<n)=true:=Dt (by omega)
  obtain⟨t,ht⟩:∃t,ts[k]?=some t:=⟨_,List.getElem?_eq_getElem (by omega)⟩
  obtain⟨u,hu⟩:∃u,ts[k+1]?=some u:=⟨_,List.getElem?_eq_getElem (by omega)⟩
  have oT:=HS0.out t (Lm ht);have oU:=HS0.out u (Lm hu);have hpos:=IL HP.out ht hu;have HBd:=Lh (EN hpos oT oU);have HN:=Lh (GQ ht hu);have hl1:=oT.lv;have hl2:=oT.lf;have hl3:=oU.lv;have C1:=Lh (Jv t (by omega) (by omega))
  have hyl:(canon (val t.vl+val t.fl)).length<=100:=Nt (Zu _ 62 (by have h1:=Zw (l:=t.vl) (k:=60) (by omega);have h2:=Zw (l:=t.fl) (k:=60) (by omega);have h3:=Int.natAbs_add_le (val t.vl) (val t.fl);have h4:(10:Nat) ^ 60+10 ^ 60<=10 ^ 62:=(by decide);omega)) (by decide)
  have C2:=Lh (AN (l:=u.vl) (l':=canon (val t.vl+val t.fl)) (by omega) (by omega) (by rw[Zm];omega) (show _=Rat.divInt (val u.vl) (val t.vl+val t.fl) by rw[Zm]))
  obtain⟨y,hy⟩:∃y,y=Rat.divInt (val u.vl) (val t.vl+val t.fl):=⟨_,rfl⟩
  rw[<-hy] at C2 HN HBd;obtain⟨sm,hsm⟩:∃sm,sm=canon (val t.vl+val t.fl):=⟨_,rfl⟩
  rw[<-hsm] at C1 C2;have HQ2:Hid (ys++[y]++Wo (pts (ts.drop (k+1)))=Wo (pts ts)):=by
   show _=_;rw[List.append_assoc,List.singleton_append,<-HN.out];exact HQ.out
  have HL2:Hid ((ys++[y]).length=k+1):=by show _=_;rw[List.length_append,HL.out];rfl
  have HYY:Hid (∀W,S ys W->YieldAt Fence.wide (m-1) prog lw #[(Value.agg #[Zg (fN y),Zg (fD y)])] W fun e W'=>e=.returned (.bool true)/\S (ys++[y]) W'):=fun W h1=>HY.out ys y W h1 HBd.out (by rw[HFL.out,HL.out];omega)
  obtain⟨b,o,rfl,hbs,p0,p1,p2⟩:=(HI.out.below hb) k t ht;obtain⟨b',o',hA',hbs',-,r1,-⟩:=(HI.out.below hb) (k+1) u hu;obtain⟨rfl,rfl⟩:b=b'/\o=o':=by injection hA' with hA';injection hA' with h1 h2;exact⟨h1,h2⟩
  have hwr:IntKind.i64.wrap ((k:Int)+1-1)=(k:Int):=by rw[Go.IntWalk.i64_in _ (by omega)];omega
  have hwr2:IntKind.i64.wrap (k:Int)=(k:Int):=Go.IntWalk.i64_in _ (by omega)
  have hko:k<n:=by omega
  have k0:(k:Int)+1-1=(k:Int):=by omega
  have k1:((k:Int)+1).toNat=k+1:=by omega
  have k2:(k:Int)+1<n:=by omega
  have k3:(k:Int)<n:=by omega
  have k4:0<=(k:Int)+1:=by omega
  clear ht hu oT oU hpos hl1 hl2 hl3 hyl hy hsm HBd HN HQ HL hbs' hA' hb
  gi_wp2_with fail
  refine VB (by simp) (by simp) (by kernel_rfl) (by kernel_rfl) (by kernel_rfl) (by kernel_rfl) (by kernel_rfl) ?_
  simp only[List.dropLast_cons_cons,List.dropLast_singleton,List.getLast_cons_cons,List.getLast_singleton];refine PeV ?_;refine PeW (fun ρ wz hw=>by have q0:wz.cell? ⟨bl,0,none⟩=some (.slice (some ⟨b,o,none⟩) n c):=(hblk.below hw).c 0;go_simp;try rfl) ?_
  iterate 3 refine PeV ?_
  refine PeW (fun ρ wz hw=>by have q0:=(hw.cell (p:=⟨b,o+(k+1)*3+1,none⟩) hbs).trans r1;go_simp;try rfl) ?_
  refine PeW (fun ρ wz hw=>by have q0:wz.cell? ⟨bl,0,none⟩=some (.slice (some ⟨b,o,none⟩) n c):=(hblk.below hw).c 0;go_simp;try rfl) ?_
  iterate 3 refine PeV ?_
  refine PeW (fun ρ wz hw=>by have q0:=(hw.cell (p:=⟨b,o+k*3,none⟩) hbs).trans p0;have q1:=(hw.cell (p:=⟨b,o+k*3+1,none⟩) hbs).trans p1;have q2:=(hw.cell (p:=⟨b,o+k*3+2,none⟩) hbs).trans p2;go_simp;try rfl) ?_
  refine PeC (fun wz hw=>C1.out.of hGr hw) ?_
  refine PeC (fun wz hw=>C2.out.of hGr hw) ?_
  intro ρ w21 hF;dsimp only;have HX3:=Lh (HM.out _ _ _ HX.out hF.below);clear hF HX q0 p0 p1 p2 r1 C1 C2;obtain⟨fn,tmps,assign,body,hyr,hR⟩:=HYY.out w21 HX3.out
  gi_wp2
  refine⟨fun h=>(by cases h),hR.mono ?_⟩
  rintro e W3 ⟨rfl,hS3⟩;have HX4:=Lh hS3;clear hS3 hR hyr
  gi_wp2
  go_roundw
  case rel=>exact⟨k+1,ys++[y],by omega,by go_num,HL2.out,HQ2.out,HX4.out⟩
  case measure=>simp[intOf];omega
theorem EP (A:Option Addr) (n c:Nat) (w:World) :
  Calls prog 44 #[.slice A n c] w fun e w'=>e=.returned (.func (.func 107) #[] #[.pointer (some ⟨w.heap.size,0,none⟩)])/\w'=w.alloc (.cells #[.slice A n c] 23):=by
 go_enter func44,ntmps44;go_wp2_with fail;go_ret;exact⟨rfl,rfl⟩
end Go.Proofs.YtpieeldbamklkaaGreatDoor
namespace Go.Proofs.YtpieeldbamklkaaGreatDoor
open Go.RowKit Go.Shelf Num
attribute [local go_sem] Oper.semAt_some
structure V1 (w:World) (R:Loop) (o d l M:Nat) (ys:List Rat) (W:World):Prop where
 below:Below w.heap.size w W
 loop:W.heap[l]?=some (.loop R)
 dfr:W.heap[d]?=some (.deferred (some []))
 res:Blk W w.heap.size #[Zj,Zj]
 out:Blk W o #[Zg (fN (YN 1 ys)),Zg (fD (YN 1 ys))]
 bd:∀q∈ys,Bd M q
section
variable {w W W':World} {R:Loop} {o d l M:Nat} {ys:List Rat}
theorem V1.mono (h:V1 w R o d l M ys W) (hb:Below W.heap.size W W'):V1 w R o d l M ys W':=
 ⟨bto h.below hb,(hb.block _ (Ag.1 h.loop).1).trans h.loop,(hb.block _ (Ag.1 h.dfr).1).trans h.dfr,h.res.below hb,h.out.below hb,h.bd⟩
theorem V1.done {R1 R2:Loop} (hR:R2=R) (hl:l≠d/\l≠o/\l≠w.heap.size/\w.heap.size<=l) (h:V1 w R1 o d l M ys W):V1 w R o d l M ys (W.putObj l (.loop R2)):=by
 subst hR;exact⟨XD h.below hl.2.2.2,World.putObj_heap_same (Ag.1 h.loop).1,(World.putObj_heap_other (by omega)).trans h.dfr,h.res.putO (by omega),h.out.putO (by omega),h.bd⟩
theorem V1.step (h:V1 w R o d l M ys W) {y:Rat} (hy:Bd M y) (hl:l≠o/\d≠o/\w.heap.size≠o/\w.heap.size<=o) :
  V1 w R o d l M (ys++[y]) ((W.setCell ⟨o,0,none⟩ (Zg (fN (YN 1 ys*y)))).setCell ⟨o,1,none⟩ (Zg (fD (YN 1 ys*y)))):=by
 have e:=Jw ys 1 y;refine⟨(h.below.setCell (p:=⟨_,0,none⟩) hl.2.2.2 _).setCell (p:=⟨_,1,none⟩) hl.2.2.2 _,Xn (Xn h.loop hl.1) hl.1,Xn (Xn h.dfr hl.2.1) hl.2.1,(h.res.setO hl.2.2.1).setO hl.2.2.1,?_,?_⟩
 ·rw[e];exact h.out.set2 _ _
 ·intro q hq;rcases List.mem_append.1 hq with hq|hq
  ·exact h.bd q hq
  ·rw[List.mem_singleton.1 hq];exact hy
end
theorem GR (gf:Nat) (lb:Array Value) (qs:List Rat) (M:Nat) (w:World) (hG:Yb w) (hEn:∀args w,(callFunc gf args).run prog w=.ok (.enter gf args) w) (hI:Jy w gf lb qs M) (hM:1+M*qs.length+M<=90000) :
  Calls prog 84 #[.func (.func gf) #[] lb] w fun e w'=>e=.returned (Value.agg #[Zg (fN (YN 1 qs)),Zg (fD (YN 1 qs))])/\Below w.heap.size w w':=by
 have c0:Ret 31 #[.string ⟨[49].toArray⟩] (Value.agg #[Zg (fN ((1:Rat))),Zg (fD ((1:Rat)))]):=by have h:=rOf (l:=[49]) (by decide) (z:=1) (by decide);exact h
 have C0:=Lh c0;have HI:=Lh hI;have HE:=Lh hEn;have hb0:=Zh w (.cells #[Zj,Zj] 34);clear c0 hI hEn;refine (callsIn_wide (n:=5)).1 ?_;refine callsIn_of_wp_marks func84 rfl trivial ?_ rfl;simp only[ntmps84,List.size_toArray,List.length_cons,List.length_nil,Nat.reduceAdd,Nat.reduceSub,Array.replicate_succ,Array.replicate_zero,List.push_toArray,List.append_toArray,List.nil_append,List.cons_append]
 gi_wp2_with (refine⟨trivial,?_⟩;gi_at_call 31;(with_reducible refine (callsIn_wide.2 (C0.out.of hG hb0)).mono ?_);rintro e w3 ⟨rfl,hb3⟩)
 refine VA (gf:=gf) (lb:=lb) rfl HE.out ?_;intro fn R hR;have hs3:w.heap.size+1<=w3.heap.size:=by have:=hb3.size;simpa using this
 have y2:Blk w3 w.heap.size #[Zj,Zj]:=(Blk.new w _ 34).below hb3;obtain⟨W0,hW0⟩:∃W0,W0=w3.alloc (.cells #[Zg (fN ((1:Rat))),Zg (fD ((1:Rat)))] 34):=⟨_,rfl⟩
 have hsz:W0.heap.size=w3.heap.size+1:=by rw[hW0];simp only[World.size_alloc]
 have hbA:Below w.heap.size w W0:=by rw[hW0];exact bto (bto hb0 hb3) (Zh _ _)
 have x2:Blk W0 w.heap.size #[Zj,Zj]:=by rw[hW0];exact y2.below (Zh _ _)
 have x3:Blk W0 w3.heap.size #[Zg (fN (1:Rat)),Zg (fD (1:Rat))]:=by rw[hW0];exact Blk.new _ _ _
 rw[<-hW0] at hR ⊢;clear hW0 y2;obtain⟨W1,hW1⟩:∃W1,W1=(W0.alloc (.deferred (some []))).alloc (.loop R):=⟨_,rfl⟩
 have hbB:Below W0.heap.size W0 W1:=by rw[hW1];exact bto (Zh _ _) (Zh _ _)
 have hD:W1.heap[W0.heap.size]?=some (.deferred (some [])):=by rw[hW1];exact (Below.heap_alloc _ _ _ (by simp)).trans (World.alloc_heap_new _ _)
 have hL:W1.heap[W0.heap.size+1]?=some (.loop R):=by
  rw[hW1]
  have:=World.alloc_heap_new (W0.alloc (.deferred (some []))) (.loop R)
  rwa [World.size_alloc] at this
 rw[<-hW1];obtain⟨l,hl⟩:∃l,l=W0.heap.size+1:=⟨_,rfl⟩
 obtain⟨d,hd⟩:∃d,d=W0.heap.size:=⟨_,rfl⟩
 obtain⟨o,ho⟩:∃o,o=w3.heap.size:=⟨_,rfl⟩
 rw[<-hl] at hL ⊢;rw[<-hd] at hD hR ⊢;rw[<-ho] at x3 hR;have hS0:V1 w R o d l M [] W1:=⟨bto hbA hbB,hL,hD,x2.below hbB,x3.below hbB,fun q hq=>by cases hq⟩
 have n1:l≠d/\l≠o/\l≠w.heap.size/\w.heap.size<=l:=by omega
 have n2:l≠o/\d≠o/\w.heap.size≠o/\w.heap.size<=o:=by omega
 have n3:w.heap.size<=d/\d≠w.heap.size:=by omega
 (try rw[<-ho])
 clear hW1 hbB hD hL x2 x3 hbA hsz hl hd ho hs3 hb3 C0;have hY:∀ys y W,V1 w R o d l M ys W->Bd M y->ys.length<qs.length->YieldAt Fence.wide (5-1-1) prog l #[(Value.agg #[Zg (fN y),Zg (fD y)])] W fun e W'=>e=.returned (.bool true)/\V1 w R o d l M (ys++[y]) W':=by
  intro ys y W hS hyb hlen;have hy:=run_yield (P:=prog) (args:=#[(Value.agg #[Zg (fN y),Zg (fD y)])]) hS.loop (by rw[hR];rfl)
  refine⟨R.fn,_,R.assign,R.body,hy,roundIn_of_wpIn trivial ?_⟩;have hlW:=(Ag.1 hS.loop).1;have hSa:=hS.mono (Zh W (.cells #[Zg (fN (y)),Zg (fD (y))] 34));have hbr:=run_beginRound (P:=prog) hSa.loop (by rw[hR])
  have hS1:V1 w { R with state:=.busy } o d l M ys ((W.alloc (.cells #[Zg (fN (y)),Zg (fD (y))] 34)).putObj l (.loop { R with state:=.busy })):=V1.done rfl n1 hSa
  have x4:Blk ((W.alloc (.cells #[Zg (fN (y)),Zg (fD (y))] 34)).putObj l (.loop { R with state:=.busy })) W.heap.size #[Zg (fN y),Zg (fD y)]:=(Blk.new W _ 34).putO (by omega)
  obtain⟨Wb,hWb⟩:∃Wb,Wb=(W.alloc (.cells #[Zg (fN (y)),Zg (fD (y))] 34)).putObj l (.loop { R with state:=.busy }):=⟨_,rfl⟩
  rw[<-hWb] at hbr hS1 x4;have hRe:({ { R with state:=.busy } with state:=.ready,pending:=none }:Loop)=R:=by rw[hR]
  obtain⟨R1,hR1⟩:∃R1,R1={ R with state:=.busy }:=⟨_,rfl⟩
  rw[<-hR1] at hS1 hRe;have hxb:Bd (1+M*ys.length) (YN 1 ys):=OC ys Jx hS1.bd;have hlen2:M*ys.length<=M*qs.length:=Nat.mul_le_mul_left M (by omega)
  have HS2:=Lh hS1;have HC:=Lh (Zdb (Qs hxb (by omega)) (Qs hyb (by omega)) rfl)
  have HST:Hid (∀W',V1 w R1 o d l M ys W'->V1 w R1 o d l M (ys++[y]) ((W'.setCell ⟨o,0,none⟩ (Zg (fN (YN 1 ys*y)))).setCell ⟨o,1,none⟩ (Zg (fD (YN 1 ys*y))))):=fun W' h=>h.step hyb n2
  have HBr:=Lh hbr;have HRe:=Lh hRe;obtain⟨x,hx⟩:∃x,x=YN 1 ys:=⟨_,rfl⟩
  obtain⟨z,hz⟩:∃z,z=YN 1 ys*y:=⟨_,rfl⟩
  rw[<-hz] at HC HST;have q0:Wb.cell? ⟨o,0,none⟩=some (Zg (fN x)):=by rw[hx];exact HS2.out.out.c 0
  have q1:Wb.cell? ⟨o,1,none⟩=some (Zg (fD x)):=by rw[hx];exact HS2.out.out.c 1
  rw[<-hx] at HC;have p0:Wb.cell? ⟨W.heap.size,0,none⟩=some (Zg (fN y)):=x4.c 0;have p1:Wb.cell? ⟨W.heap.size,1,none⟩=some (Zg (fD y)):=x4.c 1;have hbW:=HS2.out.below;have HX:=Lh hx;clear hWb hbr hy hS hSa hlW hS1 hRe hR1 hxb hlen hlen2 hyb x4 hx hz hS0;rw[hR]
  gi_wp2
  refine⟨_,HBr.out,?_⟩
  gi_wp2_with fail
  refine⟨trivial,?_⟩;refine (CallsIn.inRound l (callsIn_wide.2 (HC.out.of hG hbW))).mono ?_;rintro e w4 ⟨rfl,hb4⟩;have HS4:=Lh (HS2.out.mono hb4);have HGO:=Lh (HST.out _ HS4.out);have hF:=HS4.out.out.box;have g0:=hF.c0;have g1:=hF.c1;have g2:=hF.f0;have g3:=hF.f1;rw[<-HX.out] at g0 g1;clear q0 q1 p0 p1 HC hbW HS2 HS4 hb4 hF HBr HST HX
  gi_wp2
  exact⟨_,_,run_endRound (P:=prog) none HGO.out.loop,rfl,V1.done (HRe.out.trans hR) n1 HGO.out⟩
 have key:=HI.out (5-1) l (V1 w R o d l M) (fun ys W h=>h.below) (fun ys W W' h hb=>h.mono hb) hY W1 hS0
 refine key.mono ?_;rintro e W2 ⟨hv,hS2⟩;refine⟨hv,hS2.loop,?_⟩;have hS3:V1 w { R with state:=.exhausted } o d l M qs (W2.putObj l (.loop { R with state:=.exhausted })):=V1.done rfl n1 hS2
 obtain⟨W3,hW3⟩:∃W3,W3=W2.putObj l (.loop { R with state:=.exhausted }):=⟨_,rfl⟩
 rw[<-hW3] at hS3 ⊢;have hF:=hS3.out.box;have hH:=hS3.res.box;have q0:=hF.c0;have q1:=hF.c1;have g0:=hH.c0;have g1:=hH.c1;have g2:=hH.f0;have g3:=hH.f1;have hD5:=hS3.dfr;have hb5:=hS3.below;have HBk:=Lh (hS3.res.set2 (Zg (fN (YN 1 qs))) (Zg (fD (YN 1 qs))));clear hW3 hS3 key hY hS2 hS0 hv hF hH HI;obtain⟨q,hq⟩:∃q,q=YN 1 qs:=⟨_,rfl⟩
 have HQ:=Lh hq;rw[<-hq] at q0 q1 HBk;clear hq
 gi_wp2
 have hD6:=Xn (i:=1) (u:=Zg (fD q)) (Xn (i:=0) (u:=Zg (fN q)) hD5 n3.2) n3.2;have hP:=HBk.out.putO (l:=d) (ob:=.deferred none) (by omega)
 have d0:=hP.c 0;have d1:=hP.c 1;refine⟨by simp,.inl ⟨_,_,rfl,run_takeDeferred hD6,?_⟩⟩
 refine⟨(Value.agg #[Zg (fN q),Zg (fD q)]),by simp[results,results84,go_sem,d0,d1],?_⟩
 exact⟨by rw[HQ.out],XD (ZS hb5 (Nl _) _ _) n3.1⟩
theorem Yt {w w':World} {B k sz:Nat} {ty:TypeId} {v:Value} {cs:List Value} (h:w.ownsRow B ty sz v k cs) (hb:Below w.heap.size w w'):w'.ownsRow B ty sz v k cs:=by
 refine⟨h.1,?_⟩;rcases h.2 with h2|⟨g,cap,cur,e,hB,hg,r⟩
 ·exact .inl h2
 ·exact .inr ⟨g,cap,cur,e,hB,(hb.block g (Ag.1 hg).1).trans hg,r⟩
section
variable {w W W':World} {R:Loop} {d l:Nat} {ys:List Rat}
end
end Go.Proofs.YtpieeldbamklkaaGreatDoor
