/- Texts put together: Bf Bj Bn Km Kn Bo Ko Kq Zc Kr. -/
import Derived.Test.YtpieeldbamklkaaGreatDoorA9
set_option maxHeartbeats 16000000
set_option maxRecDepth 100000
namespace Go.Proofs.YtpieeldbamklkaaGreatDoor
open Go.RowKit
abbrev SV:=(Nat->Value)->Act
abbrev BV:=Nat->Option (World->Value->Prop)
inductive TG where
 | val (v:Value)
 | new (R:World->Value->Prop)
def TG.at (i:Nat) (ρ:Nat->Value):TG->Value
 | .val v=>v
 | .new _=>ρ i
def TG.bx (i:Nat) (B:BV):TG->BV
 | .val _=>B
 | .new R=>fun k=>if k=i then some R else B k
def Pi (ρ:Nat->Value) (i:Nat) (v:Value):Nat->Value:=fun k=>if k=i then v else ρ k
def MM (P:Program) (w:World) (v:Value):Result Next->Prop
 | .ok (.value u) w'=>w'=w/\u=v
 | .ok .skip w'=>w'=w/\v=undef
 | .ok (.enter f args) w'=>w'=w/\Calls P f args w (fun e w''=>e=.returned v/\Below w.heap.size w w'')
 | _=>False
def MN (P:Program) (w:World) (R:World->Value->Prop):Result Next->Prop
 | .ok (.value u) w'=>Below w.heap.size w w'/\R w' u
 | .ok (.enter f args) w'=>w'=w/\Calls P f args w (fun e w''=>∃u,e=.returned u/\Below w.heap.size w w''/\R w'' u)
 | _=>False
section
variable {P:Program} {ops:Array Oper} {md:Region.Mode} {C:World->Prop}
def XK (P:Program) (ops:Array Oper) (C:World->Prop) (o:Oper) (a:SV):TG->Prop
 | .val v=>(∀ρ,Region.wanted o (yielded ops (a ρ).tmps)=true/\∀w,C w->MM P w v ((execOp (a ρ).eval o).run P w))∨((∀ρ,Region.wanted o (yielded ops (a ρ).tmps)=false)/\v=undef)
 | .new R=>(∀w w' u,R w u->Below w.heap.size w w'->R w' u)/\∀ρ,Region.wanted o (yielded ops (a ρ).tmps)=true/\∀w,C w->MN P w R ((execOp (a ρ).eval o).run P w)
theorem XK.of_same {o:Oper} {x:TG} {a a':SV} (hy:XK P ops C o a x) (he:∀ρ,execOp (a' ρ).eval o=execOp (a ρ).eval o)
  (hw:∀ρ,Region.wanted o (yielded ops (a' ρ).tmps)=Region.wanted o (yielded ops (a ρ).tmps)):XK P ops C o a' x:=by
 cases x<;>simp only[XK,he,hw] at *<;>exact hy
def vOp (P:Program) (ops:Array Oper) (C:World->Prop) (i:Nat) (K:SV->BV->Prop) (a:SV) (B:BV):Prop:=
 match ops[i]? with
 | none=>K a B
 | some o=>∃x:TG,XK P ops C o a x/\K (fun ρ=>(a ρ).put o.dst (x.at i ρ)) (x.bx i B)
theorem Ck {i:Nat} {a:SV} {B:BV} {K K':SV->BV->Prop} (h:∀a B,K a B->K' a B) (hh:vOp P ops C i K a B):vOp P ops C i K' a B:=by
 unfold vOp at *
 split
 ·exact h _ _ (by simpa [*] using hh)
 ·rename_i o ho;simp only[ho] at hh;obtain⟨x,h1,h2⟩:=hh;exact⟨x,h1,h _ _ h2⟩
def O0 (P:Program) (md:Region.Mode) (ops:Array Oper) (C:World->Prop) (Q:SV->BV->Prop):Nat->Array Bool->SV->BV->Prop
 | 0,listed,a,B=>Region.ready md ops listed=[]/\Q a B
 | fuel+1,listed,a,B=>
  (Region.ready md ops listed=[]->Q a B)/\
  ∀i∈Region.ready md ops listed,vOp P ops C i (O0 P md ops C Q fuel (listed.setIfInBounds i true)) a B
theorem Zae {i j:Nat} (h:i≠j) (x y:TG) (B:BV):y.bx j (x.bx i B)=x.bx i (y.bx j B):=by
 cases x<;>cases y<;>try rfl
 funext k
 simp only[TG.bx]
 by_cases h1:k=j
 ·rw[if_pos h1,if_neg (by omega),if_pos h1]
 ·rw[if_neg h1]
  by_cases h2:k=i
  ·rw[if_pos h2,if_pos h2]
  ·rw[if_neg h2,if_neg h2,if_neg h1]
theorem Zaf {i j:Nat} {oi oj:Oper} {x:TG} (hij:i≠j) (hj:ops[j]?=some oj) (hap:oi.apart ops oj=true)
  (hsi:∀cs b,oi.op≠.select cs b) (hsj:∀cs b,oj.op≠.select cs b) {K:SV->BV->Prop} {a:SV} {B:BV}
  (hy:XK P ops C oi a x) (h:vOp P ops C j K (fun ρ=>(a ρ).put oi.dst (x.at i ρ)) (x.bx i B)) :
  vOp P ops C j (fun a' B'=>XK P ops C oi a' x/\K (fun ρ=>(a' ρ).put oi.dst (x.at i ρ)) (x.bx i B')) a B:=by
 obtain⟨h1,h2,h3⟩:=Oper.apart_spec hap;unfold vOp at *;simp only[hj] at *;obtain⟨y,hy',hK⟩:=h
 refine⟨y,hy'.of_same (fun ρ=>(execOp_put oj hsj (a ρ) oi.dst _ h1).symm) (fun ρ=>(wanted_put oj (a ρ) oi.dst _ h1).symm),
  hy.of_same (fun ρ=>execOp_put oi hsi (a ρ) oj.dst _ h3) (fun ρ=>wanted_put oi (a ρ) oj.dst _ h3),?_⟩
 have e1:(fun ρ=>((a ρ).put oj.dst (y.at j ρ)).put oi.dst (x.at i ρ))=fun ρ=>((a ρ).put oi.dst (x.at i ρ)).put oj.dst (y.at j ρ):=by
  funext ρ;exact (Act.put_comm (a ρ) _ _ h2).symm
 rw[e1,<-Zae hij];exact hK
theorem MO {Q:SV->BV->Prop} {i:Nat} {oi:Oper} {x:TG} (hi:ops[i]?=some oi) (hsel:∀(j:Nat) (o:Oper) cs b,ops[j]?=some o->o.op≠.select cs b) :
  ∀(fuel:Nat) (listed:Array Bool) (a:SV) (B:BV),
   (∀j oj,ops[j]?=some oj->j≠i->listed.getD j true=false->(∀e∈oj.after,Region.binds md e=true->e.on≠i)->oi.apart ops oj=true)->
   i∈Region.ready md ops listed->XK P ops C oi a x->
   O0 P md ops C Q fuel (listed.setIfInBounds i true) (fun ρ=>(a ρ).put oi.dst (x.at i ρ)) (x.bx i B)->O0 P md ops C Q (fuel+1) listed a B:=by
 intro fuel
 induction fuel with
 | zero=>
  intro listed a B _ hr hy H;refine⟨fun h=>(by rw[h] at hr;cases hr),fun j hj=>?_⟩
  by_cases hji:j=i
  ·subst hji;unfold vOp;simp only[hi];exact⟨x,hy,H⟩
  ·have:=ready_mono hj hji
   rw[H.1] at this;cases this
 | succ fuel ih=>
  intro listed a B hfree hr hy H;refine⟨fun h=>(by rw[h] at hr;cases hr),fun j hj=>?_⟩
  by_cases hji:j=i
  ·subst hji;unfold vOp;simp only[hi];exact⟨x,hy,H⟩
  ·have h1:=H.2 j (ready_mono hj hji);obtain⟨hjun,oj,hoj,hall⟩:=mem_ready.1 hj;have hnot:∀e∈oj.after,Region.binds md e=true->e.on≠i:=fun e he hb heq=>by
    have h1:=hall e he hb;have h0:=(mem_ready.1 hr).1;rw[heq] at h1;rcases Nat.lt_or_ge i listed.size with h'|h'
    ·simp[h'] at h0 h1;rw[h0] at h1;cases h1
    ·simp[Array.getElem?_eq_none h'] at h1
   have h2:=Zaf (Ne.symm hji) hoj (hfree j oj hoj hji hjun hnot) (fun cs b=>hsel i oi cs b hi) (fun cs b=>hsel j oj cs b hoj) hy h1
   have hfree':∀k ok,ops[k]?=some ok->k≠i->(listed.setIfInBounds j true).getD k true=false->
     (∀e∈ok.after,Region.binds md e=true->e.on≠i)->oi.apart ops ok=true:=fun k ok hk hki hun hno=>by
    refine hfree k ok hk hki ?_ hno
    by_cases hjk:j=k
    ·subst hjk;exact hjun
    ·rw[getD_set_ne true hjk] at hun;exact hun
   refine Ck (fun a' B' h3=>ih (listed.setIfInBounds j true) a' B' hfree' (ready_mono hr (Ne.symm hji)) h3.1 ?_) h2
   rw[Array.setIfInBounds_comm _ _ hji];exact h3.2
def Ww (P:Program) (ops:Array Oper) (C:World->Prop) (Q:SV->BV->Prop):List Oper->Nat->SV->BV->Prop
 | [],_,a,B=>Q a B
 | o::rest,i,a,B=>∃x:TG,XK P ops C o a x/\Ww P ops C Q rest (i+1) (fun ρ=>(a ρ).put o.dst (x.at i ρ)) (x.bx i B)
theorem O3 {Q:SV->BV->Prop} (hs:Region.noSelect ops=true):∀(l:List Oper) (k:Nat) (listed:Array Bool) (a:SV) (B:BV),(∀j,l[j]?=ops[k+j]?)->
  Region.lexFrom md ops l.length k listed=true->Ww P ops C Q l k a B->O0 P md ops C Q l.length listed a B
 | [],_,_,_,_,_,hB,h=>⟨by simpa [Region.lexFrom] using hB,h⟩
 | o::l,k,listed,a,B,hl,hB,h=>by
  have h0:ops[k]?=some o:=by simpa using (hl 0).symm
  simp only[List.length_cons,Region.lexFrom,Bool.and_eq_true] at hB;obtain⟨⟨hr,hf⟩,hB'⟩:=hB;obtain⟨x,hy,hK⟩:=h;exact MO h0 (Region.noSelect_spec hs) l.length listed a B (Region.free_spec h0 hf) (by simpa using hr) hy
   (O3 hs l (k+1) _ _ _ (fun j=>by have:=hl (j+1);simpa [Nat.add_assoc,Nat.add_comm 1 j] using this) hB' hK)
structure UI (w0:World) (ρ:Nat->Value) (B:BV) (w:World):Prop where
 below:Below w0.heap.size w0 w
 box:∀i R,B i=some R->R w (ρ i)/\∀w w' u,R w u->Below w.heap.size w w'->R w' u
theorem UI.go {w0 w w':World} {ρ:Nat->Value} {B:BV} (h:UI w0 ρ B w) (hb:Below w.heap.size w w'):UI w0 ρ B w':=
 ⟨h.below.trans (hb.mono h.below.size),fun i R hi=>⟨(h.box i R hi).2 _ _ _ (h.box i R hi).1 hb,(h.box i R hi).2⟩⟩
theorem UI.new {w0 w w':World} {ρ:Nat->Value} {B:BV} (h:UI w0 ρ B w) (hb:Below w.heap.size w w') (i:Nat) {R:World->Value->Prop} {u:Value} (hR:R w' u) (hs:∀w w' u,R w u->Below w.heap.size w w'->R w' u) :
  UI w0 (Pi ρ i u) ((TG.new R).bx i B) w':=by
 have h':=h.go hb;refine⟨h'.below,fun k R' hk=>?_⟩
 simp only[TG.bx,Pi] at *
 by_cases hki:k=i
 ·rw[if_pos hki] at hk ⊢;injection hk with hk
  subst hk;exact⟨hR,hs⟩
 ·rw[if_neg hki] at hk ⊢;exact h'.box k R' hk
def Hm (listed:Array Bool) (a:SV):Prop:=∀(i:Nat) (ρ:Nat->Value) (b:Value),listed.getD i true=false->a (Pi ρ i b)=a ρ
theorem Hm.put {listed:Array Bool} {a:SV} (h:Hm listed a) {i:Nat} (hi:listed.getD i true=false) (d:Option Tmp) (x:TG) :
  Hm (listed.setIfInBounds i true) (fun ρ=>(a ρ).put d (x.at i ρ)):=by
 intro k ρ b hk;have hlt:i<listed.size:=by
  rcases Nat.lt_or_ge i listed.size with h'|h'
  ·exact h'
  ·simp[Array.getElem?_eq_none h'] at hi
 have hki:k≠i:=fun e=>by subst e;simp[hlt] at hk
 have hk':listed.getD k true=false:=by rwa [getD_set_ne true (Ne.symm hki)] at hk
 show (a (Pi ρ k b)).put d _=_;rw[h k ρ b hk'];cases x with
 | val v=>rfl
 | new R=>
  show (a ρ).put d (Pi ρ k b i)=(a ρ).put d (ρ i)
  have:Pi ρ k b i=ρ i:=if_neg (Ne.symm hki)
  rw[this]
theorem YE {w0:World} {Q:SV->BV->Prop} {Q':Exit->Act->World->Prop} (hQ:∀a B ρ w,UI w0 ρ B w->Q a B->Q' .normal (a ρ) w) :
  ∀(fuel:Nat) (listed:Array Bool) (a:SV) (B:BV) (ρ:Nat->Value) (w:World),UI w0 ρ B w->Hm listed a->
  O0 P md ops (fun w=>Below w0.heap.size w0 w) Q fuel listed a B->wpAny P md ops Q' fuel listed (a ρ) w
 | 0,_,_,_,_,_,hf,_,h=>⟨h.1,hQ _ _ _ _ hf h.2⟩
 | fuel+1,listed,a,B,ρ,w,hf,hfr,h=>by
  refine⟨fun h0=>hQ _ _ _ _ hf (h.1 h0),fun i hi=>?_⟩
  have h1:=h.2 i hi;obtain⟨hun,o,ho,_⟩:=mem_ready.1 hi;unfold vOp at h1;simp only[ho] at h1;obtain⟨x,hy,hK⟩:=h1;have hfr':=hfr.put hun o.dst x;unfold wpOp;simp only[ho];cases x with
  | val v=>
   simp only[XK] at hy;rcases hy with hy|⟨hw,rfl⟩
   ·obtain⟨hw,hr⟩:=hy ρ;simp only[hw,if_true];refine .inl ?_;have h3:=hr w hf.below;unfold Oper.wp;generalize (execOp (a ρ).eval o).run P w=r at *;cases r with
    | ok n w'=>
     cases n<;>simp only[MM] at h3<;>simp only[Oper.upon]
     case value u=>
      obtain⟨e1,e2⟩:=h3;rw[e1,e2];exact YE hQ fuel _ _ B ρ w hf hfr' hK
     case skip=>
      obtain⟨e1,e2⟩:=h3;rw[e1,<-e2];exact YE hQ fuel _ _ B ρ w hf hfr' hK
     case enter f args=>
      obtain⟨e1,hc⟩:=h3;rw[e1];exact hc.mono fun e w'' ⟨he,hw''⟩=>by subst he;exact YE hQ fuel _ _ B ρ w'' (hf.go hw'') hfr' hK
    | halt x w'=>simp only[MM] at h3
   ·simp only[hw ρ,Bool.false_eq_true,if_false];exact YE hQ fuel _ _ B ρ w hf hfr' hK
  | new R=>
   simp only[XK] at hy;obtain⟨hs,hy⟩:=hy;obtain⟨hw,hr⟩:=hy ρ;simp only[hw,if_true];refine .inl ?_;have h3:=hr w hf.below;have key:∀u w',Below w.heap.size w w'->R w' u->wpAny P md ops Q' fuel (listed.setIfInBounds i true) ((a ρ).put o.dst u) w':=fun u w' hb hR=>by
    have h5:=YE hQ fuel _ _ _ (Pi ρ i u) w' (hf.new hb i hR hs) hfr' hK;have e1:(a (Pi ρ i u)).put o.dst ((TG.new R).at i (Pi ρ i u))=(a ρ).put o.dst u:=by
     show (a (Pi ρ i u)).put o.dst (Pi ρ i u i)=_;rw[hfr i ρ _ hun]
     have:Pi ρ i u i=u:=if_pos rfl
     rw[this]
    rwa [e1] at h5
   unfold Oper.wp;generalize (execOp (a ρ).eval o).run P w=r at *;cases r with
   | ok n w'=>
    cases n<;>simp only[MN] at h3<;>simp only[Oper.upon]
    case value u=>exact key u w' h3.1 h3.2
    case enter f args=>
     obtain⟨e1,hc⟩:=h3;rw[e1];exact hc.mono fun e w'' ⟨u,he,hw'',hR⟩=>by subst he;exact key u w'' hw'' hR
   | halt x w'=>simp only[MN] at h3
theorem QF {id:Nat} {Q:Exit->Act->World->Prop} {a:Act} {w:World} {l:List Oper} {s1 s2:Oper} (hm:P.follows .mixedOrders=true) (hB:Region.lexB .any l.toArray=true) (hU1:Yr .any l s1=true) (hU2:Yr .any (l++[s1]) s2=true) (hg:(l++[s1]++[s2]).all (fun o=>o.guard.isNone)=true)
  (h:Ww P l.toArray (fun w'=>Below w.heap.size w w') (fun a' B=>∀ρ w',UI w ρ B w'->wpList P (l++[s1]++[s2]).toArray Q [s1,s2] (a' ρ) w') l 0 (fun _=>a) (fun _=>none)):(Code.region id (l++[s1]++[s2]).toArray true).wp P Q a w:=by
 simp only[Region.lexB,Bool.and_eq_true] at hB;have hgs:∀o∈l++[s1]++[s2],o.guard=none:=fun o ho=>by
  have:=(List.all_eq_true.1 hg) o ho
  simpa using this
 refine wp_region_any hm ?_;have hf:UI w (fun _=>undef) (fun _=>none) { w with drawn:=w.drawn+1 }:=
  ⟨⟨rfl,rfl,rfl,Nl _,fun _ _=>rfl⟩,fun _ _ h=>(by cases h)⟩
 have h1:=O3 (C:=fun w'=>Below w.heap.size w w') (md:=.any) hB.1 l 0 (Array.replicate l.toArray.size false) (fun _=>a) (fun _=>none) (by simp) (by simpa using hB.2) h
 have g1:s1.guard=none:=hgs s1 (by simp)
 have g2:s2.guard=none:=hgs s2 (by simp)
 have h2:=YE (P:=P) (md:=.any) (Q:=fun a' B=>∀ρ w',UI w ρ B w'->wpList P (l++[s1]++[s2]).toArray Q [s1,s2] (a' ρ) w') (Q':=Exit.then (wpList P (l++[s1]).toArray (Exit.then (wpList P (l++[s1]++[s2]).toArray Q [s2]) Q) [s1]) (Exit.then (wpList P (l++[s1]++[s2]).toArray Q [s2]) Q)) (fun a' B ρ w' hf' h'=>by
  have h3:wpList P (l++[s1]++[s2]).toArray Q [s1,s2] (a' ρ) w':=h' ρ w' hf';show wpList P (l++[s1]).toArray _ [s1] (a' ρ) w';rw[wpList] at h3 ⊢;simp only[Z5 g1,if_true] at h3 ⊢;rcases h3 with h3|h3
  ·exact .inl (Oper.wp_mono2 (fun a w h=>h) (fun _ _ _ h=>h) (fun ⟨a,w,h⟩=>⟨a,w,h⟩) h3)
  ·exact .inr ⟨h3.1,(fun ⟨a,w,h⟩=>⟨a,w,h⟩) h3.2⟩) l.toArray.size _ (fun _=>a) (fun _=>none) (fun _=>undef) _ hf (fun _ _ _ _=>rfl) (by simpa using h1)
 have h3:=XX (P:=P) (md:=.any) hU1 g1 (fun o ho=>hgs o (by simp[ho])) _ _ _ a _ (WA l s1) h2
 have h4:=XX (P:=P) (md:=.any) hU2 g2 (fun o ho=>hgs o (List.mem_append_left _ ho)) _ _ _ a _ (WA (l++[s1]) s2) h3
 simpa using h4
theorem Qc {id:Nat} {Q:Exit->Act->World->Prop} {a:Act} {w:World} {L:List Oper} (hne:L≠[]) (hne2:L.dropLast≠[]) (hm:P.follows .mixedOrders=true) (hB:Region.lexB .any L.dropLast.dropLast.toArray=true) (hU1:Yr .any L.dropLast.dropLast (L.dropLast.getLast hne2)=true) (hU2:Yr .any L.dropLast (L.getLast hne)=true) (hg:L.all (fun o=>o.guard.isNone)=true)
  (h:Ww P L.dropLast.dropLast.toArray (fun w'=>Below w.heap.size w w') (fun a' B=>∀ρ w',UI w ρ B w'->wpList P L.toArray Q [L.dropLast.getLast hne2,L.getLast hne] (a' ρ) w') L.dropLast.dropLast 0 (fun _=>a) (fun _=>none)):(Code.region id L.toArray true).wp P Q a w:=by
 have e1:L.dropLast.dropLast++[L.dropLast.getLast hne2]=L.dropLast:=List.dropLast_concat_getLast hne2;have e2:L.dropLast++[L.getLast hne]=L:=List.dropLast_concat_getLast hne
 have:=QF (P:=P) (id:=id) (Q:=Q) (a:=a) (w:=w) (l:=L.dropLast.dropLast) (s1:=L.dropLast.getLast hne2) (s2:=L.getLast hne) hm hB hU1 (by rw[e1];exact hU2) (by rw[e1,e2];exact hg) (by rw[e1,e2];exact h)
 rwa [e1,e2] at this
variable {Q:SV->BV->Prop} {o:Oper} {rest:List Oper} {i:Nat} {a:SV} {B:BV}
theorem TA (v:Value) (hw:∀ρ,Region.wanted o (yielded ops (a ρ).tmps)=true) (h:∀ρ w,C w->(execOp (a ρ).eval o).run P w=.ok (.value v) w)
  (hn:Ww P ops C Q rest (i+1) (fun ρ=>(a ρ).put o.dst v) B):Ww P ops C Q (o::rest) i a B:=
 ⟨.val v,.inl fun ρ=>⟨hw ρ,fun w hc=>by rw[h ρ w hc];exact⟨rfl,rfl⟩⟩,hn⟩
theorem JY (f:FuncId) (args:Array Value) (v:Value) (hw:∀ρ,Region.wanted o (yielded ops (a ρ).tmps)=true) (h:∀ρ w,C w->(execOp (a ρ).eval o).run P w=.ok (.enter f args) w)
  (hc:∀w,C w->Calls P f args w fun e w'=>e=.returned v/\Below w.heap.size w w')
  (hn:Ww P ops C Q rest (i+1) (fun ρ=>(a ρ).put o.dst v) B):Ww P ops C Q (o::rest) i a B:=
 ⟨.val v,.inl fun ρ=>⟨hw ρ,fun w hC=>by rw[h ρ w hC];exact⟨rfl,hc w hC⟩⟩,hn⟩
theorem QG (mk:Nat->Value) (ob:Obj) (hw:∀ρ,Region.wanted o (yielded ops (a ρ).tmps)=true) (h:∀ρ w,C w->(execOp (a ρ).eval o).run P w=.ok (.value (mk w.heap.size)) (w.alloc ob)) (w0:World) (hC:∀w,C w->w0.heap.size<=w.heap.size)
  (hn:Ww P ops C Q rest (i+1) (fun ρ=>(a ρ).put o.dst (ρ i)) (fun k=>if k=i then some (fun w u=>∃b,u=mk b/\w0.heap.size<=b/\w.heap[b]?=some ob) else B k)):Ww P ops C Q (o::rest) i a B:=
 ⟨.new (fun w u=>∃b,u=mk b/\w0.heap.size<=b/\w.heap[b]?=some ob),⟨fun w w' u ⟨b,e,h0,h1⟩ hb=>⟨b,e,h0,(hb.block _ (Ag.1 h1).1).trans h1⟩,fun ρ=>⟨hw ρ,fun w hc=>by
  rw[h ρ w hc]
  exact⟨Zb w ob,w.heap.size,rfl,hC w hc,heap_alloc_new w ob⟩⟩⟩,hn⟩
end
section
variable {P:Program} {ops:Array Oper} {Q:Exit->Act->World->Prop} {S:Act->World->Prop}
theorem JZ {o:Oper} {a:Act} {w:World} {K K':Act->World->Prop} (hk:∀a w,K a w->K' a w) (h:o.wp P a w K (WB S)):o.wp P a w K' Q:=by
 unfold Oper.wp at *;generalize (execOp a.eval o).run P w=r at *;cases r with
 | ok x w'=>
  cases x<;>simp only[Oper.upon] at h ⊢ <;>
   first
    | exact hk _ _ h
    | exact Calls.mono h (fun e w'' he=>by
      cases e<;>first
       | exact hk _ _ he
       | exact absurd he.1 (by simp)
       | (obtain⟨_,_,hx⟩:=he;exact absurd hx.1 (by simp)))
    | exact Rows.mono h (fun _ _ he=>hk _ _ he)
    | exact absurd h (by simp)
 | halt x w'=>
  cases x<;>simp only[Oper.upon] at h ⊢<;>first
   | exact absurd h.1 (by simp)
   | exact h
end
section
variable {P:Program} {Q:Exit->Act->World->Prop}
theorem Tg {o:Oper} {a:Act} {w:World} {K:Act->World->Prop} (h:o.wp P a w K (WB fun _ _=>False)):o.wp P a w K Q:=JZ (fun _ _ h=>h) h
theorem O4 {id:Nat} {a:Act} {w:World} {I:Array Bool->Act->World->Prop} {l:List Oper} {s1 s2:Oper} (hm:P.follows .mixedOrders=true) (hU1:Yr .any l s1=true) (hU2:Yr .any (l++[s1]) s2=true) (hg:(l++[s1]++[s2]).all (fun o=>o.guard.isNone)=true)
  (hbk:∀(i:Nat) (o:Oper),l.toArray[i]?=some o->∀e∈o.after,Region.binds .any e=true->e.on<i)
  (h0:I (Array.replicate l.length false) a { w with drawn:=w.drawn+1 })
  (hend:∀listed a w,(∀i,i<l.length->listed.getD i false=true)->I listed a w->wpList P (l++[s1]++[s2]).toArray Q [s1,s2] a w)
  (hstep:∀listed a w i o,I listed a w->l.toArray[i]?=some o->listed.getD i true=false->(∀e∈o.after,Region.binds .any e=true->listed.getD e.on false=true)->o.wp P a w (I (listed.setIfInBounds i true)) (WB fun _ _=>False)):(Code.region id (l++[s1]++[s2]).toArray true).wp P Q a w:=by
 have hgs:∀o∈l++[s1]++[s2],o.guard=none:=fun o ho=>by
  have:=(List.all_eq_true.1 hg) o ho
  simpa using this
 refine wp_region_any hm ?_;have g1:s1.guard=none:=hgs s1 (by simp)
 have g2:s2.guard=none:=hgs s2 (by simp)
 have h2:wpAny P .any l.toArray (Exit.then (wpList P (l++[s1]).toArray (Exit.then (wpList P (l++[s1]++[s2]).toArray Q [s2]) Q) [s1]) (Exit.then (wpList P (l++[s1]++[s2]).toArray Q [s2]) Q)) l.toArray.size (Array.replicate l.toArray.size false) a { w with drawn:=w.drawn+1 }:=by
  refine QD (I:=I) hbk (fun listed a' w' hall hI=>?_) (fun listed a' w' i o hI ho hi hl=>?_) _ _ _ _ (by simp) (by rw[Array.toList_replicate,OX];exact Nl _) (by simpa using h0)
  ·have h3:wpList P (l++[s1]++[s2]).toArray Q [s1,s2] a' w':=hend listed a' w' (by simpa using hall) hI
   show wpList P (l++[s1]).toArray _ [s1] a' w';rw[wpList] at h3 ⊢;simp only[Z5 g1,if_true] at h3 ⊢;rcases h3 with h3|h3
   ·exact .inl (Oper.wp_mono2 (fun a w h=>h) (fun _ _ _ h=>h) (fun ⟨a,w,h⟩=>⟨a,w,h⟩) h3)
   ·exact .inr ⟨h3.1,(fun ⟨a,w,h⟩=>⟨a,w,h⟩) h3.2⟩
  ·have hmem:o∈l:=by
    have:=Array.mem_of_getElem? ho
    simpa using this
   have hgo:=hgs o (by simp[hmem])
   unfold wpOp;simp only[ho,Z5 hgo,if_true];exact .inl (Tg (hstep listed a' w' i o hI ho hi hl))
 have h3:=XX (P:=P) (md:=.any) hU1 g1 (fun o ho=>hgs o (by simp[ho])) _ _ _ a _ (WA l s1) h2
 have h4:=XX (P:=P) (md:=.any) hU2 g2 (fun o ho=>hgs o (List.mem_append_left _ ho)) _ _ _ a _ (WA (l++[s1]) s2) h3
 simpa using h4
theorem Pj {id:Nat} {a:Act} {w:World} {I:Array Bool->Act->World->Prop} {L:List Oper} (hne:L≠[]) (hne2:L.dropLast≠[]) (hm:P.follows .mixedOrders=true) (hU1:Yr .any L.dropLast.dropLast (L.dropLast.getLast hne2)=true) (hU2:Yr .any L.dropLast (L.getLast hne)=true) (hg:L.all (fun o=>o.guard.isNone)=true)
  (hbk:∀(i:Nat) (o:Oper),L.dropLast.dropLast.toArray[i]?=some o->∀e∈o.after,Region.binds .any e=true->e.on<i)
  (h0:I (Array.replicate L.dropLast.dropLast.length false) a { w with drawn:=w.drawn+1 })
  (hend:∀listed a w,(∀i,i<L.dropLast.dropLast.length->listed.getD i false=true)->I listed a w->wpList P L.toArray Q [L.dropLast.getLast hne2,L.getLast hne] a w)
  (hstep:∀listed a w i o,I listed a w->L.dropLast.dropLast.toArray[i]?=some o->listed.getD i true=false->(∀e∈o.after,Region.binds .any e=true->listed.getD e.on false=true)->o.wp P a w (I (listed.setIfInBounds i true)) (WB fun _ _=>False)):(Code.region id L.toArray true).wp P Q a w:=by
 have e1:L.dropLast.dropLast++[L.dropLast.getLast hne2]=L.dropLast:=List.dropLast_concat_getLast hne2;have e2:L.dropLast++[L.getLast hne]=L:=List.dropLast_concat_getLast hne
 have:=O4 (P:=P) (id:=id) (Q:=Q) (a:=a) (w:=w) (I:=I) (l:=L.dropLast.dropLast) (s1:=L.dropLast.getLast hne2) (s2:=L.getLast hne) hm hU1 (by rw[e1];exact hU2) (by rw[e1,e2];exact hg) hbk h0 (by rw[e1,e2];exact hend) hstep
 rwa [e1,e2] at this
def VC (S:Oper->Nat->Prop):List Oper->Nat->Prop
 | [],_=>True
 | o::l,i=>S o i/\VC S l (i+1)
theorem Sq {S:Oper->Nat->Prop}:∀{l:List Oper} {n:Nat},VC S l n->∀(i:Nat) (o:Oper),l[i]?=some o->S o (n+i)
 | [],_,_,i,o,h=>by simp at h
 | x::l,n,h,0,o,ho=>by
  have:x=o:=by simpa using ho
  subst this;exact h.1
 | x::l,n,h,i+1,o,ho=>by
  have:=Sq h.2 i o (by simpa using ho)
  rwa [show n+(i+1)=n+1+i by omega]
end
open Go.Shelf Num
theorem Zh {o:Oper} {j:Nat} (h:(o.after.toList.any fun e=>e.on==j&&Region.binds .any e)=true):ZT o j:=by
 rw[List.any_eq_true] at h;obtain⟨e,he,h⟩:=h;rw[Bool.and_eq_true,beq_iff_eq] at h;exact⟨e,Array.mem_toList_iff.1 he,h.1,h.2⟩
def kDs (bt bo bp:Nat) (vp vl:Value):List Od:=[.out,.con 16 (.func (.func 231) #[] #[.pointer (some ⟨bo,0,none⟩),.pointer (some ⟨bp,0,none⟩)]),.kp 17 1,.oins 1,.con 18 (.func (.func 231) #[] #[.pointer (some ⟨bo,0,none⟩),.pointer (some ⟨bp,0,none⟩)]),.kp 19 2,.oins 2,.con 20 (.func (.func 230) #[] #[]),.con 21 (.map (some bt)),.sl 22 [0],.kp 23 3,.oins 3,.con 24 (.func (.func 230) #[] #[]),.con 25 (.map (some bt)),.sl 26 [0,10],.kp 27 4,.oins 4,.con 28 (.func (.func 230) #[] #[]),.mk 29,.con 30 vp,.ins,.mv 31,.sl 32 [0],.kp 33 5,.oins 5,.con 34 (.func (.func 231) #[] #[.pointer (some ⟨bo,0,none⟩),.pointer (some ⟨bp,0,none⟩)]),.kp 35 6,.oins 6,.con 36 (.func (.func 232) #[] #[]),.con 37 (.func (.func 230) #[] #[]),.mk 38,.con 39 vp,.ins,.con 40 vp,.ins,.mv 41,.sl 42 [1,2],.kp 43 0,.kp 44 7,.oins 7,.con 45 (.func (.func 230) #[] #[]),.mk 46,.con 47 vl,.ins,.con 48 vp,.ins,.mv 49,.sl 50 [0],.kp 51 8,.oins 8,.con 52 (.func (.func 230) #[] #[]),.mk 53,.con 54 vl,.ins,.con 55 vp,.ins,.lim 56,.ins,.mv 57,.sl 58 [0,1],.kp 59 9,.oins 9,.con 60 (.func (.func 230) #[] #[]),.sl 61 [0,11],.kp 62 10,.oins 10,.con 63 (.func (.func 230) #[] #[]),.sl 64 [0,3,12],.kp 65 11,.oins 11,.con 66 (.func (.func 230) #[] #[]),.mk 67,.con 68 vp,.ins,.con 69 vl,.ins,.con 70 vp,.ins,.mv 71,.sl 72 [0,1],.kp 73 12,.oins 12,.con 74 (.func (.func 230) #[] #[]),.mk 75,.con 76 vp,.ins,.mv 77,.sl 78 [0],.kp 79 13,.oins 13,.con 80 (.func (.func 230) #[] #[]),.mk 81,.con 82 vl,.ins,.mv 83,.sl 84 [0],.kp 85 14,.oins 14,.con 86 (.func (.func 230) #[] #[]),.mk 87,.con 88 vl,.ins,.mv 89,.sl 90 [0],.kp 91 15,.oins 15,.con 92 (.func (.func 232) #[] #[]),.con 93 (.func (.func 230) #[] #[]),.mk 94,.con 95 vp,.ins,.mv 96,.sl 97 [1,2],.kp 98 0,.kp 99 16,.oins 16,.con 100 (.func (.func 231) #[] #[.pointer (some ⟨bo,0,none⟩),.pointer (some ⟨bp,0,none⟩)]),.kp 101 17,.oins 17,.con 102 (.func (.func 231) #[] #[.pointer (some ⟨bo,0,none⟩),.pointer (some ⟨bp,0,none⟩)]),.kp 103 18,.oins 18]
def kDl:List (Option Nat):=[some 15,some 16,some 17,none,some 18,some 19,none,some 20,some 21,some 22,some 23,none,some 24,some 25,some 26,some 27,none,some 28,some 29,some 30,none,some 31,some 32,some 33,none,some 34,some 35,none,some 36,some 37,some 38,some 39,none,some 40,none,some 41,some 42,some 43,some 44,none,some 45,some 46,some 47,none,some 48,none,some 49,some 50,some 51,none,some 52,some 53,some 54,none,some 55,none,some 56,none,some 57,some 58,some 59,none,some 60,some 61,some 62,none,some 63,some 64,some 65,none,some 66,some 67,some 68,none,some 69,none,some 70,none,some 71,some 72,some 73,none,some 74,some 75,some 76,none,some 77,some 78,some 79,none,some 80,some 81,some 82,none,some 83,some 84,some 85,none,some 86,some 87,some 88,none,some 89,some 90,some 91,none,some 92,some 93,some 94,some 95,none,some 96,some 97,some 98,some 99,none,some 100,some 101,none,some 102,some 103,none]
theorem Zag (bt bo bp:Nat) (vp vl:Value):(kDs bt bo bp vp vl).map S8=kDl:=rfl
theorem Cl:((List.range 122).all fun i=>(List.range 122).all fun j=>i==j||(kDl.getD i none).isNone||kDl.getD i none != kDl.getD j none)=true:=by decide +kernel
def kd (bt bo bp:Nat) (vp vl:Value) (i:Nat):Od:=(kDs bt bo bp vp vl).getD i .ins
theorem Zah (bt bo bp:Nat) (vp vl:Value) (i:Nat):S8 (kd bt bo bp vp vl i)=kDl.getD i none:=by
 rw[<-Zag bt bo bp vp vl];unfold kd;rw[List.getD_eq_getElem?_getD,List.getD_eq_getElem?_getD,List.getElem?_map];cases (kDs bt bo bp vp vl)[i]? with
 | none=>rfl
 | some x=>rfl
theorem Zai (bt bo bp:Nat) (vp vl:Value):TF (kd bt bo bp vp vl):=fun i j s hi hj=>by
 rw[Zah] at hi hj;have hl:kDl.length=122:=by decide +kernel
 have hlt:∀i s,kDl.getD i none=some s->i<122:=fun i s h=>by
  rw[List.getD_eq_getElem?_getD] at h
  by_cases hx:i<122
  ·exact hx
  ·rw[List.getElem?_eq_none (by omega)] at h
   cases h
 have h:=Cl;rw[List.all_eq_true] at h;have h:=h i (List.mem_range.2 (hlt i s hi));rw[List.all_eq_true] at h;have h:=h j (List.mem_range.2 (hlt j s hj));rw[hi,hj] at h;simpa using h
theorem toD {a:Act} {x:Nat} {v:Value} (h:a.eval (.tmp x)=v):a.tmps[x]?.getD undef=v:=by
 rw[<-Array.getD_eq_getD_getElem?];exact h
theorem UA.re {w w':World} {r r':Nat} {u:Value} {p q:Bool} (h:UA w r u p q) (hb:Below w.heap.size w w') (hr:w.heap.size<=r'):UA w' r' u p q:=by
 obtain⟨b1,b2,e,h1,h2,-,-⟩:=h.is;have l1:=h1.ltB;have l2:=h2.ltB;exact⟨b1,b2,e,h1.below hb,h2.below hb,by omega,by omega⟩
theorem Zaj {ds:Nat->Od} {bt bo bp:Nat} {vp vl:Value} {a0:Act} {W0:World} {l:List Oper} (kb:KB bt bo bp vp vl a0 W0) (h:KB bt bo bp vp vl a0 W0->VC (Step ds bt a0 W0) l 0):VC (Step ds bt a0 W0) l 0:=h kb
theorem MP {id:Nat} {Q:Exit->Act->World->Prop} {a:Act} {w:World} {L:List Oper} (ds:Nat->Od) (bt:Nat) (hne:L≠[]) (hne2:L.dropLast≠[]) (hm:Tryz.prog.follows .mixedOrders=true) (hU1:Yr .any L.dropLast.dropLast (L.dropLast.getLast hne2)=true) (hU2:Yr .any L.dropLast (L.getLast hne)=true) (hg:L.all (fun o=>o.guard.isNone)=true)
  (hstep:VC (Step ds bt a { w with drawn:=w.drawn+1 }) L.dropLast.dropLast 0)
  (hend:∀listed a' w',(∀i,i<L.dropLast.dropLast.length->listed.getD i false=true)->II ds bt a { w with drawn:=w.drawn+1 } listed a' w'->wpList Tryz.prog L.toArray Q [L.dropLast.getLast hne2,L.getLast hne] a' w'):(Code.region id L.toArray true).wp Tryz.prog Q a w:=by
 have hrep:∀(n j:Nat),(Array.replicate n false).getD j false=false:=fun n j=>by
  rw[Array.getD_eq_getD_getElem?,Array.getElem?_replicate]
  split<;>rfl
 refine Pj (I:=II ds bt a { w with drawn:=w.drawn+1 }) hne hne2 hm hU1 hU2 hg (fun i o ho e he hb=>?_) ⟨Below.refl _ _,rfl,rfl,fun _ _=>rfl,fun j hj=>?_,fun h=>?_,fun _ j k hj=>?_⟩ hend (fun listed a' w' i o hI ho hi hl=>?_)
 ·have hil:i<L.dropLast.dropLast.length:=by
   have:=(Ag.1 ho).1
   simpa using this
  have ho':L.dropLast.dropLast[i]?=some o:=by simpa using ho
  exact Xo hU1 (by rw[List.getElem?_append_left hil];exact ho') e he hb
 ·rw[hrep] at hj;cases hj
 ·rw[hrep] at h;cases h
 ·rw[hrep] at hj;cases hj
 ·have ho':L.dropLast.dropLast[i]?=some o:=by simpa using ho
  have h:=Sq hstep i o ho';rw[Nat.zero_add] at h;exact h listed a' w' hI hi (fun j hj=>by obtain⟨e,he,rfl,hb⟩:=hj;exact hl e he hb)
theorem ZbM (w:World):Calls Tryz.prog 183 #[] w fun e w'=>∃r bt vp vl es c,e=.returned (.map (some r))/\w'.heap[r]?=some (.map es c)/\QE bt w' r/\Y5 w' r 4/\w'.heap[bt]?=some (.map (YU [(4,vp),(5,vl),(6,vl)]) 3)/\UA w' r vp true false/\UA w' r vl false false/\Below w.heap.size w w':=by
 have hmk:=fun (w:World)=>show (Instr.makeMap 268 none).run Tryz.prog w=.ok (.map (some w.heap.size)) (w.alloc (.map (YU []) 0)) from run_makeMap (P:=Tryz.prog) 268 w
 go_enter Tryz.func183,Tryz.ntmps183;go_wp2_with fail;refine (QB true false w).mono ?_;rintro e w1 ⟨_,rfl,hb1,b1,b2,rfl,hp1,hp2⟩;go_wp2_with fail;refine (QB false false w1).mono ?_;rintro e w2 ⟨vl,rfl,hb2,b3,b4,hvl,hl1,hl2⟩;have HVL:=Lh hvl;clear hvl;have hp1:=hp1.below hb2;have hp2:=hp2.below hb2;have hb:=bto hb1 hb2;obtain⟨g1,g2,g3,g4⟩:=Xi w2 (.cells #[(.func (.func 286) #[] #[.pointer (some ⟨b1,0,none⟩),.pointer (some ⟨b2,0,none⟩)])] 311) (.cells #[(.func (.func 230) #[] #[])] 313);have q1:((w2.alloc (.cells #[(.func (.func 286) #[] #[.pointer (some ⟨b1,0,none⟩),.pointer (some ⟨b2,0,none⟩)])] 311)).alloc (.cells #[(.func (.func 230) #[] #[])] 313)).cell? ⟨w2.heap.size,0,none⟩=some (.func (.func 286) #[] #[.pointer (some ⟨b1,0,none⟩),.pointer (some ⟨b2,0,none⟩)]):=Zg g1 0;have j1:=ZJ ((w2.alloc (.cells #[(.func (.func 286) #[] #[.pointer (some ⟨b1,0,none⟩),.pointer (some ⟨b2,0,none⟩)])] 311)).alloc (.cells #[(.func (.func 230) #[] #[])] 313)) (.map (YU [(4,(.func (.func 286) #[] #[.pointer (some ⟨b1,0,none⟩),.pointer (some ⟨b2,0,none⟩)])),(5,vl),(6,vl)]) 3);have j3:=Zb ((w2.alloc (.cells #[(.func (.func 286) #[] #[.pointer (some ⟨b1,0,none⟩),.pointer (some ⟨b2,0,none⟩)])] 311)).alloc (.cells #[(.func (.func 230) #[] #[])] 313)) (.map (YU [(4,(.func (.func 286) #[] #[.pointer (some ⟨b1,0,none⟩),.pointer (some ⟨b2,0,none⟩)])),(5,vl),(6,vl)]) 3);rw[g4] at j1;obtain⟨W0,hW0⟩:∃W0,W0=((w2.alloc (.cells #[(.func (.func 286) #[] #[.pointer (some ⟨b1,0,none⟩),.pointer (some ⟨b2,0,none⟩)])] 311)).alloc (.cells #[(.func (.func 230) #[] #[])] 313)).alloc (.map (YU [(4,(.func (.func 286) #[] #[.pointer (some ⟨b1,0,none⟩),.pointer (some ⟨b2,0,none⟩)])),(5,vl),(6,vl)]) 3):=⟨_,rfl⟩
 rw[<-hW0] at j1 j3;have hb03:=bto g3 j3;have m1:=hp1.ltB;have m2:=hp2.ltB;have m3:=hl1.ltB;have m4:=hl2.ltB;have k1:=Zk g1 j3;have k2:=Zk g2 j3;have HB:=Lh (bto hb hb03);have HW0:=Lh hW0;have HLP:Hid (UA W0 (w2.heap.size+1) (.func (.func 286) #[] #[.pointer (some ⟨b1,0,none⟩),.pointer (some ⟨b2,0,none⟩)]) true false):=⟨b1,b2,rfl,hp1.below hb03,hp2.below hb03,by omega,by omega⟩
 have HLL:Hid (UA W0 (w2.heap.size+1) vl false false):=⟨b3,b4,HVL.out,hl1.below hb03,hl2.below hb03,by omega,by omega⟩
 have K1:=Lh k1;have K2:=Lh k2;have J1:=Lh j1;clear hp1 hp2 hl1 hl2 hb g1 g2 g3 g4 j1 j3 hb03 m1 m2 m3 m4 hb1 hb2 k1 k2 hW0 HVL;go_wp2_with (first|(refine XI [] 4 (.func (.func 286) #[] #[.pointer (some ⟨b1,0,none⟩),.pointer (some ⟨b2,0,none⟩)]) rfl (.tmp 10) (.const (.int .i64 4)) (.tmp 11) rfl Tryz.underlying268 Tryz.underlying3 (by first|rfl|(rw[World.size_alloc];rfl)|(rw[World.size_alloc,World.size_alloc];rfl)) rfl rfl (by simp) ?_)|(refine XI [(4,(.func (.func 286) #[] #[.pointer (some ⟨b1,0,none⟩),.pointer (some ⟨b2,0,none⟩)]))] 5 vl rfl (.tmp 10) (.const (.int .i64 5)) (.tmp 12) rfl Tryz.underlying268 Tryz.underlying3 (by first|rfl|(rw[World.size_alloc];rfl)|(rw[World.size_alloc,World.size_alloc];rfl)) rfl rfl (by simp) ?_)|(refine XI [(4,(.func (.func 286) #[] #[.pointer (some ⟨b1,0,none⟩),.pointer (some ⟨b2,0,none⟩)])),(5,vl)] 6 vl rfl (.tmp 10) (.const (.int .i64 6)) (.tmp 13) rfl Tryz.underlying268 Tryz.underlying3 (by first|rfl|(rw[World.size_alloc];rfl)|(rw[World.size_alloc,World.size_alloc];rfl)) rfl rfl (by simp) ?_))
 rw[<-HW0.out];simp only[List.append_eq,List.cons_append,List.nil_append];have hu:=Zai (w2.heap.size+2) (w2.heap.size+1) w2.heap.size (.func (.func 286) #[] #[.pointer (some ⟨b1,0,none⟩),.pointer (some ⟨b2,0,none⟩)]) vl;refine MP (kd (w2.heap.size+2) (w2.heap.size+1) w2.heap.size (.func (.func 286) #[] #[.pointer (some ⟨b1,0,none⟩),.pointer (some ⟨b2,0,none⟩)]) vl) (w2.heap.size+2) (by simp) (by simp) (by kernel_rfl) (by kernel_rfl) (by kernel_rfl) (by kernel_rfl) ?step ?ende
 case step=>
  have hd0:Below W0.heap.size W0 { W0 with drawn:=W0.drawn+1 }:=⟨rfl,rfl,rfl,Nl _,fun _ _=>rfl⟩
  refine Zaj (bo:=w2.heap.size+1) (bp:=w2.heap.size) (vl:=vl) ⟨rfl,rfl,rfl,rfl,rfl,rfl,rfl,⟨_,Zk K2.out hd0⟩,⟨_,Zk K1.out hd0⟩,Zk J1.out hd0,HLP.out.keep (Zl.of_below hd0),HLL.out.keep (Zl.of_below hd0)⟩ (fun kb=>?_)
  simp only[List.dropLast_cons_cons,List.dropLast_singleton];clear HLP HLL K1 K2 J1 HB HW0 q1 hmk;refine⟨ZbL kb.size hu rfl rfl rfl,?_⟩;refine⟨XJ kb.size hu (x:=4) rfl rfl rfl (by decide) kb.s4 ⟨by decide,by decide,by decide,by decide⟩,?_⟩
  refine⟨OZ kb hu (f:=16) (j:=1) (word:=[100,101,112,111,115,105,116]) (fun e w h1=>by have g1:=toD h1;clear h1;go_simp;first|done|rfl) rfl rfl rfl (Zh rfl) (by decide) ⟨by decide,by decide,by decide,by decide⟩,?_⟩
  refine⟨Ym (v:=17) (k:=1) (jv:=2) (fun e w w' b u h1 h2 h3=>by have g1:=toD h1;have g2:=toD h2;have g3:(Instr.mapUpdate 272 (.map (some b)) (.int .i64 1) u).run Tryz.prog w=.ok () w':=h3;clear h1 h2 h3;simp[execOp,Act.eval,g1,g2,g3,Result.andThen]) rfl rfl rfl (Zh rfl) (Zh rfl) (by decide),?_⟩
  refine⟨XJ kb.size hu (x:=4) rfl rfl rfl (by decide) kb.s4 ⟨by decide,by decide,by decide,by decide⟩,?_⟩
  refine⟨OZ kb hu (f:=18) (j:=4) (word:=[119,105,116,104,100,114,97,119]) (fun e w h1=>by have g1:=toD h1;clear h1;go_simp;first|done|rfl) rfl rfl rfl (Zh rfl) (by decide) ⟨by decide,by decide,by decide,by decide⟩,?_⟩
  refine⟨Ym (v:=19) (k:=2) (jv:=5) (fun e w w' b u h1 h2 h3=>by have g1:=toD h1;have g2:=toD h2;have g3:(Instr.mapUpdate 272 (.map (some b)) (.int .i64 2) u).run Tryz.prog w=.ok () w':=h3;clear h1 h2 h3;simp[execOp,Act.eval,g1,g2,g3,Result.andThen]) rfl rfl rfl (Zh rfl) (Zh rfl) (by decide),?_⟩
  refine⟨Xd kb.size hu (ty:=313) (fun e w h1 h2=>by have g1:=toD h1;clear h1;go_simp;first|done|rfl) rfl rfl (by decide) kb.s3 kb.hbo ⟨by decide,by decide,by decide,by decide⟩ rfl,?_⟩
  refine⟨XJ kb.size hu (x:=6) rfl rfl rfl (by decide) kb.s6 ⟨by decide,by decide,by decide,by decide⟩,?_⟩
  refine⟨V9 kb.size hu (ms:=[0]) (fun e w=>by go_simp;first|done|rfl) rfl rfl ⟨by decide,by decide,by decide,by decide⟩,?_⟩
  refine⟨Ci kb hu (f:=20) (m:=21) (s2:=22) (jf:=7) (jm:=8) (js:=9) (word:=[98,117,121]) (cls:=3) (ms:=[0]) (fun e w b bs h1 h2 h3=>by have g1:=toD h1;have g2:=toD h2;have g3:=toD h3;clear h1 h2 h3;go_simp;first|done|rfl) rfl rfl rfl rfl rfl (Zh rfl) (Zh rfl) (Zh rfl) (by decide) (by decide) (by decide) ⟨by decide,by decide,by decide,by decide⟩,?_⟩
  refine⟨Ym (v:=23) (k:=3) (jv:=10) (fun e w w' b u h1 h2 h3=>by have g1:=toD h1;have g2:=toD h2;have g3:(Instr.mapUpdate 272 (.map (some b)) (.int .i64 3) u).run Tryz.prog w=.ok () w':=h3;clear h1 h2 h3;simp[execOp,Act.eval,g1,g2,g3,Result.andThen]) rfl rfl rfl (Zh rfl) (Zh rfl) (by decide),?_⟩
  refine⟨Xd kb.size hu (ty:=313) (fun e w h1 h2=>by have g1:=toD h1;clear h1;go_simp;first|done|rfl) rfl rfl (by decide) kb.s3 kb.hbo ⟨by decide,by decide,by decide,by decide⟩ rfl,?_⟩
  refine⟨XJ kb.size hu (x:=6) rfl rfl rfl (by decide) kb.s6 ⟨by decide,by decide,by decide,by decide⟩,?_⟩
  refine⟨V9 kb.size hu (ms:=[0,10]) (fun e w=>by go_simp;first|done|rfl) rfl rfl ⟨by decide,by decide,by decide,by decide⟩,?_⟩
  refine⟨Ci kb hu (f:=24) (m:=25) (s2:=26) (jf:=12) (jm:=13) (js:=14) (word:=[115,101,108,108]) (cls:=3) (ms:=[0,10]) (fun e w b bs h1 h2 h3=>by have g1:=toD h1;have g2:=toD h2;have g3:=toD h3;clear h1 h2 h3;go_simp;first|done|rfl) rfl rfl rfl rfl rfl (Zh rfl) (Zh rfl) (Zh rfl) (by decide) (by decide) (by decide) ⟨by decide,by decide,by decide,by decide⟩,?_⟩
  refine⟨Ym (v:=27) (k:=4) (jv:=15) (fun e w w' b u h1 h2 h3=>by have g1:=toD h1;have g2:=toD h2;have g3:(Instr.mapUpdate 272 (.map (some b)) (.int .i64 4) u).run Tryz.prog w=.ok () w':=h3;clear h1 h2 h3;simp[execOp,Act.eval,g1,g2,g3,Result.andThen]) rfl rfl rfl (Zh rfl) (Zh rfl) (by decide),?_⟩
  refine⟨Xd kb.size hu (ty:=313) (fun e w h1 h2=>by have g1:=toD h1;clear h1;go_simp;first|done|rfl) rfl rfl (by decide) kb.s3 kb.hbo ⟨by decide,by decide,by decide,by decide⟩ rfl,?_⟩
  refine⟨S9 kb.size hu rfl rfl rfl ⟨by decide,by decide,by decide,by decide⟩,?_⟩
  refine⟨Xd kb.size hu (ty:=311) (fun e w h1 h2=>by have g1:=toD h1;clear h1;go_simp;first|done|rfl) rfl rfl (by decide) kb.s1 kb.hbp ⟨by decide,by decide,by decide,by decide⟩ rfl,?_⟩
  refine⟨Xt (m:=29) (v:=30) (k:=7) (jm:=18) (jv:=19) (fun e w w' b u h1 h2 h3=>by have g1:=toD h1;have g2:=toD h2;have g3:(Instr.mapUpdate 268 (.map (some b)) (.int .i64 7) u).run Tryz.prog w=.ok () w':=h3;clear h1 h2 h3;simp[execOp,Act.eval,g1,g2,g3,Result.andThen]) rfl rfl (by decide) rfl (.inr ⟨_,rfl,kb.lp.any⟩) (Zh rfl) (Zh rfl) (by decide),?_⟩
  refine⟨Qa kb.size hu (j:=18) rfl rfl rfl rfl (Zh rfl) ⟨by decide,by decide,by decide,by decide⟩,?_⟩
  refine⟨V9 kb.size hu (ms:=[0]) (fun e w=>by go_simp;first|done|rfl) rfl rfl ⟨by decide,by decide,by decide,by decide⟩,?_⟩
  refine⟨Qb kb hu (f:=28) (m:=31) (s2:=32) (jf:=17) (jm:=21) (js:=22) (word:=[105,110,99,111,109,101]) (cls:=1) (ms:=[0]) (fun e w b bs h1 h2 h3=>by have g1:=toD h1;have g2:=toD h2;have g3:=toD h3;clear h1 h2 h3;go_simp;first|done|rfl) rfl rfl rfl rfl rfl (Zh rfl) (Zh rfl) (Zh rfl) (by decide) (by decide) (by decide) ⟨by decide,by decide,by decide,by decide⟩,?_⟩
  refine⟨Ym (v:=33) (k:=5) (jv:=23) (fun e w w' b u h1 h2 h3=>by have g1:=toD h1;have g2:=toD h2;have g3:(Instr.mapUpdate 272 (.map (some b)) (.int .i64 5) u).run Tryz.prog w=.ok () w':=h3;clear h1 h2 h3;simp[execOp,Act.eval,g1,g2,g3,Result.andThen]) rfl rfl rfl (Zh rfl) (Zh rfl) (by decide),?_⟩
  refine⟨XJ kb.size hu (x:=4) rfl rfl rfl (by decide) kb.s4 ⟨by decide,by decide,by decide,by decide⟩,?_⟩
  refine⟨OZ kb hu (f:=34) (j:=25) (word:=[101,120,112,101,110,115,101]) (fun e w h1=>by have g1:=toD h1;clear h1;go_simp;first|done|rfl) rfl rfl rfl (Zh rfl) (by decide) ⟨by decide,by decide,by decide,by decide⟩,?_⟩
  refine⟨Ym (v:=35) (k:=6) (jv:=26) (fun e w w' b u h1 h2 h3=>by have g1:=toD h1;have g2:=toD h2;have g3:(Instr.mapUpdate 272 (.map (some b)) (.int .i64 6) u).run Tryz.prog w=.ok () w':=h3;clear h1 h2 h3;simp[execOp,Act.eval,g1,g2,g3,Result.andThen]) rfl rfl rfl (Zh rfl) (Zh rfl) (by decide),?_⟩
  refine⟨XJ kb.size hu (x:=5) rfl rfl rfl (by decide) kb.s5 ⟨by decide,by decide,by decide,by decide⟩,?_⟩
  refine⟨Xd kb.size hu (ty:=313) (fun e w h1 h2=>by have g1:=toD h1;clear h1;go_simp;first|done|rfl) rfl rfl (by decide) kb.s3 kb.hbo ⟨by decide,by decide,by decide,by decide⟩ rfl,?_⟩
  refine⟨S9 kb.size hu rfl rfl rfl ⟨by decide,by decide,by decide,by decide⟩,?_⟩
  refine⟨Xd kb.size hu (ty:=311) (fun e w h1 h2=>by have g1:=toD h1;clear h1;go_simp;first|done|rfl) rfl rfl (by decide) kb.s1 kb.hbp ⟨by decide,by decide,by decide,by decide⟩ rfl,?_⟩
  refine⟨Xt (m:=38) (v:=39) (k:=4) (jm:=30) (jv:=31) (fun e w w' b u h1 h2 h3=>by have g1:=toD h1;have g2:=toD h2;have g3:(Instr.mapUpdate 268 (.map (some b)) (.int .i64 4) u).run Tryz.prog w=.ok () w':=h3;clear h1 h2 h3;simp[execOp,Act.eval,g1,g2,g3,Result.andThen]) rfl rfl (by decide) rfl (.inr ⟨_,rfl,kb.lp.any⟩) (Zh rfl) (Zh rfl) (by decide),?_⟩
  refine⟨Xd kb.size hu (ty:=311) (fun e w h1 h2=>by have g1:=toD h1;clear h1;go_simp;first|done|rfl) rfl rfl (by decide) kb.s1 kb.hbp ⟨by decide,by decide,by decide,by decide⟩ rfl,?_⟩
  refine⟨Xt (m:=38) (v:=40) (k:=5) (jm:=30) (jv:=33) (fun e w w' b u h1 h2 h3=>by have g1:=toD h1;have g2:=toD h2;have g3:(Instr.mapUpdate 268 (.map (some b)) (.int .i64 5) u).run Tryz.prog w=.ok () w':=h3;clear h1 h2 h3;simp[execOp,Act.eval,g1,g2,g3,Result.andThen]) rfl rfl (by decide) rfl (.inr ⟨_,rfl,kb.lp.any⟩) (Zh rfl) (Zh rfl) (by decide),?_⟩
  refine⟨Qa kb.size hu (j:=30) rfl rfl rfl rfl (Zh rfl) ⟨by decide,by decide,by decide,by decide⟩,?_⟩
  refine⟨V9 kb.size hu (ms:=[1,2]) (fun e w=>by go_simp;first|done|rfl) rfl rfl ⟨by decide,by decide,by decide,by decide⟩,?_⟩
  refine⟨Qb kb hu (f:=37) (m:=41) (s2:=42) (jf:=29) (jm:=35) (js:=36) (word:=[99,111,110,118,101,114,116]) (cls:=2) (ms:=[1,2]) (fun e w b bs h1 h2 h3=>by have g1:=toD h1;have g2:=toD h2;have g3:=toD h3;clear h1 h2 h3;go_simp;first|done|rfl) rfl rfl rfl rfl rfl (Zh rfl) (Zh rfl) (Zh rfl) (by decide) (by decide) (by decide) ⟨by decide,by decide,by decide,by decide⟩,?_⟩
  refine⟨Hl kb hu (f:=36) (x:=43) (jf:=28) (jx:=37) (fun e w u h1 h2=>by have g1:=toD h1;have g2:=toD h2;clear h1 h2;go_simp;first|done|rfl) rfl rfl rfl rfl (Zh rfl) (Zh rfl) (by decide) ⟨by decide,by decide,by decide,by decide⟩,?_⟩
  refine⟨Ym (v:=44) (k:=7) (jv:=38) (fun e w w' b u h1 h2 h3=>by have g1:=toD h1;have g2:=toD h2;have g3:(Instr.mapUpdate 272 (.map (some b)) (.int .i64 7) u).run Tryz.prog w=.ok () w':=h3;clear h1 h2 h3;simp[execOp,Act.eval,g1,g2,g3,Result.andThen]) rfl rfl rfl (Zh rfl) (Zh rfl) (by decide),?_⟩
  refine⟨Xd kb.size hu (ty:=313) (fun e w h1 h2=>by have g1:=toD h1;clear h1;go_simp;first|done|rfl) rfl rfl (by decide) kb.s3 kb.hbo ⟨by decide,by decide,by decide,by decide⟩ rfl,?_⟩
  refine⟨S9 kb.size hu rfl rfl rfl ⟨by decide,by decide,by decide,by decide⟩,?_⟩
  refine⟨XJ kb.size hu (x:=2) rfl rfl rfl (by decide) kb.s2 ⟨by decide,by decide,by decide,by decide⟩,?_⟩
  refine⟨Xt (m:=46) (v:=47) (k:=7) (jm:=41) (jv:=42) (fun e w w' b u h1 h2 h3=>by have g1:=toD h1;have g2:=toD h2;have g3:(Instr.mapUpdate 268 (.map (some b)) (.int .i64 7) u).run Tryz.prog w=.ok () w':=h3;clear h1 h2 h3;simp[execOp,Act.eval,g1,g2,g3,Result.andThen]) rfl rfl (by decide) rfl (.inr ⟨_,rfl,kb.ll.any⟩) (Zh rfl) (Zh rfl) (by decide),?_⟩
  refine⟨Xd kb.size hu (ty:=311) (fun e w h1 h2=>by have g1:=toD h1;clear h1;go_simp;first|done|rfl) rfl rfl (by decide) kb.s1 kb.hbp ⟨by decide,by decide,by decide,by decide⟩ rfl,?_⟩
  refine⟨Xt (m:=46) (v:=48) (k:=8) (jm:=41) (jv:=44) (fun e w w' b u h1 h2 h3=>by have g1:=toD h1;have g2:=toD h2;have g3:(Instr.mapUpdate 268 (.map (some b)) (.int .i64 8) u).run Tryz.prog w=.ok () w':=h3;clear h1 h2 h3;simp[execOp,Act.eval,g1,g2,g3,Result.andThen]) rfl rfl (by decide) rfl (.inr ⟨_,rfl,kb.lp.any⟩) (Zh rfl) (Zh rfl) (by decide),?_⟩
  refine⟨Qa kb.size hu (j:=41) rfl rfl rfl rfl (Zh rfl) ⟨by decide,by decide,by decide,by decide⟩,?_⟩
  refine⟨V9 kb.size hu (ms:=[0]) (fun e w=>by go_simp;first|done|rfl) rfl rfl ⟨by decide,by decide,by decide,by decide⟩,?_⟩
  refine⟨Qb kb hu (f:=45) (m:=49) (s2:=50) (jf:=40) (jm:=46) (js:=47) (word:=[115,112,108,105,116]) (cls:=1) (ms:=[0]) (fun e w b bs h1 h2 h3=>by have g1:=toD h1;have g2:=toD h2;have g3:=toD h3;clear h1 h2 h3;go_simp;first|done|rfl) rfl rfl rfl rfl rfl (Zh rfl) (Zh rfl) (Zh rfl) (by decide) (by decide) (by decide) ⟨by decide,by decide,by decide,by decide⟩,?_⟩
  refine⟨Ym (v:=51) (k:=8) (jv:=48) (fun e w w' b u h1 h2 h3=>by have g1:=toD h1;have g2:=toD h2;have g3:(Instr.mapUpdate 272 (.map (some b)) (.int .i64 8) u).run Tryz.prog w=.ok () w':=h3;clear h1 h2 h3;simp[execOp,Act.eval,g1,g2,g3,Result.andThen]) rfl rfl rfl (Zh rfl) (Zh rfl) (by decide),?_⟩
  refine⟨Xd kb.size hu (ty:=313) (fun e w h1 h2=>by have g1:=toD h1;clear h1;go_simp;first|done|rfl) rfl rfl (by decide) kb.s3 kb.hbo ⟨by decide,by decide,by decide,by decide⟩ rfl,?_⟩
  refine⟨S9 kb.size hu rfl rfl rfl ⟨by decide,by decide,by decide,by decide⟩,?_⟩
  refine⟨XJ kb.size hu (x:=2) rfl rfl rfl (by decide) kb.s2 ⟨by decide,by decide,by decide,by decide⟩,?_⟩
  refine⟨Xt (m:=53) (v:=54) (k:=7) (jm:=51) (jv:=52) (fun e w w' b u h1 h2 h3=>by have g1:=toD h1;have g2:=toD h2;have g3:(Instr.mapUpdate 268 (.map (some b)) (.int .i64 7) u).run Tryz.prog w=.ok () w':=h3;clear h1 h2 h3;simp[execOp,Act.eval,g1,g2,g3,Result.andThen]) rfl rfl (by decide) rfl (.inr ⟨_,rfl,kb.ll.any⟩) (Zh rfl) (Zh rfl) (by decide),?_⟩
  refine⟨Xd kb.size hu (ty:=311) (fun e w h1 h2=>by have g1:=toD h1;clear h1;go_simp;first|done|rfl) rfl rfl (by decide) kb.s1 kb.hbp ⟨by decide,by decide,by decide,by decide⟩ rfl,?_⟩
  refine⟨Xt (m:=53) (v:=55) (k:=8) (jm:=51) (jv:=54) (fun e w w' b u h1 h2 h3=>by have g1:=toD h1;have g2:=toD h2;have g3:(Instr.mapUpdate 268 (.map (some b)) (.int .i64 8) u).run Tryz.prog w=.ok () w':=h3;clear h1 h2 h3;simp[execOp,Act.eval,g1,g2,g3,Result.andThen]) rfl rfl (by decide) rfl (.inr ⟨_,rfl,kb.lp.any⟩) (Zh rfl) (Zh rfl) (by decide),?_⟩
  refine⟨ZbK kb.size hu (p:=false) (q:=true) (fun e w=>by go_simp;first|done|rfl) rfl rfl ⟨by decide,by decide,by decide,by decide⟩,?_⟩
  refine⟨Xt (m:=53) (v:=56) (k:=9) (jm:=51) (jv:=56) (fun e w w' b u h1 h2 h3=>by have g1:=toD h1;have g2:=toD h2;have g3:(Instr.mapUpdate 268 (.map (some b)) (.int .i64 9) u).run Tryz.prog w=.ok () w':=h3;clear h1 h2 h3;simp[execOp,Act.eval,g1,g2,g3,Result.andThen]) rfl rfl (by decide) rfl (.inl rfl) (Zh rfl) (Zh rfl) (by decide),?_⟩
  refine⟨Qa kb.size hu (j:=51) rfl rfl rfl rfl (Zh rfl) ⟨by decide,by decide,by decide,by decide⟩,?_⟩
  refine⟨V9 kb.size hu (ms:=[0,1]) (fun e w=>by go_simp;first|done|rfl) rfl rfl ⟨by decide,by decide,by decide,by decide⟩,?_⟩
  refine⟨Qb kb hu (f:=52) (m:=57) (s2:=58) (jf:=50) (jm:=58) (js:=59) (word:=[115,112,105,110,111,102,102]) (cls:=1) (ms:=[0,1]) (fun e w b bs h1 h2 h3=>by have g1:=toD h1;have g2:=toD h2;have g3:=toD h3;clear h1 h2 h3;go_simp;first|done|rfl) rfl rfl rfl rfl rfl (Zh rfl) (Zh rfl) (Zh rfl) (by decide) (by decide) (by decide) ⟨by decide,by decide,by decide,by decide⟩,?_⟩
  refine⟨Ym (v:=59) (k:=9) (jv:=60) (fun e w w' b u h1 h2 h3=>by have g1:=toD h1;have g2:=toD h2;have g3:(Instr.mapUpdate 272 (.map (some b)) (.int .i64 9) u).run Tryz.prog w=.ok () w':=h3;clear h1 h2 h3;simp[execOp,Act.eval,g1,g2,g3,Result.andThen]) rfl rfl rfl (Zh rfl) (Zh rfl) (by decide),?_⟩
  refine⟨Xd kb.size hu (ty:=313) (fun e w h1 h2=>by have g1:=toD h1;clear h1;go_simp;first|done|rfl) rfl rfl (by decide) kb.s3 kb.hbo ⟨by decide,by decide,by decide,by decide⟩ rfl,?_⟩
  refine⟨V9 kb.size hu (ms:=[0,11]) (fun e w=>by go_simp;first|done|rfl) rfl rfl ⟨by decide,by decide,by decide,by decide⟩,?_⟩
  refine⟨Cj kb hu (f:=60) (s2:=61) (jf:=62) (js:=63) (word:=[101,120,99,104,97,110,103,101]) (cls:=1) (ms:=[0,11]) (fun e w bs h1 h3=>by have g1:=toD h1;have g3:=toD h3;clear h1 h3;go_simp;first|done|rfl) rfl rfl rfl rfl (Zh rfl) (Zh rfl) (by decide) (by decide) (by decide) ⟨by decide,by decide,by decide,by decide⟩,?_⟩
  refine⟨Ym (v:=62) (k:=10) (jv:=64) (fun e w w' b u h1 h2 h3=>by have g1:=toD h1;have g2:=toD h2;have g3:(Instr.mapUpdate 272 (.map (some b)) (.int .i64 10) u).run Tryz.prog w=.ok () w':=h3;clear h1 h2 h3;simp[execOp,Act.eval,g1,g2,g3,Result.andThen]) rfl rfl rfl (Zh rfl) (Zh rfl) (by decide),?_⟩
  refine⟨Xd kb.size hu (ty:=313) (fun e w h1 h2=>by have g1:=toD h1;clear h1;go_simp;first|done|rfl) rfl rfl (by decide) kb.s3 kb.hbo ⟨by decide,by decide,by decide,by decide⟩ rfl,?_⟩
  refine⟨V9 kb.size hu (ms:=[0,3,12]) (fun e w=>by go_simp;first|done|rfl) rfl rfl ⟨by decide,by decide,by decide,by decide⟩,?_⟩
  refine⟨Cj kb hu (f:=63) (s2:=64) (jf:=66) (js:=67) (word:=[101,108,101,99,116]) (cls:=4) (ms:=[0,3,12]) (fun e w bs h1 h3=>by have g1:=toD h1;have g3:=toD h3;clear h1 h3;go_simp;first|done|rfl) rfl rfl rfl rfl (Zh rfl) (Zh rfl) (by decide) (by decide) (by decide) ⟨by decide,by decide,by decide,by decide⟩,?_⟩
  refine⟨Ym (v:=65) (k:=11) (jv:=68) (fun e w w' b u h1 h2 h3=>by have g1:=toD h1;have g2:=toD h2;have g3:(Instr.mapUpdate 272 (.map (some b)) (.int .i64 11) u).run Tryz.prog w=.ok () w':=h3;clear h1 h2 h3;simp[execOp,Act.eval,g1,g2,g3,Result.andThen]) rfl rfl rfl (Zh rfl) (Zh rfl) (by decide),?_⟩
  refine⟨Xd kb.size hu (ty:=313) (fun e w h1 h2=>by have g1:=toD h1;clear h1;go_simp;first|done|rfl) rfl rfl (by decide) kb.s3 kb.hbo ⟨by decide,by decide,by decide,by decide⟩ rfl,?_⟩
  refine⟨S9 kb.size hu rfl rfl rfl ⟨by decide,by decide,by decide,by decide⟩,?_⟩
  refine⟨Xd kb.size hu (ty:=311) (fun e w h1 h2=>by have g1:=toD h1;clear h1;go_simp;first|done|rfl) rfl rfl (by decide) kb.s1 kb.hbp ⟨by decide,by decide,by decide,by decide⟩ rfl,?_⟩
  refine⟨Xt (m:=67) (v:=68) (k:=4) (jm:=71) (jv:=72) (fun e w w' b u h1 h2 h3=>by have g1:=toD h1;have g2:=toD h2;have g3:(Instr.mapUpdate 268 (.map (some b)) (.int .i64 4) u).run Tryz.prog w=.ok () w':=h3;clear h1 h2 h3;simp[execOp,Act.eval,g1,g2,g3,Result.andThen]) rfl rfl (by decide) rfl (.inr ⟨_,rfl,kb.lp.any⟩) (Zh rfl) (Zh rfl) (by decide),?_⟩
  refine⟨XJ kb.size hu (x:=2) rfl rfl rfl (by decide) kb.s2 ⟨by decide,by decide,by decide,by decide⟩,?_⟩
  refine⟨Xt (m:=67) (v:=69) (k:=7) (jm:=71) (jv:=74) (fun e w w' b u h1 h2 h3=>by have g1:=toD h1;have g2:=toD h2;have g3:(Instr.mapUpdate 268 (.map (some b)) (.int .i64 7) u).run Tryz.prog w=.ok () w':=h3;clear h1 h2 h3;simp[execOp,Act.eval,g1,g2,g3,Result.andThen]) rfl rfl (by decide) rfl (.inr ⟨_,rfl,kb.ll.any⟩) (Zh rfl) (Zh rfl) (by decide),?_⟩
  refine⟨Xd kb.size hu (ty:=311) (fun e w h1 h2=>by have g1:=toD h1;clear h1;go_simp;first|done|rfl) rfl rfl (by decide) kb.s1 kb.hbp ⟨by decide,by decide,by decide,by decide⟩ rfl,?_⟩
  refine⟨Xt (m:=67) (v:=70) (k:=8) (jm:=71) (jv:=76) (fun e w w' b u h1 h2 h3=>by have g1:=toD h1;have g2:=toD h2;have g3:(Instr.mapUpdate 268 (.map (some b)) (.int .i64 8) u).run Tryz.prog w=.ok () w':=h3;clear h1 h2 h3;simp[execOp,Act.eval,g1,g2,g3,Result.andThen]) rfl rfl (by decide) rfl (.inr ⟨_,rfl,kb.lp.any⟩) (Zh rfl) (Zh rfl) (by decide),?_⟩
  refine⟨Qa kb.size hu (j:=71) rfl rfl rfl rfl (Zh rfl) ⟨by decide,by decide,by decide,by decide⟩,?_⟩
  refine⟨V9 kb.size hu (ms:=[0,1]) (fun e w=>by go_simp;first|done|rfl) rfl rfl ⟨by decide,by decide,by decide,by decide⟩,?_⟩
  refine⟨Qb kb hu (f:=66) (m:=71) (s2:=72) (jf:=70) (jm:=78) (js:=79) (word:=[101,120,101,114,99,105,115,101]) (cls:=3) (ms:=[0,1]) (fun e w b bs h1 h2 h3=>by have g1:=toD h1;have g2:=toD h2;have g3:=toD h3;clear h1 h2 h3;go_simp;first|done|rfl) rfl rfl rfl rfl rfl (Zh rfl) (Zh rfl) (Zh rfl) (by decide) (by decide) (by decide) ⟨by decide,by decide,by decide,by decide⟩,?_⟩
  refine⟨Ym (v:=73) (k:=12) (jv:=80) (fun e w w' b u h1 h2 h3=>by have g1:=toD h1;have g2:=toD h2;have g3:(Instr.mapUpdate 272 (.map (some b)) (.int .i64 12) u).run Tryz.prog w=.ok () w':=h3;clear h1 h2 h3;simp[execOp,Act.eval,g1,g2,g3,Result.andThen]) rfl rfl rfl (Zh rfl) (Zh rfl) (by decide),?_⟩
  refine⟨Xd kb.size hu (ty:=313) (fun e w h1 h2=>by have g1:=toD h1;clear h1;go_simp;first|done|rfl) rfl rfl (by decide) kb.s3 kb.hbo ⟨by decide,by decide,by decide,by decide⟩ rfl,?_⟩
  refine⟨S9 kb.size hu rfl rfl rfl ⟨by decide,by decide,by decide,by decide⟩,?_⟩
  refine⟨Xd kb.size hu (ty:=311) (fun e w h1 h2=>by have g1:=toD h1;clear h1;go_simp;first|done|rfl) rfl rfl (by decide) kb.s1 kb.hbp ⟨by decide,by decide,by decide,by decide⟩ rfl,?_⟩
  refine⟨Xt (m:=75) (v:=76) (k:=7) (jm:=83) (jv:=84) (fun e w w' b u h1 h2 h3=>by have g1:=toD h1;have g2:=toD h2;have g3:(Instr.mapUpdate 268 (.map (some b)) (.int .i64 7) u).run Tryz.prog w=.ok () w':=h3;clear h1 h2 h3;simp[execOp,Act.eval,g1,g2,g3,Result.andThen]) rfl rfl (by decide) rfl (.inr ⟨_,rfl,kb.lp.any⟩) (Zh rfl) (Zh rfl) (by decide),?_⟩
  refine⟨Qa kb.size hu (j:=83) rfl rfl rfl rfl (Zh rfl) ⟨by decide,by decide,by decide,by decide⟩,?_⟩
  refine⟨V9 kb.size hu (ms:=[0]) (fun e w=>by go_simp;first|done|rfl) rfl rfl ⟨by decide,by decide,by decide,by decide⟩,?_⟩
  refine⟨Qb kb hu (f:=74) (m:=77) (s2:=78) (jf:=82) (jm:=86) (js:=87) (word:=[99,97,112,105,116,97,108]) (cls:=1) (ms:=[0]) (fun e w b bs h1 h2 h3=>by have g1:=toD h1;have g2:=toD h2;have g3:=toD h3;clear h1 h2 h3;go_simp;first|done|rfl) rfl rfl rfl rfl rfl (Zh rfl) (Zh rfl) (Zh rfl) (by decide) (by decide) (by decide) ⟨by decide,by decide,by decide,by decide⟩,?_⟩
  refine⟨Ym (v:=79) (k:=13) (jv:=88) (fun e w w' b u h1 h2 h3=>by have g1:=toD h1;have g2:=toD h2;have g3:(Instr.mapUpdate 272 (.map (some b)) (.int .i64 13) u).run Tryz.prog w=.ok () w':=h3;clear h1 h2 h3;simp[execOp,Act.eval,g1,g2,g3,Result.andThen]) rfl rfl rfl (Zh rfl) (Zh rfl) (by decide),?_⟩
  refine⟨Xd kb.size hu (ty:=313) (fun e w h1 h2=>by have g1:=toD h1;clear h1;go_simp;first|done|rfl) rfl rfl (by decide) kb.s3 kb.hbo ⟨by decide,by decide,by decide,by decide⟩ rfl,?_⟩
  refine⟨S9 kb.size hu rfl rfl rfl ⟨by decide,by decide,by decide,by decide⟩,?_⟩
  refine⟨XJ kb.size hu (x:=2) rfl rfl rfl (by decide) kb.s2 ⟨by decide,by decide,by decide,by decide⟩,?_⟩
  refine⟨Xt (m:=81) (v:=82) (k:=7) (jm:=91) (jv:=92) (fun e w w' b u h1 h2 h3=>by have g1:=toD h1;have g2:=toD h2;have g3:(Instr.mapUpdate 268 (.map (some b)) (.int .i64 7) u).run Tryz.prog w=.ok () w':=h3;clear h1 h2 h3;simp[execOp,Act.eval,g1,g2,g3,Result.andThen]) rfl rfl (by decide) rfl (.inr ⟨_,rfl,kb.ll.any⟩) (Zh rfl) (Zh rfl) (by decide),?_⟩
  refine⟨Qa kb.size hu (j:=91) rfl rfl rfl rfl (Zh rfl) ⟨by decide,by decide,by decide,by decide⟩,?_⟩
  refine⟨V9 kb.size hu (ms:=[0]) (fun e w=>by go_simp;first|done|rfl) rfl rfl ⟨by decide,by decide,by decide,by decide⟩,?_⟩
  refine⟨Qb kb hu (f:=80) (m:=83) (s2:=84) (jf:=90) (jm:=94) (js:=95) (word:=[99,97,108,108]) (cls:=1) (ms:=[0]) (fun e w b bs h1 h2 h3=>by have g1:=toD h1;have g2:=toD h2;have g3:=toD h3;clear h1 h2 h3;go_simp;first|done|rfl) rfl rfl rfl rfl rfl (Zh rfl) (Zh rfl) (Zh rfl) (by decide) (by decide) (by decide) ⟨by decide,by decide,by decide,by decide⟩,?_⟩
  refine⟨Ym (v:=85) (k:=14) (jv:=96) (fun e w w' b u h1 h2 h3=>by have g1:=toD h1;have g2:=toD h2;have g3:(Instr.mapUpdate 272 (.map (some b)) (.int .i64 14) u).run Tryz.prog w=.ok () w':=h3;clear h1 h2 h3;simp[execOp,Act.eval,g1,g2,g3,Result.andThen]) rfl rfl rfl (Zh rfl) (Zh rfl) (by decide),?_⟩
  refine⟨Xd kb.size hu (ty:=313) (fun e w h1 h2=>by have g1:=toD h1;clear h1;go_simp;first|done|rfl) rfl rfl (by decide) kb.s3 kb.hbo ⟨by decide,by decide,by decide,by decide⟩ rfl,?_⟩
  refine⟨S9 kb.size hu rfl rfl rfl ⟨by decide,by decide,by decide,by decide⟩,?_⟩
  refine⟨XJ kb.size hu (x:=2) rfl rfl rfl (by decide) kb.s2 ⟨by decide,by decide,by decide,by decide⟩,?_⟩
  refine⟨Xt (m:=87) (v:=88) (k:=7) (jm:=99) (jv:=100) (fun e w w' b u h1 h2 h3=>by have g1:=toD h1;have g2:=toD h2;have g3:(Instr.mapUpdate 268 (.map (some b)) (.int .i64 7) u).run Tryz.prog w=.ok () w':=h3;clear h1 h2 h3;simp[execOp,Act.eval,g1,g2,g3,Result.andThen]) rfl rfl (by decide) rfl (.inr ⟨_,rfl,kb.ll.any⟩) (Zh rfl) (Zh rfl) (by decide),?_⟩
  refine⟨Qa kb.size hu (j:=99) rfl rfl rfl rfl (Zh rfl) ⟨by decide,by decide,by decide,by decide⟩,?_⟩
  refine⟨V9 kb.size hu (ms:=[0]) (fun e w=>by go_simp;first|done|rfl) rfl rfl ⟨by decide,by decide,by decide,by decide⟩,?_⟩
  refine⟨Qb kb hu (f:=86) (m:=89) (s2:=90) (jf:=98) (jm:=102) (js:=103) (word:=[112,114,105,99,101]) (cls:=4) (ms:=[0]) (fun e w b bs h1 h2 h3=>by have g1:=toD h1;have g2:=toD h2;have g3:=toD h3;clear h1 h2 h3;go_simp;first|done|rfl) rfl rfl rfl rfl rfl (Zh rfl) (Zh rfl) (Zh rfl) (by decide) (by decide) (by decide) ⟨by decide,by decide,by decide,by decide⟩,?_⟩
  refine⟨Ym (v:=91) (k:=15) (jv:=104) (fun e w w' b u h1 h2 h3=>by have g1:=toD h1;have g2:=toD h2;have g3:(Instr.mapUpdate 272 (.map (some b)) (.int .i64 15) u).run Tryz.prog w=.ok () w':=h3;clear h1 h2 h3;simp[execOp,Act.eval,g1,g2,g3,Result.andThen]) rfl rfl rfl (Zh rfl) (Zh rfl) (by decide),?_⟩
  refine⟨XJ kb.size hu (x:=5) rfl rfl rfl (by decide) kb.s5 ⟨by decide,by decide,by decide,by decide⟩,?_⟩
  refine⟨Xd kb.size hu (ty:=313) (fun e w h1 h2=>by have g1:=toD h1;clear h1;go_simp;first|done|rfl) rfl rfl (by decide) kb.s3 kb.hbo ⟨by decide,by decide,by decide,by decide⟩ rfl,?_⟩
  refine⟨S9 kb.size hu rfl rfl rfl ⟨by decide,by decide,by decide,by decide⟩,?_⟩
  refine⟨Xd kb.size hu (ty:=311) (fun e w h1 h2=>by have g1:=toD h1;clear h1;go_simp;first|done|rfl) rfl rfl (by decide) kb.s1 kb.hbp ⟨by decide,by decide,by decide,by decide⟩ rfl,?_⟩
  refine⟨Xt (m:=94) (v:=95) (k:=8) (jm:=108) (jv:=109) (fun e w w' b u h1 h2 h3=>by have g1:=toD h1;have g2:=toD h2;have g3:(Instr.mapUpdate 268 (.map (some b)) (.int .i64 8) u).run Tryz.prog w=.ok () w':=h3;clear h1 h2 h3;simp[execOp,Act.eval,g1,g2,g3,Result.andThen]) rfl rfl (by decide) rfl (.inr ⟨_,rfl,kb.lp.any⟩) (Zh rfl) (Zh rfl) (by decide),?_⟩
  refine⟨Qa kb.size hu (j:=108) rfl rfl rfl rfl (Zh rfl) ⟨by decide,by decide,by decide,by decide⟩,?_⟩
  refine⟨V9 kb.size hu (ms:=[1,2]) (fun e w=>by go_simp;first|done|rfl) rfl rfl ⟨by decide,by decide,by decide,by decide⟩,?_⟩
  refine⟨Qb kb hu (f:=93) (m:=96) (s2:=97) (jf:=107) (jm:=111) (js:=112) (word:=[114,97,116,101]) (cls:=4) (ms:=[1,2]) (fun e w b bs h1 h2 h3=>by have g1:=toD h1;have g2:=toD h2;have g3:=toD h3;clear h1 h2 h3;go_simp;first|done|rfl) rfl rfl rfl rfl rfl (Zh rfl) (Zh rfl) (Zh rfl) (by decide) (by decide) (by decide) ⟨by decide,by decide,by decide,by decide⟩,?_⟩
  refine⟨Hl kb hu (f:=92) (x:=98) (jf:=106) (jx:=113) (fun e w u h1 h2=>by have g1:=toD h1;have g2:=toD h2;clear h1 h2;go_simp;first|done|rfl) rfl rfl rfl rfl (Zh rfl) (Zh rfl) (by decide) ⟨by decide,by decide,by decide,by decide⟩,?_⟩
  refine⟨Ym (v:=99) (k:=16) (jv:=114) (fun e w w' b u h1 h2 h3=>by have g1:=toD h1;have g2:=toD h2;have g3:(Instr.mapUpdate 272 (.map (some b)) (.int .i64 16) u).run Tryz.prog w=.ok () w':=h3;clear h1 h2 h3;simp[execOp,Act.eval,g1,g2,g3,Result.andThen]) rfl rfl rfl (Zh rfl) (Zh rfl) (by decide),?_⟩
  refine⟨XJ kb.size hu (x:=4) rfl rfl rfl (by decide) kb.s4 ⟨by decide,by decide,by decide,by decide⟩,?_⟩
  refine⟨OZ kb hu (f:=100) (j:=116) (word:=[105,115,115,117,101]) (fun e w h1=>by have g1:=toD h1;clear h1;go_simp;first|done|rfl) rfl rfl rfl (Zh rfl) (by decide) ⟨by decide,by decide,by decide,by decide⟩,?_⟩
  refine⟨Ym (v:=101) (k:=17) (jv:=117) (fun e w w' b u h1 h2 h3=>by have g1:=toD h1;have g2:=toD h2;have g3:(Instr.mapUpdate 272 (.map (some b)) (.int .i64 17) u).run Tryz.prog w=.ok () w':=h3;clear h1 h2 h3;simp[execOp,Act.eval,g1,g2,g3,Result.andThen]) rfl rfl rfl (Zh rfl) (Zh rfl) (by decide),?_⟩
  refine⟨XJ kb.size hu (x:=4) rfl rfl rfl (by decide) kb.s4 ⟨by decide,by decide,by decide,by decide⟩,?_⟩
  refine⟨OZ kb hu (f:=102) (j:=119) (word:=[99,97,110,99,101,108]) (fun e w h1=>by have g1:=toD h1;clear h1;go_simp;first|done|rfl) rfl rfl rfl (Zh rfl) (by decide) ⟨by decide,by decide,by decide,by decide⟩,?_⟩
  refine⟨Ym (v:=103) (k:=18) (jv:=120) (fun e w w' b u h1 h2 h3=>by have g1:=toD h1;have g2:=toD h2;have g3:(Instr.mapUpdate 272 (.map (some b)) (.int .i64 18) u).run Tryz.prog w=.ok () w':=h3;clear h1 h2 h3;simp[execOp,Act.eval,g1,g2,g3,Result.andThen]) rfl rfl rfl (Zh rfl) (Zh rfl) (by decide),?_⟩
  exact trivial
 case ende=>
  intro listed a' w' hall hI;simp only[List.dropLast_cons_cons,List.dropLast_singleton,List.getLast_cons_cons,List.getLast_singleton];have hl0:=hall 0 (by simp)
  obtain⟨b,k1,k2,k3,k4,k5⟩:=hI.o1 hl0;have h4:Y5 w' b 4:=k4 16 4 (hall 16 (by simp)) rfl
  have hz:a'.tmps.size=105:=hI.size;have hdf:a'.defers=[]:=hI.dfr;have e1:a'.eval (.tmp 15)=.map (some b):=k1;refine wpList_plain rfl (fun K hK=>ZF (v:=.map (some b)) (w':=w') (by simp[execOp,e1]) (hK _ _ ?_))
  have e2:(a'.put (some 104) (.map (some b))).eval (.tmp 104)=.map (some b):=by
   have:=Wi (a:=a') (d:=104) (s:=104) (v:=.map (some b)) (by rw[hz];decide)
   rw[if_pos rfl] at this;exact this
  refine wpList_plain rfl (fun K hK=>ZF (v:=.map (some b)) (w':=w') (by simp[execOp,e2]) (hK _ _ ?_))
  apply wpList_nil;have e3:(((a'.put (some 104) (.map (some b))).put (some 0) (.map (some b))).tmps).getD 0 undef=.map (some b):=by
   have:=Wi (a:=a'.put (some 104) (.map (some b))) (d:=0) (s:=0) (v:=.map (some b)) (by show 0<(a'.tmps.setIfInBounds _ _).size;rw[Array.size_setIfInBounds,hz];decide)
   rw[if_pos rfl] at this;exact this
  change Exit.then _ _ Exit.normal ((a'.put (some 104) (.map (some b))).put (some 0) (.map (some b))) w';have hdf9:((a'.put (some 104) (.map (some b))).put (some 0) (.map (some b))).defers=[]:=hdf;obtain⟨es,c,o1,o2,o3⟩:=k3;have HEND:Hid (w'.heap[b]?=some (.map es c)/\QE (w2.heap.size+2) w' b/\Y5 w' b 4/\w'.heap[w2.heap.size+2]?=some (.map (YU [(4,(.func (.func 286) #[] #[.pointer (some ⟨b1,0,none⟩),.pointer (some ⟨b2,0,none⟩)])),(5,vl),(6,vl)]) 3)/\UA w' b (.func (.func 286) #[] #[.pointer (some ⟨b1,0,none⟩),.pointer (some ⟨b2,0,none⟩)]) true false/\UA w' b vl false false/\Below w.heap.size w w'):=by
   have hb0:Below W0.heap.size W0 w':=⟨hI.below.os,hI.below.tape,hI.below.output,hI.below.size,hI.below.block⟩;exact⟨o1,⟨es,c,o1,o2,o3⟩,h4,Zk J1.out hb0,HLP.out.re hb0 k2,HLL.out.re hb0 k2,bto HB.out hb0⟩
  generalize ((a'.put (some 104) (.map (some b))).put (some 0) (.map (some b)))=a9 at *;clear hI k1 k2 k4 k5 h4 e1 e2 hz hdf o1 o2 o3 hall hl0 hu q1 hmk;go_wp2;refine bodyPost_ret (v:=.map (some b)) ?_ hdf9 ?_
  ·have e4:a9.tmps[0]?.getD undef=.map (some b):=by rw[<-Array.getD_eq_getD_getElem?];exact e3
   simp[results,Tryz.results183,go_sem,e4]
  exact⟨b,_,_,_,es,c,rfl,HEND.out⟩
theorem Zak {word:List UInt8} {cls:Int} {H:List Bool} {M:Option Nat} {code:Bool} (h:H.length=13):(ZE word cls H M code)[15]?=some (.map M)/\(ZE word cls H M code)[16]?=some (.bool code):=by
 unfold ZE;rw[List.getElem?_toArray,List.getElem?_toArray,List.getElem?_cons_succ,List.getElem?_cons_succ,List.getElem?_cons_succ,List.getElem?_cons_succ,List.getElem?_append_right (by rw[List.length_map,h];decide),List.getElem?_append_right (by rw[List.length_map,h];decide),List.length_map,h]
 exact⟨rfl,rfl⟩
structure Zal (w:World) (M:Option Nat) (k:Nat) (p q:Bool):Prop where
 is:∃bm es c j u b1 b2,M=some bm/\w.heap[bm]?=some (.map es c)/\Instr.findNow (.int .i64) (.int .i64 (k:Int)) es.toList 0=some (some (j,u))/\u=.func (.func 286) #[] #[.pointer (some ⟨b1,0,none⟩),.pointer (some ⟨b2,0,none⟩)]/\Blk w b1 #[.bool p]/\Blk w b2 #[.bool q]
theorem MQ {f:Fct} {w:World} {word:List UInt8} {cls:Int} {H:List Bool} {M:Option Nat} {code:Bool} {k:Nat} {p q:Bool} {l l':List UInt8} (hG:GE w) (hs:ZbG f) (hl:H.length=13) (hk:JU f k=some (l,l')) (hX:Zal w M k p q) :
  Calls Tryz.prog 184 #[.agg (ZB f),.agg (ZE word cls H M code),.int .i64 (k:Int)] w fun e w'=>e=.returned (.int .i64 (bwE p q l l' (fv l l')))/\Below w.heap.size w w':=by
 obtain⟨g1,g2,g3,g4⟩:=Xi w (.cells (ZB f) 48) (.cells (ZE word cls H M code) 270);obtain⟨bm,es,c,j,u,b1,b2,rfl,h1,h2,h3,h4,h5⟩:=hX.is;obtain⟨hl1,hl2⟩:=Zac hs hk;have CV:=Lh (Cg (f:=f) hk);obtain⟨E,hE⟩:∃E,E=bwE p q l l' (fv l l'):=⟨_,rfl⟩
 rw[<-hE];obtain⟨W0,hW0⟩:∃W0,W0=(w.alloc (.cells (ZB f) 48)).alloc (.cells (ZE word cls H (some bm) code) 270):=⟨_,rfl⟩
 rw[<-hW0] at g1 g2 g3;have X0:Hid (Blk W0 w.heap.size (ZB f)):=⟨_,g1⟩;have X1:Hid (W0.cell? ⟨w.heap.size+1,15,none⟩=some (.map (some bm))):=(Zg g2 15).trans (Zak hl).1;have HM:=Lh (Zk h1 g3);have HF:=Lh h2;have H4:=Lh (h4.below g3);have H5:=Lh (h5.below g3);have HB:=Lh g3;have HU:=Lh h3;have CB:Hid (∀w',GE w'->Blk w' b1 #[.bool p]->Blk w' b2 #[.bool q]->Calls Tryz.prog 286 #[.agg #[.string ⟨l.toArray⟩,.string ⟨l'.toArray⟩],.pointer (some ⟨b1,0,none⟩),.pointer (some ⟨b2,0,none⟩)] w' fun e w''=>e=.returned (.int .i64 E)/\Below w'.heap.size w' w''):=fun w' hG' k1 k2=>by
  rw[hE];exact Zcu p q (Av (k:=1000) hl1 hl2 (by decide)) hG' k1 k2
 have HW0:=Lh hW0;have HK:Hid (4<=k/\k<=9):=by
  show _/\_;unfold JU at hk
  split at hk<;>first|(cases hk;omega)|cases hk
 clear g1 g2 g3 g4 h1 h2 h3 h4 h5 hl1 hl2 hE hW0 hX hs hk hl;have k0:((k:Int)==0)=false:=by rw[Bn];have:=HK.out;omega
 have k1:((k:Int)==1)=false:=by rw[Bn];have:=HK.out;omega
 have k2:((k:Int)==2)=false:=by rw[Bn];have:=HK.out;omega
 have k3:((k:Int)==3)=false:=by rw[Bn];have:=HK.out;omega
 have k10:((k:Int)==10)=false:=by rw[Bn];have:=HK.out;omega
 have k11:((k:Int)==11)=false:=by rw[Bn];have:=HK.out;omega
 have k12:((k:Int)==12)=false:=by rw[Bn];have:=HK.out;omega
 have e0:¬(k:Int)=0:=by have:=HK.out;omega
 have e1:¬(k:Int)=1:=by have:=HK.out;omega
 have e2:¬(k:Int)=2:=by have:=HK.out;omega
 have e3:¬(k:Int)=3:=by have:=HK.out;omega
 have e10:¬(k:Int)=10:=by have:=HK.out;omega
 have e11:¬(k:Int)=11:=by have:=HK.out;omega
 have e12:¬(k:Int)=12:=by have:=HK.out;omega
 go_enter Tryz.func184,Tryz.ntmps184;go_wp2_with fail;rw[<-HW0.out];refine Zt (by kernel_rfl) (by kernel_rfl) ?_
 refine Zd _ (fun _=>rfl) (fun ρ wz hw=>by go_simp;try with_reducible rfl) ?_
 simp only[Act.put,StT,StZ,StS,Nat.reduceAdd];refine Zd _ (fun _=>rfl) (fun ρ wz hw=>by have q0:wz.cell? ⟨w.heap.size+1,15,none⟩=some (.map (some bm)):=(World.cell?_of_block (hw.block _ (World.block_lt_of_cell? _ _ X1.out))).trans X1.out;go_simp;try with_reducible rfl) ?_
 simp only[Act.put,StT,StZ,StS,Nat.reduceAdd];refine Zd _ (fun _=>rfl) (fun ρ wz hw=>by go_simp;try with_reducible rfl) ?_
 simp only[Act.put,StT,StZ,StS,Nat.reduceAdd];refine Zd u (fun _=>rfl) (fun ρ wz hw=>by have q0:=Un (P:=Tryz.prog) (mty:=268) (key:=.int .i64 (k:Int)) Tryz.underlying268 Tryz.underlying3 rfl (Zk HM.out hw) HF.out false;go_simp;try with_reducible rfl) ?_
 simp only[Act.put,StT,StZ,StS,Nat.reduceAdd];refine Zd (.agg (ZB f)) (fun _=>rfl) (fun ρ wz hw=>Wu 48 _ rfl w.heap.size rfl (ZB f) (X0.out.below hw) Tryz.underlying48 rfl Z8) ?_
 simp only[Act.put,StT,StZ,StS,Nat.reduceAdd];refine Zd _ (fun _=>rfl) (fun ρ wz hw=>by go_simp;try with_reducible rfl) ?_
 simp only[Act.put,StT,StZ,StS,Nat.reduceAdd];refine Zr _ _ _ (fun _=>rfl) (fun ρ wz hw=>by go_simp;try with_reducible rfl) (fun wz hw=>CV.out.of hG (bto HB.out hw)) ?_
 simp only[Act.put,StT,StZ,StS,Nat.reduceAdd];refine Zr 286 #[.agg #[.string ⟨l.toArray⟩,.string ⟨l'.toArray⟩],.pointer (some ⟨b1,0,none⟩),.pointer (some ⟨b2,0,none⟩)] _ (fun _=>rfl) (fun ρ wz hw=>by rw[HU.out];go_simp;try with_reducible rfl) (fun wz hw=>CB.out wz (hG.below (bto HB.out hw)) (H4.out.below hw) (H5.out.below hw)) ?_
 simp only[Act.put,StT,StZ,StS,Nat.reduceAdd];refine Zd _ (fun _=>rfl) (fun ρ wz hw=>by go_simp;try with_reducible rfl) ?_
 simp only[Act.put,StT,StZ,StS,Nat.reduceAdd];refine Ye (fun ρ w9 hF=>?_)
 have hb9:=bto HB.out hF.below;clear hF;go_wp2;go_ret;exact⟨rfl,hb9⟩
def ZaV (f:Fct) (ps:List Pk):Nat->Prop
 | 0=>nmE f.ins=0
 | 10=>ps=[]/\0<=val f.q
 | _=>False
def Pm (w:World) (u:Value) (p q:Bool):Prop:=∃b1 b2,u=.func (.func 286) #[] #[.pointer (some ⟨b1,0,none⟩),.pointer (some ⟨b2,0,none⟩)]/\Blk w b1 #[.bool p]/\Blk w b2 #[.bool q]
theorem Pm.below {w w':World} {u:Value} {p q:Bool} (h:Pm w u p q) (hb:Below w.heap.size w w'):Pm w' u p q:=by
 obtain⟨b1,b2,e,h1,h2⟩:=h;exact⟨b1,b2,e,h1.below hb,h2.below hb⟩
def KXF (w:World) (v:Value):Prop:=∃bt vp vl,KX bt v/\w.heap[bt]?=some (.map (YU [(4,vp),(5,vl),(6,vl)]) 3)/\Pm w vp true false/\Pm w vl false false
theorem KXF.below {w w':World} {v:Value} (h:KXF w v) (hb:Below w.heap.size w w'):KXF w' v:=by
 obtain⟨bt,vp,vl,h1,h2,h3,h4⟩:=h;exact⟨bt,vp,vl,h1,Zk h2 hb,h3.below hb,h4.below hb⟩
theorem J0 {w:World} {bt:Nat} {vp vl:Value} (h:w.heap[bt]?=some (.map (YU [(4,vp),(5,vl),(6,vl)]) 3)) (h1:Pm w vp true false) (h2:Pm w vl false false):Zal w (some bt) 4 true false/\Zal w (some bt) 5 false false/\Zal w (some bt) 6 false false:=by
 obtain⟨b1,b2,e1,k1,k2⟩:=h1;obtain⟨b3,b4,e2,k3,k4⟩:=h2;obtain⟨j4,f4⟩:=S7 (kd:=.i64) [(4,vp),(5,vl),(6,vl)] 0 4 vp 0 (by simp) (by simp)
 obtain⟨j5,f5⟩:=S7 (kd:=.i64) [(4,vp),(5,vl),(6,vl)] 0 5 vl 0 (by simp) (by simp)
 obtain⟨j6,f6⟩:=S7 (kd:=.i64) [(4,vp),(5,vl),(6,vl)] 0 6 vl 0 (by simp) (by simp)
 exact⟨⟨bt,_,_,j4,vp,b1,b2,rfl,h,f4,e1,k1,k2⟩,⟨bt,_,_,j5,vl,b3,b4,rfl,h,f5,e2,k3,k4⟩,⟨bt,_,_,j6,vl,b3,b4,rfl,h,f6,e2,k3,k4⟩⟩
def Fw (w:World) (u:Value):Prop:=∃r bt vp vl es c,u=.map (some r)/\w.heap[r]?=some (.map es c)/\QE bt w r/\Y5 w r 4/\w.heap[bt]?=some (.map (YU [(4,vp),(5,vl),(6,vl)]) 3)/\Pm w vp true false/\Pm w vl false false
theorem Fw.below {w w':World} {u:Value} (h:Fw w u) (hb:Below w.heap.size w w'):Fw w' u:=by
 obtain⟨r,bt,vp,vl,es,c,e,h1,h2,h3,h4,h5,h6⟩:=h;exact⟨r,bt,vp,vl,es,c,e,Zk h1 hb,h2.below hb,h3.below hb,Zk h4 hb,h5.below hb,h6.below hb⟩
def KQ (kd:Int) (w:World) (v:Value):Prop:=KPg w v/\(kd=4->KXF w v)
theorem KQ.below {kd:Int} {w w':World} {v:Value} (h:KQ kd w v) (hb:Below w.heap.size w w'):KQ kd w' v:=⟨h.1.below hb,fun e=>(h.2 e).below hb⟩
theorem Zcw {w:World} {u:Value} (kd:Int) (h:Fw w u):∃v b,(Instr.lookup 272 u (.int .i64 kd) true).run Tryz.prog w=.ok (.tuple #[v,.bool b]) w/\KQ kd w v/\(kd=4->b=true):=by
 obtain⟨r,bt,vp,vl,es,c,rfl,h1,ho,hk,h4,h5,h6⟩:=h;obtain⟨es2,c2,g1,g2,g3⟩:=ho;rw[h1] at g1;cases g1;rcases MapKept.findNow_spec (d:=.int .i64) (k:=.int .i64 kd) rfl es.toList 0 (fun x hx=>by obtain⟨k,hk,-⟩:=g3 x hx;rw[hk];rfl) with ⟨h7,h8⟩|⟨j,e,h7,h8,h9⟩
 ·have hr:=TP (P:=Tryz.prog) (mty:=272) (key:=.int .i64 kd) Tryz.underlying272 Tryz.underlying3 rfl h1 (Tryz.zeroValue270 w) h7 true;refine⟨_,_,by rw[if_pos rfl] at hr;exact hr,⟨⟨[],0,List.replicate 13 false,none,false,rfl,rfl,fun i hi=>?_⟩,fun e=>?_⟩,fun e=>?_⟩
  ·rw[List.getElem?_replicate] at hi
   split at hi<;>cases hi
  all_goals
   obtain⟨es3,c3,k1,e3,k2,k3⟩:=hk;rw[h1] at k1;cases k1;exact absurd k3 (by rw[e] at h8;exact h8 e3 k2)
 ·have hr:=Un (P:=Tryz.prog) (mty:=272) (key:=.int .i64 kd) Tryz.underlying272 Tryz.underlying3 rfl h1 h7 true;obtain⟨k,k1,k2,k3⟩:=g3 e (Lm h8);refine⟨_,_,by rw[if_pos rfl] at hr;exact hr,⟨k2,fun e4=>⟨bt,vp,vl,k3 ?_,h4,h5,h6⟩⟩,fun _=>rfl⟩
  rw[h9,e4] at k1;injection k1 with _ k1
  omega
structure GoodS (f:Fct) (ps:List Pk):Prop where
 key:Yv f.key=true
 stamp:0<=f.stamp
 day : -25567<=f.day/\f.day<=84005
 kind:f.kind=4
 g0:ZaV f ps 0
 g10:ZaV f ps 10
 q:bwE true false f.q [] (fv f.q [])=0
 amt:bwE false false f.amt [] (fv f.amt [])=0
 fee:bwE false false f.fee [] (fv f.fee [])=0
 em:∀k∈[1,2,3,7,8,9,11,12],emB f k=true
theorem Zam (w:World):Calls Tryz.prog 183 #[] w fun e w'=>∃u,e=.returned u/\Below w.heap.size w w'/\Fw w' u:=by
 refine (ZbM w).mono ?_;rintro e w' ⟨r,bt,vp,vl,es,c,rfl,h1,h2,h3,h4,h5,h6,h7⟩;obtain⟨b1,b2,e1,k1,k2,-,-⟩:=h5.is;obtain⟨b3,b4,e2,k3,k4,-,-⟩:=h6.is;exact⟨_,rfl,h7,r,bt,vp,vl,es,c,rfl,h1,h2,h3,h4,⟨b1,b2,e1,k1,k2⟩,⟨b3,b4,e2,k3,k4⟩⟩
theorem Cm {word:List UInt8} {cls:Int} {H:List Bool} {M:Option Nat} {code:Bool} {k:Nat} {h:Bool} (hk:H[k]?=some h):(ZE word cls H M code)[2+k]?=some (.bool h):=by
 have hlt:=(Lg.1 hk).1;unfold ZE;rw[List.getElem?_toArray,show 2+k=k+1+1 by omega,List.getElem?_cons_succ,List.getElem?_cons_succ,List.getElem?_append_left (by rw[List.length_map];exact hlt),List.getElem?_map,hk]
 rfl
theorem ZbN {f:Fct} {ps:List Pk} {w:World} {word:List UInt8} {cls:Int} {H:List Bool} {M:Option Nat} {code:Bool} {k:Nat} (hl:H.length=13) (hk:k<13) (hH:H[k]?=some false) (hQ:KQ f.kind w (.agg (ZE word cls H M code))) (hg:GoodS f ps):emB f k=true:=by
 obtain⟨bt,vp,vl,⟨word2,cls2,H2,code2,e2,⟨k1,-⟩,k3⟩,-⟩:=hQ.2 hg.kind;obtain⟨-,-,rfl,-⟩:=OY hl k1 e2;refine hg.em k ?_;have hno:¬(k∈[4,5,6]∨k∈[0,10]):=fun h=>by
  have:=k3 k h
  rw[hH] at this;cases this
 simp only[List.mem_cons,List.not_mem_nil,or_false] at hno ⊢;omega
def xsA:List Lot:=[⟨[97,47,49],[97,98,99],5,5,[49,48],[49,48,48],[]⟩,⟨[98,47,49],[97,98,99],6,6,[53],[56,48],[]⟩]
def fA:Fct:={ key:=[115],ins:=[97,98,99],oth:=[],cur:=[],tgt:=[],q:=[49,50],amt:=[51,48,48],fee:=[55],pn:=[],pd:=[],rn:=[],rd:=[],sn:=[],sd:=[],stamp:=0,day:=9,kind:=4,choice:=0,canc:=false,pA:=none,pN:=0,pC:=0,oA:=none,oN:=0,oC:=0 }
def pkA:List Pk:=[⟨[97,47,49],[49,48]⟩,⟨[98,47,49],[50]⟩]
def tkA:List Lot:=[⟨[97,47,49],[97,98,99],5,5,[49,48],[49,48,48],[]⟩,⟨[98,47,49],[97,98,99],6,6,[50],[51,50],[]⟩]
theorem MR:Vp xsA=0:=by decide +kernel
theorem PI:GoodS fA []:=by
 refine⟨by decide +kernel,by decide,by decide,rfl,(by show nmE fA.ins=0;decide +kernel),⟨rfl,by decide +kernel⟩,by decide +kernel,by decide +kernel,by decide +kernel,?_⟩
 decide +kernel
theorem Cn:chE xsA fA.ins fA.q 1 []=0:=by decide +kernel
theorem ZbO:Nr cfF (ofL fA.ins xsA):=by
 intro i x y hx hy;have e:ofL fA.ins xsA=xsA:=by decide +kernel
 rw[e] at hx hy;have hi:=(Lg.1 hy).1;have hi:i=0:=by simp[xsA] at hi;omega
 subst hi;simp[xsA] at hx hy;subst hx;subst hy;decide +kernel
theorem Zcx {pk:List Pk} (h:ZbC xsA fA.ins fA.q 1 [] pk):pk=pkA:=by
 obtain⟨zs,-,h20,rfl⟩:=h;rw[h20 rfl (by decide +kernel) ZbO]
 decide +kernel
theorem Hn:VB xsA [] pkA=0:=by decide +kernel
theorem Zan:(Yw (xsA,[]) pkA).2=tkA:=by decide +kernel
theorem J2:canon (val fA.amt-val fA.fee)=[50,57,51]:=by decide +kernel
theorem Co:val [50,57,51]=293/\tkA.map (fun x=>val x.q)=[10,2]:=by decide +kernel
theorem Cp {zs:List Int} (h:Qy 293 [10,2] zs):zs=[244,49]:=by
 rcases h with ⟨-,h⟩|⟨h,-⟩
 rotate_left
 ·omega
 have hl:=h.len;have hs:=h.sum
 match zs,hl with
 | [a,b],_=>
  have e1:WX 293 ([10,2]:List Int).sum [10,2]=[244,48]:=by decide +kernel
  have e2:VH 293 ([10,2]:List Int).sum [10,2]=[2,10]:=by decide +kernel
  have h0:=h.at' 0;have h1:=h.at' 1;have ho:=h.ord 0 1 (by decide) (by decide)
  rw[e1] at h0 h1;rw[e1,e2] at ho;simp at h0 h1 ho hs;have hab:¬(a=245/\b=48):=fun ⟨ha,hb⟩=>by have:=ho ha hb;omega
  rcases h0 with rfl|rfl<;>rcases h1 with rfl|rfl<;>first|rfl|omega
def gnA:List Gn:=[⟨[115],[97,47,49],[97,98,99],5,9,[49,48],[50,52,52],[49,48,48]⟩,⟨[115],[98,47,49],[97,98,99],6,9,[50],[52,57],[51,50]⟩]
theorem Cq:(tkA.zip (([244,49]:List Int).map canon)).map (ML fA.key fA.ins fA.day)=gnA:=by
 have e:([244,49]:List Int).map canon=[[50,52,52],[52,57]]:=by decide +kernel
 rw[e];rfl
def GaQ (w:World) (v:Value):Prop:=∃g cap cur,v=.slice (some ⟨g,0,none⟩) 2 cap/\w.heap[g]?=some (.cells cur 89 (0,0))/\20<=cur.size/\cur.toList.take 20=WJ gnA
theorem GaQ.below {w w':World} {v:Value} (h:GaQ w v) (hb:Below w.heap.size w w'):GaQ w' v:=by
 obtain⟨g,cap,cur,e,h1,h2⟩:=h;exact⟨g,cap,cur,e,Zk h1 hb,h2⟩
theorem ZbP {w:World} {B:Nat} {v:Value} (h:w.ownsRow B 89 10 v 2 (WJ gnA)):GaQ w v:=by
 rcases h.2 with ⟨-,h0⟩|⟨g,cap,cur,e,-,h1,h2,-,h3,h4⟩
 ·cases h0
 ·exact⟨g,cap,cur,e,h1,by omega,h4⟩
theorem GaQ.at {w:World} {v:Value} (h:GaQ w v):∃g cap,v=.slice (some ⟨g,0,none⟩) 2 cap/\w.cell? ⟨g,6,none⟩=some (.string ⟨#[50,52,52]⟩)/\w.cell? ⟨g,16,none⟩=some (.string ⟨#[52,57]⟩)/\w.cell? ⟨g,17,none⟩=some (.string ⟨#[51,50]⟩):=by
 obtain⟨g,cap,cur,e,h1,h2,h3⟩:=h;have key:∀j u,j<20->(WJ gnA)[j]?=some u->w.cell? ⟨g,j,none⟩=some u:=fun j u hj hu=>by
  rw[Zg h1,<-Array.getElem?_toList,<-hu,<-h3,List.getElem?_take,if_pos hj]
 exact⟨g,cap,e,key 6 _ (by decide) rfl,key 16 _ (by decide) rfl,key 17 _ (by decide) rfl⟩
def TQA (w:World) (u:Value):Prop:=∃r v1 v2,u=.tuple #[.agg #[r,v1,v2,.slice none 0 0],.int .i64 0]/\r.oneCell'=true/\v2.oneCell'=true/\GaQ w v1
structure Pn (b:Nat) (w w':World):Prop where
 old:∃cs t,w.heap[b]?=some (.cells cs t (0,0))/\cs.size=17
 size:w.heap.size<=w'.heap.size
 block:∀c,c≠b->c<w.heap.size->w'.heap[c]?=w.heap[c]?
section
variable {b:Nat} {w w':World}
theorem Blk.row {c:Nat} {cs:Array Value} (h:Blk w c cs) (hs:cs.size=1) (hr:Pn b w w'):Blk w' c cs:=by
 obtain⟨t,h⟩:=h;obtain⟨cs2,t2,h2,h3⟩:=hr.old;have hne:c≠b:=fun e=>by
  subst e;rw[h] at h2;cases h2;omega
 exact⟨t,(hr.block c hne (Ag.1 h).1).trans h⟩
theorem Pn.map (hr:Pn b w w') {c:Nat} {es:Array MapEntry} {k:Nat} (h:w.heap[c]?=some (.map es k)):w'.heap[c]?=some (.map es k):=by
 obtain⟨cs2,t2,h2,h3⟩:=hr.old;have hne:c≠b:=fun e=>by
  subst e;rw[h] at h2;cases h2
 exact (hr.block c hne (Ag.1 h).1).trans h
theorem Pm.row {u:Value} {p q:Bool} (h:Pm w u p q) (hr:Pn b w w'):Pm w' u p q:=by
 obtain⟨b1,b2,e,h1,h2⟩:=h;exact⟨b1,b2,e,h1.row rfl hr,h2.row rfl hr⟩
theorem Yo.row {u:Value} (h:Yo w u) (hr:Pn b w w'):Yo w' u:=by
 obtain⟨p,q,b1,b2,e,h1,h2⟩:=h;exact⟨p,q,b1,b2,e,h1.row rfl hr,h2.row rfl hr⟩
theorem VJ.row {c:Nat} (h:VJ w c) (hr:Pn b w w'):VJ w' c:=by
 obtain⟨es,k,h1,h2,h3⟩:=h;exact⟨es,k,hr.map h1,h2,fun e he=>⟨(h3 e he).1,(h3 e he).2.row hr⟩⟩
theorem Y5.row {c i:Nat} (h:Y5 w c i) (hr:Pn b w w'):Y5 w' c i:=by
 obtain⟨es,k,h1,h2⟩:=h;exact⟨es,k,hr.map h1,h2⟩
theorem KPg.row {v:Value} (h:KPg w v) (hr:Pn b w w'):KPg w' v:=by
 obtain⟨word,cls,H,M,code,e,h1,h2⟩:=h;refine⟨word,cls,H,M,code,e,h1,fun i hi=>(h2 i hi).imp id ?_⟩
 rintro⟨c,e2,h3,h4⟩;exact⟨c,e2,h3.row hr,h4.row hr⟩
theorem KXF.row {v:Value} (h:KXF w v) (hr:Pn b w w'):KXF w' v:=by
 obtain⟨bt,vp,vl,h1,h2,h3,h4⟩:=h;exact⟨bt,vp,vl,h1,hr.map h2,h3.row hr,h4.row hr⟩
theorem KQ.row {kd:Int} {v:Value} (h:KQ kd w v) (hr:Pn b w w'):KQ kd w' v:=⟨h.1.row hr,fun e=>(h.2 e).row hr⟩
end
end Go.Proofs.YtpieeldbamklkaaGreatDoor
