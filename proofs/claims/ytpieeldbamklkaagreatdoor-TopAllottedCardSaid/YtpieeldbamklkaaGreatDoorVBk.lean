/- Bk: kept core -/
import Derived.Test.YtpieeldbamklkaaGreatDoorVBa
import Derived.Deep.QuietTactic
import Derived.Below
open Go.Proofs.Tryz
namespace Go.Proofs.YtpieeldbamklkaaGreatDoor
theorem StT {α:Type} (l:List α) (i:Nat) (a:α):l.toArray.setIfInBounds i a=(l.set i a).toArray:=List.setIfInBounds_toArray l i a
theorem StZ {α:Type} (a b:α) (l:List α):(a::l).set 0 b=b::l:=rfl
theorem StS {α:Type} (a b:α) (l:List α) (i:Nat):(a::l).set (i+1) b=a::l.set i b:=rfl
open Go.RowKit
abbrev St:=(Nat->Nat)->Act
abbrev Bx:=Nat->Option (Bool×Obj)
inductive Out where
 | val (v:Value)
 | box (mk:Nat->Value) (ob:Obj)
 | put (k:Nat) (ob0 ob:Obj)
def Out.at (i:Nat) (ρ:Nat->Nat):Out->Value
 | .val v=>v
 | .box mk _=>mk (ρ i)
 | .put _ _ _=>undef
def Out.bx (i:Nat) (B:Bx):Out->Bx
 | .val _=>B
 | .box _ ob=>fun k=>if k=i then some (false,ob) else B k
 | .put j _ ob=>fun k=>if k=j then some (true,ob) else B k
def Out.pre (i:Nat) (B:Bx):Out->Prop
 | .val _=>True
 | .box _ _=>B i=none
 | .put k ob0 _=>B k=some (false,ob0)
structure Xw (w w':World) (b:Nat) (ob:Obj):Prop where
 os:w'.os=w.os
 tape:w'.tape=w.tape
 output:w'.output=w.output
 size:w'.heap.size=w.heap.size
 new:w'.heap[b]?=some ob
 old:∀k,k≠b->w'.heap[k]?=w.heap[k]?
def upd (ρ:Nat->Nat) (i b:Nat):Nat->Nat:=fun k=>if k=i then b else ρ k
def VX (P:Program) (w:World) (v:Value):Result Next->Prop
 | .ok (.value u) w'=>w'=w/\u=v
 | .ok .skip w'=>w'=w/\v=undef
 | .ok (.enter f args) w'=>w'=w/\Calls P f args w (fun e w''=>e=.returned v/\Below w.heap.size w w'')
 | _=>False
section
variable {P:Program} {ops:Array Oper} {md:Region.Mode} {C:World->Prop}
def XP (P:Program) (ops:Array Oper) (C:World->Prop) (o:Oper) (a:St):Out->Prop
 | .val v=>(∀ρ,Region.wanted o (yielded ops (a ρ).tmps)=true/\∀w,C w->VX P w v ((execOp (a ρ).eval o).run P w))∨((∀ρ,Region.wanted o (yielded ops (a ρ).tmps)=false)/\v=undef)
 | .box mk ob=>∀ρ,Region.wanted o (yielded ops (a ρ).tmps)=true/\∀w,C w->(execOp (a ρ).eval o).run P w=.ok (.value (mk w.heap.size)) (w.alloc ob)
 | .put k ob0 ob=>(ops[k]?=none∨∃ok d,ops[k]?=some ok/\ok.dst=some d/\d∈o.looksAt ops)/\
   ∀ρ,Region.wanted o (yielded ops (a ρ).tmps)=true/\∀w,C w->w.heap[ρ k]?=some ob0->∃w',(execOp (a ρ).eval o).run P w=.ok .skip w'/\Xw w w' (ρ k) ob
theorem XP.of_same {o:Oper} {x:Out} {a a':St} (hy:XP P ops C o a x) (he:∀ρ,execOp (a' ρ).eval o=execOp (a ρ).eval o)
  (hw:∀ρ,Region.wanted o (yielded ops (a' ρ).tmps)=Region.wanted o (yielded ops (a ρ).tmps)):XP P ops C o a' x:=by
 cases x<;>simp only[XP,he,hw] at *<;>exact hy
def kOp (P:Program) (ops:Array Oper) (C:World->Prop) (i:Nat) (K:St->Bx->Prop) (a:St) (B:Bx):Prop:=
 match ops[i]? with
 | none=>K a B
 | some o=>∃x:Out,x.pre i B/\XP P ops C o a x/\K (fun ρ=>(a ρ).put o.dst (x.at i ρ)) (x.bx i B)
theorem En {i:Nat} {a:St} {B:Bx} {K K':St->Bx->Prop} (h:∀a B,K a B->K' a B) (hh:kOp P ops C i K a B):kOp P ops C i K' a B:=by
 unfold kOp at *
 split
 ·exact h _ _ (by simpa [*] using hh)
 ·rename_i o ho;simp only[ho] at hh;obtain⟨x,h0,h1,h2⟩:=hh;exact⟨x,h0,h1,h _ _ h2⟩
def Ov (P:Program) (md:Region.Mode) (ops:Array Oper) (C:World->Prop) (Q:St->Bx->Prop):Nat->Array Bool->St->Bx->Prop
 | 0,listed,a,B=>Region.ready md ops listed=[]/\Q a B
 | fuel+1,listed,a,B=>
  (Region.ready md ops listed=[]->Q a B)/\
  ∀i∈Region.ready md ops listed,kOp P ops C i (Ov P md ops C Q fuel (listed.setIfInBounds i true)) a B
theorem Aj {i j:Nat} (h:i≠j) (x y:Out) (B:Bx) (hk:∀k ob0 ob,y=.put k ob0 ob->k≠i) (hx:x.pre i B) (hy:y.pre j (x.bx i B)) :
  y.pre j B/\x.pre i (y.bx j B)/\y.bx j (x.bx i B)=x.bx i (y.bx j B):=by
 cases x with
 | val v=>exact⟨hy,trivial,rfl⟩
 | box mk ob=>
  cases y with
  | val v=>exact⟨trivial,hx,rfl⟩
  | box mk' ob'=>
   simp only[Out.pre,Out.bx] at *;rw[if_neg (Ne.symm h)] at hy;refine⟨hy,by rw[if_neg h];exact hx,?_⟩
   funext k
   by_cases h1:k=j
   ·rw[if_pos h1,if_neg (by omega),if_pos h1]
   ·rw[if_neg h1]
    by_cases h2:k=i
    ·rw[if_pos h2,if_pos h2]
    ·rw[if_neg h2,if_neg h2,if_neg h1]
  | put k ob0 ob'=>
   have hki:=hk k ob0 ob' rfl;simp only[Out.pre,Out.bx] at *;rw[if_neg hki] at hy;refine⟨hy,by rw[if_neg (Ne.symm hki)];exact hx,?_⟩
   funext l
   by_cases h1:l=k
   ·rw[if_pos h1,if_neg (by omega),if_pos h1]
   ·rw[if_neg h1]
    by_cases h2:l=i
    ·rw[if_pos h2,if_pos h2]
    ·rw[if_neg h2,if_neg h2,if_neg h1]
 | put k ob0 ob=>
  cases y with
  | val v=>exact⟨trivial,hx,rfl⟩
  | box mk' ob'=>
   simp only[Out.pre,Out.bx] at *
   by_cases hjk:j=k
   ·rw[if_pos hjk] at hy;cases hy
   ·rw[if_neg hjk] at hy;refine⟨hy,by rw[if_neg (Ne.symm hjk)];exact hx,?_⟩
    funext l
    by_cases h1:l=k
    ·rw[if_neg (by omega),if_pos h1,if_pos h1]
    ·rw[if_neg h1,if_neg h1]
  | put k' ob0' ob'=>
   simp only[Out.pre,Out.bx] at *
   by_cases hkk:k'=k
   ·rw[if_pos hkk] at hy;simp at hy
   ·rw[if_neg hkk] at hy;refine⟨hy,by rw[if_neg (Ne.symm hkk)];exact hx,?_⟩
    funext l
    by_cases h1:l=k
    ·rw[if_neg (by omega),if_pos h1,if_pos h1]
    ·rw[if_neg h1,if_neg h1]
theorem Ak {i j:Nat} {oi oj:Oper} {x:Out} (hij:i≠j) (hj:ops[j]?=some oj) (hap:oi.apart ops oj=true)
  (hsi:∀cs b,oi.op≠.select cs b) (hsj:∀cs b,oj.op≠.select cs b) {K:St->Bx->Prop} {a:St} {B:Bx}
  (hi:ops[i]?=some oi) (hp:x.pre i B) (hy:XP P ops C oi a x) (h:kOp P ops C j K (fun ρ=>(a ρ).put oi.dst (x.at i ρ)) (x.bx i B)) :
  kOp P ops C j (fun a' B'=>x.pre i B'/\XP P ops C oi a' x/\K (fun ρ=>(a' ρ).put oi.dst (x.at i ρ)) (x.bx i B')) a B:=by
 obtain⟨h1,h2,h3⟩:=Oper.apart_spec hap;unfold kOp at *;simp only[hj] at *;obtain⟨y,hp',hy',hK⟩:=h;have hk:∀k ob0 ob,y=.put k ob0 ob->k≠i:=by
  rintro k ob0 ob rfl rfl;rcases hy'.1 with e1|⟨ok,d,e1,e2,e3⟩
  ·rw[hi] at e1;cases e1
  rw[hi] at e1;injection e1 with e1
  subst e1;exact h1 d e2 e3
 obtain⟨m1,m2,m3⟩:=Aj hij x y B hk hp hp'
 refine⟨y,m1,hy'.of_same (fun ρ=>(execOp_put oj hsj (a ρ) oi.dst _ h1).symm) (fun ρ=>(wanted_put oj (a ρ) oi.dst _ h1).symm),m2,
  hy.of_same (fun ρ=>execOp_put oi hsi (a ρ) oj.dst _ h3) (fun ρ=>wanted_put oi (a ρ) oj.dst _ h3),?_⟩
 have e1:(fun ρ=>((a ρ).put oj.dst (y.at j ρ)).put oi.dst (x.at i ρ))=fun ρ=>((a ρ).put oi.dst (x.at i ρ)).put oj.dst (y.at j ρ):=by
  funext ρ;exact (Act.put_comm (a ρ) _ _ h2).symm
 rw[e1,<-m3];exact hK
theorem Mp {Q:St->Bx->Prop} {i:Nat} {oi:Oper} {x:Out} (hi:ops[i]?=some oi) (hsel:∀(j:Nat) (o:Oper) cs b,ops[j]?=some o->o.op≠.select cs b) :
  ∀(fuel:Nat) (listed:Array Bool) (a:St) (B:Bx),
   (∀j oj,ops[j]?=some oj->j≠i->listed.getD j true=false->(∀e∈oj.after,Region.binds md e=true->e.on≠i)->oi.apart ops oj=true)->
   i∈Region.ready md ops listed->x.pre i B->XP P ops C oi a x->
   Ov P md ops C Q fuel (listed.setIfInBounds i true) (fun ρ=>(a ρ).put oi.dst (x.at i ρ)) (x.bx i B)->Ov P md ops C Q (fuel+1) listed a B:=by
 intro fuel
 induction fuel with
 | zero=>
  intro listed a B _ hr hp hy H;refine⟨fun h=>(by rw[h] at hr;cases hr),fun j hj=>?_⟩
  by_cases hji:j=i
  ·subst hji;unfold kOp;simp only[hi];exact⟨x,hp,hy,H⟩
  ·have:=ready_mono hj hji
   rw[H.1] at this;cases this
 | succ fuel ih=>
  intro listed a B hfree hr hp hy H;refine⟨fun h=>(by rw[h] at hr;cases hr),fun j hj=>?_⟩
  by_cases hji:j=i
  ·subst hji;unfold kOp;simp only[hi];exact⟨x,hp,hy,H⟩
  ·have h1:=H.2 j (ready_mono hj hji);obtain⟨hjun,oj,hoj,hall⟩:=mem_ready.1 hj;have hnot:∀e∈oj.after,Region.binds md e=true->e.on≠i:=fun e he hb heq=>by
    have h1:=hall e he hb;have h0:=(mem_ready.1 hr).1;rw[heq] at h1;rcases Nat.lt_or_ge i listed.size with h'|h'
    ·simp[h'] at h0 h1;rw[h0] at h1;cases h1
    ·simp[Array.getElem?_eq_none h'] at h1
   have h2:=Ak (Ne.symm hji) hoj (hfree j oj hoj hji hjun hnot) (fun cs b=>hsel i oi cs b hi) (fun cs b=>hsel j oj cs b hoj) hi hp hy h1
   have hfree':∀k ok,ops[k]?=some ok->k≠i->(listed.setIfInBounds j true).getD k true=false->
     (∀e∈ok.after,Region.binds md e=true->e.on≠i)->oi.apart ops ok=true:=fun k ok hk hki hun hno=>by
    refine hfree k ok hk hki ?_ hno
    by_cases hjk:j=k
    ·subst hjk;exact hjun
    ·rw[getD_set_ne true hjk] at hun;exact hun
   refine En (fun a' B' h3=>ih (listed.setIfInBounds j true) a' B' hfree' (ready_mono hr (Ne.symm hji)) h3.1 h3.2.1 ?_) h2
   rw[Array.setIfInBounds_comm _ _ hji];exact h3.2.2
def ZI (P:Program) (ops:Array Oper) (C:World->Prop) (Q:St->Bx->Prop):List Oper->Nat->St->Bx->Prop
 | [],_,a,B=>Q a B
 | o::rest,i,a,B=>∃x:Out,x.pre i B/\XP P ops C o a x/\ZI P ops C Q rest (i+1) (fun ρ=>(a ρ).put o.dst (x.at i ρ)) (x.bx i B)
theorem Vz {Q:St->Bx->Prop} (hs:Region.noSelect ops=true):∀(l:List Oper) (k:Nat) (listed:Array Bool) (a:St) (B:Bx),(∀j,l[j]?=ops[k+j]?)->
  Region.lexFrom md ops l.length k listed=true->ZI P ops C Q l k a B->Ov P md ops C Q l.length listed a B
 | [],_,_,_,_,_,hB,h=>⟨by simpa [Region.lexFrom] using hB,h⟩
 | o::l,k,listed,a,B,hl,hB,h=>by
  have h0:ops[k]?=some o:=by simpa using (hl 0).symm
  simp only[List.length_cons,Region.lexFrom,Bool.and_eq_true] at hB;obtain⟨⟨hr,hf⟩,hB'⟩:=hB;obtain⟨x,hp,hy,hK⟩:=h;exact Mp h0 (Region.noSelect_spec hs) l.length listed a B (Region.free_spec h0 hf) (by simpa using hr) hp hy
   (Vz hs l (k+1) _ _ _ (fun j=>by have:=hl (j+1);simpa [Nat.add_assoc,Nat.add_comm 1 j] using this) hB' hK)
structure Fits (w0:World) (ρ:Nat->Nat) (B:Bx) (w:World):Prop where
 below:Below w0.heap.size w0 w
 box:∀i s ob,B i=some (s,ob)->w0.heap.size<=ρ i/\w.heap[ρ i]?=some ob
 ne:∀i j,B i≠none->B j≠none->ρ i=ρ j->i=j
theorem Fits.go {w0 w w':World} {ρ:Nat->Nat} {B:Bx} (h:Fits w0 ρ B w) (hb:Below w.heap.size w w'):Fits w0 ρ B w':=by
 refine⟨h.below.trans (hb.mono h.below.size),fun i s ob hi=>?_,h.ne⟩
 obtain⟨h1,h2⟩:=h.box i s ob hi;exact⟨h1,(hb.block _ (Ag.1 h2).1).trans h2⟩
theorem Fits.alloc {w0 w:World} {ρ:Nat->Nat} {B:Bx} (h:Fits w0 ρ B w) (i:Nat) (mk:Nat->Value) (ob:Obj) :
  Fits w0 (upd ρ i w.heap.size) ((Out.box mk ob).bx i B) (w.alloc ob):=by
 have hlt:∀k,B k≠none->ρ k<w.heap.size:=fun k hk=>by
  cases hB:B k with
  | none=>exact absurd hB hk
  | some o=>exact (Ag.1 (h.box k o.1 o.2 hB).2).1
 refine⟨h.below.alloc h.below.size ob,fun k s o hk=>?_,fun k l hk hl he=>?_⟩
 ·simp only[Out.bx,upd] at *
  by_cases hki:k=i
  ·rw[if_pos hki] at hk ⊢;simp only[Option.some.injEq,Prod.mk.injEq] at hk;obtain⟨-,rfl⟩:=hk;exact⟨h.below.size,by show (w.heap.push ob)[w.heap.size]?=_;simp⟩
  ·rw[if_neg hki] at hk ⊢;obtain⟨h1,h2⟩:=h.box k s o hk;exact⟨h1,(Below.heap_alloc w ob _ (hlt k (by rw[hk];simp))).trans h2⟩
 ·simp only[Out.bx,upd] at *
  by_cases hki:k=i<;>by_cases hli:l=i
  ·rw[hki,hli]
  ·rw[if_pos hki,if_neg hli] at he;rw[if_neg hli] at hl
   have:=hlt l hl;omega
  ·rw[if_neg hki,if_pos hli] at he;rw[if_neg hki] at hk
   have:=hlt k hk;omega
  ·rw[if_neg hki,if_neg hli] at he;rw[if_neg hki] at hk;rw[if_neg hli] at hl;exact h.ne k l hk hl he
theorem Fits.turn {w0 w w':World} {ρ:Nat->Nat} {B:Bx} (h:Fits w0 ρ B w) {i k:Nat} {ob0 ob:Obj} (hB:B k=some (false,ob0)) (ht:Xw w w' (ρ k) ob) :
  Fits w0 ρ ((Out.put k ob0 ob).bx i B) w':=by
 have hk:=(h.box k _ _ hB).1;refine⟨⟨ht.os.trans h.below.os,ht.tape.trans h.below.tape,ht.output.trans h.below.output,by rw[ht.size];exact h.below.size,fun b hb=>(ht.old b (by omega)).trans (h.below.block b hb)⟩,fun l s o hl=>?_,fun l m hl hm he=>?_⟩
 ·simp only[Out.bx] at hl
  by_cases hlk:l=k
  ·rw[if_pos hlk] at hl;simp only[Option.some.injEq,Prod.mk.injEq] at hl;obtain⟨-,rfl⟩:=hl;rw[hlk];exact⟨hk,ht.new⟩
  ·rw[if_neg hlk] at hl;obtain⟨h1,h2⟩:=h.box l s o hl;exact⟨h1,(ht.old _ (fun e=>hlk (h.ne l k (by rw[hl];simp) (by rw[hB];simp) e))).trans h2⟩
 ·have hf:∀l,(Out.put k ob0 ob).bx i B l≠none->B l≠none:=fun l hl=>by
   simp only[Out.bx] at hl
   by_cases hlk:l=k
   ·rw[hlk,hB];simp
   ·rwa [if_neg hlk] at hl
  exact h.ne l m (hf l hl) (hf m hm) he
def Ow (listed:Array Bool) (a:St):Prop:=∀(i:Nat) (ρ:Nat->Nat) (b:Nat),listed.getD i true=false->a (upd ρ i b)=a ρ
theorem Ow.put {listed:Array Bool} {a:St} (h:Ow listed a) {i:Nat} (hi:listed.getD i true=false) (d:Option Tmp) (x:Out) :
  Ow (listed.setIfInBounds i true) (fun ρ=>(a ρ).put d (x.at i ρ)):=by
 intro k ρ b hk;have hlt:i<listed.size:=by
  rcases Nat.lt_or_ge i listed.size with h'|h'
  ·exact h'
  ·simp[Array.getElem?_eq_none h'] at hi
 have hki:k≠i:=fun e=>by subst e;simp[hlt] at hk
 have hk':listed.getD k true=false:=by rwa [getD_set_ne true (Ne.symm hki)] at hk
 show (a (upd ρ k b)).put d _=_;rw[h k ρ b hk'];cases x with
 | val v=>rfl
 | box mk ob=>
  show (a ρ).put d (mk (upd ρ k b i))=(a ρ).put d (mk (ρ i))
  have:upd ρ k b i=ρ i:=if_neg (Ne.symm hki)
  rw[this]
 | put k' ob0 ob=>rfl
theorem Z4 {w0:World} {Q:St->Bx->Prop} {Q':Exit->Act->World->Prop} (hQ:∀a B ρ w,Fits w0 ρ B w->Q a B->Q' .normal (a ρ) w) :
  ∀(fuel:Nat) (listed:Array Bool) (a:St) (B:Bx) (ρ:Nat->Nat) (w:World),Fits w0 ρ B w->Ow listed a->
  Ov P md ops (fun w=>Below w0.heap.size w0 w) Q fuel listed a B->wpAny P md ops Q' fuel listed (a ρ) w
 | 0,_,_,_,_,_,hf,_,h=>⟨h.1,hQ _ _ _ _ hf h.2⟩
 | fuel+1,listed,a,B,ρ,w,hf,hfr,h=>by
  refine⟨fun h0=>hQ _ _ _ _ hf (h.1 h0),fun i hi=>?_⟩
  have h1:=h.2 i hi;obtain⟨hun,o,ho,_⟩:=mem_ready.1 hi;unfold kOp at h1;simp only[ho] at h1;obtain⟨x,hp,hy,hK⟩:=h1;have hfr':=hfr.put hun o.dst x;unfold wpOp;simp only[ho];cases x with
  | val v=>
   simp only[XP] at hy;rcases hy with hy|⟨hw,rfl⟩
   ·obtain⟨hw,hr⟩:=hy ρ;simp only[hw,if_true];refine .inl ?_;have h3:=hr w hf.below;unfold Oper.wp;generalize (execOp (a ρ).eval o).run P w=r at *;cases r with
    | ok n w'=>
     cases n<;>simp only[VX] at h3<;>simp only[Oper.upon]
     case value u=>
      obtain⟨e1,e2⟩:=h3;rw[e1,e2];exact Z4 hQ fuel _ _ B ρ w hf hfr' hK
     case skip=>
      obtain⟨e1,e2⟩:=h3;rw[e1,<-e2];exact Z4 hQ fuel _ _ B ρ w hf hfr' hK
     case enter f args=>
      obtain⟨e1,hc⟩:=h3;rw[e1];exact hc.mono fun e w'' ⟨he,hw''⟩=>by subst he;exact Z4 hQ fuel _ _ B ρ w'' (hf.go hw'') hfr' hK
    | halt x w'=>simp only[VX] at h3
   ·simp only[hw ρ,Bool.false_eq_true,if_false];exact Z4 hQ fuel _ _ B ρ w hf hfr' hK
  | box mk ob=>
   simp only[XP] at hy;obtain⟨hw,hr⟩:=hy ρ;simp only[hw,if_true];refine .inl ?_;unfold Oper.wp;rw[hr w hf.below];simp only[Oper.upon];have h5:=Z4 hQ fuel _ _ _ (upd ρ i w.heap.size) (w.alloc ob) (hf.alloc i mk ob) hfr' hK;have e1:(a (upd ρ i w.heap.size)).put o.dst ((Out.box mk ob).at i (upd ρ i w.heap.size))=(a ρ).put o.dst (mk w.heap.size):=by
    show (a (upd ρ i w.heap.size)).put o.dst (mk (upd ρ i w.heap.size i))=_;rw[hfr i ρ _ hun]
    have:upd ρ i w.heap.size i=w.heap.size:=if_pos rfl
    rw[this]
   rwa [e1] at h5
  | put k ob0 ob=>
   obtain⟨hw,hr⟩:=hy.2 ρ;simp only[hw,if_true];refine .inl ?_;obtain⟨w',hr1,hr2⟩:=hr w hf.below (hf.box k _ _ hp).2;unfold Oper.wp;rw[hr1];simp only[Oper.upon];exact Z4 hQ fuel _ _ _ ρ w' (hf.turn (i:=i) hp hr2) hfr' hK
theorem Zx {id:Nat} {Q:Exit->Act->World->Prop} {a:Act} {w:World} {l:List Oper} (hm:P.follows .mixedOrders=true) (hB:Region.lexB .any l.toArray=true)
  (h:ZI P l.toArray (fun w'=>Below w.heap.size w w') (fun a' B=>∀ρ w',Fits w ρ B w'->Q .normal (a' ρ) w') l 0 (fun _=>a) (fun _=>none)):(Code.region id l.toArray true).wp P Q a w:=by
 simp only[Region.lexB,Bool.and_eq_true] at hB;refine wp_region_any hm ?_;have hf:Fits w (fun _=>0) (fun _=>none) { w with drawn:=w.drawn+1 }:=
  ⟨⟨rfl,rfl,rfl,Nl _,fun _ _=>rfl⟩,fun _ _ _ h=>(by cases h),fun _ _ h=>absurd rfl h⟩
 refine Z4 (Q:=fun a' B=>∀ρ w',Fits w ρ B w'->Q .normal (a' ρ) w') (fun a' B ρ w' hf' h'=>h' ρ w' hf') _ _ (fun _=>a) (fun _=>none) (fun _=>0) _ hf (fun _ _ _ _=>rfl) ?_
 have:=Vz (C:=fun w'=>Below w.heap.size w w') (md:=.any) hB.1 l 0 (Array.replicate l.toArray.size false) (fun _=>a) (fun _=>none) (by simp) (by simpa using hB.2) h
 simpa using this
variable {Q:St->Bx->Prop} {o:Oper} {rest:List Oper} {i:Nat} {a:St} {B:Bx}
theorem UR (v:Value) (hw:∀ρ,Region.wanted o (yielded ops (a ρ).tmps)=true) (h:∀ρ w,C w->(execOp (a ρ).eval o).run P w=.ok (.value v) w)
  (hn:ZI P ops C Q rest (i+1) (fun ρ=>(a ρ).put o.dst v) B):ZI P ops C Q (o::rest) i a B:=
 ⟨.val v,trivial,.inl fun ρ=>⟨hw ρ,fun w hc=>by rw[h ρ w hc];exact⟨rfl,rfl⟩⟩,hn⟩
theorem Lf (hw:∀ρ,Region.wanted o (yielded ops (a ρ).tmps)=false) (hn:ZI P ops C Q rest (i+1) (fun ρ=>(a ρ).put o.dst undef) B):ZI P ops C Q (o::rest) i a B:=
 ⟨.val undef,trivial,.inr ⟨hw,rfl⟩,hn⟩
theorem Qp (f:FuncId) (args:Array Value) (v:Value) (hw:∀ρ,Region.wanted o (yielded ops (a ρ).tmps)=true) (h:∀ρ w,C w->(execOp (a ρ).eval o).run P w=.ok (.enter f args) w)
  (hc:∀w,C w->Calls P f args w fun e w'=>e=.returned v/\Below w.heap.size w w')
  (hn:ZI P ops C Q rest (i+1) (fun ρ=>(a ρ).put o.dst v) B):ZI P ops C Q (o::rest) i a B:=
 ⟨.val v,trivial,.inl fun ρ=>⟨hw ρ,fun w hC=>by rw[h ρ w hC];exact⟨rfl,hc w hC⟩⟩,hn⟩
theorem KeV {v:Value} (hn:ZI P ops C Q rest (i+1) (fun ρ=>(a ρ).put o.dst v) B) (hw:∀ρ,Region.wanted o (yielded ops (a ρ).tmps)=true:=by intro _;rfl) (h:∀ρ w,C w->(execOp (a ρ).eval o).run P w=.ok (.value v) w:=by intro ρ w hw;go_simp;try rfl):ZI P ops C Q (o::rest) i a B:=UR v hw h hn
theorem KeW {v:Value} (h:∀ρ w,C w->(execOp (a ρ).eval o).run P w=.ok (.value v) w) (hn:ZI P ops C Q rest (i+1) (fun ρ=>(a ρ).put o.dst v) B) (hw:∀ρ,Region.wanted o (yielded ops (a ρ).tmps)=true:=by intro _;rfl):ZI P ops C Q (o::rest) i a B:=UR v hw h hn
theorem KeC {f:FuncId} {args:Array Value} {v:Value} (hc:∀w,C w->Calls P f args w fun e w'=>e=.returned v/\Below w.heap.size w w')
  (hn:ZI P ops C Q rest (i+1) (fun ρ=>(a ρ).put o.dst v) B) (hw:∀ρ,Region.wanted o (yielded ops (a ρ).tmps)=true:=by intro _;rfl) (h:∀ρ w,C w->(execOp (a ρ).eval o).run P w=.ok (.enter f args) w:=by intro ρ w hw;go_simp;try rfl):ZI P ops C Q (o::rest) i a B:=Qp f args v hw h hc hn
theorem PeV {a':St} {j:Nat} {v:Value} (hn:ZI P ops C Q rest j a' B) (hw:∀ρ,Region.wanted o (yielded ops (a ρ).tmps)=true:=by intro _;rfl) (h:∀ρ w,C w->(execOp (a ρ).eval o).run P w=.ok (.value v) w:=by intro ρ w hw;go_simp;try rfl) (ha:∀ρ,(a ρ).put o.dst v=a' ρ:=by intro ρ;simp only[Act.put,StT,StZ,StS,Nat.reduceAdd];rfl) (hj:i+1=j:=by simp only[Nat.reduceAdd];rfl):ZI P ops C Q (o::rest) i a B:=by cases hj;obtain rfl:(fun ρ=>(a ρ).put o.dst v)=a':=funext ha;exact UR v hw h hn
theorem PeW {a':St} {j:Nat} {v:Value} (h:∀ρ w,C w->(execOp (a ρ).eval o).run P w=.ok (.value v) w) (hn:ZI P ops C Q rest j a' B) (hw:∀ρ,Region.wanted o (yielded ops (a ρ).tmps)=true:=by intro _;rfl) (ha:∀ρ,(a ρ).put o.dst v=a' ρ:=by intro ρ;simp only[Act.put,StT,StZ,StS,Nat.reduceAdd];rfl) (hj:i+1=j:=by simp only[Nat.reduceAdd];rfl):ZI P ops C Q (o::rest) i a B:=by cases hj;obtain rfl:(fun ρ=>(a ρ).put o.dst v)=a':=funext ha;exact UR v hw h hn
theorem PeC {a':St} {j:Nat} {f:FuncId} {args:Array Value} {v:Value} (hc:∀w,C w->Calls P f args w fun e w'=>e=.returned v/\Below w.heap.size w w') (hn:ZI P ops C Q rest j a' B) (hw:∀ρ,Region.wanted o (yielded ops (a ρ).tmps)=true:=by intro _;rfl) (h:∀ρ w,C w->(execOp (a ρ).eval o).run P w=.ok (.enter f args) w:=by intro ρ w hw;go_simp;try rfl) (ha:∀ρ,(a ρ).put o.dst v=a' ρ:=by intro ρ;simp only[Act.put,StT,StZ,StS,Nat.reduceAdd];rfl) (hj:i+1=j:=by simp only[Nat.reduceAdd];rfl):ZI P ops C Q (o::rest) i a B:=by cases hj;obtain rfl:(fun ρ=>(a ρ).put o.dst v)=a':=funext ha;exact Qp f args v hw h hc hn
theorem PkV {a':St} {j:Nat} (v:Value) (hw:∀ρ,Region.wanted o (yielded ops (a ρ).tmps)=true) (h:∀ρ w,C w->(execOp (a ρ).eval o).run P w=.ok (.value v) w) (hn:ZI P ops C Q rest j a' B) (ha:∀ρ,(a ρ).put o.dst v=a' ρ:=by intro ρ;simp only[Act.put,StT,StZ,StS,Nat.reduceAdd];rfl) (hj:i+1=j:=by simp only[Nat.reduceAdd];rfl):ZI P ops C Q (o::rest) i a B:=by cases hj;obtain rfl:(fun ρ=>(a ρ).put o.dst v)=a':=funext ha;exact UR v hw h hn
theorem PkC {a':St} {j:Nat} (f:FuncId) (args:Array Value) (v:Value) (hw:∀ρ,Region.wanted o (yielded ops (a ρ).tmps)=true) (h:∀ρ w,C w->(execOp (a ρ).eval o).run P w=.ok (.enter f args) w) (hc:∀w,C w->Calls P f args w fun e w'=>e=.returned v/\Below w.heap.size w w') (hn:ZI P ops C Q rest j a' B) (ha:∀ρ,(a ρ).put o.dst v=a' ρ:=by intro ρ;simp only[Act.put,StT,StZ,StS,Nat.reduceAdd];rfl) (hj:i+1=j:=by simp only[Nat.reduceAdd];rfl):ZI P ops C Q (o::rest) i a B:=by cases hj;obtain rfl:(fun ρ=>(a ρ).put o.dst v)=a':=funext ha;exact Qp f args v hw h hc hn
theorem PkO {a':St} {j:Nat} (hw:∀ρ,Region.wanted o (yielded ops (a ρ).tmps)=false) (hn:ZI P ops C Q rest j a' B) (ha:∀ρ,(a ρ).put o.dst undef=a' ρ:=by intro ρ;simp only[Act.put,StT,StZ,StS,Nat.reduceAdd];rfl) (hj:i+1=j:=by simp only[Nat.reduceAdd];rfl):ZI P ops C Q (o::rest) i a B:=by cases hj;obtain rfl:(fun ρ=>(a ρ).put o.dst undef)=a':=funext ha;exact Lf hw hn
theorem PeO {a':St} {j:Nat} (hn:ZI P ops C Q rest j a' B) (hw:∀ρ,Region.wanted o (yielded ops (a ρ).tmps)=false:=by intro _;rfl) (ha:∀ρ,(a ρ).put o.dst undef=a' ρ:=by intro ρ;simp only[Act.put,StT,StZ,StS,Nat.reduceAdd];rfl) (hj:i+1=j:=by simp only[Nat.reduceAdd];rfl):ZI P ops C Q (o::rest) i a B:=by cases hj;obtain rfl:(fun ρ=>(a ρ).put o.dst undef)=a':=funext ha;exact Lf hw hn
theorem Sq (mk:Nat->Value) (ob:Obj) (hp:B i=none) (hw:∀ρ,Region.wanted o (yielded ops (a ρ).tmps)=true) (h:∀ρ w,C w->(execOp (a ρ).eval o).run P w=.ok (.value (mk w.heap.size)) (w.alloc ob))
  (hn:ZI P ops C Q rest (i+1) (fun ρ=>(a ρ).put o.dst (mk (ρ i))) (fun k=>if k=i then some (false,ob) else B k)):ZI P ops C Q (o::rest) i a B:=
 ⟨.box mk ob,hp,fun ρ=>⟨hw ρ,fun w hc=>h ρ w hc⟩,hn⟩
theorem ZY {w:World} {R:Exit->Act->World->Prop} (h:∀ρ w',Fits w ρ B w'->R .normal (a ρ) w'):ZI P ops C (fun a' B=>∀ρ w',Fits w ρ B w'->R .normal (a' ρ) w') [] i a B:=h
theorem Am (w:World) (b:Nat) (u v x y:Value) (t:TypeId) (h:w.heap[b]?=some (.cells #[u,v] t (0,0))):Xw w ((w.setCell ⟨b,0,none⟩ x).setCell ⟨b,1,none⟩ y) b (.cells #[x,y] t (0,0)):=by
 refine⟨rfl,rfl,rfl,by simp[World.setCell],by simp[World.setCell,Array.getElem?_modify,h],fun k hk=>?_⟩
 rw[Below.heap_setCell _ _ _ _ hk,Below.heap_setCell _ _ _ _ hk]
theorem GF (k:Nat) (u v x y:Value) (t:TypeId) (hp:B k=some (false,.cells #[u,v] t (0,0))) (hk:ops[k]?=none)
  (hw:∀ρ,Region.wanted o (yielded ops (a ρ).tmps)=true)
  (h:∀ρ w,C w->w.cell? ⟨ρ k,0,none⟩=some u->w.cell? ⟨ρ k,1,none⟩=some v->w.frozen? ⟨ρ k,0,none⟩=false->w.frozen? ⟨ρ k,1,none⟩=false->
   (execOp (a ρ).eval o).run P w=.ok .skip ((w.setCell ⟨ρ k,0,none⟩ x).setCell ⟨ρ k,1,none⟩ y))
  (hn:ZI P ops C Q rest (i+1) (fun ρ=>(a ρ).put o.dst undef) (fun l=>if l=k then some (true,.cells #[x,y] t (0,0)) else B l)):ZI P ops C Q (o::rest) i a B:=
 ⟨.put k (.cells #[u,v] t (0,0)) (.cells #[x,y] t (0,0)),hp,⟨.inl hk,fun ρ=>⟨hw ρ,fun w hc hb=>
  ⟨_,h ρ w hc (by rw[cell_of_row w (ρ k) 0 _ t (0,0) hb];rfl) (by rw[cell_of_row w (ρ k) 1 _ t (0,0) hb];rfl) (by simp[World.frozen?,hb]) (by simp[World.frozen?,hb]),Am w (ρ k) u v x y t hb⟩⟩⟩,hn⟩
theorem Sr {id:Nat} {Q:Exit->Act->World->Prop} {a:Act} {w0 w:World} {l:List Oper} (K b:Nat) (s:Tmp) (ob:Obj) (hm:P.follows .mixedOrders=true) (hB:Region.lexB .any l.toArray=true)
  (hK:l.length<=K) (h0:Below w0.heap.size w0 w) (hb:w0.heap.size<=b) (hob:w.heap[b]?=some ob) (ha:a.put (some s) (.pointer (some ⟨b,0,none⟩))=a)
  (h:ZI P l.toArray (fun w'=>Below w0.heap.size w0 w') (fun a' B=>∀ρ w',Fits w0 ρ B w'->Q .normal (a' ρ) w') l 0 (fun ρ=>a.put (some s) (.pointer (some ⟨ρ K,0,none⟩))) (fun k=>if k=K then some (false,ob) else none)):(Code.region id l.toArray true).wp P Q a w:=by
 simp only[Region.lexB,Bool.and_eq_true] at hB;refine wp_region_any hm ?_;have hf:Fits w0 (fun _=>b) (fun k=>if k=K then some (false,ob) else none) { w with drawn:=w.drawn+1 }:=by
  refine⟨⟨h0.os,h0.tape,h0.output,h0.size,h0.block⟩,?_,?_⟩
  ·intro k s' o' hk
   by_cases hkK:k=K
   ·rw[if_pos hkK] at hk;simp only[Option.some.injEq,Prod.mk.injEq] at hk;exact⟨hb,by rw[<-hk.2];exact hob⟩
   ·rw[if_neg hkK] at hk;cases hk
  ·intro k j hk hj _
   by_cases hkK:k=K
   ·by_cases hjK:j=K
    ·rw[hkK,hjK]
    ·rw[if_neg hjK] at hj;exact absurd rfl hj
   ·rw[if_neg hkK] at hk;exact absurd rfl hk
 have hfr:Ow (Array.replicate l.toArray.size false) (fun ρ=>a.put (some s) (.pointer (some ⟨ρ K,0,none⟩))):=by
  intro i ρ c hi;have hlt:i<l.length:=by
   rcases Nat.lt_or_ge i l.length with h'|h'
   ·exact h'
   ·rw[Array.getD_eq_getD_getElem?,Array.getElem?_eq_none (by simpa using h')] at hi;cases hi
  have e:upd ρ i c K=ρ K:=if_neg (by omega)
  show a.put (some s) (.pointer (some ⟨upd ρ i c K,0,none⟩))=_;rw[e]
 have:=Vz (C:=fun w'=>Below w0.heap.size w0 w') (md:=.any) hB.1 l 0 (Array.replicate l.toArray.size false) (fun ρ=>a.put (some s) (.pointer (some ⟨ρ K,0,none⟩))) _ (by simp) (by simpa using hB.2) h
 have h2:=Z4 (Q:=fun a' B=>∀ρ w',Fits w0 ρ B w'->Q .normal (a' ρ) w') (fun a' B ρ w' hf' h'=>h' ρ w' hf') _ _ (fun ρ=>a.put (some s) (.pointer (some ⟨ρ K,0,none⟩))) _ (fun _=>b) _ hf hfr this
 rw[ha] at h2;simpa using h2
end
open Go.RowKit Num
theorem Zh (w:World) (o:Obj):Below w.heap.size w (w.alloc o):=(Below.refl _ _).alloc (Nl _) _
theorem bdr (w:World):Below w.heap.size w w.drew:=(Below.refl _ _).drew
theorem ZS {w w3:World} {b:Nat} (h:Below w.heap.size w w3) (hb:w.heap.size<=b) (u0 u1:Value):Below w.heap.size w ((w3.setCell ⟨b,0,none⟩ u0).setCell ⟨b,1,none⟩ u1):=
 (h.setCell (p:=⟨b,0,none⟩) hb u0).setCell (p:=⟨b,1,none⟩) hb u1
def Mq (l:List UInt8):List UInt8:=if val l=0 then [48] else canon (val l)
def ZH (a b:Int):Int:=if a<b then -1 else if b<a then 1 else 0
def Vb (a b:Int):Int:=if 0<b then a / b else (-a) / (-b)
def Un (a b:Int):Int:=if 0<b then a % b else -((-a) % (-b))
theorem An (X Y:Nat):(X:Int) / Y=(X / Y:Nat)/\(X:Int) % Y=(X % Y:Nat):=⟨by rw[Int.natCast_ediv],by rw[Int.natCast_emod]⟩
theorem Eo (X Y:Nat) (hY:0<Y) (h:X % Y=0) : -(X:Int) / Y = -((X / Y:Nat):Int)/\-(X:Int) % Y=0:=by
 apply (Int.ediv_emod_unique (by omega)).2
 refine⟨?_,by omega,by omega⟩
 have:=Nat.div_add_mod X Y
 rw[h] at this;have e:(Y:Int)*((X / Y:Nat):Int)=X:=by rw[<-Int.natCast_mul];omega
 rw[Int.mul_neg,e];omega
theorem Ep (X Y:Nat) (hY:0<Y) (h:X % Y≠0) : -(X:Int) / Y = -((X / Y+1:Nat):Int)/\-(X:Int) % Y=((Y-X % Y:Nat):Int):=by
 apply (Int.ediv_emod_unique (by omega)).2
 have h2:=Nat.mod_lt X hY;refine⟨?_,by omega,by omega⟩
 have:=Nat.div_add_mod X Y
 have e:(Y:Int)*((X / Y+1:Nat):Int)=((Y*(X / Y)+Y:Nat):Int):=by rw[<-Int.natCast_mul,Nat.mul_add,Nat.mul_one]
 rw[Int.mul_neg,e];omega
theorem Er {nx ny:Bool} {X Y:Nat} (h:nx=ny) (hY:0<Y):Vb (sgn nx X) (sgn ny Y)=sgn (nx != ny) (X / Y)/\Un (sgn nx X) (sgn ny Y)=sgn ny (X % Y):=by
 subst h;obtain⟨h1,h2⟩:=An X Y;unfold Vb Un sgn;cases nx
 ·simp only[Bool.false_eq_true,if_false,bne_self_eq_false];rw[if_pos (by omega),if_pos (by omega)];exact⟨h1,h2⟩
 ·simp only[if_true,bne_self_eq_false,Bool.false_eq_true,if_false,Int.neg_neg];rw[if_neg (by omega),if_neg (by omega),h1,h2];exact⟨rfl,rfl⟩
theorem GG {nx ny:Bool} {X Y:Nat} (h:nx≠ny) (hY:0<Y) (h0:X % Y=0):Vb (sgn nx X) (sgn ny Y)=sgn (nx != ny) (X / Y)/\Un (sgn nx X) (sgn ny Y)=sgn ny (X % Y):=by
 obtain⟨h1,h2⟩:=Eo X Y hY h0;unfold Vb Un sgn;cases nx<;>cases ny
 ·exact absurd rfl h
 ·simp only[if_true,Bool.false_eq_true,if_false,Int.neg_neg,Bool.false_bne];rw[if_neg (by omega),if_neg (by omega),h1,h2,h0];exact⟨rfl,rfl⟩
 ·simp only[if_true,Bool.false_eq_true,if_false,Bool.true_bne,Bool.not_false];rw[if_pos (by omega),if_pos (by omega),h1,h2,h0];exact⟨rfl,rfl⟩
 ·exact absurd rfl h
theorem GH {nx ny:Bool} {X Y:Nat} (h:nx≠ny) (hY:0<Y) (h0:X % Y≠0):Vb (sgn nx X) (sgn ny Y)=sgn (nx != ny) (X / Y+1)/\Un (sgn nx X) (sgn ny Y)=sgn ny (Y-X % Y):=by
 obtain⟨h1,h2⟩:=Ep X Y hY h0;unfold Vb Un sgn;cases nx<;>cases ny
 ·exact absurd rfl h
 ·simp only[if_true,Bool.false_eq_true,if_false,Int.neg_neg,Bool.false_bne];rw[if_neg (by omega),if_neg (by omega),h1,h2];exact⟨rfl,rfl⟩
 ·simp only[if_true,Bool.false_eq_true,if_false,Bool.true_bne,Bool.not_false];rw[if_pos (by omega),if_pos (by omega),h1,h2];exact⟨rfl,rfl⟩
 ·exact absurd rfl h
theorem Mr:val []=0:=rfl
theorem Zw {l:List UInt8} {k:Nat} (h:l.length<=k):(val l).natAbs<10 ^ k:=
 Nat.lt_of_lt_of_le (TU l) (Nat.pow_le_pow_right (by decide) h)
structure Xa (W:World) (b:Nat) (u v:Value):Prop where
 c0:W.cell? ⟨b,0,none⟩=some u
 c1:W.cell? ⟨b,1,none⟩=some v
 f0:W.frozen? ⟨b,0,none⟩=false
 f1:W.frozen? ⟨b,1,none⟩=false
 lt:b<W.heap.size
theorem Xa.new (W:World) (u v:Value) (t:TypeId):Xa (W.alloc (.cells #[u,v] t)) W.heap.size u v:=⟨by simp[go_sem],by simp[go_sem],by simp[go_sem],by simp[go_sem],by simp⟩
theorem Xa.below {W W':World} {b:Nat} {u v:Value} (h:Xa W b u v) (k:Below W.heap.size W W'):Xa W' b u v:=
 ⟨(k.cell (p:=⟨b,0,none⟩) h.lt).trans h.c0,(k.cell (p:=⟨b,1,none⟩) h.lt).trans h.c1,(k.frozen (p:=⟨b,0,none⟩) h.lt).trans h.f0,(k.frozen (p:=⟨b,1,none⟩) h.lt).trans h.f1,Nat.lt_of_lt_of_le h.lt k.size⟩
theorem Xa.set {W:World} {b:Nat} {u v:Value} (h:Xa W b u v) (x y:Value):Xa ((W.setCell ⟨b,0,none⟩ x).setCell ⟨b,1,none⟩ y) b x y:=by
 have c0:=h.c0;have c1:=h.c1;have f0:=h.f0;have f1:=h.f1;have lt:=h.lt;refine⟨by simp[go_sem,c0],by simp[go_sem,c1],by simp[go_sem,f0],by simp[go_sem,f1],by simp[lt]⟩
def Ret (f:Nat) (args:Array Value) (v:Value):Prop:=∀w:World,Yb w->Calls prog f args w fun e w'=>e=.returned v/\Below w.heap.size w w'
theorem Ret.of {f:Nat} {args:Array Value} {v:Value} (h:Ret f args v) {w w':World} (hG:Yb w) (hb:Below w.heap.size w w') :
  Calls prog f args w' fun e w''=>e=.returned v/\Below w'.heap.size w' w'':=h w' (hG.below hb)
theorem Xa.ofB {w:World} {b:Nat} {u v:Value} {t:TypeId} (h:w.heap[b]?=some (.cells #[u,v] t (0,0))):Xa w b u v:=
 ⟨by rw[cell_of_row w b 0 _ t (0,0) h];rfl,by rw[cell_of_row w b 1 _ t (0,0) h];rfl,by simp[World.frozen?,h],by simp[World.frozen?,h],(Ag.1 h).1⟩
theorem Ss {w:World} {base n:Nat} {e:TypeId} {v:Value} {xs:List Value} (h:w.ownsRow base e 1 v n xs) {p:Addr} (hp:v.ownBlock≠some p.block) (u:Value):(w.setCell p u).ownsRow base e 1 v n xs:=by
 refine⟨h.1,?_⟩;rcases h.2 with h0|⟨g,cap,cur,hv,hb1,hh,hr⟩
 ·exact .inl h0
 ·refine .inr ⟨g,cap,cur,hv,hb1,?_,hr⟩;rw[Below.heap_setCell _ _ _ _ (by rintro rfl;exact hp (by rw[hv];rfl))]
  exact hh
def Jg (w:World) (q r:Int) (e:Ending) (w':World):Prop:=e=.returned (.tuple #[.string ⟨(canon q).toArray⟩,.string ⟨(canon r).toArray⟩,.int .i64 0])/\Below w.heap.size w w'
end Go.Proofs.YtpieeldbamklkaaGreatDoor
