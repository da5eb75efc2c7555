/- Texts put together: Bn Km Kn Bo Ko Kq Kr Ks Ku. -/
import Derived.Test.YtpieeldbamklkaaGreatDoorY9
set_option maxHeartbeats 16000000
set_option maxRecDepth 100000
open Go.Proofs.Tryz
namespace Go.Proofs.YtpieeldbamklkaaGreatDoor
open Go.RowKit
section
variable {P:Program} {Q:Exit->Act->World->Prop}
theorem U4 {o:Oper} {a:Act} {w:World} {K:Act->World->Prop} (h:o.wp P a w K (YY fun _ _=>False)):o.wp P a w K Q:=OO (fun _ _ h=>h) h
theorem OP {id:Nat} {a:Act} {w:World} {I:Array Bool->Act->World->Prop} {l:List Oper} {s1 s2:Oper} (hm:P.follows .mixedOrders=true) (hU1:YE .any l s1=true) (hU2:YE .any (l++[s1]) s2=true) (hg:(l++[s1]++[s2]).all (fun o=>o.guard.isNone)=true)
  (hbk:∀(i:Nat) (o:Oper),l.toArray[i]?=some o->∀e∈o.after,Region.binds .any e=true->e.on<i)
  (h0:I (Array.replicate l.length false) a { w with drawn:=w.drawn+1 })
  (hend:∀listed a w,(∀i,i<l.length->listed.getD i false=true)->I listed a w->wpList P (l++[s1]++[s2]).toArray Q [s1,s2] a w)
  (hstep:∀listed a w i o,I listed a w->l.toArray[i]?=some o->listed.getD i true=false->(∀e∈o.after,Region.binds .any e=true->listed.getD e.on false=true)->o.wp P a w (I (listed.setIfInBounds i true)) (YY fun _ _=>False)):(Code.region id (l++[s1]++[s2]).toArray true).wp P Q a w:=by
 have hgs:∀o∈l++[s1]++[s2],o.guard=none:=fun o ho=>by
  have:=(List.all_eq_true.1 hg) o ho
  simpa using this
 refine wp_region_any hm ?_;have g1:s1.guard=none:=hgs s1 (by simp)
 have g2:s2.guard=none:=hgs s2 (by simp)
 have h2:wpAny P .any l.toArray (Exit.then (wpList P (l++[s1]).toArray (Exit.then (wpList P (l++[s1]++[s2]).toArray Q [s2]) Q) [s1]) (Exit.then (wpList P (l++[s1]++[s2]).toArray Q [s2]) Q)) l.toArray.size (Array.replicate l.toArray.size false) a { w with drawn:=w.drawn+1 }:=by
  refine QM (I:=I) hbk (fun listed a' w' hall hI=>?_) (fun listed a' w' i o hI ho hi hl=>?_) _ _ _ _ (by simp) (by rw[Array.toList_replicate,OM];exact Nl _) (by simpa using h0)
  ·have h3:wpList P (l++[s1]++[s2]).toArray Q [s1,s2] a' w':=hend listed a' w' (by simpa using hall) hI
   show wpList P (l++[s1]).toArray _ [s1] a' w';rw[wpList] at h3 ⊢;simp only[Ya g1,if_true] at h3 ⊢;rcases h3 with h3|h3
   ·exact .inl (Oper.wp_mono2 (fun a w h=>h) (fun _ _ _ h=>h) (fun ⟨a,w,h⟩=>⟨a,w,h⟩) h3)
   ·exact .inr ⟨h3.1,(fun ⟨a,w,h⟩=>⟨a,w,h⟩) h3.2⟩
  ·have hmem:o∈l:=by
    have:=Array.mem_of_getElem? ho
    simpa using this
   have hgo:=hgs o (by simp[hmem])
   unfold wpOp;simp only[ho,Ya hgo,if_true];exact .inl (U4 (hstep listed a' w' i o hI ho hi hl))
 have h3:=Vu (P:=P) (md:=.any) hU1 g1 (fun o ho=>hgs o (by simp[ho])) _ _ _ a _ (Vv l s1) h2
 have h4:=Vu (P:=P) (md:=.any) hU2 g2 (fun o ho=>hgs o (List.mem_append_left _ ho)) _ _ _ a _ (Vv (l++[s1]) s2) h3
 simpa using h4
theorem Pn {id:Nat} {a:Act} {w:World} {I:Array Bool->Act->World->Prop} {L:List Oper} (hne:L≠[]) (hne2:L.dropLast≠[]) (hm:P.follows .mixedOrders=true) (hU1:YE .any L.dropLast.dropLast (L.dropLast.getLast hne2)=true) (hU2:YE .any L.dropLast (L.getLast hne)=true) (hg:L.all (fun o=>o.guard.isNone)=true)
  (hbk:∀(i:Nat) (o:Oper),L.dropLast.dropLast.toArray[i]?=some o->∀e∈o.after,Region.binds .any e=true->e.on<i)
  (h0:I (Array.replicate L.dropLast.dropLast.length false) a { w with drawn:=w.drawn+1 })
  (hend:∀listed a w,(∀i,i<L.dropLast.dropLast.length->listed.getD i false=true)->I listed a w->wpList P L.toArray Q [L.dropLast.getLast hne2,L.getLast hne] a w)
  (hstep:∀listed a w i o,I listed a w->L.dropLast.dropLast.toArray[i]?=some o->listed.getD i true=false->(∀e∈o.after,Region.binds .any e=true->listed.getD e.on false=true)->o.wp P a w (I (listed.setIfInBounds i true)) (YY fun _ _=>False)):(Code.region id L.toArray true).wp P Q a w:=by
 have e1:L.dropLast.dropLast++[L.dropLast.getLast hne2]=L.dropLast:=List.dropLast_concat_getLast hne2;have e2:L.dropLast++[L.getLast hne]=L:=List.dropLast_concat_getLast hne
 have:=OP (P:=P) (id:=id) (Q:=Q) (a:=a) (w:=w) (I:=I) (l:=L.dropLast.dropLast) (s1:=L.dropLast.getLast hne2) (s2:=L.getLast hne) hm hU1 (by rw[e1];exact hU2) (by rw[e1,e2];exact hg) hbk h0 (by rw[e1,e2];exact hend) hstep
 rwa [e1,e2] at this
def VQ (S:Oper->Nat->Prop):List Oper->Nat->Prop
 | [],_=>True
 | o::l,i=>S o i/\VQ S l (i+1)
theorem Sm {S:Oper->Nat->Prop}:∀{l:List Oper} {n:Nat},VQ S l n->∀(i:Nat) (o:Oper),l[i]?=some o->S o (n+i)
 | [],_,_,i,o,h=>by simp at h
 | x::l,n,h,0,o,ho=>by
  have:x=o:=by simpa using ho
  subst this;exact h.1
 | x::l,n,h,i+1,o,ho=>by
  have:=Sm h.2 i o (by simpa using ho)
  rwa [show n+(i+1)=n+1+i by omega]
end
open Go.Shelf Num
theorem Zd {o:Oper} {j:Nat} (h:(o.after.toList.any fun e=>e.on==j&&Region.binds .any e)=true):ZM o j:=by
 rw[List.any_eq_true] at h;obtain⟨e,he,h⟩:=h;rw[Bool.and_eq_true,beq_iff_eq] at h;exact⟨e,Array.mem_toList_iff.1 he,h.1,h.2⟩
def kDs (bt bo bp:Nat) (vp vl:Value):List Od:=[.out,.con 16 (.func (.func 231) #[] #[.pointer (some ⟨bo,0,none⟩),.pointer (some ⟨bp,0,none⟩)]),.kp 17 1,.oins 1,.con 18 (.func (.func 231) #[] #[.pointer (some ⟨bo,0,none⟩),.pointer (some ⟨bp,0,none⟩)]),.kp 19 2,.oins 2,.con 20 (.func (.func 230) #[] #[]),.con 21 (.map (some bt)),.sl 22 [0],.kp 23 3,.oins 3,.con 24 (.func (.func 230) #[] #[]),.con 25 (.map (some bt)),.sl 26 [0,10],.kp 27 4,.oins 4,.con 28 (.func (.func 230) #[] #[]),.mk 29,.con 30 vp,.xins 29,.mv 31,.sl 32 [0],.kp 33 5,.oins 5,.con 34 (.func (.func 231) #[] #[.pointer (some ⟨bo,0,none⟩),.pointer (some ⟨bp,0,none⟩)]),.kp 35 6,.oins 6,.con 36 (.func (.func 232) #[] #[]),.con 37 (.func (.func 230) #[] #[]),.mk 38,.con 39 vp,.ins,.con 40 vp,.ins,.mv 41,.sl 42 [1,2],.kp 43 0,.kp 44 7,.oins 7,.con 45 (.func (.func 230) #[] #[]),.mk 46,.con 47 vl,.ins,.con 48 vp,.ins,.mv 49,.sl 50 [0],.kp 51 8,.oins 8,.con 52 (.func (.func 230) #[] #[]),.mk 53,.con 54 vl,.ins,.con 55 vp,.ins,.lim 56,.ins,.mv 57,.sl 58 [0,1],.kp 59 9,.oins 9,.con 60 (.func (.func 230) #[] #[]),.sl 61 [0,11],.kp 62 10,.oins 10,.con 63 (.func (.func 230) #[] #[]),.sl 64 [0,3,12],.kp 65 11,.oins 11,.con 66 (.func (.func 230) #[] #[]),.mk 67,.con 68 vp,.ins,.con 69 vl,.ins,.con 70 vp,.ins,.mv 71,.sl 72 [0,1],.kp 73 12,.oins 12,.con 74 (.func (.func 230) #[] #[]),.mk 75,.con 76 vp,.xins 75,.mv 77,.sl 78 [0],.kp 79 13,.oins 13,.con 80 (.func (.func 230) #[] #[]),.mk 81,.con 82 vl,.ins,.mv 83,.sl 84 [0],.kp 85 14,.oins 14,.con 86 (.func (.func 230) #[] #[]),.mk 87,.con 88 vl,.ins,.mv 89,.sl 90 [0],.kp 91 15,.oins 15,.con 92 (.func (.func 232) #[] #[]),.con 93 (.func (.func 230) #[] #[]),.mk 94,.con 95 vp,.ins,.mv 96,.sl 97 [1,2],.kp 98 0,.kp 99 16,.oins 16,.con 100 (.func (.func 231) #[] #[.pointer (some ⟨bo,0,none⟩),.pointer (some ⟨bp,0,none⟩)]),.kp 101 17,.oins 17,.con 102 (.func (.func 231) #[] #[.pointer (some ⟨bo,0,none⟩),.pointer (some ⟨bp,0,none⟩)]),.kp 103 18,.oins 18]
def kDl:List (Option Nat):=[some 15,some 16,some 17,none,some 18,some 19,none,some 20,some 21,some 22,some 23,none,some 24,some 25,some 26,some 27,none,some 28,some 29,some 30,none,some 31,some 32,some 33,none,some 34,some 35,none,some 36,some 37,some 38,some 39,none,some 40,none,some 41,some 42,some 43,some 44,none,some 45,some 46,some 47,none,some 48,none,some 49,some 50,some 51,none,some 52,some 53,some 54,none,some 55,none,some 56,none,some 57,some 58,some 59,none,some 60,some 61,some 62,none,some 63,some 64,some 65,none,some 66,some 67,some 68,none,some 69,none,some 70,none,some 71,some 72,some 73,none,some 74,some 75,some 76,none,some 77,some 78,some 79,none,some 80,some 81,some 82,none,some 83,some 84,some 85,none,some 86,some 87,some 88,none,some 89,some 90,some 91,none,some 92,some 93,some 94,some 95,none,some 96,some 97,some 98,some 99,none,some 100,some 101,none,some 102,some 103,none]
theorem AA (bt bo bp:Nat) (vp vl:Value):(kDs bt bo bp vp vl).map Qe=kDl:=rfl
theorem DN:((List.range 122).all fun i=>(List.range 122).all fun j=>i==j||(kDl.getD i none).isNone||kDl.getD i none != kDl.getD j none)=true:=by decide +kernel
def kd (bt bo bp:Nat) (vp vl:Value) (i:Nat):Od:=(kDs bt bo bp vp vl).getD i .ins
theorem AB (bt bo bp:Nat) (vp vl:Value) (i:Nat):Qe (kd bt bo bp vp vl i)=kDl.getD i none:=by
 rw[<-AA bt bo bp vp vl];unfold kd;rw[List.getD_eq_getElem?_getD,List.getD_eq_getElem?_getD,List.getElem?_map];cases (kDs bt bo bp vp vl)[i]? with
 | none=>rfl
 | some x=>rfl
theorem AC (bt bo bp:Nat) (vp vl:Value):UM (kd bt bo bp vp vl):=fun i j s hi hj=>by
 rw[AB] at hi hj;have hl:kDl.length=122:=by decide +kernel
 have hlt:∀i s,kDl.getD i none=some s->i<122:=fun i s h=>by
  rw[List.getD_eq_getElem?_getD] at h
  by_cases hx:i<122
  ·exact hx
  ·rw[List.getElem?_eq_none (by omega)] at h
   cases h
 have h:=DN;rw[List.all_eq_true] at h;have h:=h i (List.mem_range.2 (hlt i s hi));rw[List.all_eq_true] at h;have h:=h j (List.mem_range.2 (hlt j s hj));rw[hi,hj] at h;simpa using h
theorem Uz.re {w w':World} {r r':Nat} {u:Value} {p q:Bool} (h:Uz w r u p q) (hb:Below w.heap.size w w') (hr:w.heap.size<=r'):Uz w' r' u p q:=by
 obtain⟨b1,b2,e,h1,h2,-,-⟩:=h.is;have l1:=h1.ltB;have l2:=h2.ltB;exact⟨b1,b2,e,h1.below hb,h2.below hb,by omega,by omega⟩
theorem Wk {ds:Nat->Od} {bt:KC} {a0:Act} {W0:World} {o:Oper} {i s:Nat} (hz:a0.tmps.size=105) (hu:UM ds) {v:Value} {b:Nat} (hop:o.op=.load 313 (.tmp 3)) (hd:o.dst=some s) (hds:ds i=.con s v) (hv:ZP a0 3=.pointer (some ⟨b,0,none⟩)) (hB:Blk W0 b #[v]) (hs:7<=s/\s<105/\s≠15/\i≠0):Step ds bt a0 W0 o i:=
 Zau hz hu (fun a w h1 h2=>by have g1:=toD h1;clear h1;unfold execOp;rw[hop];go_simp;first|done|rfl) hd hds (by decide) hv hB hs hop
theorem UC {ds:Nat->Od} {bt:KC} {a0:Act} {W0:World} {o:Oper} {i s:Nat} (hz:a0.tmps.size=105) (hu:UM ds) {v:Value} {b:Nat} (hop:o.op=.load 311 (.tmp 1)) (hd:o.dst=some s) (hds:ds i=.con s v) (hv:ZP a0 1=.pointer (some ⟨b,0,none⟩)) (hB:Blk W0 b #[v]) (hs:7<=s/\s<105/\s≠15/\i≠0):Step ds bt a0 W0 o i:=
 Zau hz hu (fun a w h1 h2=>by have g1:=toD h1;clear h1;unfold execOp;rw[hop];go_simp;first|done|rfl) hd hds (by decide) hv hB hs hop
theorem AD {ds:Nat->Od} {bt:KC} {bo bp:Nat} {vl:Value} {a0:Act} {W0:World} {l:List Oper} (kb:KB bt bo bp vl a0 W0) (h:KB bt bo bp vl a0 W0->VQ (Step ds bt a0 W0) l 0):VQ (Step ds bt a0 W0) l 0:=h kb
theorem MC {id:Nat} {Q:Exit->Act->World->Prop} {a:Act} {w:World} {L:List Oper} (ds:Nat->Od) (bt:KC) (hne:L≠[]) (hne2:L.dropLast≠[]) (hm:prog.follows .mixedOrders=true) (hU1:YE .any L.dropLast.dropLast (L.dropLast.getLast hne2)=true) (hU2:YE .any L.dropLast (L.getLast hne)=true) (hg:L.all (fun o=>o.guard.isNone)=true)
  (hstep:VQ (Step ds bt a { w with drawn:=w.drawn+1 }) L.dropLast.dropLast 0)
  (hend:∀listed a' w',(∀i,i<L.dropLast.dropLast.length->listed.getD i false=true)->II ds bt a { w with drawn:=w.drawn+1 } listed a' w'->wpList prog L.toArray Q [L.dropLast.getLast hne2,L.getLast hne] a' w'):(Code.region id L.toArray true).wp prog Q a w:=by
 have hrep:∀(n j:Nat),(Array.replicate n false).getD j false=false:=fun n j=>by
  rw[Array.getD_eq_getD_getElem?,Array.getElem?_replicate]
  split<;>rfl
 refine Pn (I:=II ds bt a { w with drawn:=w.drawn+1 }) hne hne2 hm hU1 hU2 hg (fun i o ho e he hb=>?_) ⟨fun _=>False,Below.refl _ _,rfl,rfl,fun _ _=>rfl,fun _ h=>h.elim,fun j hj=>?_,fun h=>?_,fun _ j k hj=>?_,fun j m hj=>?_⟩ hend (fun listed a' w' i o hI ho hi hl=>?_)
 ·have hil:i<L.dropLast.dropLast.length:=by
   have:=(Ag.1 ho).1
   simpa using this
  have ho':L.dropLast.dropLast[i]?=some o:=by simpa using ho
  exact Xi hU1 (by rw[List.getElem?_append_left hil];exact ho') e he hb
 ·rw[hrep] at hj;cases hj
 ·rw[hrep] at h;cases h
 ·rw[hrep] at hj;cases hj
 ·rw[hrep] at hj;cases hj
 ·have ho':L.dropLast.dropLast[i]?=some o:=by simpa using ho
  have h:=Sm hstep i o ho';rw[Nat.zero_add] at h;exact h listed a' w' hI hi (fun j hj=>by obtain⟨e,he,rfl,hb⟩:=hj;exact hl e he hb)
theorem Zbg (w:World):Calls prog 183 #[] w fun e w'=>∃r bt vp vl es c X,e=.returned (.map (some r))/\w'.heap[r]?=some (.map es c)/\TD ⟨bt,vp⟩ X w' r/\(ZJ w' r 4/\ZJ w' r 5/\ZJ w' r 13)/\(∀b,X b->Uc vp w' b)/\w'.heap[bt]?=some (.map (YT [(4,vp),(5,vl),(6,vl)]) 3)/\Uz w' r vp true false/\Uz w' r vl false false/\Below w.heap.size w w':=by
 have hmk:=fun (w:World)=>show (Instr.makeMap 268 none).run prog w=.ok (.map (some w.heap.size)) (w.alloc (.map (YT []) 0)) from run_makeMap (P:=prog) 268 w
 go_enter func183,ntmps183;go_wp2_with fail;refine (Vl true false w).mono ?_;rintro e w1 ⟨_,rfl,hb1,b1,b2,rfl,hp1,hp2⟩;go_wp2_with fail;refine (Vl false false w1).mono ?_;rintro e w2 ⟨vl,rfl,hb2,b3,b4,hvl,hl1,hl2⟩;have HVL:=Lh hvl;clear hvl;have hp1:=hp1.below hb2;have hp2:=hp2.below hb2;have hb:=bto hb1 hb2;obtain⟨g1,g2,g3,g4⟩:=VH w2 (.cells #[(.func (.func 286) #[] #[.pointer (some ⟨b1,0,none⟩),.pointer (some ⟨b2,0,none⟩)])] 311) (.cells #[(.func (.func 230) #[] #[])] 313);have q1:((w2.alloc (.cells #[(.func (.func 286) #[] #[.pointer (some ⟨b1,0,none⟩),.pointer (some ⟨b2,0,none⟩)])] 311)).alloc (.cells #[(.func (.func 230) #[] #[])] 313)).cell? ⟨w2.heap.size,0,none⟩=some (.func (.func 286) #[] #[.pointer (some ⟨b1,0,none⟩),.pointer (some ⟨b2,0,none⟩)]):=Zg g1 0;have j1:=ZG ((w2.alloc (.cells #[(.func (.func 286) #[] #[.pointer (some ⟨b1,0,none⟩),.pointer (some ⟨b2,0,none⟩)])] 311)).alloc (.cells #[(.func (.func 230) #[] #[])] 313)) (.map (YT [(4,(.func (.func 286) #[] #[.pointer (some ⟨b1,0,none⟩),.pointer (some ⟨b2,0,none⟩)])),(5,vl),(6,vl)]) 3);have j3:=Zb ((w2.alloc (.cells #[(.func (.func 286) #[] #[.pointer (some ⟨b1,0,none⟩),.pointer (some ⟨b2,0,none⟩)])] 311)).alloc (.cells #[(.func (.func 230) #[] #[])] 313)) (.map (YT [(4,(.func (.func 286) #[] #[.pointer (some ⟨b1,0,none⟩),.pointer (some ⟨b2,0,none⟩)])),(5,vl),(6,vl)]) 3);rw[g4] at j1;obtain⟨W0,hW0⟩:∃W0,W0=((w2.alloc (.cells #[(.func (.func 286) #[] #[.pointer (some ⟨b1,0,none⟩),.pointer (some ⟨b2,0,none⟩)])] 311)).alloc (.cells #[(.func (.func 230) #[] #[])] 313)).alloc (.map (YT [(4,(.func (.func 286) #[] #[.pointer (some ⟨b1,0,none⟩),.pointer (some ⟨b2,0,none⟩)])),(5,vl),(6,vl)]) 3):=⟨_,rfl⟩
 rw[<-hW0] at j1 j3;have hb03:=bto g3 j3;have m1:=hp1.ltB;have m2:=hp2.ltB;have m3:=hl1.ltB;have m4:=hl2.ltB;have k1:=Zt g1 j3;have k2:=Zt g2 j3;have HB:=Lh (bto hb hb03);have HW0:=Lh hW0;have HLP:Hid (Uz W0 (w2.heap.size+1) (.func (.func 286) #[] #[.pointer (some ⟨b1,0,none⟩),.pointer (some ⟨b2,0,none⟩)]) true false):=⟨b1,b2,rfl,hp1.below hb03,hp2.below hb03,by omega,by omega⟩
 have HLL:Hid (Uz W0 (w2.heap.size+1) vl false false):=⟨b3,b4,HVL.out,hl1.below hb03,hl2.below hb03,by omega,by omega⟩
 have K1:=Lh k1;have K2:=Lh k2;have J1:=Lh j1;clear hp1 hp2 hl1 hl2 hb g1 g2 g3 g4 j1 j3 hb03 m1 m2 m3 m4 hb1 hb2 k1 k2 hW0 HVL;go_wp2_with (first|(refine XH [] 4 (.func (.func 286) #[] #[.pointer (some ⟨b1,0,none⟩),.pointer (some ⟨b2,0,none⟩)]) rfl (.tmp 10) (.const (.int .i64 4)) (.tmp 11) rfl underlying268 underlying3 (by first|rfl|(rw[World.size_alloc];rfl)|(rw[World.size_alloc,World.size_alloc];rfl)) rfl rfl (by simp) ?_)|(refine XH [(4,(.func (.func 286) #[] #[.pointer (some ⟨b1,0,none⟩),.pointer (some ⟨b2,0,none⟩)]))] 5 vl rfl (.tmp 10) (.const (.int .i64 5)) (.tmp 12) rfl underlying268 underlying3 (by first|rfl|(rw[World.size_alloc];rfl)|(rw[World.size_alloc,World.size_alloc];rfl)) rfl rfl (by simp) ?_)|(refine XH [(4,(.func (.func 286) #[] #[.pointer (some ⟨b1,0,none⟩),.pointer (some ⟨b2,0,none⟩)])),(5,vl)] 6 vl rfl (.tmp 10) (.const (.int .i64 6)) (.tmp 13) rfl underlying268 underlying3 (by first|rfl|(rw[World.size_alloc];rfl)|(rw[World.size_alloc,World.size_alloc];rfl)) rfl rfl (by simp) ?_))
 rw[<-HW0.out];simp only[List.append_eq,List.cons_append,List.nil_append];have hu:=AC (w2.heap.size+2) (w2.heap.size+1) w2.heap.size (.func (.func 286) #[] #[.pointer (some ⟨b1,0,none⟩),.pointer (some ⟨b2,0,none⟩)]) vl;refine MC (kd (w2.heap.size+2) (w2.heap.size+1) w2.heap.size (.func (.func 286) #[] #[.pointer (some ⟨b1,0,none⟩),.pointer (some ⟨b2,0,none⟩)]) vl) ⟨w2.heap.size+2,(.func (.func 286) #[] #[.pointer (some ⟨b1,0,none⟩),.pointer (some ⟨b2,0,none⟩)])⟩ (by simp) (by simp) (by kernel_rfl) (by kernel_rfl) (by kernel_rfl) (by kernel_rfl) ?step ?ende
 case step=>
  have hd0:Below W0.heap.size W0 { W0 with drawn:=W0.drawn+1 }:=⟨rfl,rfl,rfl,Nl _,fun _ _=>rfl⟩
  refine AD (bo:=w2.heap.size+1) (bp:=w2.heap.size) (vl:=vl) ⟨rfl,rfl,rfl,rfl,rfl,rfl,rfl,⟨_,Zt K2.out hd0⟩,⟨_,Zt K1.out hd0⟩,Zt J1.out hd0,HLP.out.keep (Zq.of_below hd0),HLL.out.keep (Zq.of_below hd0)⟩ (fun kb=>?_)
  simp only[List.dropLast_cons_cons,List.dropLast_singleton];clear HLP HLL K1 K2 J1 HB HW0 q1 hmk;refine⟨Zbf kb.size hu rfl rfl rfl,?_⟩;refine⟨XI kb.size hu (x:=4) rfl rfl rfl (by decide) kb.s4 (by decide),?_⟩
  refine⟨ON kb hu (j:=1) (word:=[100,101,112,111,115,105,116]) rfl rfl rfl rfl (Zd rfl) (by decide) (by decide),?_⟩
  refine⟨Yk (k:=1) (jv:=2) rfl rfl rfl rfl (Zd rfl) (Zd rfl) (by decide),?_⟩
  refine⟨XI kb.size hu (x:=4) rfl rfl rfl (by decide) kb.s4 (by decide),?_⟩
  refine⟨ON kb hu (j:=4) (word:=[119,105,116,104,100,114,97,119]) rfl rfl rfl rfl (Zd rfl) (by decide) (by decide),?_⟩
  refine⟨Yk (k:=2) (jv:=5) rfl rfl rfl rfl (Zd rfl) (Zd rfl) (by decide),?_⟩
  refine⟨Wk kb.size hu rfl rfl rfl kb.s3 kb.hbo (by decide),?_⟩
  refine⟨XI kb.size hu (x:=6) rfl rfl rfl (by decide) kb.s6 (by decide),?_⟩
  refine⟨Ud kb.size hu (ms:=[0]) (fun e w=>by go_simp;first|done|rfl) rfl rfl (by decide),?_⟩
  refine⟨DK kb hu (jf:=7) (jm:=8) (js:=9) (word:=[98,117,121]) (cls:=3) (ms:=[0]) rfl rfl rfl rfl rfl rfl (Zd rfl) (Zd rfl) (Zd rfl) (by decide) (by decide) (by decide) (by decide) (by decide),?_⟩
  refine⟨Yk (k:=3) (jv:=10) rfl rfl rfl rfl (Zd rfl) (Zd rfl) (by decide),?_⟩
  refine⟨Wk kb.size hu rfl rfl rfl kb.s3 kb.hbo (by decide),?_⟩
  refine⟨XI kb.size hu (x:=6) rfl rfl rfl (by decide) kb.s6 (by decide),?_⟩
  refine⟨Ud kb.size hu (ms:=[0,10]) (fun e w=>by go_simp;first|done|rfl) rfl rfl (by decide),?_⟩
  refine⟨DK kb hu (jf:=12) (jm:=13) (js:=14) (word:=[115,101,108,108]) (cls:=3) (ms:=[0,10]) rfl rfl rfl rfl rfl rfl (Zd rfl) (Zd rfl) (Zd rfl) (by decide) (by decide) (by decide) (by decide) (by decide),?_⟩
  refine⟨Yk (k:=4) (jv:=15) rfl rfl rfl rfl (Zd rfl) (Zd rfl) (by decide),?_⟩
  refine⟨Wk kb.size hu rfl rfl rfl kb.s3 kb.hbo (by decide),?_⟩
  refine⟨Qf kb.size hu rfl rfl rfl (by decide),?_⟩
  refine⟨UC kb.size hu rfl rfl rfl kb.s1 kb.hbp (by decide),?_⟩
  refine⟨Xm (k:=7) (jm:=18) (jv:=19) rfl rfl (.inr ⟨rfl,rfl,rfl⟩) (by decide) rfl (.inr ⟨_,rfl,kb.lp.any⟩) (Zd rfl) (Zd rfl) (by decide),?_⟩
  refine⟨Qg kb.size hu (j:=18) rfl rfl rfl rfl (Zd rfl) (by decide) (fun _=>⟨20,rfl,(Zd rfl)⟩) (by decide),?_⟩
  refine⟨Ud kb.size hu (ms:=[0]) (fun e w=>by go_simp;first|done|rfl) rfl rfl (by decide),?_⟩
  refine⟨Qh kb hu (jf:=17) (jm:=21) (js:=22) (word:=[105,110,99,111,109,101]) (cls:=1) (ms:=[0]) rfl rfl rfl rfl rfl rfl (Zd rfl) (Zd rfl) (Zd rfl) (by decide) (by decide) (by decide) (by decide) (by decide),?_⟩
  refine⟨Yk (k:=5) (jv:=23) rfl rfl rfl rfl (Zd rfl) (Zd rfl) (by decide),?_⟩
  refine⟨XI kb.size hu (x:=4) rfl rfl rfl (by decide) kb.s4 (by decide),?_⟩
  refine⟨ON kb hu (j:=25) (word:=[101,120,112,101,110,115,101]) rfl rfl rfl rfl (Zd rfl) (by decide) (by decide),?_⟩
  refine⟨Yk (k:=6) (jv:=26) rfl rfl rfl rfl (Zd rfl) (Zd rfl) (by decide),?_⟩
  refine⟨XI kb.size hu (x:=5) rfl rfl rfl (by decide) kb.s5 (by decide),?_⟩
  refine⟨Wk kb.size hu rfl rfl rfl kb.s3 kb.hbo (by decide),?_⟩
  refine⟨Qf kb.size hu rfl rfl rfl (by decide),?_⟩
  refine⟨UC kb.size hu rfl rfl rfl kb.s1 kb.hbp (by decide),?_⟩
  refine⟨Xm (k:=4) (jm:=30) (jv:=31) rfl rfl (.inl ⟨rfl,by decide⟩) (by decide) rfl (.inr ⟨_,rfl,kb.lp.any⟩) (Zd rfl) (Zd rfl) (by decide),?_⟩
  refine⟨UC kb.size hu rfl rfl rfl kb.s1 kb.hbp (by decide),?_⟩
  refine⟨Xm (k:=5) (jm:=30) (jv:=33) rfl rfl (.inl ⟨rfl,by decide⟩) (by decide) rfl (.inr ⟨_,rfl,kb.lp.any⟩) (Zd rfl) (Zd rfl) (by decide),?_⟩
  refine⟨Qg kb.size hu (j:=30) rfl rfl rfl rfl (Zd rfl) (by decide) (fun h=>absurd h (by decide)) (by decide),?_⟩
  refine⟨Ud kb.size hu (ms:=[1,2]) (fun e w=>by go_simp;first|done|rfl) rfl rfl (by decide),?_⟩
  refine⟨Qh kb hu (jf:=29) (jm:=35) (js:=36) (word:=[99,111,110,118,101,114,116]) (cls:=2) (ms:=[1,2]) rfl rfl rfl rfl rfl rfl (Zd rfl) (Zd rfl) (Zd rfl) (by decide) (by decide) (by decide) (by decide) (by decide),?_⟩
  refine⟨Hi kb hu (jf:=28) (jx:=37) rfl rfl rfl rfl rfl (Zd rfl) (Zd rfl) (by decide) (by decide),?_⟩
  refine⟨Yk (k:=7) (jv:=38) rfl rfl rfl rfl (Zd rfl) (Zd rfl) (by decide),?_⟩
  refine⟨Wk kb.size hu rfl rfl rfl kb.s3 kb.hbo (by decide),?_⟩
  refine⟨Qf kb.size hu rfl rfl rfl (by decide),?_⟩
  refine⟨XI kb.size hu (x:=2) rfl rfl rfl (by decide) kb.s2 (by decide),?_⟩
  refine⟨Xm (k:=7) (jm:=41) (jv:=42) rfl rfl (.inl ⟨rfl,by decide⟩) (by decide) rfl (.inr ⟨_,rfl,kb.ll.any⟩) (Zd rfl) (Zd rfl) (by decide),?_⟩
  refine⟨UC kb.size hu rfl rfl rfl kb.s1 kb.hbp (by decide),?_⟩
  refine⟨Xm (k:=8) (jm:=41) (jv:=44) rfl rfl (.inl ⟨rfl,by decide⟩) (by decide) rfl (.inr ⟨_,rfl,kb.lp.any⟩) (Zd rfl) (Zd rfl) (by decide),?_⟩
  refine⟨Qg kb.size hu (j:=41) rfl rfl rfl rfl (Zd rfl) (by decide) (fun h=>absurd h (by decide)) (by decide),?_⟩
  refine⟨Ud kb.size hu (ms:=[0]) (fun e w=>by go_simp;first|done|rfl) rfl rfl (by decide),?_⟩
  refine⟨Qh kb hu (jf:=40) (jm:=46) (js:=47) (word:=[115,112,108,105,116]) (cls:=1) (ms:=[0]) rfl rfl rfl rfl rfl rfl (Zd rfl) (Zd rfl) (Zd rfl) (by decide) (by decide) (by decide) (by decide) (by decide),?_⟩
  refine⟨Yk (k:=8) (jv:=48) rfl rfl rfl rfl (Zd rfl) (Zd rfl) (by decide),?_⟩
  refine⟨Wk kb.size hu rfl rfl rfl kb.s3 kb.hbo (by decide),?_⟩
  refine⟨Qf kb.size hu rfl rfl rfl (by decide),?_⟩
  refine⟨XI kb.size hu (x:=2) rfl rfl rfl (by decide) kb.s2 (by decide),?_⟩
  refine⟨Xm (k:=7) (jm:=51) (jv:=52) rfl rfl (.inl ⟨rfl,by decide⟩) (by decide) rfl (.inr ⟨_,rfl,kb.ll.any⟩) (Zd rfl) (Zd rfl) (by decide),?_⟩
  refine⟨UC kb.size hu rfl rfl rfl kb.s1 kb.hbp (by decide),?_⟩
  refine⟨Xm (k:=8) (jm:=51) (jv:=54) rfl rfl (.inl ⟨rfl,by decide⟩) (by decide) rfl (.inr ⟨_,rfl,kb.lp.any⟩) (Zd rfl) (Zd rfl) (by decide),?_⟩
  refine⟨Zbe kb.size hu (p:=false) (q:=true) (fun e w=>by go_simp;first|done|rfl) rfl rfl (by decide),?_⟩
  refine⟨Xm (k:=9) (jm:=51) (jv:=56) rfl rfl (.inl ⟨rfl,by decide⟩) (by decide) rfl (.inl rfl) (Zd rfl) (Zd rfl) (by decide),?_⟩
  refine⟨Qg kb.size hu (j:=51) rfl rfl rfl rfl (Zd rfl) (by decide) (fun h=>absurd h (by decide)) (by decide),?_⟩
  refine⟨Ud kb.size hu (ms:=[0,1]) (fun e w=>by go_simp;first|done|rfl) rfl rfl (by decide),?_⟩
  refine⟨Qh kb hu (jf:=50) (jm:=58) (js:=59) (word:=[115,112,105,110,111,102,102]) (cls:=1) (ms:=[0,1]) rfl rfl rfl rfl rfl rfl (Zd rfl) (Zd rfl) (Zd rfl) (by decide) (by decide) (by decide) (by decide) (by decide),?_⟩
  refine⟨Yk (k:=9) (jv:=60) rfl rfl rfl rfl (Zd rfl) (Zd rfl) (by decide),?_⟩
  refine⟨Wk kb.size hu rfl rfl rfl kb.s3 kb.hbo (by decide),?_⟩
  refine⟨Ud kb.size hu (ms:=[0,11]) (fun e w=>by go_simp;first|done|rfl) rfl rfl (by decide),?_⟩
  refine⟨DL kb hu (jf:=62) (js:=63) (word:=[101,120,99,104,97,110,103,101]) (cls:=1) (ms:=[0,11]) rfl rfl rfl rfl rfl (Zd rfl) (Zd rfl) (by decide) (by decide) (by decide) (by decide),?_⟩
  refine⟨Yk (k:=10) (jv:=64) rfl rfl rfl rfl (Zd rfl) (Zd rfl) (by decide),?_⟩
  refine⟨Wk kb.size hu rfl rfl rfl kb.s3 kb.hbo (by decide),?_⟩
  refine⟨Ud kb.size hu (ms:=[0,3,12]) (fun e w=>by go_simp;first|done|rfl) rfl rfl (by decide),?_⟩
  refine⟨DL kb hu (jf:=66) (js:=67) (word:=[101,108,101,99,116]) (cls:=4) (ms:=[0,3,12]) rfl rfl rfl rfl rfl (Zd rfl) (Zd rfl) (by decide) (by decide) (by decide) (by decide),?_⟩
  refine⟨Yk (k:=11) (jv:=68) rfl rfl rfl rfl (Zd rfl) (Zd rfl) (by decide),?_⟩
  refine⟨Wk kb.size hu rfl rfl rfl kb.s3 kb.hbo (by decide),?_⟩
  refine⟨Qf kb.size hu rfl rfl rfl (by decide),?_⟩
  refine⟨UC kb.size hu rfl rfl rfl kb.s1 kb.hbp (by decide),?_⟩
  refine⟨Xm (k:=4) (jm:=71) (jv:=72) rfl rfl (.inl ⟨rfl,by decide⟩) (by decide) rfl (.inr ⟨_,rfl,kb.lp.any⟩) (Zd rfl) (Zd rfl) (by decide),?_⟩
  refine⟨XI kb.size hu (x:=2) rfl rfl rfl (by decide) kb.s2 (by decide),?_⟩
  refine⟨Xm (k:=7) (jm:=71) (jv:=74) rfl rfl (.inl ⟨rfl,by decide⟩) (by decide) rfl (.inr ⟨_,rfl,kb.ll.any⟩) (Zd rfl) (Zd rfl) (by decide),?_⟩
  refine⟨UC kb.size hu rfl rfl rfl kb.s1 kb.hbp (by decide),?_⟩
  refine⟨Xm (k:=8) (jm:=71) (jv:=76) rfl rfl (.inl ⟨rfl,by decide⟩) (by decide) rfl (.inr ⟨_,rfl,kb.lp.any⟩) (Zd rfl) (Zd rfl) (by decide),?_⟩
  refine⟨Qg kb.size hu (j:=71) rfl rfl rfl rfl (Zd rfl) (by decide) (fun h=>absurd h (by decide)) (by decide),?_⟩
  refine⟨Ud kb.size hu (ms:=[0,1]) (fun e w=>by go_simp;first|done|rfl) rfl rfl (by decide),?_⟩
  refine⟨Qh kb hu (jf:=70) (jm:=78) (js:=79) (word:=[101,120,101,114,99,105,115,101]) (cls:=3) (ms:=[0,1]) rfl rfl rfl rfl rfl rfl (Zd rfl) (Zd rfl) (Zd rfl) (by decide) (by decide) (by decide) (by decide) (by decide),?_⟩
  refine⟨Yk (k:=12) (jv:=80) rfl rfl rfl rfl (Zd rfl) (Zd rfl) (by decide),?_⟩
  refine⟨Wk kb.size hu rfl rfl rfl kb.s3 kb.hbo (by decide),?_⟩
  refine⟨Qf kb.size hu rfl rfl rfl (by decide),?_⟩
  refine⟨UC kb.size hu rfl rfl rfl kb.s1 kb.hbp (by decide),?_⟩
  refine⟨Xm (k:=7) (jm:=83) (jv:=84) rfl rfl (.inr ⟨rfl,rfl,rfl⟩) (by decide) rfl (.inr ⟨_,rfl,kb.lp.any⟩) (Zd rfl) (Zd rfl) (by decide),?_⟩
  refine⟨Qg kb.size hu (j:=83) rfl rfl rfl rfl (Zd rfl) (by decide) (fun _=>⟨85,rfl,(Zd rfl)⟩) (by decide),?_⟩
  refine⟨Ud kb.size hu (ms:=[0]) (fun e w=>by go_simp;first|done|rfl) rfl rfl (by decide),?_⟩
  refine⟨Qh kb hu (jf:=82) (jm:=86) (js:=87) (word:=[99,97,112,105,116,97,108]) (cls:=1) (ms:=[0]) rfl rfl rfl rfl rfl rfl (Zd rfl) (Zd rfl) (Zd rfl) (by decide) (by decide) (by decide) (by decide) (by decide),?_⟩
  refine⟨Yk (k:=13) (jv:=88) rfl rfl rfl rfl (Zd rfl) (Zd rfl) (by decide),?_⟩
  refine⟨Wk kb.size hu rfl rfl rfl kb.s3 kb.hbo (by decide),?_⟩
  refine⟨Qf kb.size hu rfl rfl rfl (by decide),?_⟩
  refine⟨XI kb.size hu (x:=2) rfl rfl rfl (by decide) kb.s2 (by decide),?_⟩
  refine⟨Xm (k:=7) (jm:=91) (jv:=92) rfl rfl (.inl ⟨rfl,by decide⟩) (by decide) rfl (.inr ⟨_,rfl,kb.ll.any⟩) (Zd rfl) (Zd rfl) (by decide),?_⟩
  refine⟨Qg kb.size hu (j:=91) rfl rfl rfl rfl (Zd rfl) (by decide) (fun h=>absurd h (by decide)) (by decide),?_⟩
  refine⟨Ud kb.size hu (ms:=[0]) (fun e w=>by go_simp;first|done|rfl) rfl rfl (by decide),?_⟩
  refine⟨Qh kb hu (jf:=90) (jm:=94) (js:=95) (word:=[99,97,108,108]) (cls:=1) (ms:=[0]) rfl rfl rfl rfl rfl rfl (Zd rfl) (Zd rfl) (Zd rfl) (by decide) (by decide) (by decide) (by decide) (by decide),?_⟩
  refine⟨Yk (k:=14) (jv:=96) rfl rfl rfl rfl (Zd rfl) (Zd rfl) (by decide),?_⟩
  refine⟨Wk kb.size hu rfl rfl rfl kb.s3 kb.hbo (by decide),?_⟩
  refine⟨Qf kb.size hu rfl rfl rfl (by decide),?_⟩
  refine⟨XI kb.size hu (x:=2) rfl rfl rfl (by decide) kb.s2 (by decide),?_⟩
  refine⟨Xm (k:=7) (jm:=99) (jv:=100) rfl rfl (.inl ⟨rfl,by decide⟩) (by decide) rfl (.inr ⟨_,rfl,kb.ll.any⟩) (Zd rfl) (Zd rfl) (by decide),?_⟩
  refine⟨Qg kb.size hu (j:=99) rfl rfl rfl rfl (Zd rfl) (by decide) (fun h=>absurd h (by decide)) (by decide),?_⟩
  refine⟨Ud kb.size hu (ms:=[0]) (fun e w=>by go_simp;first|done|rfl) rfl rfl (by decide),?_⟩
  refine⟨Qh kb hu (jf:=98) (jm:=102) (js:=103) (word:=[112,114,105,99,101]) (cls:=4) (ms:=[0]) rfl rfl rfl rfl rfl rfl (Zd rfl) (Zd rfl) (Zd rfl) (by decide) (by decide) (by decide) (by decide) (by decide),?_⟩
  refine⟨Yk (k:=15) (jv:=104) rfl rfl rfl rfl (Zd rfl) (Zd rfl) (by decide),?_⟩
  refine⟨XI kb.size hu (x:=5) rfl rfl rfl (by decide) kb.s5 (by decide),?_⟩
  refine⟨Wk kb.size hu rfl rfl rfl kb.s3 kb.hbo (by decide),?_⟩
  refine⟨Qf kb.size hu rfl rfl rfl (by decide),?_⟩
  refine⟨UC kb.size hu rfl rfl rfl kb.s1 kb.hbp (by decide),?_⟩
  refine⟨Xm (k:=8) (jm:=108) (jv:=109) rfl rfl (.inl ⟨rfl,by decide⟩) (by decide) rfl (.inr ⟨_,rfl,kb.lp.any⟩) (Zd rfl) (Zd rfl) (by decide),?_⟩
  refine⟨Qg kb.size hu (j:=108) rfl rfl rfl rfl (Zd rfl) (by decide) (fun h=>absurd h (by decide)) (by decide),?_⟩
  refine⟨Ud kb.size hu (ms:=[1,2]) (fun e w=>by go_simp;first|done|rfl) rfl rfl (by decide),?_⟩
  refine⟨Qh kb hu (jf:=107) (jm:=111) (js:=112) (word:=[114,97,116,101]) (cls:=4) (ms:=[1,2]) rfl rfl rfl rfl rfl rfl (Zd rfl) (Zd rfl) (Zd rfl) (by decide) (by decide) (by decide) (by decide) (by decide),?_⟩
  refine⟨Hi kb hu (jf:=106) (jx:=113) rfl rfl rfl rfl rfl (Zd rfl) (Zd rfl) (by decide) (by decide),?_⟩
  refine⟨Yk (k:=16) (jv:=114) rfl rfl rfl rfl (Zd rfl) (Zd rfl) (by decide),?_⟩
  refine⟨XI kb.size hu (x:=4) rfl rfl rfl (by decide) kb.s4 (by decide),?_⟩
  refine⟨ON kb hu (j:=116) (word:=[105,115,115,117,101]) rfl rfl rfl rfl (Zd rfl) (by decide) (by decide),?_⟩
  refine⟨Yk (k:=17) (jv:=117) rfl rfl rfl rfl (Zd rfl) (Zd rfl) (by decide),?_⟩
  refine⟨XI kb.size hu (x:=4) rfl rfl rfl (by decide) kb.s4 (by decide),?_⟩
  refine⟨ON kb hu (j:=119) (word:=[99,97,110,99,101,108]) rfl rfl rfl rfl (Zd rfl) (by decide) (by decide),?_⟩
  refine⟨Yk (k:=18) (jv:=120) rfl rfl rfl rfl (Zd rfl) (Zd rfl) (by decide),?_⟩
  exact trivial
 case ende=>
  intro listed a' w' hall hI;obtain⟨X,hI⟩:=hI;simp only[List.dropLast_cons_cons,List.dropLast_singleton,List.getLast_cons_cons,List.getLast_singleton];have hl0:=hall 0 (by simp)
  obtain⟨b,k1,k2,k3,k4,k5,k6⟩:=hI.o1 hl0;have h4:ZJ w' b 4/\ZJ w' b 5/\ZJ w' b 13:=⟨k4 16 4 (hall 16 (by simp)) rfl,k4 24 5 (hall 24 (by simp)) rfl,k4 89 13 (hall 89 (by simp)) rfl⟩
  have hXX:=hI.x;have hz:a'.tmps.size=105:=hI.size;have hdf:a'.defers=[]:=hI.dfr;have e1:a'.eval (.tmp 15)=.map (some b):=k1;refine wpList_plain rfl (fun K hK=>Zz (v:=.map (some b)) (w':=w') (by simp[execOp,e1]) (hK _ _ ?_))
  have e2:(a'.put (some 104) (.map (some b))).eval (.tmp 104)=.map (some b):=by
   have:=Wj (a:=a') (d:=104) (s:=104) (v:=.map (some b)) (by rw[hz];decide)
   rw[if_pos rfl] at this;exact this
  refine wpList_plain rfl (fun K hK=>Zz (v:=.map (some b)) (w':=w') (by simp[execOp,e2]) (hK _ _ ?_))
  apply wpList_nil;have e3:(((a'.put (some 104) (.map (some b))).put (some 0) (.map (some b))).tmps).getD 0 undef=.map (some b):=by
   have:=Wj (a:=a'.put (some 104) (.map (some b))) (d:=0) (s:=0) (v:=.map (some b)) (by show 0<(a'.tmps.setIfInBounds _ _).size;rw[Array.size_setIfInBounds,hz];decide)
   rw[if_pos rfl] at this;exact this
  change Exit.then _ _ Exit.normal ((a'.put (some 104) (.map (some b))).put (some 0) (.map (some b))) w';have hdf9:((a'.put (some 104) (.map (some b))).put (some 0) (.map (some b))).defers=[]:=hdf;obtain⟨es,c,o1,o2,o3⟩:=k3;have HEND:Hid (w'.heap[b]?=some (.map es c)/\TD ⟨w2.heap.size+2,(.func (.func 286) #[] #[.pointer (some ⟨b1,0,none⟩),.pointer (some ⟨b2,0,none⟩)])⟩ X w' b/\(ZJ w' b 4/\ZJ w' b 5/\ZJ w' b 13)/\(∀b,X b->Uc (.func (.func 286) #[] #[.pointer (some ⟨b1,0,none⟩),.pointer (some ⟨b2,0,none⟩)]) w' b)/\w'.heap[w2.heap.size+2]?=some (.map (YT [(4,(.func (.func 286) #[] #[.pointer (some ⟨b1,0,none⟩),.pointer (some ⟨b2,0,none⟩)])),(5,vl),(6,vl)]) 3)/\Uz w' b (.func (.func 286) #[] #[.pointer (some ⟨b1,0,none⟩),.pointer (some ⟨b2,0,none⟩)]) true false/\Uz w' b vl false false/\Below w.heap.size w w'):=by
   have hb0:Below W0.heap.size W0 w':=⟨hI.below.os,hI.below.tape,hI.below.output,hI.below.size,hI.below.block⟩;exact⟨o1,⟨es,c,o1,o2,o3⟩,h4,hXX,Zt J1.out hb0,HLP.out.re hb0 k2,HLL.out.re hb0 k2,bto HB.out hb0⟩
  generalize ((a'.put (some 104) (.map (some b))).put (some 0) (.map (some b)))=a9 at *;clear hI k1 k2 k4 k5 k6 hXX h4 e1 e2 hz hdf o1 o2 o3 hall hl0 hu q1 hmk;go_wp2;refine bodyPost_ret (v:=.map (some b)) ?_ hdf9 ?_
  ·have e4:a9.tmps[0]?.getD undef=.map (some b):=by rw[<-Array.getD_eq_getD_getElem?];exact e3
   simp[results,results183,go_sem,e4]
  exact⟨b,_,_,_,es,c,X,rfl,HEND.out⟩
theorem Hj {word:List UInt8} {cls:Int} {H:List Bool} {M:Option Nat} {code:Bool} (h:H.length=13):(Zv word cls H M code)[15]?=some (.map M)/\(Zv word cls H M code)[16]?=some (.bool code):=by
 unfold Zv;rw[List.getElem?_toArray,List.getElem?_toArray,List.getElem?_cons_succ,List.getElem?_cons_succ,List.getElem?_cons_succ,List.getElem?_cons_succ,List.getElem?_append_right (by rw[List.length_map,h];decide),List.getElem?_append_right (by rw[List.length_map,h];decide),List.length_map,h]
 exact⟨rfl,rfl⟩
structure Fa (w:World) (M:Option Nat) (k:Nat) (p q:Bool):Prop where
 is:∃bm es c j u b1 b2,M=some bm/\w.heap[bm]?=some (.map es c)/\Instr.findNow (.int .i64) (.int .i64 (k:Int)) es.toList 0=some (some (j,u))/\u=.func (.func 286) #[] #[.pointer (some ⟨b1,0,none⟩),.pointer (some ⟨b2,0,none⟩)]/\Blk w b1 #[.bool p]/\Blk w b2 #[.bool q]
theorem AE {w:World} {b k:Nat} (hN:Vg w b) (hk:ZJ w b k):∃p q,Fa w (some b) k p q:=by
 obtain⟨es,c,h1,h2,h3⟩:=hN;obtain⟨es2,c2,g1,e,he,hke⟩:=hk;rw[h1] at g1;cases g1;rcases MapKept.findNow_spec (d:=.int .i64) (k:=.int .i64 (k:Int)) rfl es.toList 0 (fun x hx=>by obtain⟨⟨k,-,hk⟩,-⟩:=h3 x hx;rw[hk];rfl) with ⟨-,h5⟩|⟨j,e',h4,h5,h6⟩
 ·exact absurd hke (h5 e he)
 ·obtain⟨-,p,q,b1,b2,hu,hb1,hb2⟩:=h3 e' (Lm h5);exact⟨p,q,⟨b,es,c,_,_,b1,b2,rfl,h1,h4,hu,hb1,hb2⟩⟩
theorem Qi {f:Fct} {w:World} {word:List UInt8} {cls:Int} {H:List Bool} {M:Option Nat} {code:Bool} {k:Nat} {p q:Bool} {l l':List UInt8} (hG:GE w) (hs:OG f) (hl:H.length=13) (hk:LI f k=some (l,l')) (hX:Fa w M k p q) :
  Calls prog 184 #[.agg (Zi f),.agg (Zv word cls H M code),.int .i64 (k:Int)] w fun e w'=>e=.returned (.int .i64 (bwE p q l l' (fv l l')))/\Below w.heap.size w w':=by
 obtain⟨g1,g2,g3,g4⟩:=VH w (.cells (Zi f) 48) (.cells (Zv word cls H M code) 270);obtain⟨bm,es,c,j,u,b1,b2,rfl,h1,h2,h3,h4,h5⟩:=hX.is;obtain⟨hl1,hl2⟩:=As hs hk;have CV:=Lh (Dr (f:=f) hk);obtain⟨E,hE⟩:∃E,E=bwE p q l l' (fv l l'):=⟨_,rfl⟩
 rw[<-hE];obtain⟨W0,hW0⟩:∃W0,W0=(w.alloc (.cells (Zi f) 48)).alloc (.cells (Zv word cls H (some bm) code) 270):=⟨_,rfl⟩
 rw[<-hW0] at g1 g2 g3;have X0:Hid (Blk W0 w.heap.size (Zi f)):=⟨_,g1⟩;have X1:Hid (W0.cell? ⟨w.heap.size+1,15,none⟩=some (.map (some bm))):=(Zg g2 15).trans (Hj hl).1;have HM:=Lh (Zt h1 g3);have HF:=Lh h2;have H4:=Lh (h4.below g3);have H5:=Lh (h5.below g3);have HB:=Lh g3;have HU:=Lh h3;have CB:Hid (∀w',GE w'->Blk w' b1 #[.bool p]->Blk w' b2 #[.bool q]->Calls prog 286 #[.agg #[.string ⟨l.toArray⟩,.string ⟨l'.toArray⟩],.pointer (some ⟨b1,0,none⟩),.pointer (some ⟨b2,0,none⟩)] w' fun e w''=>e=.returned (.int .i64 E)/\Below w'.heap.size w' w''):=fun w' hG' k1 k2=>by
  rw[hE];exact I5 p q (SH (k:=1000) hl1 hl2 (by decide)) hG' k1 k2
 have HW0:=Lh hW0;have HK:Hid (4<=k/\k<=9):=by
  show _/\_;unfold LI at hk
  split at hk<;>first|(cases hk;omega)|cases hk
 clear g1 g2 g3 g4 h1 h2 h3 h4 h5 hl1 hl2 hE hW0 hX hs hk hl;have k0:((k:Int)==0)=false:=by rw[Bn];have:=HK.out;omega
 have k1:((k:Int)==1)=false:=by rw[Bn];have:=HK.out;omega
 have k2:((k:Int)==2)=false:=by rw[Bn];have:=HK.out;omega
 have k3:((k:Int)==3)=false:=by rw[Bn];have:=HK.out;omega
 have k10:((k:Int)==10)=false:=by rw[Bn];have:=HK.out;omega
 have k11:((k:Int)==11)=false:=by rw[Bn];have:=HK.out;omega
 have k12:((k:Int)==12)=false:=by rw[Bn];have:=HK.out;omega
 have e0:¬(k:Int)=0:=by have:=HK.out;omega
 have e1:¬(k:Int)=1:=by have:=HK.out;omega
 have e2:¬(k:Int)=2:=by have:=HK.out;omega
 have e3:¬(k:Int)=3:=by have:=HK.out;omega
 have e10:¬(k:Int)=10:=by have:=HK.out;omega
 have e11:¬(k:Int)=11:=by have:=HK.out;omega
 have e12:¬(k:Int)=12:=by have:=HK.out;omega
 go_enter func184,ntmps184;go_wp2_with fail;rw[<-HW0.out];refine Zm (by kernel_rfl) (by kernel_rfl) ?_
 refine KeV ?_;simp only[Act.put,StT,StZ,StS,Nat.reduceAdd];refine KeW (fun ρ wz hw=>by have q0:wz.cell? ⟨w.heap.size+1,15,none⟩=some (.map (some bm)):=(World.cell?_of_block (hw.block _ (World.block_lt_of_cell? _ _ X1.out))).trans X1.out;go_simp;try rfl) ?_
 simp only[Act.put,StT,StZ,StS,Nat.reduceAdd];refine KeV ?_;simp only[Act.put,StT,StZ,StS,Nat.reduceAdd];refine Zw u (fun _=>rfl) (fun ρ wz hw=>by have q0:=Ur (P:=prog) (mty:=268) (key:=.int .i64 (k:Int)) underlying268 underlying3 rfl (Zt HM.out hw) HF.out false;go_simp;try rfl) ?_
 simp only[Act.put,StT,StZ,StS,Nat.reduceAdd];refine Zw (.agg (Zi f)) (fun _=>rfl) (fun ρ wz hw=>Wv 48 _ rfl w.heap.size rfl (Zi f) (X0.out.below hw) underlying48 rfl Zs) ?_
 simp only[Act.put,StT,StZ,StS,Nat.reduceAdd];refine KeV ?_;simp only[Act.put,StT,StZ,StS,Nat.reduceAdd];refine KeC (fun wz hw=>CV.out.of hG (bto HB.out hw)) ?_
 simp only[Act.put,StT,StZ,StS,Nat.reduceAdd];refine Ni 286 #[.agg #[.string ⟨l.toArray⟩,.string ⟨l'.toArray⟩],.pointer (some ⟨b1,0,none⟩),.pointer (some ⟨b2,0,none⟩)] _ (fun _=>rfl) (fun ρ wz hw=>by rw[HU.out];go_simp;try rfl) (fun wz hw=>CB.out wz (hG.below (bto HB.out hw)) (H4.out.below hw) (H5.out.below hw)) ?_
 simp only[Act.put,StT,StZ,StS,Nat.reduceAdd];refine KeV ?_;simp only[Act.put,StT,StZ,StS,Nat.reduceAdd];refine ZC (fun ρ w9 hF=>?_)
 have hb9:=bto HB.out hF.below;clear hF;go_wp2;go_ret;exact⟨rfl,hb9⟩
def DO (f:Fct) (ps:List Pk):Nat->Prop
 | 0=>nmE f.ins=0
 | 10=>ps=[]/\0<=val f.q
 | _=>False
structure Qj (w:World) (f:Fct) (ps:List Pk) (os:List Opn):Prop where
 sm:OG f
 pk:WB w f.pA ps
 pn:ps.length=f.pN
 pc:f.pN<=f.pC
 ps:∀p∈ps,p.lot.length<=1000/\p.q.length<=100
 op:QJ w f.oA os
 on:os.length=f.oN
 os:∀p∈os,Ax p
theorem Qj.below {w w':World} {f:Fct} {ps:List Pk} {os:List Opn} (h:Qj w f ps os) (hb:Below w.heap.size w w'):Qj w' f ps os:=⟨h.sm,h.pk.below hb,h.pn,h.pc,h.ps,h.op.below hb,h.on,h.os⟩
theorem Zbh {f:Fct} {ps:List Pk} {os:List Opn} {w:World} {word:List UInt8} {cls:Int} {H:List Bool} {M:Option Nat} {code:Bool} {k:Nat} (hG:GE w) (hA:Qj w f ps os) (hl:H.length=13) (hk:k∈O6) :
  Calls prog 184 #[.agg (Zi f),.agg (Zv word cls H M code),.int .i64 (k:Int)] w fun e w'=>(∃E:Int,e=.returned (.int .i64 E)/\(DO f ps k->E=0))/\Below w.heap.size w w':=by
 obtain⟨g1,g2,g3,g4⟩:=VH w (.cells (Zi f) 48) (.cells (Zv word cls H M code) 270);have X0:Hid (Blk ((w.alloc (.cells (Zi f) 48)).alloc (.cells (Zv word cls H M code) 270)) w.heap.size (Zi f)):=⟨_,g1⟩;have X1:Hid (((w.alloc (.cells (Zi f) 48)).alloc (.cells (Zv word cls H M code) 270)).cell? ⟨w.heap.size+1,16,none⟩=some (.bool code)):=(Zg g2 16).trans (Hj hl).2;have HB:=Lh g3;have HA:=Lh (hA.below g3);have hsi:=hA.sm.ins;have hst:=hA.sm.tgt;have hso:=hA.sm.oth;have hsc:=hA.sm.cur;clear g1 g2 g3 g4 hA;simp only[O6,List.mem_cons,List.not_mem_nil,or_false] at hk;rcases hk with rfl|rfl|rfl|rfl|rfl|rfl|rfl
 ·have q0:((w.alloc (.cells (Zi f) 48)).alloc (.cells (Zv word cls H M code) 270)).cell? ⟨w.heap.size,5,none⟩=some (.string ⟨f.ins.toArray⟩):=X0.out.c 5;have C1:=Lh (Mz (l:=f.ins) (by omega))
  go_enter func184,ntmps184;go_wp2_with fail
  refine (C1.out.of hG HB.out).mono ?_
  rintro e w1 ⟨rfl,hb1⟩;go_wp2;go_ret;exact⟨⟨_,rfl,fun h=>h⟩,bto HB.out hb1⟩
 ·have q0:((w.alloc (.cells (Zi f) 48)).alloc (.cells (Zv word cls H M code) 270)).cell? ⟨w.heap.size,5,none⟩=some (.string ⟨f.ins.toArray⟩):=X0.out.c 5;have q1:((w.alloc (.cells (Zi f) 48)).alloc (.cells (Zv word cls H M code) 270)).cell? ⟨w.heap.size,6,none⟩=some (.string ⟨f.oth.toArray⟩):=X0.out.c 6;have q2:((w.alloc (.cells (Zi f) 48)).alloc (.cells (Zv word cls H M code) 270)).cell? ⟨w.heap.size,7,none⟩=some (.string ⟨f.cur.toArray⟩):=X0.out.c 7;have q3:=X1.out;cases code with
  | true=>
   have C1:=Lh (fun w=>I6 (l:=f.oth) (by omega) w)
   go_enter func184,ntmps184;go_wp2_with fail;refine (C1.out _).mono ?_;rintro e w1 ⟨⟨b,rfl⟩,hb1⟩;have hbw:=bto HB.out hb1;have q4:w1.cell? ⟨w.heap.size,6,none⟩=some (.string ⟨f.oth.toArray⟩):=(X0.out.below hb1).c 6;cases b with
   | false=>
    go_wp2;go_ret;exact⟨⟨_,rfl,fun h=>h.elim⟩,hbw⟩
   | true=>
    by_cases ho:f.oth=f.cur
    ·have e5:(f.oth==f.cur)=true:=by rw[beq_iff_eq];exact ho
     clear ho;go_wp2;go_ret;exact⟨⟨_,rfl,fun h=>h.elim⟩,hbw⟩
    ·have e5:(f.oth==f.cur)=false:=by rw[Bn];exact ho
     clear ho;go_wp2;go_ret;exact⟨⟨_,rfl,fun h=>h.elim⟩,hbw⟩
  | false=>
   have C1:=Lh (Mz (l:=f.oth) (by omega))
   generalize nmE f.oth=z at *;go_enter func184,ntmps184;go_wp2_with fail
   refine (C1.out.of hG HB.out).mono ?_
   rintro e w1 ⟨rfl,hb1⟩;have hbw:=bto HB.out hb1;have q4:w1.cell? ⟨w.heap.size,6,none⟩=some (.string ⟨f.oth.toArray⟩):=(X0.out.below hb1).c 6
   by_cases hz:z=0
   rotate_left
   ·have e6:(z==0)=false:=by rw[Bn];exact hz
    have e7:decide (z=0)=false:=Df hz;go_wp2;go_ret;exact⟨⟨_,rfl,fun h=>h.elim⟩,hbw⟩
   subst hz
   by_cases ho:f.oth=f.ins
   ·have e5:(f.oth==f.ins)=true:=by rw[beq_iff_eq];exact ho
    clear ho;go_wp2;go_ret;exact⟨⟨_,rfl,fun h=>h.elim⟩,hbw⟩
   ·have e5:(f.oth==f.ins)=false:=by rw[Bn];exact ho
    clear ho;go_wp2;go_ret;exact⟨⟨_,rfl,fun h=>h.elim⟩,hbw⟩
 ·have q0:((w.alloc (.cells (Zi f) 48)).alloc (.cells (Zv word cls H M code) 270)).cell? ⟨w.heap.size,7,none⟩=some (.string ⟨f.cur.toArray⟩):=X0.out.c 7;have C1:=Lh (I6 (l:=f.cur) (by omega) ((w.alloc (.cells (Zi f) 48)).alloc (.cells (Zv word cls H M code) 270)))
  go_enter func184,ntmps184;go_wp2_with fail;refine C1.out.mono ?_;rintro e w1 ⟨⟨b,rfl⟩,hb1⟩;have hbw:=bto HB.out hb1;cases b with
  | false=>
   go_wp2;go_ret;exact⟨⟨_,rfl,fun h=>h.elim⟩,hbw⟩
  | true=>
   go_wp2;go_ret;exact⟨⟨_,rfl,fun h=>h.elim⟩,hbw⟩
 ·have q0:((w.alloc (.cells (Zi f) 48)).alloc (.cells (Zv word cls H M code) 270)).cell? ⟨w.heap.size,8,none⟩=some (.string ⟨f.tgt.toArray⟩):=X0.out.c 8;have C1:=Lh (Mz (l:=f.tgt) (by omega))
  go_enter func184,ntmps184;go_wp2_with fail
  refine (C1.out.of hG HB.out).mono ?_
  rintro e w1 ⟨rfl,hb1⟩;go_wp2;go_ret;exact⟨⟨_,rfl,fun h=>h.elim⟩,bto HB.out hb1⟩
 ·have C1:=Lh (Za8 (hG.below HB.out) HA.out.sm HA.out.pk HA.out.pn HA.out.pc HA.out.ps);go_enter func184,ntmps184;go_wp2_with (refine Zj rfl 48 (.tmp 3) rfl w.heap.size rfl (Zi f) X0.out underlying48 rfl Zs ?_);refine C1.out.mono ?_;rintro e w1 ⟨⟨E,rfl,hE⟩,hb1⟩;have HE:=Lh hE;clear hE;go_wp2;go_ret;exact⟨⟨_,rfl,fun h=>HE.out h.1 h.2⟩,bto HB.out hb1⟩
 ·have C1:=Lh (DD (hG.below HB.out) HA.out.op HA.out.on HA.out.os);go_enter func184,ntmps184;go_wp2_with (refine Zj rfl 48 (.tmp 3) rfl w.heap.size rfl (Zi f) X0.out underlying48 rfl Zs ?_);refine C1.out.mono ?_;rintro e w1 ⟨⟨E,rfl⟩,hb1⟩;go_wp2;go_ret;exact⟨⟨_,rfl,fun h=>h.elim⟩,bto HB.out hb1⟩
 ·have q0:((w.alloc (.cells (Zi f) 48)).alloc (.cells (Zv word cls H M code) 270)).cell? ⟨w.heap.size,20,none⟩=some (.int .i64 f.choice):=X0.out.c 20
  by_cases hc:f.choice<0
  ·have e5:decide (f.choice<0)=true:=Dt hc;go_enter func184,ntmps184;go_wp2;go_ret;exact⟨⟨_,rfl,fun h=>h.elim⟩,HB.out⟩
  ·have e5:decide (f.choice<0)=false:=Df hc;go_enter func184,ntmps184;go_wp2;go_ret;exact⟨⟨_,rfl,fun h=>h.elim⟩,HB.out⟩
def Qk (w:World) (u:Value) (p q:Bool):Prop:=∃b1 b2,u=.func (.func 286) #[] #[.pointer (some ⟨b1,0,none⟩),.pointer (some ⟨b2,0,none⟩)]/\Blk w b1 #[.bool p]/\Blk w b2 #[.bool q]
theorem Qk.below {w w':World} {u:Value} {p q:Bool} (h:Qk w u p q) (hb:Below w.heap.size w w'):Qk w' u p q:=by
 obtain⟨b1,b2,e,h1,h2⟩:=h;exact⟨b1,b2,e,h1.below hb,h2.below hb⟩
def KXF (w:World) (v:Value):Prop:=∃bt vp vl,KX bt v/\w.heap[bt]?=some (.map (YT [(4,vp),(5,vl),(6,vl)]) 3)/\Qk w vp true false/\Qk w vl false false
theorem KXF.below {w w':World} {v:Value} (h:KXF w v) (hb:Below w.heap.size w w'):KXF w' v:=by
 obtain⟨bt,vp,vl,h1,h2,h3,h4⟩:=h;exact⟨bt,vp,vl,h1,Zt h2 hb,h3.below hb,h4.below hb⟩
theorem JZ {w:World} {bt:Nat} {vp vl:Value} (h:w.heap[bt]?=some (.map (YT [(4,vp),(5,vl),(6,vl)]) 3)) (h1:Qk w vp true false) (h2:Qk w vl false false):Fa w (some bt) 4 true false/\Fa w (some bt) 5 false false/\Fa w (some bt) 6 false false:=by
 obtain⟨b1,b2,e1,k1,k2⟩:=h1;obtain⟨b3,b4,e2,k3,k4⟩:=h2;obtain⟨j4,f4⟩:=Qd (kd:=.i64) [(4,vp),(5,vl),(6,vl)] 0 4 vp 0 (by simp) (by simp)
 obtain⟨j5,f5⟩:=Qd (kd:=.i64) [(4,vp),(5,vl),(6,vl)] 0 5 vl 0 (by simp) (by simp)
 obtain⟨j6,f6⟩:=Qd (kd:=.i64) [(4,vp),(5,vl),(6,vl)] 0 6 vl 0 (by simp) (by simp)
 exact⟨⟨bt,_,_,j4,vp,b1,b2,rfl,h,f4,e1,k1,k2⟩,⟨bt,_,_,j5,vl,b3,b4,rfl,h,f5,e2,k3,k4⟩,⟨bt,_,_,j6,vl,b3,b4,rfl,h,f6,e2,k3,k4⟩⟩
def KYF (w:World) (v:Value):Prop:=∃vp word cls H b code,v=.agg (Zv word cls H (some b) code)/\Uc vp w b/\Qk w vp true false/\TR H (fun i=>i=7∨i=0)/\H[7]?=some true/\H[0]?=some true
theorem KYF.below {w w':World} {v:Value} (h:KYF w v) (hb:Below w.heap.size w w'):KYF w' v:=by
 obtain⟨vp,word,cls,H,b,code,e,h1,h2,h3⟩:=h;exact⟨vp,word,cls,H,b,code,e,h1.below hb,h2.below hb,h3⟩
theorem DR {w:World} {b:Nat} {vp:Value} (hN:Vg w b) (hX:Uc vp w b) (hK:ZJ w b 7) (hl:Qk w vp true false):Fa w (some b) 7 true false:=by
 obtain⟨es,c,h1,h2⟩:=hX;obtain⟨es2,c2,k1,-,k2⟩:=hN;rw[h1] at k1;cases k1;obtain⟨es3,c3,g1,x,g2,g3⟩:=hK;rw[h1] at g1;cases g1;rcases MapKept.findNow_spec (d:=.int .i64) (k:=.int .i64 ((7:Nat):Int)) rfl es.toList 0 (fun x hx=>by obtain⟨⟨k,-,hk⟩,-⟩:=k2 x hx;rw[hk];rfl) with ⟨-,h8⟩|⟨j,e,h7,h8,-⟩
 ·exact absurd g3 (h8 x g2)
 ·obtain⟨b1,b2,e1,q1,q2⟩:=hl;have hv:=(h2 e (Lm h8)).2;exact⟨b,es,c,0+j,e.val,b1,b2,rfl,h1,h7,by rw[hv];exact e1,q1,q2⟩
def DT (kd:Int):Prop:=kd=4∨kd=5∨kd=13
def Fb (w:World) (u:Value):Prop:=∃r bt vp vl es c X,u=.map (some r)/\w.heap[r]?=some (.map es c)/\TD ⟨bt,vp⟩ X w r/\(ZJ w r 4/\ZJ w r 5/\ZJ w r 13)/\(∀b,X b->Uc vp w b)/\w.heap[bt]?=some (.map (YT [(4,vp),(5,vl),(6,vl)]) 3)/\Qk w vp true false/\Qk w vl false false
theorem Fb.below {w w':World} {u:Value} (h:Fb w u) (hb:Below w.heap.size w w'):Fb w' u:=by
 obtain⟨r,bt,vp,vl,es,c,X,e,h1,h2,h3,hX,h4,h5,h6⟩:=h;exact⟨r,bt,vp,vl,es,c,X,e,Zt h1 hb,h2.below hb,⟨h3.1.below hb,h3.2.1.below hb,h3.2.2.below hb⟩,fun b hx=>(hX b hx).below hb,Zt h4 hb,h5.below hb,h6.below hb⟩
def KQ (kd:Int) (w:World) (v:Value):Prop:=KPg w v/\(kd=4->KXF w v)/\(kd=5∨kd=13->KYF w v)
theorem KQ.below {kd:Int} {w w':World} {v:Value} (h:KQ kd w v) (hb:Below w.heap.size w w'):KQ kd w' v:=⟨h.1.below hb,fun e=>(h.2.1 e).below hb,fun e=>(h.2.2 e).below hb⟩
theorem Zb7 {w:World} {u:Value} (kd:Int) (h:Fb w u):∃v b,(Instr.lookup 272 u (.int .i64 kd) true).run prog w=.ok (.tuple #[v,.bool b]) w/\KQ kd w v/\(DT kd->b=true):=by
 obtain⟨r,bt,vp,vl,es,c,X,rfl,h1,ho,hk,hX,h4,h5,h6⟩:=h;obtain⟨es2,c2,g1,g2,g3⟩:=ho;rw[h1] at g1;cases g1;rcases MapKept.findNow_spec (d:=.int .i64) (k:=.int .i64 kd) rfl es.toList 0 (fun x hx=>by obtain⟨k,hk,-⟩:=g3 x hx;rw[hk];rfl) with ⟨h7,h8⟩|⟨j,e,h7,h8,h9⟩
 ·have hr:=TJ (P:=prog) (mty:=272) (key:=.int .i64 kd) underlying272 underlying3 rfl h1 (zeroValue270 w) h7 true;have hno:∀k:Nat,ZJ w r k->kd≠(k:Int):=fun k hk e=>by
   obtain⟨es3,c3,k1,e3,k2,k3⟩:=hk;rw[h1] at k1;cases k1;exact absurd k3 (by rw[e] at h8;exact h8 e3 k2)
  have n4:=hno 4 hk.1;have n5:=hno 5 hk.2.1;have n13:=hno 13 hk.2.2;refine⟨_,_,by rw[if_pos rfl] at hr;exact hr,⟨⟨[],0,List.replicate 13 false,none,false,rfl,rfl,fun i hi=>?_⟩,fun e=>absurd e n4,fun e=>(e.elim n5 n13).elim⟩,fun e=>(e.elim n4 (fun e=>e.elim n5 n13)).elim⟩
  rw[List.getElem?_replicate] at hi
  split at hi<;>cases hi
 ·have hr:=Ur (P:=prog) (mty:=272) (key:=.int .i64 kd) underlying272 underlying3 rfl h1 h7 true;obtain⟨k,k1,k2,k3,k4⟩:=g3 e (Lm h8);have hkk:kd=(k:Int):=by
   rw[h9] at k1;injection k1
  refine⟨_,_,by rw[if_pos rfl] at hr;exact hr,⟨k2,fun e4=>⟨bt,vp,vl,k3 (by omega),h4,h5,h6⟩,fun e5=>?_⟩,fun _=>rfl⟩
  obtain⟨word,cls,H,b,code,q1,q2,q3⟩:=k4 (by omega)
  exact⟨vp,word,cls,H,b,code,q1,hX b q2,h5,q3⟩
structure GoodS (f:Fct) (ps:List Pk):Prop where
 key:YL f.key=true
 stamp:0<=f.stamp
 day : -25567<=f.day/\f.day<=84005
 kind:f.kind=4
 g0:DO f ps 0
 g10:DO f ps 10
 q:bwE true false f.q [] (fv f.q [])=0
 amt:bwE false false f.amt [] (fv f.amt [])=0
 fee:bwE false false f.fee [] (fv f.fee [])=0
 em:∀k∈[1,2,3,7,8,9,11,12],emB f k=true
def DU (f:Fct) (k:Nat):Prop:=if k=0 then nmE f.ins=0 else if k=7 then bwE true false f.pn f.pd (fv f.pn f.pd)=0 else emB f k=true
structure Hk (f:Fct):Prop where
 key:YL f.key=true
 stamp:0<=f.stamp
 day : -25567<=f.day/\f.day<=84005
 fld:∀k,k<13->DU f k
theorem AG (w:World):Calls prog 183 #[] w fun e w'=>∃u,e=.returned u/\Below w.heap.size w w'/\Fb w' u:=by
 refine (Zbg w).mono ?_;rintro e w' ⟨r,bt,vp,vl,es,c,X,rfl,h1,h2,h3,hX,h4,h5,h6,h7⟩;obtain⟨b1,b2,e1,k1,k2,-,-⟩:=h5.is;obtain⟨b3,b4,e2,k3,k4,-,-⟩:=h6.is;exact⟨_,rfl,h7,r,bt,vp,vl,es,c,X,rfl,h1,h2,h3,hX,h4,⟨b1,b2,e1,k1,k2⟩,⟨b3,b4,e2,k3,k4⟩⟩
theorem DV {word:List UInt8} {cls:Int} {H:List Bool} {M:Option Nat} {code:Bool} {k:Nat} {h:Bool} (hk:H[k]?=some h):(Zv word cls H M code)[2+k]?=some (.bool h):=by
 have hlt:=(Lg.1 hk).1;unfold Zv;rw[List.getElem?_toArray,show 2+k=k+1+1 by omega,List.getElem?_cons_succ,List.getElem?_cons_succ,List.getElem?_append_left (by rw[List.length_map];exact hlt),List.getElem?_map,hk]
 rfl
theorem Fc (f:Fct) {k:Nat} (hk:k<13) (hn:k∉O6):∃l l',LI f k=some (l,l'):=by
 match k,hk with
 | 0,_|1,_|2,_|3,_|10,_|11,_|12,_=>exact absurd (by decide) hn
 | 4,_|5,_|6,_|7,_|8,_|9,_=>exact⟨_,_,rfl⟩
theorem AH {f:Fct} {w:World} {word:List UInt8} {cls:Int} {H:List Bool} {M:Option Nat} {code:Bool} (hG:GE w) (hs:OG f) :
  Calls prog 184 #[.agg (Zi f),.agg (Zv word cls H M code),.int .i64 0] w fun e w'=>e=.returned (.int .i64 (nmE f.ins))/\Below w.heap.size w w':=by
 obtain⟨g1,g2,g3,g4⟩:=VH w (.cells (Zi f) 48) (.cells (Zv word cls H M code) 270);have X0:Hid (Blk ((w.alloc (.cells (Zi f) 48)).alloc (.cells (Zv word cls H M code) 270)) w.heap.size (Zi f)):=⟨_,g1⟩;have HB:=Lh g3;have hsi:=hs.ins;have q0:((w.alloc (.cells (Zi f) 48)).alloc (.cells (Zv word cls H M code) 270)).cell? ⟨w.heap.size,5,none⟩=some (.string ⟨f.ins.toArray⟩):=X0.out.c 5;have C1:=Lh (Mz (l:=f.ins) (by omega))
 clear g1 g2 g3 g4 hs;go_enter func184,ntmps184;go_wp2_with fail
 refine (C1.out.of hG HB.out).mono ?_
 rintro e w1 ⟨rfl,hb1⟩;go_wp2;go_ret;exact⟨rfl,bto HB.out hb1⟩
theorem ZcL {f:Fct} {ps:List Pk} {os:List Opn} {w:World} {word:List UInt8} {cls:Int} {H:List Bool} {M:Option Nat} {code:Bool} {k:Nat} (hG:GE w) (hA:Qj w f ps os) (hl:H.length=13) (hk:k<13) (hH:H[k]?=some true) (hQ:KQ f.kind w (.agg (Zv word cls H M code))) :
  Calls prog 184 #[.agg (Zi f),.agg (Zv word cls H M code),.int .i64 (k:Int)] w fun e w'=>(∃E:Int,e=.returned (.int .i64 E)/\(GoodS f ps->E=0)/\(f.kind=5∨f.kind=13->(E=0↔DU f k)))/\Below w.heap.size w w':=by
 by_cases hy:f.kind=5∨f.kind=13
 ·have hng:¬GoodS f ps:=fun h=>by have:=h.kind;omega
  obtain⟨vp,word2,cls2,H2,b,code2,e2,hX,hlp,⟨k1,k2⟩,k3,-⟩:=hQ.2.2 hy;obtain⟨-,-,rfl,rfl⟩:=WG hl k1 e2;rcases k2 k hH with rfl|rfl
  ·obtain⟨word3,cls3,H3,M3,code3,e3,g1,g2⟩:=hQ.1;obtain⟨-,-,rfl,rfl⟩:=WG hl g1 e3;rcases g2 7 hH with h|⟨b',e4,hN,hK⟩
   ·exact absurd h (by decide)
   injection e4 with e4
   subst e4;refine (Qi hG hA.sm hl (k:=7) rfl (DR hN hX hK hlp)).mono ?_;rintro e w' ⟨rfl,hb⟩;exact⟨⟨_,rfl,fun h=>absurd h hng,fun _=>Iff.rfl⟩,hb⟩
  ·refine (AH hG hA.sm).mono ?_;rintro e w' ⟨rfl,hb⟩;exact⟨⟨_,rfl,fun h=>absurd h hng,fun _=>Iff.rfl⟩,hb⟩
 by_cases hn:k∈O6
 ·refine (Zbh hG hA hl hn).mono ?_;rintro e w' ⟨⟨E,rfl,hE⟩,hb⟩;refine⟨⟨E,rfl,fun hg=>hE ?_,fun h=>absurd h hy⟩,hb⟩
  obtain⟨bt,vp,vl,⟨word2,cls2,H2,code2,e2,⟨k1,k2⟩,-⟩,-⟩:=hQ.2.1 hg.kind;obtain⟨-,-,rfl,-⟩:=WG hl k1 e2;rcases k2 k hH with h|h
  ·simp only[O6,List.mem_cons,List.not_mem_nil,or_false] at hn h;omega
  ·simp only[List.mem_cons,List.not_mem_nil,or_false] at h;rcases h with rfl|rfl
   ·exact hg.g0
   ·exact hg.g10
 ·obtain⟨l,l',hf⟩:=Fc f hk hn
  by_cases hk4:f.kind=4
  ·obtain⟨bt,vp,vl,⟨word2,cls2,H2,code2,e2,⟨k1,k2⟩,-⟩,h3,h4,h5⟩:=hQ.2.1 hk4;obtain⟨-,-,rfl,rfl⟩:=WG hl k1 e2;obtain⟨x4,x5,x6⟩:=JZ h3 h4 h5;rcases k2 k hH with h|h
   ·simp only[List.mem_cons,List.not_mem_nil,or_false] at h;rcases h with rfl|rfl|rfl
    ·cases hf;refine (Qi hG hA.sm hl (k:=4) rfl x4).mono ?_;rintro e w' ⟨rfl,hb⟩;exact⟨⟨_,rfl,fun hg=>hg.q,fun h=>absurd h hy⟩,hb⟩
    ·cases hf;refine (Qi hG hA.sm hl (k:=5) rfl x5).mono ?_;rintro e w' ⟨rfl,hb⟩;exact⟨⟨_,rfl,fun hg=>hg.amt,fun h=>absurd h hy⟩,hb⟩
    ·cases hf;refine (Qi hG hA.sm hl (k:=6) rfl x6).mono ?_;rintro e w' ⟨rfl,hb⟩;exact⟨⟨_,rfl,fun hg=>hg.fee,fun h=>absurd h hy⟩,hb⟩
   ·exfalso
    simp only[O6,List.mem_cons,List.not_mem_nil,or_false] at hn h;omega
  ·obtain⟨word2,cls2,H2,M2,code2,e2,k1,k2⟩:=hQ.1;obtain⟨-,-,rfl,rfl⟩:=WG hl k1 e2;rcases k2 k hH with h|⟨b,rfl,hN,hK⟩
   ·exact absurd h hn
   ·obtain⟨p,q,hX⟩:=AE hN hK;refine (Qi hG hA.sm hl hf hX).mono ?_;rintro e w' ⟨rfl,hb⟩;exact⟨⟨_,rfl,fun hg=>absurd hg.kind hk4,fun h=>absurd h hy⟩,hb⟩
theorem Hl {f:Fct} {w:World} {word:List UInt8} {cls:Int} {H:List Bool} {M:Option Nat} {code:Bool} {k:Nat} (hl:H.length=13) (hH:H[k]?=some false) (hQ:KQ f.kind w (.agg (Zv word cls H M code))) (hg:f.kind=5∨f.kind=13):DU f k↔emB f k=true:=by
 obtain⟨vp,word2,cls2,H2,b,code2,e2,-,-,⟨k1,-⟩,k7,k0⟩:=hQ.2.2 hg;obtain⟨-,-,rfl,-⟩:=WG hl k1 e2;have h0:k≠0:=fun e=>by rw[e,k0] at hH;cases hH
 have h7:k≠7:=fun e=>by rw[e,k7] at hH;cases hH
 unfold DU;rw[if_neg h0,if_neg h7]
theorem Zbi {f:Fct} {ps:List Pk} {w:World} {word:List UInt8} {cls:Int} {H:List Bool} {M:Option Nat} {code:Bool} {k:Nat} (hl:H.length=13) (hk:k<13) (hH:H[k]?=some false) (hQ:KQ f.kind w (.agg (Zv word cls H M code))) (hg:GoodS f ps):emB f k=true:=by
 obtain⟨bt,vp,vl,⟨word2,cls2,H2,code2,e2,⟨k1,-⟩,k3⟩,-⟩:=hQ.2.1 hg.kind;obtain⟨-,-,rfl,-⟩:=WG hl k1 e2;refine hg.em k ?_;have hno:¬(k∈[4,5,6]∨k∈[0,10]):=fun h=>by
  have:=k3 k h
  rw[hH] at this;cases this
 simp only[List.mem_cons,List.not_mem_nil,or_false] at hno ⊢;omega
structure Ql (b:Nat) (w w':World):Prop where
 old:∃cs t,w.heap[b]?=some (.cells cs t (0,0))/\cs.size=17
 size:w.heap.size<=w'.heap.size
 block:∀c,c≠b->c<w.heap.size->w'.heap[c]?=w.heap[c]?
section
variable {b:Nat} {w w':World}
theorem Blk.row {c:Nat} {cs:Array Value} (h:Blk w c cs) (hs:cs.size=1) (hr:Ql b w w'):Blk w' c cs:=by
 obtain⟨t,h⟩:=h;obtain⟨cs2,t2,h2,h3⟩:=hr.old;have hne:c≠b:=fun e=>by
  subst e;rw[h] at h2;cases h2;omega
 exact⟨t,(hr.block c hne (Ag.1 h).1).trans h⟩
theorem Ql.map (hr:Ql b w w') {c:Nat} {es:Array MapEntry} {k:Nat} (h:w.heap[c]?=some (.map es k)):w'.heap[c]?=some (.map es k):=by
 obtain⟨cs2,t2,h2,h3⟩:=hr.old;have hne:c≠b:=fun e=>by
  subst e;rw[h] at h2;cases h2
 exact (hr.block c hne (Ag.1 h).1).trans h
theorem Qk.row {u:Value} {p q:Bool} (h:Qk w u p q) (hr:Ql b w w'):Qk w' u p q:=by
 obtain⟨b1,b2,e,h1,h2⟩:=h;exact⟨b1,b2,e,h1.row rfl hr,h2.row rfl hr⟩
theorem Yl.row {u:Value} (h:Yl w u) (hr:Ql b w w'):Yl w' u:=by
 obtain⟨p,q,b1,b2,e,h1,h2⟩:=h;exact⟨p,q,b1,b2,e,h1.row rfl hr,h2.row rfl hr⟩
theorem Vg.row {c:Nat} (h:Vg w c) (hr:Ql b w w'):Vg w' c:=by
 obtain⟨es,k,h1,h2,h3⟩:=h;exact⟨es,k,hr.map h1,h2,fun e he=>⟨(h3 e he).1,(h3 e he).2.row hr⟩⟩
theorem ZJ.row {c i:Nat} (h:ZJ w c i) (hr:Ql b w w'):ZJ w' c i:=by
 obtain⟨es,k,h1,h2⟩:=h;exact⟨es,k,hr.map h1,h2⟩
theorem KPg.row {v:Value} (h:KPg w v) (hr:Ql b w w'):KPg w' v:=by
 obtain⟨word,cls,H,M,code,e,h1,h2⟩:=h;refine⟨word,cls,H,M,code,e,h1,fun i hi=>(h2 i hi).imp id ?_⟩
 rintro⟨c,e2,h3,h4⟩;exact⟨c,e2,h3.row hr,h4.row hr⟩
theorem KXF.row {v:Value} (h:KXF w v) (hr:Ql b w w'):KXF w' v:=by
 obtain⟨bt,vp,vl,h1,h2,h3,h4⟩:=h;exact⟨bt,vp,vl,h1,hr.map h2,h3.row hr,h4.row hr⟩
theorem Uc.row {vp:Value} {c:Nat} (h:Uc vp w c) (hr:Ql b w w'):Uc vp w' c:=by
 obtain⟨es,k,h1,h2⟩:=h;exact⟨es,k,hr.map h1,h2⟩
theorem KYF.row {v:Value} (h:KYF w v) (hr:Ql b w w'):KYF w' v:=by
 obtain⟨vp,word,cls,H,c,code,e,h1,h2,h3⟩:=h;exact⟨vp,word,cls,H,c,code,e,h1.row hr,h2.row hr,h3⟩
theorem KQ.row {kd:Int} {v:Value} (h:KQ kd w v) (hr:Ql b w w'):KQ kd w' v:=⟨h.1.row hr,fun e=>(h.2.1 e).row hr,fun e=>(h.2.2 e).row hr⟩
end
theorem U5 {P:Program} {Q:Exit->Act->World->Prop} {id:Nat} {a:Act} {w:World} {I:Array Bool->Act->World->Prop} {L:List Oper} (hm:P.follows .mixedOrders=true) (hg:L.all (fun o=>o.guard.isNone)=true)
  (hbk:((List.range L.length).all fun i=>(L.getD i default).after.toList.all fun e=>!Region.binds .any e||decide (e.on<i))=true)
  (h0:I (Array.replicate L.length false) a { w with drawn:=w.drawn+1 })
  (hend:∀listed a w,(∀i,i<L.length->listed.getD i false=true)->I listed a w->Q .normal a w)
  (hstep:VQ (fun o i=>∀listed a w,I listed a w->listed.getD i true=false->(∀j,ZM o j->listed.getD j false=true)->o.wp P a w (I (listed.setIfInBounds i true)) (YY fun _ _=>False)) L 0):(Code.region id L.toArray true).wp P Q a w:=by
 refine O5 (I:=I) hm (fun i o ho e he hb=>?_) (by simpa using h0) (fun listed a w h=>hend listed a w (by simpa using h)) (fun listed a w i o hI ho hi hl=>?_)
 ·have ho':L[i]?=some o:=by simpa using ho
  have hlt:=(Lg.1 ho').1;rw[List.all_eq_true] at hbk;have h1:=hbk i (List.mem_range.2 hlt);rw[List.all_eq_true] at h1;have h2:L.getD i default=o:=by rw[List.getD_eq_getElem?_getD,ho'];rfl
  rw[h2] at h1;have h3:=h1 e (Array.mem_toList_iff.2 he);rw[hb] at h3;simpa using h3
 ·have ho':L[i]?=some o:=by simpa using ho
  have hgo:o.guard=none:=by
   have:=(List.all_eq_true.1 hg) o (Lm ho')
   simpa using this
  have h:=Sm hstep i o ho';rw[Nat.zero_add] at h;have h2:=h listed a w hI hi (fun j hj=>by obtain⟨e,he,rfl,hb⟩:=hj;exact hl e he hb)
  unfold wpOp;simp only[ho,Ya hgo,if_true];exact .inl (U4 h2)
def TQ (kd:Int) (w:World) (u:Value):Prop:=∃v b,u=.tuple #[v,.bool b]/\KQ kd w v/\(DT kd->b=true)
theorem TQ.below {kd:Int} {w w':World} {u:Value} (h:TQ kd w u) (hb:Below w.heap.size w w'):TQ kd w' u:=by
 obtain⟨v,b,e,h1,h2⟩:=h;exact⟨v,b,e,h1.below hb,h2⟩
theorem TQ.row {kd:Int} {b:Nat} {w w':World} {u:Value} (h:TQ kd w u) (hb:Ql b w w'):TQ kd w' u:=by
 obtain⟨v,b,e,h1,h2⟩:=h;exact⟨v,b,e,h1.row hb,h2⟩
theorem KQ.agg {kd:Int} {w:World} {v:Value} (h:KQ kd w v):∃cs,v=.agg cs/\cs.size=17/\cs.all (·.oneCell')=true:=by
 obtain⟨word,cls,H,M,code,e,h1,-⟩:=h.1;exact⟨_,e,Xt h1,U3⟩
def FRc (f:Fct) (w:World) (u3 u4 u32 u33 u34 u35 u36 u37 u38:Value):Act:=⟨#[.agg (Zi f),.pointer (some ⟨w.heap.size,0,none⟩),.int .i64 0,u3,u4,undef,undef,.pointer (some ⟨w.heap.size,0,none⟩),.string ⟨f.key.toArray⟩,.bool true,.bool false,.pointer (some ⟨w.heap.size,1,none⟩),.int .i64 f.stamp,.bool false,.pointer (some ⟨w.heap.size,2,none⟩),.bool false,undef,undef,undef,undef,undef,undef,undef,undef,.pointer (some ⟨w.heap.size,3,none⟩),.int .i64 f.day,.bool false,.bool false,.pointer (some ⟨w.heap.size,3,none⟩),.int .i64 f.day,.bool false,.bool false,u32,u33,u34,u35,u36,u37,u38,undef,undef,undef,undef,undef,undef,undef,undef,undef,undef,undef,undef,undef,undef,undef,undef,undef,undef,undef,undef,undef],[]⟩
structure CF (f:Fct) (w w1:World) (L:Array Bool) (w':World) (u3 u4 u32 u33 u34 u35 u36 u37 u38:Value):Prop where
 b:Below w1.heap.size w1 w'
 f0:L.getD 0 false=true->L.getD 8 false=false->Fb w' u33
 f1:L.getD 1 false=true->u34=.pointer (some ⟨w.heap.size,4,none⟩)
 f2:L.getD 2 false=true->u35=.int .i64 f.kind
 f3:L.getD 3 false=true->L.getD 8 false=false->TQ f.kind w' u36
 f4:L.getD 4 false=true->TQ f.kind w' u32
 f5:L.getD 5 false=true->KQ f.kind w' u37
 f6:L.getD 6 false=true->∃b,u38=.bool b/\(DT f.kind->b=true)
 f7:L.getD 7 false=true->∃b cs,u3=.pointer (some ⟨b,0,none⟩)/\w1.heap.size<=b/\w'.heap[b]?=some (.cells cs 270 (0,0))/\cs.size=17/\(L.getD 8 false=true->u37=.agg cs)
 f8:L.getD 8 false=true->L.getD 0 false=true/\L.getD 3 false=true/\L.getD 4 false=true/\L.getD 5 false=true/\L.getD 7 false=true
 f9:L.getD 9 false=true->u4=u38
 f10:L.getD 9 false=true->L.getD 6 false=true
def CI (f:Fct) (w w1:World) (L:Array Bool) (a:Act) (w':World):Prop:=∃u3 u4 u32 u33 u34 u35 u36 u37 u38:Value,a=FRc f w u3 u4 u32 u33 u34 u35 u36 u37 u38/\CF f w w1 L w' u3 u4 u32 u33 u34 u35 u36 u37 u38
def U6 (f:Fct) (w w1:World) (o:Oper) (i:Nat):Prop:=∀listed a w',CI f w w1 listed a w'->listed.getD i true=false->(∀j,ZM o j->listed.getD j false=true)->o.wp prog a w' (CI f w w1 (listed.setIfInBounds i true)) (YY fun _ _=>False)
theorem DX (f:Fct) (w w1:World) (n:Nat):CI f w w1 (Array.replicate n false) (FRc f w undef undef undef undef undef undef undef undef undef) { w1 with drawn:=w1.drawn+1 }:=by
 have h:∀j,(Array.replicate n false).getD j false=false:=fun j=>by
  rw[Array.getD_eq_getD_getElem?,Array.getElem?_replicate]
  split<;>rfl
 refine⟨undef,undef,undef,undef,undef,undef,undef,undef,undef,rfl,⟨⟨rfl,rfl,rfl,Nl _,fun _ _=>rfl⟩,fun e=>?_,fun e=>?_,fun e=>?_,fun e=>?_,fun e=>?_,fun e=>?_,fun e=>?_,fun e=>?_,fun e=>?_,fun e=>?_,fun e=>?_⟩⟩<;>exact absurd e (by rw[h];decide)
theorem sg {L:Array Bool} {i j:Nat} (h:(L.setIfInBounds i true).getD j false=true) (hj:i≠j:=by decide):L.getD j false=true:=by rwa [getD_set_ne false hj] at h
theorem sf {L:Array Bool} {i j:Nat} (h:(L.setIfInBounds i true).getD j false=false) (hj:i≠j:=by decide):L.getD j false=false:=by rwa [getD_set_ne false hj] at h
theorem Yj {L:Array Bool} {i:Nat} (h:L.getD i true=false):L.getD i false=false:=by
 rw[Array.getD_eq_getD_getElem?] at h ⊢;cases hx:L[i]? with
 | none=>rfl
 | some x=>rw[hx] at h;exact h
section
variable {f:Fct} {w w1:World} {o:Oper}
theorem cs0 (hrun:∀(a:Act) (w':World),(execOp a.eval o).run prog w'=.ok (.enter 183 #[]) w') (hd:o.dst=some 33):U6 f w w1 o 0:=by
 intro L a w' hI hi hl;obtain⟨u3,u4,u32,u33,u34,u35,u36,u37,u38,rfl,hc⟩:=hI;refine Ys (hrun _ w') ?_;refine (AG w').mono ?_;rintro ex w2 ⟨u,rfl,hB,hM⟩;refine⟨u,rfl,?_⟩;rw[hd];exact⟨u3,u4,u32,u,u34,u35,u36,u37,u38,rfl,⟨bto hc.b hB,fun _ _=>hM,fun h=>hc.f1 (sg h),fun h=>hc.f2 (sg h),fun h h8=>(hc.f3 (sg h) (sf h8)).below hB,fun h=>(hc.f4 (sg h)).below hB,fun h=>(hc.f5 (sg h)).below hB,fun h=>hc.f6 (sg h),fun h=>by obtain⟨b,cs,q1,q2,q3,q4,q5⟩:=hc.f7 (sg h);exact⟨b,cs,q1,q2,Zt q3 hB,q4,fun h8=>q5 (sg h8)⟩,fun h=>by obtain⟨k0,k3,k4,k5,k7⟩:=hc.f8 (sg h);exact⟨getD_set_true k0,getD_set_true k3,getD_set_true k4,getD_set_true k5,getD_set_true k7⟩,fun h=>hc.f9 (sg h),fun h=>getD_set_true (hc.f10 (sg h))⟩⟩
theorem cs1 (hrun:∀(a:Act) (w':World),a.eval (.tmp 1)=.pointer (some ⟨w.heap.size,0,none⟩)->(execOp a.eval o).run prog w'=.ok (.value (.pointer (some ⟨w.heap.size,4,none⟩))) w') (hd:o.dst=some 34):U6 f w w1 o 1:=by
 intro L a w' hI hi hl;obtain⟨u3,u4,u32,u33,u34,u35,u36,u37,u38,rfl,hc⟩:=hI;refine Zz (hrun _ w' rfl) ?_;rw[hd];exact⟨u3,u4,u32,u33,.pointer (some ⟨w.heap.size,4,none⟩),u35,u36,u37,u38,rfl,⟨hc.b,fun h h8=>hc.f0 (sg h) (sf h8),fun _=>rfl,fun h=>hc.f2 (sg h),fun h h8=>hc.f3 (sg h) (sf h8),fun h=>hc.f4 (sg h),fun h=>hc.f5 (sg h),fun h=>hc.f6 (sg h),fun h=>by obtain⟨b,cs,q1,q2,q3,q4,q5⟩:=hc.f7 (sg h);exact⟨b,cs,q1,q2,q3,q4,fun h8=>q5 (sg h8)⟩,fun h=>by obtain⟨k0,k3,k4,k5,k7⟩:=hc.f8 (sg h);exact⟨getD_set_true k0,getD_set_true k3,getD_set_true k4,getD_set_true k5,getD_set_true k7⟩,fun h=>hc.f9 (sg h),fun h=>getD_set_true (hc.f10 (sg h))⟩⟩
theorem cs2 (hX:Blk w1 w.heap.size (Zi f)) (hw1:ZM o 1) (hrun:∀(a:Act) (w':World),a.eval (.tmp 34)=.pointer (some ⟨w.heap.size,4,none⟩)->w'.cell? ⟨w.heap.size,4,none⟩=some (.int .i64 f.kind)->(execOp a.eval o).run prog w'=.ok (.value (.int .i64 f.kind)) w') (hd:o.dst=some 35):U6 f w w1 o 2:=by
 intro L a w' hI hi hl;obtain⟨u3,u4,u32,u33,u34,u35,u36,u37,u38,rfl,hc⟩:=hI;refine Zz (hrun _ w' (hc.f1 (hl 1 hw1)) ((hX.below hc.b).c 4)) ?_;rw[hd];exact⟨u3,u4,u32,u33,u34,.int .i64 f.kind,u36,u37,u38,rfl,⟨hc.b,fun h h8=>hc.f0 (sg h) (sf h8),fun h=>hc.f1 (sg h),fun _=>rfl,fun h h8=>hc.f3 (sg h) (sf h8),fun h=>hc.f4 (sg h),fun h=>hc.f5 (sg h),fun h=>hc.f6 (sg h),fun h=>by obtain⟨b,cs,q1,q2,q3,q4,q5⟩:=hc.f7 (sg h);exact⟨b,cs,q1,q2,q3,q4,fun h8=>q5 (sg h8)⟩,fun h=>by obtain⟨k0,k3,k4,k5,k7⟩:=hc.f8 (sg h);exact⟨getD_set_true k0,getD_set_true k3,getD_set_true k4,getD_set_true k5,getD_set_true k7⟩,fun h=>hc.f9 (sg h),fun h=>getD_set_true (hc.f10 (sg h))⟩⟩
theorem cs3 (hw0:ZM o 0) (hw2:ZM o 2) (hrun:∀(a:Act) (w':World) (u v:Value),a.eval (.tmp 33)=u->a.eval (.tmp 35)=.int .i64 f.kind->(Instr.lookup 272 u (.int .i64 f.kind) true).run prog w'=.ok v w'->(execOp a.eval o).run prog w'=.ok (.value v) w') (hd:o.dst=some 36):U6 f w w1 o 3:=by
 intro L a w' hI hi hl;obtain⟨u3,u4,u32,u33,u34,u35,u36,u37,u38,rfl,hc⟩:=hI;have h8:L.getD 8 false=false:=by
  cases hx:L.getD 8 false with
  | false=>rfl
  | true=>have:=(hc.f8 hx).2.1;rw[Yj hi] at this;cases this
 obtain⟨v,b,q1,q2,q3⟩:=Zb7 f.kind (hc.f0 (hl 0 hw0) h8);refine Zz (hrun _ w' _ _ rfl (hc.f2 (hl 2 hw2)) q1) ?_;rw[hd];exact⟨u3,u4,u32,u33,u34,u35,.tuple #[v,.bool b],u37,u38,rfl,⟨hc.b,fun h h8=>hc.f0 (sg h) (sf h8),fun h=>hc.f1 (sg h),fun h=>hc.f2 (sg h),fun _ _=>⟨v,b,rfl,q2,q3⟩,fun h=>hc.f4 (sg h),fun h=>hc.f5 (sg h),fun h=>hc.f6 (sg h),fun h=>by obtain⟨b,cs,q1,q2,q3,q4,q5⟩:=hc.f7 (sg h);exact⟨b,cs,q1,q2,q3,q4,fun h8=>q5 (sg h8)⟩,fun h=>by obtain⟨k0,k3,k4,k5,k7⟩:=hc.f8 (sg h);exact⟨getD_set_true k0,getD_set_true k3,getD_set_true k4,getD_set_true k5,getD_set_true k7⟩,fun h=>hc.f9 (sg h),fun h=>getD_set_true (hc.f10 (sg h))⟩⟩
theorem cs4 (hw3:ZM o 3) (hrun:∀(a:Act) (w':World) (v:Value),a.eval (.tmp 36)=v->(execOp a.eval o).run prog w'=.ok (.value v) w') (hd:o.dst=some 32):U6 f w w1 o 4:=by
 intro L a w' hI hi hl;obtain⟨u3,u4,u32,u33,u34,u35,u36,u37,u38,rfl,hc⟩:=hI;have h8:L.getD 8 false=false:=by
  cases hx:L.getD 8 false with
  | false=>rfl
  | true=>have:=(hc.f8 hx).2.2.1;rw[Yj hi] at this;cases this
 refine Zz (hrun _ w' _ rfl) ?_;rw[hd];exact⟨u3,u4,u36,u33,u34,u35,u36,u37,u38,rfl,⟨hc.b,fun h h8=>hc.f0 (sg h) (sf h8),fun h=>hc.f1 (sg h),fun h=>hc.f2 (sg h),fun h h8=>hc.f3 (sg h) (sf h8),fun _=>hc.f3 (hl 3 hw3) h8,fun h=>hc.f5 (sg h),fun h=>hc.f6 (sg h),fun h=>by obtain⟨b,cs,q1,q2,q3,q4,q5⟩:=hc.f7 (sg h);exact⟨b,cs,q1,q2,q3,q4,fun h8=>q5 (sg h8)⟩,fun h=>by obtain⟨k0,k3,k4,k5,k7⟩:=hc.f8 (sg h);exact⟨getD_set_true k0,getD_set_true k3,getD_set_true k4,getD_set_true k5,getD_set_true k7⟩,fun h=>hc.f9 (sg h),fun h=>getD_set_true (hc.f10 (sg h))⟩⟩
theorem cs5 (hw4:ZM o 4) (hrun:∀(a:Act) (w':World) (v b:Value),a.eval (.tmp 32)=.tuple #[v,b]->(execOp a.eval o).run prog w'=.ok (.value v) w') (hd:o.dst=some 37):U6 f w w1 o 5:=by
 intro L a w' hI hi hl;obtain⟨u3,u4,u32,u33,u34,u35,u36,u37,u38,rfl,hc⟩:=hI;have h8:L.getD 8 false=false:=by
  cases hx:L.getD 8 false with
  | false=>rfl
  | true=>have:=(hc.f8 hx).2.2.2.1;rw[Yj hi] at this;cases this
 obtain⟨v,b,q1,q2,q3⟩:=hc.f4 (hl 4 hw4);refine Zz (hrun _ w' v _ q1) ?_;rw[hd];exact⟨u3,u4,u32,u33,u34,u35,u36,v,u38,rfl,⟨hc.b,fun h h8=>hc.f0 (sg h) (sf h8),fun h=>hc.f1 (sg h),fun h=>hc.f2 (sg h),fun h h8=>hc.f3 (sg h) (sf h8),fun h=>hc.f4 (sg h),fun _=>q2,fun h=>hc.f6 (sg h),fun h=>by obtain⟨b,cs,r1,r2,r3,r4,r5⟩:=hc.f7 (sg h);exact⟨b,cs,r1,r2,r3,r4,fun h9=>by have h9:=sg h9;rw[h8] at h9;cases h9⟩,fun h=>by obtain⟨k0,k3,k4,k5,k7⟩:=hc.f8 (sg h);exact⟨getD_set_true k0,getD_set_true k3,getD_set_true k4,getD_set_true k5,getD_set_true k7⟩,fun h=>hc.f9 (sg h),fun h=>getD_set_true (hc.f10 (sg h))⟩⟩
theorem cs6 (hw4:ZM o 4) (hrun:∀(a:Act) (w':World) (v b:Value),a.eval (.tmp 32)=.tuple #[v,b]->(execOp a.eval o).run prog w'=.ok (.value b) w') (hd:o.dst=some 38):U6 f w w1 o 6:=by
 intro L a w' hI hi hl;obtain⟨u3,u4,u32,u33,u34,u35,u36,u37,u38,rfl,hc⟩:=hI;obtain⟨v,b,q1,q2,q3⟩:=hc.f4 (hl 4 hw4);refine Zz (hrun _ w' v _ q1) ?_;rw[hd];exact⟨u3,u4,u32,u33,u34,u35,u36,u37,.bool b,rfl,⟨hc.b,fun h h8=>hc.f0 (sg h) (sf h8),fun h=>hc.f1 (sg h),fun h=>hc.f2 (sg h),fun h h8=>hc.f3 (sg h) (sf h8),fun h=>hc.f4 (sg h),fun h=>hc.f5 (sg h),fun _=>⟨b,rfl,q3⟩,fun h=>by obtain⟨b,cs,q1,q2,q3,q4,q5⟩:=hc.f7 (sg h);exact⟨b,cs,q1,q2,q3,q4,fun h8=>q5 (sg h8)⟩,fun h=>by obtain⟨k0,k3,k4,k5,k7⟩:=hc.f8 (sg h);exact⟨getD_set_true k0,getD_set_true k3,getD_set_true k4,getD_set_true k5,getD_set_true k7⟩,fun h=>(by have h9:=hc.f10 (sg h);rw[Yj hi] at h9;cases h9),fun h=>getD_set_true (hc.f10 (sg h))⟩⟩
theorem cs7 (hrun:∀(a:Act) (w':World),(execOp a.eval o).run prog w'=.ok (.value (.pointer (some ⟨w'.heap.size,0,none⟩))) (w'.alloc (.cells #[.string ⟨#[]⟩,.int .i64 0,.bool false,.bool false,.bool false,.bool false,.bool false,.bool false,.bool false,.bool false,.bool false,.bool false,.bool false,.bool false,.bool false,.map none,.bool false] 270))) (hd:o.dst=some 3):U6 f w w1 o 7:=by
 intro L a w' hI hi hl;obtain⟨u3,u4,u32,u33,u34,u35,u36,u37,u38,rfl,hc⟩:=hI;have hB:=Zb w' (.cells #[.string ⟨#[]⟩,.int .i64 0,.bool false,.bool false,.bool false,.bool false,.bool false,.bool false,.bool false,.bool false,.bool false,.bool false,.bool false,.bool false,.bool false,.map none,.bool false] 270);have h8:L.getD 8 false=false:=by
  cases hx:L.getD 8 false with
  | false=>rfl
  | true=>have:=(hc.f8 hx).2.2.2.2;rw[Yj hi] at this;cases this
 refine Zz (hrun _ w') ?_;rw[hd];exact⟨.pointer (some ⟨w'.heap.size,0,none⟩),u4,u32,u33,u34,u35,u36,u37,u38,rfl,⟨bto hc.b hB,fun h h8=>(hc.f0 (sg h) (sf h8)).below hB,fun h=>hc.f1 (sg h),fun h=>hc.f2 (sg h),fun h h8=>(hc.f3 (sg h) (sf h8)).below hB,fun h=>(hc.f4 (sg h)).below hB,fun h=>(hc.f5 (sg h)).below hB,fun h=>hc.f6 (sg h),fun _=>⟨w'.heap.size,_,rfl,hc.b.size,ZG w' _,rfl,fun h9=>by have h9:=sg h9;rw[h8] at h9;cases h9⟩,fun h=>by obtain⟨k0,k3,k4,k5,k7⟩:=hc.f8 (sg h);exact⟨getD_set_true k0,getD_set_true k3,getD_set_true k4,getD_set_true k5,getD_set_true k7⟩,fun h=>hc.f9 (sg h),fun h=>getD_set_true (hc.f10 (sg h))⟩⟩
theorem cs8 (hw0:ZM o 0) (hw3:ZM o 3) (hw4:ZM o 4) (hw5:ZM o 5) (hw7:ZM o 7) (hop:o.op=.store 270 (.tmp 3) (.tmp 37)) (hd:o.dst=none) (hI:(prog.info? 270).map (·.size)=some 17):U6 f w w1 o 8:=by
 intro L a w' hI hi hl;obtain⟨u3,u4,u32,u33,u34,u35,u36,u37,u38,rfl,hc⟩:=hI;obtain⟨b,cs,q1,q2,q3,q4,-⟩:=hc.f7 (hl 7 hw7);have hq:=hc.f5 (hl 5 hw5);obtain⟨cs2,r1,r2,r3⟩:=hq.agg;have hrun:=run_storeVar_row (P:=prog) w' b 270 270 cs cs2 q3 (by rw[r2];exact hI) (by rw[q4,r2]) r3
 have hR:Ql b w' (w'.setRow b cs2):=⟨⟨cs,_,q3,q4⟩,by simp[World.setRow],fun c hc _=>setRow_other w' b c cs2 hc⟩
 have hB:Below w1.heap.size w1 (w'.setRow b cs2):=⟨hc.b.os,hc.b.tape,hc.b.output,Nt hc.b.size hR.size,fun c hlt=>(setRow_other w' b c cs2 (by omega)).trans (hc.b.block c hlt)⟩
 have hself:(L.setIfInBounds 8 true).getD 8 false=true:=by
  have h8:=Yj hi
  by_cases hlt:8<L.size
  ·rw[Array.getD_eq_getD_getElem?,Array.getElem?_setIfInBounds,if_pos rfl,if_pos hlt];rfl
  ·rw[Array.getD_eq_getD_getElem?,Array.getElem?_eq_none (by omega)] at hi
   cases hi
 refine UA (w':=w'.setRow b cs2) ?_ ?_
 ·have hx:(FRc f w u3 u4 u32 u33 u34 u35 u36 u37 u38).eval (.tmp 3)=.pointer (some ⟨b,0,none⟩):=q1;have hy:(FRc f w u3 u4 u32 u33 u34 u35 u36 u37 u38).eval (.tmp 37)=.agg cs2:=r1;unfold execOp;simp only[hop,hx,hy,Instr.storeAt,Instr.sureAddr,Sem.run_bind,Sem.run_pure,Result.andThen_ok,hrun]
 rw[hd];exact⟨u3,u4,u32,u33,u34,u35,u36,u37,u38,rfl,⟨hB,fun _ h8=>(by rw[hself] at h8;cases h8),fun h=>hc.f1 (sg h),fun h=>hc.f2 (sg h),fun _ h8=>(by rw[hself] at h8;cases h8),fun h=>(hc.f4 (sg h)).row hR,fun h=>(hc.f5 (sg h)).row hR,fun h=>hc.f6 (sg h),fun _=>⟨b,cs2,q1,q2,setRow_heap w' b cs cs2 270 (0,0) q3,r2,fun _=>r1⟩,fun _=>⟨getD_set_true (hl 0 hw0),getD_set_true (hl 3 hw3),getD_set_true (hl 4 hw4),getD_set_true (hl 5 hw5),getD_set_true (hl 7 hw7)⟩,fun h=>hc.f9 (sg h),fun h=>getD_set_true (hc.f10 (sg h))⟩⟩
theorem cs9 (hw6:ZM o 6) (hrun:∀(a:Act) (w':World) (v:Value),a.eval (.tmp 38)=v->(execOp a.eval o).run prog w'=.ok (.value v) w') (hd:o.dst=some 4):U6 f w w1 o 9:=by
 intro L a w' hI hi hl;obtain⟨u3,u4,u32,u33,u34,u35,u36,u37,u38,rfl,hc⟩:=hI;refine Zz (hrun _ w' _ rfl) ?_;rw[hd];exact⟨u3,u38,u32,u33,u34,u35,u36,u37,u38,rfl,⟨hc.b,fun h h8=>hc.f0 (sg h) (sf h8),fun h=>hc.f1 (sg h),fun h=>hc.f2 (sg h),fun h h8=>hc.f3 (sg h) (sf h8),fun h=>hc.f4 (sg h),fun h=>hc.f5 (sg h),fun h=>hc.f6 (sg h),fun h=>by obtain⟨b,cs,q1,q2,q3,q4,q5⟩:=hc.f7 (sg h);exact⟨b,cs,q1,q2,q3,q4,fun h8=>q5 (sg h8)⟩,fun h=>by obtain⟨k0,k3,k4,k5,k7⟩:=hc.f8 (sg h);exact⟨getD_set_true k0,getD_set_true k3,getD_set_true k4,getD_set_true k5,getD_set_true k7⟩,fun _=>rfl,fun _=>getD_set_true (hl 6 hw6)⟩⟩
end
theorem ME {id:Nat} {Q:Exit->Act->World->Prop} {f:Fct} {w w1:World} {a:Act} {L:List Oper} (hm:prog.follows .mixedOrders=true) (hg:L.all (fun o=>o.guard.isNone)=true)
  (hbk:((List.range L.length).all fun i=>(L.getD i default).after.toList.all fun e=>!Region.binds .any e||decide (e.on<i))=true) (hl:L.length=10) (ha:a=FRc f w undef undef undef undef undef undef undef undef undef)
  (hstep:VQ (U6 f w w1) L 0)
  (hend:∀(u3 u4 u32 u33 u34 u35 u36 u37 u38:Value) (w':World),CF f w w1 (Array.replicate 10 true) w' u3 u4 u32 u33 u34 u35 u36 u37 u38->Q .normal (FRc f w u3 u4 u32 u33 u34 u35 u36 u37 u38) w'):(Code.region id L.toArray true).wp prog Q a w1:=by
 refine U5 (I:=CI f w w1) hm hg hbk (by rw[ha];exact DX f w w1 _) (fun listed a' w' hall hI=>?_) hstep
 obtain⟨u3,u4,u32,u33,u34,u35,u36,u37,u38,rfl,hc⟩:=hI;have h:∀j,j<10->listed.getD j false=true:=fun j hj=>hall j (by omega)
 refine hend u3 u4 u32 u33 u34 u35 u36 u37 u38 w' ⟨hc.b,fun _ h8=>(by cases h8),fun _=>hc.f1 (h 1 (by decide)),fun _=>hc.f2 (h 2 (by decide)),fun _ h8=>(by cases h8),fun _=>hc.f4 (h 4 (by decide)),fun _=>hc.f5 (h 5 (by decide)),fun _=>hc.f6 (h 6 (by decide)),fun _=>?_,fun _=>⟨rfl,rfl,rfl,rfl,rfl⟩,fun _=>hc.f9 (h 9 (by decide)),fun _=>rfl⟩
 obtain⟨b,cs,q1,q2,q3,q4,q5⟩:=hc.f7 (h 7 (by decide))
 exact⟨b,cs,q1,q2,q3,q4,fun _=>q5 (h 8 (by decide))⟩
theorem DY {f:Fct} {ps:List Pk} {os:List Opn} {w:World} (hG:GE w) (hA:Qj w f ps os) (hcn:f.canc=false) :
  Calls prog 121 #[.agg (Zi f)] w fun e w'=>(∃E:Int,e=.returned (.int .i64 E)/\(GoodS f ps->E=0)/\(f.kind=5∨f.kind=13->(E=0↔Hk f)))/\Below w.heap.size w w':=by
 have hb0:=Zb w (.cells (Zi f) 48);have x0:Blk (w.alloc (.cells (Zi f) 48)) w.heap.size (Zi f):=Blk.new w _ 48;have q0:(w.alloc (.cells (Zi f) 48)).cell? ⟨w.heap.size,0,none⟩=some (.string ⟨f.key.toArray⟩):=x0.c 0;have hkl:=hA.sm.key;have C1:=Lh ((P4 (l:=f.key) (by omega)).e)
 have HA:=Lh hA;have X0:=Lh x0;have HCN:=Lh hcn;clear hkl hA x0 hcn;go_enter func121,ntmps121;go_wp2_with fail
 refine (C1.out.of hG hb0).mono ?_
 rintro e w1 ⟨rfl,hb1⟩;have X1:=Lh (X0.out.below hb1);have HB1:=Lh (bto hb0 hb1);clear hb0 hb1 q0 X0 C1;cases hnk:YL f.key with
 | false=>
  have HN:=Lh hnk;clear hnk;go_wp2;go_ret;exact⟨⟨_,rfl,fun hg=>(by have:=hg.key;rw[HN.out] at this;cases this),fun _=>⟨fun h=>absurd h (by decide),fun hg=>(by have:=hg.key;rw[HN.out] at this;cases this)⟩⟩,HB1.out⟩
 | true=>
 have HNM:=Lh hnk;clear hnk;have q1:w1.cell? ⟨w.heap.size,1,none⟩=some (.int .i64 f.stamp):=X1.out.c 1;have q2:w1.cell? ⟨w.heap.size,2,none⟩=some (.bool false):=(X1.out.c 2).trans (by show some (Value.bool f.canc)=_;rw[HCN.out])
 have q3:w1.cell? ⟨w.heap.size,3,none⟩=some (.int .i64 f.day):=X1.out.c 3
 by_cases hs:f.stamp<0
 ·have e1:decide (f.stamp<0)=true:=Dt hs;have HS:=Lh hs;clear hs;go_wp2;go_ret;exact⟨⟨_,rfl,fun hg=>(by have:=hg.stamp;have:=HS.out;omega),fun _=>⟨fun h=>absurd h (by decide),fun hg=>(by have:=hg.stamp;have:=HS.out;omega)⟩⟩,HB1.out⟩
 have e1:decide (f.stamp<0)=false:=Df hs;have HST:=Lh hs;clear hs
 by_cases hd:f.day < -25567
 ·have e2:decide (f.day < -25567)=true:=Dt hd;have HS:=Lh hd;clear hd;go_wp2;go_ret;exact⟨⟨_,rfl,fun hg=>(by have:=hg.day.1;have:=HS.out;omega),fun _=>⟨fun h=>absurd h (by decide),fun hg=>(by have:=hg.day.1;have:=HS.out;omega)⟩⟩,HB1.out⟩
 have e2:decide (f.day < -25567)=false:=Df hd;have HD1:=Lh hd;clear hd
 by_cases hd:84005<f.day
 ·have e3:decide (84005<f.day)=true:=Dt hd;have HS:=Lh hd;clear hd;go_wp2;go_ret;exact⟨⟨_,rfl,fun hg=>(by have:=hg.day.2;have:=HS.out;omega),fun _=>⟨fun h=>absurd h (by decide),fun hg=>(by have:=hg.day.2;have:=HS.out;omega)⟩⟩,HB1.out⟩
 have e3:decide (84005<f.day)=false:=Df hd;have HD2:=Lh hd;clear hd;go_wp2_with fail;refine ME (f:=f) (w:=w) (by kernel_rfl) (by kernel_rfl) (by kernel_rfl) rfl rfl ?_ ?_
 ·clear e1 e2 e3 q1 q2 q3;refine⟨cs0 (fun a w'=>by go_simp;first|done|rfl) rfl,?_⟩
  refine⟨cs1 (fun a w' h1=>by have g1:=toD h1;clear h1;go_simp;first|done|rfl) rfl,?_⟩
  refine⟨cs2 X1.out (Zd rfl) (fun a w' h1 h2=>by have g1:=toD h1;clear h1;go_simp;first|done|rfl) rfl,?_⟩
  refine⟨cs3 (Zd rfl) (Zd rfl) (fun a w' u v h1 h2 h3=>by have g1:=toD h1;have g2:=toD h2;have g3:(Instr.lookup 272 u (.int .i64 f.kind) true).run prog w'=.ok v w':=h3;clear h1 h2 h3;simp[execOp,Act.eval,g1,g2,g3,Result.andThen]) rfl,?_⟩
  refine⟨cs4 (Zd rfl) (fun a w' v h1=>by have g1:=toD h1;clear h1;go_simp;first|done|rfl) rfl,?_⟩
  refine⟨cs5 (Zd rfl) (fun a w' v b h1=>by have g1:=toD h1;clear h1;go_simp;first|done|rfl) rfl,?_⟩
  refine⟨cs6 (Zd rfl) (fun a w' v b h1=>by have g1:=toD h1;clear h1;go_simp;first|done|rfl) rfl,?_⟩
  refine⟨cs7 (fun a w'=>by go_simp;first|done|rfl) rfl,?_⟩
  refine⟨cs8 (Zd rfl) (Zd rfl) (Zd rfl) (Zd rfl) (Zd rfl) rfl rfl (by kernel_rfl),?_⟩
  exact⟨cs9 (Zd rfl) (fun a w' v h1=>by have g1:=toD h1;clear h1;go_simp;first|done|rfl) rfl,trivial⟩
 intro u3 u4 u32 u33 u34 u35 u36 u37 u38 w2 hc;clear q1 q2 q3 e1 e2 e3;obtain⟨b,cs,rfl,hbb,hbx,hsz,h37⟩:=hc.f7 rfl;obtain⟨bo,rfl,hbo⟩:=hc.f6 rfl;have h4:=hc.f9 rfl;subst h4;have hq:=hc.f5 rfl;have hu:=h37 rfl;subst hu;obtain⟨word,cls,H,M,code,e,hl13,-⟩:=hq.1;injection e with e
 subst e;have hb2:=bto HB1.out hc.b;have X2:=Lh (X1.out.below hc.b);have HB2:=Lh hb2;have HBX:=Lh hbx;have HQ:=Lh hq;have HL:=Lh hl13;have HBO:=Lh hbo;have HBB:=Lh hbb;clear hc h37 hbb hbx hsz hbo hq hl13 hb2 X1 HB1;unfold FRc;cases bo with
 | false=>
  go_wp2;go_ret;exact⟨⟨_,rfl,fun hg=>(by have:=HBO.out (.inl hg.kind);cases this),fun h=>(by have:=HBO.out (.inr h);cases this)⟩,HB2.out⟩
 | true=>
 go_wp2_with fail
 go_loopw [5,6,41] (fun _ _ iv wr=>∃k:Nat,k<=13/\iv=.int .i64 (k:Int)/\Hid (Below w2.heap.size w2 wr)/\Hid (f.kind=5∨f.kind=13->∀j,j<k->DU f j)) (fun _ _ iv _=>13-(intOf iv).toNat)
 case atStart=>exact⟨0,by decide,rfl,Below.refl _ _,fun _ j hj=>absurd hj (Nat.not_lt_zero j)⟩
 case round=>
  obtain⟨k,hk,rfl,HB,HFL⟩:=hrel
  by_cases hlk:k<13
  rotate_left
  ·have e3:decide (k<13)=false:=Df hlk;have e4:decide ((k:Int)<13)=false:=Df (by omega)
   go_wp2;go_ret;exact⟨⟨_,rfl,fun _=>rfl,fun h=>⟨fun _=>⟨HNM.out,by have:=HST.out;omega,by have:=HD1.out;have:=HD2.out;omega,fun j hj=>HFL.out h j (by omega)⟩,fun _=>rfl⟩⟩,bto HB2.out HB.out⟩
  have e3:decide (k<13)=true:=Dt hlk;have e4:decide ((k:Int)<13)=true:=Dt (by omega)
  obtain⟨h,hH⟩:∃h,H[k]?=some h:=⟨_,List.getElem?_eq_getElem (by rw[HL.out];exact hlk)⟩
  have hbx:=Zt HBX.out HB.out;have q5:wr.cell? ⟨b,2+k,none⟩=some (.bool h):=(Zg hbx (2+k)).trans (DV hH);have XR:=Lh (X2.out.below HB.out);have HBR:=Lh (bto HB2.out HB.out);have HXR:=Lh hbx;have HHH:=Lh hH;clear hbx hH;have HXB:Hid (Blk wr b (Zv word cls H M code)):=⟨_,HXR.out⟩;have HKI:Hid ((prog.info? 270).map (·.size)=some (Zv word cls H M code).size):=by
   show _=_;rw[Xt HL.out]
   kernel_rfl
  cases h with
  | true=>
   have C5:=Lh (ZcL (hG.below HBR.out) (HA.out.below HBR.out) HL.out hlk HHH.out (HQ.out.below HB.out));clear HHH;go_wp2_with (first|(refine Zj rfl 48 (.tmp 1) rfl w.heap.size rfl (Zi f) XR.out underlying48 rfl Zs ?_)|(refine Zj rfl 270 (.tmp 3) rfl b rfl (Zv word cls H M code) HXB.out underlying270 rfl HKI.out ?_))
   refine C5.out.mono ?_
   rintro e w5 ⟨⟨E,rfl,hE⟩,hb5⟩;have HE:=Lh hE;have HB5:=Lh hb5;clear hE hb5 C5 q5
   by_cases h0:E=0
   ·subst h0;go_wp2;go_roundw
    case rel=>exact⟨k+1,by omega,by go_num,bto HB.out HB5.out,fun h j hj=>(Nat.lt_succ_iff_lt_or_eq.1 hj).elim (HFL.out h j) (fun e=>e ▸ (HE.out.2 h).1 (by first|rfl|trivial))⟩
    case measure=>simp[intOf];omega
   ·have HH0:=Lh h0;have e5:decide (E=0)=false:=Df h0;have e6:(E==0)=false:=by rw[Bn];exact h0
    go_wp2;go_ret;exact⟨⟨_,rfl,HE.out.1,fun h=>⟨fun e=>absurd e HH0.out,fun hg=>(HE.out.2 h).2 (hg.fld k hlk)⟩⟩,bto HBR.out HB5.out⟩
  | false=>
   have C6:=Lh (Za7 f hlk wr (hG.below HBR.out));go_wp2_with (refine Zj rfl 48 (.tmp 1) rfl w.heap.size rfl (Zi f) XR.out underlying48 rfl Zs ?_)
   refine C6.out.mono ?_
   rintro e w5 ⟨rfl,hb5⟩;obtain⟨eb,heb⟩:∃eb,eb=emB f k:=⟨_,rfl⟩
   rw[<-heb];have HEB:=Lh heb;have HB5:=Lh hb5;clear heb hb5 C6 q5;cases eb with
   | true=>
    go_wp2;go_roundw
    case rel=>exact⟨k+1,by omega,by go_num,bto HB.out HB5.out,fun h j hj=>(Nat.lt_succ_iff_lt_or_eq.1 hj).elim (HFL.out h j) (fun e=>e ▸ (Hl HL.out HHH.out HQ.out h).2 HEB.out.symm)⟩
    case measure=>simp[intOf];omega
   | false=>
    go_wp2;go_ret;exact⟨⟨_,rfl,fun hg=>(by have:=Zbi HL.out hlk HHH.out HQ.out hg;rw[<-HEB.out] at this;cases this),fun h=>⟨fun h=>absurd h (by decide),fun hg=>(by have:=(Hl HL.out HHH.out HQ.out h).1 (hg.fld k hlk);rw[<-HEB.out] at this;cases this)⟩⟩,bto HBR.out HB5.out⟩
end Go.Proofs.YtpieeldbamklkaaGreatDoor
