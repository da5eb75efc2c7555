/- Texts put together: Gh Rw Su Sv Sw Sx. -/
import Derived.Test.YtpieeldbamklkaaGreatDoorV7
import Derived.OwnWalkIn
import Derived.Deep.CutBlock
set_option maxHeartbeats 20000000
set_option maxRecDepth 100000
open Go.Proofs.Tryz
namespace Go.Proofs.YtpieeldbamklkaaGreatDoor
open Go.RowKit Go.Shelf Num
theorem gT1 (x:Gn) (w:World):Calls prog 97 #[.agg (gnC x)] w fun e w'=>e=.returned (Zg x.pro)/\Below w.heap.size w w':=by
 have hb0:=Zh w (.cells (gnC x) 89);have X0:Blk (w.alloc (.cells (gnC x) 89)) w.heap.size (gnC x):=Blk.new w _ 89;have q6:(w.alloc (.cells (gnC x) 89)).cell? ⟨w.heap.size,6,none⟩=some (Zg x.pro):=X0.c 6;go_enter func97,ntmps97;go_wp2;go_ret;exact⟨rfl,hb0⟩
theorem LY (args:Array Value) (w:World):(callFunc 97 args).run prog w=.ok (.enter 97 args) w:=by kernel_rfl
theorem gT2 (x:Gn) (w:World):Calls prog 98 #[.agg (gnC x)] w fun e w'=>e=.returned (Zg x.cost)/\Below w.heap.size w w':=by
 have hb0:=Zh w (.cells (gnC x) 89);have X0:Blk (w.alloc (.cells (gnC x) 89)) w.heap.size (gnC x):=Blk.new w _ 89;have q7:(w.alloc (.cells (gnC x) 89)).cell? ⟨w.heap.size,7,none⟩=some (Zg x.cost):=X0.c 7;go_enter func98,ntmps98;go_wp2;go_ret;exact⟨rfl,hb0⟩
theorem LZ (args:Array Value) (w:World):(callFunc 98 args).run prog w=.ok (.enter 98 args) w:=by kernel_rfl
theorem Zal (f:Nat) (hcall:∀(args:Array Value) w,(callFunc f args).run prog w=.ok (.enter f args) w) (g:Gn->List UInt8) {A:Option Addr} {gs:List Gn} {n:Nat} (c:Nat) {w:World} (hG:Yb w) (hn:gs.length=n) (hn2:n<=100000) (h:PH w A gs) (hl:∀x∈gs,(g x).length<=100000)
  (hp:∀x∈gs,∀w',Calls prog f #[.agg (gnC x)] w' fun e w''=>e=.returned (Zg (g x))/\Below w'.heap.size w' w'') :
  Calls prog 99 #[.slice A n c,.func (Fn.func f) #[] #[]] w fun e w'=>e=.returned (Zg (canon (Z7 (gs.map g))))/\Below w.heap.size w w':=by
 have HI:=Lh h;have HP:=Lh hp;have HG:=Lh hG
 have HLEN:Hid (∀k,(canon (Z7 ((gs.map g).take k))).length<=100008):=fun k=>SH 100000 _ (fun r hr=>by
  obtain⟨x,hx,rfl⟩:=List.mem_map.1 (List.mem_of_mem_take hr)
  exact hl x hx) (by rw[List.length_take,List.length_map];omega)
 have HL:=Lh hl;have CO:=Lh (Zdc 0 (by decide) (by decide) w hG)
 have hn1:gs.length<=n:=by omega
 have hn3:n<=gs.length:=by omega
 clear h hp hn hl hG;go_enter func99,ntmps99;go_wp2_with fail;refine CO.out.mono ?_;rintro e w1 ⟨rfl,hb1⟩;have HB1:=Lh hb1;clear CO hb1;go_wp2_with fail
 go_loopw [5,11] (fun sv iv wr=>∃(k:Nat) (z:Int),k<=n/\sv=Zg (canon z)/\iv=Zi (k:Int)/\Hid (z=Z7 ((gs.map g).take k))/\Hid (Below w.heap.size w wr)) (fun _ iv _=>n-(intOf iv).toNat)
 case atStart=>exact⟨0,0,Nat.zero_le _,rfl,rfl,rfl,HB1.out⟩
 case round=>
 clear HB1;obtain⟨k,z,hk,rfl,rfl,HZ,HB⟩:=hrel
 by_cases hlt:k<n
 ·obtain⟨x,hx⟩:∃x,gs[k]?=some x:=⟨_,List.getElem?_eq_getElem (by omega)⟩
  obtain⟨b,o,rfl,hbs,p0,p1,p2,p3,p4,p5,p6,p7,p8,p9⟩:=(HI.out.below HB.out) k x hx;have hbA:=Zh wr (.cells (gnC x) 89);have X1:Hid (Blk (wr.alloc (.cells (gnC x) 89)) wr.heap.size (gnC x)):=Blk.new wr _ 89;have CP:=Lh (HP.out x (Lm hx) (wr.alloc (.cells (gnC x) 89)));have e1:decide (k<n)=true:=Dt hlt;have e2:decide ((k:Int)<(n:Int))=true:=Dt (by omega)
  obtain⟨s,hs⟩:∃s,g x=s:=⟨_,rfl⟩
  have hsl:s.length<=100000:=by rw[<-hs];exact HL.out x (Lm hx)
  have hzl:(canon z).length<=100008:=by rw[HZ.out];exact HLEN.out k
  obtain⟨z2,hz2⟩:∃z2,val (canon z)+val s=z2:=⟨_,rfl⟩
  have CA:=Lh (XX (l:=canon z) (l':=s) (by omega) (by omega) hz2)
  have HZ2:Hid (z2=Z7 ((gs.map g).take (k+1))):=by
   have hq:(gs.map g)[k]?=some s:=by simp[hx,hs]
   obtain⟨hk2,hxe⟩:=Lg.1 hq;show _=_;rw[List.take_succ_eq_append_getElem hk2,hxe,QA,<-HZ.out,<-hz2,Zm]
  have HBA:=Lh (bto HB.out hbA);rw[hs] at CP;obtain⟨s0,hs0⟩:∃s0,canon z=s0:=⟨_,rfl⟩
  rw[hs0] at CA;clear hx hbA hs hsl hzl hz2 HB HZ;have q0:(wr.alloc (.cells (gnC x) 89)).cell? ⟨wr.heap.size,0,none⟩=some (Zg x.fact):=X1.out.c 0;have q1:(wr.alloc (.cells (gnC x) 89)).cell? ⟨wr.heap.size,1,none⟩=some (Zg x.lot):=X1.out.c 1;have q2:(wr.alloc (.cells (gnC x) 89)).cell? ⟨wr.heap.size,2,none⟩=some (Zg x.ins):=X1.out.c 2;have q3:(wr.alloc (.cells (gnC x) 89)).cell? ⟨wr.heap.size,3,none⟩=some (Zi x.acq):=X1.out.c 3;have q4:(wr.alloc (.cells (gnC x) 89)).cell? ⟨wr.heap.size,4,none⟩=some (Zi x.day):=X1.out.c 4;have q5:(wr.alloc (.cells (gnC x) 89)).cell? ⟨wr.heap.size,5,none⟩=some (Zg x.q):=X1.out.c 5;have q6:(wr.alloc (.cells (gnC x) 89)).cell? ⟨wr.heap.size,6,none⟩=some (Zg x.pro):=X1.out.c 6;have q7:(wr.alloc (.cells (gnC x) 89)).cell? ⟨wr.heap.size,7,none⟩=some (Zg x.cost):=X1.out.c 7;have q8:(wr.alloc (.cells (gnC x) 89)).cell? ⟨wr.heap.size,8,none⟩=some (Zj):=X1.out.c 8;have q9:(wr.alloc (.cells (gnC x) 89)).cell? ⟨wr.heap.size,9,none⟩=some (Zj):=X1.out.c 9;go_wp2_with fail
  refine CP.out.mono ?_
  rintro e w2 ⟨rfl,hb2⟩;have HB2:=Lh (bto HBA.out hb2);clear CP X1 p0 p1 p2 p3 p4 p5 p6 p7 p8 p9 q0 q1 q2 q3 q4 q5 q6 q7 q8 q9 hbs e1 e2 hb2 HBA;go_wp2_with fail;refine (CA.out.of HG.out HB2.out).mono ?_;rintro e w3 ⟨rfl,hb3⟩;have HB3:=Lh (bto HB2.out hb3);clear CA hb3 HB2 hs0;go_wp2;go_roundw
  case rel=>exact⟨k+1,z2,by omega,rfl,by go_num,HZ2.out,HB3.out⟩
  case measure=>simp[intOf];omega
 ·have hkn:k=n:=by omega
  subst hkn;have e1:decide (k<k)=false:=Df (by omega)
  have e2:decide ((k:Int)<(k:Int))=false:=Df (by omega)
  have HF:Hid (Z7 (gs.map g)=z):=by show _=_;rw[HZ.out,List.take_of_length_le (by rw[List.length_map];omega)]
  clear HZ;go_wp2;go_ret;exact⟨by rw[HF.out];rfl,HB.out⟩
theorem ZbQ {A:Option Addr} {gs:List Gn} {n:Nat} (c:Nat) {w:World} {m:Int} (h0:0<=m) (h1:m<=120) (hG:GE w) (hn:gs.length=n) (hn2:n<=100000) (h:PH w A gs) (hs:∀x∈gs,GnS x) :
  Calls prog 36 #[.slice A n c,Zi m] w fun e w'=>(e=.returned (.tuple #[.slice none 0 0,Zi 1])∨∃g,e=.returned (.tuple #[.slice (some ⟨g,0,none⟩) 4 4,Zi 0])/\g<w'.heap.size/\w'.cell? ⟨g,1,none⟩=some (Zg (canon (Z7 (gs.map (·.pro)))))/\w'.cell? ⟨g,3,none⟩=some (Zg (canon (Z7 (gs.map (·.cost))))))/\Below w.heap.size w w':=by
 have C0:=Lh (ZbP c h0 h1 hG hn (Nt hn2 (by decide)) h hs)
 have HH:=Lh h;have HS:=Lh hs;have HN:=Lh hn;have HG:=Lh hG.g;obtain⟨a1,ha1⟩:∃a1,canon (Z7 (gs.map (·.pro)))=a1:=⟨_,rfl⟩
 obtain⟨a2,ha2⟩:∃a2,canon (Z7 (gs.map (·.cost)))=a2:=⟨_,rfl⟩
 rw[ha1,ha2];have HA1:=Lh ha1;have HA2:=Lh ha2;clear h hs hn hG ha1 ha2;go_enter func36,ntmps36;go_wp2_with fail;refine C0.out.mono ?_;rintro e w1 ⟨rfl|⟨A1,c1,l1,v2,rfl,hl,hm,hat⟩,hb1⟩
 ·clear C0;go_wp2;refine Q6 (s:=4) (t:=5) rfl rfl rfl rfl ⟨.inl rfl,hb1⟩
 clear C0;have HB1:=Lh hb1;have S1:=Lh (fun (w':World) (hb:Below w.heap.size w w')=>Zal 97 LY (·.pro) c (HG.out.below hb) HN.out hn2 (HH.out.below hb) (fun x hx=>(HS.out x hx).pro) (fun x _ w2=>gT1 x w2))
 have S2:=Lh (fun (w':World) (hb:Below w.heap.size w w')=>Zal 98 LZ (·.cost) c (HG.out.below hb) HN.out hn2 (HH.out.below hb) (fun x hx=>(HS.out x hx).cost) (fun x _ w2=>gT2 x w2))
 have S3:=Lh (fun (w':World) (hb:Below w1.heap.size w1 w')=>Zal 97 LY (·.pro) c1 (HG.out.below (bto HB1.out hb)) rfl (Nt hl hn2) (hat.below hb) (fun x hx=>(HS.out x (hm x hx)).pro) (fun x _ w2=>gT1 x w2))
 have S4:=Lh (fun (w':World) (hb:Below w1.heap.size w1 w')=>Zal 98 LZ (·.cost) c1 (HG.out.below (bto HB1.out hb)) rfl (Nt hl hn2) (hat.below hb) (fun x hx=>(HS.out x (hm x hx)).cost) (fun x _ w2=>gT2 x w2))
 obtain⟨a3,ha3⟩:∃a3,canon (Z7 (l1.map (·.pro)))=a3:=⟨_,rfl⟩
 obtain⟨a4,ha4⟩:∃a4,canon (Z7 (l1.map (·.cost)))=a4:=⟨_,rfl⟩
 rw[HA1.out] at S1;rw[HA2.out] at S2;rw[ha3] at S3;rw[ha4] at S4;obtain⟨n1,hn1⟩:∃n1,l1.length=n1:=⟨_,rfl⟩
 rw[hn1] at S3 S4 ⊢;clear HA1 HA2 ha3 ha4 hl hm hat hb1 hn1 HH HS HN HG;go_wp2_with fail;refine (S1.out _ HB1.out).mono ?_;rintro e w2 ⟨rfl,hb2⟩;have HB2:=Lh (bto HB1.out hb2);have HC2:=Lh hb2;clear S1 hb2;go_wp2_with fail;refine (S2.out _ HB2.out).mono ?_;rintro e w3 ⟨rfl,hb3⟩;have HB3:=Lh (bto HB2.out hb3);have HC3:=Lh (bto HC2.out hb3);clear S2 hb3 HB2 HC2;go_wp2_with fail;refine (S3.out _ HC3.out).mono ?_;rintro e w4 ⟨rfl,hb4⟩;have HB4:=Lh (bto HB3.out hb4);have HC4:=Lh (bto HC3.out hb4);clear S3 hb4 HB3 HC3;go_wp2_with fail;refine (S4.out _ HC4.out).mono ?_;rintro e w5 ⟨rfl,hb5⟩;have HB5:=Lh (bto HB4.out hb5);clear S4 hb5 HB4 HC4 HB1;have hbk:=Zh w5 (.cells #[.string ⟨#[112,114,111,99,101,101,100,115]⟩,Zg a1,.string ⟨#[99,111,115,116]⟩,Zg a2,.string ⟨#[108,111,110,103,112,114,111,99,101,101,100,115]⟩,Zg a3,.string ⟨#[108,111,110,103,99,111,115,116]⟩,Zg a4] 68);have X6:Hid (Blk (w5.alloc (.cells #[.string ⟨#[112,114,111,99,101,101,100,115]⟩,Zg a1,.string ⟨#[99,111,115,116]⟩,Zg a2,.string ⟨#[108,111,110,103,112,114,111,99,101,101,100,115]⟩,Zg a3,.string ⟨#[108,111,110,103,99,111,115,116]⟩,Zg a4] 68)) w5.heap.size #[.string ⟨#[112,114,111,99,101,101,100,115]⟩,Zg a1,.string ⟨#[99,111,115,116]⟩,Zg a2,.string ⟨#[108,111,110,103,112,114,111,99,101,101,100,115]⟩,Zg a3,.string ⟨#[108,111,110,103,99,111,115,116]⟩,Zg a4]):=Blk.new w5 _ 68;have HB6:=Lh (bto HB5.out hbk);clear hbk;go_wp2;refine Q6 (s:=4) (t:=5) rfl rfl rfl rfl ⟨.inr ⟨_,rfl,X6.out.lt,X6.out.c 1,X6.out.c 3⟩,HB6.out⟩
theorem XZ {P:Program} {F:Fence} {n0:Nat} {w:World} {ops:Array Oper} {rest:List Oper} {o:Oper} {a:Act} {Q:Exit->Act->World->Prop} (hgd:o.guard=none) (s x:Operand) (t:TypeId)
  (ho:o.op=.call { callee:=.builtin .append,args:=#[s,x],argTypes:=#[t,t] })
  (base:Nat) (e:TypeId) (i:TypeInfo) (z:Value) (size bytes:Nat) (ht:P.underlying t=some (.slice e)) (hi:P.info? e=some i) (hz:i.zero=some z)
  (hsize:i.size=size) (hby:i.bytes=bytes) (hzs:z.cells.size=size) (hsz:0<size)
  (v:Value) (n:Nat) (xs:List Value) (hs:a.eval s=v) (hown:w.ownsRow base e size v n xs)
  (ad:Addr) (m c:Nat) (news:List Value) (hx:a.eval x=.slice (some ad) m c) (hl:news.length=m*size) (hnews:∀j u,news[j]?=some u->w.cell? (ad.add j)=some u) (h1:∀u∈news,u.oneCell'=true)
  (h63:n+m<=maxLen) (hbytes:(n+m)*bytes<=140737488355328) (hbase:base<=w.heap.size)
  (h:∀v' w',w'.ownsRow base e size v' (n+m) (xs++news)->w.grownBy w' v.ownBlock->(∀g,v'.ownBlock=some g->v.ownBlock=some g∨w.heap.size<=g)->wpListIn F n0 P ops Q rest (a.put o.dst v') w'):wpListIn F n0 P ops Q (o::rest) a w:=by
 refine wpListIn_plain hgd fun K hK=>?_
 obtain⟨v',w',hr,h2,h3,-⟩:=run_append_own (P:=P) w base t o.type e i z size bytes ht hi hz hsize hby hzs hsz v n xs hown ad m c news hl hnews h1 h63 hbytes hbase;have h5:=V6 (P:=P) base t o.type e i z size bytes ht hi hz hsize hby hzs hsz v n xs hown ad m c news hl hnews h1 h63 hbytes hr;unfold Oper.wpIn;refine⟨?_,?_⟩
 ·simp[Oper.about,ho,resolve,Target.leads,Sem.run_pure]
 ·rw[Oper.semAt_plain F _ _ (by rw[ho];intro c hc';cases hc')]
  simp[execOp,ho,resolve,invoke,builtin,hs,hx,hr,Result.andThen];exact hK _ _ (h v' w' h2 h3 h5)
theorem SU {P:Program} {F:Fence} {n0:Nat} {w:World} {ops:Array Oper} {rest:List Oper} {op:Oper} {a:Act} {Q:Exit->Act->World->Prop} (hgd:op.guard=none) (ty:TypeId) (x:Operand) (ho:op.op=.load ty x) (b k:Nat) (hx:a.eval x=.pointer (some ⟨b,k,none⟩)) (cs:List Value) {d:TypeDesc} (hc:w.rangeAt b k cs)
  (hu:P.underlying ty=some d) (hd:d.isRow=true) (hi:(P.info? ty).map (·.size)=some cs.length) (h:wpListIn F n0 P ops Q rest (a.put op.dst (.agg cs.toArray)) w):wpListIn F n0 P ops Q (op::rest) a w:=by
 refine wpListIn_plain hgd fun K hK=>?_
 have hr:=Zo (P:=P) (e:=a.eval) ty x ho b k hx cs d hc hu hd hi;unfold Oper.wpIn;refine⟨?_,?_⟩
 ·simp[Oper.about,ho]
 ·rw[Oper.semAt_plain F _ _ (by rw[ho];intro c hc';cases hc'),hr]
  exact hK _ _ h
theorem VE {P:Program} {F:Fence} {n0:Nat} {w:World} {ops:Array Oper} {rest:List Oper} {op:Oper} {a:Act} {Q:Exit->Act->World->Prop} (hgd:op.guard=none) (ty:TypeId) (x y:Operand) (ho:op.op=.store ty x y)
  (b k:Nat) (cells:Array Value) (hx:a.eval x=.pointer (some ⟨b,k,none⟩)) (hy:a.eval y=.agg cells)
  (ht:w.there b k cells.size) (hi:(P.info? ty).map (·.size)=some cells.size) (h1:cells.all (·.oneCell')=true)
  (h:wpListIn F n0 P ops Q rest (a.put op.dst undef) (w.setCells b k cells.toList)):wpListIn F n0 P ops Q (op::rest) a w:=by
 refine wpListIn_plain hgd fun K hK=>?_
 have hr:=ZB (P:=P) (e:=a.eval) (w:=w) ty x y ho b k cells hx hy ht hi h1;unfold Oper.wpIn;refine⟨?_,?_⟩
 ·simp[Oper.about,ho]
 ·rw[Oper.semAt_plain F _ _ (by rw[ho];intro c hc';cases hc'),hr]
  exact hK _ _ h
theorem SX {P:Program} (w:World) (b o:Nat) (ty:TypeId) (v:Value) (hc:(w.cell? ⟨b,o,none⟩).isSome=true) (hf:w.frozen? ⟨b,o,none⟩=false) (hi:(P.info? ty).map (·.size)=some 1) (h1:v.oneCell'=true) :
  (storeVar ty ⟨b,o,none⟩ v).run P w=.ok () (w.setCell ⟨b,o,none⟩ v):=by
 have:=run_storeCells_cells (P:=P) b o [v] 0 w (fun j hj=>by
  have:j=0:=by simpa using hj
  subst this;simpa using hc) (fun j hj=>by
  have:j=0:=by simpa using hj
  subst this;simpa using hf) (fun u hu=>by
  simp only[List.mem_cons,List.not_mem_nil,or_false] at hu
  subst hu;exact h1)
 have hcs:v.cells=#[v]:=by cases v<;>first|rfl|cases h1
 cases hq:P.info? ty with
 | none=>simp[hq] at hi
 | some i=>
  have hs:i.size=1:=by simp[hq] at hi;omega
  simp only[Nat.add_zero] at this;simp[storeVar,sizeOf,typeInfo,hq,hcs,hs,this,World.setCells]
theorem UH {P:Program} {e:Operand->Value} {o:Oper} {w:World} (ty:TypeId) (x y:Operand) (ho:o.op=.store ty x y) (b k:Nat) (v:Value) (hx:e x=.pointer (some ⟨b,k,none⟩)) (hy:e y=v)
  (hc:(w.cell? ⟨b,k,none⟩).isSome=true) (hf:w.frozen? ⟨b,k,none⟩=false) (hi:(P.info? ty).map (·.size)=some 1) (h1:v.oneCell'=true):(execOp e o).run P w=.ok .skip (w.setCell ⟨b,k,none⟩ v):=by
 unfold execOp;simp only[ho,hx,hy,Instr.storeAt,Instr.sureAddr,Sem.run_bind,Sem.run_pure,Result.andThen_ok,SX w b k ty v hc hf hi h1]
theorem WX {P:Program} {F:Fence} {n0:Nat} {w:World} {ops:Array Oper} {rest:List Oper} {op:Oper} {a:Act} {Q:Exit->Act->World->Prop} (hgd:op.guard=none) (ty:TypeId) (x y:Operand) (ho:op.op=.store ty x y)
  (b k:Nat) (v:Value) (hx:a.eval x=.pointer (some ⟨b,k,none⟩)) (hy:a.eval y=v)
  (hc:(w.cell? ⟨b,k,none⟩).isSome=true) (hf:w.frozen? ⟨b,k,none⟩=false) (hi:(P.info? ty).map (·.size)=some 1) (h1:v.oneCell'=true)
  (h:wpListIn F n0 P ops Q rest (a.put op.dst undef) (w.setCell ⟨b,k,none⟩ v)):wpListIn F n0 P ops Q (op::rest) a w:=by
 refine wpListIn_plain hgd fun K hK=>?_
 have hr:=UH (P:=P) (e:=a.eval) (w:=w) ty x y ho b k v hx hy hc hf hi h1;unfold Oper.wpIn;refine⟨?_,?_⟩
 ·simp[Oper.about,ho]
 ·rw[Oper.semAt_plain F _ _ (by rw[ho];intro c hc';cases hc'),hr]
  exact hK _ _ h
def Ub (fid fins:List UInt8) (day:Int) (y:Lot×List UInt8):Gn:=⟨fid,y.1.id,fins,y.1.acq,day,y.1.q,y.2,y.1.cost⟩
def L0 (fid:List UInt8) (y:Lot×List UInt8):Sp:=⟨fid,y.1.id,y.1.q,y.1.cost⟩
def TA (g nr cr:Nat) (v1 v2:Value):Array Value:=#[.slice (some ⟨g,0,none⟩) nr cr,v1,v2,.slice none 0 0]
structure Vl (w:World) (R:Loop) (Bx d l g nr cr b0:Nat) (ob:Obj) (v1 v2:Value) (gs:List Gn) (ss:List Sp) (W:World):Prop where
 below:Below w.heap.size w W
 loop:W.heap[l]?=some (.loop R)
 dfr:W.heap[d]?=some (.deferred (some []))
 par:W.heap[b0]?=some ob
 lo:Bx<=b0/\Bx<=W.heap.size
 res:W.heap[w.heap.size]?=some (.cells (TA g nr cr v1 v2) 60 (0,0))
 o1:W.ownsRow Bx 89 10 v1 gs.length (Yo gs)
 o2:W.ownsRow Bx 136 6 v2 ss.length (Ux ss)
 dis:Dis v1 v2
 n1:v1.ownBlock≠some b0
 n2:v2.ownBlock≠some b0
section
variable {w:World} {R:Loop} {Bx d l g nr cr b0:Nat} {ob:Obj} {v1 v2:Value} {gs:List Gn} {ss:List Sp} {W W':World}
theorem VF {w w':World} {B:Nat} (h:Below B w w') {b:Nat} (hb:B<=b) (o:Nat) (y:Value):Below B w (w'.setCell ⟨b,o,none⟩ y):=h.setCell (p:=⟨b,o,none⟩) hb y
theorem Vl.mono (h:Vl w R Bx d l g nr cr b0 ob v1 v2 gs ss W) (hb:Below W.heap.size W W'):Vl w R Bx d l g nr cr b0 ob v1 v2 gs ss W':=
 ⟨bto h.below hb,Zv h.loop hb,Zv h.dfr hb,Zv h.par hb,⟨h.lo.1,Nt h.lo.2 hb.size⟩,Zv h.res hb,Yt h.o1 hb,Yt h.o2 hb,h.dis,h.n1,h.n2⟩
theorem Xo {w w':World} {B k sz:Nat} {ty:TypeId} {v:Value} {cs:List Value} (h:w.ownsRow B ty sz v k cs) (hb:∀b,B<=b->b<w.heap.size->w'.heap[b]?=w.heap[b]?):w'.ownsRow B ty sz v k cs:=by
 refine⟨h.1,?_⟩;rcases h.2 with h2|⟨g,cap,cur,e,hB,hg,r⟩
 ·exact .inl h2
 ·exact .inr ⟨g,cap,cur,e,hB,(hb g hB (Ag.1 hg).1).trans hg,r⟩
theorem Vl.done {R1 R2:Loop} (hR:R2=R) (hl:l≠d/\w.heap.size<l/\l<Bx) (h:Vl w R1 Bx d l g nr cr b0 ob v1 v2 gs ss W):Vl w R Bx d l g nr cr b0 ob v1 v2 gs ss (W.putObj l (.loop R2)):=by
 subst hR;have hlo:=h.lo.1;have ho:∀b,b≠l->(W.putObj l (.loop R2)).heap[b]?=W.heap[b]?:=fun b hb=>World.putObj_heap_other (by omega)
 exact⟨XD h.below (by omega),World.putObj_heap_same (Ag.1 h.loop).1,(ho _ (by omega)).trans h.dfr,(ho _ (by omega)).trans h.par,⟨h.lo.1,by simpa using h.lo.2⟩,(ho _ (by omega)).trans h.res,Xo h.o1 (fun b hb _=>ho b (by omega)),Xo h.o2 (fun b hb _=>ho b (by omega)),h.dis,h.n1,h.n2⟩
theorem Vl.grown (h:Vl w R Bx d l g nr cr b0 ob v1 v2 gs ss W) (hl:w.heap.size<l/\w.heap.size<d/\l<Bx/\d<Bx) {row:Option Nat} (hr:∀k,row=some k->Bx<=k/\k≠b0) (hg:W.grownBy W' row) :
  Below w.heap.size w W'/\W'.heap[l]?=some (.loop R)/\W'.heap[d]?=some (.deferred (some []))/\W'.heap[b0]?=some ob/\W'.heap[w.heap.size]?=some (.cells (TA g nr cr v1 v2) 60 (0,0))/\Bx<=W'.heap.size:=by
 have hk:∀k o,W.heap[k]?=some o->(∀x,row=some x->x≠k)->W'.heap[k]?=some o:=fun k o h1 h2=>(hg.block k (Ag.1 h1).1 (fun e=>h2 k e.symm rfl)).trans h1
 have hs:=h.below.size;refine⟨h.below.grown hg hs (fun k hk=>?_),hk _ _ h.loop (fun x e=>?_),hk _ _ h.dfr (fun x e=>?_),hk _ _ h.par (fun x e=>?_),hk _ _ h.res (fun x e=>?_),Nt h.lo.2 hg.size⟩
 ·have:=(hr k hk).1;omega
 ·have:=(hr x e).1;omega
 ·have:=(hr x e).1;omega
 ·exact (hr x e).2
 ·have:=(hr x e).1;omega
theorem Vl.r1 (h:Vl w R Bx d l g nr cr b0 ob v1 v2 gs ss W):∀k,v1.ownBlock=some k->Bx<=k/\k≠b0:=fun k hk=>⟨(World.ownsRow.lt h.o1 k hk).1,fun e=>h.n1 (by rw[hk,e])⟩
theorem Vl.r2 (h:Vl w R Bx d l g nr cr b0 ob v1 v2 gs ss W):∀k,v2.ownBlock=some k->Bx<=k/\k≠b0:=fun k hk=>⟨(World.ownsRow.lt h.o2 k hk).1,fun e=>h.n2 (by rw[hk,e])⟩
theorem Vl.gain (h:Vl w R Bx d l g nr cr b0 ob v1 v2 gs ss W) (hl:w.heap.size<l/\w.heap.size<d/\l<Bx/\d<Bx) {x:Gn} {v1':Value} (ho:W'.ownsRow Bx 89 10 v1' (gs.length+1) (Yo gs++Ua x)) (hg:W.grownBy W' v1.ownBlock) (hf:∀k,v1'.ownBlock=some k->v1.ownBlock=some k∨W.heap.size<=k) :
  Vl w R Bx d l g nr cr b0 ob v1' v2 (gs++[x]) ss (W'.setCell ⟨w.heap.size,1,none⟩ v1'):=by
 obtain⟨a1,a2,a3,a4,a5,a6⟩:=h.grown hl h.r1 hg;have hlo:=h.lo.1
 have h2:=h.o2.kept hg (by
  cases hv:v2.ownBlock with
  | none=>exact .inl rfl
  | some k=>exact .inr (fun e=>h.dis k e.symm hv))
 have hb0:=(Ag.1 h.par).1;have hoth:∀b,b≠w.heap.size->(W'.setCell ⟨w.heap.size,1,none⟩ v1').heap[b]?=W'.heap[b]?:=fun b hb=>Below.heap_setCell W' ⟨w.heap.size,1,none⟩ v1' b hb
 refine⟨VF a1 (Nl _) 1 v1',(hoth _ (by omega)).trans a2,(hoth _ (by omega)).trans a3,(hoth _ (by omega)).trans a4,⟨hlo,by simpa using a6⟩,?_,?_,Xo h2 (fun b hb _=>hoth b (by omega)),h.dis.fresh hf (fun k hk=>(World.ownsRow.lt h.o2 k hk).2),LJ h.n1 hf hb0,h.n2⟩
 ·exact hset (o:=1) v1' a5
 ·rw[List.length_append,List.length_singleton,T9,show Yo [x]=Ua x by simp[Yo]]
  exact Xo ho (fun b hb _=>hoth b (by omega))
theorem Vl.step (h:Vl w R Bx d l g nr cr b0 ob v1 v2 gs ss W) (hl:w.heap.size<l/\w.heap.size<d/\l<Bx/\d<Bx) {x:Sp} {v2':Value} (ho:W'.ownsRow Bx 136 6 v2' (ss.length+1) (Ux ss++LW x)) (hg:W.grownBy W' v2.ownBlock) (hf:∀k,v2'.ownBlock=some k->v2.ownBlock=some k∨W.heap.size<=k) :
  Vl w R Bx d l g nr cr b0 ob v1 v2' gs (ss++[x]) (W'.setCell ⟨w.heap.size,2,none⟩ v2'):=by
 obtain⟨a1,a2,a3,a4,a5,a6⟩:=h.grown hl h.r2 hg;have hlo:=h.lo.1
 have h2:=h.o1.kept hg (by
  cases hv:v1.ownBlock with
  | none=>exact .inl rfl
  | some k=>exact .inr (fun e=>h.dis k hv e.symm))
 have hb0:=(Ag.1 h.par).1;have hoth:∀b,b≠w.heap.size->(W'.setCell ⟨w.heap.size,2,none⟩ v2').heap[b]?=W'.heap[b]?:=fun b hb=>Below.heap_setCell W' ⟨w.heap.size,2,none⟩ v2' b hb
 refine⟨VF a1 (Nl _) 2 v2',(hoth _ (by omega)).trans a2,(hoth _ (by omega)).trans a3,(hoth _ (by omega)).trans a4,⟨hlo,by simpa using a6⟩,?_,Xo h2 (fun b hb _=>hoth b (by omega)),?_,(h.dis.symm.fresh hf (fun k hk=>(World.ownsRow.lt h.o1 k hk).2)).symm,h.n1,LJ h.n2 hf hb0⟩
 ·exact hset (o:=2) v2' a5
 ·rw[List.length_append,List.length_singleton,J5,show Ux [x]=LW x by simp[Ux]]
  exact Xo ho (fun b hb _=>hoth b (by omega))
end
def Hj (w:World) (R:Loop) (Bx d l g nr cr:Nat) (fid fins:List UInt8) (day:Int) (b0:Nat) (ob:Obj) (ys:List (Lot×List UInt8)) (W:World):Prop:=
 ∃v1 v2,Vl w R Bx d l g nr cr b0 ob v1 v2 (ys.map (Ub fid fins day)) (ys.map (L0 fid)) W
structure Zam (w:World) (R:Loop) (Bx d l g nr cr bl bt:Nat) (v:Value) (T:List UInt8) (W:World):Prop where
 below:Below w.heap.size w W
 loop:W.heap[l]?=some (.loop R)
 dfr:W.heap[d]?=some (.deferred (some []))
 lo:Bx<=W.heap.size
 res:W.heap[w.heap.size]?=some (.cells (TA g nr cr (.slice none 0 0) (.slice none 0 0)) 60 (0,0))
 lots:Blk W bl #[v]
 txt:Blk W bt #[Zg T]
theorem Zam.go {w:World} {R:Loop} {Bx d l g nr cr bl bt:Nat} {v:Value} {T:List UInt8} {W W':World} (h:Zam w R Bx d l g nr cr bl bt v T W) (fid fins:List UInt8) (day:Int) {b0:Nat} {ob:Obj} (hb:Below W.heap.size W W') (h0:W.heap.size<=b0) (h1:W'.heap[b0]?=some ob):Hj w R Bx d l g nr cr fid fins day b0 ob [] W':=
 ⟨.slice none 0 0,.slice none 0 0,{ below:=bto h.below hb,loop:=Zv h.loop hb,dfr:=Zv h.dfr hb,par:=h1,lo:=⟨Nt h.lo h0,Nt h.lo hb.size⟩,res:=Zv h.res hb,o1:=World.ownsRow_nil _ _ _ _,o2:=World.ownsRow_nil _ _ _ _,dis:=(fun g hg=>(by cases hg)),n1:=(fun e=>(by cases e)),n2:=(fun e=>(by cases e)) }⟩
def Pn (w0:World) (g:Nat) (xs:List Lot) (e:Ending) (w':World):Prop:=e=.returned (.tuple #[])/\∃zs,SAt w0 g xs w' zs
theorem ZbR {w0 w:World} {g n c:Nat} {fv:Value} {xs ys:List Lot} (h:SAt w0 g xs w ys) (hn:xs.length=n) (hn2:n<=100000) (a b l:Nat) (za zb zl:Int) (hza:za=(a:Int)) (hzb:zb=(b:Int)) (hzl:zl=(l:Int)) (ha:a+l<=n) (hb:b+l<=n) :
  Calls prog 345 #[.slice (some ⟨g,0,none⟩) n c,Zi za,Zi zb,Zi zl,fv] w (Pn w0 g xs):=by
 have HS:=Lh h;have HN:=Lh hn;have HZ:=Lh YS;subst hza hzb hzl;clear h hn;go_enter func345,ntmps345;go_wp2_with fail
 go_loopw [10] (fun iv wr=>∃(k:Nat) (zs:List Lot),k<=l/\iv=Zi (k:Int)/\Hid (SAt w0 g xs wr zs)) (fun iv _=>l-(intOf iv).toNat)
 case atStart=>exact⟨0,ys,Nat.zero_le _,rfl,HS.out⟩
 case round=>
  clear HS;obtain⟨k,zs',hk,rfl,HS⟩:=hrel
  by_cases hkl:k<l
  rotate_left
  ·have e1:decide (k<l)=false:=Df hkl;have e2:decide ((k:Int)<(l:Int))=false:=Df (by omega)
   go_wp2
   go_end0
   exact⟨rfl,zs',HS.out⟩
  have e1:decide (k<l)=true:=Dt hkl;have e2:decide ((k:Int)<(l:Int))=true:=Dt (by omega)
  obtain⟨ia,hia⟩:∃ia,ia=a+k:=⟨_,rfl⟩
  obtain⟨ib,hib⟩:∃ib,ib=b+k:=⟨_,rfl⟩
  have hian:ia<n:=by omega
  have hibn:ib<n:=by omega
  have hw1:IntKind.i64.wrap ((a:Int)+(k:Int))=(ia:Int):=To (by omega) (by omega)
  have hw2:IntKind.i64.wrap ((b:Int)+(k:Int))=(ib:Int):=To (by omega) (by omega)
  have hl:zs'.length=n:=HS.out.len HN.out;obtain⟨x,hx⟩:∃x,zs'[ia]?=some x:=⟨_,List.getElem?_eq_getElem (by omega)⟩
  obtain⟨y,hy⟩:∃y,zs'[ib]?=some y:=⟨_,List.getElem?_eq_getElem (by omega)⟩
  clear hl hia hib;go_wp2_with fail;clear e1 e2;obtain⟨cs,hcs,hrc⟩:=HS.out.row.cs;obtain⟨F,hF⟩:∃F:Fx,F=fun k=>if k=g then some (.cells cs 130 (0,0)) else none:=⟨_,rfl⟩
  have fF:F g=some (.cells cs 130 (0,0)):=by rw[hF];exact if_pos rfl
  have hFF:∀b ob,F b=some ob->wr.heap[b]?=some ob:=fun b ob h=>by
   rw[hF] at h;dsimp only at h
   by_cases hg:b=g
   ·rw[if_pos hg] at h;rw[hg,hcs];exact h
   ·rw[if_neg hg] at h;cases h
  have hFX:∀k,F k≠none->k=g:=fun k hk=>by
   rw[hF] at hk;dsimp only at hk
   by_cases hg:k=g
   ·exact hg
   ·rw[if_neg hg] at hk;exact absurd rfl hk
  obtain⟨tch,htch⟩:∃tch,tch=Nq g [13,19,21,23]:=⟨_,rfl⟩
  unfold Nq at htch;have HFF:=Lh hFF;have HFX:=Lh hFX;clear hF hcs hFF hFX;refine ZL tch F (by kernel_rfl) (by kernel_rfl) (by kernel_rfl) HFF.out ?_
  iterate 3 refine PfV _ rfl (fun wz hw=>by go_simp;try rfl) ?_
  refine PfV (Zi (ia:Int)) rfl (fun wz hw=>by go_simp;try rfl) ?_
  iterate 2
   refine PfV _ rfl (fun wz hw=>by go_simp;try rfl) ?_
   refine PfV _ rfl (fun wz hw=>by go_simp;try rfl) ?_
   refine PfV _ rfl (fun wz hw=>by go_simp;try rfl) ?_
   refine PfV (Zi (ib:Int)) rfl (fun wz hw=>by go_simp;try rfl) ?_
  refine PfV (.pointer (some ⟨g,ib*7,none⟩)) rfl (fun wz hw=>by go_simp;try rfl) ?_
  refine Z9 g cs 130 (.agg (Zn y)) fF (by simp[htch]) rfl (fun wz hw hc=>Zo 130 _ rfl g (ib*7) rfl (lcs y) _ (YL hrc hc hy) underlying130 rfl (by rw[HZ.out];rfl)) ?_
  simp only[Act.put,StT,StZ,StS,Nat.reduceAdd]
  iterate 3 refine PfV _ rfl (fun wz hw=>by go_simp;try rfl) ?_
  refine PfV (Zi (ia:Int)) rfl (fun wz hw=>by go_simp;try rfl) ?_
  refine PfV (.pointer (some ⟨g,ia*7,none⟩)) rfl (fun wz hw=>by go_simp;try rfl) ?_
  refine Z9 g cs 130 (.agg (Zn x)) fF (by simp[htch]) rfl (fun wz hw hc=>Zo 130 _ rfl g (ia*7) rfl (lcs x) _ (YL hrc hc hx) underlying130 rfl (by rw[HZ.out];rfl)) ?_
  simp only[Act.put,StT,StZ,StS,Nat.reduceAdd];refine PfV (.pointer (some ⟨g,ia*7,none⟩)) rfl (fun wz hw=>by go_simp;try rfl) ?_
  refine Z6 g (ia*7) cs (lcs y) 130 fF (by simp[htch]) (fun j oj hj=>ZC (l:=[13,19,21,23]) (by kernel_rfl) j oj (by simpa [htch] using hj)) rfl (fun wz hw hc hf=>ZB 130 _ _ rfl g (ia*7) (Zn y) rfl rfl (YM hrc hc hf (YG hx)) (by rw[HZ.out];rfl) (Xj y)) ?_
  simp only[Act.put,Nat.reduceAdd];refine PfV (.pointer (some ⟨g,ib*7,none⟩)) rfl (fun wz hw=>by go_simp;try rfl) ?_
  have fF2:(fun k=>if k=g then some (Obj.cells (Yp cs (ia*7) (lcs y)) 130 (0,0)) else F k) g=some (.cells (Yp cs (ia*7) (lcs y)) 130 (0,0)):=if_pos rfl
  refine Z6 g (ib*7) (Yp cs (ia*7) (lcs y)) (lcs x) 130 fF2 (by simp[htch]) (fun j oj hj=>ZC (l:=[13,19,21,23]) (by kernel_rfl) j oj (by simpa [htch] using hj)) rfl (fun wz hw hc hf=>ZB 130 _ _ rfl g (ib*7) (Zn x) rfl rfl (YM (hrc.set y (YG hx)) hc hf (by rw[List.length_set];exact YG hy)) (by rw[HZ.out];rfl) (Xj x)) ?_
  simp only[Act.put,Nat.reduceAdd];refine YB (fun w2 hF2=>?_)
  have hSw:=Lh (HS.out.swap (W':=w2) hrc hx hy (hF2.box g _ (if_pos rfl)) (hF2.swapX HFX.out));clear hF2 HFF HFX htch fF fF2 hrc HS;clear hw1 hw2;go_wp2;go_roundw
  case rel=>exact⟨k+1,_,by omega,by go_num,hSw.out⟩
  case measure=>simp[intOf];omega
theorem Zdp {w0 w:World} {g n c:Nat} {fv:Value} {xs ys:List Lot} (h:SAt w0 g xs w ys) (hn:xs.length=n) (hn2:n<=100000) (a m b:Nat) (za zm zb:Int) (hza:za=(a:Int)) (hzm:zm=(m:Int)) (hzb:zb=(b:Int)) (ha:a<m) (hm:m<b) (hb:b<=n) :
  Calls prog 328 #[.slice (some ⟨g,0,none⟩) n c,Zi za,Zi zm,Zi zb,fv] w (Pn w0 g xs):=by
 have HS:=Lh h;have HN:=Lh hn;subst hza hzb hzm;clear h hn;go_enter func328,ntmps328;go_wp2_with fail
 go_loopw [10,11] (fun iv jv wr=>∃(i j:Nat) (zs:List Lot),1<=i/\1<=j/\a+i<=m/\m+j<=b/\iv=Zi (i:Int)/\jv=Zi (j:Int)/\Hid (SAt w0 g xs wr zs)) (fun iv jv _=>(intOf iv).toNat+(intOf jv).toNat)
 case atStart=>exact⟨m-a,b-m,ys,by omega,by omega,by omega,by omega,(by congr 1;omega),(by congr 1;omega),HS.out⟩
 case round=>
  clear HS;obtain⟨i,j,zs,hi,hj,hai,hbj,rfl,rfl,HS⟩:=hrel
  by_cases hij:i=j
  ·subst hij;go_wp2_with fail;refine (ZbR HS.out HN.out hn2 (m-i) m i _ _ _ (by omega) (by omega) (by omega) (by omega) (by omega)).mono ?_
   rintro e w2 ⟨rfl,zs2,hs2⟩;have HS2:=Lh hs2;clear hs2 HS;go_wp2
   go_end0
   exact⟨rfl,zs2,HS2.out⟩
  have e1:((i:Int)==(j:Int))=false:=by rw[Bn];omega
  have e1':=V0 e1;have e2:(i==j)=false:=by rw[Bn];exact hij
  have e2':(i != j)=true:=by simp[bne,e2]
  by_cases hg:j<i
  ·have e3:decide (j<i)=true:=Dt hg;have e4:decide ((j:Int)<(i:Int))=true:=Dt (by omega)
   clear hij;go_wp2_with fail;refine (ZbR HS.out HN.out hn2 (m-i) m j _ _ _ (by omega) (by omega) (by omega) (by omega) (by omega)).mono ?_
   rintro e w2 ⟨rfl,zs2,hs2⟩;have HS2:=Lh hs2;clear hs2 HS e1 e2 e3 e4 e1' e2';go_wp2;go_roundw
   case rel=>exact⟨i-j,j,zs2,by omega,by omega,by omega,by omega,(by first|rfl|go_num|(congr 1;omega)),(by first|rfl|go_num|(congr 1;omega)),HS2.out⟩
   case measure=>simp[intOf];omega
  ·have e3:decide (j<i)=false:=Df hg;have e4:decide ((j:Int)<(i:Int))=false:=Df (by omega)
   have hg2:i<j:=by omega
   clear hij hg;go_wp2_with fail;refine (ZbR HS.out HN.out hn2 (m-i) (m+j-i) i _ _ _ (by omega) (by omega) (by omega) (by omega) (by omega)).mono ?_
   rintro e w2 ⟨rfl,zs2,hs2⟩;have HS2:=Lh hs2;clear hs2 HS e1 e2 e3 e4 e1' e2';go_wp2;go_roundw
   case rel=>exact⟨i,j-i,zs2,by omega,by omega,by omega,by omega,(by first|rfl|go_num|(congr 1;omega)),(by first|rfl|go_num|(congr 1;omega)),HS2.out⟩
   case measure=>simp[intOf];omega
theorem Zdq {w0 w:World} {g n c f:Nat} {caps:Array Value} {cf:Lot->Lot->Int} {xs ys:List Lot} (H:Np w0 g xs f caps cf) (h:SAt w0 g xs w ys) (hn:xs.length=n) (hn2:n<=100000) (a m b:Nat) (za zm zb:Int) (hza:za=(a:Int)) (hzm:zm=(m:Int)) (hzb:zb=(b:Int)) (ha:a<m) (hm:m<b) (hb:b<=n) (hma:m-a=1) :
  Calls prog 310 #[.slice (some ⟨g,0,none⟩) n c,Zi za,Zi zm,Zi zb,.func (.func f) #[] caps] w (Pn w0 g xs):=by
 have HS:=Lh h;have HN:=Lh hn;have hEn:=H.enter;have HZ:=Lh YS;subst hza hzm hzb;clear h hn;have hq:((m:Int)-(a:Int)==1)=true:=by rw[beq_iff_eq];omega
 go_enter func310,ntmps310;go_wp2_with fail;clear hq
 go_loopw [10,11,12] (fun iv jv _ wr=>∃(i j:Nat) (zs:List Lot),m<=i/\i<=j/\j<=b/\iv=Zi (i:Int)/\jv=Zi (j:Int)/\Hid (SAt w0 g xs wr zs)) (fun iv jv _ _=>(intOf jv).toNat-(intOf iv).toNat)
 case atStart=>exact⟨m,b,ys,by omega,by omega,by omega,(by first|rfl|go_num|(congr 1;omega)),(by first|rfl|go_num|(congr 1;omega)),HS.out⟩
 case round=>
  clear HS;obtain⟨i,j,zs',hi,hij,hjb,rfl,rfl,HS⟩:=hrel
  by_cases hlt:i<j
  rotate_left
  ·obtain rfl:i=j:=by omega
   have e1:decide (i<i)=false:=Df hlt;have e2:decide ((i:Int)<(i:Int))=false:=Df (by omega)
   go_wp2_with fail;clear e1 e2
   rename World=>wo
   go_loopw [13] (fun kv wr=>∃(k:Nat) (zs:List Lot),a<=k/\k<i/\kv=Zi (k:Int)/\Hid (SAt w0 g xs wr zs)) (fun kv _=>i-(intOf kv).toNat)
   case atStart=>exact⟨a,zs',Nl _,by omega,rfl,HS.out⟩
   case round=>
    clear HS;obtain⟨k,zs',hak,hki,rfl,HS⟩:=hrel
    by_cases hk:k+1<i
    rotate_left
    ·have e1:decide ((k:Int)<(i:Int)-1)=false:=Df (by omega)
     have e2:decide ((k:Int)+1<(i:Int))=false:=Df (by omega)
     have e3:decide (k+1<i)=false:=Df hk;go_wp2
     go_end0
     exact⟨rfl,zs',HS.out⟩
    have e1:decide ((k:Int)<(i:Int)-1)=true:=Dt (by omega)
    have e2:decide ((k:Int)+1<(i:Int))=true:=Dt (by omega)
    obtain⟨k1,hk1⟩:∃k1,k1=k+1:=⟨_,rfl⟩
    have hkn:k<n:=by omega
    have hk1n:k1<n:=by omega
    have hw1:IntKind.i64.wrap ((k:Int)+1)=(k1:Int):=To (by omega) (by omega)
    have hl:zs'.length=n:=HS.out.len HN.out;obtain⟨x,hx⟩:∃x,zs'[k]?=some x:=⟨_,List.getElem?_eq_getElem (by omega)⟩
    obtain⟨y,hy⟩:∃y,zs'[k1]?=some y:=⟨_,List.getElem?_eq_getElem (by omega)⟩
    clear hl;have HK:=Lh hk1;clear hk1;go_wp2_with fail;clear e1 e2;obtain⟨cs,hcs,hrc⟩:=HS.out.row.cs;obtain⟨F,hF⟩:∃F:Fx,F=fun k=>if k=g then some (.cells cs 130 (0,0)) else none:=⟨_,rfl⟩
    have fF:F g=some (.cells cs 130 (0,0)):=by rw[hF];exact if_pos rfl
    have hFF:∀b ob,F b=some ob->wr.heap[b]?=some ob:=fun b ob h=>by
     rw[hF] at h;dsimp only at h
     by_cases hg:b=g
     ·rw[if_pos hg] at h;rw[hg,hcs];exact h
     ·rw[if_neg hg] at h;cases h
    have hFX:∀k,F k≠none->k=g:=fun k hk=>by
     rw[hF] at hk;dsimp only at hk
     by_cases hg:k=g
     ·exact hg
     ·rw[if_neg hg] at hk;exact absurd rfl hk
    obtain⟨tch,htch⟩:∃tch,tch=Nq g [9,13,15,17]:=⟨_,rfl⟩
    unfold Nq at htch;have HFF:=Lh hFF;have HFX:=Lh hFX;clear hF hcs hFF hFX;refine ZL tch F (by kernel_rfl) (by kernel_rfl) (by kernel_rfl) HFF.out ?_
    iterate 2
     refine PfV _ rfl (fun wz hw=>by go_simp;try rfl) ?_
     refine PfV _ rfl (fun wz hw=>by go_simp;try rfl) ?_
    refine PfV (Zi (k1:Int)) rfl (fun wz hw=>by go_simp;try rfl) ?_
    iterate 2 refine PfV _ rfl (fun wz hw=>by go_simp;try rfl) ?_
    refine PfV (Zi (k1:Int)) rfl (fun wz hw=>by go_simp;try rfl) ?_
    refine PfV (.pointer (some ⟨g,k1*7,none⟩)) rfl (fun wz hw=>by go_simp;try rfl) ?_
    refine Z9 g cs 130 (.agg (Zn y)) fF (by simp[htch]) rfl (fun wz hw hc=>Zo 130 _ rfl g (k1*7) rfl (lcs y) _ (YL hrc hc hy) underlying130 rfl (by rw[HZ.out];rfl)) ?_
    simp only[Act.put,StT,StZ,StS,Nat.reduceAdd]
    iterate 2 refine PfV _ rfl (fun wz hw=>by go_simp;try rfl) ?_
    refine PfV (.pointer (some ⟨g,k*7,none⟩)) rfl (fun wz hw=>by go_simp;try rfl) ?_
    refine Z9 g cs 130 (.agg (Zn x)) fF (by simp[htch]) rfl (fun wz hw hc=>Zo 130 _ rfl g (k*7) rfl (lcs x) _ (YL hrc hc hx) underlying130 rfl (by rw[HZ.out];rfl)) ?_
    simp only[Act.put,StT,StZ,StS,Nat.reduceAdd];refine PfV (.pointer (some ⟨g,k*7,none⟩)) rfl (fun wz hw=>by go_simp;try rfl) ?_
    refine Z6 g (k*7) cs (lcs y) 130 fF (by simp[htch]) (fun j oj hj=>ZC (l:=[9,13,15,17]) (by kernel_rfl) j oj (by simpa [htch] using hj)) rfl (fun wz hw hc hf=>ZB 130 _ _ rfl g (k*7) (Zn y) rfl rfl (YM hrc hc hf (YG hx)) (by rw[HZ.out];rfl) (Xj y)) ?_
    simp only[Act.put,Nat.reduceAdd];refine PfV (.pointer (some ⟨g,k1*7,none⟩)) rfl (fun wz hw=>by go_simp;try rfl) ?_
    have fF2:(fun kb=>if kb=g then some (Obj.cells (Yp cs (k*7) (lcs y)) 130 (0,0)) else F kb) g=some (.cells (Yp cs (k*7) (lcs y)) 130 (0,0)):=if_pos rfl
    refine Z6 g (k1*7) (Yp cs (k*7) (lcs y)) (lcs x) 130 fF2 (by simp[htch]) (fun j oj hj=>ZC (l:=[9,13,15,17]) (by kernel_rfl) j oj (by simpa [htch] using hj)) rfl (fun wz hw hc hf=>ZB 130 _ _ rfl g (k1*7) (Zn x) rfl rfl (YM (hrc.set y (YG hx)) hc hf (by rw[List.length_set];exact YG hy)) (by rw[HZ.out];rfl) (Xj x)) ?_
    simp only[Act.put,Nat.reduceAdd];refine YB (fun w2 hF2=>?_)
    have hSw:=Lh (HS.out.swap (W':=w2) hrc hx hy (hF2.box g _ (if_pos rfl)) (hF2.swapX HFX.out));clear hF2 HFF HFX htch fF fF2 hrc HS;clear hw1;go_wp2;go_roundw
    case rel=>exact⟨k1,_,by have:=HK.out;omega,by have:=HK.out;omega,(by first|rfl|(rw[HK.out];go_num)),hSw.out⟩
    case measure=>simp[intOf];have:=HK.out;omega
  have en:decide (i<j)=true:=Dt hlt;have ei:decide ((i:Int)<(j:Int))=true:=Dt (by omega)
  go_wp2_with fail;clear en ei;obtain⟨hh,hhe⟩:∃hh:Nat,hh=(i+j) / 2:=⟨_,rfl⟩
  have hd:((i:Int)+(j:Int)) / 2=(hh:Int):=by omega
  have hh1:i<=hh:=by omega
  have hh2:hh<j:=by omega
  have hhn:hh<n:=by omega
  have han:a<n:=by omega
  have hmn:m<n:=by omega
  rw[hd];clear hd hhe;have HR:=Lh HS.out.row;have hl:zs'.length=n:=HS.out.len HN.out;obtain⟨x,hx⟩:∃x,zs'[hh]?=some x:=⟨_,List.getElem?_eq_getElem (by omega)⟩
  obtain⟨y,hy⟩:∃y,zs'[a]?=some y:=⟨_,List.getElem?_eq_getElem (by omega)⟩
  clear hl;obtain⟨bv,hbv⟩:∃bv,bv=decide (cf x y<0):=⟨_,rfl⟩
  have HBV:=Lh hbv;clear hbv;refine Zx (by kernel_rfl) (by kernel_rfl) ?_
  iterate 3 refine PeV ?_
  refine PeV (v:=.pointer (some ⟨g,hh*7,none⟩)) ?_;refine PkV (.agg (Zn x)) (fun _=>rfl) (fun ρ wz hw=>Zo 130 _ rfl g (hh*7) rfl (lcs x) _ ((HR.out.below hw).range hx) underlying130 rfl (by rw[HZ.out];rfl)) ?_
  iterate 2 refine PeV ?_
  refine PeV (v:=.pointer (some ⟨g,a*7,none⟩)) ?_;refine PkV (.agg (Zn y)) (fun _=>rfl) (fun ρ wz hw=>Zo 130 _ rfl g (a*7) rfl (lcs y) _ ((HR.out.below hw).range hy) underlying130 rfl (by rw[HZ.out];rfl)) ?_
  refine PeC (fun wz hw=>H.at HS.out hw hx hy) ?_
  refine PkV (.bool bv) (fun _=>rfl) (fun ρ wz hw=>by rw[HBV.out];go_simp;try rfl) ?_
  intro ρ wq hF;dsimp only;replace HS:=Lh (HS.out.go hF.below);clear hF HR;clear HBV hx hy;cases bv
  ·go_wp2;go_roundw
   case rel=>exact⟨i,hh,zs',by omega,by omega,by omega,rfl,rfl,HS.out⟩
   case measure=>simp[intOf];omega
  ·go_wp2;go_roundw
   case rel=>exact⟨hh+1,j,zs',by omega,by omega,by omega,by go_num,rfl,HS.out⟩
   case measure=>simp[intOf];omega
theorem Zdr {w0 w:World} {g n c f:Nat} {caps:Array Value} {cf:Lot->Lot->Int} {xs ys:List Lot} (H:Np w0 g xs f caps cf) (h:SAt w0 g xs w ys) (hn:xs.length=n) (hn2:n<=100000) (a m b:Nat) (za zm zb:Int) (hza:za=(a:Int)) (hzm:zm=(m:Int)) (hzb:zb=(b:Int)) (ha:a<m) (hm:m<b) (hb:b<=n) (hma:m-a≠1) (hbm:b-m=1) :
  Calls prog 310 #[.slice (some ⟨g,0,none⟩) n c,Zi za,Zi zm,Zi zb,.func (.func f) #[] caps] w (Pn w0 g xs):=by
 have HS:=Lh h;have HN:=Lh hn;have hEn:=H.enter;have HZ:=Lh YS;subst hza hzm hzb;clear h hn;have hq:((m:Int)-(a:Int)==1)=false:=by rw[Bn];omega
 have hq2:((b:Int)-(m:Int)==1)=true:=by rw[beq_iff_eq];omega
 go_enter func310,ntmps310;go_wp2_with fail;clear hq hq2
 go_loopw [14,15,16] (fun iv jv _ wr=>∃(i j:Nat) (zs:List Lot),a<=i/\i<=j/\j<=m/\iv=Zi (i:Int)/\jv=Zi (j:Int)/\Hid (SAt w0 g xs wr zs)) (fun iv jv _ _=>(intOf jv).toNat-(intOf iv).toNat)
 case atStart=>exact⟨a,m,ys,by omega,by omega,by omega,(by first|rfl|go_num|(congr 1;omega)),(by first|rfl|go_num|(congr 1;omega)),HS.out⟩
 case round=>
  clear HS;obtain⟨i,j,zs',hi,hij,hjb,rfl,rfl,HS⟩:=hrel
  by_cases hlt:i<j
  rotate_left
  ·obtain rfl:i=j:=by omega
   have e1:decide (i<i)=false:=Df hlt;have e2:decide ((i:Int)<(i:Int))=false:=Df (by omega)
   go_wp2_with fail;clear e1 e2
   rename World=>wo
   go_loopw [17] (fun kv wr=>∃(k:Nat) (zs:List Lot),i<=k/\k<=m/\kv=Zi (k:Int)/\Hid (SAt w0 g xs wr zs)) (fun kv _=>(intOf kv).toNat)
   case atStart=>exact⟨m,zs',by omega,Nl _,rfl,HS.out⟩
   case round=>
    clear HS;obtain⟨k,zs',hak,hki,rfl,HS⟩:=hrel
    by_cases hk:i<k
    rotate_left
    ·have e1:decide ((i:Int)<(k:Int))=false:=Df (by omega)
     have e2:decide (i<k)=false:=Df hk;go_wp2
     go_end0
     exact⟨rfl,zs',HS.out⟩
    have e1:decide ((i:Int)<(k:Int))=true:=Dt (by omega)
    have e2:decide (i<k)=true:=Dt hk;obtain⟨k1,hk1⟩:∃k1,k=k1+1:=⟨k-1,by omega⟩
    have hkn:k<n:=by omega
    have hk1n:k1<n:=by omega
    have hw1:IntKind.i64.wrap ((k:Int)-1)=(k1:Int):=To (by omega) (by omega)
    have hl:zs'.length=n:=HS.out.len HN.out;obtain⟨x,hx⟩:∃x,zs'[k]?=some x:=⟨_,List.getElem?_eq_getElem (by omega)⟩
    obtain⟨y,hy⟩:∃y,zs'[k1]?=some y:=⟨_,List.getElem?_eq_getElem (by omega)⟩
    clear hl;have HK:=Lh hk1;clear hk1;go_wp2_with fail;clear e1 e2;obtain⟨cs,hcs,hrc⟩:=HS.out.row.cs;obtain⟨F,hF⟩:∃F:Fx,F=fun k=>if k=g then some (.cells cs 130 (0,0)) else none:=⟨_,rfl⟩
    have fF:F g=some (.cells cs 130 (0,0)):=by rw[hF];exact if_pos rfl
    have hFF:∀b ob,F b=some ob->wr.heap[b]?=some ob:=fun b ob h=>by
     rw[hF] at h;dsimp only at h
     by_cases hg:b=g
     ·rw[if_pos hg] at h;rw[hg,hcs];exact h
     ·rw[if_neg hg] at h;cases h
    have hFX:∀k,F k≠none->k=g:=fun k hk=>by
     rw[hF] at hk;dsimp only at hk
     by_cases hg:k=g
     ·exact hg
     ·rw[if_neg hg] at hk;exact absurd rfl hk
    obtain⟨tch,htch⟩:∃tch,tch=Nq g [9,13,15,17]:=⟨_,rfl⟩
    unfold Nq at htch;have HFF:=Lh hFF;have HFX:=Lh hFX;clear hF hcs hFF hFX;refine ZL tch F (by kernel_rfl) (by kernel_rfl) (by kernel_rfl) HFF.out ?_
    iterate 2
     refine PfV _ rfl (fun wz hw=>by go_simp;try rfl) ?_
     refine PfV _ rfl (fun wz hw=>by go_simp;try rfl) ?_
    refine PfV (Zi (k1:Int)) rfl (fun wz hw=>by go_simp;try rfl) ?_
    iterate 2 refine PfV _ rfl (fun wz hw=>by go_simp;try rfl) ?_
    refine PfV (Zi (k1:Int)) rfl (fun wz hw=>by go_simp;try rfl) ?_
    refine PfV (.pointer (some ⟨g,k1*7,none⟩)) rfl (fun wz hw=>by go_simp;try rfl) ?_
    refine Z9 g cs 130 (.agg (Zn y)) fF (by simp[htch]) rfl (fun wz hw hc=>Zo 130 _ rfl g (k1*7) rfl (lcs y) _ (YL hrc hc hy) underlying130 rfl (by rw[HZ.out];rfl)) ?_
    simp only[Act.put,StT,StZ,StS,Nat.reduceAdd]
    iterate 2 refine PfV _ rfl (fun wz hw=>by go_simp;try rfl) ?_
    refine PfV (.pointer (some ⟨g,k*7,none⟩)) rfl (fun wz hw=>by go_simp;try rfl) ?_
    refine Z9 g cs 130 (.agg (Zn x)) fF (by simp[htch]) rfl (fun wz hw hc=>Zo 130 _ rfl g (k*7) rfl (lcs x) _ (YL hrc hc hx) underlying130 rfl (by rw[HZ.out];rfl)) ?_
    simp only[Act.put,StT,StZ,StS,Nat.reduceAdd];refine PfV (.pointer (some ⟨g,k*7,none⟩)) rfl (fun wz hw=>by go_simp;try rfl) ?_
    refine Z6 g (k*7) cs (lcs y) 130 fF (by simp[htch]) (fun j oj hj=>ZC (l:=[9,13,15,17]) (by kernel_rfl) j oj (by simpa [htch] using hj)) rfl (fun wz hw hc hf=>ZB 130 _ _ rfl g (k*7) (Zn y) rfl rfl (YM hrc hc hf (YG hx)) (by rw[HZ.out];rfl) (Xj y)) ?_
    simp only[Act.put,Nat.reduceAdd];refine PfV (.pointer (some ⟨g,k1*7,none⟩)) rfl (fun wz hw=>by go_simp;try rfl) ?_
    have fF2:(fun kb=>if kb=g then some (Obj.cells (Yp cs (k*7) (lcs y)) 130 (0,0)) else F kb) g=some (.cells (Yp cs (k*7) (lcs y)) 130 (0,0)):=if_pos rfl
    refine Z6 g (k1*7) (Yp cs (k*7) (lcs y)) (lcs x) 130 fF2 (by simp[htch]) (fun j oj hj=>ZC (l:=[9,13,15,17]) (by kernel_rfl) j oj (by simpa [htch] using hj)) rfl (fun wz hw hc hf=>ZB 130 _ _ rfl g (k1*7) (Zn x) rfl rfl (YM (hrc.set y (YG hx)) hc hf (by rw[List.length_set];exact YG hy)) (by rw[HZ.out];rfl) (Xj x)) ?_
    simp only[Act.put,Nat.reduceAdd];refine YB (fun w2 hF2=>?_)
    have hSw:=Lh (HS.out.swap (W':=w2) hrc hx hy (hF2.box g _ (if_pos rfl)) (hF2.swapX HFX.out));clear hF2 HFF HFX htch fF fF2 hrc HS;go_wp2;go_roundw
    case rel=>exact⟨k1,_,by have:=HK.out;omega,by have:=HK.out;omega,(by first|rfl|go_num),hSw.out⟩
    case measure=>simp[intOf];have:=HK.out;omega
  have en:decide (i<j)=true:=Dt hlt;have ei:decide ((i:Int)<(j:Int))=true:=Dt (by omega)
  go_wp2_with fail;clear en ei;obtain⟨hh,hhe⟩:∃hh:Nat,hh=(i+j) / 2:=⟨_,rfl⟩
  have hd:((i:Int)+(j:Int)) / 2=(hh:Int):=by omega
  have hh1:i<=hh:=by omega
  have hh2:hh<j:=by omega
  have hhn:hh<n:=by omega
  have han:a<n:=by omega
  have hmn:m<n:=by omega
  rw[hd];clear hd hhe;have HR:=Lh HS.out.row;have hl:zs'.length=n:=HS.out.len HN.out;obtain⟨x,hx⟩:∃x,zs'[m]?=some x:=⟨_,List.getElem?_eq_getElem (by omega)⟩
  obtain⟨y,hy⟩:∃y,zs'[hh]?=some y:=⟨_,List.getElem?_eq_getElem (by omega)⟩
  clear hl;obtain⟨bv,hbv⟩:∃bv,bv = !decide (cf x y<0):=⟨_,rfl⟩
  have HBV:=Lh hbv;clear hbv;refine Zx (by kernel_rfl) (by kernel_rfl) ?_
  iterate 3 refine PeV ?_
  refine PeV (v:=.pointer (some ⟨g,m*7,none⟩)) ?_;refine PkV (.agg (Zn x)) (fun _=>rfl) (fun ρ wz hw=>Zo 130 _ rfl g (m*7) rfl (lcs x) _ ((HR.out.below hw).range hx) underlying130 rfl (by rw[HZ.out];rfl)) ?_
  iterate 2 refine PeV ?_
  refine PeV (v:=.pointer (some ⟨g,hh*7,none⟩)) ?_;refine PkV (.agg (Zn y)) (fun _=>rfl) (fun ρ wz hw=>Zo 130 _ rfl g (hh*7) rfl (lcs y) _ ((HR.out.below hw).range hy) underlying130 rfl (by rw[HZ.out];rfl)) ?_
  refine PeC (fun wz hw=>H.at HS.out hw hx hy) ?_
  refine PeV ?_;refine PkV (.bool bv) (fun _=>rfl) (fun ρ wz hw=>by rw[HBV.out];go_simp;try rfl) ?_
  intro ρ wq hF;dsimp only;replace HS:=Lh (HS.out.go hF.below);clear hF HR;clear HBV hx hy;cases bv
  ·go_wp2;go_roundw
   case rel=>exact⟨i,hh,zs',by omega,by omega,by omega,rfl,rfl,HS.out⟩
   case measure=>simp[intOf];omega
  ·go_wp2;go_roundw
   case rel=>exact⟨hh+1,j,zs',by omega,by omega,by omega,by go_num,rfl,HS.out⟩
   case measure=>simp[intOf];omega
theorem Zds {w0 w:World} {g n c f:Nat} {caps:Array Value} {cf:Lot->Lot->Int} {xs ys:List Lot} (H:Np w0 g xs f caps cf) (h:SAt w0 g xs w ys) (hn:xs.length=n) (hn2:n<=100000) (a m b:Nat) (za zm zb:Int) (hza:za=(a:Int)) (hzm:zm=(m:Int)) (hzb:zb=(b:Int)) (ha:a<m) (hm:m<b) (hb:b<=n) (hma:m-a≠1) (hbm:b-m≠1) (HI:∀(w':World) (ys':List Lot) (a' m' b':Nat) (za' zm' zb':Int),za'=(a':Int)->zm'=(m':Int)->zb'=(b':Int)->b'-a'<b-a->SAt w0 g xs w' ys'->a'<m'->m'<b'->b'<=n->Calls prog 310 #[.slice (some ⟨g,0,none⟩) n c,Zi za',Zi zm',Zi zb',.func (.func f) #[] caps] w' (Pn w0 g xs)) :
  Calls prog 310 #[.slice (some ⟨g,0,none⟩) n c,Zi za,Zi zm,Zi zb,.func (.func f) #[] caps] w (Pn w0 g xs):=by
 have HS:=Lh h;have HN:=Lh hn;have hEn:=H.enter;have HZ:=Lh YS;subst hza hzm hzb;clear h hn;have IH:=Lh HI;have hq:((m:Int)-(a:Int)==1)=false:=by rw[Bn];omega
 have hq2:((b:Int)-(m:Int)==1)=false:=by rw[Bn];omega
 clear HI;go_enter func310,ntmps310
 go_upto_region 25 with fail
 clear hq hq2;obtain⟨md,hmd⟩:∃md:Nat,md=(a+b) / 2:=⟨_,rfl⟩
 have hd:((a:Int)+(b:Int)) / 2=(md:Int):=by omega
 have hmd1:2*md<=a+b:=by omega
 have hmd2:a+b<=2*md+1:=by omega
 rw[hd];clear hd hmd
 go_upto_if 140 with fail
 go_cut [20,21] from 141 to 146 (fun s20 s21 wx=>(∃lo hi:Nat,s20=Zi (lo:Int)/\s21=Zi (hi:Int)/\a<=lo/\lo<=hi/\hi<=m/\hi<=md/\md+m<=lo+b/\(hi+lo+b<=md+md+m∨lo+hi<=a+m))/\wx=w)
 case first=>
  by_cases hc:md<m
  ·have e1:decide (md<m)=true:=Dt hc;have e2:decide ((md:Int)<(m:Int))=true:=Dt (by omega)
   go_wp2_with fail
   go_meet
   exact⟨⟨md+m-b,md,(by congr 1;omega),rfl,by omega,by omega,by omega,by omega,by omega,by omega⟩,rfl⟩
  ·have e1:decide (md<m)=false:=Df hc;have e2:decide ((md:Int)<(m:Int))=false:=Df (by omega)
   go_wp2_with fail
   go_meet
   exact⟨⟨a,m,rfl,rfl,by omega,by omega,by omega,by omega,by omega,by omega⟩,rfl⟩
 case rest=>
  obtain⟨⟨lo,hi,rfl,rfl,l1,l2,l3,l4,l5,l6⟩,rfl⟩:=hcut
  go_upto_block 8 with fail
  go_cut [20,21,23] from 149 to 174 (fun s20 _ _ wx=>∃(i:Nat) (zs:List Lot),s20=Zi (i:Int)/\lo<=i/\i<=hi/\SAt w0 g xs wx zs)
  case first=>
   go_wp2_with fail
   go_loopw [20,21,23] (fun iv jv _ wr=>∃(i j:Nat) (zs:List Lot),lo<=i/\i<=j/\j<=hi/\iv=Zi (i:Int)/\jv=Zi (j:Int)/\Hid (SAt w0 g xs wr zs)) (fun iv jv _ _=>(intOf jv).toNat-(intOf iv).toNat)
   case atStart=>exact⟨lo,hi,ys,by omega,by omega,by omega,(by first|rfl|go_num|(congr 1;omega)),(by first|rfl|go_num|(congr 1;omega)),HS.out⟩
   case round=>
    clear HS;obtain⟨i,j,zs',hi,hij,hjb,rfl,rfl,HS⟩:=hrel
    by_cases hlt:i<j
    rotate_left
    ·obtain rfl:i=j:=by omega
     have e1:decide (i<i)=false:=Df hlt;have e2:decide ((i:Int)<(i:Int))=false:=Df (by omega)
     go_wp2_with fail
     go_meet
     exact⟨i,zs',rfl,hi,hjb,HS.out⟩
    have en:decide (i<j)=true:=Dt hlt;have ei:decide ((i:Int)<(j:Int))=true:=Dt (by omega)
    go_wp2_with fail;clear en ei;obtain⟨hh,hhe⟩:∃hh:Nat,hh=(i+j) / 2:=⟨_,rfl⟩
    have hd:((i:Int)+(j:Int)) / 2=(hh:Int):=by omega
    have hh1:i<=hh:=by omega
    have hh2:hh<j:=by omega
    have hhn:hh<n:=by omega
    have han:a<n:=by omega
    have hmn:m<n:=by omega
    rw[hd];clear hd hhe;have HR:=Lh HS.out.row;obtain⟨pc,hpc⟩:∃pc:Nat,(pc:Int)=(md:Int)+(m:Int)-1-(hh:Int):=⟨md+m-1-hh,by omega⟩
    have hw1:IntKind.i64.wrap ((md:Int)+(m:Int)-1-(hh:Int))=(pc:Int):=To (by omega) (by omega)
    have hpn:pc<n:=by omega
    clear hpc;have hl:zs'.length=n:=HS.out.len HN.out;obtain⟨x,hx⟩:∃x,zs'[pc]?=some x:=⟨_,List.getElem?_eq_getElem (by omega)⟩
    obtain⟨y,hy⟩:∃y,zs'[hh]?=some y:=⟨_,List.getElem?_eq_getElem (by omega)⟩
    clear hl;obtain⟨bv,hbv⟩:∃bv,bv = !decide (cf x y<0):=⟨_,rfl⟩
    have HBV:=Lh hbv;clear hbv;refine Zx (by kernel_rfl) (by kernel_rfl) ?_
    iterate 2
     refine PeV ?_;refine PeV ?_
    refine PeV (v:=Zi (pc:Int)) ?_;refine PeV (v:=.pointer (some ⟨g,pc*7,none⟩)) ?_;refine PkV (.agg (Zn x)) (fun _=>rfl) (fun ρ wz hw=>Zo 130 _ rfl g (pc*7) rfl (lcs x) _ ((HR.out.below hw).range hx) underlying130 rfl (by rw[HZ.out];rfl)) ?_
    iterate 2 refine PeV ?_
    refine PeV (v:=.pointer (some ⟨g,hh*7,none⟩)) ?_;refine PkV (.agg (Zn y)) (fun _=>rfl) (fun ρ wz hw=>Zo 130 _ rfl g (hh*7) rfl (lcs y) _ ((HR.out.below hw).range hy) underlying130 rfl (by rw[HZ.out];rfl)) ?_
    refine PeC (fun wz hw=>H.at HS.out hw hx hy) ?_
    refine PeV ?_;refine PkV (.bool bv) (fun _=>rfl) (fun ρ wz hw=>by rw[HBV.out];go_simp;try rfl) ?_
    intro ρ wq hF;dsimp only;replace HS:=Lh (HS.out.go hF.below);clear hF HR;clear HBV hx hy;cases bv
    ·go_wp2;go_roundw
     case rel=>exact⟨i,hh,zs',by omega,by omega,by omega,rfl,rfl,HS.out⟩
     case measure=>simp[intOf];omega
    ·go_wp2;go_roundw
     case rel=>exact⟨hh+1,j,zs',by omega,by omega,by omega,by go_num,rfl,HS.out⟩
     case measure=>simp[intOf];omega
  case rest=>
   clear HS;obtain⟨i,zs',rfl,hi1,hjb,hs⟩:=hcut;have HS:=Lh hs;clear hs
   go_upto_region 39 with fail
   obtain⟨en,hen⟩:∃en:Nat,(en:Int)=(md:Int)+(m:Int)-(i:Int):=⟨md+m-i,by omega⟩
   rw[<-hen];have he1:en+i<=md+m:=by omega
   have he2:md+m<=en+i:=by omega
   clear hen
   rename World=>wk1
   go_cut [185] from 178 to 185 (fun s wx=>(∃bv:Bool,s=.bool bv/\(bv=true->i<m/\m<en))/\wx=wk1)
   case first=>
    by_cases c1:i<m
    ·have d1:decide (i<m)=true:=Dt c1;have d2:decide ((i:Int)<(m:Int))=true:=Dt (by omega)
     by_cases c2:m<en
     ·have d3:decide (m<en)=true:=Dt c2;have d4:decide ((m:Int)<(en:Int))=true:=Dt (by omega)
      go_wp2_with fail
      go_meet
      exact⟨⟨true,rfl,fun _=>⟨c1,c2⟩⟩,rfl⟩
     ·have d3:decide (m<en)=false:=Df c2;have d4:decide ((m:Int)<(en:Int))=false:=Df (by omega)
      go_wp2_with fail
      go_meet
      exact⟨⟨false,rfl,fun h=>(by cases h)⟩,rfl⟩
    ·have d1:decide (i<m)=false:=Df c1;have d2:decide ((i:Int)<(m:Int))=false:=Df (by omega)
     go_wp2_with fail
     go_meet
     exact⟨⟨false,rfl,fun h=>(by cases h)⟩,rfl⟩
   case rest=>
    obtain⟨⟨bv,rfl,hbv⟩,rfl⟩:=hcut;have HBV:=Lh hbv;clear hbv
    go_upto_if 185 with fail
    go_cut [191] from 178 to 191 (fun _ wx=>∃zs,SAt w0 g xs wx zs)
    case first=>
     cases bv
     ·go_wp2_with fail
      go_meet
      exact⟨zs',HS.out⟩
     ·obtain⟨c1,c2⟩:=HBV.out rfl;go_wp2_with fail;refine (Zdp HS.out HN.out hn2 i m en _ _ _ rfl rfl rfl (by omega) (by omega) (by omega)).mono ?_
      rintro e w2 ⟨rfl,zk,hs⟩;have HS2:=Lh hs;clear hs;go_wp2_with fail
      go_meet
      exact⟨zk,HS2.out⟩
    case rest=>
     clear HS HBV;obtain⟨zs',hs⟩:=hcut;have HS:=Lh hs;clear hs
     go_upto_region 41 with fail
     rename World=>wk2
     go_cut [199] from 192 to 199 (fun s wx=>(∃bv:Bool,s=.bool bv/\(bv=true->a<i/\i<md))/\wx=wk2)
     case first=>
      by_cases c1:a<i
      ·have d1:decide (a<i)=true:=Dt c1;have d2:decide ((a:Int)<(i:Int))=true:=Dt (by omega)
       by_cases c2:i<md
       ·have d3:decide (i<md)=true:=Dt c2;have d4:decide ((i:Int)<(md:Int))=true:=Dt (by omega)
        go_wp2_with fail
        go_meet
        exact⟨⟨true,rfl,fun _=>⟨c1,c2⟩⟩,rfl⟩
       ·have d3:decide (i<md)=false:=Df c2;have d4:decide ((i:Int)<(md:Int))=false:=Df (by omega)
        go_wp2_with fail
        go_meet
        exact⟨⟨false,rfl,fun h=>(by cases h)⟩,rfl⟩
      ·have d1:decide (a<i)=false:=Df c1;have d2:decide ((a:Int)<(i:Int))=false:=Df (by omega)
       go_wp2_with fail
       go_meet
       exact⟨⟨false,rfl,fun h=>(by cases h)⟩,rfl⟩
     case rest=>
      obtain⟨⟨bv,rfl,hbv⟩,rfl⟩:=hcut;have HBV:=Lh hbv;clear hbv
      go_upto_if 199 with fail
      go_cut [205] from 192 to 205 (fun _ wx=>∃zs,SAt w0 g xs wx zs)
      case first=>
       cases bv
       ·go_wp2_with fail
        go_meet
        exact⟨zs',HS.out⟩
       ·obtain⟨c1,c2⟩:=HBV.out rfl;go_wp2_with fail;refine (IH.out _ _ a i md _ _ _ rfl rfl rfl (by omega) HS.out (by omega) (by omega) (by omega)).mono ?_
        rintro e w2 ⟨rfl,zk,hs⟩;have HS2:=Lh hs;clear hs;go_wp2_with fail
        go_meet
        exact⟨zk,HS2.out⟩
      case rest=>
       clear HS HBV;obtain⟨zs',hs⟩:=hcut;have HS:=Lh hs;clear hs
       go_upto_region 43 with fail
       rename World=>wk3
       go_cut [213] from 206 to 213 (fun s wx=>(∃bv:Bool,s=.bool bv/\(bv=true->md<en/\en<b))/\wx=wk3)
       case first=>
        by_cases c1:md<en
        ·have d1:decide (md<en)=true:=Dt c1;have d2:decide ((md:Int)<(en:Int))=true:=Dt (by omega)
         by_cases c2:en<b
         ·have d3:decide (en<b)=true:=Dt c2;have d4:decide ((en:Int)<(b:Int))=true:=Dt (by omega)
          go_wp2_with fail
          go_meet
          exact⟨⟨true,rfl,fun _=>⟨c1,c2⟩⟩,rfl⟩
         ·have d3:decide (en<b)=false:=Df c2;have d4:decide ((en:Int)<(b:Int))=false:=Df (by omega)
          go_wp2_with fail
          go_meet
          exact⟨⟨false,rfl,fun h=>(by cases h)⟩,rfl⟩
        ·have d1:decide (md<en)=false:=Df c1;have d2:decide ((md:Int)<(en:Int))=false:=Df (by omega)
         go_wp2_with fail
         go_meet
         exact⟨⟨false,rfl,fun h=>(by cases h)⟩,rfl⟩
       case rest=>
        obtain⟨⟨bv,rfl,hbv⟩,rfl⟩:=hcut;have HBV:=Lh hbv;clear hbv;cases bv
        ·go_wp2_with fail
         go_end0
         exact⟨rfl,zs',HS.out⟩
        ·obtain⟨c1,c2⟩:=HBV.out rfl;go_wp2_with fail;refine (IH.out _ _ md en b _ _ _ rfl rfl rfl (by omega) HS.out (by omega) (by omega) (by omega)).mono ?_
         rintro e w2 ⟨rfl,zk,hs⟩;have HS2:=Lh hs;clear hs;go_wp2_with fail
         go_end0
         exact⟨rfl,zk,HS2.out⟩
theorem ZbS {w0:World} {g n c f:Nat} {caps:Array Value} {cf:Lot->Lot->Int} {xs:List Lot} (H:Np w0 g xs f caps cf) (hn:xs.length=n) (hn2:n<=100000):∀(N:Nat) (w:World) (ys:List Lot) (a m b:Nat) (za zm zb:Int),b-a<=N->za=(a:Int)->zm=(m:Int)->zb=(b:Int)->SAt w0 g xs w ys->a<m->m<b->b<=n->
  Calls prog 310 #[.slice (some ⟨g,0,none⟩) n c,Zi za,Zi zm,Zi zb,.func (.func f) #[] caps] w (Pn w0 g xs)
 | 0,_,_,_,_,_,_,_,_,hN,_,_,_,_,ha,hm,_=>by omega
 | N+1,w,ys,a,m,b,za,zm,zb,hN,hza,hzm,hzb,hs,ha,hm,hb=>by
  by_cases h1:m-a=1
  ·exact Zdq H hs hn hn2 a m b za zm zb hza hzm hzb ha hm hb h1
  by_cases h2:b-m=1
  ·exact Zdr H hs hn hn2 a m b za zm zb hza hzm hzb ha hm hb h1 h2
  exact Zds H hs hn hn2 a m b za zm zb hza hzm hzb ha hm hb h1 h2 (fun w' ys' a' m' b' za' zm' zb' e1 e2 e3 hlt hs' ha' hm' hb'=>ZbS H hn hn2 N w' ys' a' m' b' za' zm' zb' (by omega) e1 e2 e3 hs' ha' hm' hb')
def Za4 (w0:World) (g:Nat) (xs ys:List Lot) (n:Nat) (cf:Lot->Lot->Int) (e:Ending) (w':World):Prop:=e=.returned (.tuple #[])/\∃zs,SAt w0 g xs w' zs/\(n<=20->SS cf ys->zs=ys)
theorem Zdt {w0 w:World} {g n c f:Nat} {caps:Array Value} {cf:Lot->Lot->Int} {xs ys:List Lot} (H:Np w0 g xs f caps cf) (h:SAt w0 g xs w ys) (hn:xs.length=n) (hn2:n<=100000) :
  Calls prog 275 #[.slice (some ⟨g,0,none⟩) n c,Zi (n:Int),.func (.func f) #[] caps] w (Za4 w0 g xs ys n cf):=by
 have HS:=Lh h;have HN:=Lh hn;have HH:=Lh H;clear h hn H;go_enter func275,ntmps275;go_wp2_with fail
 go_loopw [7,8] (fun av bv wr=>∃(a b:Nat) (zs:List Lot),a<=n/\b=a+20/\av=Zi (a:Int)/\bv=Zi (b:Int)/\Hid (SAt w0 g xs wr zs)/\Hid (SS cf ys->zs=ys)) (fun av _ _=>n-(intOf av).toNat)
 case atStart=>exact⟨0,20,ys,Nat.zero_le _,rfl,rfl,rfl,HS.out,fun _=>rfl⟩
 case round=>
  clear HS;obtain⟨a,b,zs,han,hba,rfl,rfl,HS,HO⟩:=hrel;have HBA:=Lh hba;have hab:a<=b:=by omega
  have hab2:a<b:=by omega
  have hbb:b<=100020:=by omega
  clear hba
  by_cases hbn:b<=n
  ·have e1:decide (b<=n)=true:=Dt hbn;have e2:decide ((b:Int)<=(n:Int))=true:=Dt (by omega)
   go_wp2_with fail;refine (ZcC HH.out HS.out HN.out hn2 a b hab hbn).mono ?_;rintro e w2 ⟨rfl,zs2,hs2,ho2⟩;have HS2:=Lh hs2;have HO2:Hid (SS cf ys->zs2=ys):=fun ho=>by
    have e:=HO.out ho;rw[e] at ho2;exact ho2 ho
   clear hs2 ho2 HS HO e1 e2;go_wp2;go_roundw
   case rel=>exact⟨b,b+20,zs2,hbn,rfl,rfl,by go_num,HS2.out,HO2.out⟩
   case measure=>simp[intOf];omega
  have e1:decide (b<=n)=false:=Df hbn;have e2:decide ((b:Int)<=(n:Int))=false:=Df (by omega)
  go_wp2_with fail;refine (ZcC HH.out HS.out HN.out hn2 a n han (Nl _)).mono ?_;rintro e w2 ⟨rfl,zs2,hs2,ho2⟩;have HS2:=Lh hs2;have HO2:Hid (SS cf ys->zs2=ys):=fun ho=>by
   have e:=HO.out ho;rw[e] at ho2;exact ho2 ho
  clear hs2 ho2 HS HO e1 e2 HBA hab hab2 hbb hbn han;go_wp2_with fail
  rename World=>wo
  go_loopw [6,7,8,9] (fun sv _ _ _ wr=>∃(s:Nat) (zs:List Lot),20<=s/\s<=400000/\sv=Zi (s:Int)/\Hid (SAt w0 g xs wr zs)/\Hid (n<=20->SS cf ys->zs=ys)) (fun sv _ _ _ _=>n-(intOf sv).toNat)
  case atStart=>exact⟨20,zs2,Nl _,by omega,rfl,HS2.out,fun _=>HO2.out⟩
  case round=>
   clear HS2 HO2;obtain⟨s,zs,hs20,hs4,rfl,HS,HO⟩:=hrel
   by_cases hsn:s<n
   rotate_left
   ·have e1:decide (s<n)=false:=Df hsn;have e2:decide ((s:Int)<(n:Int))=false:=Df (by omega)
    go_wp2
    go_end0
    exact⟨rfl,zs,HS.out,HO.out⟩
   have e1:decide (s<n)=true:=Dt hsn;have e2:decide ((s:Int)<(n:Int))=true:=Dt (by omega)
   have hn20:20<n:=by omega
   go_wp2_with fail;clear e1 e2 HO
   rename World=>wp
   go_loopw [7,8] (fun av bv wr=>∃(a b:Nat) (zs:List Lot),a<=n/\b=a+2*s/\av=Zi (a:Int)/\bv=Zi (b:Int)/\Hid (SAt w0 g xs wr zs)) (fun av _ _=>n-(intOf av).toNat)
   case atStart=>exact⟨0,2*s,zs,Nat.zero_le _,by omega,rfl,(by first|rfl|go_num),HS.out⟩
   case round=>
    clear HS;obtain⟨a,b,zs',han,hba,rfl,rfl,HS⟩:=hrel;have hab1:a+2*s<=b:=by omega
    have hab2:b<=a+2*s:=by omega
    clear hba
    by_cases hbn:b<=n
    ·have e1:decide (b<=n)=true:=Dt hbn;have e2:decide ((b:Int)<=(n:Int))=true:=Dt (by omega)
     go_wp2_with fail;refine (ZbS HH.out HN.out hn2 (b-a) _ zs' a (a+s) b _ _ _ (Nl _) rfl (by omega) rfl HS.out (by omega) (by omega) hbn).mono ?_
     rintro e w2 ⟨rfl,zs2,hs2⟩;have HS2:=Lh hs2;clear hs2 HS e1 e2;go_wp2;go_roundw
     case rel=>exact⟨b,b+2*s,zs2,hbn,rfl,rfl,(by first|rfl|go_num|(congr 1;omega)),HS2.out⟩
     case measure=>simp[intOf];omega
    have e1:decide (b<=n)=false:=Df hbn;have e2:decide ((b:Int)<=(n:Int))=false:=Df (by omega)
    by_cases hms:a+s<n
    ·have e3:decide (a+s<n)=true:=Dt hms;have e4:decide ((a:Int)+(s:Int)<(n:Int))=true:=Dt (by omega)
     go_wp2_with fail;refine (ZbS HH.out HN.out hn2 (n-a) _ zs' a (a+s) n _ _ _ (Nl _) rfl (by omega) rfl HS.out (by omega) (by omega) (Nl _)).mono ?_
     rintro e w2 ⟨rfl,zs2,hs2⟩;have HS2:=Lh hs2;clear hs2 HS e1 e2 e3 e4;go_wp2;go_roundw
     case rel=>exact⟨s*2,zs2,by omega,by omega,(by first|rfl|go_num|(congr 1;omega)),HS2.out,fun h=>by omega⟩
     case measure=>simp[intOf];omega
    ·have e3:decide (a+s<n)=false:=Df hms;have e4:decide ((a:Int)+(s:Int)<(n:Int))=false:=Df (by omega)
     go_wp2;go_roundw
     case rel=>exact⟨s*2,zs',by omega,by omega,(by first|rfl|go_num|(congr 1;omega)),HS.out,fun h=>by omega⟩
     case measure=>simp[intOf];omega
theorem Zan {w:World} {g n c f:Nat} {caps:Array Value} {cf:Lot->Lot->Int} {xs:List Lot} (H:Np w g xs f caps cf) (h:YK w g xs) (hn:xs.length=n) (hn2:n<=100000) :
  Calls prog 211 #[.slice (some ⟨g,0,none⟩) n c,.func (.func f) #[] caps] w (Za4 w g xs xs n cf):=by
 have C1:=Lh (Zdt (c:=c) H ⟨h,List.Perm.refl _,Zz.refl _ _⟩ hn hn2);clear H h hn;go_enter func211,ntmps211;go_wp2_with fail;refine C1.out.mono ?_;rintro e w2 ⟨rfl,zs,hs,ho⟩;have HS:=Lh hs;have HO:=Lh ho;clear hs ho C1;go_wp2
 go_end0
 exact⟨rfl,zs,HS.out,HO.out⟩
theorem Zdu {w0 w:World} {g n c:Nat} {xs ys:List Lot} (h:SAt w0 g xs w ys) (hn:xs.length=n) (h0:1<=n) (hn2:n<=100000) :
  Calls prog 212 #[.slice (some ⟨g,0,none⟩) n c] w (Pn w0 g xs):=by
 have HS:=Lh h;have HN:=Lh hn;have HZ:=Lh YS;clear h hn;go_enter func212,ntmps212;go_wp2_with fail
 go_loopw [2,3] (fun iv jv wr=>∃(i j:Nat) (zs:List Lot),j<n/\i<=j+1/\iv=Zi (i:Int)/\jv=Zi (j:Int)/\Hid (SAt w0 g xs wr zs)) (fun _ jv _=>(intOf jv).toNat)
 case atStart=>exact⟨0,n-1,ys,by omega,Nat.zero_le _,rfl,(by congr 1;omega),HS.out⟩
 case round=>
  clear HS;obtain⟨i,j,zs',hjn,hij,rfl,rfl,HS⟩:=hrel
  by_cases hlt:i<j
  rotate_left
  ·have e1:decide (i<j)=false:=Df hlt;have e2:decide ((i:Int)<(j:Int))=false:=Df (by omega)
   go_wp2
   go_end0
   exact⟨rfl,zs',HS.out⟩
  have e1:decide (i<j)=true:=Dt hlt;have e2:decide ((i:Int)<(j:Int))=true:=Dt (by omega)
  have hin:i<n:=by omega
  have hl:zs'.length=n:=HS.out.len HN.out;obtain⟨x,hx⟩:∃x,zs'[i]?=some x:=⟨_,List.getElem?_eq_getElem (by omega)⟩
  obtain⟨y,hy⟩:∃y,zs'[j]?=some y:=⟨_,List.getElem?_eq_getElem (by omega)⟩
  clear hl;go_wp2_with fail;clear e1 e2;obtain⟨cs,hcs,hrc⟩:=HS.out.row.cs;obtain⟨F,hF⟩:∃F:Fx,F=fun k=>if k=g then some (.cells cs 130 (0,0)) else none:=⟨_,rfl⟩
  have fF:F g=some (.cells cs 130 (0,0)):=by rw[hF];exact if_pos rfl
  have hFF:∀b ob,F b=some ob->wr.heap[b]?=some ob:=fun b ob h=>by
   rw[hF] at h;dsimp only at h
   by_cases hg:b=g
   ·rw[if_pos hg] at h;rw[hg,hcs];exact h
   ·rw[if_neg hg] at h;cases h
  have hFX:∀k,F k≠none->k=g:=fun k hk=>by
   rw[hF] at hk;dsimp only at hk
   by_cases hg:k=g
   ·exact hg
   ·rw[if_neg hg] at hk;exact absurd rfl hk
  obtain⟨tch,htch⟩:∃tch,tch=Nq g [7,11,13,15]:=⟨_,rfl⟩
  unfold Nq at htch;have HFF:=Lh hFF;have HFX:=Lh hFX;clear hF hcs hFF hFX;refine ZL tch F (by kernel_rfl) (by kernel_rfl) (by kernel_rfl) HFF.out ?_
  iterate 3
   refine PfV _ rfl (fun wz hw=>by go_simp;try rfl) ?_
   refine PfV _ rfl (fun wz hw=>by go_simp;try rfl) ?_
  refine PfV (.pointer (some ⟨g,j*7,none⟩)) rfl (fun wz hw=>by go_simp;try rfl) ?_
  refine Z9 g cs 130 (.agg (Zn y)) fF (by simp[htch]) rfl (fun wz hw hc=>Zo 130 _ rfl g (j*7) rfl (lcs y) _ (YL hrc hc hy) underlying130 rfl (by rw[HZ.out];rfl)) ?_
  simp only[Act.put,StT,StZ,StS,Nat.reduceAdd]
  iterate 2 refine PfV _ rfl (fun wz hw=>by go_simp;try rfl) ?_
  refine PfV (.pointer (some ⟨g,i*7,none⟩)) rfl (fun wz hw=>by go_simp;try rfl) ?_
  refine Z9 g cs 130 (.agg (Zn x)) fF (by simp[htch]) rfl (fun wz hw hc=>Zo 130 _ rfl g (i*7) rfl (lcs x) _ (YL hrc hc hx) underlying130 rfl (by rw[HZ.out];rfl)) ?_
  simp only[Act.put,StT,StZ,StS,Nat.reduceAdd];refine PfV (.pointer (some ⟨g,i*7,none⟩)) rfl (fun wz hw=>by go_simp;try rfl) ?_
  refine Z6 g (i*7) cs (lcs y) 130 fF (by simp[htch]) (fun j oj hj=>ZC (l:=[7,11,13,15]) (by kernel_rfl) j oj (by simpa [htch] using hj)) rfl (fun wz hw hc hf=>ZB 130 _ _ rfl g (i*7) (Zn y) rfl rfl (YM hrc hc hf (YG hx)) (by rw[HZ.out];rfl) (Xj y)) ?_
  simp only[Act.put,Nat.reduceAdd];refine PfV (.pointer (some ⟨g,j*7,none⟩)) rfl (fun wz hw=>by go_simp;try rfl) ?_
  have fF2:(fun kb=>if kb=g then some (Obj.cells (Yp cs (i*7) (lcs y)) 130 (0,0)) else F kb) g=some (.cells (Yp cs (i*7) (lcs y)) 130 (0,0)):=if_pos rfl
  refine Z6 g (j*7) (Yp cs (i*7) (lcs y)) (lcs x) 130 fF2 (by simp[htch]) (fun j oj hj=>ZC (l:=[7,11,13,15]) (by kernel_rfl) j oj (by simpa [htch] using hj)) rfl (fun wz hw hc hf=>ZB 130 _ _ rfl g (j*7) (Zn x) rfl rfl (YM (hrc.set y (YG hx)) hc hf (by rw[List.length_set];exact YG hy)) (by rw[HZ.out];rfl) (Xj x)) ?_
  simp only[Act.put,Nat.reduceAdd];refine YB (fun w2 hF2=>?_)
  have hSw:=Lh (HS.out.swap (W':=w2) hrc hx hy (hF2.box g _ (if_pos rfl)) (hF2.swapX HFX.out));clear hF2 HFF HFX htch fF fF2 hrc HS;go_wp2;go_roundw
  case rel=>exact⟨i+1,j-1,_,by omega,by omega,by go_num,(by first|rfl|go_num|(congr 1;omega)),hSw.out⟩
  case measure=>simp[intOf];omega
end Go.Proofs.YtpieeldbamklkaaGreatDoor
