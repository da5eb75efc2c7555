/- Texts put together: Tf Oa Ob Sa Od Dp Da Oe Of Og Bx Bt. -/
import Derived.Test.YtpieeldbamklkaaGreatDoorV1
import Derived.Test.YtpieeldbamklkaaGreatDoorVBe
import Derived.MapKept
import Derived.Maps.OwnOps
import Derived.Shelf.Strings.Cut
import Derived.Shelf.Strings.Prefix
import Derived.Shelf.Strconv.AtoiAll
set_option maxHeartbeats 4000000
set_option maxRecDepth 100000
open Go.Proofs.Tryz
namespace Go.Proofs.YtpieeldbamklkaaGreatDoor
open Go.RowKit Num
section
variable {P:Program} {ops:Array Oper} {C:World->Prop} {Q:St->Bx->Prop} {rest:List Oper} {o:Oper} {i:Nat} {a:St} {B:Bx}
end
section
variable {l l':List UInt8}
theorem Vg (hl:l.length<=100000000) (hl':l'.length<=100000000) {z:Int} (e:val l-val l'=z):Ret 22 #[Zg l,Zg l'] (Zg (canon z)):=fun w hG=>by
 subst e;exact Lj l l' w hl hl' hG
end
structure QL (w:World) (A:Option Addr) (ts:List Pnt) (n:Nat):Prop where
 len:ts.length=n
 sm:n<=1000
 gap:n<=12∨400<n
 str:∀t∈ts,t.vl.length<=60/\t.fl.length<=60
 mem:NC w A ts
section
variable {w w':World} {A:Option Addr} {ts:List Pnt} {n:Nat}
theorem QL.below (h:QL w A ts n) (hb:Below w.heap.size w w'):QL w' A ts n:=⟨h.len,h.sm,h.gap,h.str,h.mem.below hb⟩
theorem QL.ok (h:QL w A ts n) (h0:Wn ts=0):1<=n/\n<=12/\Lu (pts ts)/\UpD none ts/\∀t∈ts,Q2 t:=by
 obtain⟨h1,h2,h3,h4,h5⟩:=AM h0
 have:=h.len
 have:=h.gap
 exact⟨by omega,by omega,h3,h4,h5⟩
theorem EQ (hG:Yb w) (h:QL w A ts n) (c:Nat):AK w 40 #[.slice A n c] (Zi (Wn ts)):=fun w' hb=>AL A ts n c w' (hG.below hb) h.len h.sm h.str (h.mem.below hb)
end
theorem ER (args:Array Value) (w:World):(callFunc 107 args).run prog w=.ok (.enter 107 args) w:=by kernel_rfl
theorem ES {ts:List Pnt} (h:∀t∈ts,Q2 t) (hp:Lu (pts ts)) (hn:ts.length<=12):Bd 505 (YN 1 (Wo (pts ts))):=by
 have h1:=OC (M:=42) (Wo (pts ts)) Jx (IM hp h);rw[SB,My] at h1;exact Az h1 (by omega)
theorem GT {w:World} {B B' k sz:Nat} {ty:TypeId} {v:Value} {cs:List Value} (h:w.ownsRow B ty sz v k cs) (hb:B'<=B):w.ownsRow B' ty sz v k cs:=by
 refine⟨h.1,?_⟩;rcases h.2 with h2|⟨g,cap,cur,e,hB,r⟩
 ·exact .inl h2
 ·exact .inr ⟨g,cap,cur,e,Nt hb hB,r⟩
def ET (ts:List Pnt):Value:=if ¬Wn ts=0 then .tuple #[.agg #[Zj,Zj],Zi 1] else .tuple #[(Value.agg #[Zg (fN (YN 1 (Wo (pts ts))-1)),Zg (fD (YN 1 (Wo (pts ts))-1))]),Zi 0]
theorem EU {w:World} {A:Option Addr} {ts:List Pnt} {n:Nat} (hG:Yb w) (h:QL w A ts n) (c:Nat):AK w 42 #[.slice A n c] (ET ts):=fun w' hbw=>by
 replace hG:=hG.below hbw;replace h:=h.below hbw;clear hbw;have C1:=Lh (EQ hG h c);have x2:=Xa.new w' (Zj) (Zj) 34;have hb:=Zh w' (.cells #[Zj,Zj] 34)
 by_cases g:Wn ts=0
 rotate_left
 ·have HV:Hid (ET ts=.tuple #[.agg #[Zj,Zj],Zi 1]):=if_pos g;have e1:(Wn ts != 0)=true:=V0 (OB g);generalize Wn ts=E at *;clear g h;go_enter func42,ntmps42;go_wp2_with fail
  refine (C1.out.of hG hb).mono ?_
  rintro e w1 ⟨rfl,hb1⟩;replace x2:=x2.below hb1;replace hb:=bto hb hb1;have g0:=x2.c0;have g1:=x2.c1;have g2:=x2.f0;have g3:=x2.f1;clear hb1;go_wp2;have hy:=x2.set (Zj) (Zj);have d0:=hy.c0;have d1:=hy.c1;refine bodyPost_ret (v:=.tuple #[.agg #[Zj,Zj],Zi 1]) (by simp[results,results42,go_sem,d0,d1]) rfl ?_
  exact⟨by rw[HV.out],ZS hb (Nl _) _ _⟩
 have HV0:Hid (ET ts=.tuple #[(Value.agg #[Zg (fN (YN 1 (Wo (pts ts))-1)),Zg (fD (YN 1 (Wo (pts ts))-1))]),Zi 0]):=if_neg (fun h=>h g)
 obtain⟨h1,h12,hp,-,hok⟩:=h.ok g;rw[g] at C1;have HB:=Lh (ES hok hp (by rw[h.len];exact h12))
 have hfl:(Wo (pts ts)).length<=12:=by rw[SB,My,h.len];omega
 have CI:Hid (∀w1,Below w'.heap.size w' w1->Jy (w1.alloc (.cells #[.slice A n c] 23)) 107 #[.pointer (some ⟨w1.heap.size,0,none⟩)] (Wo (pts ts)) 42):=fun w1 hb1=>
  EO w1.heap.size A ts n c _ (hG.below (bto hb1 (Zh _ _))) h.len h1 (by omega) hok hp (h.mem.below (bto hb1 (Zh _ _))) (Blk.new _ _ _)
 obtain⟨qs,hqs⟩:∃qs,qs=Wo (pts ts):=⟨_,rfl⟩
 rw[<-hqs] at HV0 HB CI hfl;have c0:Ret 31 #[.string ⟨[49].toArray⟩] (Value.agg #[Zg (fN ((1:Rat))),Zg (fD ((1:Rat)))]):=by have h:=rOf (l:=[49]) (by decide) (z:=1) (by decide);exact h
 have C3:=Lh c0;have C4:=Lh (Zda (Qs HB.out (by decide)) (Qs Jx (by decide)) rfl)
 obtain⟨y,hy⟩:∃y,y=YN 1 qs-1:=⟨_,rfl⟩
 have HV:=HV0;rw[<-hy] at C4 HV;clear g h h12 hok hp hqs c0 HV0 hy;go_enter func42,ntmps42;go_wp2_with fail
 refine (C1.out.of hG hb).mono ?_
 rintro e w1 ⟨rfl,hb1⟩;replace x2:=x2.below hb1;replace hb:=bto hb hb1;clear hb1;go_wp2_with fail;refine (EP A n c _).mono ?_;rintro e w2 ⟨rfl,rfl⟩;have C2:=Lh (GR 107 #[.pointer (some ⟨w1.heap.size,0,none⟩)] qs 42 (w1.alloc (.cells #[.slice A n c] 23)) (hG.below (bto hb (Zh _ _))) ER (CI.out w1 hb) (by omega))
 replace x2:=x2.below (Zh _ (.cells #[.slice A n c] 23));replace hb:=bto hb (Zh _ (.cells #[.slice A n c] 23));go_wp2_with fail;refine C2.out.mono ?_;rintro e w3 ⟨rfl,hb3⟩;replace x2:=x2.below hb3;replace hb:=bto hb hb3;clear hb3 C2 CI;go_wp2_with fail
 refine (C3.out.of hG hb).mono ?_
 rintro e w4 ⟨rfl,hb4⟩;replace x2:=x2.below hb4;replace hb:=bto hb hb4;clear hb4;go_wp2_with fail
 refine (C4.out.of hG hb).mono ?_
 rintro e w5 ⟨rfl,hb5⟩;replace x2:=x2.below hb5;replace hb:=bto hb hb5;have g0:=x2.c0;have g1:=x2.c1;have g2:=x2.f0;have g3:=x2.f1;clear hb5;go_wp2;have hy:=x2.set (Zg (fN (y))) (Zg (fD (y)));have d0:=hy.c0;have d1:=hy.c1;refine bodyPost_ret (v:=.tuple #[(Value.agg #[Zg (fN y),Zg (fD y)]),Zi 0]) (by simp[results,results42,go_sem,d0,d1]) rfl ?_
 exact⟨by rw[HV.out],ZS hb (Nl _) _ _⟩
structure Lot where
 id:List UInt8
 ins:List UInt8
 acq:Int
 opn:Int
 q:List UInt8
 cost:List UInt8
 used:List UInt8
 deriving DecidableEq
abbrev Zn (x:Lot):Array Value:=#[Zg x.id,Zg x.ins,Zi x.acq,Zi x.opn,Zg x.q,Zg x.cost,Zg x.used]
def Yq (w:World) (b:Nat) (x:Lot):Prop:=Blk w b (Zn x)
section
variable {w w':World} {b:Nat} {x:Lot}
theorem Yq.new (w:World) (x:Lot) (t:TypeId):Yq (w.alloc (.cells (Zn x) t)) w.heap.size x:=Blk.new w _ t
theorem Yq.below (h:Yq w b x) (hb:Below w.heap.size w w'):Yq w' b x:=Blk.below h hb
theorem Yq.c0 (h:Yq w b x):w.cell? ⟨b,0,none⟩=some (Zg x.id):=Blk.c h 0
theorem Yq.c1 (h:Yq w b x):w.cell? ⟨b,1,none⟩=some (Zg x.ins):=Blk.c h 1
theorem Yq.c2 (h:Yq w b x):w.cell? ⟨b,2,none⟩=some (Zi x.acq):=Blk.c h 2
theorem Yq.c3 (h:Yq w b x):w.cell? ⟨b,3,none⟩=some (Zi x.opn):=Blk.c h 3
theorem Yq.c4 (h:Yq w b x):w.cell? ⟨b,4,none⟩=some (Zg x.q):=Blk.c h 4
theorem Yq.c5 (h:Yq w b x):w.cell? ⟨b,5,none⟩=some (Zg x.cost):=Blk.c h 5
theorem Yq.c6 (h:Yq w b x):w.cell? ⟨b,6,none⟩=some (Zg x.used):=Blk.c h 6
end
structure OD (w:World) (b o:Nat) (x:Lot):Prop where
 c0:w.cell? ⟨b,o,none⟩=some (Zg x.id)
 c1:w.cell? ⟨b,o+1,none⟩=some (Zg x.ins)
 c2:w.cell? ⟨b,o+2,none⟩=some (Zi x.acq)
 c3:w.cell? ⟨b,o+3,none⟩=some (Zi x.opn)
 c4:w.cell? ⟨b,o+4,none⟩=some (Zg x.q)
 c5:w.cell? ⟨b,o+5,none⟩=some (Zg x.cost)
 c6:w.cell? ⟨b,o+6,none⟩=some (Zg x.used)
theorem OD.below {w w':World} {b o:Nat} {x:Lot} (h:OD w b o x) (ha:b<w.heap.size) (hb:Below w.heap.size w w'):OD w' b o x:=
 ⟨(hb.cell (p:=⟨b,o,none⟩) ha).trans h.c0,(hb.cell (p:=⟨b,o+1,none⟩) ha).trans h.c1,(hb.cell (p:=⟨b,o+2,none⟩) ha).trans h.c2,(hb.cell (p:=⟨b,o+3,none⟩) ha).trans h.c3,(hb.cell (p:=⟨b,o+4,none⟩) ha).trans h.c4,(hb.cell (p:=⟨b,o+5,none⟩) ha).trans h.c5,(hb.cell (p:=⟨b,o+6,none⟩) ha).trans h.c6⟩
def Y7 (w:World) (A:Option Addr) (xs:List Lot):Prop:=∀(i:Nat) (x:Lot),xs[i]?=some x->∃b o,A=some ⟨b,o,none⟩/\b<w.heap.size/\OD w b (o+i*7) x
theorem Y7.below {w w':World} {A:Option Addr} {xs:List Lot} (h:Y7 w A xs) (hb:Below w.heap.size w w'):Y7 w' A xs:=fun i x hx=>by
 obtain⟨b,o,rfl,h1,h2⟩:=h i x hx;exact⟨b,o,rfl,Nat.lt_of_lt_of_le h1 hb.size,h2.below h1 hb⟩
def Yg (xs:List Lot):List Value:=xs.flatMap (fun x=>(Zn x).toList)
section
variable {P:Program} {w:World} {mty kt et:TypeId} {kd:TypeDesc} {r clock:Nat} {es:Array MapEntry} {key val:Value}
theorem UX (hm:P.underlying mty=some (.map kt et)) (hk:P.underlying kt=some kd) (hkey:MapKept.IsKey kd key) (hb:w.heap[r]?=some (.map es clock)) (hf:Instr.findNow kd key es.toList 0=some none) :
  (Instr.mapUpdate mty (.map (some r)) key val).run P w=.ok () { w with heap:=w.heap.setIfInBounds r (.map (es.push { key,val,born:=clock }) (clock+1)) }:=by
 have hc:(Instr.checkKey false 10000 kt key).run P w=.ok () w:=MapKept.run_checkKey hk hkey false 9999;simp[Instr.mapUpdate,run_underlying hm,MapKept.run_getObj_map hb,hc,MapKept.run_findKey hk hf,MapKept.run_setObj_map _ hb,Result.andThen]
theorem Up (hm:P.underlying mty=some (.map kt et)) (hk:P.underlying kt=some kd) (hkey:MapKept.IsKey kd key) (hb:w.heap[r]?=some (.map es clock)) {i:Nat} {v:Value} (hf:Instr.findNow kd key es.toList 0=some (some (i,v))) (ok:Bool) :
  (Instr.lookup mty (.map (some r)) key ok).run P w=.ok (if ok then .tuple #[v,.bool true] else v) w:=by
 have hc:(Instr.checkKey es.isEmpty 10000 kt key).run P w=.ok () w:=MapKept.run_checkKey hk hkey _ 9999;cases ok<;>simp[Instr.lookup,run_underlying hm,MapKept.run_getObj_map hb,hc,MapKept.run_findKey hk hf,Result.andThen]
theorem TI (hm:P.underlying mty=some (.map kt et)) (hk:P.underlying kt=some kd) (hkey:MapKept.IsKey kd key) (hb:w.heap[r]?=some (.map es clock)) {z:Value} (hz:(zeroValue et).run P w=.ok z w) (hf:Instr.findNow kd key es.toList 0=some none) (ok:Bool) :
  (Instr.lookup mty (.map (some r)) key ok).run P w=.ok (if ok then .tuple #[z,.bool false] else z) w:=by
 have hc:(Instr.checkKey es.isEmpty 10000 kt key).run P w=.ok () w:=MapKept.run_checkKey hk hkey _ 9999;cases ok<;>simp[Instr.lookup,run_underlying hm,MapKept.run_getObj_map hb,hc,MapKept.run_findKey hk hf,hz,Result.andThen]
end
def UF:List (List UInt8)->Array MapEntry
 | l=>((l.zipIdx).map fun p=>({ key:=Zg p.1,val:=.bool true,born:=p.2 }:MapEntry)).toArray
theorem Jz (l:List (List UInt8)) (x:List UInt8):UF (l++[x])=(UF l).push { key:=Zg x,val:=.bool true,born:=l.length }:=by
 simp[UF,List.zipIdx_append]
theorem bytes_beq (x y:List UInt8):((⟨x.toArray⟩:ByteArray)==⟨y.toArray⟩)=(x==y):=by
 show (x.toArray==y.toArray)=(x==y);simp
theorem SC (x:List UInt8):∀(l:List (List UInt8)) (k i:Nat),Instr.findNow .string (Zg x) ((l.zipIdx k).map fun p=>({ key:=Zg p.1,val:=.bool true,born:=p.2 }:MapEntry)) i=some (if l.contains x then some (i+l.idxOf x,.bool true) else none)
 | [],_,_=>by simp[Instr.findNow]
 | y::l,k,i=>by
  have ih:=SC x l (k+1) (i+1);rw[List.zipIdx_cons,List.map_cons];unfold Instr.findNow
  by_cases h:x=y
  ·subst h;simp[Instr.sameNow,bytes_beq]
  ·have e1:=bytes_beq x y;have e2:(x==y)=false:=by simpa using h
   have e3:(y==x)=false:=by simpa using (fun g=>h g.symm)
   simp only[Instr.sameNow,e1,e2,ih,List.contains_cons,Bool.false_or,List.idxOf_cons,e3]
   split
   ·simp[Nat.add_assoc,Nat.add_comm 1]
   ·rfl
end Go.Proofs.YtpieeldbamklkaaGreatDoor
namespace Go.Proofs
open Go.Shelf
def Tryz.laysC172_ren:Go.Shelf.Ren:=⟨fun|172=>279|244=>312|245=>195|247=>330|279=>253|280=>254|281=>255|282=>256|287=>194|316=>299|171=>140|205=>300|321=>251|322=>252|243=>203|246=>267|283=>258|284=>259|285=>260|286=>261|129=>302|317=>301|318=>303|319=>304|320=>305|337=>326|338=>327|n=>n,fun|9=>9|3=>3|75=>209|76=>218|4=>4|5=>5|167=>327|37=>214|0=>0|85=>388|2=>2|168=>329|53=>207|175=>210|46=>283|210=>374|127=>289|145=>394|143=>392|21=>21|171=>334|173=>337|212=>378|51=>339|20=>20|213=>379|232=>410|233=>411|80=>222|n=>n,fun|15=>0|16=>1|17=>2|18=>6|19=>7|n=>n⟩
theorem Tryz.laysC172:Go.Proofs.LaysC.n172 prog Tryz.laysC172_ren:={
 mixed:=by kernel_rfl
 f129:=FkR func302
 f171:=FkR func140
 f172:=FkR func279
 f205:=FkR func300
 f243:=FkR func203
 f244:=FkR func312
 f245:=FkR func195
 f246:=FkR func267
 f247:=FkR func330
 f279:=FkR func253
 f280:=FkR func254
 f281:=FkR func255
 f282:=FkR func256
 f283:=FkR func258
 f284:=FkR func259
 f285:=FkR func260
 f286:=FkR func261
 f287:=FkR func194
 f316:=FkR func299
 f317:=FkR func301
 f318:=FkR func303
 f319:=FkR func304
 f320:=FkR func305
 f321:=FkR func251
 f322:=FkR func252
 f337:=FkR func326
 f338:=FkR func327
 t0:=underlying0
 a0:=isAgg0
 z0:=sizeOf0
 v0:=zeroValue0
 t2:=underlying2
 a2:=isAgg2
 z2:=sizeOf2
 v2:=zeroValue2
 t3:=underlying3
 a3:=isAgg3
 z3:=sizeOf3
 v3:=zeroValue3
 t4:=underlying4
 a4:=isAgg4
 z4:=sizeOf4
 v4:=zeroValue4
 t5:=underlying5
 a5:=isAgg5
 z5:=sizeOf5
 v5:=zeroValue5
 t9:=underlying9
 a9:=isAgg9
 z9:=sizeOf9
 v9:=zeroValue9
 t20:=underlying20
 a20:=isAgg20
 z20:=sizeOf20
 v20:=zeroValue20
 t21:=underlying21
 a21:=isAgg21
 z21:=sizeOf21
 v21:=zeroValue21
 t37:=underlying214
 a37:=isAgg214
 z37:=sizeOf214
 v37:=zeroValue214
 t46:=underlying283
 a46:=isAgg283
 z46:=sizeOf283
 v46:=zeroValue283
 t51:=underlying339
 a51:=isAgg339
 z51:=sizeOf339
 v51:=zeroValue339
 t53:=underlying207
 a53:=isAgg207
 z53:=sizeOf207
 v53:=zeroValue207
 t75:=underlying209
 a75:=isAgg209
 z75:=sizeOf209
 v75:=zeroValue209
 t76:=underlying218
 a76:=isAgg218
 z76:=sizeOf218
 v76:=zeroValue218
 t85:=underlying388
 a85:=isAgg388
 z85:=sizeOf388
 v85:=zeroValue388
 t127:=underlying289
 a127:=isAgg289
 z127:=sizeOf289
 v127:=zeroValue289
 t143:=underlying392
 a143:=isAgg392
 z143:=sizeOf392
 v143:=zeroValue392
 t145:=underlying394
 a145:=isAgg394
 z145:=sizeOf394
 v145:=zeroValue394
 t167:=underlying327
 a167:=isAgg327
 z167:=sizeOf327
 v167:=zeroValue327
 t168:=underlying329
 a168:=isAgg329
 z168:=sizeOf329
 v168:=zeroValue329
 t171:=underlying334
 a171:=isAgg334
 z171:=sizeOf334
 v171:=zeroValue334
 t173:=underlying337
 a173:=isAgg337
 z173:=sizeOf337
 v173:=zeroValue337
 t175:=underlying210
 a175:=isAgg210
 z175:=sizeOf210
 v175:=zeroValue210
 t210:=underlying374
 a210:=isAgg374
 z210:=sizeOf374
 v210:=zeroValue374
 t212:=underlying378
 a212:=isAgg378
 z212:=sizeOf378
 v212:=zeroValue378
 t213:=underlying379
 a213:=isAgg379
 z213:=sizeOf379
 t232:=underlying410
 a232:=isAgg410
 z232:=sizeOf410
 v232:=zeroValue410
 t233:=underlying411
 a233:=isAgg411
 z233:=sizeOf411
 v233:=zeroValue411
 g15:=by kernel_rfl
 g16:=by kernel_rfl
 g17:=by kernel_rfl
 g18:=by kernel_rfl
 g19:=by kernel_rfl
 t80:=underlying222
 a80:=isAgg222
 z80:=sizeOf222
 v80:=zeroValue222
 i0:=by kernel_rfl
 i2:=by kernel_rfl
 i3:=by kernel_rfl
 i4:=by kernel_rfl
 i5:=by kernel_rfl
 i9:=by kernel_rfl
 i20:=by kernel_rfl
 i21:=by kernel_rfl
 i37:=by kernel_rfl
 i46:=by kernel_rfl
 i51:=by kernel_rfl
 i53:=by kernel_rfl
 i75:=by kernel_rfl
 i76:=by kernel_rfl
 i80:=by kernel_rfl
 i85:=by kernel_rfl
 i127:=by kernel_rfl
 i143:=by kernel_rfl
 i145:=by kernel_rfl
 i167:=by kernel_rfl
 i168:=by kernel_rfl
 i171:=by kernel_rfl
 i173:=by kernel_rfl
 i175:=by kernel_rfl
 i210:=by kernel_rfl
 i212:=by kernel_rfl
 i232:=by kernel_rfl
 i233:=by kernel_rfl
 m15:=by kernel_rfl
 m16:=by kernel_rfl
 m17:=by kernel_rfl
 m18:=by kernel_rfl
 m19:=by kernel_rfl
 c0:=by kernel_rfl
 c2:=by kernel_rfl
 c3:=by kernel_rfl
 c4:=by kernel_rfl
 c5:=by kernel_rfl
 c9:=by kernel_rfl
 c20:=by kernel_rfl
 c21:=by kernel_rfl
 c37:=by kernel_rfl
 c46:=by kernel_rfl
 c51:=by kernel_rfl
 c53:=by kernel_rfl
 c75:=by kernel_rfl
 c76:=by kernel_rfl
 c80:=by kernel_rfl
 c85:=by kernel_rfl
 c127:=by kernel_rfl
 c143:=by kernel_rfl
 c145:=by kernel_rfl
 c167:=by kernel_rfl
 c168:=by kernel_rfl
 c171:=by kernel_rfl
 c173:=by kernel_rfl
 c175:=by kernel_rfl
 c210:=by kernel_rfl
 c212:=by kernel_rfl
 c213:=by kernel_rfl
 c232:=by kernel_rfl
 c233:=by kernel_rfl }
open Go.RowKit in
theorem Tryz.strconv_Atoi_ok (s:ByteArray) (hmax:s.size<=9223372036854775806) (v:Int) (h:Lib.atoiAll s.data.toList=.ok v) (w:World) :
  Calls prog 279 #[.string s] w fun e w'=>e=.returned (.tuple #[Zi v,.nilIface])/\(w'=w∨∃t,w'=Lib.bytesWorld w 5 t):=Any.strconv_Atoi_ok Tryz.laysC172 s hmax v h w
open Go.RowKit in
theorem Tryz.strconv_Atoi_bad (s:ByteArray) (hlim:s.size<=281474976710656) (h1:∀v,Lib.atoiAll s.data.toList≠.ok v) (h2:Lib.atoiAll s.data.toList≠.range) (ev:Value) (w:World) (hv:w.cell? ⟨0,0,none⟩=some ev) (hev:ev=.nilIface∨∃te pe,ev=.iface te pe) :
  Calls prog 279 #[.string s] w fun e w'=>∃N,e=.returned (.tuple #[Zi (0),.iface 329 (.pointer (some ⟨N,0,none⟩))])/\w.heap.size<=N/\w'.heap[N]?=some (.cells #[.string ⟨#[65,116,111,105]⟩,.string s,ev] 374 (0,0))/\Below w.heap.size w w':=Any.strconv_Atoi_syntax Tryz.laysC172 s hlim (by
  cases e:Lib.atoiAll s.data.toList with
  | ok v=>exact absurd e (h1 v)
  | range=>exact absurd e h2
  | _=>rfl) ev w hv hev
open Go.RowKit in
theorem Tryz.strconv_Atoi_range (s:ByteArray) (hlim:s.size<=281474976710656) (h:Lib.atoiAll s.data.toList=.range) (ev:Value) (w:World) (hv:w.cell? ⟨1,0,none⟩=some ev) (hev:ev=.nilIface∨∃te pe,ev=.iface te pe) :
  Calls prog 279 #[.string s] w fun e w'=>∃N,e=.returned (.tuple #[Zi (Lib.atoiSat s.data.toList),.iface 329 (.pointer (some ⟨N,0,none⟩))])/\w.heap.size<=N/\w'.heap[N]?=some (.cells #[.string ⟨#[65,116,111,105]⟩,.string s,ev] 374 (0,0))/\Below w.heap.size w w':=Any.strconv_Atoi_range Tryz.laysC172 s hlim h ev w hv hev
def Tryz.lays145_ren:Go.Shelf.Ren:=⟨fun|145=>278|220=>311|219=>329|217=>346|225=>344|224=>343|267=>347|266=>353|314=>354|n=>n,fun|9=>9|4=>4|59=>355|3=>3|5=>5|46=>283|146=>340|51=>339|n=>n,fun|1=>3|n=>n⟩
theorem Tryz.lays145:Go.Proofs.Lays.n145 prog Tryz.lays145_ren:={
 mixed:=by kernel_rfl
 f145:=FkR func278
 f217:=FkR func346
 f219:=FkR func329
 f220:=FkR func311
 f224:=FkR func343
 f225:=FkR func344
 f266:=FkR func353
 f267:=FkR func347
 f314:=FkR func354
 t3:=underlying3
 a3:=isAgg3
 z3:=sizeOf3
 v3:=zeroValue3
 t4:=underlying4
 a4:=isAgg4
 z4:=sizeOf4
 v4:=zeroValue4
 t5:=underlying5
 a5:=isAgg5
 z5:=sizeOf5
 v5:=zeroValue5
 t9:=underlying9
 a9:=isAgg9
 z9:=sizeOf9
 v9:=zeroValue9
 t46:=underlying283
 a46:=isAgg283
 z46:=sizeOf283
 v46:=zeroValue283
 t51:=underlying339
 a51:=isAgg339
 z51:=sizeOf339
 v51:=zeroValue339
 t59:=underlying355
 a59:=isAgg355
 z59:=sizeOf355
 v59:=zeroValue355
 t146:=underlying340
 a146:=isAgg340
 z146:=sizeOf340
 v146:=zeroValue340
 g1:=by kernel_rfl }
open Go.RowKit Go.Lib in
theorem Tryz.strings_Cut (s sep:ByteArray) (m:Int) (w:World) (hs:s.size<4294967281) (hm:w.cell? ⟨3,0,none⟩=some (Zi m)) :
  Calls prog 278 #[.string s,.string sep] w fun e w'=>e=.returned (.tuple #[.string ⟨(Lib.cut s.data.toList sep.data.toList).1.toArray⟩,.string ⟨(Lib.cut s.data.toList sep.data.toList).2.1.toArray⟩,.bool (Lib.cut s.data.toList sep.data.toList).2.2])/\∃n,w'=w.drewN n:=Any.strings_Cut Tryz.lays145 s sep m w hs hm
def Tryz.lays101_ren:Go.Shelf.Ren:=⟨fun|101=>317|208=>331|206=>264|n=>n,fun|9=>9|4=>4|3=>3|n=>n,fun|n=>n⟩
theorem Tryz.lays101:Go.Proofs.Lays.n101 prog Tryz.lays101_ren:={
 mixed:=by kernel_rfl
 f101:=FkR func317
 f206:=FkR func264
 f208:=FkR func331
 t3:=underlying3
 a3:=isAgg3
 z3:=sizeOf3
 v3:=zeroValue3
 t4:=underlying4
 a4:=isAgg4
 z4:=sizeOf4
 v4:=zeroValue4
 t9:=underlying9
 a9:=isAgg9
 z9:=sizeOf9
 v9:=zeroValue9 }
open Go.RowKit Go.Lib in
theorem Tryz.strings_TrimPrefix (s p:ByteArray) (w:World) :
  Calls prog 317 #[.string s,.string p] w fun e w'=>e=.returned (Zg (Lib.trimPrefix s.data.toList p.data.toList))/\w'=w:=Any.strings_TrimPrefix Tryz.lays101 s p w
end Go.Proofs
namespace Go.Proofs.YtpieeldbamklkaaGreatDoor
open Go.RowKit Num
def AO (w:World):Prop:=(∃te pe,w.cell? ⟨0,0,none⟩=some (.iface te pe))/\∃te pe,w.cell? ⟨1,0,none⟩=some (.iface te pe)
theorem NF {w w':World} {a:Addr} {v:Value} (h:w.cell? a=some v) (hb:Below w.heap.size w w'):w'.cell? a=some v:=(hb.cell (block_lt_of_cell h)).trans h
theorem AO.below {w w':World} (h:AO w) (hb:Below w.heap.size w w'):AO w':=by
 obtain⟨⟨a,b,h1⟩,c,d,h2⟩:=h;exact⟨⟨a,b,NF h1 hb⟩,c,d,NF h2 hb⟩
structure GE (w:World):Prop where
 g:Yb w
 e:AO w
theorem GE.below {w w':World} (h:GE w) (hb:Below w.heap.size w w'):GE w':=⟨h.g.below hb,h.e.below hb⟩
def WQ (f:Nat) (args:Array Value) (v:Value):Prop:=∀w,GE w->Calls prog f args w fun e w'=>e=.returned v/\Below w.heap.size w w'
theorem WQ.of {f:Nat} {args:Array Value} {v:Value} (h:WQ f args v) {w w':World} (hG:GE w) (hb:Below w.heap.size w w'):Calls prog f args w' fun e w''=>e=.returned v/\Below w'.heap.size w' w'':=h w' (hG.below hb)
theorem Ret.e {f:Nat} {args:Array Value} {v:Value} (h:Ret f args v):WQ f args v:=fun w hG=>h w hG.g
theorem Zbv (s:List UInt8) (hs:s.length<=1000000):WQ 278 #[Zg s,.string ⟨#[47]⟩] (.tuple #[.string ⟨(Lib.cut s [47]).1.toArray⟩,.string ⟨(Lib.cut s [47]).2.1.toArray⟩,.bool (Lib.cut s [47]).2.2]):=fun w hG=>by
 obtain⟨-,m,hm⟩:=hG.g;refine (Tryz.strings_Cut ⟨s.toArray⟩ ⟨#[47]⟩ m w (by show s.toArray.size<_;simp;omega) hm).mono ?_
 rintro e w' ⟨rfl,n,rfl⟩;exact⟨rfl,below_drewN w n⟩
theorem EV (s:List UInt8) (hs:s.length<=1000000) (w:World) (hG:GE w) :
  Calls prog 279 #[Zg s] w fun e w'=>((∃v,Lib.atoiAll s=.ok v/\e=.returned (.tuple #[Zi v,.nilIface]))∨∃v p,(∀u,Lib.atoiAll s≠.ok u)/\e=.returned (.tuple #[Zi v,.iface 329 p]))/\Below w.heap.size w w':=by
 obtain⟨⟨a,b,h1⟩,c,d,h2⟩:=hG.e;have hz:(⟨s.toArray⟩:ByteArray).size=s.length:=by show s.toArray.size=_;simp
 cases ha:Lib.atoiAll s with
 | ok v=>
  refine (Tryz.strconv_Atoi_ok ⟨s.toArray⟩ (by rw[hz];omega) v ha w).mono ?_
  rintro e w' ⟨rfl,hw⟩;refine⟨.inl ⟨v,rfl,rfl⟩,?_⟩;rcases hw with rfl|⟨t,rfl⟩
  ·exact Below.refl _ _
  ·exact bytesWorld_below _ _ _
 | range=>
  refine (Tryz.strconv_Atoi_range ⟨s.toArray⟩ (by rw[hz];omega) ha _ w h2 (.inr ⟨c,d,rfl⟩)).mono ?_
  rintro e w' ⟨N,rfl,-,-,hb⟩;exact⟨.inr ⟨_,_,fun u=>by simp,rfl⟩,hb⟩
 | _=>
  refine (Tryz.strconv_Atoi_bad ⟨s.toArray⟩ (by rw[hz];omega) (fun v e=>by rw[ha] at e;cases e) (fun e=>by rw[ha] at e;cases e) _ w h1 (.inr ⟨a,b,rfl⟩)).mono ?_
  rintro e w' ⟨N,rfl,-,-,hb⟩;exact⟨.inr ⟨0,_,fun u=>by simp,rfl⟩,hb⟩
theorem Lw (s p:List UInt8):WQ 317 #[Zg s,Zg p] (Zg (Lib.trimPrefix s p)):=fun w _=>by
 refine (Tryz.strings_TrimPrefix ⟨s.toArray⟩ ⟨p.toArray⟩ w).mono ?_;rintro e w' ⟨rfl,rfl⟩;exact⟨rfl,Below.refl _ _⟩
def Lx (l:List UInt8):Bool:=match Lib.atoiAll l with|.ok n=>decide (1<=n)&&(decide (n<=9999)&&(Z3 n==l))|_=>false
def idB (s:List UInt8):Bool:=YE (Lib.cut s [47]).1&&Lx (Lib.cut s [47]).2.1
theorem Mz (s p:List UInt8):(Lib.cut s p).1.length<=s.length/\(Lib.cut s p).2.1.length<=s.length:=by
 unfold Lib.cut
 split
 ·exact⟨by simp;omega,by simp⟩
 ·exact⟨Nl _,Nat.zero_le _⟩
theorem JA {l:List UInt8} (h:∀u,Lib.atoiAll l≠.ok u):Lx l=false:=by
 unfold Lx;cases ha:Lib.atoiAll l with
 | ok v=>exact absurd ha (h v)
 | _=>rfl
theorem JB {l:List UInt8} {v:Int} (h:Lib.atoiAll l=.ok v):Lx l=(decide (1<=v)&&(decide (v<=9999)&&(Z3 v==l))):=by
 unfold Lx;rw[h]
theorem Tk (x y:List UInt8):((⟨x.toArray⟩:ByteArray)==⟨y.toArray⟩)=(x==y):=by
 show (x.toArray==y.toArray)=(x==y);simp
theorem EW (d:Int):Ret 226 #[Zi d] (.bool (Wl d)):=fun w _=>by
 by_cases g1 : -25567<=d
 ·have e1:decide (-25567<=d)=true:=Dt g1;have HV:Hid (Wl d=decide (d<=84005)):=by show _=_;unfold Wl;rw[e1,Bool.true_and]
  go_enter func226,ntmps226;go_wp2;go_ret;exact⟨ZR HV.out.symm,Below.refl _ _⟩
 ·have e1:decide (-25567<=d)=false:=Df g1;have HV:Hid (Wl d=false):=by show _=_;unfold Wl;rw[e1,Bool.false_and]
  go_enter func226,ntmps226;go_wp2;go_ret;exact⟨ZR HV.out.symm,Below.refl _ _⟩
theorem Zcm {s:List UInt8} (hs:s.length<=1000000):WQ 225 #[Zg s] (.bool (idB s)):=fun w hG=>by
 have hb:=Below.refl w.heap.size w;have C0:=Lh (Zbv s hs);have hl:=Mz s [47];have HV:Hid (idB s=(YE (Lib.cut s [47]).1&&Lx (Lib.cut s [47]).2.1)):=rfl;generalize (Lib.cut s [47]).1=nm at *;generalize (Lib.cut s [47]).2.1=nu at *;generalize (Lib.cut s [47]).2.2=fd at *;generalize idB s=R at *;obtain⟨hl1,hl2⟩:=hl;have C1:=Lh (Ret.e (TH (l:=nm) (by omega)))
 have C2:=fun w' (hb':Below w.heap.size w w')=>EV nu (by omega) w' (hG.below hb')
 clear hl1 hl2;go_enter func225,ntmps225;go_wp2_with fail
 refine (C0.out.of hG hb).mono ?_
 rintro e w1 ⟨rfl,hb1⟩;replace hb:=bto hb hb1;clear hb1;go_wp2_with fail;refine (C2 _ hb).mono ?_;rintro e w2 ⟨hcase,hb2⟩;replace hb:=bto hb hb2;clear hb2 C2 C0;generalize hnb:YE nm=nb at *;rcases hcase with ⟨v,hv,rfl⟩|⟨v,p,hv,rfl⟩
 rotate_left
 ·have HN:Hid (R=false):=by show _=_;rw[HV.out,JA hv,Bool.and_false]
  clear HV hv hnb;go_wp2;go_ret;exact⟨ZR (HN.out).symm,hb⟩
 have HV2:Hid (R=(nb&&(decide (1<=v)&&(decide (v<=9999)&&(Z3 v==nu))))):=by show _=_;rw[HV.out,JB hv]
 clear HV hv hnb
 by_cases g1:1<=v
 rotate_left
 ·have e1:decide (1<=v)=false:=Df g1;have HN:Hid (R=false):=by show _=_;rw[HV2.out,e1,Bool.false_and,Bool.and_false]
  clear HV2;go_wp2;go_ret;exact⟨ZR (HN.out).symm,hb⟩
 have e1:decide (1<=v)=true:=Dt g1
 by_cases g2:v<=9999
 rotate_left
 ·have e2:decide (v<=9999)=false:=Df g2;have HN:Hid (R=false):=by show _=_;rw[HV2.out,e2,Bool.false_and,Bool.and_false,Bool.and_false]
  clear HV2;go_wp2;go_ret;exact⟨ZR (HN.out).symm,hb⟩
 have e2:decide (v<=9999)=true:=Dt g2;have C3:=Lh (Ret.e (IG v (by omega) (by omega)))
 have HV3:Hid (R=(nb&&(Z3 v==nu))):=by show _=_;rw[HV2.out,e1,e2,Bool.true_and,Bool.true_and]
 clear HV2;generalize Z3 v=pz at *;go_wp2_with fail
 refine (C3.out.of hG hb).mono ?_
 rintro e w4 ⟨rfl,hb4⟩;replace hb:=bto hb hb4;clear hb4
 by_cases g3:pz=nu
 rotate_left
 ·have e3:(pz==nu)=false:=by rw[Bn];exact g3
  have HN:Hid (R=false):=by show _=_;rw[HV3.out,e3,Bool.and_false]
  clear HV3;go_wp2;go_ret;exact⟨ZR (HN.out).symm,hb⟩
 have e3:(pz==nu)=true:=by rw[beq_iff_eq];exact g3
 have HN:Hid (R=nb):=by show _=_;rw[HV3.out,e3,Bool.and_true]
 clear HV3;cases nb
 all_goals
  go_wp2_with fail
  refine (C1.out.of hG hb).mono ?_
  rintro e w5 ⟨rfl,hb5⟩;replace hb:=bto hb hb5;clear hb5;go_wp2;go_ret;exact⟨ZR (HN.out).symm,hb⟩
theorem Zbw {s:List UInt8} (hs:s.length<=1000000):WQ 288 #[Zg s] (.bool (idB s)):=fun w hG=>by
 have hb:=Below.refl w.heap.size w;have C0:=Lh (Zbv s hs);have hl:=Mz s [47];have HV:Hid (idB s=(YE (Lib.cut s [47]).1&&Lx (Lib.cut s [47]).2.1)):=rfl;generalize (Lib.cut s [47]).1=nm at *;generalize (Lib.cut s [47]).2.1=nu at *;generalize (Lib.cut s [47]).2.2=fd at *;generalize idB s=R at *;obtain⟨hl1,hl2⟩:=hl;have C1:=Lh (Ret.e (TH (l:=nm) (by omega)))
 have C2:=fun w' (hb':Below w.heap.size w w')=>EV nu (by omega) w' (hG.below hb')
 clear hl1 hl2;go_enter func288,ntmps288;go_wp2_with fail
 refine (C0.out.of hG hb).mono ?_
 rintro e w1 ⟨rfl,hb1⟩;replace hb:=bto hb hb1;clear hb1;go_wp2_with fail;refine (C2 _ hb).mono ?_;rintro e w2 ⟨hcase,hb2⟩;replace hb:=bto hb hb2;clear hb2 C2 C0;generalize hnb:YE nm=nb at *;rcases hcase with ⟨v,hv,rfl⟩|⟨v,p,hv,rfl⟩
 rotate_left
 ·have HN:Hid (R=false):=by show _=_;rw[HV.out,JA hv,Bool.and_false]
  clear HV hv hnb;cases nb
  all_goals
   go_wp2_with fail
   refine (C1.out.of hG hb).mono ?_
   rintro e w3 ⟨rfl,hb3⟩;replace hb:=bto hb hb3;clear hb3;go_wp2;go_ret;exact⟨ZR (HN.out).symm,hb⟩
 have HV2:Hid (R=(nb&&(decide (1<=v)&&(decide (v<=9999)&&(Z3 v==nu))))):=by show _=_;rw[HV.out,JB hv]
 clear HV hv hnb;cases nb with
 | false=>
  have HN:Hid (R=false):=HV2.out;clear HV2;go_wp2_with fail
  refine (C1.out.of hG hb).mono ?_
  rintro e w3 ⟨rfl,hb3⟩;replace hb:=bto hb hb3;clear hb3;go_wp2;go_ret;exact⟨ZR (HN.out).symm,hb⟩
 | true=>
  go_wp2_with fail
  refine (C1.out.of hG hb).mono ?_
  rintro e w3 ⟨rfl,hb3⟩;replace hb:=bto hb hb3;clear hb3
  by_cases g1:1<=v
  rotate_left
  ·have e1:decide (1<=v)=false:=Df g1;have HN:Hid (R=false):=by show _=_;rw[HV2.out,e1,Bool.false_and,Bool.and_false]
   clear HV2;go_wp2;go_ret;exact⟨ZR (HN.out).symm,hb⟩
  have e1:decide (1<=v)=true:=Dt g1
  by_cases g2:v<=9999
  rotate_left
  ·have e2:decide (v<=9999)=false:=Df g2;have HN:Hid (R=false):=by show _=_;rw[HV2.out,e2,Bool.false_and,Bool.and_false,Bool.and_false]
   clear HV2;go_wp2;go_ret;exact⟨ZR (HN.out).symm,hb⟩
  have e2:decide (v<=9999)=true:=Dt g2;have C3:=Lh (Ret.e (IG v (by omega) (by omega)))
  have HV3:Hid (R=(Z3 v==nu)):=by show _=_;rw[HV2.out,e1,e2,Bool.true_and,Bool.true_and,Bool.true_and]
  clear HV2;generalize Z3 v=pz at *;go_wp2_with fail
  refine (C3.out.of hG hb).mono ?_
  rintro e w4 ⟨rfl,hb4⟩;replace hb:=bto hb hb4;clear hb4
  by_cases g3:pz=nu
  rotate_left
  ·have e3:(pz==nu)=false:=by rw[Bn];exact g3
   have HN:Hid (R=false):=by show _=_;rw[HV3.out,e3]
   clear HV3;go_wp2;go_ret;exact⟨ZR (HN.out).symm,hb⟩
  have e3:(pz==nu)=true:=by rw[beq_iff_eq];exact g3
  have HN:Hid (R=true):=by show _=_;rw[HV3.out,e3]
  clear HV3;go_wp2;go_ret;exact⟨ZR (HN.out).symm,hb⟩
theorem Zbx {s:List UInt8} (hs:s.length<=1000000):WQ 218 #[Zg s] (.bool (idB s)):=fun w hG=>by
 have hb:=Below.refl w.heap.size w;have C0:=Lh (Zbv s hs);have hl:=Mz s [47];have HV:Hid (idB s=(YE (Lib.cut s [47]).1&&Lx (Lib.cut s [47]).2.1)):=rfl;generalize (Lib.cut s [47]).1=nm at *;generalize (Lib.cut s [47]).2.1=nu at *;generalize (Lib.cut s [47]).2.2=fd at *;generalize idB s=R at *;obtain⟨hl1,hl2⟩:=hl;have C1:=Lh (Ret.e (TH (l:=nm) (by omega)))
 have C2:=fun w' (hb':Below w.heap.size w w')=>EV nu (by omega) w' (hG.below hb')
 clear hl1 hl2;go_enter func218,ntmps218;go_wp2_with fail
 refine (C0.out.of hG hb).mono ?_
 rintro e w1 ⟨rfl,hb1⟩;replace hb:=bto hb hb1;clear hb1;go_wp2_with fail;refine (C2 _ hb).mono ?_;rintro e w2 ⟨hcase,hb2⟩;replace hb:=bto hb hb2;clear hb2 C2 C0;generalize hnb:YE nm=nb at *;rcases hcase with ⟨v,hv,rfl⟩|⟨v,p,hv,rfl⟩
 rotate_left
 ·have HN:Hid (R=false):=by show _=_;rw[HV.out,JA hv,Bool.and_false]
  clear HV hv hnb;cases nb
  all_goals
   go_wp2_with fail
   refine (C1.out.of hG hb).mono ?_
   rintro e w3 ⟨rfl,hb3⟩;replace hb:=bto hb hb3;clear hb3;go_wp2;go_ret;exact⟨ZR (HN.out).symm,hb⟩
 have HV2:Hid (R=(nb&&(decide (1<=v)&&(decide (v<=9999)&&(Z3 v==nu))))):=by show _=_;rw[HV.out,JB hv]
 clear HV hv hnb;cases nb with
 | false=>
  have HN:Hid (R=false):=HV2.out;clear HV2;go_wp2_with fail
  refine (C1.out.of hG hb).mono ?_
  rintro e w3 ⟨rfl,hb3⟩;replace hb:=bto hb hb3;clear hb3;go_wp2;go_ret;exact⟨ZR (HN.out).symm,hb⟩
 | true=>
  go_wp2_with fail
  refine (C1.out.of hG hb).mono ?_
  rintro e w3 ⟨rfl,hb3⟩;replace hb:=bto hb hb3;clear hb3
  by_cases g1:1<=v
  rotate_left
  ·have e1:decide (1<=v)=false:=Df g1;have HN:Hid (R=false):=by show _=_;rw[HV2.out,e1,Bool.false_and,Bool.and_false]
   clear HV2;go_wp2;go_ret;exact⟨ZR (HN.out).symm,hb⟩
  have e1:decide (1<=v)=true:=Dt g1
  by_cases g2:v<=9999
  rotate_left
  ·have e2:decide (v<=9999)=false:=Df g2;have HN:Hid (R=false):=by show _=_;rw[HV2.out,e2,Bool.false_and,Bool.and_false,Bool.and_false]
   clear HV2;go_wp2;go_ret;exact⟨ZR (HN.out).symm,hb⟩
  have e2:decide (v<=9999)=true:=Dt g2;have C3:=Lh (Ret.e (IG v (by omega) (by omega)))
  have HV3:Hid (R=(Z3 v==nu)):=by show _=_;rw[HV2.out,e1,e2,Bool.true_and,Bool.true_and,Bool.true_and]
  clear HV2;generalize Z3 v=pz at *;go_wp2_with fail
  refine (C3.out.of hG hb).mono ?_
  rintro e w4 ⟨rfl,hb4⟩;replace hb:=bto hb hb4;clear hb4
  by_cases g3:pz=nu
  rotate_left
  ·have e3:(pz==nu)=false:=by rw[Bn];exact g3
   have HN:Hid (R=false):=by show _=_;rw[HV3.out,e3]
   clear HV3;go_wp2;go_ret;exact⟨ZR (HN.out).symm,hb⟩
  have e3:(pz==nu)=true:=by rw[beq_iff_eq];exact g3
  have HN:Hid (R=true):=by show _=_;rw[HV3.out,e3]
  clear HV3;go_wp2;go_ret;exact⟨ZR (HN.out).symm,hb⟩
def upB (fl c m:Int):Bool:=
 if m=1 then decide (0<c)||(decide (c=0)&&decide (fl % 2≠0))
 else if m=2 then decide (0<c)||(decide (c=0)&&decide (0<=fl))
 else if m=3 then decide (fl<0)
 else if m=4 then decide (0<=fl)
 else decide (m=6)
def UY (q:Rat):Int:=ZH (2*(q.num % q.den)) q.den
def rnd (q:Rat) (m:Int):Int:=if q.den=1 then q.floor else if upB q.floor (UY q) m then q.floor+1 else q.floor
theorem EX (q:Rat):(0:Rat)<((q.den:Int):Rat):=by
 have:=q.den_pos
 rw[Rat.intCast_natCast];exact Rat.natCast_pos.2 this
theorem Tl (q:Rat):q.floor=q.num / q.den:=Rat.floor_def q
theorem IN (q:Rat):q*((q.den:Int):Rat)=(q.num:Rat):=by
 have h:q=Rat.divInt q.num q.den:=(Rat.num_divInt_den q).symm;have hd:(q.den:Int)≠0:=by have:=q.den_nz;omega
 obtain⟨n,hn⟩:∃n,n=q.num:=⟨_,rfl⟩
 obtain⟨d,hd'⟩:∃d,d=(q.den:Int):=⟨_,rfl⟩
 rw[<-hn,<-hd'] at h ⊢;rw[<-hd'] at hd;rw[h,Rat.divInt_eq_div,Rat.div_mul_cancel];intro e
 have:(d:Rat)=((0:Int):Rat):=e
 exact hd (Rat.intCast_inj.1 this)
theorem EY (q:Rat):(q-q.floor)*((q.den:Int):Rat)=((q.num % q.den:Int):Rat):=by
 have h:=Int.emod_add_mul_ediv q.num q.den;have h2:((q.num % q.den:Int):Rat)+((q.den:Int):Rat)*(q.floor:Rat)=(q.num:Rat):=by
  rw[Tl]
  have:=congrArg (fun z:Int=>(z:Rat)) h
  simpa only[Rat.intCast_add,Rat.intCast_mul] using this
 have h3:=IN q
 grind
theorem IP (q:Rat):q.den=1↔q=q.floor:=by
 constructor
 ·intro h;have h2:=IN q
  have:q.floor=q.num:=by rw[Tl,h];simp
  rw[this,<-h2,h];simp
 ·intro h;rw[h];rfl
theorem Zcn (q:Rat):(q.floor:Rat)<=q:=Rat.floor_le q
theorem Zco (q:Rat):q<(q.floor:Rat)+1:=by have:=Rat.lt_floor_add_one q;simpa using this
theorem Zby (q:Rat):q<0↔q.floor<0:=by
 have h1:=Zcn q;have h2:=Zco q;constructor
 ·intro h
  have:(q.floor:Rat)<((0:Int):Rat):=by grind
  exact Rat.intCast_lt_intCast.1 this
 ·intro h
  have:q.floor+1<=0:=by omega
  have:((q.floor+1:Int):Rat)<=((0:Int):Rat):=Rat.intCast_le_intCast.2 this
  have:(q.floor:Rat)+1<=0:=by simpa [Rat.intCast_add] using this
  grind
theorem Zbz (q:Rat) (m:Int):rnd q m=q.floor∨(rnd q m=q.floor+1/\q≠q.floor):=by
 unfold rnd
 by_cases h:q.den=1
 ·rw[if_pos h];exact .inl rfl
 ·rw[if_neg h]
  split
  ·exact .inr ⟨rfl,fun e=>h ((IP q).2 e)⟩
  ·exact .inl rfl
theorem EZ (q:Rat) (m:Int):q.floor<=rnd q m/\rnd q m<=q.floor+1:=by
 rcases Zbz q m with h|⟨h,-⟩<;>omega
section
variable {l l':List UInt8}
theorem IQ (hl:l.length<=100000000) (hl':l'.length<=100000000) (h0:val l'≠0) {q r:Int} (e:Vb (val l) (val l')=q) (e':Un (val l) (val l')=r):Ret 137 #[Zg l,Zg l'] (.tuple #[Zg (canon q),Zg (canon r),Zi 0]):=fun w hG=>by
 subst e;subst e';exact UT l l' w hl hl' hG h0
theorem Za0 (hl:l.length<=100000000) {z:Int} (e : -val l=z):Ret 206 #[Zg l] (Zg (canon z)):=fun w hG=>by
 subst e;exact Mt l w hl hG
theorem IR (hl:l.length<=100000000) (hl':l'.length<=100000000) {z:Int} (e:val l*val l'=z):Ret 68 #[Zg l,Zg l'] (Zg (canon z)):=fun w hG=>by
 subst e;exact Ms l l' w hl hl' hG
end
theorem IS {z:Int} (h:z=0):(canon z==[])=true/\(canon z).isEmpty=true:=by rw[h];decide
theorem E0 {z:Int} (h:z≠0):(canon z==[])=false/\(canon z).isEmpty=false:=by
 have:canon z≠[]:=fun e=>h ((Uh z).1 e)
 exact⟨by rw[Bn];exact this,by rw[List.isEmpty_eq_false_iff];exact this⟩
theorem ZP {z:Int} {k:Nat} (h:z.natAbs<10 ^ k) {n:Nat} (hn:k+1<=n):(canon z).length<=n:=Nt (Zu _ _ h) hn
theorem Za1 {l:List UInt8} (hl:l.length<=1000000) {z:Int} (e:val l=z):Ret 138 #[Zg l] (.bool (decide (z % 2=0))):=fun w hG=>by
 have c1:=IQ (l:=l) (l':=[50]) (by omega) (by decide) (by decide) rfl (show Un (val l) (val [50])=z % 2 by rw[e];rfl)
 generalize Vb (val l) (val [50])=q at c1;have hb:=Below.refl w.heap.size w;have H1:=Lh c1;clear c1 e
 by_cases h:z % 2=0
 ·obtain⟨e1,e2⟩:=IS h;rw[Dt h];generalize z % 2=r at *;go_enter func138,ntmps138;go_wp2_with fail
  refine (H1.out.of hG hb).mono ?_
  rintro e w1 ⟨rfl,hb2⟩;go_wp2;go_ret;exact⟨rfl,bto hb hb2⟩
 ·obtain⟨e1,e2⟩:=E0 h;rw[Df h];generalize z % 2=r at *;go_enter func138,ntmps138;go_wp2_with fail
  refine (H1.out.of hG hb).mono ?_
  rintro e w1 ⟨rfl,hb2⟩;go_wp2;go_ret;exact⟨rfl,bto hb hb2⟩
structure AQ (q:Rat) (fl r c s:Int):Prop where
 efl:q.floor=fl
 er:q.num % q.den=r
 ec:ZH (r+r) q.den=c
 es:ZH q.num 0=s
theorem AR (q:Rat):AQ q q.floor (q.num % q.den) (UY q) (ZH q.num 0):=⟨rfl,rfl,by unfold UY;congr 1;omega,rfl⟩
theorem Qv (q:Rat):q.num % q.den=0↔q.den=1:=by
 rw[IP];have h:=EY q;have hd:=EX q;constructor
 ·intro e;rw[e] at h;rcases Rat.mul_eq_zero.1 h with h1|h1
  ·grind
  ·grind
 ·intro e;rw[<-e,Rat.sub_self,Rat.zero_mul] at h;exact (Rat.intCast_inj.1 (h.symm.trans rfl))
theorem E3 (q:Rat):ZH q.num 0<0↔q.floor<0:=by
 rw[<-Zby,Rat.lt_iff];unfold ZH;simp
 split
 ·simp_all
 ·split<;>simp_all
theorem Tm {q:Rat} {fl r c s:Int} (H:AQ q fl r c s) (h:r=0) (m:Int):rnd q m=fl:=by
 unfold rnd;rw[if_pos ((Qv q).1 (H.er.trans h)),H.efl]
theorem E4 {q:Rat} {fl r c s:Int} (H:AQ q fl r c s) (h:r≠0) {m:Int} (hu:upB fl c m=true):rnd q m=fl+1:=by
 have hc:UY q=c:=by rw[<-H.ec];unfold UY;rw[H.er];congr 1;omega
 unfold rnd;rw[if_neg (fun e=>h (H.er.symm.trans ((Qv q).2 e))),H.efl,hc,if_pos hu]
theorem E5 {q:Rat} {fl r c s:Int} (H:AQ q fl r c s) (h:r≠0) {m:Int} (hu:upB fl c m=false):rnd q m=fl:=by
 have hc:UY q=c:=by rw[<-H.ec];unfold UY;rw[H.er];congr 1;omega
 unfold rnd;rw[if_neg (fun e=>h (H.er.symm.trans ((Qv q).2 e))),H.efl,hc,if_neg (by rw[hu];decide)]
theorem IT (q:Rat):Un q.num q.den=q.num % q.den:=by unfold Un;rw[if_pos (by have:=q.den_nz;omega)]
theorem IU (q:Rat):Vb q.num q.den=q.floor:=by unfold Vb;rw[if_pos (by have:=q.den_nz;omega),Tl]
theorem MA (q:Rat):q.floor.natAbs<=q.num.natAbs:=by rw[Tl];exact Int.natAbs_ediv_le_natAbs _ _
theorem IV (q:Rat):(q.num % q.den).natAbs<q.den:=by
 have h:=q.den_nz;have h1:=Int.emod_nonneg q.num (b:=q.den) (by omega)
 have h2:=Int.emod_lt_of_pos q.num (b:=q.den) (by omega)
 omega
theorem GU {l l':List UInt8} {q:Rat} {k:Nat} (h:IsQ l l' q) (b:Bd k q) (hk:k<=90000) (m:Int) (hm:m=1) (h0:q.num % q.den=0):Ret 57 #[(Value.agg #[Zg l,Zg l']),Zi m] (.tuple #[Zg (canon (rnd q m)),Zi 0]):=fun w hG=>by
 have c1:=EC h;have hbq:=b;have hd0:(q.den:Int)≠0:=by have:=q.den_nz;omega
 have hfl:=Nat.lt_of_le_of_lt (MA q) b.1;have hmd:=Nat.lt_trans (IV q) b.2;have hde:(q.den:Int).natAbs<10 ^ k:=by rw[Int.natAbs_natCast];exact b.2
 have hrr:(q.num % q.den+q.num % q.den).natAbs<10 ^ (k+1):=by rw[Nat.pow_succ];omega
 have c2:=IQ (l:=fN q) (l':=canon q.den) (by have:=(TY b).1;omega) (ZP hde (by omega)) (by rw[Zm];exact hd0) (show Vb (val (fN q)) (val (canon q.den))=q.floor by rw[UU,Zm,IU]) (show Un (val (fN q)) (val (canon q.den))=q.num % q.den by rw[UU,Zm,IT])
 have c3:=XX (l:=canon q.floor) (l':=[49]) (ZP hfl (by omega)) (by decide) (show val (canon q.floor)+val [49]=q.floor+1 by rw[Zm];rfl)
 have c4:=ZF (l:=fN q) (l':=[]) (by have:=(TY b).1;omega) (by decide) (show ZH (val (fN q)) (val [])=ZH q.num 0 by rw[UU];rfl)
 have c5:=XX (l:=canon (q.num % q.den)) (l':=canon (q.num % q.den)) (ZP hmd (by omega)) (ZP hmd (by omega)) (show val (canon (q.num % q.den))+val (canon (q.num % q.den))=q.num % q.den+q.num % q.den by rw[Zm])
 have c6:=ZF (l:=canon (q.num % q.den+q.num % q.den)) (l':=canon q.den) (ZP hrr (by omega)) (ZP hde (by omega)) (show ZH (val (canon (q.num % q.den+q.num % q.den))) (val (canon q.den))=UY q by rw[Zm,Zm];exact (AR q).ec)
 have cE:=Za1 (l:=canon q.floor) (ZP hfl (by omega)) (Zm q.floor)
 have hf:=AR q;have hsf0:=E3 q;have x2:=Xa.new w (Zg l) (Zg l') 34;have hb:=Zh w (.cells #[Zg l,Zg l'] 34);clear hbq hd0 hfl hmd hde hrr;generalize q.floor=fl at *;generalize q.num % q.den=r at *;generalize UY q=c at *;generalize ZH q.num 0=s at *;have C1:=Lh c1;have C2:=Lh c2;have C3:=Lh c3;have C4:=Lh c4;have C5:=Lh c5;have C6:=Lh c6;have HE:=Lh cE;have HF:=Lh hf;have hsf:=Lh hsf0;clear c1 c2 c3 c4 c5 c6 cE hf b h hsf0;obtain⟨e1,e2⟩:=IS h0;have hr:=Lh h0;clear h0 hk;go_enter func57,ntmps57;have qx2_0:=x2.c0;have qx2_1:=x2.c1;go_wp2_with fail
 refine (C1.out.of hG hb).mono ?_
 rintro e w2 ⟨rfl,hb2⟩;clear qx2_0 qx2_1;replace x2:=x2.below hb2;replace hb:=bto hb hb2;clear hb2;go_wp2_with fail
 refine (C2.out.of hG hb).mono ?_
 rintro e w3 ⟨rfl,hb3⟩;replace x2:=x2.below hb3;replace hb:=bto hb hb3;clear hb3;go_wp2_with fail
 refine (C4.out.of hG hb).mono ?_
 rintro e w4 ⟨rfl,hb4⟩;replace x2:=x2.below hb4;replace hb:=bto hb hb4;clear hb4;go_wp2_with fail
 refine (C5.out.of hG hb).mono ?_
 rintro e w5 ⟨rfl,hb5⟩;replace x2:=x2.below hb5;replace hb:=bto hb hb5;clear hb5;go_wp2_with fail
 refine (C6.out.of hG hb).mono ?_
 rintro e w6 ⟨rfl,hb6⟩;replace x2:=x2.below hb6;replace hb:=bto hb hb6;clear hb6;clear x2;clear e1 e2;subst hm
 by_cases g1:0<c
 ·have g1':decide (0<c)=true:=Dt g1;have HR:=Lh (Tm HF.out hr.out 1);clear HF hsf hr;go_wp2;go_ret2;exact⟨by rw[HR.out];first|done|rfl,hb⟩
 have g1':decide (0<c)=false:=Df g1
 by_cases g2:c=0
 rotate_left
 ·have g2':(c==0)=false:=by rw[Bn];exact g2
  have HR:=Lh (Tm HF.out hr.out 1);clear HF hsf hr;go_wp2;go_ret2;exact⟨by rw[HR.out];first|done|rfl,hb⟩
 have g2':(c==0)=true:=by rw[beq_iff_eq];exact g2
 by_cases g3:fl % 2=0
 ·have g3':decide (fl % 2=0)=true:=Dt g3;have HR:=Lh (Tm HF.out hr.out 1);clear HF hsf hr;go_wp2_with fail
  refine (HE.out.of hG hb).mono ?_
  rintro e w9 ⟨rfl,hb9⟩;replace hb:=bto hb hb9;rw[g3'];go_wp2;go_ret2;exact⟨by rw[HR.out];first|done|rfl,hb⟩
 ·have g3':decide (fl % 2=0)=false:=Df g3;have HR:=Lh (Tm HF.out hr.out 1);clear HF hsf hr;go_wp2_with fail
  refine (HE.out.of hG hb).mono ?_
  rintro e w9 ⟨rfl,hb9⟩;replace hb:=bto hb hb9;rw[g3'];go_wp2;go_ret2;exact⟨by rw[HR.out];first|done|rfl,hb⟩
theorem GV {l l':List UInt8} {q:Rat} {k:Nat} (h:IsQ l l' q) (b:Bd k q) (hk:k<=90000) (m:Int) (hm:m=1) (h0:q.num % q.den≠0):Ret 57 #[(Value.agg #[Zg l,Zg l']),Zi m] (.tuple #[Zg (canon (rnd q m)),Zi 0]):=fun w hG=>by
 have c1:=EC h;have hbq:=b;have hd0:(q.den:Int)≠0:=by have:=q.den_nz;omega
 have hfl:=Nat.lt_of_le_of_lt (MA q) b.1;have hmd:=Nat.lt_trans (IV q) b.2;have hde:(q.den:Int).natAbs<10 ^ k:=by rw[Int.natAbs_natCast];exact b.2
 have hrr:(q.num % q.den+q.num % q.den).natAbs<10 ^ (k+1):=by rw[Nat.pow_succ];omega
 have c2:=IQ (l:=fN q) (l':=canon q.den) (by have:=(TY b).1;omega) (ZP hde (by omega)) (by rw[Zm];exact hd0) (show Vb (val (fN q)) (val (canon q.den))=q.floor by rw[UU,Zm,IU]) (show Un (val (fN q)) (val (canon q.den))=q.num % q.den by rw[UU,Zm,IT])
 have c3:=XX (l:=canon q.floor) (l':=[49]) (ZP hfl (by omega)) (by decide) (show val (canon q.floor)+val [49]=q.floor+1 by rw[Zm];rfl)
 have c4:=ZF (l:=fN q) (l':=[]) (by have:=(TY b).1;omega) (by decide) (show ZH (val (fN q)) (val [])=ZH q.num 0 by rw[UU];rfl)
 have c5:=XX (l:=canon (q.num % q.den)) (l':=canon (q.num % q.den)) (ZP hmd (by omega)) (ZP hmd (by omega)) (show val (canon (q.num % q.den))+val (canon (q.num % q.den))=q.num % q.den+q.num % q.den by rw[Zm])
 have c6:=ZF (l:=canon (q.num % q.den+q.num % q.den)) (l':=canon q.den) (ZP hrr (by omega)) (ZP hde (by omega)) (show ZH (val (canon (q.num % q.den+q.num % q.den))) (val (canon q.den))=UY q by rw[Zm,Zm];exact (AR q).ec)
 have cE:=Za1 (l:=canon q.floor) (ZP hfl (by omega)) (Zm q.floor)
 have hf:=AR q;have hsf0:=E3 q;have x2:=Xa.new w (Zg l) (Zg l') 34;have hb:=Zh w (.cells #[Zg l,Zg l'] 34);clear hbq hd0 hfl hmd hde hrr;generalize q.floor=fl at *;generalize q.num % q.den=r at *;generalize UY q=c at *;generalize ZH q.num 0=s at *;have C1:=Lh c1;have C2:=Lh c2;have C3:=Lh c3;have C4:=Lh c4;have C5:=Lh c5;have C6:=Lh c6;have HE:=Lh cE;have HF:=Lh hf;have hsf:=Lh hsf0;clear c1 c2 c3 c4 c5 c6 cE hf b h hsf0;obtain⟨e1,e2⟩:=E0 h0;have hr:=Lh h0;clear h0 hk;go_enter func57,ntmps57;have qx2_0:=x2.c0;have qx2_1:=x2.c1;go_wp2_with fail
 refine (C1.out.of hG hb).mono ?_
 rintro e w2 ⟨rfl,hb2⟩;clear qx2_0 qx2_1;replace x2:=x2.below hb2;replace hb:=bto hb hb2;clear hb2;go_wp2_with fail
 refine (C2.out.of hG hb).mono ?_
 rintro e w3 ⟨rfl,hb3⟩;replace x2:=x2.below hb3;replace hb:=bto hb hb3;clear hb3;go_wp2_with fail
 refine (C3.out.of hG hb).mono ?_
 rintro e w4 ⟨rfl,hb4⟩;replace x2:=x2.below hb4;replace hb:=bto hb hb4;clear hb4;go_wp2_with fail
 refine (C4.out.of hG hb).mono ?_
 rintro e w5 ⟨rfl,hb5⟩;replace x2:=x2.below hb5;replace hb:=bto hb hb5;clear hb5;go_wp2_with fail
 refine (C5.out.of hG hb).mono ?_
 rintro e w6 ⟨rfl,hb6⟩;replace x2:=x2.below hb6;replace hb:=bto hb hb6;clear hb6;go_wp2_with fail
 refine (C6.out.of hG hb).mono ?_
 rintro e w7 ⟨rfl,hb7⟩;replace x2:=x2.below hb7;replace hb:=bto hb hb7;clear hb7;clear x2;clear e1 e2;subst hm
 by_cases g1:0<c
 ·have g1':decide (0<c)=true:=Dt g1;have HR:=Lh (E4 HF.out hr.out (m:=1) (by simp[upB,g1]))
  clear HF hsf hr;go_wp2;go_ret2;exact⟨by rw[HR.out];first|done|rfl,hb⟩
 have g1':decide (0<c)=false:=Df g1
 by_cases g2:c=0
 rotate_left
 ·have g2':(c==0)=false:=by rw[Bn];exact g2
  have HR:=Lh (E5 HF.out hr.out (m:=1) (by simp[upB,g1,g2]))
  clear HF hsf hr;go_wp2;go_ret2;exact⟨by rw[HR.out];first|done|rfl,hb⟩
 have g2':(c==0)=true:=by rw[beq_iff_eq];exact g2
 by_cases g3:fl % 2=0
 ·have g3':decide (fl % 2=0)=true:=Dt g3;have HR:=Lh (E5 HF.out hr.out (m:=1) (by simp[upB,g1,g3]))
  clear HF hsf hr;go_wp2_with fail
  refine (HE.out.of hG hb).mono ?_
  rintro e w9 ⟨rfl,hb9⟩;replace hb:=bto hb hb9;rw[g3'];go_wp2;go_ret2;exact⟨by rw[HR.out];first|done|rfl,hb⟩
 ·have g3':decide (fl % 2=0)=false:=Df g3;have HR:=Lh (E4 HF.out hr.out (m:=1) (by simp[upB,g2,g3]))
  clear HF hsf hr;go_wp2_with fail
  refine (HE.out.of hG hb).mono ?_
  rintro e w9 ⟨rfl,hb9⟩;replace hb:=bto hb hb9;rw[g3'];go_wp2;go_ret2;exact⟨by rw[HR.out];first|done|rfl,hb⟩
def UJ (x:Lot):Int:=
 if idB x.id=false then 23 else if YE x.ins=false then 23 else if Wl x.acq=false then 13 else if Wl x.opn=false then 13 else if x.opn<x.acq then 8 else if ¬x.q=canon (val x.q) then 1 else if ¬x.cost=canon (val x.cost) then 1 else if ¬x.used=canon (val x.used) then 1 else if val x.q<=0 then 2 else if val x.cost<0 then 2 else if x.used=[] then 0 else if x.used=x.q then 0 else 2
structure Vh (x:Lot):Prop where
 id:x.id.length<=1000
 ins:x.ins.length<=1000
 q:x.q.length<=1000
 cost:x.cost.length<=1000
 used:x.used.length<=1000
theorem Ly (v:Int):(ZH v 0<=0↔v<=0)/\(ZH v 0<0↔v<0)/\(0<ZH v 0↔0<v)/\-1<=ZH v 0/\ZH v 0<=1:=by
 unfold ZH
 split
 ·omega
 ·split<;>omega
theorem MB {x:Lot} (h:UJ x=0):idB x.id=true/\YE x.ins=true/\Wl x.acq=true/\Wl x.opn=true/\x.acq<=x.opn/\x.q=canon (val x.q)/\x.cost=canon (val x.cost)/\x.used=canon (val x.used)/\0<val x.q/\0<=val x.cost/\(x.used=[]∨x.used=x.q):=by
 unfold UJ at h
 by_cases h0:idB x.id=false
 ·rw[if_pos h0] at h;exact absurd h (by decide)
 rw[if_neg h0] at h
 by_cases h1:YE x.ins=false
 ·rw[if_pos h1] at h;exact absurd h (by decide)
 rw[if_neg h1] at h
 by_cases h2:Wl x.acq=false
 ·rw[if_pos h2] at h;exact absurd h (by decide)
 rw[if_neg h2] at h
 by_cases h3:Wl x.opn=false
 ·rw[if_pos h3] at h;exact absurd h (by decide)
 rw[if_neg h3] at h
 by_cases h4:x.opn<x.acq
 ·rw[if_pos h4] at h;exact absurd h (by decide)
 rw[if_neg h4] at h
 by_cases h5:¬x.q=canon (val x.q)
 ·rw[if_pos h5] at h;exact absurd h (by decide)
 rw[if_neg h5] at h
 by_cases h6:¬x.cost=canon (val x.cost)
 ·rw[if_pos h6] at h;exact absurd h (by decide)
 rw[if_neg h6] at h
 by_cases h7:¬x.used=canon (val x.used)
 ·rw[if_pos h7] at h;exact absurd h (by decide)
 rw[if_neg h7] at h
 by_cases h8:val x.q<=0
 ·rw[if_pos h8] at h;exact absurd h (by decide)
 rw[if_neg h8] at h
 by_cases h9:val x.cost<0
 ·rw[if_pos h9] at h;exact absurd h (by decide)
 rw[if_neg h9] at h;refine⟨by simpa using h0,by simpa using h1,by simpa using h2,by simpa using h3,Int.not_lt.1 h4,Decidable.not_not.1 h5,Decidable.not_not.1 h6,Decidable.not_not.1 h7,Int.not_le.1 h8,Int.not_lt.1 h9,?_⟩
 by_cases h10:x.used=[]
 ·exact .inl h10
 rw[if_neg h10] at h
 by_cases h11:x.used=x.q
 ·exact .inr h11
 rw[if_neg h11] at h;exact absurd h (by decide)
def JC (x:Lot):Int:=if val x.q<=0 then 2 else if val x.cost<0 then 2 else if x.used=[] then 0 else if x.used=x.q then 0 else 2
def JD:List (List UInt8)->Int->Int
 | [],R=>R
 | r::t,R=>if r=canon (val r) then JD t R else 1
theorem GW {rs:List (List UInt8)} {k:Nat} {r:List UInt8} {R:Int} (h:rs[k]?=some r):JD (rs.drop k) R=if r=canon (val r) then JD (rs.drop (k+1)) R else 1:=by
 obtain⟨hk,rfl⟩:=Lg.1 h;rw[List.drop_eq_getElem_cons hk];rfl
theorem E6 {c:Prop} [Decidable c] {a b:Int}:(if ¬c then a else b)=if c then b else a:=by
 by_cases h:c
 ·rw[if_pos h,if_neg (fun g=>g h)]
 ·rw[if_neg h,if_pos h]
theorem AS (x:Lot):JD [x.q,x.cost,x.used] (JC x)=if ¬x.q=canon (val x.q) then 1 else if ¬x.cost=canon (val x.cost) then 1 else if ¬x.used=canon (val x.used) then 1 else if val x.q<=0 then 2 else if val x.cost<0 then 2 else if x.used=[] then 0 else if x.used=x.q then 0 else 2:=by
 simp only[JD,E6,JC]
theorem Blk.rowS {w:World} {b:Nat} {cs:Array Value} (h:Blk w b cs) (rs:List (List UInt8)) (hc:cs=(rs.map (fun r=>Zg r)).toArray):∀(k:Nat) (r:List UInt8),rs[k]?=some r->w.cell? ⟨b,k,none⟩=some (Zg r)/\b<w.heap.size:=fun k r hr=>by
 refine⟨?_,?_⟩
 ·have:=h.c k
  rw[this,hc];simp[hr]
 ·obtain⟨t,h⟩:=h;exact (Ag.1 h).1
theorem E7 {x:Lot} (hs:Vh x):WQ 181 #[(Value.agg (Zn x))] (Zi (UJ x)):=fun w hG=>by
 obtain⟨l1,l2,l3,l4,l5⟩:=hs;have hb:=Zh w (.cells (Zn x) 130);have x1:=Yq.new w x 130;have C1:=Lh (Ret.e (EW x.acq));have C2:=Lh (Ret.e (EW x.opn));have D1:=Lh (Zcm (s:=x.id) (by omega))
 have D2:=Lh (Ret.e (TH (l:=x.ins) (by omega)))
 have K1:=Lh (Ret.e (ZF (l:=x.q) (l':=[]) (by omega) (by decide) (show _=ZH (val x.q) 0 from rfl)))
 have K2:=Lh (Ret.e (ZF (l:=x.cost) (l':=[]) (by omega) (by decide) (show _=ZH (val x.cost) 0 from rfl)))
 have N0:=Lh (Ret.e (Yv (l:=x.q) (by omega) rfl))
 have N1:=Lh (Ret.e (Yv (l:=x.cost) (by omega) rfl))
 have N2:=Lh (Ret.e (Yv (l:=x.used) (by omega) rfl))
 obtain⟨E,hE⟩:∃E,E=UJ x:=⟨_,rfl⟩
 rw[<-hE];unfold UJ at hE;have HV:=Lh hE;clear hE;go_enter func181,ntmps181;clear l1 l2 l3 l4 l5;have qx1_0:=x1.c0;go_wp2_with fail
 refine (D1.out.of hG hb).mono ?_
 rintro e wa1 ⟨rfl,hba1⟩;clear qx1_0;replace x1:=x1.below hba1;replace hb:=bto hb hba1;clear hba1
 by_cases g1:idB x.id=false
 ·have e1:=g1;have HQ:Hid (E=23):=by show _=_;rw[HV.out,if_pos g1]
  clear HV g1;go_wp2;go_ret;exact⟨Z2 HQ.out.symm,hb⟩
 have e1:idB x.id=true:=by simpa using g1
 have HV1:=Lh (HV.out.trans (if_neg g1));clear HV g1;have qx1_1:=x1.c1;go_wp2_with fail
 refine (D2.out.of hG hb).mono ?_
 rintro e wa2 ⟨rfl,hba2⟩;clear qx1_1;replace x1:=x1.below hba2;replace hb:=bto hb hba2;clear hba2
 by_cases g2:YE x.ins=false
 ·have e2:=g2;have HQ:Hid (E=23):=by show _=_;rw[HV1.out,if_pos g2]
  clear HV1 g2;go_wp2;go_ret;exact⟨Z2 HQ.out.symm,hb⟩
 have e2:YE x.ins=true:=by simpa using g2
 have HV2:=Lh (HV1.out.trans (if_neg g2));clear HV1 g2;have qx1_2:=x1.c2;go_wp2_with fail
 refine (C1.out.of hG hb).mono ?_
 rintro e wa3 ⟨rfl,hba3⟩;clear qx1_2;replace x1:=x1.below hba3;replace hb:=bto hb hba3;clear hba3
 by_cases g3:Wl x.acq=false
 ·have e3:=g3;have HQ:Hid (E=13):=by show _=_;rw[HV2.out,if_pos g3]
  clear HV2 g3;go_wp2;go_ret;exact⟨Z2 HQ.out.symm,hb⟩
 have e3:Wl x.acq=true:=by simpa using g3
 have HV3:=Lh (HV2.out.trans (if_neg g3));clear HV2 g3;have qx1_3:=x1.c3;go_wp2_with fail
 refine (C2.out.of hG hb).mono ?_
 rintro e wa4 ⟨rfl,hba4⟩;clear qx1_3;replace x1:=x1.below hba4;replace hb:=bto hb hba4;clear hba4
 by_cases g4:Wl x.opn=false
 ·have e4:=g4;have HQ:Hid (E=13):=by show _=_;rw[HV3.out,if_pos g4]
  clear HV3 g4;go_wp2;go_ret;exact⟨Z2 HQ.out.symm,hb⟩
 have e4:Wl x.opn=true:=by simpa using g4
 have HV4:=Lh (HV3.out.trans (if_neg g4));clear HV3 g4
 by_cases g5:x.opn<x.acq
 ·have e5:decide (x.opn<x.acq)=true:=Dt g5;have HQ:Hid (E=8):=by show _=_;rw[HV4.out,if_pos g5]
  clear HV4 g5;have qx1_2:=x1.c2;have qx1_3:=x1.c3;go_wp2;go_ret;exact⟨Z2 HQ.out.symm,hb⟩
 have e5:decide (x.opn<x.acq)=false:=Df g5;have HV5:=Lh (HV4.out.trans (if_neg g5));clear HV4 g5;have qx1_2:=x1.c2;have qx1_3:=x1.c3;have qx1_4:=x1.c4;have qx1_5:=x1.c5;have qx1_6:=x1.c6;go_wp2_with fail;clear qx1_2 qx1_3 qx1_4 qx1_5 qx1_6;clear e1 e2 e3 e4 e5;have hbA:=Zh wa4 (.cells #[Zg x.q,Zg x.cost,Zg x.used] 32);have x9:Blk (wa4.alloc (.cells #[Zg x.q,Zg x.cost,Zg x.used] 32)) wa4.heap.size _:=Blk.new wa4 _ _;replace x1:=x1.below hbA;replace hb:=bto hb hbA;obtain⟨w0,hw0⟩:∃w0,w0=wa4.alloc (.cells #[Zg x.q,Zg x.cost,Zg x.used] 32):=⟨_,rfl⟩
 rw[<-hw0] at x1 hb x9;rw[<-hw0];have H9:=Lh (Blk.rowS x9 [x.q,x.cost,x.used] rfl);generalize wa4.heap.size=B at *;clear hw0 hbA x9;have HV:=Lh ((HV5.out).trans (AS x).symm);clear HV5
 go_loopw [4,38] (fun _ iv wr=>∃k:Nat,k<=3/\iv=Zi (k:Int)/\Hid (E=JD ([x.q,x.cost,x.used].drop k) (JC x))/\Below w0.heap.size w0 wr) (fun _ iv _=>3-(intOf iv).toNat)
 case atStart=>exact⟨0,by omega,rfl,HV.out,Below.refl _ _⟩
 case round=>
  clear HV;obtain⟨k,hk,rfl,HV,hbr⟩:=hrel;replace x1:=x1.below hbr;replace hb:=bto hb hbr
  by_cases hlk:k<3
  rotate_left
  ·have HR:Hid (E=JC x):=by show _=_;rw[HV.out,List.drop_of_length_le (by show 3<=k;omega)];rfl
   clear HV;have e1:decide (k<3)=false:=Df hlk;have e2:decide ((k:Int)<3)=false:=Df (by omega)
   have qx1_4:=x1.c4;go_wp2_with fail
   refine (K1.out.of hG hb).mono ?_
   rintro e wa5 ⟨rfl,hba5⟩;replace x1:=x1.below hba5;replace hb:=bto hb hba5;clear hba5;clear qx1_4;unfold JC at HR;generalize hc1:ZH (val x.q) 0=c1 at *;have hz1:=Ly (val x.q);rw[hc1] at hz1;clear hc1
   by_cases g1:val x.q<=0
   ·have e3:decide (c1<=0)=true:=Dt (hz1.1.2 g1);have HQ:Hid (E=2):=by show _=_;rw[HR.out,if_pos g1]
    clear HR g1 hz1;go_wp2;go_ret;exact⟨Z2 HQ.out.symm,hb⟩
   have e3:decide (c1<=0)=false:=Df (fun h=>g1 (hz1.1.1 h))
   have HR1:=Lh (HR.out.trans (if_neg g1));clear HR g1 hz1;have qx1_5:=x1.c5;go_wp2_with fail
   refine (K2.out.of hG hb).mono ?_
   rintro e wa6 ⟨rfl,hba6⟩;clear qx1_5;replace x1:=x1.below hba6;replace hb:=bto hb hba6;clear hba6;generalize hc2:ZH (val x.cost) 0=c2 at *;have hz2:=Ly (val x.cost);rw[hc2] at hz2;clear hc2
   by_cases g2:val x.cost<0
   ·have e4:decide (c2<0)=true:=Dt (hz2.2.1.2 g2);have HQ:Hid (E=2):=by show _=_;rw[HR1.out,if_pos g2]
    clear HR1 g2 hz2;go_wp2;go_ret;exact⟨Z2 HQ.out.symm,hb⟩
   have e4:decide (c2<0)=false:=Df (fun h=>g2 (hz2.2.1.1 h))
   have HR2:=Lh (HR1.out.trans (if_neg g2));clear HR1 g2 hz2
   by_cases g3:x.used=[]
   ·have e5:(x.used==[])=true:=by rw[beq_iff_eq];exact g3
    have e6:x.used.isEmpty=true:=by rw[List.isEmpty_iff];exact g3
    have HQ:Hid (E=0):=by show _=_;rw[HR2.out,if_pos g3]
    clear HR2 g3;have qx1_4:=x1.c4;have qx1_6:=x1.c6;go_wp2;go_ret;exact⟨Z2 HQ.out.symm,hb⟩
   have e5:(x.used==[])=false:=by rw[Bn];exact g3
   have e6:x.used.isEmpty=false:=by rw[List.isEmpty_eq_false_iff];exact g3
   have HR3:=Lh (HR2.out.trans (if_neg g3));clear HR2 g3
   by_cases g4:x.used=x.q
   ·have e7:(x.used==x.q)=true:=by rw[beq_iff_eq];exact g4
    have HQ:Hid (E=0):=by show _=_;rw[HR3.out,if_pos g4]
    clear HR3 g4;have qx1_4:=x1.c4;have qx1_6:=x1.c6;go_wp2;go_ret;exact⟨Z2 HQ.out.symm,hb⟩
   have e7:(x.used==x.q)=false:=by rw[Bn];exact g4
   have HQ:Hid (E=2):=by show _=_;rw[HR3.out,if_neg g4]
   clear HR3 g4;have qx1_4:=x1.c4;have qx1_6:=x1.c6;go_wp2;go_ret;exact⟨Z2 HQ.out.symm,hb⟩
  obtain⟨r,hr⟩:∃r,[x.q,x.cost,x.used][k]?=some r:=⟨_,List.getElem?_eq_getElem (show k<3 from hlk)⟩
  have CR:Hid (WQ 103 #[Zg r] (Zi (if r=canon (val r) then 0 else 1))):=by
   have hk3:k=0∨k=1∨k=2:=by omega
   rcases hk3 with rfl|rfl|rfl
   ·cases hr;exact N0
   ·cases hr;exact N1
   ·cases hr;exact N2
  have p0:=(H9.out k r hr).1;have p0':wr.cell? ⟨B,k,none⟩=some (Zg r):=(hbr.cell (p:=⟨B,k,none⟩) (H9.out k r hr).2).trans p0;clear p0;have HS:=Lh (GW (R:=JC x) hr);clear hr;have e1:decide (k<3)=true:=Dt hlk;have e2:decide ((k:Int)<3)=true:=Dt (by omega)
  go_wp2_with fail
  refine (CR.out.of hG hb).mono ?_
  rintro e wa5 ⟨rfl,hba5⟩;replace x1:=x1.below hba5;replace hb:=bto hb hba5;replace hbr:=bto hbr hba5;clear hba5
  by_cases g:r=canon (val r)
  rotate_left
  ·have HQ:Hid (E=1):=by show _=_;rw[HV.out,HS.out,if_neg g]
   rw[if_neg g];clear HV HS g;go_wp2;go_ret;exact⟨Z2 HQ.out.symm,hb⟩
  have HV1:Hid (E=JD ([x.q,x.cost,x.used].drop (k+1)) (JC x)):=by show _=_;rw[HV.out,HS.out,if_pos g]
  rw[if_pos g];clear HV HS g;go_wp2;go_roundw
  case rel=>exact⟨k+1,by omega,by go_num,HV1.out,hbr⟩
  case measure=>simp[intOf];omega
def TJ (seen:List (List UInt8)):List Lot->Int
 | []=>0
 | x::r=>if ¬UJ x=0 then UJ x else if seen.contains x.id=true then 5 else TJ (seen++[x.id]) r
def Xs (xs:List Lot):Int:=if 1000<xs.length then 4 else TJ [] xs
theorem JE {xs:List Lot} {k:Nat} {x:Lot} (h:xs[k]?=some x):TJ ((xs.take k).map (·.id)) (xs.drop k)=if ¬UJ x=0 then UJ x else if ((xs.take k).map (·.id)).contains x.id=true then 5 else TJ ((xs.take (k+1)).map (·.id)) (xs.drop (k+1)):=by
 obtain⟨hk,rfl⟩:=Lg.1 h;rw[List.drop_eq_getElem_cons hk,List.take_succ_eq_append_getElem hk];rw[List.map_append];rfl
theorem OE:∀(xs:List Lot) (seen:List (List UInt8)),TJ seen xs=0->(∀x∈xs,UJ x=0)/\(xs.map (·.id)).Nodup/\∀x∈xs,x.id∉seen
 | [],_,_=>⟨fun x hx=>(by cases hx),List.nodup_nil,fun x hx=>(by cases hx)⟩
 | x::r,seen,h=>by
  unfold TJ at h
  by_cases h0:UJ x=0
  ·rw[if_neg (fun g=>g h0)] at h
   by_cases h1:seen.contains x.id=true
   ·rw[if_pos h1] at h;exact absurd h (by decide)
   ·rw[if_neg h1] at h;obtain⟨a,b,c⟩:=OE r _ h;refine⟨fun y hy=>?_,?_,fun y hy=>?_⟩
    ·rcases List.mem_cons.1 hy with rfl|hy
     ·exact h0
     ·exact a y hy
    ·rw[List.map_cons,List.nodup_cons];refine⟨fun hm=>?_,b⟩
     obtain⟨y,hy,e⟩:=List.mem_map.1 hm;exact c y hy (by rw[e];simp)
    ·rcases List.mem_cons.1 hy with rfl|hy
     ·simpa using h1
     ·exact fun g=>c y hy (List.mem_append_left _ g)
  ·rw[if_pos h0] at h;exact absurd h h0
theorem UZ {xs:List Lot} (h:Xs xs=0):xs.length<=1000/\(∀x∈xs,UJ x=0)/\(xs.map (·.id)).Nodup:=by
 unfold Xs at h
 by_cases h1:1000<xs.length
 ·rw[if_pos h1] at h;exact absurd h (by decide)
 ·rw[if_neg h1] at h;obtain⟨a,b,-⟩:=OE xs [] h;exact⟨Nat.le_of_not_lt h1,a,b⟩
def SE (w:World) (M:Nat) (es:Array MapEntry) (c:Nat):Prop:=w.heap[M]?=some (.map es c)
theorem SE.lt {w:World} {M c:Nat} {es:Array MapEntry} (h:SE w M es c):M<w.heap.size:=(Ag.1 h).1
theorem SE.below {w w':World} {M c:Nat} {es:Array MapEntry} (h:SE w M es c) (hb:Below w.heap.size w w'):SE w' M es c:=(hb.block M h.lt).trans h
theorem SE.new (w:World):SE (w.alloc (.map #[] 0)) w.heap.size #[] 0:=by unfold SE;simp[World.alloc,-World.alloc_eq]
theorem SE.put {w:World} {M c:Nat} {es:Array MapEntry} (h:SE w M es c) (es':Array MapEntry) (c':Nat):SE { w with heap:=w.heap.setIfInBounds M (.map es' c') } M es' c':=by
 have:=h.lt
 unfold SE;simp[this]
theorem JF {w W:World} {M:Nat} {ob:Obj} (h:Below w.heap.size w W) (hl:w.heap.size<=M):Below w.heap.size w { W with heap:=W.heap.setIfInBounds M ob }:=
 ⟨h.os,h.tape,h.output,by simpa using h.size,fun k hk=>by
  show (W.heap.setIfInBounds M ob)[k]?=_;rw[Array.getElem?_setIfInBounds_ne (by omega)]
  exact h.block k hk⟩
theorem Qw (b:ByteArray):MapKept.IsKey .string (.string b):=trivial
structure Yk (w:World) (A:Option Addr) (xs:List Lot) (n:Nat):Prop where
 len:xs.length=n
 big:n<=100000
 sm:∀x∈xs,Vh x
 mem:Y7 w A xs
theorem Yk.below {w w':World} {A:Option Addr} {xs:List Lot} {n:Nat} (h:Yk w A xs n) (hb:Below w.heap.size w w'):Yk w' A xs n:=⟨h.len,h.big,h.sm,h.mem.below hb⟩
theorem V2 {w:World} {A:Option Addr} {xs:List Lot} {n:Nat} (c:Nat) (hG:GE w) (hL:Yk w A xs n) :
  Calls prog 120 #[.slice A n c] w fun e w'=>e=.returned (Zi (Xs xs))/\Below w.heap.size w w':=by
 have hn:=hL.len;have hn2:=hL.big;have HI:=Lh hL.mem;have HX:=Lh hL.sm;have hn1:xs.length<=n:=by omega
 have hn3:n<=xs.length:=by omega
 have HM:=Lh hn;obtain⟨E,hE⟩:∃E,E=Xs xs:=⟨_,rfl⟩
 rw[<-hE];unfold Xs at hE;have HV:=Lh hE;clear hE hL hn
 by_cases g1:1000<n
 ·have e1:decide (1000<n)=true:=Dt g1;have e2:decide ((1000:Int)<(n:Int))=true:=Dt (by omega)
  have HQ:Hid (E=4):=by show _=_;rw[HV.out,if_pos (by omega)]
  clear HV g1;go_enter func120,ntmps120;go_wp2;go_ret;exact⟨Z2 HQ.out.symm,Below.refl _ _⟩
 have e1:decide (1000<n)=false:=Df g1;have e2:decide ((1000:Int)<(n:Int))=false:=Df (by omega)
 have HV1:Hid (E=TJ [] xs):=by show _=_;rw[HV.out,if_neg (by omega)]
 clear HV g1;go_enter func120,ntmps120;have hmk:=fun w=>run_makeMap (P:=prog) 264 w
 go_wp2_with fail;clear hmk e1 e2;have hb0:=Zh w (.map #[] 0);have hM0:=Lh (SE.new w)
 go_loopw [5,6,13] (fun _ _ iv wr=>∃k:Nat,k<=n/\iv=Zi (k:Int)/\Hid (E=TJ ((xs.take k).map (·.id)) (xs.drop k))/\Hid (SE wr w.heap.size (UF ((xs.take k).map (·.id))) k)/\Below w.heap.size w wr) (fun _ _ iv _=>n-(intOf iv).toNat)
 case atStart=>exact⟨0,Nat.zero_le _,rfl,HV1.out,hM0.out,hb0⟩
 case round=>
  clear HV1 hM0 hb0;obtain⟨k,hk,rfl,HV,HB,hb⟩:=hrel
  by_cases hlk:k<n
  rotate_left
  ·have HQ:Hid (E=0):=by show _=_;rw[HV.out,List.drop_of_length_le (by omega)];rfl
   have e1:decide (k<n)=false:=Df hlk;clear HV HB;go_wp2;go_ret;exact⟨Z2 HQ.out.symm,hb⟩
  have e1:decide (k<n)=true:=Dt hlk;obtain⟨x,hxk⟩:∃x,xs[k]?=some x:=⟨_,List.getElem?_eq_getElem (by omega)⟩
  obtain⟨b,o,rfl,hbs,hc0⟩:=(HI.out.below hb) k x hxk;have HD:=Lh (JE hxk);have hsm:=HX.out x (Lm hxk);have HT:Hid ((xs.take (k+1)).map (·.id)=(xs.take k).map (·.id)++[x.id]):=by
   show _=_;obtain⟨hk',rfl⟩:=Lg.1 hxk;rw[List.take_succ_eq_append_getElem hk',List.map_append];rfl
  have HLl:Hid (((xs.take k).map (·.id)).length=k):=by show _=_;rw[List.length_map,List.length_take];omega
  obtain⟨sn,hsn⟩:∃sn,sn=(xs.take k).map (·.id):=⟨_,rfl⟩
  rw[<-hsn] at HB HD HV HT HLl;have C1:=Lh (E7 hsm);clear hxk hsn hsm;have p0:=hc0.c0;have p1:=hc0.c1;have p2:=hc0.c2;have p3:=hc0.c3;have p4:=hc0.c4;have p5:=hc0.c5;have p6:=hc0.c6;have hbA:=Zh wr (.cells (Zn x) 130);have x5:=Yq.new wr x 130;replace hb:=bto hb hbA;replace HB:=Lh (HB.out.below hbA);clear hbA;go_wp2_with fail
  refine (C1.out.of hG hb).mono ?_
  rintro e w1 ⟨rfl,hb1⟩;clear p0 p1 p2 p3 p4 p5 p6 hc0 C1;replace hb:=bto hb hb1;replace HB:=Lh (HB.out.below hb1);replace x5:=x5.below hb1;clear hb1
  by_cases g2:UJ x=0
  rotate_left
  ·have e3:(UJ x==0)=false:=by rw[Bn];exact g2
   have e4:=V0 e3;have HQ:Hid (E=UJ x):=by show _=_;rw[HV.out,HD.out,if_pos g2]
   clear g2 HV HD HB x5;go_wp2;go_ret;exact⟨Z2 HQ.out.symm,hb⟩
  have e3:(UJ x==0)=true:=by rw[beq_iff_eq];exact g2
  have e4:=Zbt e3;have HV2:Hid (E=if sn.contains x.id=true then 5 else TJ ((xs.take (k+1)).map (·.id)) (xs.drop (k+1))):=by show _=_;rw[HV.out,HD.out,if_neg (fun h=>h g2)]
  clear g2 HV HD;have q0:=x5.c0;have hf:=SC x.id sn 0 0
  by_cases g3:sn.contains x.id=true
  ·have HQ:Hid (E=5):=by show _=_;rw[HV2.out,if_pos g3]
   rw[if_pos g3] at hf;have hlook:=Up (P:=prog) (mty:=264) (key:=Zg x.id) underlying264 underlying9 (Qw _) HB.out (by simpa [UF] using hf) false
   clear g3 HV2 hf HB;go_wp2;go_ret;exact⟨Z2 HQ.out.symm,hb⟩
  ·have HQ:Hid (E=TJ ((xs.take (k+1)).map (·.id)) (xs.drop (k+1))):=by show _=_;rw[HV2.out,if_neg g3]
   rw[if_neg g3] at hf;have hlook:=TI (P:=prog) (mty:=264) (key:=Zg x.id) underlying264 underlying9 (Qw _) HB.out (zeroValue4 w1) (by simpa [UF] using hf) false
   have hput:=UX (P:=prog) (mty:=264) (key:=Zg x.id) (val:=.bool true) underlying264 underlying9 (Qw _) HB.out (by simpa [UF] using hf)
   have HB2:=Lh (HB.out.put ((UF sn).push { key:=Zg x.id,val:=.bool true,born:=k }) (k+1));have hb2:=JF (M:=w.heap.size) (ob:=.map ((UF sn).push { key:=Zg x.id,val:=.bool true,born:=k }) (k+1)) hb (Nl _);obtain⟨W,hW⟩:∃W:World,W={ w1 with heap:=w1.heap.setIfInBounds w.heap.size (.map ((UF sn).push { key:=Zg x.id,val:=.bool true,born:=k }) (k+1)) }:=⟨_,rfl⟩
   rw[<-hW] at hput HB2 hb2;have HS:Hid (UF (sn++[x.id])=(UF sn).push { key:=Zg x.id,val:=.bool true,born:=k }):=by show _=_;rw[Jz,HLl.out]
   clear g3 HV2 hf HB hW hb HLl;go_wp2;go_roundw
   case rel=>exact⟨k+1,by omega,by go_num,HQ.out,(by rw[HT.out,HS.out];exact HB2.out),hb2⟩
   case measure=>simp[intOf];omega
open Go.Shelf
attribute [local go_sem] Oper.semAt_some
theorem NG (xs ys:List Lot):Yg (xs++ys)=Yg xs++Yg ys:=List.flatMap_append
theorem Vs:∀xs:List Lot,(Yg xs).length=xs.length*7
 | []=>rfl
 | x::r=>by
  have:=Vs r
  unfold Yg at this ⊢;rw[List.flatMap_cons,List.length_append,this];simp;omega
theorem V3 (xs:List Lot):∀u∈Yg xs,u.oneCell'=true:=by
 intro u hu;obtain⟨x,-,hx⟩:=List.mem_flatMap.1 hu;simp at hx;rcases hx with rfl|rfl|rfl|rfl|rfl|rfl|rfl<;>rfl
theorem U0:(prog.info? 130).map (fun i=>(i.zero,i.size,i.bytes))=some (some (.agg #[Zj,Zj,Zi 0,Zi 0,Zj,Zj,Zj]),7,96):=by kernel_rfl
def E8 (w:World) (gf:Nat) (lb:Array Value) (qs:List Lot):Prop:=
 ∀(m lw:Nat) (S:List Lot->World->Prop),(∀ys W,S ys W->Below w.heap.size w W)->(∀ys W W',S ys W->Below W.heap.size W W'->S ys W')->
  (∀ys y W,S ys W->qs[ys.length]?=some y->YieldAt Fence.wide (m-1) prog lw #[(Value.agg (Zn y))] W fun e W'=>e=.returned (.bool true)/\S (ys++[y]) W')->
  ∀W,S [] W->CallsIn Fence.wide m prog gf (#[.func (.yield lw) #[] #[]]++lb) W fun e W'=>(∃v,e=.returned v)/\S qs W'
structure CoL (w:World) (R:Loop) (d l:Nat) (ys:List Lot) (W:World):Prop where
 below:Below w.heap.size w W
 loop:W.heap[l]?=some (.loop R)
 dfr:W.heap[d]?=some (.deferred (some []))
 row:∃v,Boxed W w.heap.size 44 v/\W.ownsRow w.heap.size 130 7 v ys.length (Yg ys)
section
variable {w W W':World} {R:Loop} {d l:Nat} {ys:List Lot}
theorem CoL.mono (h:CoL w R d l ys W) (hb:Below W.heap.size W W'):CoL w R d l ys W':=
 ⟨bto h.below hb,(hb.block _ (Ag.1 h.loop).1).trans h.loop,(hb.block _ (Ag.1 h.dfr).1).trans h.dfr,by
  obtain⟨v,h1,h2⟩:=h.row
  exact⟨v,(hb.block _ h1.lt).trans h1,Yt h2 hb⟩⟩
theorem CoL.done {R1 R2:Loop} (hR:R2=R) (hl:l≠d/\l≠w.heap.size/\w.heap.size<=l) (h:CoL w R1 d l ys W):CoL w R d l ys (W.putObj l (.loop R2)):=by
 subst hR;refine⟨XD h.below hl.2.2,World.putObj_heap_same (Ag.1 h.loop).1,(World.putObj_heap_other (by omega)).trans h.dfr,?_⟩
 obtain⟨v,h1,h2⟩:=h.row;exact⟨v,(World.putObj_heap_other (Ne.symm hl.2.1)).trans h1,ownsRow_putObj h2 _ h.loop rfl⟩
end
theorem JG (gf:Nat) (lb:Array Value) (qs:List Lot) (w:World) (hEn:∀args w,(callFunc gf args).run prog w=.ok (.enter gf args) w) (hI:E8 w gf lb qs) (hM:qs.length<=100000) :
  Calls prog 238 #[.slice none 0 0,.func (.func gf) #[] lb] w fun e w'=>∃v,e=.returned v/\w'.ownsRow w.heap.size 130 7 v qs.length (Yg qs)/\Below w.heap.size w w':=by
 have HI:=Lh hI;have HE:=Lh hEn;obtain⟨i0,hi,hz0,hz1,hz2⟩:=info_parts U0;have hb0:=Zh w (.cells #[.slice none 0 0] 44);clear hI hEn;refine (callsIn_wide (n:=5)).1 ?_;refine callsIn_of_wp_marks func238 rfl trivial ?_ rfl;simp only[ntmps238,List.size_toArray,List.length_cons,List.length_nil,Nat.reduceAdd,Nat.reduceSub,Array.replicate_succ,Array.replicate_zero,List.push_toArray,List.append_toArray,List.nil_append,List.cons_append]
 gi_wp2_with fail
 refine VA (gf:=gf) (lb:=lb) rfl HE.out ?_;intro fn R hR;obtain⟨W0,hW0⟩:∃W0,W0=w.alloc (.cells #[.slice none 0 0] 44):=⟨_,rfl⟩
 have hsz:W0.heap.size=w.heap.size+1:=by rw[hW0];simp only[World.size_alloc]
 have x2:Boxed W0 w.heap.size 44 (.slice none 0 0):=by rw[hW0];exact Boxed.new _ _ _
 rw[<-hW0] at hR hb0 ⊢;clear hW0;obtain⟨W1,hW1⟩:∃W1,W1=(W0.alloc (.deferred (some []))).alloc (.loop R):=⟨_,rfl⟩
 have hbB:Below W0.heap.size W0 W1:=by rw[hW1];exact bto (Zh _ _) (Zh _ _)
 have hD:W1.heap[W0.heap.size]?=some (.deferred (some [])):=by rw[hW1];exact (Below.heap_alloc _ _ _ (by simp)).trans (World.alloc_heap_new _ _)
 have hL:W1.heap[W0.heap.size+1]?=some (.loop R):=by
  rw[hW1]
  have:=World.alloc_heap_new (W0.alloc (.deferred (some []))) (.loop R)
  rwa [World.size_alloc] at this
 rw[<-hW1];obtain⟨l,hl⟩:∃l,l=W0.heap.size+1:=⟨_,rfl⟩
 obtain⟨d,hd⟩:∃d,d=W0.heap.size:=⟨_,rfl⟩
 rw[<-hl] at hL ⊢;rw[<-hd] at hD hR ⊢;have hS0:CoL w R d l [] W1:=⟨bto hb0 hbB,hL,hD,⟨_,(hbB.block _ x2.lt).trans x2,World.ownsRow_nil _ _ _ 7⟩⟩;have n1:l≠d/\l≠w.heap.size/\w.heap.size<=l:=by omega
 have n3:w.heap.size<=d/\d≠w.heap.size:=by omega
 clear hW1 hbB hD hL x2 hb0 hsz hl hd;have hY:∀ys y W,CoL w R d l ys W->qs[ys.length]?=some y->YieldAt Fence.wide (5-1-1) prog l #[(Value.agg (Zn y))] W fun e W'=>e=.returned (.bool true)/\CoL w R d l (ys++[y]) W':=by
  intro ys y W hS hyb;have hlen:=(Lg.1 hyb).1;have hy:=run_yield (P:=prog) (args:=#[(Value.agg (Zn y))]) hS.loop (by rw[hR];rfl)
  refine⟨R.fn,_,R.assign,R.body,hy,roundIn_of_wpIn trivial ?_⟩;have hlW:=(Ag.1 hS.loop).1;have hSa:=hS.mono (Zh W (.cells (Zn y) 130));have hbr:=run_beginRound (P:=prog) hSa.loop (by rw[hR])
  have hS1:CoL w { R with state:=.busy } d l ys ((W.alloc (.cells (Zn y) 130)).putObj l (.loop { R with state:=.busy })):=CoL.done rfl n1 hSa
  have x4:Blk ((W.alloc (.cells (Zn y) 130)).putObj l (.loop { R with state:=.busy })) W.heap.size (Zn y):=(Blk.new W _ 130).putO (by omega)
  obtain⟨Wc,hWc⟩:∃Wc,Wc=(W.alloc (.cells (Zn y) 130)).putObj l (.loop { R with state:=.busy }):=⟨_,rfl⟩
  rw[<-hWc] at hbr hS1 x4;have hRe:({ { R with state:=.busy } with state:=.ready,pending:=none }:Loop)=R:=by rw[hR]
  obtain⟨R1,hR1⟩:∃R1,R1={ R with state:=.busy }:=⟨_,rfl⟩
  rw[<-hR1] at hS1 hRe;obtain⟨v,hv,hrow⟩:=hS1.row;have hbc:=hS1.below;have hc:=hv.cell;have p0:Wc.cell? ⟨W.heap.size,0,none⟩=some (Zg y.id):=x4.c 0;have p1:Wc.cell? ⟨W.heap.size,1,none⟩=some (Zg y.ins):=x4.c 1;have p2:Wc.cell? ⟨W.heap.size,2,none⟩=some (Zi y.acq):=x4.c 2;have p3:Wc.cell? ⟨W.heap.size,3,none⟩=some (Zi y.opn):=x4.c 3;have p4:Wc.cell? ⟨W.heap.size,4,none⟩=some (Zg y.q):=x4.c 4;have p5:Wc.cell? ⟨W.heap.size,5,none⟩=some (Zg y.cost):=x4.c 5;have p6:Wc.cell? ⟨W.heap.size,6,none⟩=some (Zg y.used):=x4.c 6;have HBr:=Lh hbr;have HRe:=Lh hRe;have HS2:=Lh hS1;clear hWc hbr hy hS hSa hlW hS1 hRe hR1 hS0;rw[hR]
  gi_wp2
  refine⟨_,HBr.out,?_⟩
  gi_wp2_with (gi_at_builtin;refine wpListIn_append_own _ rfl _ _ 44 rfl w.heap.size 130 i0 (.agg #[Zj,Zj,Zi 0,Zi 0,Zj,Zj,Zj]) 7 96 underlying44 hi hz0 hz1 hz2 rfl (by decide) _ _ _ rfl (Yt hrow (Zh _ _)) ⟨Wc.heap.size,0,none⟩ 1 1 (Zn y).toList rfl rfl ?c1 ?c2 ?c3 ?c4 ?c5 ?_)
  try (case c1=>
    intro j u hu
    match j with
    | 0=>simp at hu;subst hu;rw[Lib.add_plain];simp[go_sem]
    | 1=>simp at hu;subst hu;rw[Lib.add_plain];simp[go_sem]
    | 2=>simp at hu;subst hu;rw[Lib.add_plain];simp[go_sem]
    | 3=>simp at hu;subst hu;rw[Lib.add_plain];simp[go_sem]
    | 4=>simp at hu;subst hu;rw[Lib.add_plain];simp[go_sem]
    | 5=>simp at hu;subst hu;rw[Lib.add_plain];simp[go_sem]
    | 6=>simp at hu;subst hu;rw[Lib.add_plain];simp[go_sem]
    | j+7=>simp at hu)
  case c2=>exact⟨rfl,rfl,rfl,rfl,rfl,rfl,rfl⟩
  case c3=>unfold maxLen;omega
  case c4=>omega
  case c5=>have:=hbc.size;simp;omega
  intro v' w1 hown' hgrow _;obtain⟨g',cap',rfl⟩:=ownsRow_succ hown';obtain⟨hv1,hv2,hr2,hk2,hb2⟩:=hv.appended (by decide) hrow hbc.size (Nl _) hown' hgrow
  have hc1:=hv1.cell;have hf1:=hv1.frozen;have HGO:Hid (CoL w R1 d l (ys++[y]) (w1.setCell ⟨w.heap.size,0,none⟩ (.slice (some ⟨g',0,none⟩) (ys.length+1) cap'))):=by
   refine⟨hbc.trans hb2,hk2.same _ _ HS2.out.loop rfl,hk2.same _ _ HS2.out.dfr rfl,_,hv2,?_⟩;have e1:(ys++[y]).length=ys.length+1:=by simp
   have e2:Yg (ys++[y])=Yg ys++(Zn y).toList:=by
    rw[NG];rfl
   rw[e1,e2];exact hr2
  clear hown' hgrow hv1 hv2 hr2 hk2 hb2 hv hrow hc p0 p1 p2 p3 p4 p5 p6 HS2 x4
  gi_wp2
  exact⟨_,_,run_endRound (P:=prog) none HGO.out.loop,rfl,CoL.done (HRe.out.trans hR) n1 HGO.out⟩
 have key:=HI.out (5-1) l (CoL w R d l) (fun ys W h=>h.below) (fun ys W W' h hb=>h.mono hb) hY W1 hS0
 refine key.mono ?_;rintro e W2 ⟨hv,hS2⟩;refine⟨hv,hS2.loop,?_⟩;have hS3:CoL w { R with state:=.exhausted } d l qs (W2.putObj l (.loop { R with state:=.exhausted })):=CoL.done rfl n1 hS2
 obtain⟨W3,hW3⟩:∃W3,W3=W2.putObj l (.loop { R with state:=.exhausted }):=⟨_,rfl⟩
 rw[<-hW3] at hS3 ⊢;obtain⟨v,hv,hrow⟩:=hS3.row;have q0:=hv.cell;have hD5:=hS3.dfr;have hb5:=hS3.below;have HR:=Lh (ownsRow_putObj hrow (.deferred none) hD5 rfl);clear hW3 hS3 key hY hS2 hS0 hrow HI
 gi_wp2
 refine⟨by simp,.inl ⟨_,_,rfl,run_takeDeferred hD5,?_⟩⟩
 refine⟨_,results_tmp rfl _ _ _,v,rfl,HR.out,XD hb5 n3.1⟩
theorem E9 (gf:Nat) (lb:Array Value) (qs:List Lot) (w:World) (hEn:∀args w,(callFunc gf args).run prog w=.ok (.enter gf args) w) (hI:E8 w gf lb qs) (hM:qs.length<=100000) :
  Calls prog 187 #[.func (.func gf) #[] lb] w fun e w'=>∃v,e=.returned v/\w'.ownsRow w.heap.size 130 7 v qs.length (Yg qs)/\Below w.heap.size w w':=by
 have C1:=Lh (JG gf lb qs w hEn hI hM);clear hEn hI;go_enter func187,ntmps187;go_wp2_with fail;refine C1.out.mono ?_;rintro e w2 ⟨v,rfl,h1,h2⟩;go_wp2;go_ret;exact⟨_,rfl,h1,h2⟩
end Go.Proofs.YtpieeldbamklkaaGreatDoor
namespace Go.Proofs.YtpieeldbamklkaaGreatDoor
open Go.RowKit
section
variable {P:Program} {ops:Array Oper} {md:Region.Mode}
structure Zz (X:Nat->Prop) (w w':World):Prop where
 os:w'.os=w.os
 tape:w'.tape=w.tape
 output:w'.output=w.output
 size:w.heap.size<=w'.heap.size
 block:∀k,k<w.heap.size->¬X k->w'.heap[k]?=w.heap[k]?
variable {X:Nat->Prop}
theorem Zz.lower {w0 w w':World} (h:Zz X w w') (hb:Below w0.heap.size w0 w) (hX:∀k,X k->w0.heap.size<=k):Below w0.heap.size w0 w':=
 ⟨h.os.trans hb.os,h.tape.trans hb.tape,h.output.trans hb.output,Nt hb.size h.size,fun k hk=>(h.block k (Nat.lt_of_lt_of_le hk hb.size) (fun hx=>by have:=hX k hx;omega)).trans (hb.block k hk)⟩
theorem Blk.keepX {w w':World} {b:Nat} {cs:Array Value} (h:Blk w b cs) (hb:Zz X w w') (hx:¬X b):Blk w' b cs:=by
 have hl:=h.lt;obtain⟨t,h⟩:=h;exact⟨t,(hb.block b hl hx).trans h⟩
end
section
variable {P:Program} {ops:Array Oper} {C:World->Prop} {Q:St->Bx->Prop} {rest:List Oper} {i:Nat} {a:St} {B:Bx} {o:Oper}
theorem IW (w:World) (b j:Nat) (cs:Array Value) (x:Value) (t:TypeId) (h:w.heap[b]?=some (.cells cs t (0,0))):Xw w (w.setCell ⟨b,j,none⟩ x) b (.cells (cs.setIfInBounds j x) t (0,0)):=by
 refine⟨rfl,rfl,rfl,by simp,?_,fun k hk=>Below.heap_setCell w ⟨b,j,none⟩ x k hk⟩
 obtain⟨hlt,hk⟩:=Ag.1 h;show (w.heap.modify b _)[b]?=_;rw[Array.getElem?_eq_getElem (by rw[Array.size_modify];exact hlt),Array.getElem_modify_self,hk]
 rfl
section
variable {md:Region.Mode}
end
end
end Go.Proofs.YtpieeldbamklkaaGreatDoor
