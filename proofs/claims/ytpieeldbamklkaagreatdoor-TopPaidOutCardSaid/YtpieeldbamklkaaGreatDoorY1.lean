/- Texts put together: Bh Ia Ib Oa Ob Bs Sa Od Dp Da Oe Of Ic Bx Bq Br Bt. -/
import Derived.Test.YtpieeldbamklkaaGreatDoorYBk
import Derived.Test.YtpieeldbamklkaaGreatDoorYBe
import Derived.Laws.IdiomStrings
import Derived.MapKept
import Derived.Maps.OwnOps
import Derived.Shelf.Strings.Trim
import Derived.Shelf.Strconv.Itoa3
import Derived.Shelf.Strings.Search3
import Derived.Shelf.Strings.Prefix
import Derived.Lib.AppendIntMem
import Derived.Shelf.Strings.Cut
import Derived.Shelf.Strconv.AtoiAll
set_option maxHeartbeats 4000000
set_option maxRecDepth 100000
open Go.Proofs.Tryz
namespace Go.Proofs.YtpieeldbamklkaaGreatDoor
open Go.RowKit Num
theorem Ti {p:UInt8->Bool} {r:List UInt8} {k:Nat} {x:UInt8} (h:(r.take k).all p=true) (hx:r[k]?=some x) (h1:p x=true):(r.take (k+1)).all p=true:=by
 obtain⟨hk,rfl⟩:=Lg.1 hx;rw[List.take_succ_eq_append_getElem hk,List.all_append,h];simp[h1]
theorem Mi {p:UInt8->Bool} {r:List UInt8} {k:Nat} {x:UInt8} (hx:r[k]?=some x) (h1:p x=false):r.all p=false:=by
 rw[List.all_eq_false];exact⟨x,Lm hx,by simp[h1]⟩
theorem ZV {a b:Bool} (h:a=b):Ending.returned (.bool a)=.returned (.bool b):=by rw[h]
theorem ZaQ {a b:Int} (h:(a==b)=true):(a != b)=false:=by simp[bne,h]
theorem UG {a b:Int} (h:(a==b)=false):(a != b)=true:=by simp[bne,h]
theorem YH {b:Bool} (h:¬b=true):b=false:=by cases b<;>simp_all
theorem ZU {a b:Int} (h:a=b):Ending.returned (.int .i64 a)=.returned (.int .i64 b):=by rw[h]
def Blk (w:World) (b:Nat) (cs:Array Value):Prop:=∃t,w.heap[b]?=some (.cells cs t (0,0))
section
variable {w w':World} {b:Nat} {cs:Array Value}
theorem Blk.new (w:World) (cs:Array Value) (t:TypeId):Blk (w.alloc (.cells cs t)) w.heap.size cs:=⟨t,heap_alloc_new w _⟩
theorem Blk.below (h:Blk w b cs) (hb:Below w.heap.size w w'):Blk w' b cs:=by
 obtain⟨t,h⟩:=h;exact⟨t,(hb.block b (Ag.1 h).1).trans h⟩
theorem Blk.c (h:Blk w b cs) (i:Nat):w.cell? ⟨b,i,none⟩=cs[i]?:=by
 obtain⟨t,h⟩:=h;exact Zg h i
theorem Blk.f (h:Blk w b cs) (i:Nat):w.frozen? ⟨b,i,none⟩=false:=by
 obtain⟨t,h⟩:=h;exact Zn h i
theorem Blk.lt (h:Blk w b cs):b<w.heap.size:=by
 obtain⟨t,h⟩:=h;exact (Ag.1 h).1
end
theorem Qu {a b:Int} (h:¬a=b):(a==b)=false:=by rw[Bn];exact h
def Nj (c:UInt8):Bool:=(decide (97<=c.toNat)&&decide (c.toNat<=122))||(decide (48<=c.toNat)&&decide (c.toNat<=57))||decide (c.toNat=95)
def YL (l:List UInt8):Bool:=decide (1<=l.length)&&decide (l.length<=16)&&l.all Nj
def ZcU (c:UInt8):Bool:=decide (65<=c.toNat)&&decide (c.toNat<=90)
def XV (d:Int):Bool:=decide (-25567<=d)&&decide (d<=84005)
theorem Jk (l:List UInt8) (w:World):∃(cap:Nat) (C:Array Value),(convert 9 214 (.string ⟨l.toArray⟩)).run prog w=.ok (.slice (some ⟨w.heap.size,0,none⟩) l.length cap) (w.drew.alloc (.cells C 5 (C.size,C.size+1)))/\
  ∀(j:Nat) (x:UInt8),l[j]?=some x->(w.alloc (.cells C 5 (C.size,C.size+1))).cell? ⟨w.heap.size,j,none⟩=some (.int .u8 (x.toNat:Int)):=by
 have h:=run_bytes_of_string (P:=prog) w 9 214 5 ⟨l.toArray⟩ underlying9 underlying214 underlying5;have hs:(⟨l.toArray⟩:ByteArray).size=l.length:=by show l.toArray.size=_;simp
 rw[hs] at h;refine⟨_,_,h,fun j x hx=>?_⟩
 obtain⟨hj,rfl⟩:=Lg.1 hx;rw[World.cell?_alloc_mark,bytesRow_at _ _ _ (by simpa using hj)]
 simp
theorem XW (c:UInt8):Nj c=true↔(97<=c.toNat/\c.toNat<=122)∨(48<=c.toNat/\c.toNat<=57)∨c.toNat=95:=by simp[Nj,or_assoc]
theorem P4 {l:List UInt8} (hl:l.length<=1000000):Ret 86 #[.string ⟨l.toArray⟩] (.bool (YL l)):=fun w hG=>by
 by_cases h1:l.length=0
 ·have k2:((l.length:Int)==0)=true:=by rw[beq_iff_eq];omega
  have HV:Hid (YL l=false):=by show _=_;unfold YL;rw[Df (by omega),Bool.false_and,Bool.false_and]
  clear h1;go_enter func86,ntmps86;go_wp2;go_ret;exact⟨ZV HV.out.symm,Below.refl _ _⟩
 by_cases h2:16<l.length
 ·have k2:((l.length:Int)==0)=false:=by rw[Bn];omega
  have k3:decide (16<l.length)=true:=Dt h2;have HV:Hid (YL l=false):=by show _=_;unfold YL;rw[Df (p:=l.length<=16) (by omega),Bool.and_false,Bool.false_and]
  clear h1;go_enter func86,ntmps86;go_wp2;go_ret;exact⟨ZV HV.out.symm,Below.refl _ _⟩
 obtain⟨cap,C,hconv,hcell⟩:=Jk l w;have HC:=Lh hcell;have k2:((l.length:Int)==0)=false:=by rw[Bn];omega
 have k3:decide (16<l.length)=false:=Df h2;have HV:Hid (∀b,l.all Nj=b->YL l=b):=by intro b hb;unfold YL;rw[hb,Dt (by omega),Dt (by omega)];rfl
 have hb:Below w.heap.size w (w.alloc (.cells C 5 (C.size,C.size+1))).drew:=bto (Zb _ _) (bdr _);clear hcell h1;go_enter func86,ntmps86;go_wp2_with fail;clear hconv k2 k3 h2
 go_loop [16] (fun iv=>∃k:Nat,k<=l.length/\iv=.int .i64 (k:Int)/\Hid ((l.take k).all Nj=true)) (fun iv=>l.length-(intOf iv).toNat)
 case atStart=>exact⟨0,Nat.zero_le _,rfl,rfl⟩
 case round=>
  obtain⟨k,hk,rfl,HK⟩:=hrel
  by_cases hlt:k<l.length
  ·obtain⟨x,hx⟩:∃x,l[k]?=some x:=⟨_,List.getElem?_eq_getElem hlt⟩
   have hc:=HC.out k x hx;have HX:=Lh hx;clear hx
   by_cases d1:(x.toNat:Int)<97
   ·have ed1:decide ((x.toNat:Int)<97)=true:=Dt d1
    by_cases d3:(x.toNat:Int)<48
    ·have ed3:decide ((x.toNat:Int)<48)=true:=Dt d3
     by_cases d5:x.toNat=95
     ·have e5:((x.toNat:Int)==95)=true:=by rw[beq_iff_eq];omega
      have e6:((x.toNat:Int) != 95)=false:=ZaQ e5;go_wp2
      go_round
      case rel=>exact⟨k+1,by omega,by go_num,Ti HK.out HX.out ((XW _).2 (by omega))⟩
      case measure=>simp[intOf];omega
     ·have e5:((x.toNat:Int)==95)=false:=by rw[Bn];omega
      have e6:((x.toNat:Int) != 95)=true:=UG e5;go_wp2;go_ret;exact⟨ZV (HV.out _ (Mi HX.out (YH (fun h=>by have:=(XW _).1 h;omega)))).symm,hb⟩
    ·have ed3:decide ((x.toNat:Int)<48)=false:=Df d3
     by_cases d4:57<(x.toNat:Int)
     ·have ed4:decide (57<(x.toNat:Int))=true:=Dt d4
      by_cases d5:x.toNat=95
      ·have e5:((x.toNat:Int)==95)=true:=by rw[beq_iff_eq];omega
       have e6:((x.toNat:Int) != 95)=false:=ZaQ e5;go_wp2
       go_round
       case rel=>exact⟨k+1,by omega,by go_num,Ti HK.out HX.out ((XW _).2 (by omega))⟩
       case measure=>simp[intOf];omega
      ·have e5:((x.toNat:Int)==95)=false:=by rw[Bn];omega
       have e6:((x.toNat:Int) != 95)=true:=UG e5;go_wp2;go_ret;exact⟨ZV (HV.out _ (Mi HX.out (YH (fun h=>by have:=(XW _).1 h;omega)))).symm,hb⟩
     ·have ed4:decide (57<(x.toNat:Int))=false:=Df d4;go_wp2
      go_round
      case rel=>exact⟨k+1,by omega,by go_num,Ti HK.out HX.out ((XW _).2 (by omega))⟩
      case measure=>simp[intOf];omega
   ·have ed1:decide ((x.toNat:Int)<97)=false:=Df d1
    by_cases d2:122<(x.toNat:Int)
    ·have ed2:decide (122<(x.toNat:Int))=true:=Dt d2;have e3:decide ((x.toNat:Int)<48)=false:=Df (by omega)
     have d3:¬(x.toNat:Int)<48:=by omega
     have e4:decide (57<(x.toNat:Int))=true:=Dt (by omega)
     have d4:57<(x.toNat:Int):=by omega
     have e5:((x.toNat:Int)==95)=false:=by rw[Bn];omega
     have e6:((x.toNat:Int) != 95)=true:=UG e5;have d5:¬x.toNat=95:=by omega
     go_wp2;go_ret;exact⟨ZV (HV.out _ (Mi HX.out (YH (fun h=>by have:=(XW _).1 h;omega)))).symm,hb⟩
    ·have ed2:decide (122<(x.toNat:Int))=false:=Df d2;go_wp2
     go_round
     case rel=>exact⟨k+1,by omega,by go_num,Ti HK.out HX.out ((XW _).2 (by omega))⟩
     case measure=>simp[intOf];omega
  ·have HK':Hid (l.all Nj=true):=by have:=HK.out;rw[List.take_of_length_le (by omega)] at this;exact this
   clear HK;go_wp2;go_ret;exact⟨ZV (HV.out _ HK'.out).symm,hb⟩
structure Lot where
 id:List UInt8
 ins:List UInt8
 acq:Int
 opn:Int
 q:List UInt8
 cost:List UInt8
 used:List UInt8
 deriving DecidableEq
def YS (w:World) (b:Nat) (x:Lot):Prop:=Blk w b #[.string ⟨x.id.toArray⟩,.string ⟨x.ins.toArray⟩,.int .i64 x.acq,.int .i64 x.opn,.string ⟨x.q.toArray⟩,.string ⟨x.cost.toArray⟩,.string ⟨x.used.toArray⟩]
section
variable {w w':World} {b:Nat} {x:Lot}
theorem YS.new (w:World) (x:Lot) (t:TypeId):YS (w.alloc (.cells #[.string ⟨x.id.toArray⟩,.string ⟨x.ins.toArray⟩,.int .i64 x.acq,.int .i64 x.opn,.string ⟨x.q.toArray⟩,.string ⟨x.cost.toArray⟩,.string ⟨x.used.toArray⟩] t)) w.heap.size x:=Blk.new w _ t
theorem YS.below (h:YS w b x) (hb:Below w.heap.size w w'):YS w' b x:=Blk.below h hb
theorem YS.c0 (h:YS w b x):w.cell? ⟨b,0,none⟩=some (Value.string ⟨x.id.toArray⟩):=Blk.c h 0
theorem YS.c1 (h:YS w b x):w.cell? ⟨b,1,none⟩=some (Value.string ⟨x.ins.toArray⟩):=Blk.c h 1
theorem YS.c2 (h:YS w b x):w.cell? ⟨b,2,none⟩=some (Value.int .i64 x.acq):=Blk.c h 2
theorem YS.c3 (h:YS w b x):w.cell? ⟨b,3,none⟩=some (Value.int .i64 x.opn):=Blk.c h 3
theorem YS.c4 (h:YS w b x):w.cell? ⟨b,4,none⟩=some (Value.string ⟨x.q.toArray⟩):=Blk.c h 4
theorem YS.c5 (h:YS w b x):w.cell? ⟨b,5,none⟩=some (Value.string ⟨x.cost.toArray⟩):=Blk.c h 5
theorem YS.c6 (h:YS w b x):w.cell? ⟨b,6,none⟩=some (Value.string ⟨x.used.toArray⟩):=Blk.c h 6
end
structure P5 (w:World) (b o:Nat) (x:Lot):Prop where
 c0:w.cell? ⟨b,o,none⟩=some (Value.string ⟨x.id.toArray⟩)
 c1:w.cell? ⟨b,o+1,none⟩=some (Value.string ⟨x.ins.toArray⟩)
 c2:w.cell? ⟨b,o+2,none⟩=some (Value.int .i64 x.acq)
 c3:w.cell? ⟨b,o+3,none⟩=some (Value.int .i64 x.opn)
 c4:w.cell? ⟨b,o+4,none⟩=some (Value.string ⟨x.q.toArray⟩)
 c5:w.cell? ⟨b,o+5,none⟩=some (Value.string ⟨x.cost.toArray⟩)
 c6:w.cell? ⟨b,o+6,none⟩=some (Value.string ⟨x.used.toArray⟩)
theorem P5.below {w w':World} {b o:Nat} {x:Lot} (h:P5 w b o x) (ha:b<w.heap.size) (hb:Below w.heap.size w w'):P5 w' b o x:=
 ⟨(hb.cell (p:=⟨b,o,none⟩) ha).trans h.c0,(hb.cell (p:=⟨b,o+1,none⟩) ha).trans h.c1,(hb.cell (p:=⟨b,o+2,none⟩) ha).trans h.c2,(hb.cell (p:=⟨b,o+3,none⟩) ha).trans h.c3,(hb.cell (p:=⟨b,o+4,none⟩) ha).trans h.c4,(hb.cell (p:=⟨b,o+5,none⟩) ha).trans h.c5,(hb.cell (p:=⟨b,o+6,none⟩) ha).trans h.c6⟩
def Yc (w:World) (A:Option Addr) (xs:List Lot):Prop:=∀(i:Nat) (x:Lot),xs[i]?=some x->∃b o,A=some ⟨b,o,none⟩/\b<w.heap.size/\P5 w b (o+i*7) x
theorem Yc.below {w w':World} {A:Option Addr} {xs:List Lot} (h:Yc w A xs) (hb:Below w.heap.size w w'):Yc w' A xs:=fun i x hx=>by
 obtain⟨b,o,rfl,h1,h2⟩:=h i x hx;exact⟨b,o,rfl,Nat.lt_of_lt_of_le h1 hb.size,h2.below h1 hb⟩
def Ye (xs:List Lot):List Value:=xs.flatMap (fun x=>#[.string ⟨x.id.toArray⟩,.string ⟨x.ins.toArray⟩,.int .i64 x.acq,.int .i64 x.opn,.string ⟨x.q.toArray⟩,.string ⟨x.cost.toArray⟩,.string ⟨x.used.toArray⟩].toList)
section
variable {P:Program} {w:World} {mty kt et:TypeId} {kd:TypeDesc} {r clock:Nat} {es:Array MapEntry} {key val:Value}
theorem UY (hm:P.underlying mty=some (.map kt et)) (hk:P.underlying kt=some kd) (hkey:MapKept.IsKey kd key) (hb:w.heap[r]?=some (.map es clock)) (hf:Instr.findNow kd key es.toList 0=some none) :
  (Instr.mapUpdate mty (.map (some r)) key val).run P w=.ok () { w with heap:=w.heap.setIfInBounds r (.map (es.push { key,val,born:=clock }) (clock+1)) }:=by
 have hc:(Instr.checkKey false 10000 kt key).run P w=.ok () w:=MapKept.run_checkKey hk hkey false 9999;simp[Instr.mapUpdate,run_underlying hm,MapKept.run_getObj_map hb,hc,MapKept.run_findKey hk hf,MapKept.run_setObj_map _ hb,Result.andThen]
theorem Ur (hm:P.underlying mty=some (.map kt et)) (hk:P.underlying kt=some kd) (hkey:MapKept.IsKey kd key) (hb:w.heap[r]?=some (.map es clock)) {i:Nat} {v:Value} (hf:Instr.findNow kd key es.toList 0=some (some (i,v))) (ok:Bool) :
  (Instr.lookup mty (.map (some r)) key ok).run P w=.ok (if ok then .tuple #[v,.bool true] else v) w:=by
 have hc:(Instr.checkKey es.isEmpty 10000 kt key).run P w=.ok () w:=MapKept.run_checkKey hk hkey _ 9999;cases ok<;>simp[Instr.lookup,run_underlying hm,MapKept.run_getObj_map hb,hc,MapKept.run_findKey hk hf,Result.andThen]
theorem TJ (hm:P.underlying mty=some (.map kt et)) (hk:P.underlying kt=some kd) (hkey:MapKept.IsKey kd key) (hb:w.heap[r]?=some (.map es clock)) {z:Value} (hz:(zeroValue et).run P w=.ok z w) (hf:Instr.findNow kd key es.toList 0=some none) (ok:Bool) :
  (Instr.lookup mty (.map (some r)) key ok).run P w=.ok (if ok then .tuple #[z,.bool false] else z) w:=by
 have hc:(Instr.checkKey es.isEmpty 10000 kt key).run P w=.ok () w:=MapKept.run_checkKey hk hkey _ 9999;cases ok<;>simp[Instr.lookup,run_underlying hm,MapKept.run_getObj_map hb,hc,MapKept.run_findKey hk hf,hz,Result.andThen]
end
def UH:List (List UInt8)->Array MapEntry
 | l=>((l.zipIdx).map fun p=>({ key:=.string ⟨p.1.toArray⟩,val:=.bool true,born:=p.2 }:MapEntry)).toArray
theorem Jl (l:List (List UInt8)) (x:List UInt8):UH (l++[x])=(UH l).push { key:=.string ⟨x.toArray⟩,val:=.bool true,born:=l.length }:=by
 simp[UH,List.zipIdx_append]
theorem bytes_beq (x y:List UInt8):((⟨x.toArray⟩:ByteArray)==⟨y.toArray⟩)=(x==y):=by
 show (x.toArray==y.toArray)=(x==y);simp
theorem SJ (x:List UInt8):∀(l:List (List UInt8)) (k i:Nat),Instr.findNow .string (.string ⟨x.toArray⟩) ((l.zipIdx k).map fun p=>({ key:=.string ⟨p.1.toArray⟩,val:=.bool true,born:=p.2 }:MapEntry)) i=some (if l.contains x then some (i+l.idxOf x,.bool true) else none)
 | [],_,_=>by simp[Instr.findNow]
 | y::l,k,i=>by
  have ih:=SJ x l (k+1) (i+1);rw[List.zipIdx_cons,List.map_cons];unfold Instr.findNow
  by_cases h:x=y
  ·subst h;simp[Instr.sameNow,bytes_beq]
  ·have e1:=bytes_beq x y;have e2:(x==y)=false:=by simpa using h
   have e3:(y==x)=false:=by simpa using (fun g=>h g.symm)
   simp only[Instr.sameNow,e1,e2,ih,List.contains_cons,Bool.false_or,List.idxOf_cons,e3]
   split
   ·simp[Nat.add_assoc,Nat.add_comm 1]
   ·rfl
end Go.Proofs.YtpieeldbamklkaaGreatDoor
namespace Go.Proofs
open Go.Shelf
def Tryz.laysM171_ren:Go.Shelf.Ren:=⟨fun|171=>140|243=>203|246=>267|283=>258|284=>259|285=>260|286=>261|129=>302|317=>301|318=>303|319=>304|320=>305|337=>326|338=>327|n=>n,fun|3=>3|9=>9|2=>2|4=>4|171=>334|0=>0|53=>207|37=>214|5=>5|173=>337|212=>378|51=>339|20=>20|213=>379|46=>283|232=>410|233=>411|n=>n,fun|17=>2|18=>6|19=>7|n=>n⟩
theorem Tryz.laysM171:Go.Proofs.LaysM.n171 prog Tryz.laysM171_ren:={
 mixed:=by kernel_rfl
 f129:=func302.trans (congrArg some (by kernel_rfl))
 f171:=func140.trans (congrArg some (by kernel_rfl))
 f243:=func203.trans (congrArg some (by kernel_rfl))
 f246:=func267.trans (congrArg some (by kernel_rfl))
 f283:=func258.trans (congrArg some (by kernel_rfl))
 f284:=func259.trans (congrArg some (by kernel_rfl))
 f285:=func260.trans (congrArg some (by kernel_rfl))
 f286:=func261.trans (congrArg some (by kernel_rfl))
 f317:=func301.trans (congrArg some (by kernel_rfl))
 f318:=func303.trans (congrArg some (by kernel_rfl))
 f319:=func304.trans (congrArg some (by kernel_rfl))
 f320:=func305.trans (congrArg some (by kernel_rfl))
 f337:=func326.trans (congrArg some (by kernel_rfl))
 f338:=func327.trans (congrArg some (by kernel_rfl))
 t0:=underlying0
 a0:=isAgg0
 z0:=sizeOf0
 v0:=zeroValue0
 t2:=underlying2
 a2:=isAgg2
 z2:=sizeOf2
 v2:=zeroValue2
 t3:=underlying3
 a3:=isAgg3
 z3:=sizeOf3
 v3:=zeroValue3
 t4:=underlying4
 a4:=isAgg4
 z4:=sizeOf4
 v4:=zeroValue4
 t5:=underlying5
 a5:=isAgg5
 z5:=sizeOf5
 v5:=zeroValue5
 t9:=underlying9
 a9:=isAgg9
 z9:=sizeOf9
 v9:=zeroValue9
 t20:=underlying20
 a20:=isAgg20
 z20:=sizeOf20
 v20:=zeroValue20
 t37:=underlying214
 a37:=isAgg214
 z37:=sizeOf214
 v37:=zeroValue214
 t46:=underlying283
 a46:=isAgg283
 z46:=sizeOf283
 v46:=zeroValue283
 t51:=underlying339
 a51:=isAgg339
 z51:=sizeOf339
 v51:=zeroValue339
 t53:=underlying207
 a53:=isAgg207
 z53:=sizeOf207
 v53:=zeroValue207
 t171:=underlying334
 a171:=isAgg334
 z171:=sizeOf334
 v171:=zeroValue334
 t173:=underlying337
 a173:=isAgg337
 z173:=sizeOf337
 v173:=zeroValue337
 t212:=underlying378
 a212:=isAgg378
 z212:=sizeOf378
 v212:=zeroValue378
 t213:=underlying379
 a213:=isAgg379
 z213:=sizeOf379
 t232:=underlying410
 a232:=isAgg410
 z232:=sizeOf410
 v232:=zeroValue410
 t233:=underlying411
 a233:=isAgg411
 z233:=sizeOf411
 v233:=zeroValue411
 g17:=by kernel_rfl
 g18:=by kernel_rfl
 g19:=by kernel_rfl
 i0:=by kernel_rfl
 i2:=by kernel_rfl
 i3:=by kernel_rfl
 i4:=by kernel_rfl
 i5:=by kernel_rfl
 i9:=by kernel_rfl
 i20:=by kernel_rfl
 i37:=by kernel_rfl
 i46:=by kernel_rfl
 i51:=by kernel_rfl
 i53:=by kernel_rfl
 i171:=by kernel_rfl
 i173:=by kernel_rfl
 i212:=by kernel_rfl
 i232:=by kernel_rfl
 i233:=by kernel_rfl
 m17:=by kernel_rfl
 m18:=by kernel_rfl
 m19:=by kernel_rfl }
open Go.RowKit Go.Sort Go.Lib in
theorem Tryz.strconv_Itoa (n:Int) (h0 : -9223372036854775808<=n) (h1:n<=9223372036854775807) (w:World) (htab:Lib.TabIs prog w "internal/strconv.uint64pow10" .u64 Lib.pow10Tab) :
  Calls prog 140 #[.int .i64 n] w fun e w'=>e=.returned (.string ⟨(Lib.itoa n).toArray⟩)/\∃k os,w'=grow (w.drewN k) os:=Any.strconv_Itoa Tryz.laysM171 n h0 h1 w htab
end Go.Proofs
namespace Go.Proofs.YtpieeldbamklkaaGreatDoor
open Go.RowKit Num
theorem Jm (n:Int):Lib.itoa n=Z7 n:=by
 unfold Lib.itoa Z7
 by_cases h:n<0
 ·rw[if_pos h,if_neg (by omega),<-NW]
  unfold canon fmt;rw[if_pos h,if_neg (by omega)]
 ·rw[if_neg h,<-NW]
  by_cases h0:n=0
  ·rw[if_pos h0,h0];rfl
  ·rw[if_neg h0];unfold canon fmt;rw[if_neg h,if_neg (by omega),show n.toNat=n.natAbs by omega]
theorem Eh (n:Int) (h0 : -9223372036854775808<=n) (h1:n<=9223372036854775807):Ret 140 #[.int .i64 n] (.string ⟨(Z7 n).toArray⟩):=fun w hG=>by
 refine (Tryz.strconv_Itoa n h0 h1 w hG.1).mono ?_;rintro e w' ⟨rfl,k,os,rfl⟩;exact⟨by rw[Jm],Lib.below_grow _ _ (Nl _) _ _⟩
theorem SK (n:Int) (h0 : -9223372036854775808<=n) (h1:n<=9223372036854775807):(Z7 n).length<=25:=by
 unfold Z7;split
 ·simp
 ·exact Nt (Zl n 20 (by omega)) (by omega)
theorem Zcu (n:Int) (h0 : -9223372036854775808<=n) (h1:n<=9223372036854775807):Ret 61 #[.int .i64 n] (.string ⟨(canon n).toArray⟩):=fun w hG=>by
 have hl:=SK n h0 h1;have C1:=Lh (Eh n h0 h1);have c2:Ret 139 #[.string ⟨(Z7 n).toArray⟩] (.string ⟨(canon n).toArray⟩):=fun w _=>by
  have:=Xe (Z7 n) w (by omega)
  rwa [Jj] at this
 have C2:=Lh c2;have hb:=Below.refl w.heap.size w;clear c2 hl;generalize Z7 n=P at *;go_enter func61,ntmps61;go_wp2_with fail
 refine (C1.out.of hG hb).mono ?_
 rintro e w2 ⟨rfl,hb2⟩;replace hb:=bto hb hb2;go_wp2_with fail
 refine (C2.out.of hG hb).mono ?_
 rintro e w3 ⟨rfl,hb3⟩;go_wp2;go_ret;exact⟨rfl,bto hb hb3⟩
end Go.Proofs.YtpieeldbamklkaaGreatDoor
namespace Go.Proofs
open Go.Shelf
def Tryz.laysC172_ren:Go.Shelf.Ren:=⟨fun|172=>279|244=>312|245=>195|247=>330|279=>253|280=>254|281=>255|282=>256|287=>194|316=>299|171=>140|205=>300|321=>251|322=>252|243=>203|246=>267|283=>258|284=>259|285=>260|286=>261|129=>302|317=>301|318=>303|319=>304|320=>305|337=>326|338=>327|n=>n,fun|9=>9|3=>3|75=>209|76=>218|4=>4|5=>5|167=>327|37=>214|0=>0|85=>388|2=>2|168=>329|53=>207|175=>210|46=>283|210=>374|127=>289|145=>394|143=>392|21=>21|171=>334|173=>337|212=>378|51=>339|20=>20|213=>379|232=>410|233=>411|80=>222|n=>n,fun|15=>0|16=>1|17=>2|18=>6|19=>7|n=>n⟩
theorem Tryz.laysC172:Go.Proofs.LaysC.n172 prog Tryz.laysC172_ren:={
 mixed:=by kernel_rfl
 f129:=func302.trans (congrArg some (by kernel_rfl))
 f171:=func140.trans (congrArg some (by kernel_rfl))
 f172:=func279.trans (congrArg some (by kernel_rfl))
 f205:=func300.trans (congrArg some (by kernel_rfl))
 f243:=func203.trans (congrArg some (by kernel_rfl))
 f244:=func312.trans (congrArg some (by kernel_rfl))
 f245:=func195.trans (congrArg some (by kernel_rfl))
 f246:=func267.trans (congrArg some (by kernel_rfl))
 f247:=func330.trans (congrArg some (by kernel_rfl))
 f279:=func253.trans (congrArg some (by kernel_rfl))
 f280:=func254.trans (congrArg some (by kernel_rfl))
 f281:=func255.trans (congrArg some (by kernel_rfl))
 f282:=func256.trans (congrArg some (by kernel_rfl))
 f283:=func258.trans (congrArg some (by kernel_rfl))
 f284:=func259.trans (congrArg some (by kernel_rfl))
 f285:=func260.trans (congrArg some (by kernel_rfl))
 f286:=func261.trans (congrArg some (by kernel_rfl))
 f287:=func194.trans (congrArg some (by kernel_rfl))
 f316:=func299.trans (congrArg some (by kernel_rfl))
 f317:=func301.trans (congrArg some (by kernel_rfl))
 f318:=func303.trans (congrArg some (by kernel_rfl))
 f319:=func304.trans (congrArg some (by kernel_rfl))
 f320:=func305.trans (congrArg some (by kernel_rfl))
 f321:=func251.trans (congrArg some (by kernel_rfl))
 f322:=func252.trans (congrArg some (by kernel_rfl))
 f337:=func326.trans (congrArg some (by kernel_rfl))
 f338:=func327.trans (congrArg some (by kernel_rfl))
 t0:=underlying0
 a0:=isAgg0
 z0:=sizeOf0
 v0:=zeroValue0
 t2:=underlying2
 a2:=isAgg2
 z2:=sizeOf2
 v2:=zeroValue2
 t3:=underlying3
 a3:=isAgg3
 z3:=sizeOf3
 v3:=zeroValue3
 t4:=underlying4
 a4:=isAgg4
 z4:=sizeOf4
 v4:=zeroValue4
 t5:=underlying5
 a5:=isAgg5
 z5:=sizeOf5
 v5:=zeroValue5
 t9:=underlying9
 a9:=isAgg9
 z9:=sizeOf9
 v9:=zeroValue9
 t20:=underlying20
 a20:=isAgg20
 z20:=sizeOf20
 v20:=zeroValue20
 t21:=underlying21
 a21:=isAgg21
 z21:=sizeOf21
 v21:=zeroValue21
 t37:=underlying214
 a37:=isAgg214
 z37:=sizeOf214
 v37:=zeroValue214
 t46:=underlying283
 a46:=isAgg283
 z46:=sizeOf283
 v46:=zeroValue283
 t51:=underlying339
 a51:=isAgg339
 z51:=sizeOf339
 v51:=zeroValue339
 t53:=underlying207
 a53:=isAgg207
 z53:=sizeOf207
 v53:=zeroValue207
 t75:=underlying209
 a75:=isAgg209
 z75:=sizeOf209
 v75:=zeroValue209
 t76:=underlying218
 a76:=isAgg218
 z76:=sizeOf218
 v76:=zeroValue218
 t85:=underlying388
 a85:=isAgg388
 z85:=sizeOf388
 v85:=zeroValue388
 t127:=underlying289
 a127:=isAgg289
 z127:=sizeOf289
 v127:=zeroValue289
 t143:=underlying392
 a143:=isAgg392
 z143:=sizeOf392
 v143:=zeroValue392
 t145:=underlying394
 a145:=isAgg394
 z145:=sizeOf394
 v145:=zeroValue394
 t167:=underlying327
 a167:=isAgg327
 z167:=sizeOf327
 v167:=zeroValue327
 t168:=underlying329
 a168:=isAgg329
 z168:=sizeOf329
 v168:=zeroValue329
 t171:=underlying334
 a171:=isAgg334
 z171:=sizeOf334
 v171:=zeroValue334
 t173:=underlying337
 a173:=isAgg337
 z173:=sizeOf337
 v173:=zeroValue337
 t175:=underlying210
 a175:=isAgg210
 z175:=sizeOf210
 v175:=zeroValue210
 t210:=underlying374
 a210:=isAgg374
 z210:=sizeOf374
 v210:=zeroValue374
 t212:=underlying378
 a212:=isAgg378
 z212:=sizeOf378
 v212:=zeroValue378
 t213:=underlying379
 a213:=isAgg379
 z213:=sizeOf379
 t232:=underlying410
 a232:=isAgg410
 z232:=sizeOf410
 v232:=zeroValue410
 t233:=underlying411
 a233:=isAgg411
 z233:=sizeOf411
 v233:=zeroValue411
 g15:=by kernel_rfl
 g16:=by kernel_rfl
 g17:=by kernel_rfl
 g18:=by kernel_rfl
 g19:=by kernel_rfl
 t80:=underlying222
 a80:=isAgg222
 z80:=sizeOf222
 v80:=zeroValue222
 i0:=by kernel_rfl
 i2:=by kernel_rfl
 i3:=by kernel_rfl
 i4:=by kernel_rfl
 i5:=by kernel_rfl
 i9:=by kernel_rfl
 i20:=by kernel_rfl
 i21:=by kernel_rfl
 i37:=by kernel_rfl
 i46:=by kernel_rfl
 i51:=by kernel_rfl
 i53:=by kernel_rfl
 i75:=by kernel_rfl
 i76:=by kernel_rfl
 i80:=by kernel_rfl
 i85:=by kernel_rfl
 i127:=by kernel_rfl
 i143:=by kernel_rfl
 i145:=by kernel_rfl
 i167:=by kernel_rfl
 i168:=by kernel_rfl
 i171:=by kernel_rfl
 i173:=by kernel_rfl
 i175:=by kernel_rfl
 i210:=by kernel_rfl
 i212:=by kernel_rfl
 i232:=by kernel_rfl
 i233:=by kernel_rfl
 m15:=by kernel_rfl
 m16:=by kernel_rfl
 m17:=by kernel_rfl
 m18:=by kernel_rfl
 m19:=by kernel_rfl
 c0:=by kernel_rfl
 c2:=by kernel_rfl
 c3:=by kernel_rfl
 c4:=by kernel_rfl
 c5:=by kernel_rfl
 c9:=by kernel_rfl
 c20:=by kernel_rfl
 c21:=by kernel_rfl
 c37:=by kernel_rfl
 c46:=by kernel_rfl
 c51:=by kernel_rfl
 c53:=by kernel_rfl
 c75:=by kernel_rfl
 c76:=by kernel_rfl
 c80:=by kernel_rfl
 c85:=by kernel_rfl
 c127:=by kernel_rfl
 c143:=by kernel_rfl
 c145:=by kernel_rfl
 c167:=by kernel_rfl
 c168:=by kernel_rfl
 c171:=by kernel_rfl
 c173:=by kernel_rfl
 c175:=by kernel_rfl
 c210:=by kernel_rfl
 c212:=by kernel_rfl
 c213:=by kernel_rfl
 c232:=by kernel_rfl
 c233:=by kernel_rfl }
open Go.RowKit in
theorem Tryz.strconv_Atoi_ok (s:ByteArray) (hmax:s.size<=9223372036854775806) (v:Int) (h:Lib.atoiAll s.data.toList=.ok v) (w:World) :
  Calls prog 279 #[.string s] w fun e w'=>e=.returned (.tuple #[.int .i64 v,.nilIface])/\(w'=w∨∃t,w'=Lib.bytesWorld w 5 t):=Any.strconv_Atoi_ok Tryz.laysC172 s hmax v h w
open Go.RowKit in
theorem Tryz.strconv_Atoi_bad (s:ByteArray) (hlim:s.size<=281474976710656) (h1:∀v,Lib.atoiAll s.data.toList≠.ok v) (h2:Lib.atoiAll s.data.toList≠.range) (ev:Value) (w:World) (hv:w.cell? ⟨0,0,none⟩=some ev) (hev:ev=.nilIface∨∃te pe,ev=.iface te pe) :
  Calls prog 279 #[.string s] w fun e w'=>∃N,e=.returned (.tuple #[.int .i64 (0),.iface 329 (.pointer (some ⟨N,0,none⟩))])/\w.heap.size<=N/\w'.heap[N]?=some (.cells #[.string ⟨#[65,116,111,105]⟩,.string s,ev] 374 (0,0))/\Below w.heap.size w w':=Any.strconv_Atoi_syntax Tryz.laysC172 s hlim (by
  cases e:Lib.atoiAll s.data.toList with
  | ok v=>exact absurd e (h1 v)
  | range=>exact absurd e h2
  | _=>rfl) ev w hv hev
open Go.RowKit in
theorem Tryz.strconv_Atoi_range (s:ByteArray) (hlim:s.size<=281474976710656) (h:Lib.atoiAll s.data.toList=.range) (ev:Value) (w:World) (hv:w.cell? ⟨1,0,none⟩=some ev) (hev:ev=.nilIface∨∃te pe,ev=.iface te pe) :
  Calls prog 279 #[.string s] w fun e w'=>∃N,e=.returned (.tuple #[.int .i64 (Lib.atoiSat s.data.toList),.iface 329 (.pointer (some ⟨N,0,none⟩))])/\w.heap.size<=N/\w'.heap[N]?=some (.cells #[.string ⟨#[65,116,111,105]⟩,.string s,ev] 374 (0,0))/\Below w.heap.size w w':=Any.strconv_Atoi_range Tryz.laysC172 s hlim h ev w hv hev
def Tryz.lays145_ren:Go.Shelf.Ren:=⟨fun|145=>278|220=>311|219=>329|217=>346|225=>344|224=>343|267=>347|266=>353|314=>354|n=>n,fun|9=>9|4=>4|59=>355|3=>3|5=>5|46=>283|146=>340|51=>339|n=>n,fun|1=>3|n=>n⟩
theorem Tryz.lays145:Go.Proofs.Lays.n145 prog Tryz.lays145_ren:={
 mixed:=by kernel_rfl
 f145:=func278.trans (congrArg some (by kernel_rfl))
 f217:=func346.trans (congrArg some (by kernel_rfl))
 f219:=func329.trans (congrArg some (by kernel_rfl))
 f220:=func311.trans (congrArg some (by kernel_rfl))
 f224:=func343.trans (congrArg some (by kernel_rfl))
 f225:=func344.trans (congrArg some (by kernel_rfl))
 f266:=func353.trans (congrArg some (by kernel_rfl))
 f267:=func347.trans (congrArg some (by kernel_rfl))
 f314:=func354.trans (congrArg some (by kernel_rfl))
 t3:=underlying3
 a3:=isAgg3
 z3:=sizeOf3
 v3:=zeroValue3
 t4:=underlying4
 a4:=isAgg4
 z4:=sizeOf4
 v4:=zeroValue4
 t5:=underlying5
 a5:=isAgg5
 z5:=sizeOf5
 v5:=zeroValue5
 t9:=underlying9
 a9:=isAgg9
 z9:=sizeOf9
 v9:=zeroValue9
 t46:=underlying283
 a46:=isAgg283
 z46:=sizeOf283
 v46:=zeroValue283
 t51:=underlying339
 a51:=isAgg339
 z51:=sizeOf339
 v51:=zeroValue339
 t59:=underlying355
 a59:=isAgg355
 z59:=sizeOf355
 v59:=zeroValue355
 t146:=underlying340
 a146:=isAgg340
 z146:=sizeOf340
 v146:=zeroValue340
 g1:=by kernel_rfl }
open Go.RowKit Go.Lib in
theorem Tryz.strings_Cut (s sep:ByteArray) (m:Int) (w:World) (hs:s.size<4294967281) (hm:w.cell? ⟨3,0,none⟩=some (.int .i64 m)) :
  Calls prog 278 #[.string s,.string sep] w fun e w'=>e=.returned (.tuple #[.string ⟨(Lib.cut s.data.toList sep.data.toList).1.toArray⟩,.string ⟨(Lib.cut s.data.toList sep.data.toList).2.1.toArray⟩,.bool (Lib.cut s.data.toList sep.data.toList).2.2])/\∃n,w'=w.drewN n:=Any.strings_Cut Tryz.lays145 s sep m w hs hm
def Tryz.lays101_ren:Go.Shelf.Ren:=⟨fun|101=>317|208=>331|206=>264|n=>n,fun|9=>9|4=>4|3=>3|n=>n,fun|n=>n⟩
theorem Tryz.lays101:Go.Proofs.Lays.n101 prog Tryz.lays101_ren:={
 mixed:=by kernel_rfl
 f101:=func317.trans (congrArg some (by kernel_rfl))
 f206:=func264.trans (congrArg some (by kernel_rfl))
 f208:=func331.trans (congrArg some (by kernel_rfl))
 t3:=underlying3
 a3:=isAgg3
 z3:=sizeOf3
 v3:=zeroValue3
 t4:=underlying4
 a4:=isAgg4
 z4:=sizeOf4
 v4:=zeroValue4
 t9:=underlying9
 a9:=isAgg9
 z9:=sizeOf9
 v9:=zeroValue9 }
open Go.RowKit Go.Lib in
theorem Tryz.strings_TrimPrefix (s p:ByteArray) (w:World) :
  Calls prog 317 #[.string s,.string p] w fun e w'=>e=.returned (.string ⟨(Lib.trimPrefix s.data.toList p.data.toList).toArray⟩)/\w'=w:=Any.strings_TrimPrefix Tryz.lays101 s p w
end Go.Proofs
namespace Go.Proofs.YtpieeldbamklkaaGreatDoor
open Go.RowKit Num
def BX (w:World):Prop:=(∃te pe,w.cell? ⟨0,0,none⟩=some (.iface te pe))/\∃te pe,w.cell? ⟨1,0,none⟩=some (.iface te pe)
theorem Nk {w w':World} {a:Addr} {v:Value} (h:w.cell? a=some v) (hb:Below w.heap.size w w'):w'.cell? a=some v:=(hb.cell (block_lt_of_cell h)).trans h
theorem BX.below {w w':World} (h:BX w) (hb:Below w.heap.size w w'):BX w':=by
 obtain⟨⟨a,b,h1⟩,c,d,h2⟩:=h;exact⟨⟨a,b,Nk h1 hb⟩,c,d,Nk h2 hb⟩
structure GE (w:World):Prop where
 g:Z5 w
 e:BX w
theorem GE.below {w w':World} (h:GE w) (hb:Below w.heap.size w w'):GE w':=⟨h.g.below hb,h.e.below hb⟩
def Vt (f:Nat) (args:Array Value) (v:Value):Prop:=∀w,GE w->Calls prog f args w fun e w'=>e=.returned v/\Below w.heap.size w w'
theorem Vt.of {f:Nat} {args:Array Value} {v:Value} (h:Vt f args v) {w w':World} (hG:GE w) (hb:Below w.heap.size w w'):Calls prog f args w' fun e w''=>e=.returned v/\Below w'.heap.size w' w'':=h w' (hG.below hb)
theorem Ret.e {f:Nat} {args:Array Value} {v:Value} (h:Ret f args v):Vt f args v:=fun w hG=>h w hG.g
theorem ZbK (s:List UInt8) (hs:s.length<=1000000):Vt 278 #[.string ⟨s.toArray⟩,.string ⟨#[47]⟩] (.tuple #[.string ⟨(Lib.cut s [47]).1.toArray⟩,.string ⟨(Lib.cut s [47]).2.1.toArray⟩,.bool (Lib.cut s [47]).2.2]):=fun w hG=>by
 obtain⟨-,m,hm⟩:=hG.g;refine (Tryz.strings_Cut ⟨s.toArray⟩ ⟨#[47]⟩ m w (by show s.toArray.size<_;simp;omega) hm).mono ?_
 rintro e w' ⟨rfl,n,rfl⟩;exact⟨rfl,below_drewN w n⟩
theorem Zam (s:List UInt8) (hs:s.length<=1000000) (w:World) (hG:GE w) :
  Calls prog 279 #[.string ⟨s.toArray⟩] w fun e w'=>((∃v,Lib.atoiAll s=.ok v/\e=.returned (.tuple #[.int .i64 v,.nilIface]))∨∃v p,(∀u,Lib.atoiAll s≠.ok u)/\e=.returned (.tuple #[.int .i64 v,.iface 329 p]))/\Below w.heap.size w w':=by
 obtain⟨⟨a,b,h1⟩,c,d,h2⟩:=hG.e;have hz:(⟨s.toArray⟩:ByteArray).size=s.length:=by show s.toArray.size=_;simp
 cases ha:Lib.atoiAll s with
 | ok v=>
  refine (Tryz.strconv_Atoi_ok ⟨s.toArray⟩ (by rw[hz];omega) v ha w).mono ?_
  rintro e w' ⟨rfl,hw⟩;refine⟨.inl ⟨v,rfl,rfl⟩,?_⟩;rcases hw with rfl|⟨t,rfl⟩
  ·exact Below.refl _ _
  ·exact bytesWorld_below _ _ _
 | range=>
  refine (Tryz.strconv_Atoi_range ⟨s.toArray⟩ (by rw[hz];omega) ha _ w h2 (.inr ⟨c,d,rfl⟩)).mono ?_
  rintro e w' ⟨N,rfl,-,-,hb⟩;exact⟨.inr ⟨_,_,fun u=>by simp,rfl⟩,hb⟩
 | _=>
  refine (Tryz.strconv_Atoi_bad ⟨s.toArray⟩ (by rw[hz];omega) (fun v e=>by rw[ha] at e;cases e) (fun e=>by rw[ha] at e;cases e) _ w h1 (.inr ⟨a,b,rfl⟩)).mono ?_
  rintro e w' ⟨N,rfl,-,-,hb⟩;exact⟨.inr ⟨0,_,fun u=>by simp,rfl⟩,hb⟩
theorem Lj (s p:List UInt8):Vt 317 #[.string ⟨s.toArray⟩,.string ⟨p.toArray⟩] (.string ⟨(Lib.trimPrefix s p).toArray⟩):=fun w _=>by
 refine (Tryz.strings_TrimPrefix ⟨s.toArray⟩ ⟨p.toArray⟩ w).mono ?_;rintro e w' ⟨rfl,rfl⟩;exact⟨rfl,Below.refl _ _⟩
def Jn (l:List UInt8):Bool:=match Lib.atoiAll l with|.ok n=>decide (1<=n)&&(decide (n<=9999)&&(Z7 n==l))|_=>false
def idB (s:List UInt8):Bool:=YL (Lib.cut s [47]).1&&Jn (Lib.cut s [47]).2.1
theorem Iz (s p:List UInt8):(Lib.cut s p).1.length<=s.length/\(Lib.cut s p).2.1.length<=s.length:=by
 unfold Lib.cut
 split
 ·exact⟨by simp;omega,by simp⟩
 ·exact⟨Nl _,Nat.zero_le _⟩
theorem Ei {l:List UInt8} (h:∀u,Lib.atoiAll l≠.ok u):Jn l=false:=by
 unfold Jn;cases ha:Lib.atoiAll l with
 | ok v=>exact absurd ha (h v)
 | _=>rfl
theorem Ej {l:List UInt8} {v:Int} (h:Lib.atoiAll l=.ok v):Jn l=(decide (1<=v)&&(decide (v<=9999)&&(Z7 v==l))):=by
 unfold Jn;rw[h]
theorem Tj (x y:List UInt8):((⟨x.toArray⟩:ByteArray)==⟨y.toArray⟩)=(x==y):=by
 show (x.toArray==y.toArray)=(x==y);simp
theorem Ek (d:Int):Ret 226 #[.int .i64 d] (.bool (XV d)):=fun w _=>by
 by_cases g1 : -25567<=d
 ·have e1:decide (-25567<=d)=true:=Dt g1;have HV:Hid (XV d=decide (d<=84005)):=by show _=_;unfold XV;rw[e1,Bool.true_and]
  go_enter func226,ntmps226;go_wp2;go_ret;exact⟨ZV HV.out.symm,Below.refl _ _⟩
 ·have e1:decide (-25567<=d)=false:=Df g1;have HV:Hid (XV d=false):=by show _=_;unfold XV;rw[e1,Bool.false_and]
  go_enter func226,ntmps226;go_wp2;go_ret;exact⟨ZV HV.out.symm,Below.refl _ _⟩
theorem ZbL {s:List UInt8} (hs:s.length<=1000000):Vt 225 #[.string ⟨s.toArray⟩] (.bool (idB s)):=fun w hG=>by
 have hb:=Below.refl w.heap.size w;have C0:=Lh (ZbK s hs);have hl:=Iz s [47];have HV:Hid (idB s=(YL (Lib.cut s [47]).1&&Jn (Lib.cut s [47]).2.1)):=rfl;generalize (Lib.cut s [47]).1=nm at *;generalize (Lib.cut s [47]).2.1=nu at *;generalize (Lib.cut s [47]).2.2=fd at *;generalize idB s=R at *;obtain⟨hl1,hl2⟩:=hl;have C1:=Lh (Ret.e (P4 (l:=nm) (by omega)))
 have C2:=fun w' (hb':Below w.heap.size w w')=>Zam nu (by omega) w' (hG.below hb')
 clear hl1 hl2;go_enter func225,ntmps225;go_wp2_with fail
 refine (C0.out.of hG hb).mono ?_
 rintro e w1 ⟨rfl,hb1⟩;replace hb:=bto hb hb1;clear hb1;go_wp2_with fail;refine (C2 _ hb).mono ?_;rintro e w2 ⟨hcase,hb2⟩;replace hb:=bto hb hb2;clear hb2 C2 C0;generalize hnb:YL nm=nb at *;rcases hcase with ⟨v,hv,rfl⟩|⟨v,p,hv,rfl⟩
 rotate_left
 ·have HN:Hid (R=false):=by show _=_;rw[HV.out,Ei hv,Bool.and_false]
  clear HV hv hnb;go_wp2;go_ret;exact⟨ZV (HN.out).symm,hb⟩
 have HV2:Hid (R=(nb&&(decide (1<=v)&&(decide (v<=9999)&&(Z7 v==nu))))):=by show _=_;rw[HV.out,Ej hv]
 clear HV hv hnb
 by_cases g1:1<=v
 rotate_left
 ·have e1:decide (1<=v)=false:=Df g1;have HN:Hid (R=false):=by show _=_;rw[HV2.out,e1,Bool.false_and,Bool.and_false]
  clear HV2;go_wp2;go_ret;exact⟨ZV (HN.out).symm,hb⟩
 have e1:decide (1<=v)=true:=Dt g1
 by_cases g2:v<=9999
 rotate_left
 ·have e2:decide (v<=9999)=false:=Df g2;have HN:Hid (R=false):=by show _=_;rw[HV2.out,e2,Bool.false_and,Bool.and_false,Bool.and_false]
  clear HV2;go_wp2;go_ret;exact⟨ZV (HN.out).symm,hb⟩
 have e2:decide (v<=9999)=true:=Dt g2;have C3:=Lh (Ret.e (Eh v (by omega) (by omega)))
 have HV3:Hid (R=(nb&&(Z7 v==nu))):=by show _=_;rw[HV2.out,e1,e2,Bool.true_and,Bool.true_and]
 clear HV2;generalize Z7 v=pz at *;go_wp2_with fail
 refine (C3.out.of hG hb).mono ?_
 rintro e w4 ⟨rfl,hb4⟩;replace hb:=bto hb hb4;clear hb4
 by_cases g3:pz=nu
 rotate_left
 ·have e3:(pz==nu)=false:=by rw[Bn];exact g3
  have HN:Hid (R=false):=by show _=_;rw[HV3.out,e3,Bool.and_false]
  clear HV3;go_wp2;go_ret;exact⟨ZV (HN.out).symm,hb⟩
 have e3:(pz==nu)=true:=by rw[beq_iff_eq];exact g3
 have HN:Hid (R=nb):=by show _=_;rw[HV3.out,e3,Bool.and_true]
 clear HV3;cases nb
 all_goals
  go_wp2_with fail
  refine (C1.out.of hG hb).mono ?_
  rintro e w5 ⟨rfl,hb5⟩;replace hb:=bto hb hb5;clear hb5;go_wp2;go_ret;exact⟨ZV (HN.out).symm,hb⟩
theorem ZaR {s:List UInt8} (hs:s.length<=1000000):Vt 288 #[.string ⟨s.toArray⟩] (.bool (idB s)):=fun w hG=>by
 have hb:=Below.refl w.heap.size w;have C0:=Lh (ZbK s hs);have hl:=Iz s [47];have HV:Hid (idB s=(YL (Lib.cut s [47]).1&&Jn (Lib.cut s [47]).2.1)):=rfl;generalize (Lib.cut s [47]).1=nm at *;generalize (Lib.cut s [47]).2.1=nu at *;generalize (Lib.cut s [47]).2.2=fd at *;generalize idB s=R at *;obtain⟨hl1,hl2⟩:=hl;have C1:=Lh (Ret.e (P4 (l:=nm) (by omega)))
 have C2:=fun w' (hb':Below w.heap.size w w')=>Zam nu (by omega) w' (hG.below hb')
 clear hl1 hl2;go_enter func288,ntmps288;go_wp2_with fail
 refine (C0.out.of hG hb).mono ?_
 rintro e w1 ⟨rfl,hb1⟩;replace hb:=bto hb hb1;clear hb1;go_wp2_with fail;refine (C2 _ hb).mono ?_;rintro e w2 ⟨hcase,hb2⟩;replace hb:=bto hb hb2;clear hb2 C2 C0;generalize hnb:YL nm=nb at *;rcases hcase with ⟨v,hv,rfl⟩|⟨v,p,hv,rfl⟩
 rotate_left
 ·have HN:Hid (R=false):=by show _=_;rw[HV.out,Ei hv,Bool.and_false]
  clear HV hv hnb;cases nb
  all_goals
   go_wp2_with fail
   refine (C1.out.of hG hb).mono ?_
   rintro e w3 ⟨rfl,hb3⟩;replace hb:=bto hb hb3;clear hb3;go_wp2;go_ret;exact⟨ZV (HN.out).symm,hb⟩
 have HV2:Hid (R=(nb&&(decide (1<=v)&&(decide (v<=9999)&&(Z7 v==nu))))):=by show _=_;rw[HV.out,Ej hv]
 clear HV hv hnb;cases nb with
 | false=>
  have HN:Hid (R=false):=HV2.out;clear HV2;go_wp2_with fail
  refine (C1.out.of hG hb).mono ?_
  rintro e w3 ⟨rfl,hb3⟩;replace hb:=bto hb hb3;clear hb3;go_wp2;go_ret;exact⟨ZV (HN.out).symm,hb⟩
 | true=>
  go_wp2_with fail
  refine (C1.out.of hG hb).mono ?_
  rintro e w3 ⟨rfl,hb3⟩;replace hb:=bto hb hb3;clear hb3
  by_cases g1:1<=v
  rotate_left
  ·have e1:decide (1<=v)=false:=Df g1;have HN:Hid (R=false):=by show _=_;rw[HV2.out,e1,Bool.false_and,Bool.and_false]
   clear HV2;go_wp2;go_ret;exact⟨ZV (HN.out).symm,hb⟩
  have e1:decide (1<=v)=true:=Dt g1
  by_cases g2:v<=9999
  rotate_left
  ·have e2:decide (v<=9999)=false:=Df g2;have HN:Hid (R=false):=by show _=_;rw[HV2.out,e2,Bool.false_and,Bool.and_false,Bool.and_false]
   clear HV2;go_wp2;go_ret;exact⟨ZV (HN.out).symm,hb⟩
  have e2:decide (v<=9999)=true:=Dt g2;have C3:=Lh (Ret.e (Eh v (by omega) (by omega)))
  have HV3:Hid (R=(Z7 v==nu)):=by show _=_;rw[HV2.out,e1,e2,Bool.true_and,Bool.true_and,Bool.true_and]
  clear HV2;generalize Z7 v=pz at *;go_wp2_with fail
  refine (C3.out.of hG hb).mono ?_
  rintro e w4 ⟨rfl,hb4⟩;replace hb:=bto hb hb4;clear hb4
  by_cases g3:pz=nu
  rotate_left
  ·have e3:(pz==nu)=false:=by rw[Bn];exact g3
   have HN:Hid (R=false):=by show _=_;rw[HV3.out,e3]
   clear HV3;go_wp2;go_ret;exact⟨ZV (HN.out).symm,hb⟩
  have e3:(pz==nu)=true:=by rw[beq_iff_eq];exact g3
  have HN:Hid (R=true):=by show _=_;rw[HV3.out,e3]
  clear HV3;go_wp2;go_ret;exact⟨ZV (HN.out).symm,hb⟩
def upB (fl c m:Int):Bool:=
 if m=1 then decide (0<c)||(decide (c=0)&&decide (fl % 2≠0))
 else if m=2 then decide (0<c)||(decide (c=0)&&decide (0<=fl))
 else if m=3 then decide (fl<0)
 else if m=4 then decide (0<=fl)
 else decide (m=6)
def UZ (q:Rat):Int:=Zy (2*(q.num % q.den)) q.den
def rnd (q:Rat) (m:Int):Int:=if q.den=1 then q.floor else if upB q.floor (UZ q) m then q.floor+1 else q.floor
theorem El (q:Rat):(0:Rat)<((q.den:Int):Rat):=by
 have:=q.den_pos
 rw[Rat.intCast_natCast];exact Rat.natCast_pos.2 this
theorem Tk (q:Rat):q.floor=q.num / q.den:=Rat.floor_def q
theorem IA (q:Rat):q*((q.den:Int):Rat)=(q.num:Rat):=by
 have h:q=Rat.divInt q.num q.den:=(Rat.num_divInt_den q).symm;have hd:(q.den:Int)≠0:=by have:=q.den_nz;omega
 obtain⟨n,hn⟩:∃n,n=q.num:=⟨_,rfl⟩
 obtain⟨d,hd'⟩:∃d,d=(q.den:Int):=⟨_,rfl⟩
 rw[<-hn,<-hd'] at h ⊢;rw[<-hd'] at hd;rw[h,Rat.divInt_eq_div,Rat.div_mul_cancel];intro e
 have:(d:Rat)=((0:Int):Rat):=e
 exact hd (Rat.intCast_inj.1 this)
theorem Em (q:Rat):(q-q.floor)*((q.den:Int):Rat)=((q.num % q.den:Int):Rat):=by
 have h:=Int.emod_add_mul_ediv q.num q.den;have h2:((q.num % q.den:Int):Rat)+((q.den:Int):Rat)*(q.floor:Rat)=(q.num:Rat):=by
  rw[Tk]
  have:=congrArg (fun z:Int=>(z:Rat)) h
  simpa only[Rat.intCast_add,Rat.intCast_mul] using this
 have h3:=IA q
 grind
theorem IB (q:Rat):q.den=1↔q=q.floor:=by
 constructor
 ·intro h;have h2:=IA q
  have:q.floor=q.num:=by rw[Tk,h];simp
  rw[this,<-h2,h];simp
 ·intro h;rw[h];rfl
theorem ZbM (q:Rat):(q.floor:Rat)<=q:=Rat.floor_le q
theorem ZbN (q:Rat):q<(q.floor:Rat)+1:=by have:=Rat.lt_floor_add_one q;simpa using this
theorem ZaS (q:Rat):q<0↔q.floor<0:=by
 have h1:=ZbM q;have h2:=ZbN q;constructor
 ·intro h
  have:(q.floor:Rat)<((0:Int):Rat):=by grind
  exact Rat.intCast_lt_intCast.1 this
 ·intro h
  have:q.floor+1<=0:=by omega
  have:((q.floor+1:Int):Rat)<=((0:Int):Rat):=Rat.intCast_le_intCast.2 this
  have:(q.floor:Rat)+1<=0:=by simpa [Rat.intCast_add] using this
  grind
theorem ZaT (q:Rat) (m:Int):rnd q m=q.floor∨(rnd q m=q.floor+1/\q≠q.floor):=by
 unfold rnd
 by_cases h:q.den=1
 ·rw[if_pos h];exact .inl rfl
 ·rw[if_neg h]
  split
  ·exact .inr ⟨rfl,fun e=>h ((IB q).2 e)⟩
  ·exact .inl rfl
theorem BY (z:Int) (m:Int):rnd (z:Rat) m=z:=by
 unfold rnd;rw[if_pos (Rat.den_intCast z)];exact Rat.floor_intCast z
theorem En (q:Rat) (m:Int):q.floor<=rnd q m/\rnd q m<=q.floor+1:=by
 rcases ZaT q m with h|⟨h,-⟩<;>omega
section
variable {l l':List UInt8}
theorem IC (hl:l.length<=100000000) (hl':l'.length<=100000000) (h0:val l'≠0) {q r:Int} (e:WW (val l) (val l')=q) (e':Up (val l) (val l')=r):Ret 137 #[.string ⟨l.toArray⟩,.string ⟨l'.toArray⟩] (.tuple #[.string ⟨(canon q).toArray⟩,.string ⟨(canon r).toArray⟩,.int .i64 0]):=fun w hG=>by
 subst e;subst e';exact UT l l' w hl hl' hG h0
theorem Zan (hl:l.length<=100000000) {z:Int} (e : -val l=z):Ret 206 #[.string ⟨l.toArray⟩] (.string ⟨(canon z).toArray⟩):=fun w hG=>by
 subst e;exact Me l w hl hG
theorem Zao (hl:l.length<=100000000) (hl':l'.length<=100000000) {z:Int} (e:val l*val l'=z):Ret 68 #[.string ⟨l.toArray⟩,.string ⟨l'.toArray⟩] (.string ⟨(canon z).toArray⟩):=fun w hG=>by
 subst e;exact Md l l' w hl hl' hG
end
theorem ID {z:Int} (h:z=0):(canon z==[])=true/\(canon z).isEmpty=true:=by rw[h];decide
theorem Eo {z:Int} (h:z≠0):(canon z==[])=false/\(canon z).isEmpty=false:=by
 have:canon z≠[]:=fun e=>h ((Uj z).1 e)
 exact⟨by rw[Bn];exact this,by rw[List.isEmpty_eq_false_iff];exact this⟩
theorem ZD {z:Int} {k:Nat} (h:z.natAbs<10 ^ k) {n:Nat} (hn:k+1<=n):(canon z).length<=n:=Nt (Zl _ _ h) hn
theorem Zap {l:List UInt8} (hl:l.length<=1000000) {z:Int} (e:val l=z):Ret 138 #[.string ⟨l.toArray⟩] (.bool (decide (z % 2=0))):=fun w hG=>by
 have c1:=IC (l:=l) (l':=[50]) (by omega) (by decide) (by decide) rfl (show Up (val l) (val [50])=z % 2 by rw[e];rfl)
 generalize WW (val l) (val [50])=q at c1;have hb:=Below.refl w.heap.size w;have H1:=Lh c1;clear c1 e
 by_cases h:z % 2=0
 ·obtain⟨e1,e2⟩:=ID h;rw[Dt h];generalize z % 2=r at *;go_enter func138,ntmps138;go_wp2_with fail
  refine (H1.out.of hG hb).mono ?_
  rintro e w1 ⟨rfl,hb2⟩;go_wp2;go_ret;exact⟨rfl,bto hb hb2⟩
 ·obtain⟨e1,e2⟩:=Eo h;rw[Df h];generalize z % 2=r at *;go_enter func138,ntmps138;go_wp2_with fail
  refine (H1.out.of hG hb).mono ?_
  rintro e w1 ⟨rfl,hb2⟩;go_wp2;go_ret;exact⟨rfl,bto hb hb2⟩
structure BZ (q:Rat) (fl r c s:Int):Prop where
 efl:q.floor=fl
 er:q.num % q.den=r
 ec:Zy (r+r) q.den=c
 es:Zy q.num 0=s
theorem B0 (q:Rat):BZ q q.floor (q.num % q.den) (UZ q) (Zy q.num 0):=⟨rfl,rfl,by unfold UZ;congr 1;omega,rfl⟩
theorem Qv (q:Rat):q.num % q.den=0↔q.den=1:=by
 rw[IB];have h:=Em q;have hd:=El q;constructor
 ·intro e;rw[e] at h;rcases Rat.mul_eq_zero.1 h with h1|h1
  ·grind
  ·grind
 ·intro e;rw[<-e,Rat.sub_self,Rat.zero_mul] at h;exact (Rat.intCast_inj.1 (h.symm.trans rfl))
theorem Ep (q:Rat):Zy q.num 0<0↔q.floor<0:=by
 rw[<-ZaS,Rat.lt_iff];unfold Zy;simp
 split
 ·simp_all
 ·split<;>simp_all
theorem Tl {q:Rat} {fl r c s:Int} (H:BZ q fl r c s) (h:r=0) (m:Int):rnd q m=fl:=by
 unfold rnd;rw[if_pos ((Qv q).1 (H.er.trans h)),H.efl]
theorem Er {q:Rat} {fl r c s:Int} (H:BZ q fl r c s) (h:r≠0) {m:Int} (hu:upB fl c m=true):rnd q m=fl+1:=by
 have hc:UZ q=c:=by rw[<-H.ec];unfold UZ;rw[H.er];congr 1;omega
 unfold rnd;rw[if_neg (fun e=>h (H.er.symm.trans ((Qv q).2 e))),H.efl,hc,if_pos hu]
theorem Es {q:Rat} {fl r c s:Int} (H:BZ q fl r c s) (h:r≠0) {m:Int} (hu:upB fl c m=false):rnd q m=fl:=by
 have hc:UZ q=c:=by rw[<-H.ec];unfold UZ;rw[H.er];congr 1;omega
 unfold rnd;rw[if_neg (fun e=>h (H.er.symm.trans ((Qv q).2 e))),H.efl,hc,if_neg (by rw[hu];decide)]
theorem IE (q:Rat):Up q.num q.den=q.num % q.den:=by unfold Up;rw[if_pos (by have:=q.den_nz;omega)]
theorem IF (q:Rat):WW q.num q.den=q.floor:=by unfold WW;rw[if_pos (by have:=q.den_nz;omega),Tk]
theorem Mj (q:Rat):q.floor.natAbs<=q.num.natAbs:=by rw[Tk];exact Int.natAbs_ediv_le_natAbs _ _
theorem IG (q:Rat):(q.num % q.den).natAbs<q.den:=by
 have h:=q.den_nz;have h1:=Int.emod_nonneg q.num (b:=q.den) (by omega)
 have h2:=Int.emod_lt_of_pos q.num (b:=q.den) (by omega)
 omega
theorem Gu {l l':List UInt8} {q:Rat} {k:Nat} (h:IsQ l l' q) (b:Bd k q) (hk:k<=90000) (m:Int) (hm:m=1) (h0:q.num % q.den=0):Ret 57 #[(Value.agg #[.string ⟨l.toArray⟩,.string ⟨l'.toArray⟩]),.int .i64 m] (.tuple #[.string ⟨(canon (rnd q m)).toArray⟩,.int .i64 0]):=fun w hG=>by
 have c1:=Eb h;have hbq:=b;have hd0:(q.den:Int)≠0:=by have:=q.den_nz;omega
 have hfl:=Nat.lt_of_le_of_lt (Mj q) b.1;have hmd:=Nat.lt_trans (IG q) b.2;have hde:(q.den:Int).natAbs<10 ^ k:=by rw[Int.natAbs_natCast];exact b.2
 have hrr:(q.num % q.den+q.num % q.den).natAbs<10 ^ (k+1):=by rw[Nat.pow_succ];omega
 have c2:=IC (l:=fN q) (l':=canon q.den) (by have:=(TZ b).1;omega) (ZD hde (by omega)) (by rw[Zh];exact hd0) (show WW (val (fN q)) (val (canon q.den))=q.floor by rw[UU,Zh,IF]) (show Up (val (fN q)) (val (canon q.den))=q.num % q.den by rw[UU,Zh,IE])
 have c3:=VK (l:=canon q.floor) (l':=[49]) (ZD hfl (by omega)) (by decide) (show val (canon q.floor)+val [49]=q.floor+1 by rw[Zh];rfl)
 have c4:=ZA (l:=fN q) (l':=[]) (by have:=(TZ b).1;omega) (by decide) (show Zy (val (fN q)) (val [])=Zy q.num 0 by rw[UU];rfl)
 have c5:=VK (l:=canon (q.num % q.den)) (l':=canon (q.num % q.den)) (ZD hmd (by omega)) (ZD hmd (by omega)) (show val (canon (q.num % q.den))+val (canon (q.num % q.den))=q.num % q.den+q.num % q.den by rw[Zh])
 have c6:=ZA (l:=canon (q.num % q.den+q.num % q.den)) (l':=canon q.den) (ZD hrr (by omega)) (ZD hde (by omega)) (show Zy (val (canon (q.num % q.den+q.num % q.den))) (val (canon q.den))=UZ q by rw[Zh,Zh];exact (B0 q).ec)
 have cE:=Zap (l:=canon q.floor) (ZD hfl (by omega)) (Zh q.floor)
 have hf:=B0 q;have hsf0:=Ep q;have x2:=YQ.new w (.string ⟨l.toArray⟩) (.string ⟨l'.toArray⟩) 34;have hb:=Zb w (.cells #[.string ⟨l.toArray⟩,.string ⟨l'.toArray⟩] 34);clear hbq hd0 hfl hmd hde hrr;generalize q.floor=fl at *;generalize q.num % q.den=r at *;generalize UZ q=c at *;generalize Zy q.num 0=s at *;have C1:=Lh c1;have C2:=Lh c2;have C3:=Lh c3;have C4:=Lh c4;have C5:=Lh c5;have C6:=Lh c6;have HE:=Lh cE;have HF:=Lh hf;have hsf:=Lh hsf0;clear c1 c2 c3 c4 c5 c6 cE hf b h hsf0;obtain⟨e1,e2⟩:=ID h0;have hr:=Lh h0;clear h0 hk;go_enter func57,ntmps57;have qx2_0:=x2.c0;have qx2_1:=x2.c1;go_wp2_with fail
 refine (C1.out.of hG hb).mono ?_
 rintro e w2 ⟨rfl,hb2⟩;clear qx2_0 qx2_1;replace x2:=x2.below hb2;replace hb:=bto hb hb2;clear hb2;go_wp2_with fail
 refine (C2.out.of hG hb).mono ?_
 rintro e w3 ⟨rfl,hb3⟩;replace x2:=x2.below hb3;replace hb:=bto hb hb3;clear hb3;go_wp2_with fail
 refine (C4.out.of hG hb).mono ?_
 rintro e w4 ⟨rfl,hb4⟩;replace x2:=x2.below hb4;replace hb:=bto hb hb4;clear hb4;go_wp2_with fail
 refine (C5.out.of hG hb).mono ?_
 rintro e w5 ⟨rfl,hb5⟩;replace x2:=x2.below hb5;replace hb:=bto hb hb5;clear hb5;go_wp2_with fail
 refine (C6.out.of hG hb).mono ?_
 rintro e w6 ⟨rfl,hb6⟩;replace x2:=x2.below hb6;replace hb:=bto hb hb6;clear hb6;clear x2;clear e1 e2;subst hm
 by_cases g1:0<c
 ·have g1':decide (0<c)=true:=Dt g1;have HR:=Lh (Tl HF.out hr.out 1);clear HF hsf hr;go_wp2;go_ret2;exact⟨by rw[HR.out];first|done|rfl,hb⟩
 have g1':decide (0<c)=false:=Df g1
 by_cases g2:c=0
 rotate_left
 ·have g2':(c==0)=false:=by rw[Bn];exact g2
  have HR:=Lh (Tl HF.out hr.out 1);clear HF hsf hr;go_wp2;go_ret2;exact⟨by rw[HR.out];first|done|rfl,hb⟩
 have g2':(c==0)=true:=by rw[beq_iff_eq];exact g2
 by_cases g3:fl % 2=0
 ·have g3':decide (fl % 2=0)=true:=Dt g3;have HR:=Lh (Tl HF.out hr.out 1);clear HF hsf hr;go_wp2_with fail
  refine (HE.out.of hG hb).mono ?_
  rintro e w9 ⟨rfl,hb9⟩;replace hb:=bto hb hb9;rw[g3'];go_wp2;go_ret2;exact⟨by rw[HR.out];first|done|rfl,hb⟩
 ·have g3':decide (fl % 2=0)=false:=Df g3;have HR:=Lh (Tl HF.out hr.out 1);clear HF hsf hr;go_wp2_with fail
  refine (HE.out.of hG hb).mono ?_
  rintro e w9 ⟨rfl,hb9⟩;replace hb:=bto hb hb9;rw[g3'];go_wp2;go_ret2;exact⟨by rw[HR.out];first|done|rfl,hb⟩
theorem Gv {l l':List UInt8} {q:Rat} {k:Nat} (h:IsQ l l' q) (b:Bd k q) (hk:k<=90000) (m:Int) (hm:m=1) (h0:q.num % q.den≠0):Ret 57 #[(Value.agg #[.string ⟨l.toArray⟩,.string ⟨l'.toArray⟩]),.int .i64 m] (.tuple #[.string ⟨(canon (rnd q m)).toArray⟩,.int .i64 0]):=fun w hG=>by
 have c1:=Eb h;have hbq:=b;have hd0:(q.den:Int)≠0:=by have:=q.den_nz;omega
 have hfl:=Nat.lt_of_le_of_lt (Mj q) b.1;have hmd:=Nat.lt_trans (IG q) b.2;have hde:(q.den:Int).natAbs<10 ^ k:=by rw[Int.natAbs_natCast];exact b.2
 have hrr:(q.num % q.den+q.num % q.den).natAbs<10 ^ (k+1):=by rw[Nat.pow_succ];omega
 have c2:=IC (l:=fN q) (l':=canon q.den) (by have:=(TZ b).1;omega) (ZD hde (by omega)) (by rw[Zh];exact hd0) (show WW (val (fN q)) (val (canon q.den))=q.floor by rw[UU,Zh,IF]) (show Up (val (fN q)) (val (canon q.den))=q.num % q.den by rw[UU,Zh,IE])
 have c3:=VK (l:=canon q.floor) (l':=[49]) (ZD hfl (by omega)) (by decide) (show val (canon q.floor)+val [49]=q.floor+1 by rw[Zh];rfl)
 have c4:=ZA (l:=fN q) (l':=[]) (by have:=(TZ b).1;omega) (by decide) (show Zy (val (fN q)) (val [])=Zy q.num 0 by rw[UU];rfl)
 have c5:=VK (l:=canon (q.num % q.den)) (l':=canon (q.num % q.den)) (ZD hmd (by omega)) (ZD hmd (by omega)) (show val (canon (q.num % q.den))+val (canon (q.num % q.den))=q.num % q.den+q.num % q.den by rw[Zh])
 have c6:=ZA (l:=canon (q.num % q.den+q.num % q.den)) (l':=canon q.den) (ZD hrr (by omega)) (ZD hde (by omega)) (show Zy (val (canon (q.num % q.den+q.num % q.den))) (val (canon q.den))=UZ q by rw[Zh,Zh];exact (B0 q).ec)
 have cE:=Zap (l:=canon q.floor) (ZD hfl (by omega)) (Zh q.floor)
 have hf:=B0 q;have hsf0:=Ep q;have x2:=YQ.new w (.string ⟨l.toArray⟩) (.string ⟨l'.toArray⟩) 34;have hb:=Zb w (.cells #[.string ⟨l.toArray⟩,.string ⟨l'.toArray⟩] 34);clear hbq hd0 hfl hmd hde hrr;generalize q.floor=fl at *;generalize q.num % q.den=r at *;generalize UZ q=c at *;generalize Zy q.num 0=s at *;have C1:=Lh c1;have C2:=Lh c2;have C3:=Lh c3;have C4:=Lh c4;have C5:=Lh c5;have C6:=Lh c6;have HE:=Lh cE;have HF:=Lh hf;have hsf:=Lh hsf0;clear c1 c2 c3 c4 c5 c6 cE hf b h hsf0;obtain⟨e1,e2⟩:=Eo h0;have hr:=Lh h0;clear h0 hk;go_enter func57,ntmps57;have qx2_0:=x2.c0;have qx2_1:=x2.c1;go_wp2_with fail
 refine (C1.out.of hG hb).mono ?_
 rintro e w2 ⟨rfl,hb2⟩;clear qx2_0 qx2_1;replace x2:=x2.below hb2;replace hb:=bto hb hb2;clear hb2;go_wp2_with fail
 refine (C2.out.of hG hb).mono ?_
 rintro e w3 ⟨rfl,hb3⟩;replace x2:=x2.below hb3;replace hb:=bto hb hb3;clear hb3;go_wp2_with fail
 refine (C3.out.of hG hb).mono ?_
 rintro e w4 ⟨rfl,hb4⟩;replace x2:=x2.below hb4;replace hb:=bto hb hb4;clear hb4;go_wp2_with fail
 refine (C4.out.of hG hb).mono ?_
 rintro e w5 ⟨rfl,hb5⟩;replace x2:=x2.below hb5;replace hb:=bto hb hb5;clear hb5;go_wp2_with fail
 refine (C5.out.of hG hb).mono ?_
 rintro e w6 ⟨rfl,hb6⟩;replace x2:=x2.below hb6;replace hb:=bto hb hb6;clear hb6;go_wp2_with fail
 refine (C6.out.of hG hb).mono ?_
 rintro e w7 ⟨rfl,hb7⟩;replace x2:=x2.below hb7;replace hb:=bto hb hb7;clear hb7;clear x2;clear e1 e2;subst hm
 by_cases g1:0<c
 ·have g1':decide (0<c)=true:=Dt g1;have HR:=Lh (Er HF.out hr.out (m:=1) (by simp[upB,g1]))
  clear HF hsf hr;go_wp2;go_ret2;exact⟨by rw[HR.out];first|done|rfl,hb⟩
 have g1':decide (0<c)=false:=Df g1
 by_cases g2:c=0
 rotate_left
 ·have g2':(c==0)=false:=by rw[Bn];exact g2
  have HR:=Lh (Es HF.out hr.out (m:=1) (by simp[upB,g1,g2]))
  clear HF hsf hr;go_wp2;go_ret2;exact⟨by rw[HR.out];first|done|rfl,hb⟩
 have g2':(c==0)=true:=by rw[beq_iff_eq];exact g2
 by_cases g3:fl % 2=0
 ·have g3':decide (fl % 2=0)=true:=Dt g3;have HR:=Lh (Es HF.out hr.out (m:=1) (by simp[upB,g1,g3]))
  clear HF hsf hr;go_wp2_with fail
  refine (HE.out.of hG hb).mono ?_
  rintro e w9 ⟨rfl,hb9⟩;replace hb:=bto hb hb9;rw[g3'];go_wp2;go_ret2;exact⟨by rw[HR.out];first|done|rfl,hb⟩
 ·have g3':decide (fl % 2=0)=false:=Df g3;have HR:=Lh (Er HF.out hr.out (m:=1) (by simp[upB,g2,g3]))
  clear HF hsf hr;go_wp2_with fail
  refine (HE.out.of hG hb).mono ?_
  rintro e w9 ⟨rfl,hb9⟩;replace hb:=bto hb hb9;rw[g3'];go_wp2;go_ret2;exact⟨by rw[HR.out];first|done|rfl,hb⟩
def UK (x:Lot):Int:=
 if idB x.id=false then 23 else if YL x.ins=false then 23 else if XV x.acq=false then 13 else if XV x.opn=false then 13 else if x.opn<x.acq then 8 else if ¬x.q=canon (val x.q) then 1 else if ¬x.cost=canon (val x.cost) then 1 else if ¬x.used=canon (val x.used) then 1 else if val x.q<=0 then 2 else if val x.cost<0 then 2 else if x.used=[] then 0 else if x.used=x.q then 0 else 2
structure Qw (x:Lot):Prop where
 id:x.id.length<=1000
 ins:x.ins.length<=1000
 q:x.q.length<=1000
 cost:x.cost.length<=1000
 used:x.used.length<=1000
theorem Lk (v:Int):(Zy v 0<=0↔v<=0)/\(Zy v 0<0↔v<0)/\(0<Zy v 0↔0<v)/\-1<=Zy v 0/\Zy v 0<=1:=by
 unfold Zy
 split
 ·omega
 ·split<;>omega
theorem Mk {x:Lot} (h:UK x=0):idB x.id=true/\YL x.ins=true/\XV x.acq=true/\XV x.opn=true/\x.acq<=x.opn/\x.q=canon (val x.q)/\x.cost=canon (val x.cost)/\x.used=canon (val x.used)/\0<val x.q/\0<=val x.cost/\(x.used=[]∨x.used=x.q):=by
 unfold UK at h
 by_cases h0:idB x.id=false
 ·rw[if_pos h0] at h;exact absurd h (by decide)
 rw[if_neg h0] at h
 by_cases h1:YL x.ins=false
 ·rw[if_pos h1] at h;exact absurd h (by decide)
 rw[if_neg h1] at h
 by_cases h2:XV x.acq=false
 ·rw[if_pos h2] at h;exact absurd h (by decide)
 rw[if_neg h2] at h
 by_cases h3:XV x.opn=false
 ·rw[if_pos h3] at h;exact absurd h (by decide)
 rw[if_neg h3] at h
 by_cases h4:x.opn<x.acq
 ·rw[if_pos h4] at h;exact absurd h (by decide)
 rw[if_neg h4] at h
 by_cases h5:¬x.q=canon (val x.q)
 ·rw[if_pos h5] at h;exact absurd h (by decide)
 rw[if_neg h5] at h
 by_cases h6:¬x.cost=canon (val x.cost)
 ·rw[if_pos h6] at h;exact absurd h (by decide)
 rw[if_neg h6] at h
 by_cases h7:¬x.used=canon (val x.used)
 ·rw[if_pos h7] at h;exact absurd h (by decide)
 rw[if_neg h7] at h
 by_cases h8:val x.q<=0
 ·rw[if_pos h8] at h;exact absurd h (by decide)
 rw[if_neg h8] at h
 by_cases h9:val x.cost<0
 ·rw[if_pos h9] at h;exact absurd h (by decide)
 rw[if_neg h9] at h;refine⟨by simpa using h0,by simpa using h1,by simpa using h2,by simpa using h3,Int.not_lt.1 h4,Decidable.not_not.1 h5,Decidable.not_not.1 h6,Decidable.not_not.1 h7,Int.not_le.1 h8,Int.not_lt.1 h9,?_⟩
 by_cases h10:x.used=[]
 ·exact .inl h10
 rw[if_neg h10] at h
 by_cases h11:x.used=x.q
 ·exact .inr h11
 rw[if_neg h11] at h;exact absurd h (by decide)
def Jo (x:Lot):Int:=if val x.q<=0 then 2 else if val x.cost<0 then 2 else if x.used=[] then 0 else if x.used=x.q then 0 else 2
def Jp:List (List UInt8)->Int->Int
 | [],R=>R
 | r::t,R=>if r=canon (val r) then Jp t R else 1
theorem Gw {rs:List (List UInt8)} {k:Nat} {r:List UInt8} {R:Int} (h:rs[k]?=some r):Jp (rs.drop k) R=if r=canon (val r) then Jp (rs.drop (k+1)) R else 1:=by
 obtain⟨hk,rfl⟩:=Lg.1 h;rw[List.drop_eq_getElem_cons hk];rfl
theorem Et {c:Prop} [Decidable c] {a b:Int}:(if ¬c then a else b)=if c then b else a:=by
 by_cases h:c
 ·rw[if_pos h,if_neg (fun g=>g h)]
 ·rw[if_neg h,if_pos h]
theorem B1 (x:Lot):Jp [x.q,x.cost,x.used] (Jo x)=if ¬x.q=canon (val x.q) then 1 else if ¬x.cost=canon (val x.cost) then 1 else if ¬x.used=canon (val x.used) then 1 else if val x.q<=0 then 2 else if val x.cost<0 then 2 else if x.used=[] then 0 else if x.used=x.q then 0 else 2:=by
 simp only[Jp,Et,Jo]
theorem Blk.rowS {w:World} {b:Nat} {cs:Array Value} (h:Blk w b cs) (rs:List (List UInt8)) (hc:cs=(rs.map (fun r=>Value.string ⟨r.toArray⟩)).toArray):∀(k:Nat) (r:List UInt8),rs[k]?=some r->w.cell? ⟨b,k,none⟩=some (.string ⟨r.toArray⟩)/\b<w.heap.size:=fun k r hr=>by
 refine⟨?_,?_⟩
 ·have:=h.c k
  rw[this,hc];simp[hr]
 ·obtain⟨t,h⟩:=h;exact (Ag.1 h).1
theorem Eu {x:Lot} (hs:Qw x):Vt 181 #[(Value.agg #[.string ⟨x.id.toArray⟩,.string ⟨x.ins.toArray⟩,.int .i64 x.acq,.int .i64 x.opn,.string ⟨x.q.toArray⟩,.string ⟨x.cost.toArray⟩,.string ⟨x.used.toArray⟩])] (.int .i64 (UK x)):=fun w hG=>by
 obtain⟨l1,l2,l3,l4,l5⟩:=hs;have hb:=Zb w (.cells #[.string ⟨x.id.toArray⟩,.string ⟨x.ins.toArray⟩,.int .i64 x.acq,.int .i64 x.opn,.string ⟨x.q.toArray⟩,.string ⟨x.cost.toArray⟩,.string ⟨x.used.toArray⟩] 130);have x1:=YS.new w x 130;have C1:=Lh (Ret.e (Ek x.acq));have C2:=Lh (Ret.e (Ek x.opn));have D1:=Lh (ZbL (s:=x.id) (by omega))
 have D2:=Lh (Ret.e (P4 (l:=x.ins) (by omega)))
 have K1:=Lh (Ret.e (ZA (l:=x.q) (l':=[]) (by omega) (by decide) (show _=Zy (val x.q) 0 from rfl)))
 have K2:=Lh (Ret.e (ZA (l:=x.cost) (l':=[]) (by omega) (by decide) (show _=Zy (val x.cost) 0 from rfl)))
 have N0:=Lh (Ret.e (Yz (l:=x.q) (by omega) rfl))
 have N1:=Lh (Ret.e (Yz (l:=x.cost) (by omega) rfl))
 have N2:=Lh (Ret.e (Yz (l:=x.used) (by omega) rfl))
 obtain⟨E,hE⟩:∃E,E=UK x:=⟨_,rfl⟩
 rw[<-hE];unfold UK at hE;have HV:=Lh hE;clear hE;go_enter func181,ntmps181;clear l1 l2 l3 l4 l5;have qx1_0:=x1.c0;go_wp2_with fail
 refine (D1.out.of hG hb).mono ?_
 rintro e wa1 ⟨rfl,hba1⟩;clear qx1_0;replace x1:=x1.below hba1;replace hb:=bto hb hba1;clear hba1
 by_cases g1:idB x.id=false
 ·have e1:=g1;have HQ:Hid (E=23):=by show _=_;rw[HV.out,if_pos g1]
  clear HV g1;go_wp2;go_ret;exact⟨ZU HQ.out.symm,hb⟩
 have e1:idB x.id=true:=by simpa using g1
 have HV1:=Lh (HV.out.trans (if_neg g1));clear HV g1;have qx1_1:=x1.c1;go_wp2_with fail
 refine (D2.out.of hG hb).mono ?_
 rintro e wa2 ⟨rfl,hba2⟩;clear qx1_1;replace x1:=x1.below hba2;replace hb:=bto hb hba2;clear hba2
 by_cases g2:YL x.ins=false
 ·have e2:=g2;have HQ:Hid (E=23):=by show _=_;rw[HV1.out,if_pos g2]
  clear HV1 g2;go_wp2;go_ret;exact⟨ZU HQ.out.symm,hb⟩
 have e2:YL x.ins=true:=by simpa using g2
 have HV2:=Lh (HV1.out.trans (if_neg g2));clear HV1 g2;have qx1_2:=x1.c2;go_wp2_with fail
 refine (C1.out.of hG hb).mono ?_
 rintro e wa3 ⟨rfl,hba3⟩;clear qx1_2;replace x1:=x1.below hba3;replace hb:=bto hb hba3;clear hba3
 by_cases g3:XV x.acq=false
 ·have e3:=g3;have HQ:Hid (E=13):=by show _=_;rw[HV2.out,if_pos g3]
  clear HV2 g3;go_wp2;go_ret;exact⟨ZU HQ.out.symm,hb⟩
 have e3:XV x.acq=true:=by simpa using g3
 have HV3:=Lh (HV2.out.trans (if_neg g3));clear HV2 g3;have qx1_3:=x1.c3;go_wp2_with fail
 refine (C2.out.of hG hb).mono ?_
 rintro e wa4 ⟨rfl,hba4⟩;clear qx1_3;replace x1:=x1.below hba4;replace hb:=bto hb hba4;clear hba4
 by_cases g4:XV x.opn=false
 ·have e4:=g4;have HQ:Hid (E=13):=by show _=_;rw[HV3.out,if_pos g4]
  clear HV3 g4;go_wp2;go_ret;exact⟨ZU HQ.out.symm,hb⟩
 have e4:XV x.opn=true:=by simpa using g4
 have HV4:=Lh (HV3.out.trans (if_neg g4));clear HV3 g4
 by_cases g5:x.opn<x.acq
 ·have e5:decide (x.opn<x.acq)=true:=Dt g5;have HQ:Hid (E=8):=by show _=_;rw[HV4.out,if_pos g5]
  clear HV4 g5;have qx1_2:=x1.c2;have qx1_3:=x1.c3;go_wp2;go_ret;exact⟨ZU HQ.out.symm,hb⟩
 have e5:decide (x.opn<x.acq)=false:=Df g5;have HV5:=Lh (HV4.out.trans (if_neg g5));clear HV4 g5;have qx1_2:=x1.c2;have qx1_3:=x1.c3;have qx1_4:=x1.c4;have qx1_5:=x1.c5;have qx1_6:=x1.c6;go_wp2_with fail;clear qx1_2 qx1_3 qx1_4 qx1_5 qx1_6;clear e1 e2 e3 e4 e5;have hbA:=Zb wa4 (.cells #[.string ⟨x.q.toArray⟩,.string ⟨x.cost.toArray⟩,.string ⟨x.used.toArray⟩] 32);have x9:Blk (wa4.alloc (.cells #[.string ⟨x.q.toArray⟩,.string ⟨x.cost.toArray⟩,.string ⟨x.used.toArray⟩] 32)) wa4.heap.size _:=Blk.new wa4 _ _;replace x1:=x1.below hbA;replace hb:=bto hb hbA;obtain⟨w0,hw0⟩:∃w0,w0=wa4.alloc (.cells #[.string ⟨x.q.toArray⟩,.string ⟨x.cost.toArray⟩,.string ⟨x.used.toArray⟩] 32):=⟨_,rfl⟩
 rw[<-hw0] at x1 hb x9;rw[<-hw0];have H9:=Lh (Blk.rowS x9 [x.q,x.cost,x.used] rfl);generalize wa4.heap.size=B at *;clear hw0 hbA x9;have HV:=Lh ((HV5.out).trans (B1 x).symm);clear HV5
 go_loopw [4,38] (fun _ iv wr=>∃k:Nat,k<=3/\iv=.int .i64 (k:Int)/\Hid (E=Jp ([x.q,x.cost,x.used].drop k) (Jo x))/\Below w0.heap.size w0 wr) (fun _ iv _=>3-(intOf iv).toNat)
 case atStart=>exact⟨0,by omega,rfl,HV.out,Below.refl _ _⟩
 case round=>
  clear HV;obtain⟨k,hk,rfl,HV,hbr⟩:=hrel;replace x1:=x1.below hbr;replace hb:=bto hb hbr
  by_cases hlk:k<3
  rotate_left
  ·have HR:Hid (E=Jo x):=by show _=_;rw[HV.out,List.drop_of_length_le (by show 3<=k;omega)];rfl
   clear HV;have e1:decide (k<3)=false:=Df hlk;have e2:decide ((k:Int)<3)=false:=Df (by omega)
   have qx1_4:=x1.c4;go_wp2_with fail
   refine (K1.out.of hG hb).mono ?_
   rintro e wa5 ⟨rfl,hba5⟩;replace x1:=x1.below hba5;replace hb:=bto hb hba5;clear hba5;clear qx1_4;unfold Jo at HR;generalize hc1:Zy (val x.q) 0=c1 at *;have hz1:=Lk (val x.q);rw[hc1] at hz1;clear hc1
   by_cases g1:val x.q<=0
   ·have e3:decide (c1<=0)=true:=Dt (hz1.1.2 g1);have HQ:Hid (E=2):=by show _=_;rw[HR.out,if_pos g1]
    clear HR g1 hz1;go_wp2;go_ret;exact⟨ZU HQ.out.symm,hb⟩
   have e3:decide (c1<=0)=false:=Df (fun h=>g1 (hz1.1.1 h))
   have HR1:=Lh (HR.out.trans (if_neg g1));clear HR g1 hz1;have qx1_5:=x1.c5;go_wp2_with fail
   refine (K2.out.of hG hb).mono ?_
   rintro e wa6 ⟨rfl,hba6⟩;clear qx1_5;replace x1:=x1.below hba6;replace hb:=bto hb hba6;clear hba6;generalize hc2:Zy (val x.cost) 0=c2 at *;have hz2:=Lk (val x.cost);rw[hc2] at hz2;clear hc2
   by_cases g2:val x.cost<0
   ·have e4:decide (c2<0)=true:=Dt (hz2.2.1.2 g2);have HQ:Hid (E=2):=by show _=_;rw[HR1.out,if_pos g2]
    clear HR1 g2 hz2;go_wp2;go_ret;exact⟨ZU HQ.out.symm,hb⟩
   have e4:decide (c2<0)=false:=Df (fun h=>g2 (hz2.2.1.1 h))
   have HR2:=Lh (HR1.out.trans (if_neg g2));clear HR1 g2 hz2
   by_cases g3:x.used=[]
   ·have e5:(x.used==[])=true:=by rw[beq_iff_eq];exact g3
    have e6:x.used.isEmpty=true:=by rw[List.isEmpty_iff];exact g3
    have HQ:Hid (E=0):=by show _=_;rw[HR2.out,if_pos g3]
    clear HR2 g3;have qx1_4:=x1.c4;have qx1_6:=x1.c6;go_wp2;go_ret;exact⟨ZU HQ.out.symm,hb⟩
   have e5:(x.used==[])=false:=by rw[Bn];exact g3
   have e6:x.used.isEmpty=false:=by rw[List.isEmpty_eq_false_iff];exact g3
   have HR3:=Lh (HR2.out.trans (if_neg g3));clear HR2 g3
   by_cases g4:x.used=x.q
   ·have e7:(x.used==x.q)=true:=by rw[beq_iff_eq];exact g4
    have HQ:Hid (E=0):=by show _=_;rw[HR3.out,if_pos g4]
    clear HR3 g4;have qx1_4:=x1.c4;have qx1_6:=x1.c6;go_wp2;go_ret;exact⟨ZU HQ.out.symm,hb⟩
   have e7:(x.used==x.q)=false:=by rw[Bn];exact g4
   have HQ:Hid (E=2):=by show _=_;rw[HR3.out,if_neg g4]
   clear HR3 g4;have qx1_4:=x1.c4;have qx1_6:=x1.c6;go_wp2;go_ret;exact⟨ZU HQ.out.symm,hb⟩
  obtain⟨r,hr⟩:∃r,[x.q,x.cost,x.used][k]?=some r:=⟨_,List.getElem?_eq_getElem (show k<3 from hlk)⟩
  have CR:Hid (Vt 103 #[.string ⟨r.toArray⟩] (.int .i64 (if r=canon (val r) then 0 else 1))):=by
   have hk3:k=0∨k=1∨k=2:=by omega
   rcases hk3 with rfl|rfl|rfl
   ·cases hr;exact N0
   ·cases hr;exact N1
   ·cases hr;exact N2
  have p0:=(H9.out k r hr).1;have p0':wr.cell? ⟨B,k,none⟩=some (.string ⟨r.toArray⟩):=(hbr.cell (p:=⟨B,k,none⟩) (H9.out k r hr).2).trans p0;clear p0;have HS:=Lh (Gw (R:=Jo x) hr);clear hr;have e1:decide (k<3)=true:=Dt hlk;have e2:decide ((k:Int)<3)=true:=Dt (by omega)
  go_wp2_with fail
  refine (CR.out.of hG hb).mono ?_
  rintro e wa5 ⟨rfl,hba5⟩;replace x1:=x1.below hba5;replace hb:=bto hb hba5;replace hbr:=bto hbr hba5;clear hba5
  by_cases g:r=canon (val r)
  rotate_left
  ·have HQ:Hid (E=1):=by show _=_;rw[HV.out,HS.out,if_neg g]
   rw[if_neg g];clear HV HS g;go_wp2;go_ret;exact⟨ZU HQ.out.symm,hb⟩
  have HV1:Hid (E=Jp ([x.q,x.cost,x.used].drop (k+1)) (Jo x)):=by show _=_;rw[HV.out,HS.out,if_pos g]
  rw[if_pos g];clear HV HS g;go_wp2;go_roundw
  case rel=>exact⟨k+1,by omega,by go_num,HV1.out,hbr⟩
  case measure=>simp[intOf];omega
def TL (seen:List (List UInt8)):List Lot->Int
 | []=>0
 | x::r=>if ¬UK x=0 then UK x else if seen.contains x.id=true then 5 else TL (seen++[x.id]) r
def YM (xs:List Lot):Int:=if 1000<xs.length then 4 else TL [] xs
theorem Jq {xs:List Lot} {k:Nat} {x:Lot} (h:xs[k]?=some x):TL ((xs.take k).map (·.id)) (xs.drop k)=if ¬UK x=0 then UK x else if ((xs.take k).map (·.id)).contains x.id=true then 5 else TL ((xs.take (k+1)).map (·.id)) (xs.drop (k+1)):=by
 obtain⟨hk,rfl⟩:=Lg.1 h;rw[List.drop_eq_getElem_cons hk,List.take_succ_eq_append_getElem hk];rw[List.map_append];rfl
theorem P6:∀(xs:List Lot) (seen:List (List UInt8)),TL seen xs=0->(∀x∈xs,UK x=0)/\(xs.map (·.id)).Nodup/\∀x∈xs,x.id∉seen
 | [],_,_=>⟨fun x hx=>(by cases hx),List.nodup_nil,fun x hx=>(by cases hx)⟩
 | x::r,seen,h=>by
  unfold TL at h
  by_cases h0:UK x=0
  ·rw[if_neg (fun g=>g h0)] at h
   by_cases h1:seen.contains x.id=true
   ·rw[if_pos h1] at h;exact absurd h (by decide)
   ·rw[if_neg h1] at h;obtain⟨a,b,c⟩:=P6 r _ h;refine⟨fun y hy=>?_,?_,fun y hy=>?_⟩
    ·rcases List.mem_cons.1 hy with rfl|hy
     ·exact h0
     ·exact a y hy
    ·rw[List.map_cons,List.nodup_cons];refine⟨fun hm=>?_,b⟩
     obtain⟨y,hy,e⟩:=List.mem_map.1 hm;exact c y hy (by rw[e];simp)
    ·rcases List.mem_cons.1 hy with rfl|hy
     ·simpa using h1
     ·exact fun g=>c y hy (List.mem_append_left _ g)
  ·rw[if_pos h0] at h;exact absurd h h0
theorem SL {xs:List Lot} (h:YM xs=0):xs.length<=1000/\(∀x∈xs,UK x=0)/\(xs.map (·.id)).Nodup:=by
 unfold YM at h
 by_cases h1:1000<xs.length
 ·rw[if_pos h1] at h;exact absurd h (by decide)
 ·rw[if_neg h1] at h;obtain⟨a,b,-⟩:=P6 xs [] h;exact⟨Nat.le_of_not_lt h1,a,b⟩
def SN (w:World) (M:Nat) (es:Array MapEntry) (c:Nat):Prop:=w.heap[M]?=some (.map es c)
theorem SN.lt {w:World} {M c:Nat} {es:Array MapEntry} (h:SN w M es c):M<w.heap.size:=(Ag.1 h).1
theorem SN.below {w w':World} {M c:Nat} {es:Array MapEntry} (h:SN w M es c) (hb:Below w.heap.size w w'):SN w' M es c:=(hb.block M h.lt).trans h
theorem SN.new (w:World):SN (w.alloc (.map #[] 0)) w.heap.size #[] 0:=by unfold SN;simp[World.alloc,-World.alloc_eq]
theorem SN.put {w:World} {M c:Nat} {es:Array MapEntry} (h:SN w M es c) (es':Array MapEntry) (c':Nat):SN { w with heap:=w.heap.setIfInBounds M (.map es' c') } M es' c':=by
 have:=h.lt
 unfold SN;simp[this]
theorem Jr {w W:World} {M:Nat} {ob:Obj} (h:Below w.heap.size w W) (hl:w.heap.size<=M):Below w.heap.size w { W with heap:=W.heap.setIfInBounds M ob }:=
 ⟨h.os,h.tape,h.output,by simpa using h.size,fun k hk=>by
  show (W.heap.setIfInBounds M ob)[k]?=_;rw[Array.getElem?_setIfInBounds_ne (by omega)]
  exact h.block k hk⟩
theorem Qx (b:ByteArray):MapKept.IsKey .string (.string b):=trivial
structure Yf (w:World) (A:Option Addr) (xs:List Lot) (n:Nat):Prop where
 len:xs.length=n
 big:n<=100000
 sm:∀x∈xs,Qw x
 mem:Yc w A xs
theorem Yf.below {w w':World} {A:Option Addr} {xs:List Lot} {n:Nat} (h:Yf w A xs n) (hb:Below w.heap.size w w'):Yf w' A xs n:=⟨h.len,h.big,h.sm,h.mem.below hb⟩
theorem Tm {w:World} {A:Option Addr} {xs:List Lot} {n:Nat} (c:Nat) (hG:GE w) (hL:Yf w A xs n) :
  Calls prog 120 #[.slice A n c] w fun e w'=>e=.returned (.int .i64 (YM xs))/\Below w.heap.size w w':=by
 have hn:=hL.len;have hn2:=hL.big;have HI:=Lh hL.mem;have HX:=Lh hL.sm;have hn1:xs.length<=n:=by omega
 have hn3:n<=xs.length:=by omega
 have HM:=Lh hn;obtain⟨E,hE⟩:∃E,E=YM xs:=⟨_,rfl⟩
 rw[<-hE];unfold YM at hE;have HV:=Lh hE;clear hE hL hn
 by_cases g1:1000<n
 ·have e1:decide (1000<n)=true:=Dt g1;have e2:decide ((1000:Int)<(n:Int))=true:=Dt (by omega)
  have HQ:Hid (E=4):=by show _=_;rw[HV.out,if_pos (by omega)]
  clear HV g1;go_enter func120,ntmps120;go_wp2;go_ret;exact⟨ZU HQ.out.symm,Below.refl _ _⟩
 have e1:decide (1000<n)=false:=Df g1;have e2:decide ((1000:Int)<(n:Int))=false:=Df (by omega)
 have HV1:Hid (E=TL [] xs):=by show _=_;rw[HV.out,if_neg (by omega)]
 clear HV g1;go_enter func120,ntmps120;have hmk:=fun w=>run_makeMap (P:=prog) 264 w
 go_wp2_with fail;clear hmk e1 e2;have hb0:=Zb w (.map #[] 0);have hM0:=Lh (SN.new w)
 go_loopw [5,6,13] (fun _ _ iv wr=>∃k:Nat,k<=n/\iv=.int .i64 (k:Int)/\Hid (E=TL ((xs.take k).map (·.id)) (xs.drop k))/\Hid (SN wr w.heap.size (UH ((xs.take k).map (·.id))) k)/\Below w.heap.size w wr) (fun _ _ iv _=>n-(intOf iv).toNat)
 case atStart=>exact⟨0,Nat.zero_le _,rfl,HV1.out,hM0.out,hb0⟩
 case round=>
  clear HV1 hM0 hb0;obtain⟨k,hk,rfl,HV,HB,hb⟩:=hrel
  by_cases hlk:k<n
  rotate_left
  ·have HQ:Hid (E=0):=by show _=_;rw[HV.out,List.drop_of_length_le (by omega)];rfl
   have e1:decide (k<n)=false:=Df hlk;clear HV HB;go_wp2;go_ret;exact⟨ZU HQ.out.symm,hb⟩
  have e1:decide (k<n)=true:=Dt hlk;obtain⟨x,hxk⟩:∃x,xs[k]?=some x:=⟨_,List.getElem?_eq_getElem (by omega)⟩
  obtain⟨b,o,rfl,hbs,hc0⟩:=(HI.out.below hb) k x hxk;have HD:=Lh (Jq hxk);have hsm:=HX.out x (Lm hxk);have HT:Hid ((xs.take (k+1)).map (·.id)=(xs.take k).map (·.id)++[x.id]):=by
   show _=_;obtain⟨hk',rfl⟩:=Lg.1 hxk;rw[List.take_succ_eq_append_getElem hk',List.map_append];rfl
  have HLl:Hid (((xs.take k).map (·.id)).length=k):=by show _=_;rw[List.length_map,List.length_take];omega
  obtain⟨sn,hsn⟩:∃sn,sn=(xs.take k).map (·.id):=⟨_,rfl⟩
  rw[<-hsn] at HB HD HV HT HLl;have C1:=Lh (Eu hsm);clear hxk hsn hsm;have p0:=hc0.c0;have p1:=hc0.c1;have p2:=hc0.c2;have p3:=hc0.c3;have p4:=hc0.c4;have p5:=hc0.c5;have p6:=hc0.c6;have hbA:=Zb wr (.cells #[.string ⟨x.id.toArray⟩,.string ⟨x.ins.toArray⟩,.int .i64 x.acq,.int .i64 x.opn,.string ⟨x.q.toArray⟩,.string ⟨x.cost.toArray⟩,.string ⟨x.used.toArray⟩] 130);have x5:=YS.new wr x 130;replace hb:=bto hb hbA;replace HB:=Lh (HB.out.below hbA);clear hbA;go_wp2_with fail
  refine (C1.out.of hG hb).mono ?_
  rintro e w1 ⟨rfl,hb1⟩;clear p0 p1 p2 p3 p4 p5 p6 hc0 C1;replace hb:=bto hb hb1;replace HB:=Lh (HB.out.below hb1);replace x5:=x5.below hb1;clear hb1
  by_cases g2:UK x=0
  rotate_left
  ·have e3:(UK x==0)=false:=by rw[Bn];exact g2
   have e4:=UG e3;have HQ:Hid (E=UK x):=by show _=_;rw[HV.out,HD.out,if_pos g2]
   clear g2 HV HD HB x5;go_wp2;go_ret;exact⟨ZU HQ.out.symm,hb⟩
  have e3:(UK x==0)=true:=by rw[beq_iff_eq];exact g2
  have e4:=ZaQ e3;have HV2:Hid (E=if sn.contains x.id=true then 5 else TL ((xs.take (k+1)).map (·.id)) (xs.drop (k+1))):=by show _=_;rw[HV.out,HD.out,if_neg (fun h=>h g2)]
  clear g2 HV HD;have q0:=x5.c0;have hf:=SJ x.id sn 0 0
  by_cases g3:sn.contains x.id=true
  ·have HQ:Hid (E=5):=by show _=_;rw[HV2.out,if_pos g3]
   rw[if_pos g3] at hf;have hlook:=Ur (P:=prog) (mty:=264) (key:=.string ⟨x.id.toArray⟩) underlying264 underlying9 (Qx _) HB.out (by simpa [UH] using hf) false
   clear g3 HV2 hf HB;go_wp2;go_ret;exact⟨ZU HQ.out.symm,hb⟩
  ·have HQ:Hid (E=TL ((xs.take (k+1)).map (·.id)) (xs.drop (k+1))):=by show _=_;rw[HV2.out,if_neg g3]
   rw[if_neg g3] at hf;have hlook:=TJ (P:=prog) (mty:=264) (key:=.string ⟨x.id.toArray⟩) underlying264 underlying9 (Qx _) HB.out (zeroValue4 w1) (by simpa [UH] using hf) false
   have hput:=UY (P:=prog) (mty:=264) (key:=.string ⟨x.id.toArray⟩) (val:=.bool true) underlying264 underlying9 (Qx _) HB.out (by simpa [UH] using hf)
   have HB2:=Lh (HB.out.put ((UH sn).push { key:=.string ⟨x.id.toArray⟩,val:=.bool true,born:=k }) (k+1));have hb2:=Jr (M:=w.heap.size) (ob:=.map ((UH sn).push { key:=.string ⟨x.id.toArray⟩,val:=.bool true,born:=k }) (k+1)) hb (Nl _);obtain⟨W,hW⟩:∃W:World,W={ w1 with heap:=w1.heap.setIfInBounds w.heap.size (.map ((UH sn).push { key:=.string ⟨x.id.toArray⟩,val:=.bool true,born:=k }) (k+1)) }:=⟨_,rfl⟩
   rw[<-hW] at hput HB2 hb2;have HS:Hid (UH (sn++[x.id])=(UH sn).push { key:=.string ⟨x.id.toArray⟩,val:=.bool true,born:=k }):=by show _=_;rw[Jl,HLl.out]
   clear g3 HV2 hf HB hW hb HLl;go_wp2;go_roundw
   case rel=>exact⟨k+1,by omega,by go_num,HQ.out,(by rw[HT.out,HS.out];exact HB2.out),hb2⟩
   case measure=>simp[intOf];omega
def Ev:List UInt8->Int
 | []=>0
 | c::t=>if c.toNat=45 then t.length else t.length+1
section
variable {P:Program} {ops:Array Oper} {md:Region.Mode}
structure Zq (X:Nat->Prop) (w w':World):Prop where
 os:w'.os=w.os
 tape:w'.tape=w.tape
 output:w'.output=w.output
 size:w.heap.size<=w'.heap.size
 block:∀k,k<w.heap.size->¬X k->w'.heap[k]?=w.heap[k]?
variable {X:Nat->Prop}
theorem Zq.lower {w0 w w':World} (h:Zq X w w') (hb:Below w0.heap.size w0 w) (hX:∀k,X k->w0.heap.size<=k):Below w0.heap.size w0 w':=
 ⟨h.os.trans hb.os,h.tape.trans hb.tape,h.output.trans hb.output,Nt hb.size h.size,fun k hk=>(h.block k (Nat.lt_of_lt_of_le hk hb.size) (fun hx=>by have:=hX k hx;omega)).trans (hb.block k hk)⟩
theorem Blk.keepX {w w':World} {b:Nat} {cs:Array Value} (h:Blk w b cs) (hb:Zq X w w') (hx:¬X b):Blk w' b cs:=by
 have hl:=h.lt;obtain⟨t,h⟩:=h;exact⟨t,(hb.block b hl hx).trans h⟩
end
section
variable {P:Program} {md:Region.Mode}
def YE (md:Region.Mode) (l:List Oper) (st:Oper):Bool:=
 (List.range l.length).all (fun i=>(((l++[st]).drop (i+1))).any (fun o=>o.after.any (fun e=>Region.binds md e&&e.on==i)))&&
 (List.range (l.length+1)).all (fun j=>(((l++[st])[j]?).map (fun o=>o.after.all (fun e=>!Region.binds md e||decide (e.on<j)))).getD true)
theorem Gx {l:List Oper} {st:Oper} (h:YE md l st=true) {i:Nat} (hi:i<l.length):∃j o e,i<j/\(l++[st])[j]?=some o/\e∈o.after/\Region.binds md e=true/\e.on=i:=by
 simp only[YE,Bool.and_eq_true,List.all_eq_true,List.mem_range,List.any_eq_true] at h;obtain⟨o,ho,hh⟩:=h.1 i hi;obtain⟨k,hk⟩:=List.mem_iff_getElem?.1 ho;rw[List.getElem?_drop] at hk;rw[Array.any_eq_true] at hh;obtain⟨m,hm,he⟩:=hh;simp only[Bool.and_eq_true,beq_iff_eq] at he;exact⟨i+1+k,o,o.after[m],by omega,hk,Array.getElem_mem hm,he.1,he.2⟩
theorem Xi {l:List Oper} {st:Oper} (h:YE md l st=true) {j:Nat} {o:Oper} (ho:(l++[st])[j]?=some o):∀e∈o.after,Region.binds md e=true->e.on<j:=by
 simp only[YE,Bool.and_eq_true,List.all_eq_true,List.mem_range] at h;have hj:j<l.length+1:=by have:=(Lg.1 ho).1;simpa using this
 have h2:=h.2 j hj;rw[ho] at h2;simp only[Option.map_some,Option.getD_some,Array.all_eq_true_iff_forall_mem] at h2;intro e he hb;have h3:=h2 e he;rw[hb] at h3;simpa using h3
structure Tw (l:List Oper) (st:Oper) (md:Region.Mode) (listed listed0:Array Bool):Prop where
 s:listed.size=l.length+1
 s0:listed0.size=l.length
 same:∀j,j<l.length->listed.getD j true=listed0.getD j true
 last:listed.getD l.length true=false
 down:∀j o,j<l.length->listed.getD j true=true->(l++[st])[j]?=some o->∀e∈o.after,Region.binds md e=true->listed.getD e.on true=true
theorem Wr {x:Array Bool} {j:Nat} (h:j<x.size):x.getD j true=x.getD j false:=by simp[h]
theorem Tw.all {l:List Oper} {st:Oper} {listed listed0:Array Bool} (t:Tw l st md listed listed0) (hU:YE md l st=true) (h:Region.ready md l.toArray listed0=[]):∀j,j<l.length->listed0.getD j true=true:=by
 intro j
 induction j using Nat.strongRecOn with
 | _ j ih=>
  intro hj
  by_cases hx:listed0.getD j true=true
  ·exact hx
  ·have:j∈Region.ready md l.toArray listed0:=by
    rw[mem_ready];refine⟨by simpa using hx,l[j],by simp[hj],fun e he hb=>?_⟩
    have h1:(l++[st])[j]?=some l[j]:=by rw[List.getElem?_append_left hj];simp[hj]
    have h2:=Xi hU h1 e he hb;rw[<-Wr (by rw[t.s0];omega)]
    exact ih e.on h2 (by omega)
   rw[h] at this;cases this
theorem Tw.ready_last {l:List Oper} {st:Oper} {listed listed0:Array Bool} (t:Tw l st md listed listed0) (hU:YE md l st=true) (h:∀j,j<l.length->listed0.getD j true=true):l.length∈Region.ready md (l++[st]).toArray listed:=by
 rw[mem_ready];refine⟨t.last,st,by simp,fun e he hb=>?_⟩
 have h2:=Xi hU (j:=l.length) (o:=st) (by simp) e he hb
 rw[<-Wr (by rw[t.s];omega),t.same _ h2]
 exact h _ h2
theorem Tw.of_last {l:List Oper} {st:Oper} {listed listed0:Array Bool} (t:Tw l st md listed listed0) (hU:YE md l st=true) (h:l.length∈Region.ready md (l++[st]).toArray listed):∀j,j<l.length->listed0.getD j true=true:=by
 obtain⟨_,o,ho,hall⟩:=mem_ready.1 h;have hst:o=st:=by simpa using ho.symm
 subst hst;have key:∀m j,l.length-j<=m->j<l.length->listed.getD j true=true:=by
  intro m
  induction m with
  | zero=>intro j h1 h2;omega
  | succ m ih=>
   intro j h1 h2;obtain⟨k,o',e,hk,ho',he,hb,rfl⟩:=Gx hU h2
   by_cases hkl:k<l.length
   ·exact t.down k o' hkl (ih k (by omega) hkl) ho' e he hb
   ·have hk2:k=l.length:=by have:=(Lg.1 ho').1;simp at this;omega
    subst hk2;have ho2:o'=o:=by simpa using ho'.symm
    subst ho2
    have:=hall e he hb
    rw[Wr (by rw[t.s];omega)]
    exact this
 intro j hj;rw[<-t.same j hj];exact key _ j (Nl _) hj
theorem Tw.ready {l:List Oper} {st:Oper} {listed listed0:Array Bool} (t:Tw l st md listed listed0) (hU:YE md l st=true) {i:Nat} (hi:i<l.length) (h:i∈Region.ready md (l++[st]).toArray listed):i∈Region.ready md l.toArray listed0:=by
 obtain⟨h0,o,ho,hall⟩:=mem_ready.1 h;have ho2:(l++[st])[i]?=some o:=by simpa using ho
 rw[mem_ready];refine⟨by rw[<-t.same i hi];exact h0,o,by rw[List.getElem?_append_left hi] at ho2;simpa using ho2,fun e he hb=>?_⟩
 have h2:=Xi hU ho2 e he hb;have h3:=hall e he hb;rw[<-Wr (by rw[t.s0];omega),<-t.same e.on (by omega),Wr (by rw[t.s];omega)]
 exact h3
theorem Tw.step {l:List Oper} {st:Oper} {listed listed0:Array Bool} (t:Tw l st md listed listed0) (hU:YE md l st=true) {i:Nat} (hi:i<l.length) (h:i∈Region.ready md (l++[st]).toArray listed):Tw l st md (listed.setIfInBounds i true) (listed0.setIfInBounds i true):=by
 obtain⟨h0,o,ho,hall⟩:=mem_ready.1 h;have ho2:(l++[st])[i]?=some o:=by simpa using ho
 refine⟨by simp[t.s],by simp[t.s0],fun j hj=>?_,by rw[getD_set_ne true (by omega)];exact t.last,fun j o' hj hl ho' e he hb=>?_⟩
 ·by_cases hij:i=j
  ·subst hij;simp[t.s,t.s0,hi,Nat.lt_succ_of_lt hi]
  ·rw[getD_set_ne true hij,getD_set_ne true hij];exact t.same j hj
 ·by_cases hij:i=j
  ·subst hij
   have:o'=o:=by rw[ho2] at ho';injection ho' with h;exact h.symm
   subst this;have h2:=Xi hU ho2 e he hb;have h3:=hall e he hb;rw[getD_set_ne true (by omega),Wr (by rw[t.s];omega)]
   exact h3
  ·rw[getD_set_ne true hij] at hl
   have:=t.down j o' hj hl ho' e he hb
   by_cases hie:i=e.on
   ·rw[<-hie];simp[t.s,Nat.lt_succ_of_lt hi]
   ·rw[getD_set_ne true hie];exact this
end
section
variable {P:Program} {md:Region.Mode}
theorem Oper.wp_mono2 {o:Oper} {a:Act} {w:World} {K K':Act->World->Prop} {Q Q':Exit->Act->World->Prop} (h:∀a w,K a w->K' a w) (hp:∀c a w,Q (.panic c) a w->Q' (.panic c) a w) (hl:LetsOut Q->LetsOut Q')
  (hh:o.wp P a w K Q):o.wp P a w K' Q':=by
 unfold Oper.wp at *;generalize (execOp a.eval o).run P w=r at *;cases r with
 | ok n w'=>
  cases n<;>simp only[Oper.upon] at hh ⊢ <;>
   first
    | exact h _ _ hh
    | exact Calls.mono hh (fun e w'' he=>by
      cases e<;>first
       | exact h _ _ he
       | exact hp _ _ _ he
       | exact hl he)
    | exact Rows.mono hh (fun _ _ he=>h _ _ he)
 | halt x w'=>
  cases x<;>simp only[Oper.upon] at hh ⊢<;>first
   | exact hp _ _ _ hh
   | exact hh
theorem Ya {o:Oper} (h:o.guard=none) (f:Nat->Option Bool):Region.wanted o f=true:=by unfold Region.wanted;rw[h]
theorem Vu {L:List Oper} {st:Oper} {Q:Exit->Act->World->Prop} (hU:YE md L st=true) (hg:st.guard=none) (hgs:∀o∈L,o.guard=none) :
  ∀(fuel:Nat) (listed listed0:Array Bool) (a:Act) (w:World),Tw L st md listed listed0->
  wpAny P md L.toArray (Exit.then (wpList P (L++[st]).toArray Q [st]) Q) fuel listed0 a w->wpAny P md (L++[st]).toArray Q (fuel+1) listed a w:=by
 have lo:LetsOut (Exit.then (wpList P (L++[st]).toArray Q [st]) Q)->LetsOut Q:=fun ⟨a,w,h⟩=>⟨a,w,h⟩
 have fin:∀(fuel:Nat) (listed listed0:Array Bool) (a:Act) (w:World),Tw L st md listed listed0->(∀j,j<L.length->listed0.getD j true=true)->wpList P (L++[st]).toArray Q [st] a w->
   wpOp P (L++[st]).toArray Q L.length (wpAny P md (L++[st]).toArray Q fuel (listed.setIfInBounds L.length true)) a w:=by
  intro fuel listed listed0 a w t hall h;have hnone:Region.ready md (L++[st]).toArray (listed.setIfInBounds L.length true)=[]:=by
   apply List.eq_nil_iff_forall_not_mem.2;intro j hj;have hj0:=(mem_ready.1 hj).1
   by_cases hjl:j=L.length
   ·subst hjl;simp[t.s] at hj0
   ·have hlt:j<L.length:=by
     obtain⟨o,ho,_⟩:=(mem_ready.1 hj).2
     have:=(Ag.1 ho).1;simp at this;omega
    rw[getD_set_ne true (by omega),t.same j hlt,hall j hlt] at hj0;cases hj0
  have hK:∀a w,Q .normal a w->wpAny P md (L++[st]).toArray Q fuel (listed.setIfInBounds L.length true) a w:=by
   intro a w hq;cases fuel with
   | zero=>exact⟨hnone,hq⟩
   | succ n=>exact⟨fun _=>hq,fun j hj=>by rw[hnone] at hj;cases hj⟩
  unfold wpList at h;unfold wpOp;simp only[List.getElem?_toArray,List.getElem?_append_right (Nl _),Nat.sub_self,List.getElem?_cons_zero];simp only[Ya hg,if_true] at h ⊢;rcases h with h|h
  ·exact .inl (Oper.wp_mono (fun a w h=>hK a w h) h)
  ·exact .inr h
 intro fuel
 induction fuel with
 | zero=>
  intro listed listed0 a w t h;have hall:=t.all hU h.1;refine⟨fun h0=>?_,fun i hi=>?_⟩
  ·have:=t.ready_last hU hall;rw[h0] at this;cases this
  ·by_cases hil:i<L.length
   ·have:=t.ready hU hil hi;rw[h.1] at this;cases this
   ·have hi2:i=L.length:=by
     obtain⟨o,ho,_⟩:=(mem_ready.1 hi).2
     have:=(Ag.1 ho).1;simp at this;omega
    subst hi2;exact fin 0 _ _ _ _ t hall h.2
 | succ fuel ih=>
  intro listed listed0 a w t h;refine⟨fun h0=>?_,fun i hi=>?_⟩
  ·have hr0:Region.ready md L.toArray listed0=[]:=by
    apply List.eq_nil_iff_forall_not_mem.2;intro j hj;obtain⟨j0,o,ho,hall⟩:=mem_ready.1 hj;have hjl:j<L.length:=by have:=(Ag.1 ho).1;simpa using this
    have:j∈Region.ready md (L++[st]).toArray listed:=by
     rw[mem_ready];have ho2:(L++[st])[j]?=some o:=by rw[List.getElem?_append_left hjl];simpa using ho
     refine⟨by rw[t.same j hjl];exact j0,o,by simpa using ho2,fun e he hb=>?_⟩
     have h2:=Xi hU ho2 e he hb;have h3:=hall e he hb;rw[<-Wr (by rw[t.s];omega),t.same e.on (by omega),Wr (by rw[t.s0];omega)]
     exact h3
    rw[h0] at this;cases this
   have:=t.ready_last hU (t.all hU hr0);rw[h0] at this;cases this
  ·by_cases hil:i<L.length
   ·have hi0:=t.ready hU hil hi;have h1:=h.2 i hi0;have t':=t.step hU hil hi;obtain⟨hun,o,ho,_⟩:=mem_ready.1 hi0;have hoL:o∈L:=by
     have:L[i]?=some o:=by simpa using ho
     exact Lm this
    have ho2:(L++[st]).toArray[i]?=some o:=by
     have:(L++[st])[i]?=some o:=by rw[List.getElem?_append_left hil];simpa using ho
     simpa using this
    unfold wpOp at h1 ⊢;simp only[ho,ho2,Ya (hgs o hoL),if_true] at h1 ⊢;rcases h1 with h1|h1
    ·exact .inl (Oper.wp_mono2 (fun a w h=>ih _ _ _ _ t' h) (fun _ _ _ h=>h) lo h1)
    ·exact .inr ⟨h1.1,lo h1.2⟩
   ·have hi2:i=L.length:=by
     obtain⟨o,ho,_⟩:=(mem_ready.1 hi).2
     have:=(Ag.1 ho).1;simp at this;omega
    subst hi2;have hall:=t.of_last hU hi;have hr0:Region.ready md L.toArray listed0=[]:=by
     apply List.eq_nil_iff_forall_not_mem.2;intro j hj;obtain⟨j0,o,ho,_⟩:=mem_ready.1 hj;have hjl:j<L.length:=by have:=(Ag.1 ho).1;simpa using this
     rw[hall j hjl] at j0;cases j0
    exact fin (fuel+1) _ _ _ _ t hall (h.1 hr0)
theorem Vv (L:List Oper) (st:Oper):Tw L st md (Array.replicate (L++[st]).toArray.size false) (Array.replicate L.toArray.size false):=by
 refine⟨by simp,by simp,fun j hj=>?_,?_,fun j o hj hl=>?_⟩
 ·simp[hj,Nat.lt_succ_of_lt hj]
 ·simp
 ·simp[Nat.lt_succ_of_lt hj] at hl
theorem Q5 {id:Nat} {Q:Exit->Act->World->Prop} {a:Act} {w:World} {l:List Oper} {s1 s2:Oper} (hm:P.follows .mixedOrders=true) (hB:Region.lexB .any l.toArray=true) (hU1:YE .any l s1=true) (hU2:YE .any (l++[s1]) s2=true) (hg:(l++[s1]++[s2]).all (fun o=>o.guard.isNone)=true)
  (h:Z6 P l.toArray (fun w'=>Below w.heap.size w w') (fun a' B=>∀ρ w',Fits w ρ B w'->wpList P (l++[s1]++[s2]).toArray Q [s1,s2] (a' ρ) w') l 0 (fun _=>a) (fun _=>none)):(Code.region id (l++[s1]++[s2]).toArray true).wp P Q a w:=by
 simp only[Region.lexB,Bool.and_eq_true] at hB;have hgs:∀o∈l++[s1]++[s2],o.guard=none:=fun o ho=>by
  have:=(List.all_eq_true.1 hg) o ho
  simpa using this
 refine wp_region_any hm ?_;have hf:Fits w (fun _=>0) (fun _=>none) { w with drawn:=w.drawn+1 }:=
  ⟨⟨rfl,rfl,rfl,Nl _,fun _ _=>rfl⟩,fun _ _ _ h=>(by cases h),fun _ _ h=>absurd rfl h⟩
 have h1:=Vr (C:=fun w'=>Below w.heap.size w w') (md:=.any) hB.1 l 0 (Array.replicate l.toArray.size false) (fun _=>a) (fun _=>none) (by simp) (by simpa using hB.2) h
 have g1:s1.guard=none:=hgs s1 (by simp)
 have g2:s2.guard=none:=hgs s2 (by simp)
 have h2:=ZX (P:=P) (md:=.any) (Q:=fun a' B=>∀ρ w',Fits w ρ B w'->wpList P (l++[s1]++[s2]).toArray Q [s1,s2] (a' ρ) w') (Q':=Exit.then (wpList P (l++[s1]).toArray (Exit.then (wpList P (l++[s1]++[s2]).toArray Q [s2]) Q) [s1]) (Exit.then (wpList P (l++[s1]++[s2]).toArray Q [s2]) Q)) (fun a' B ρ w' hf' h'=>by
  have h3:wpList P (l++[s1]++[s2]).toArray Q [s1,s2] (a' ρ) w':=h' ρ w' hf';show wpList P (l++[s1]).toArray _ [s1] (a' ρ) w';rw[wpList] at h3 ⊢;simp only[Ya g1,if_true] at h3 ⊢;rcases h3 with h3|h3
  ·exact .inl (Oper.wp_mono2 (fun a w h=>h) (fun _ _ _ h=>h) (fun ⟨a,w,h⟩=>⟨a,w,h⟩) h3)
  ·exact .inr ⟨h3.1,(fun ⟨a,w,h⟩=>⟨a,w,h⟩) h3.2⟩) l.toArray.size _ (fun _=>a) (fun _=>none) (fun _=>0) _ hf (fun _ _ _ _=>rfl) (by simpa using h1)
 have h3:=Vu (P:=P) (md:=.any) hU1 g1 (fun o ho=>hgs o (by simp[ho])) _ _ _ a _ (Vv l s1) h2
 have h4:=Vu (P:=P) (md:=.any) hU2 g2 (fun o ho=>hgs o (List.mem_append_left _ ho)) _ _ _ a _ (Vv (l++[s1]) s2) h3
 simpa using h4
theorem Qy {id:Nat} {Q:Exit->Act->World->Prop} {a:Act} {w:World} {L:List Oper} (hne:L≠[]) (hne2:L.dropLast≠[]) (hm:P.follows .mixedOrders=true) (hB:Region.lexB .any L.dropLast.dropLast.toArray=true) (hU1:YE .any L.dropLast.dropLast (L.dropLast.getLast hne2)=true) (hU2:YE .any L.dropLast (L.getLast hne)=true) (hg:L.all (fun o=>o.guard.isNone)=true)
  (h:Z6 P L.dropLast.dropLast.toArray (fun w'=>Below w.heap.size w w') (fun a' B=>∀ρ w',Fits w ρ B w'->wpList P L.toArray Q [L.dropLast.getLast hne2,L.getLast hne] (a' ρ) w') L.dropLast.dropLast 0 (fun _=>a) (fun _=>none)):(Code.region id L.toArray true).wp P Q a w:=by
 have e1:L.dropLast.dropLast++[L.dropLast.getLast hne2]=L.dropLast:=List.dropLast_concat_getLast hne2;have e2:L.dropLast++[L.getLast hne]=L:=List.dropLast_concat_getLast hne
 have:=Q5 (P:=P) (id:=id) (Q:=Q) (a:=a) (w:=w) (l:=L.dropLast.dropLast) (s1:=L.dropLast.getLast hne2) (s2:=L.getLast hne) hm hB hU1 (by rw[e1];exact hU2) (by rw[e1,e2];exact hg) (by rw[e1,e2];exact h)
 rwa [e1,e2] at this
end
section
variable {P:Program} {ops:Array Oper} {C:World->Prop} {Q:St->Bx->Prop} {rest:List Oper} {i:Nat} {a:St} {B:Bx} {o:Oper}
theorem Wt (w:World) (b j:Nat) (cs:Array Value) (x:Value) (t:TypeId) (h:w.heap[b]?=some (.cells cs t (0,0))):YX w (w.setCell ⟨b,j,none⟩ x) b (.cells (cs.setIfInBounds j x) t (0,0)):=by
 refine⟨rfl,rfl,rfl,by simp,?_,fun k hk=>Below.heap_setCell w ⟨b,j,none⟩ x k hk⟩
 obtain⟨hlt,hk⟩:=Ag.1 h;show (w.heap.modify b _)[b]?=_;rw[Array.getElem?_eq_getElem (by rw[Array.size_modify];exact hlt),Array.getElem_modify_self,hk]
 rfl
section
variable {md:Region.Mode}
end
end
end Go.Proofs.YtpieeldbamklkaaGreatDoor
