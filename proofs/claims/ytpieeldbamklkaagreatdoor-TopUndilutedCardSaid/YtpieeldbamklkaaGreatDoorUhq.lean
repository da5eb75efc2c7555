/- slices.Grow and slices.Concat at integers. -/
import Derived.Test.YtpieeldbamklkaaGreatDoorW8
import Derived.Shelf.Spec.SlicesGrow
import Derived.Laws.AppendOwnNone
import Derived.Test.YtpieeldbamklkaaGreatDoorUgq
set_option maxHeartbeats 4000000
set_option maxRecDepth 100000
namespace Go.Proofs
open Go.Shelf
def Tryz.growAi_ren:Go.Shelf.Ren:=⟨fun|4=>142|n=>n,fun|0=>0|3=>3|4=>4|9=>9|20=>20|22=>50|25=>32|n=>n,fun|n=>n⟩
theorem Tryz.growAi:Go.Proofs.Lays8.n4 Tryz.prog Tryz.growAi_ren:={
 mixed:=by kernel_rfl
 f4:=⟨Tryz.f142.name,by decide,Tryz.func142.trans (congrArg some (by kernel_rfl))⟩
 t0:=Tryz.underlying0
 a0:=Tryz.isAgg0
 z0:=Tryz.sizeOf0
 v0:=Tryz.zeroValue0
 t3:=Tryz.underlying3
 a3:=Tryz.isAgg3
 z3:=Tryz.sizeOf3
 v3:=Tryz.zeroValue3
 t4:=Tryz.underlying4
 a4:=Tryz.isAgg4
 z4:=Tryz.sizeOf4
 v4:=Tryz.zeroValue4
 t9:=Tryz.underlying9
 a9:=Tryz.isAgg9
 z9:=Tryz.sizeOf9
 v9:=Tryz.zeroValue9
 t20:=Tryz.underlying20
 a20:=Tryz.isAgg20
 z20:=Tryz.sizeOf20
 v20:=Tryz.zeroValue20
 t22:=Tryz.underlying50
 a22:=Tryz.isAgg50
 z22:=Tryz.sizeOf50
 v22:=Tryz.zeroValue50 }
end Go.Proofs
namespace Go.Proofs.YtpieeldbamklkaaGreatDoor
open Go.RowKit Num
theorem Qv {P:Program} {w:World} (base:Nat) (t ty e:TypeId) (i:TypeInfo) (size:Nat) (ht:P.underlying t=some (.slice e)) (hi:P.info? e=some i)
  (v:Value) (n c:Nat) (xs:List Value) (hown:w.ownsRow base e size v n xs) :
  (Builtin.append_ #[t,t] ty #[v,.slice none 0 c]).run P w=.ok v w:=by
 rcases hown.2 with ⟨rfl,rfl⟩|⟨g,cap,cur,rfl,_,_,hnc,_⟩
 ·simp[Builtin.append_,run_underlying ht,sizeOf,typeInfo,hi,Builtin.lenOf,Builtin.firstCells]
 ·simp[Builtin.append_,run_underlying ht,sizeOf,typeInfo,hi,Builtin.lenOf,Builtin.firstCells,hnc,storeCells]
theorem Tz {P:Program} {w:World} {ops:Array Oper} {rest:List Oper} {o:Oper} {a:Act} {Q:Exit->Act->World->Prop} (hgd:o.guard=none) (s x:Operand) (t:TypeId)
  (ho:o.op=.call { callee:=.builtin .append,args:=#[s,x],argTypes:=#[t,t] })
  (base:Nat) (e:TypeId) (i:TypeInfo) (size:Nat) (ht:P.underlying t=some (.slice e)) (hi:P.info? e=some i)
  (v:Value) (n c:Nat) (xs:List Value) (hs:a.eval s=v) (hown:w.ownsRow base e size v n xs) (hx:a.eval x=.slice none 0 c)
  (h:wpList P ops Q rest (a.put o.dst v) w):wpList P ops Q (o::rest) a w:=by
 refine wpList_plain hgd fun K hK=>?_
 have hrun:=Qv (P:=P) (w:=w) base t o.type e i size ht hi v n c xs hown;unfold Oper.wp;simp[execOp,ho,resolve,invoke,builtin,hs,hx,hrun,Result.andThen];exact hK _ _ h
structure UZ where
 A:Option Addr
 ts:List (List UInt8)
 n:Nat
 c:Nat
structure UZ.At (r:UZ) (w:World):Prop where
 len:r.ts.length=r.n
 cap:r.n<=r.c
 mem:Xb w r.A r.ts
def UZ.v (r:UZ):Value:=.slice r.A r.n r.c
theorem UZ.At.below {r:UZ} {w w':World} (h:r.At w) (hb:Below w.heap.size w w'):r.At w':=⟨h.len,h.cap,h.mem.below hb⟩
def Lz (w:World) (A:Option Addr) (rs:List UZ):Prop:=∀(i:Nat) (r:UZ),rs[i]?=some r->∃b o,A=some ⟨b,o,none⟩/\b<w.heap.size/\w.cell? ⟨b,o+i,none⟩=some r.v
theorem Lz.below {w w':World} {A:Option Addr} {rs:List UZ} (h:Lz w A rs) (hb:Below w.heap.size w w'):Lz w' A rs:=fun i t ht=>by
 obtain⟨b,o,hA,hl,h0⟩:=h i t ht;exact⟨b,o,hA,Nat.lt_of_lt_of_le hl hb.size,(hb.cell (p:=⟨b,_,none⟩) hl).trans h0⟩
theorem GH (ts:List (List UInt8)):∀u∈Xu ts,u.oneCell'=true:=fun u hu=>by
 obtain⟨r,-,rfl⟩:=List.mem_map.1 hu;rfl
theorem GI (a b:List (List UInt8)):Xu (a++b)=Xu a++Xu b:=List.map_append
theorem E7 {w:World} {B n c:Nat} {A:Option Addr} {ws:List (List UInt8)} (h:w.ownsRow B 32 1 (.slice A n c) n (Xu ws)) (hn:ws.length=n):n<=c/\Xb w A ws:=by
 refine⟨?_,Il h hn⟩;rcases h.2 with ⟨e,h0⟩|⟨g,cap,cur,e,-,-,hc,-⟩
 ·omega
 ·injection e with _ _ e
  omega
theorem Za9 (n:Nat) (w:World) (hn:n<=1000):Calls Tryz.prog 142 #[.slice none 0 0,.int .i64 n] w fun e w'=>∃B cp,e=.returned (.slice B 0 cp)/\w'.ownsRow w.heap.size 32 1 (.slice B 0 cp) 0 []/\Below w.heap.size w w':=by
 obtain⟨i0,hi,hz0,hz1,hz2⟩:=info_parts Tl
 by_cases h0:n=0
 ·subst h0;refine (Any8.slices_Grow_room Tryz.growAi none 0 0 0 w (Nl _) (by decide) (by decide) (by decide)).mono ?_
  rintro e w' ⟨rfl,rfl⟩;exact⟨none,0,rfl,World.ownsRow_nil _ _ _ _,Below.refl _ _⟩
 ·refine (Any8.slices_Grow_grow Tryz.growAi i0 (.string ⟨#[]⟩) hi hz0 (by rw[hz1];decide) none 0 0 n [] w (Nl _) (by omega) (by rw[hz2];omega) (by omega) (by simp) (fun _=>rfl) (fun a ha=>by cases ha)).mono ?_
  rintro e w' ⟨rfl,rfl⟩;refine⟨_,_,rfl,?_,bto (Below.drew (Below.refl _ _)) (Zd w.drew _)⟩;refine World.ownsRow_made w.drew _ _ (Nl _) (grownCap_le_maxLen w _ _ _ (by unfold maxLen;omega)) ?_
  have hge:=grownCap_ge w (0+n) 0 32;rw[Array.size_append,Array.size_append,size_zeroCells,size_zeroCells];show 0+(0+n-0)*1+(grownCap w (0+n) 0 32-(0+n))*1=grownCap w (0+n) 0 32*1;omega
def UH (rs:List UZ):List (List UInt8):=rs.flatMap (·.ts)
theorem U0 {rs:List UZ} {k:Nat} {r:UZ} (h:rs[k]?=some r):UH (rs.take (k+1))=UH (rs.take k)++r.ts:=by
 obtain⟨hk,rfl⟩:=Lg.1 h;unfold UH;rw[List.take_add_one,List.getElem?_eq_getElem hk,List.flatMap_append];simp[List.flatMap_cons]
theorem GJ {w:World} {a:Addr} {ts:List (List UInt8)} (h:Xb w (some a) ts):∀j u,(Xu ts)[j]?=some u->w.cell? (a.add j)=some u:=fun j u hu=>by
 unfold Xu at hu;rw[List.getElem?_map] at hu;cases ht:ts[j]? with
 | none=>rw[ht] at hu;cases hu
 | some r=>
  rw[ht] at hu;cases hu;obtain⟨b,o,hA,-,h0⟩:=h j r ht;injection hA with hA
  subst hA;rw[Lib.add_plain];exact h0
theorem E8 {w:World} {ts:List (List UInt8)} (h:Xb w none ts):ts=[]:=by
 cases ts with
 | nil=>rfl
 | cons t r=>obtain⟨b,o,hA,-⟩:=h 0 t rfl;cases hA
theorem Zao (rs:List UZ) (k:Nat):(UH (rs.take k)).length<=(UH rs).length:=by
 unfold UH
 conv=>rhs;rw[<-List.take_append_drop k rs]
 rw[List.flatMap_append,List.length_append];omega
theorem BC (A:Option Addr) (rs:List UZ) (n c:Nat) (w:World) (hn:rs.length=n) (hn2:n<=1000) (h:Lz w A rs) (hr:∀r∈rs,r.At w) (hL:(UH rs).length<=1000) :
  Calls Tryz.prog 66 #[.slice A n c] w fun e w'=>∃B cp,e=.returned (.slice B (UH rs).length cp)/\(UH rs).length<=cp/\Xb w' B (UH rs)/\Below w.heap.size w w':=by
 obtain⟨i0,hi,hz0,hz1,hz2⟩:=info_parts Tl;have HI:=Lh h;have HR:=Lh hr;have hn1:rs.length<=n:=by omega
 have hn3:n<=rs.length:=by omega
 have HL:=Lh (fun k=>Zao rs k)
 obtain⟨T,hT⟩:∃T,T=(UH rs).length:=⟨_,rfl⟩
 rw[<-hT] at hL ⊢;have HT:=Lh hT;clear h hr hn hT;go_enter Tryz.func66,Tryz.ntmps66;go_wp2_with fail
 go_loopw [3,11] (fun sv iv wr=>∃(k s:Nat),k<=n/\iv=.int .i64 (k:Int)/\sv=.int .i64 (s:Int)/\Hid ((UH (rs.take k)).length=s)/\Below w.heap.size w wr) (fun _ iv _=>n-(intOf iv).toNat)
 case atStart=>exact⟨0,0,Nat.zero_le _,rfl,rfl,rfl,Below.refl _ _⟩
 case round=>
  obtain⟨k,s,hk,rfl,rfl,HS,hb⟩:=hrel;have hs:s<=T:=by have:=HL.out k;rw[HS.out,<-HT.out] at this;exact this
  by_cases hlt:k<n
  ·obtain⟨r,hx⟩:∃r,rs[k]?=some r:=⟨_,List.getElem?_eq_getElem (by omega)⟩
   obtain⟨b,o,rfl,hbs,p0⟩:=(HI.out.below hb) k r hx;have hA:=HR.out r (Lm hx);have hl:s+r.n<=T:=by have:=HL.out (k+1);rw[U0 hx,List.length_append,HS.out,hA.len,<-HT.out] at this;exact this
   have HV:Hid ((UH (rs.take (k+1))).length=s+r.n):=by show _=_;rw[U0 hx,List.length_append,HS.out,hA.len]
   unfold UZ.v at p0;obtain⟨RA,rts,rn,rc⟩:=r;dsimp only at p0 hl HV;have en:¬((s:Int)+(rn:Int)<0):=by omega
   clear hx hA HS;go_wp2;go_roundw
   case rel=>exact⟨k+1,s+rn,by omega,by go_num,by go_num,HV,hb⟩
   case measure=>simp[intOf];omega
  ·have hsT:s=T:=by have:=HS.out;rw[List.take_of_length_le (by omega),<-HT.out] at this;exact this.symm
   subst hsT;obtain⟨wq,hwq⟩:∃wq,wq=wr:=⟨_,rfl⟩
   subst hwq;have CG:=Lh (Za9 s wq hL);clear HS hs;go_wp2_with fail;refine CG.out.mono ?_;rintro e w2 ⟨B,cp,rfl,hown,hb2⟩;have HO:=Lh hown;have hbz:=hb2;have HB0:=Lh hb;have hbs:=hb.size;clear CG hown;go_wp2_with fail
   go_loopw [6,27] (fun ov iv wz=>∃(k m:Nat) (B:Option Addr) (cp:Nat),k<=n/\iv=.int .i64 (k:Int)/\ov=.slice B m cp/\Hid ((UH (rs.take k)).length=m)/\Hid (wz.ownsRow wq.heap.size 32 1 (.slice B m cp) m (Xu (UH (rs.take k))))/\Below wq.heap.size wq wz) (fun _ iv _=>n-(intOf iv).toNat)
   case atStart=>exact⟨0,0,B,cp,Nat.zero_le _,rfl,rfl,rfl,HO.out,hbz⟩
   case round=>
    clear hb hbz HO;obtain⟨k,m,B,cp,hk,rfl,rfl,HS,HO,hbq⟩:=hrel;have hb:=bto HB0.out hbq
    by_cases hlt:k<n
    ·obtain⟨r,hx⟩:∃r,rs[k]?=some r:=⟨_,List.getElem?_eq_getElem (by omega)⟩
     obtain⟨b,o,rfl,hds,p0⟩:=(HI.out.below hb) k r hx;have hA:=(HR.out r (Lm hx)).below hb;have hl:m+r.n<=s:=by have:=HL.out (k+1);rw[U0 hx,List.length_append,HS.out,hA.len,<-HT.out] at this;exact this
     have HV:Hid ((UH (rs.take (k+1))).length=m+r.n):=by show _=_;rw[U0 hx,List.length_append,HS.out,hA.len]
     have HW:=Lh (U0 hx);unfold UZ.v at p0;obtain⟨RA,rts,rn,rc⟩:=r;dsimp only at p0 hl HV HW;have hlen:rts.length=rn:=hA.len;have hM:=Lh (show Xb wr RA rts from hA.mem)
     clear hx hA HS;cases RA with
     | none=>
      obtain rfl:=E8 hM.out;obtain rfl:rn=0:=hlen.symm;go_wp2_with (at_builtin;refine Tz rfl _ _ 50 rfl wq.heap.size 32 i0 1 Tryz.underlying50 hi _ m rc _ rfl HO.out rfl ?_);go_wp2;go_roundw
      case rel=>exact⟨k+1,m,B,cp,by omega,by go_num,rfl,HV,by show World.ownsRow _ _ _ _ _ _ _;rw[HW.out,List.append_nil];exact HO.out,hbq⟩
      case measure=>simp[intOf];omega
     | some a=>
      go_wp2_with (at_builtin;refine wpList_append_own _ rfl _ _ 50 rfl wq.heap.size 32 i0 (.string ⟨#[]⟩) 1 16 Tryz.underlying50 hi hz0 hz1 hz2 rfl (by decide) _ _ _ rfl HO.out a rn rc (Xu rts) rfl ?qc1 ?qc2 ?qc3 ?qc4 ?qc5 ?qc6 ?_)
      case qc1=>rw[Gs,hlen,Nat.mul_one]
      case qc2=>exact GJ hM.out
      case qc3=>exact GH rts
      case qc4=>unfold maxLen;omega
      case qc5=>omega
      case qc6=>exact hbq.size
      intro v' w6 hown hgrow _;obtain⟨B',cp',rfl⟩:∃B cp,v'=.slice B (m+rn) cp:=by
       rcases hown.2 with ⟨rfl,h0⟩|⟨g,cap,cur,rfl,-⟩
       ·exact⟨none,0,by rw[h0]⟩
       ·exact⟨_,_,rfl⟩
      have hb6:=Below.grown hbq hgrow hbq.size (fun j ej=>(World.ownsRow.lt HO.out j ej).1)
      have HO6:Hid (w6.ownsRow wq.heap.size 32 1 (.slice B' (m+rn) cp') (m+rn) (Xu (UH (rs.take (k+1))))):=by
       show World.ownsRow _ _ _ _ _ _ _;rw[HW.out,GI];exact hown
      clear hown hgrow HO HW hM hb hbq;go_wp2;go_roundw
      case rel=>exact⟨k+1,m+rn,B',cp',by omega,by go_num,rfl,HV,HO6.out,hb6⟩
      case measure=>simp[intOf];omega
    ·have hfs:rs.take k=rs:=List.take_of_length_le (by omega)
     rw[hfs] at HS HO;have hm:m=s:=by rw[<-HS.out,HT.out]
     subst hm;obtain⟨hle,hMo⟩:=E7 HO.out HS.out;have HMo:=Lh hMo;clear hMo hfs HS HO;go_wp2;go_ret;exact⟨_,_,rfl,hle,HMo.out,hb⟩
end Go.Proofs.YtpieeldbamklkaaGreatDoor
