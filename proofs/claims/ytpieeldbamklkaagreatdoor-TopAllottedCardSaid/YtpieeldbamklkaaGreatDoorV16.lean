/- Texts put together: Opl. -/
import Derived.Test.YtpieeldbamklkaaGreatDoorV15
import Derived.Deep.Slices
import Derived.Deep.Fields
import Derived.OpenShut
import Derived.Lib.SmallJoins
import Derived.ChangeSame
set_option maxRecDepth 10000
open Go.Proofs.Tryz
namespace Go.Proofs.YtpieeldbamklkaaGreatDoor
open Go.ChangeShapes Go.WideShapes Go.ChangeAt Go.RowKit Go.Deep
theorem U9 {w:World} {a:Addr} {v:Value} (h:w.cell? a=some v):a.spot=none/\a.block<w.heap.size:=by
 unfold World.cell? at h
 split at h
 ·next he=>
  split at h
  ·cases h
  ·next hs=>exact⟨by simpa using hs,(Ag.1 he).1⟩
 ·cases h
theorem Vp:prog.cellsOf 9=1:=by kernel_rfl
theorem MW:prog.cellsOf 3=1:=by kernel_rfl
theorem BR:prog.cellsOf 4=1:=by kernel_rfl
theorem MX:prog.cellsOf 39=1:=by kernel_rfl
theorem UD:prog.cellsOf 32=1:=by kernel_rfl
theorem QU:prog.cellsOf 34=2:=by kernel_rfl
theorem ZaR:prog.cellsOf 45=1:=by kernel_rfl
theorem ZaS:prog.cellsOf 46=1:=by kernel_rfl
theorem Hz:prog.cellsOf 130=7:=by kernel_rfl
theorem BS:prog.cellsOf 195=2:=by kernel_rfl
theorem BU:prog.cellsOf 197=7:=by kernel_rfl
theorem ZaT:prog.cellsOf 48=21:=by kernel_rfl
section
variable {H:Type} {enc:TypeId×Value->H} {w:World} {base:Nat} {spare:Nat->Bool} {held:Bool}
theorem ZA {n:Nat} {fs:Array Field} {cs:List Value} {xs:List (DataW H×List MemPlace)} (hf:∀(i:Nat) (f:Field),fs[i]?=some f->DataW.trod enc prog w base spare held n f.type ((cs.drop f.offset).take (prog.cellsOf f.type))=xs[i]?)
  (i:Nat) (ty:TypeId) (off:Nat) (f:Field) (h1:fs[i]?=some f) (h2:f.type=ty) (h3:f.offset=off) (k:Nat) (h4:prog.cellsOf ty=k) (h5:i<xs.length):DataW.trod enc prog w base spare held n ty ((cs.drop off).take k)=some (xs[i]'h5):=by
 have h:=hf i f h1;rw[h2,h3,h4,List.getElem?_eq_getElem h5] at h;exact h
theorem XH {fuel:Nat} {c0 c1:Value} {x:DataW H×List MemPlace} (h:DataW.trod enc prog w base spare held fuel 34 [c0,c1]=some x):∃l l':List UInt8,c0=Zg l/\c1=Zg l':=by
 obtain⟨xs,n,-,-,-,hxl,hf⟩:=DataW.trod_struct underlying34 h;have hxl:xs.length=2:=hxl;have h0:DataW.trod enc prog w base spare held n 32 [c0]=some (xs[0]'(by omega)):=ZA hf 0 32 0 _ rfl rfl rfl 1 UD (by omega)
 have h1:DataW.trod enc prog w base spare held n 32 [c1]=some (xs[1]'(by omega)):=ZA hf 1 32 1 _ rfl rfl rfl 1 UD (by omega)
 obtain⟨s0,e0,-,-⟩:=DataW.trod_string underlying32 h0;obtain⟨s1,e1,-,-⟩:=DataW.trod_string underlying32 h1;injection e0 with e0
 injection e1 with e1
 exact⟨s0.data.toList,s1.data.toList,e0,e1⟩
def Zc6 (t:Lot):List Value:=[Zg t.id,Zg t.ins,Zi t.acq,Zi t.opn,Zg t.q,Zg t.cost,Zg t.used]
theorem KG {fuel:Nat} {cs:List Value} {x:DataW H×List MemPlace} (h:DataW.trod enc prog w base spare held fuel 130 cs=some x):∃t:Lot,cs=Zc6 t:=by
 obtain⟨xs,n,-,-,hlen,hxl,hf⟩:=DataW.trod_struct underlying130 h;rw[Hz] at hlen;have hxl:xs.length=7:=hxl
 match cs,hlen with
 | [c0,c1,c2,c3,c4,c5,c6],_=>
  have h0:DataW.trod enc prog w base spare held n 9 [c0]=some (xs[0]'(by omega)):=ZA hf 0 9 0 _ rfl rfl rfl 1 Vp (by omega)
  have h1:DataW.trod enc prog w base spare held n 9 [c1]=some (xs[1]'(by omega)):=ZA hf 1 9 1 _ rfl rfl rfl 1 Vp (by omega)
  have h2:DataW.trod enc prog w base spare held n 39 [c2]=some (xs[2]'(by omega)):=ZA hf 2 39 2 _ rfl rfl rfl 1 MX (by omega)
  have h3:DataW.trod enc prog w base spare held n 39 [c3]=some (xs[3]'(by omega)):=ZA hf 3 39 3 _ rfl rfl rfl 1 MX (by omega)
  have h4:DataW.trod enc prog w base spare held n 32 [c4]=some (xs[4]'(by omega)):=ZA hf 4 32 4 _ rfl rfl rfl 1 UD (by omega)
  have h5:DataW.trod enc prog w base spare held n 32 [c5]=some (xs[5]'(by omega)):=ZA hf 5 32 5 _ rfl rfl rfl 1 UD (by omega)
  have h6:DataW.trod enc prog w base spare held n 32 [c6]=some (xs[6]'(by omega)):=ZA hf 6 32 6 _ rfl rfl rfl 1 UD (by omega)
  obtain⟨s0,e0,-,-⟩:=DataW.trod_string underlying9 h0;injection e0 with e0
  obtain⟨s1,e1,-,-⟩:=DataW.trod_string underlying9 h1;injection e1 with e1
  obtain⟨s2,e2,-,-⟩:=DataW.trod_int underlying39 h2;injection e2 with e2
  obtain⟨s3,e3,-,-⟩:=DataW.trod_int underlying39 h3;injection e3 with e3
  obtain⟨s4,e4,-,-⟩:=DataW.trod_string underlying32 h4;injection e4 with e4
  obtain⟨s5,e5,-,-⟩:=DataW.trod_string underlying32 h5;injection e5 with e5
  obtain⟨s6,e6,-,-⟩:=DataW.trod_string underlying32 h6;injection e6 with e6
  subst e0 e1 e2 e3 e4 e5 e6;exact⟨⟨s0.data.toList,s1.data.toList,s2,s3,s4.data.toList,s5.data.toList,s6.data.toList⟩,rfl⟩
theorem Im {fuel:Nat} {cs:List Value} {x:DataW H×List MemPlace} (h:DataW.trod enc prog w base spare held fuel 195 cs=some x):∃t:Pk,cs=[Zg t.lot,Zg t.q]:=by
 obtain⟨xs,n,-,-,hlen,hxl,hf⟩:=DataW.trod_struct underlying195 h;rw[BS] at hlen;have hxl:xs.length=2:=hxl
 match cs,hlen with
 | [c0,c1],_=>
  have h0:DataW.trod enc prog w base spare held n 9 [c0]=some (xs[0]'(by omega)):=ZA hf 0 9 0 _ rfl rfl rfl 1 Vp (by omega)
  have h1:DataW.trod enc prog w base spare held n 32 [c1]=some (xs[1]'(by omega)):=ZA hf 1 32 1 _ rfl rfl rfl 1 UD (by omega)
  obtain⟨s0,e0,-,-⟩:=DataW.trod_string underlying9 h0;injection e0 with e0
  obtain⟨s1,e1,-,-⟩:=DataW.trod_string underlying32 h1;injection e1 with e1
  subst e0 e1;exact⟨⟨s0.data.toList,s1.data.toList⟩,rfl⟩
def Zc7 (t:Opn):List Value:=[Zg t.oth,Zg t.rn,Zg t.rd,Zg t.pn,Zg t.pd,Zg t.vn,Zg t.vd]
theorem KI {fuel:Nat} {cs:List Value} {x:DataW H×List MemPlace} (h:DataW.trod enc prog w base spare held fuel 197 cs=some x):∃t:Opn,cs=Zc7 t:=by
 obtain⟨xs,n,-,-,hlen,hxl,hf⟩:=DataW.trod_struct underlying197 h;rw[BU] at hlen;have hxl:xs.length=4:=hxl
 match cs,hlen with
 | [c0,c1,c2,c3,c4,c5,c6],_=>
  have h0:DataW.trod enc prog w base spare held n 9 [c0]=some (xs[0]'(by omega)):=ZA hf 0 9 0 _ rfl rfl rfl 1 Vp (by omega)
  have h1:DataW.trod enc prog w base spare held n 34 [c1,c2]=some (xs[1]'(by omega)):=ZA hf 1 34 1 _ rfl rfl rfl 2 QU (by omega)
  have h2:DataW.trod enc prog w base spare held n 34 [c3,c4]=some (xs[2]'(by omega)):=ZA hf 2 34 3 _ rfl rfl rfl 2 QU (by omega)
  have h3:DataW.trod enc prog w base spare held n 34 [c5,c6]=some (xs[3]'(by omega)):=ZA hf 3 34 5 _ rfl rfl rfl 2 QU (by omega)
  obtain⟨s0,e0,-,-⟩:=DataW.trod_string underlying9 h0;injection e0 with e0
  obtain⟨s1,s2,e1,e2⟩:=XH h1;obtain⟨s3,s4,e3,e4⟩:=XH h2;obtain⟨s5,s6,e5,e6⟩:=XH h3;subst e0 e1 e2 e3 e4 e5 e6;exact⟨⟨s0.data.toList,s1,s2,s3,s4,s5,s6⟩,rfl⟩
theorem MY {fuel:Nat} {cs:List Value} {x:DataW H×List MemPlace} (hf:DataW.trod enc prog w base spare held fuel 44 cs=some x) :
  ∃(A:Option Addr) (c:Nat) (ts:List Lot),cs=[.slice A ts.length c]/\ts.length<=c/\ts.length<=9223372036854775807/\Y7 w A ts:=by
 rcases open_slice underlying44 hf with ⟨hcs,-⟩|⟨a,n,cap,m,k,D,Pl,hcs,-,hl,hm,hmm,-,hi⟩
 ·exact⟨none,0,[],hcs,Nl _,by decide,fun i x hx=>by simp at hx⟩
 ·have hnm:n<=m:=by rw[hmm];split<;>omega
  unfold maxLen at hm;rw[Hz] at hi;have hy:∀i,i<n->∃t:Lot,w.cell? ((a.add (i*7)).add 0)=some (Zg t.id)/\w.cell? ((a.add (i*7)).add 1)=some (Zg t.ins)/\w.cell? ((a.add (i*7)).add 2)=some (Zi t.acq)/\w.cell? ((a.add (i*7)).add 3)=some (Zi t.opn)/\w.cell? ((a.add (i*7)).add 4)=some (Zg t.q)/\w.cell? ((a.add (i*7)).add 5)=some (Zg t.cost)/\w.cell? ((a.add (i*7)).add 6)=some (Zg t.used):=fun i hin=>by
   obtain⟨cs',hc,ht⟩:=hi i (by omega)
   obtain⟨t,hy⟩:=KG ht;obtain⟨_,hcl,hat⟩:=World.cells?_some hc;exact⟨t,by rw[hat 0 (by decide),hy];rfl,by rw[hat 1 (by decide),hy];rfl,by rw[hat 2 (by decide),hy];rfl,by rw[hat 3 (by decide),hy];rfl,by rw[hat 4 (by decide),hy];rfl,by rw[hat 5 (by decide),hy];rfl,by rw[hat 6 (by decide),hy];rfl⟩
  have hget:∀i t,((List.range n).map fun i=>if hin:i<n then (hy i hin).choose else ⟨[],[],0,0,[],[],[]⟩)[i]?=some t->∃hin:i<n,(hy i hin).choose=t:=fun i t hx=>by
   have hin:i<n:=by
    have:=(Lg.1 hx).1
    simpa using this
   rw[List.getElem?_map,List.getElem?_range hin] at hx;simp only[Option.map_some,dif_pos hin,Option.some.injEq] at hx;exact⟨hin,hx⟩
  refine⟨some a,cap,(List.range n).map fun i=>if hin:i<n then (hy i hin).choose else ⟨[],[],0,0,[],[],[]⟩,by rw[hcs];simp,by simpa using hl,by simp;omega,?_⟩
  intro i t hx;obtain⟨hin,rfl⟩:=hget i t hx;have hcell:=(hy i hin).choose_spec;obtain⟨hs0,hbl⟩:=U9 (hy 0 (by omega)).choose_spec.1
  generalize (hy i hin).choose=t at hcell ⊢;obtain⟨b,o,s⟩:=a;have hz:((⟨b,o,s⟩:Addr).add (0*7)).add 0=⟨b,o,s⟩:=by simp[Addr.add]
  rw[hz] at hs0 hbl;have hs0:s=none:=hs0;subst hs0;simp only[Lib.add_plain] at hcell;obtain⟨g0,g1,g2,g3,g4,g5,g6⟩:=hcell;exact⟨b,o,rfl,hbl,⟨g0,g1,g2,g3,g4,g5,g6⟩⟩
theorem KJ {fuel:Nat} {cs:List Value} {x:DataW H×List MemPlace} (hf:DataW.trod enc prog w base spare held fuel 45 cs=some x) :
  ∃(A:Option Addr) (c:Nat) (ts:List Pk),cs=[.slice A ts.length c]/\ts.length<=c/\ts.length<=9223372036854775807/\XI w A ts:=by
 rcases open_slice underlying45 hf with ⟨hcs,-⟩|⟨a,n,cap,m,k,D,Pl,hcs,-,hl,hm,hmm,-,hi⟩
 ·exact⟨none,0,[],hcs,Nl _,by decide,fun i x hx=>by simp at hx⟩
 ·have hnm:n<=m:=by rw[hmm];split<;>omega
  unfold maxLen at hm;rw[BS] at hi;have hy:∀i,i<n->∃t:Pk,w.cell? ((a.add (i*2)).add 0)=some (Zg t.lot)/\w.cell? ((a.add (i*2)).add 1)=some (Zg t.q):=fun i hin=>by
   obtain⟨cs',hc,ht⟩:=hi i (by omega)
   obtain⟨t,hy⟩:=Im ht;obtain⟨_,hcl,hat⟩:=World.cells?_some hc;exact⟨t,by rw[hat 0 (by decide),hy];rfl,by rw[hat 1 (by decide),hy];rfl⟩
  have hget:∀i t,((List.range n).map fun i=>if hin:i<n then (hy i hin).choose else ⟨[],[]⟩)[i]?=some t->∃hin:i<n,(hy i hin).choose=t:=fun i t hx=>by
   have hin:i<n:=by
    have:=(Lg.1 hx).1
    simpa using this
   rw[List.getElem?_map,List.getElem?_range hin] at hx;simp only[Option.map_some,dif_pos hin,Option.some.injEq] at hx;exact⟨hin,hx⟩
  refine⟨some a,cap,(List.range n).map fun i=>if hin:i<n then (hy i hin).choose else ⟨[],[]⟩,by rw[hcs];simp,by simpa using hl,by simp;omega,?_⟩
  intro i t hx;obtain⟨hin,rfl⟩:=hget i t hx;have hcell:=(hy i hin).choose_spec;obtain⟨hs0,hbl⟩:=U9 (hy 0 (by omega)).choose_spec.1
  generalize (hy i hin).choose=t at hcell ⊢;obtain⟨b,o,s⟩:=a;have hz:((⟨b,o,s⟩:Addr).add (0*2)).add 0=⟨b,o,s⟩:=by simp[Addr.add]
  rw[hz] at hs0 hbl;have hs0:s=none:=hs0;subst hs0;simp only[Lib.add_plain] at hcell;exact⟨b,o,rfl,hbl,hcell.1,hcell.2⟩
theorem KM {fuel:Nat} {cs:List Value} {x:DataW H×List MemPlace} (hf:DataW.trod enc prog w base spare held fuel 46 cs=some x) :
  ∃(A:Option Addr) (c:Nat) (ts:List Opn),cs=[.slice A ts.length c]/\ts.length<=c/\ts.length<=9223372036854775807/\Qa w A ts:=by
 rcases open_slice underlying46 hf with ⟨hcs,-⟩|⟨a,n,cap,m,k,D,Pl,hcs,-,hl,hm,hmm,-,hi⟩
 ·exact⟨none,0,[],hcs,Nl _,by decide,fun i x hx=>by simp at hx⟩
 ·have hnm:n<=m:=by rw[hmm];split<;>omega
  unfold maxLen at hm;rw[BU] at hi;have hy:∀i,i<n->∃t:Opn,w.cell? ((a.add (i*7)).add 0)=some (Zg t.oth)/\w.cell? ((a.add (i*7)).add 1)=some (Zg t.rn)/\w.cell? ((a.add (i*7)).add 2)=some (Zg t.rd)/\w.cell? ((a.add (i*7)).add 3)=some (Zg t.pn)/\w.cell? ((a.add (i*7)).add 4)=some (Zg t.pd)/\w.cell? ((a.add (i*7)).add 5)=some (Zg t.vn)/\w.cell? ((a.add (i*7)).add 6)=some (Zg t.vd):=fun i hin=>by
   obtain⟨cs',hc,ht⟩:=hi i (by omega)
   obtain⟨t,hy⟩:=KI ht;obtain⟨_,hcl,hat⟩:=World.cells?_some hc;exact⟨t,by rw[hat 0 (by decide),hy];rfl,by rw[hat 1 (by decide),hy];rfl,by rw[hat 2 (by decide),hy];rfl,by rw[hat 3 (by decide),hy];rfl,by rw[hat 4 (by decide),hy];rfl,by rw[hat 5 (by decide),hy];rfl,by rw[hat 6 (by decide),hy];rfl⟩
  have hget:∀i t,((List.range n).map fun i=>if hin:i<n then (hy i hin).choose else ⟨[],[],[],[],[],[],[]⟩)[i]?=some t->∃hin:i<n,(hy i hin).choose=t:=fun i t hx=>by
   have hin:i<n:=by
    have:=(Lg.1 hx).1
    simpa using this
   rw[List.getElem?_map,List.getElem?_range hin] at hx;simp only[Option.map_some,dif_pos hin,Option.some.injEq] at hx;exact⟨hin,hx⟩
  refine⟨some a,cap,(List.range n).map fun i=>if hin:i<n then (hy i hin).choose else ⟨[],[],[],[],[],[],[]⟩,by rw[hcs];simp,by simpa using hl,by simp;omega,?_⟩
  intro i t hx;obtain⟨hin,rfl⟩:=hget i t hx;have hcell:=(hy i hin).choose_spec;obtain⟨hs0,hbl⟩:=U9 (hy 0 (by omega)).choose_spec.1
  generalize (hy i hin).choose=t at hcell ⊢;obtain⟨b,o,s⟩:=a;have hz:((⟨b,o,s⟩:Addr).add (0*7)).add 0=⟨b,o,s⟩:=by simp[Addr.add]
  rw[hz] at hs0 hbl;have hs0:s=none:=hs0;subst hs0;simp only[Lib.add_plain] at hcell;obtain⟨g0,g1,g2,g3,g4,g5,g6⟩:=hcell;exact⟨b,o,rfl,hbl,⟨g0,g1,g2,g3,g4,g5,g6⟩⟩
theorem KN {fuel:Nat} {cs:List Value} {x:DataW H×List MemPlace} (h:DataW.trod enc prog w base spare held fuel 48 cs=some x):∃(f:Fct) (ps:List Pk) (os:List Opn),cs=(Zq f).toList/\ps.length=f.pN/\f.pN<=f.pC/\f.pN<=9223372036854775807/\XI w f.pA ps/\os.length=f.oN/\f.oN<=9223372036854775807/\Qa w f.oA os:=by
 obtain⟨xs,n,-,-,hlen,hxl,hf⟩:=DataW.trod_struct underlying48 h;rw[ZaT] at hlen;have hxl:xs.length=18:=hxl
 match cs,hlen with
 | [c0,c1,c2,c3,c4,c5,c6,c7,c8,c9,c10,c11,c12,c13,c14,c15,c16,c17,c18,c19,c20],_=>
  have h0:DataW.trod enc prog w base spare held n 9 [c0]=some (xs[0]'(by omega)):=ZA hf 0 9 0 _ rfl rfl rfl 1 Vp (by omega)
  have h1:DataW.trod enc prog w base spare held n 3 [c1]=some (xs[1]'(by omega)):=ZA hf 1 3 1 _ rfl rfl rfl 1 MW (by omega)
  have h2:DataW.trod enc prog w base spare held n 4 [c2]=some (xs[2]'(by omega)):=ZA hf 2 4 2 _ rfl rfl rfl 1 BR (by omega)
  have h3:DataW.trod enc prog w base spare held n 39 [c3]=some (xs[3]'(by omega)):=ZA hf 3 39 3 _ rfl rfl rfl 1 MX (by omega)
  have h4:DataW.trod enc prog w base spare held n 3 [c4]=some (xs[4]'(by omega)):=ZA hf 4 3 4 _ rfl rfl rfl 1 MW (by omega)
  have h5:DataW.trod enc prog w base spare held n 9 [c5]=some (xs[5]'(by omega)):=ZA hf 5 9 5 _ rfl rfl rfl 1 Vp (by omega)
  have h6:DataW.trod enc prog w base spare held n 9 [c6]=some (xs[6]'(by omega)):=ZA hf 6 9 6 _ rfl rfl rfl 1 Vp (by omega)
  have h7:DataW.trod enc prog w base spare held n 9 [c7]=some (xs[7]'(by omega)):=ZA hf 7 9 7 _ rfl rfl rfl 1 Vp (by omega)
  have h8:DataW.trod enc prog w base spare held n 9 [c8]=some (xs[8]'(by omega)):=ZA hf 8 9 8 _ rfl rfl rfl 1 Vp (by omega)
  have h9:DataW.trod enc prog w base spare held n 32 [c9]=some (xs[9]'(by omega)):=ZA hf 9 32 9 _ rfl rfl rfl 1 UD (by omega)
  have h10:DataW.trod enc prog w base spare held n 32 [c10]=some (xs[10]'(by omega)):=ZA hf 10 32 10 _ rfl rfl rfl 1 UD (by omega)
  have h11:DataW.trod enc prog w base spare held n 32 [c11]=some (xs[11]'(by omega)):=ZA hf 11 32 11 _ rfl rfl rfl 1 UD (by omega)
  have h12:DataW.trod enc prog w base spare held n 34 [c12,c13]=some (xs[12]'(by omega)):=ZA hf 12 34 12 _ rfl rfl rfl 2 QU (by omega)
  have h13:DataW.trod enc prog w base spare held n 34 [c14,c15]=some (xs[13]'(by omega)):=ZA hf 13 34 14 _ rfl rfl rfl 2 QU (by omega)
  have h14:DataW.trod enc prog w base spare held n 34 [c16,c17]=some (xs[14]'(by omega)):=ZA hf 14 34 16 _ rfl rfl rfl 2 QU (by omega)
  have h15:DataW.trod enc prog w base spare held n 45 [c18]=some (xs[15]'(by omega)):=ZA hf 15 45 18 _ rfl rfl rfl 1 ZaR (by omega)
  have h16:DataW.trod enc prog w base spare held n 46 [c19]=some (xs[16]'(by omega)):=ZA hf 16 46 19 _ rfl rfl rfl 1 ZaS (by omega)
  have h17:DataW.trod enc prog w base spare held n 3 [c20]=some (xs[17]'(by omega)):=ZA hf 17 3 20 _ rfl rfl rfl 1 MW (by omega)
  obtain⟨s0,e0,-,-⟩:=DataW.trod_string underlying9 h0;injection e0 with e0
  obtain⟨s1,e1,-,-⟩:=DataW.trod_int underlying3 h1;injection e1 with e1
  obtain⟨s2,e2,-⟩:=DataW.trod_bool underlying4 h2;injection e2 with e2
  obtain⟨s3,e3,-,-⟩:=DataW.trod_int underlying39 h3;injection e3 with e3
  obtain⟨s4,e4,-,-⟩:=DataW.trod_int underlying3 h4;injection e4 with e4
  obtain⟨s5,e5,-,-⟩:=DataW.trod_string underlying9 h5;injection e5 with e5
  obtain⟨s6,e6,-,-⟩:=DataW.trod_string underlying9 h6;injection e6 with e6
  obtain⟨s7,e7,-,-⟩:=DataW.trod_string underlying9 h7;injection e7 with e7
  obtain⟨s8,e8,-,-⟩:=DataW.trod_string underlying9 h8;injection e8 with e8
  obtain⟨s9,e9,-,-⟩:=DataW.trod_string underlying32 h9;injection e9 with e9
  obtain⟨s10,e10,-,-⟩:=DataW.trod_string underlying32 h10;injection e10 with e10
  obtain⟨s11,e11,-,-⟩:=DataW.trod_string underlying32 h11;injection e11 with e11
  obtain⟨s12,s13,e12,e13⟩:=XH h12;obtain⟨s14,s15,e14,e15⟩:=XH h13;obtain⟨s16,s17,e16,e17⟩:=XH h14;obtain⟨pA,pC,ps,e18,hp1,hp2,hp3⟩:=KJ h15;injection e18 with e18
  obtain⟨oA,oC,os,e19,ho1,ho2,ho3⟩:=KM h16;injection e19 with e19
  obtain⟨s20,e20,-,-⟩:=DataW.trod_int underlying3 h17;injection e20 with e20
  subst e0 e1 e2 e3 e4 e5 e6 e7 e8 e9 e10 e11 e12 e13 e14 e15 e16 e17 e18 e19 e20;exact⟨⟨s0.data.toList,s5.data.toList,s6.data.toList,s7.data.toList,s8.data.toList,s9.data.toList,s10.data.toList,s11.data.toList,s12,s13,s14,s15,s16,s17,s1,s3,s4,s20,s2,pA,ps.length,pC,oA,os.length,oC⟩,ps,os,rfl,rfl,hp1,hp2,hp3,rfl,ho2,ho3⟩
theorem FR {r:Reach} {b0:Nat} {v:Value} {d:DataW H} {p:List MemPlace} (hv:Value.okWide prog w r b0 44 v) (h:DataW.Trod enc prog w base spare held 44 v d p) :
  ∃(A:Option Addr) (n c:Nat) (ts:List Lot),v=.slice A n c/\ts.length=n/\n<=c/\n<=9223372036854775807/\Y7 w A ts:=by
 obtain⟨A,n,c,rfl⟩:=okWide_slice underlying44 hv;obtain⟨fuel,hf⟩:=h;obtain⟨A',c',ts,hcs,h1,h2,h3⟩:=MY hf;have hcs:[Value.slice A n c]=[Value.slice A' ts.length c']:=hcs;injection hcs with hcs
 injection hcs with e1 e2 e3
 subst e1 e2 e3;exact⟨_,_,_,ts,rfl,rfl,h1,h2,h3⟩
theorem FT {r:Reach} {b0:Nat} {v:Value} {d:DataW H} {p:List MemPlace} (hv:Value.okWide prog w r b0 48 v) (h:DataW.Trod enc prog w base spare held 48 v d p) :
  ∃(f:Fct) (ps:List Pk) (os:List Opn),v=.agg (Zq f)/\ps.length=f.pN/\f.pN<=f.pC/\f.pN<=9223372036854775807/\XI w f.pA ps/\os.length=f.oN/\f.oN<=9223372036854775807/\Qa w f.oA os:=by
 obtain⟨cs,rfl,hsz⟩:=okWide_struct underlying48 hv;obtain⟨fuel,hf⟩:=h;obtain⟨f,ps,os,hx,h1⟩:=KN hf;refine⟨f,ps,os,?_,h1⟩
 have:cs=Zq f:=by
  rw[<-Array.toList_inj];exact hx
 rw[this]
end
end Go.Proofs.YtpieeldbamklkaaGreatDoor
