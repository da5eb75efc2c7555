/- Ba: num numb mag cut shelf lib inta text plus minus single times diva knuth -/
import Derived.Test.YtpieeldbamklkaaGreatDoorRows
import Derived.WalkKit
import Derived.WalkSpells
import Derived.WalkLawsBesides
import Derived.Deep.QuietTactic
import Derived.BigQuiet
import Derived.Lib.Hide
import Derived.Lib.ItoaMem
import Derived.Laws.Rows
import Derived.Laws.MakeOwn
import Derived.Laws.OwnMore
import Derived.Laws.CopyOwn
import Derived.Shelf.Strings.Builder1
import Derived.Shelf.Strings.SlTrimAscii
import Derived.Shelf.Small.Wraps
import Derived.Shelf.LaysM
import Derived.Shelf.Strconv.Itoa3
import Derived.Shelf.Pu.ParseUintPublic10
import Derived.Shelf.Strings.Repeat
import Derived.Test.YtpieeldbamklkaaGreatDoorProg
import Derived.Lib.LaidTab
import Derived.Lib.SmallJoins
import Derived.Deep.DeepCutAuto
set_option maxHeartbeats 4000000
set_option maxRecDepth 100000
open Go.Proofs.Tryz
namespace Go.Proofs
abbrev Zg (l : List UInt8) : Value := .string ⟨l.toArray⟩
abbrev Zj : Value := .string ⟨#[]⟩
abbrev Zi (n : Int) : Value := .int .i64 n
theorem FkR {α:Type} {a:Option α} {b c:α} (h:a=some b) (e:b=c:=by kernel_rfl):a=some c:=h.trans (congrArg some e)
theorem Lh {p:Prop} (h:p):Go.RowKit.Hid p:=Lib.hid h
theorem Ag {α:Type} {xs:Array α} {i:Nat} {b:α}:xs[i]?=some b↔∃h:i<xs.size,xs[i]=b:=Array.getElem?_eq_some_iff
theorem Lg {α:Type} {l:List α} {i:Nat} {a:α}:l[i]?=some a↔∃h:i<l.length,l[i]=a:=List.getElem?_eq_some_iff
theorem Df {p:Prop} [Decidable p] (h:¬p):decide p=false:=decide_eq_false h
theorem Dt {p:Prop} [Decidable p] (h:p):decide p=true:=decide_eq_true h
theorem Lm {α:Type} {l:List α} {i:Nat} {a:α} (h:l[i]?=some a):a∈l:=List.mem_of_getElem? h
theorem Nt {a b c:Nat} (h:a≤b) (k:b≤c):a≤c:=Nat.le_trans h k
theorem Nl (a:Nat):a≤a:=Nat.le_refl a
theorem Bn {α:Type} [BEq α] [LawfulBEq α] {a b:α}:(a==b)=false↔a≠b:=beq_eq_false_iff_ne
end Go.Proofs
namespace Go.Proofs.YtpieeldbamklkaaGreatDoor
namespace Num
abbrev BASE:Nat:=1000000000
def Z5 (b:UInt8):Bool:=decide (48<=b.toNat)&&decide (b.toNat<=57)
def nat (l:List UInt8):Nat:=l.foldl (fun n b=>10*n+(b.toNat-48)) 0
def dg (k:Nat):UInt8:=UInt8.ofNat (48+k % 10)
def M0:Nat->Nat->List UInt8
 | 0,_=>[]
 | f+1,n=>if n=0 then [] else M0 f (n / 10)++[dg n]
def dec (n:Nat):List UInt8:=M0 n n
def sig (l:List UInt8):List UInt8:=l.dropWhile (·==48)
def TC (s:List UInt8):Bool:=s.head?==some 45
def rest (s:List UInt8):List UInt8:=if TC s then s.tail else s
def Io (s:List UInt8):Bool:=(rest s).all Z5
def WH (s:List UInt8):List UInt8:=if Io s then sig (rest s) else []
def Z1 (s:List UInt8):Bool:=TC s&&!(WH s).isEmpty
def val (s:List UInt8):Int:=if Z1 s then -(nat (WH s):Int) else (nat (WH s):Int)
def canon (z:Int):List UInt8:=if z<0 then 45::dec z.natAbs else dec z.natAbs
theorem PY (k:Nat):(dg k).toNat=48+k % 10:=by
 unfold dg;rw[UInt8.toNat_ofNat'];omega
theorem FV (k:Nat):Z5 (dg k)=true:=by
 have:=PY k
 simp[Z5,this];omega
theorem Gi (l:List UInt8) (n:Nat):l.foldl (fun n b=>10*n+(b.toNat-48)) n=n*10 ^ l.length+nat l:=by
 induction l generalizing n with
 | nil=>simp[nat]
 | cons b l ih=>
  have h1:=ih (10*n+(b.toNat-48));have h2:=ih (10*0+(b.toNat-48));simp only[nat,List.foldl_cons,List.length_cons] at *;rw[h1,h2,Nat.pow_succ,Nat.add_mul,Nat.add_mul]
  have:10*n*10 ^ l.length=n*(10 ^ l.length*10):=by rw[Nat.mul_comm 10 n,Nat.mul_assoc,Nat.mul_comm 10]
  omega
theorem Ip:nat []=0:=rfl
theorem TS (l m:List UInt8):nat (l++m)=nat l*10 ^ m.length+nat m:=by
 unfold nat;rw[List.foldl_append];exact Gi m _
theorem PZ (b:UInt8) (l:List UInt8):nat (b::l)=(b.toNat-48)*10 ^ l.length+nat l:=by
 have:=TS [b] l
 simpa [nat] using this
theorem M1 (l:List UInt8) (b:UInt8):nat (l++[b])=10*nat l+(b.toNat-48):=by
 rw[TS];simp[nat];omega
theorem KR (l:List UInt8) (h:l.all Z5=true):nat l<10 ^ l.length:=by
 induction l with
 | nil=>simp[nat]
 | cons b l ih=>
  simp only[List.all_cons,Bool.and_eq_true] at h;have h1:=ih h.2;have h2:b.toNat-48<=9:=by simp[Z5] at h;omega
  rw[PZ,List.length_cons,Nat.pow_succ]
  have:=Nat.mul_le_mul_right (10 ^ l.length) h2
  omega
theorem BX (f g n:Nat) (hf:n<=f) (hg:n<=g):M0 f n=M0 g n:=by
 induction f generalizing g n with
 | zero=>
  have:n=0:=by omega
  subst this;cases g<;>simp[M0]
 | succ f ih=>
  cases g with
  | zero=>
   have:n=0:=by omega
   subst this;simp[M0]
  | succ g=>
   simp only[M0]
   by_cases h:n=0
   ·simp[h]
   ·rw[if_neg h,if_neg h,ih g (n / 10) (by omega) (by omega)]
theorem Vv:dec 0=[]:=rfl
theorem Ug (n:Nat) (h:n≠0):dec n=dec (n / 10)++[dg n]:=by
 unfold dec;obtain⟨m,rfl⟩:∃m,n=m+1:=⟨n-1,by omega⟩
 rw[M0,if_neg h,BX m ((m+1) / 10) _ (by omega) (by omega)]
theorem Sg (q d:Nat) (hd:d<10) (h:10*q+d≠0):dec (10*q+d)=dec q++[dg d]:=by
 rw[Ug _ h,show (10*q+d) / 10=q by omega]
 unfold dg;rw[show (10*q+d) % 10=d % 10 by omega]
theorem Mc (n:Nat):nat (dec n)=n:=by
 induction n using Nat.strongRecOn with
 | ind n ih=>
  by_cases h:n=0
  ·subst h;rfl
  ·rw[Ug n h,M1,ih _ (by omega),PY];omega
theorem UN (n:Nat):(dec n).all Z5=true:=by
 induction n using Nat.strongRecOn with
 | ind n ih=>
  by_cases h:n=0
  ·subst h;rfl
  ·rw[Ug n h,List.all_append,ih _ (by omega)];simp[FV]
theorem TT (n:Nat):dec n=[]↔n=0:=by
 constructor
 ·intro h
  by_cases h0:n=0
  ·exact h0
  ·rw[Ug n h0] at h;simp at h
 ·rintro rfl;rfl
theorem M4 (n:Nat):(dec n).head?≠some 48:=by
 induction n using Nat.strongRecOn with
 | ind n ih=>
  by_cases h:n=0
  ·subst h;simp[Vv]
  ·rw[Ug n h]
   by_cases h1:n / 10=0
   ·rw[h1,Vv];intro h2;simp at h2
    have:=PY n
    rw[h2] at this;simp at this;omega
   ·have h2:=ih (n / 10) (by omega)
    cases hh:dec (n / 10) with
    | nil=>rw[TT] at hh;omega
    | cons a t=>rw[hh] at h2;simpa using h2
theorem Iq (n:Nat):sig (dec n)=dec n:=by
 unfold sig
 have:=M4 n
 cases h:dec n with
 | nil=>rfl
 | cons a t=>rw[h] at this;simp at this;rw[List.dropWhile_cons];simp[this]
theorem FW (b:UInt8) (h:Z5 b=true):dg (b.toNat-48)=b:=by
 simp[Z5] at h;unfold dg;rw[Nat.mod_eq_of_lt (by omega),show 48+(b.toNat-48)=b.toNat by omega]
 exact UInt8.ofNat_toNat
theorem PM (l:List UInt8) (h:l.all Z5=true):dec (nat l)=sig l:=by
 obtain⟨k,hk⟩:∃k,k=l.length:=⟨_,rfl⟩
 induction k generalizing l with
 | zero=>
  have:l=[]:=List.eq_nil_of_length_eq_zero hk.symm
  subst this;rfl
 | succ k ih=>
  rcases List.eq_nil_or_concat l with rfl|⟨m,b,rfl⟩
  ·simp at hk
  ·simp only[List.concat_eq_append] at *;simp only[List.all_append,Bool.and_eq_true,List.all_cons,List.all_nil,Bool.and_true] at h;have hm:=ih m h.1 (by simp at hk;omega)
   have hb:=h.2;simp[Z5] at hb;rw[M1]
   by_cases h0:10*nat m+(b.toNat-48)=0
   ·have e1:nat m=0:=by omega
    have e2:b=48:=by
     apply UInt8.toNat_inj.1;show b.toNat=48;omega
    rw[h0,Vv];rw[e1,Vv] at hm;subst e2;unfold sig at *;rw[List.dropWhile_append,<-hm];simp
   ·rw[Sg _ _ (by omega) h0,FW b h.2,hm]
    unfold sig at *;rw[List.dropWhile_append]
    by_cases h1:(List.dropWhile (fun x=>x==48) m)=[]
    ·rw[h1] at hm;rw[TT] at hm;have hne:b≠48:=by rintro rfl;simp[hm] at h0
     simp[h1,hne]
    ·rw[if_neg (by simpa using h1)]
theorem FX (l:List UInt8) (h:l.all Z5=true):(sig l).all Z5=true:=by
 rw[<-PM l h];exact UN _
theorem P0 (n k:Nat) (h:n<10 ^ k):(dec n).length<=k:=by
 induction k generalizing n with
 | zero=>
  have:n=0:=by simpa using h
  subst this;simp[Vv]
 | succ k ih=>
  by_cases h0:n=0
  ·subst h0;simp[Vv]
  ·rw[Ug n h0,List.length_append]
   have:=ih (n / 10) (by rw[Nat.pow_succ] at h;omega)
   simp;omega
theorem VU (s:List UInt8):WH s=dec (val s).natAbs:=by
 have h:(val s).natAbs=nat (WH s):=by unfold val;split<;>simp
 rw[h];unfold WH
 split
 ·rename_i hd;rw[PM _ (FX _ hd)];rw[<-PM _ hd,Iq]
 ·rfl
theorem Xd (s:List UInt8):Z1 s=decide (val s<0):=by
 have hd:=VU s;unfold val
 by_cases h:Z1 s=true
 ·rw[h];have h2:WH s≠[]:=by
   unfold Z1 at h;simp at h;exact h.2
  rw[hd] at h2;have h3:(val s).natAbs≠0:=fun e=>h2 (by rw[e];rfl)
  have h4:nat (WH s)=(val s).natAbs:=by rw[hd,Mc]
  simp;omega
 ·have h':Z1 s=false:=by simpa using h
  rw[h'];simp
theorem Gj (s:List UInt8):canon (val s)=if Z1 s then 45::WH s else WH s:=by
 rw[Xd,VU];unfold canon
 by_cases h:val s<0<;>simp[h]
theorem QV (z:Int):TC (canon z)=decide (z<0):=by
 unfold canon TC
 by_cases h:z<0
 ·simp[h]
 ·rw[if_neg h];have hd:=UN z.natAbs;cases hc:dec z.natAbs with
  | nil=>simp[h]
  | cons a t=>
   rw[hc] at hd;simp[Z5] at hd
   have:a≠45:=by rintro rfl;simp at hd
   simp[h,this]
theorem KU (z:Int):rest (canon z)=dec z.natAbs:=by
 unfold rest;rw[QV];unfold canon
 by_cases h:z<0<;>simp[h]
theorem P2 (z:Int):WH (canon z)=dec z.natAbs:=by
 unfold WH Io;rw[KU,UN,Iq];rfl
theorem KV (z:Int):Z1 (canon z)=decide (z<0):=by
 unfold Z1;rw[P2,QV]
 by_cases h:z<0
 ·have:dec z.natAbs≠[]:=by rw[Ne,TT];omega
  simp[h,this]
 ·simp[h]
theorem Zm (z:Int):val (canon z)=z:=by
 unfold val;rw[KV,P2,Mc]
 by_cases h:z<0<;>simp[h]<;>omega
theorem Nx {y z:Int} (h:canon y=canon z):y=z:=by rw[<-Zm y,h,Zm]
theorem KW:canon 0=[]:=rfl
theorem Uh (z:Int):canon z=[]↔z=0:=by
 constructor
 ·intro h;exact Nx (h.trans KW.symm)
 ·rintro rfl;rfl
theorem Zu (z:Int) (k:Nat) (h:z.natAbs<10 ^ k):(canon z).length<=k+1:=by
 have:=P0 _ _ h
 unfold canon;split<;>simp<;>omega
theorem TU (s:List UInt8):(val s).natAbs<10 ^ s.length:=by
 have h:(val s).natAbs=nat (WH s):=by unfold val;split<;>simp
 rw[h];have h1:(WH s).all Z5=true:=by rw[VU];exact UN _
 have h2:=KR _ h1;have h3:(WH s).length<=s.length:=by
  unfold WH sig rest
  split
  ·refine Nt (List.dropWhile_sublist _).length_le ?_
   split<;>simp
  ·simp
 exact Nat.lt_of_lt_of_le h2 (Nat.pow_le_pow_right (by omega) h3)
def M5:Nat->Nat->List Nat
 | 0,_=>[]
 | f+1,n=>if n=0 then [] else n % BASE::M5 f (n / BASE)
def grp (n:Nat):List Nat:=M5 n n
def gv:List Nat->Nat
 | []=>0
 | g::l=>g+BASE*gv l
def small (l:List Nat):Prop:=∀x∈l,x<BASE
def norm (l:List Nat):Prop:=l.getLast?≠some 0
def YJ (l:List Nat):List Nat:=(l.reverse.dropWhile (·==0)).reverse
theorem BY (f g n:Nat) (hf:n<=f) (hg:n<=g):M5 f n=M5 g n:=by
 induction f generalizing g n with
 | zero=>
  have:n=0:=by omega
  subst this;cases g<;>simp[M5]
 | succ f ih=>
  cases g with
  | zero=>
   have:n=0:=by omega
   subst this;simp[M5]
  | succ g=>
   simp only[M5]
   by_cases h:n=0
   ·simp[h]
   ·rw[if_neg h,if_neg h,ih g (n / BASE) (by unfold BASE;omega) (by unfold BASE;omega)]
theorem Vw:grp 0=[]:=rfl
theorem Ui (n:Nat) (h:n≠0):grp n=n % BASE::grp (n / BASE):=by
 unfold grp;obtain⟨m,rfl⟩:∃m,n=m+1:=⟨n-1,by omega⟩
 rw[M5,if_neg h,BY m ((m+1) / BASE) _ (by unfold BASE;omega) (by omega)]
theorem YQ (n:Nat):gv (grp n)=n:=by
 induction n using Nat.strongRecOn with
 | ind n ih=>
  by_cases h:n=0
  ·subst h;rfl
  ·rw[Ui n h,gv,ih _ (by unfold BASE;omega)];unfold BASE;omega
theorem ZT (n:Nat):small (grp n):=by
 induction n using Nat.strongRecOn with
 | ind n ih=>
  by_cases h:n=0
  ·subst h;intro x hx;simp[Vw] at hx
  ·rw[Ui n h];intro x hx;rcases List.mem_cons.1 hx with rfl|hx
   ·unfold BASE;omega
   ·exact ih _ (by unfold BASE;omega) x hx
theorem Wd (n:Nat):grp n=[]↔n=0:=by
 constructor
 ·intro h
  by_cases h0:n=0
  ·exact h0
  ·rw[Ui n h0] at h;simp at h
 ·rintro rfl;rfl
theorem Si (n:Nat):norm (grp n):=by
 induction n using Nat.strongRecOn with
 | ind n ih=>
  by_cases h:n=0
  ·subst h;simp[norm,Vw]
  ·rw[Ui n h]
   by_cases h1:n / BASE=0
   ·rw[h1,Vw];simp[norm];unfold BASE at *;omega
   ·have h2:=ih (n / BASE) (by unfold BASE;omega)
    unfold norm at *;cases hh:grp (n / BASE) with
    | nil=>rw[Wd] at hh;omega
    | cons a t=>rw[hh] at h2;simpa [List.getLast?_cons_cons] using h2
theorem KZ (l:List Nat) (hs:small l) (hn:norm l):grp (gv l)=l:=by
 induction l with
 | nil=>rfl
 | cons g l ih=>
  have hg:g<BASE:=hs g (by simp)
  have hs':small l:=fun x hx=>hs x (by simp[hx])
  by_cases hl:l=[]
  ·subst hl;simp only[norm,List.getLast?_singleton,ne_eq,Option.some.injEq] at hn;simp only[gv];rw[Ui _ (by unfold BASE at *;omega)]
   unfold BASE at *;rw[show (g+1000000000*0) / 1000000000=0 by omega,show (g+1000000000*0) % 1000000000=g by omega];rfl
  ·have hn':norm l:=by
    unfold norm at *;cases l with
    | nil=>simp at hl
    | cons a t=>simpa [List.getLast?_cons_cons] using hn
   have ih':=ih hs' hn';have h0:gv l≠0:=by
    intro e;rw[e,Vw] at ih';exact hl ih'.symm
   simp only[gv];rw[Ui _ (by unfold BASE at *;omega)]
   unfold BASE at *;rw[show (g+1000000000*gv l) / 1000000000=gv l by omega,show (g+1000000000*gv l) % 1000000000=g by omega,ih']
theorem VV (l m:List Nat):gv (l++m)=gv l+BASE ^ l.length*gv m:=by
 induction l with
 | nil=>simp[gv]
 | cons g l ih=>
  simp only[List.cons_append,gv,ih,List.length_cons,Nat.pow_succ,Nat.mul_add]
  have:BASE*(BASE ^ l.length*gv m)=BASE ^ l.length*BASE*gv m:=by rw[<-Nat.mul_assoc,Nat.mul_comm BASE]
  omega
theorem Ww (l:List Nat) (x:Nat):gv (l++[x])=gv l+BASE ^ l.length*x:=by rw[VV];simp[gv]
theorem QW (l:List Nat) (h:small l):gv l<BASE ^ l.length:=by
 induction l with
 | nil=>simp[gv]
 | cons g l ih=>
  have h1:=ih (fun x hx=>h x (by simp[hx]))
  have h2:g<BASE:=h g (by simp)
  simp only[gv,List.length_cons,Nat.pow_succ];have h3:BASE*(gv l+1)<=BASE*BASE ^ l.length:=Nat.mul_le_mul_left _ h1;rw[Nat.mul_comm BASE (BASE ^ l.length)] at h3;rw[Nat.mul_add] at h3;omega
theorem ZaX (l:List Nat) (h:norm l) (hl:l≠[]):BASE ^ (l.length-1)<=gv l:=by
 rcases List.eq_nil_or_concat l with rfl|⟨m,b,rfl⟩
 ·exact absurd rfl hl
 ·simp only[List.concat_eq_append] at *;rw[Ww];simp[norm] at h
  have:BASE ^ m.length*1<=BASE ^ m.length*b:=Nat.mul_le_mul_left _ (by omega)
  simp;omega
theorem XJ (l:List Nat):YJ (l++[0])=YJ l:=by simp[YJ]
theorem VW (l:List Nat) (x:Nat) (h:x≠0):YJ (l++[x])=l++[x]:=by simp[YJ,h]
theorem FY:YJ []=[]:=rfl
theorem Md (l:List Nat):gv (YJ l)=gv l:=by
 obtain⟨k,hk⟩:∃k,k=l.length:=⟨_,rfl⟩
 induction k generalizing l with
 | zero=>
  have:l=[]:=List.eq_nil_of_length_eq_zero hk.symm
  subst this;rfl
 | succ k ih=>
  rcases List.eq_nil_or_concat l with rfl|⟨m,b,rfl⟩
  ·rfl
  ·simp only[List.concat_eq_append] at *
   by_cases hb:b=0
   ·subst hb;rw[XJ,ih m (by simp at hk;omega),Ww];simp
   ·rw[VW _ _ hb]
theorem Ny (l:List Nat):norm (YJ l):=by
 obtain⟨k,hk⟩:∃k,k=l.length:=⟨_,rfl⟩
 induction k generalizing l with
 | zero=>
  have:l=[]:=List.eq_nil_of_length_eq_zero hk.symm
  subst this;simp[norm,YJ]
 | succ k ih=>
  rcases List.eq_nil_or_concat l with rfl|⟨m,b,rfl⟩
  ·simp[norm,YJ]
  ·simp only[List.concat_eq_append] at *
   by_cases hb:b=0
   ·subst hb;rw[XJ];exact ih m (by simp at hk;omega)
   ·rw[VW _ _ hb];simp[norm,hb]
theorem TV (l:List Nat) (h:small l):small (YJ l):=by
 intro x hx;apply h;unfold YJ at hx;rw[List.mem_reverse] at hx
 have:=(List.dropWhile_sublist (·==0) (l:=l.reverse)).subset hx
 simpa using this
theorem WY (l:List Nat) (h:small l):YJ l=grp (gv l):=by
 rw[<-Md l,KZ _ (TV l h) (Ny l)]
theorem We (n k:Nat) (h:n<BASE ^ k):(grp n).length<=k:=by
 by_cases h0:grp n=[]
 ·simp[h0]
 ·have h1:=ZaX _ (Si n) h0;rw[YQ] at h1;rcases Nat.lt_or_ge k (grp n).length with h2|h2
  ·have:=Nat.pow_le_pow_right (n:=BASE) (by unfold BASE;omega) (show k<=(grp n).length-1 by omega)
   omega
  ·exact h2
theorem Xe (n:Nat):n<BASE ^ (grp n).length:=by have:=QW _ (ZT n);rwa [YQ] at this
theorem P3 (m n:Nat) (h:(grp m).length<(grp n).length):m<n:=by
 rcases Nat.lt_or_ge m n with h1|h1
 ·exact h1
 ·have:=We n _ (Nat.lt_of_le_of_lt h1 (Xe m));omega
theorem ZD (m n:Nat) (h:m<=n):(grp m).length<=(grp n).length:=We _ _ (Nat.lt_of_le_of_lt h (Xe n))
theorem BZ {m n:Nat} (h:grp m=grp n):m=n:=by rw[<-YQ m,h,YQ]
theorem WZ {l m:List Nat} (h:small l) (k:small m):small (l++m):=fun x hx=>by
 rcases List.mem_append.1 hx with h1|h1
 ·exact h x h1
 ·exact k x h1
theorem Vx {l:List Nat} (h:small l) (k:Nat):small (l.take k):=fun x hx=>h x (List.mem_of_mem_take hx)
theorem Uj {l:List Nat} (h:small l) (k:Nat):small (l.drop k):=fun x hx=>h x (List.mem_of_mem_drop hx)
theorem XK (l:List Nat) (k:Nat) (h:k<=l.length):gv l=gv (l.take k)+BASE ^ k*gv (l.drop k):=by
 have:=VV (l.take k) (l.drop k)
 rw[List.take_append_drop] at this;rw[this,List.length_take,Nat.min_eq_left h]
theorem Me (l:List Nat) (k:Nat) (h:k<l.length):gv (l.take (k+1))=gv (l.take k)+BASE ^ k*l[k]:=by
 rw[List.take_succ_eq_append_getElem h,Ww,List.length_take,Nat.min_eq_left (by omega)]
theorem Wx (l:List Nat) (k:Nat) (h:k<l.length):gv (l.drop k)=l[k]+BASE*gv (l.drop (k+1)):=by
 rw[List.drop_eq_getElem_cons h,gv]
end Num
namespace Num
def fmt (n:Nat):List UInt8:=if n=0 then [48] else dec n
def pad (k:Nat) (n:Nat):List UInt8:=List.replicate (k-(fmt n).length) 48++fmt n
theorem Uk (n k:Nat) (hk:0<k) (h:n<10 ^ k):(fmt n).length<=k:=by
 unfold fmt;split
 ·simp;omega
 ·exact P0 _ _ h
theorem B0 (k n:Nat) (hk:0<k) (h:n<10 ^ k):(pad k n).length=k:=by
 have:=Uk n k hk h
 unfold pad;simp;omega
theorem M6 (q d:Nat) (hd:d<10) (hq:q≠0):fmt (10*q+d)=fmt q++[dg d]:=by
 unfold fmt;rw[if_neg (by omega),if_neg hq,Sg _ _ hd (by omega)]
theorem Qm (d:Nat) (hd:d<10):fmt d=[dg d]:=by
 unfold fmt
 by_cases h:d=0
 ·subst h;rfl
 ·rw[if_neg h,Ug d h,show d / 10=0 by omega];rfl
theorem FZ (k q d:Nat) (hk:0<k) (hd:d<10) (h:q<10 ^ k):pad (k+1) (10*q+d)=pad k q++[dg d]:=by
 by_cases hq:q=0
 ·subst hq;have h1:fmt (10*0+d)=[dg d]:=by rw[show 10*0+d=d by omega];exact Qm d hd
  unfold pad;rw[h1];have h2:fmt 0=[48]:=rfl;rw[h2];simp only[List.length_cons,List.length_nil,Nat.zero_add,Nat.add_sub_cancel];rw[show List.replicate (k-1) (48:UInt8)++[48]=List.replicate k 48 by rw[<-List.replicate_succ'];congr 1;omega]
 ·have h1:=M6 q d hd hq;unfold pad;rw[h1];simp
theorem B1 (k q r:Nat) (hk:0<k) (hq:q≠0) (hr:r<10 ^ k):dec (q*10 ^ k+r)=dec q++pad k r:=by
 obtain⟨j,rfl⟩:∃j,k=j+1:=⟨k-1,by omega⟩
 clear hk
 induction j generalizing r with
 | zero=>
  have h1:r<10:=by simpa using hr
  have h2:pad 1 r=[dg r]:=by unfold pad;rw[Qm r h1];simp
  rw[show (0+1:Nat)=1 from rfl,h2,show q*10 ^ 1+r=10*q+r by omega,Sg _ _ h1 (by omega)]
 | succ j ih=>
  have e:r=10*(r / 10)+r % 10:=by omega
  have hr2:r / 10<10 ^ (j+1):=by rw[Nat.pow_succ] at hr;omega
  have h1:=ih (r / 10) hr2;have h2:q*10 ^ (j+1+1)+r=10*(q*10 ^ (j+1)+r / 10)+r % 10:=by
   rw[Nat.pow_succ 10 (j+1),<-Nat.mul_assoc];omega
  have hpos:0<10 ^ (j+1):=Nat.pow_pos (by omega)
  have hq2:0<q*10 ^ (j+1):=Nat.mul_pos (by omega) hpos
  rw[h2,Sg _ _ (by omega) (by omega),h1]
  conv=>rhs;rw[e]
  rw[FZ (j+1) (r / 10) (r % 10) (by omega) (by omega) hr2,List.append_assoc]
def txt:List Nat->List UInt8
 | []=>[]
 | g::l=>if l=[] then fmt g else txt l++pad 9 g
theorem B3 (l:List Nat) (hs:small l) (hn:norm l):txt l=dec (gv l):=by
 induction l with
 | nil=>rfl
 | cons g l ih=>
  have hg:g<BASE:=hs g (by simp)
  have hs':small l:=fun x hx=>hs x (by simp[hx])
  by_cases hl:l=[]
  ·subst hl;simp only[norm,List.getLast?_singleton,ne_eq,Option.some.injEq] at hn;simp only[txt,gv,if_true,Nat.mul_zero,Nat.add_zero];unfold fmt;rw[if_neg hn]
  ·have hn':norm l:=by
    unfold norm at *;cases l with
    | nil=>simp at hl
    | cons a t=>simpa [List.getLast?_cons_cons] using hn
   have h0:gv l≠0:=by
    intro e
    have:=KZ l hs' hn'
    rw[e,Vw] at this;exact hl this.symm
   simp only[txt];rw[if_neg hl,ih hs' hn',gv,show g+BASE*gv l=gv l*10 ^ 9+g by unfold BASE;omega]
   exact (B1 9 _ _ (by omega) h0 (by unfold BASE at hg;omega)).symm
theorem F0 (l:List Nat) (k:Nat) (h:k+1<l.length):txt (l.drop k)=txt (l.drop (k+1))++pad 9 l[k]:=by
 rw[List.drop_eq_getElem_cons (by omega),txt,if_neg]
 intro e
 have:=congrArg List.length e
 simp at this;omega
theorem F2 (l:List Nat) (x:Nat) (h:l[l.length-1]?=some x):txt (l.drop (l.length-1))=fmt x:=by
 obtain⟨hk,he⟩:=Lg.1 h;rw[List.drop_eq_getElem_cons hk,he,List.drop_of_length_le (by omega)]
 rfl
theorem K0 (s:List UInt8) (e:Nat) (he:e<=s.length):nat (s.take e)=nat (s.take (e-9))*10 ^ (e-(e-9))+nat ((s.take e).drop (e-9)):=by
 have h:s.take e=s.take (e-9)++(s.take e).drop (e-9):=by
  have:=List.take_append_drop (e-9) (s.take e)
  rw[List.take_take,Nat.min_eq_left (by omega)] at this
  exact this.symm
 conv=>lhs;rw[h]
 rw[TS];simp[Nat.min_eq_left he]
def Ir (s:List UInt8):Nat->List Nat
 | 0=>[]
 | f+1=>if s=[] then [] else nat (s.drop (s.length-9))::Ir (s.take (s.length-9)) f
theorem Nz (f:Nat) (s:List UInt8) (hf:s.length<=f) (hd:s.all Z5=true) (h0:s.head?≠some 48):Ir s f=grp (nat s):=by
 induction f generalizing s with
 | zero=>
  have:s=[]:=List.eq_nil_of_length_eq_zero (by omega)
  subst this;rfl
 | succ f ih=>
  unfold Ir
  by_cases hs:s=[]
  ·subst hs;rfl
  ·rw[if_neg hs];have hl:0<s.length:=List.length_pos_iff.2 hs;have hd1:(s.take (s.length-9)).all Z5=true:=by
    rw[List.all_eq_true] at *;intro x hx;exact hd x (List.mem_of_mem_take hx)
   have hd2:(s.drop (s.length-9)).all Z5=true:=by
    rw[List.all_eq_true] at *;intro x hx;exact hd x (List.mem_of_mem_drop hx)
   have h1:(s.take (s.length-9)).head?≠some 48:=by
    cases s with
    | nil=>simp at hs
    | cons a t=>
     cases h:(a::t).length-9 with
     | zero=>simp
     | succ k=>simpa using h0
   have hne:nat s≠0:=by
    intro e;have h2:=PM s hd;rw[e,Vv] at h2;unfold sig at h2;cases s with
    | nil=>simp at hs
    | cons a t=>
     simp at h0;rw[List.dropWhile_cons] at h2;simp[h0] at h2
   have h2:=K0 s s.length (Nl _);rw[List.take_length] at h2;have hlt:=KR _ hd2;have hlen:(s.drop (s.length-9)).length=s.length-(s.length-9):=by simp
   rw[hlen] at hlt;have hlt9:10 ^ (s.length-(s.length-9))<=10 ^ 9:=Nat.pow_le_pow_right (by omega) (by omega)
   have h9:(10:Nat) ^ 9=BASE:=rfl;rw[ih _ (by simp;omega) hd1 h1,Ui _ hne]
   by_cases hc:9<=s.length
   ·have e9:s.length-(s.length-9)=9:=by omega
    rw[e9,h9] at h2;rw[e9,h9] at hlt;unfold BASE at *;rw[show nat s % 1000000000=nat (s.drop (s.length-9)) by omega,show nat s / 1000000000=nat (s.take (s.length-9)) by omega]
   ·have e0:s.length-9=0:=by omega
    rw[e0] at h2 hlt hlt9 ⊢;simp only[List.take_zero,List.drop_zero,Ip,Nat.zero_mul,Nat.zero_add,Nat.sub_zero] at h2 hlt hlt9 ⊢;unfold BASE at *;rw[show nat s % 1000000000=nat s by omega,show nat s / 1000000000=0 by omega]
theorem F3 {ps l t:List Nat} {k x:Nat} (hp:ps.length=k) (hx:l[k]?=some x):(ps++(l.drop k++t))[k]?=some x:=by
 obtain⟨hk,he⟩:=Lg.1 hx;rw[List.getElem?_append_right (by omega),hp,Nat.sub_self,List.drop_eq_getElem_cons hk,he];rfl
theorem Tg {ps l t:List Nat} {k:Nat} (hp:ps.length=k) (hk:k<l.length) (y:Nat):(ps++(l.drop k++t)).set k y=(ps++[y])++(l.drop (k+1)++t):=by
 have e:(l.drop k++t).set 0 y=y::(l.drop (k+1)++t):=by rw[List.drop_eq_getElem_cons hk];rfl
 rw[List.set_append_right _ _ (by omega),hp,Nat.sub_self,e];simp
theorem Xv {l:List Nat} {x:Nat} (h:small l) (hx:x<BASE):small (l++[x]):=WZ h (fun y hy=>by simp at hy;omega)
theorem Xf {l:List Nat} {k x:Nat} (h:l[k]?=some x):gv (l.take (k+1))=gv (l.take k)+BASE ^ k*x:=by
 obtain⟨hk,rfl⟩:=Lg.1 h;exact Me l k hk
theorem QX {l:List Nat} {k:Nat} (h:l.length<=k):gv (l.take (k+1))=gv (l.take k):=by
 rw[List.take_of_length_le h,List.take_of_length_le (by omega)]
theorem Gk (P c t V x y W:Nat) (hV:P+W*c=V) (ht:t=x+c+y):P+W*(t % BASE)+W*BASE*(t / BASE)=V+W*x+W*y:=by
 have h1:W*(t % BASE)+W*BASE*(t / BASE)=W*t:=by
  rw[Nat.mul_assoc,<-Nat.mul_add,Nat.mod_add_div]
 have h2:W*t=W*x+W*c+W*y:=by rw[ht,Nat.mul_add,Nat.mul_add]
 omega
theorem F4 (U V u v P ul vl q:Nat) (hU:U=u*P+ul) (hV:V=v*P+vl) (hul:ul<P) (hq:q*V<=U):q*v<=u:=by
 rcases Nat.lt_or_ge u (q*v) with h|h
 ·have h1:(u+1)*P<=q*v*P:=Nat.mul_le_mul_right _ h;have h2:q*V=q*v*P+q*vl:=by rw[hV,Nat.mul_add,Nat.mul_assoc]
  rw[Nat.add_mul] at h1;omega
 ·exact h
theorem F5 (U V u v P ul vl g:Nat) (hU:U=u*P+ul) (hV:V=v*P+vl) (hvl:vl<P) (hg:g*v<=u) (hgB:g<=BASE) (hPV:BASE*P<=V):g*V<=U+V:=by
 have h1:g*v*P<=u*P:=Nat.mul_le_mul_right _ hg;have h2:g*V=g*v*P+g*vl:=by rw[hV,Nat.mul_add,Nat.mul_assoc]
 have h3:g*vl<=BASE*P:=Nat.mul_le_mul hgB (by omega)
 omega
end Num
open Go.RowKit Num
abbrev U (l:List Nat):List Value:=l.map fun (x:Nat)=>Value.int .u64 (x:Int)
def Zch:Value->Nat
 | .slice _ n _=>n
 | _=>0
@[simp] theorem Zbe (A:Option Addr) (n c:Nat):Zch (.slice A n c)=n:=rfl
theorem ZaY (l:List Nat):∀u∈U l,u.oneCell'=true:=by
 intro u hu;simp at hu;obtain⟨q,_,rfl⟩:=hu;rfl
section
variable {w w':World} {base n c:Nat} {A:Option Addr} {l:List Nat} {e:TypeId}
theorem ZG (h:w.ownsRow base e 1 (.slice A n c) n (U l)):l.length=n:=by
 have:=h.1;simpa using this
theorem Xk (h:w.ownsRow base e 1 (.slice A n c) n (U l)):n<=c/\c<=maxLen:=by
 rcases h.2 with ⟨hv,hn⟩|⟨g,cap,cur,hv,_,_,h1,h2,_⟩
 ·injection hv with _ h1 h2;subst h1 h2;exact⟨by omega,by unfold maxLen;omega⟩
 ·injection hv with _ _ h3;subst h3;exact⟨h1,h2⟩
theorem Wh {k:Nat} (h:w.ownsRow base e 1 (.slice A n c) n (U l)) (hk:k<n) :
  ∃(g x:Nat),A=some ⟨g,0,none⟩/\l[k]?=some x/\base<=g/\g<w.heap.size/\w.cell? ⟨g,k,none⟩=some (.int .u64 (x:Int))/\w.frozen? ⟨g,k,none⟩=false:=by
 have hl:=ZG h;rcases h.2 with ⟨_,hn⟩|⟨g,cap,cur,hv,hb,hh,_⟩
 ·omega
 ·injection hv with h1 _ h3
  subst h1 h3;refine⟨g,l[k]'(by omega),rfl,List.getElem?_eq_getElem (by omega),hb,?_,?_,h.frozenAt k⟩
  ·exact (Ag.1 hh).1
  ·rw[h.cellAt k (by omega)]
   simp[U,List.getElem?_eq_getElem (show k<l.length by omega)]
theorem own_below {v:Value} {xs:List Value} (h:w.ownsRow base e 1 v n xs) (hb:Below w.heap.size w w'):w'.ownsRow base e 1 v n xs:=by
 refine⟨h.1,?_⟩;rcases h.2 with h0|⟨g,cap,cur,hv,hb1,hh,hr⟩
 ·exact .inl h0
 ·exact .inr ⟨g,cap,cur,hv,hb1,(hb.block g (Ag.1 hh).1).trans hh,hr⟩
theorem YC {base':Nat} {v:Value} {xs:List Value} (h:w.ownsRow base e 1 v n xs) (hb:base'<=base):w.ownsRow base' e 1 v n xs:=by
 refine⟨h.1,?_⟩;rcases h.2 with h0|⟨g,cap,cur,hv,hb1,hr⟩
 ·exact .inl h0
 ·exact .inr ⟨g,cap,cur,hv,by omega,hr⟩
theorem M7 (h:w.ownsRow base e 1 (.slice A n c) n (U l)) {k:Nat} (hk:k<=n) (hA:A≠none):w.ownsRow base e 1 (.slice A k c) k (U (l.take k)):=by
 have hl:=ZG h;refine⟨by simp;omega,?_⟩
 rcases h.2 with ⟨hv,_⟩|⟨g,cap,cur,hv,hb1,hh,h1,h2,h3,h4⟩
 ·injection hv with h5;exact absurd h5 hA
 ·injection hv with h5 _ h6
  subst h5 h6;refine .inr ⟨g,c,cur,rfl,hb1,hh,by omega,h2,h3,?_⟩
  rw[show k*1=min k (n*1) by omega,<-List.take_take,h4]
  simp
end
theorem Xl {w w':World} {base n c k:Nat} {A:Option Addr} {l:List Nat} {e:TypeId} (h:w.ownsRow base e 1 (.slice A n c) n (U l)) (hb:Below w.heap.size w w') (hk:k<n) :
  ∃(g x:Nat),A=some ⟨g,0,none⟩/\l[k]?=some x/\g<w.heap.size/\w'.cell? ⟨g,k,none⟩=some (.int .u64 (x:Int)):=by
 obtain⟨g,x,h1,h2,_,h3,h4,_⟩:=Wh h hk;exact⟨g,x,h1,h2,h3,(hb.cell (p:=⟨g,k,none⟩) h3).trans h4⟩
theorem W7 {w:World} {base n:Nat} {e:TypeId} {v:Value} {xs:List Value} (h:w.ownsRow base e 1 v n xs) (g:Nat) (hg:v.ownBlock=some g):base<=g:=by
 rcases h.2 with ⟨rfl,_⟩|⟨g',cap,cur,rfl,hb,_⟩
 ·simp[Value.ownBlock] at hg
 ·simp only[Value.ownBlock,Option.some.injEq] at hg;omega
theorem P4 {w:World} {base n:Nat} {e:TypeId} {v:Value} {xs:List Value} (h:w.ownsRow base e 1 v n xs):∃A c,v=.slice A n c:=by
 rcases h.2 with ⟨rfl,h0⟩|⟨g,cap,cur,rfl,_⟩
 ·exact⟨none,0,by rw[h0]⟩
 ·exact⟨_,_,rfl⟩
theorem B4 {w wr:World} {o:Obj} (h:Below (w.heap.size+1) (w.alloc o) wr):wr.heap[w.heap.size]?=some o:=
 (h.block w.heap.size (by omega)).trans (heap_alloc_new w o)
theorem Zk {w:World} {g:Nat} {cs:Array Value} {t:TypeId} (h:w.heap[g]?=some (.cells cs t (0,0))) (i:Nat):w.cell? ⟨g,i,none⟩=cs[i]?:=cell_of_row w g i cs t (0,0) h
theorem Zt {w:World} {g:Nat} {cs:Array Value} {t:TypeId} (h:w.heap[g]?=some (.cells cs t (0,0))) (i:Nat):w.frozen? ⟨g,i,none⟩=false:=by simp[World.frozen?,h]
theorem Vy {w wr:World} {o:Obj} (h:Below (w.heap.size+1) (w.alloc o) wr):Below w.heap.size w wr:=
 ((Below.refl _ w).alloc (Nl _) o).trans (h.mono (Nat.le_succ _))
def Row (w:World) (g:Nat) (xs:List Nat):Prop:=w.heap[g]?=some (.cells (U xs).toArray 207 (0,0))
section
variable {w w':World} {g:Nat} {xs:List Nat}
theorem Row.cell (h:Row w g xs) {k x:Nat} (hx:xs[k]?=some x):w.cell? ⟨g,k,none⟩=some (.int .u64 (x:Int)):=by
 rw[Zk h k];simp[hx]
theorem Row.frozen (h:Row w g xs) (k:Nat):w.frozen? ⟨g,k,none⟩=false:=Zt h k
theorem Row.set_ (h:Row w g xs) (k y:Nat):Row (w.setCell ⟨g,k,none⟩ (.int .u64 (y:Int))) g (xs.set k y):=by
 unfold Row at h ⊢;simp[World.setCell,Array.getElem?_modify,h,List.map_set]
theorem Row.setI (h:Row w g xs) (k y:Nat) {z:Int} (hz:z=y):Row (w.setCell ⟨g,k,none⟩ (.int .u64 z)) g (xs.set k y):=by
 subst hz;exact h.set_ k y
theorem Row.drew (h:Row w g xs):Row w.drew g xs:=h
theorem Row.own (h:Row w g xs) {base n:Nat} (hb:base<=g) (hn:n<=xs.length) (hm:xs.length<=maxLen):w.ownsRow base 207 1 (.slice (some ⟨g,0,none⟩) n xs.length) n (U (xs.take n)):=by
 refine⟨by simp;omega,.inr ⟨g,xs.length,(U xs).toArray,rfl,hb,h,hn,hm,by simp,?_⟩⟩
 simp[List.map_take]
end
theorem VQ {P:Program} (t e:TypeId) (i:TypeInfo) (z:Value) (ht:P.underlying t=some (.slice e)) (hi:P.info? e=some i) (hz:i.zero=some z)
  (kl kc:IntKind) (n c:Nat) (hnc:n<=c) (hbytes:i.bytes*c<=281474976710656) (h63:c<=9223372036854775807) (w:World) :
  (Instr.makeSlice t (.int kl (n:Int)) (.int kc (c:Int))).run P w=.ok (.slice (some ⟨w.heap.size,0,none⟩) n c) (w.alloc (.cells (madeCells z.cells (c*i.size)) e)):=by
 have hb:(i.bytes:Int)*(c:Int)<=281474976710656:=by
  have h:((i.bytes*c:Nat):Int)<=281474976710656:=by omega
  rwa [Int.natCast_mul] at h
 have hr:=run_make (P:=P) w t e i z ht hi hz kl kc n c (by omega) (by omega) hb (by omega)
 simp only[Int.toNat_natCast] at hr;exact hr
theorem UO:(prog.info? 207).map (fun i=>(i.zero,i.size,i.bytes))=some (some (.int .u64 0),1,8):=by kernel_rfl
def Gl (c:Nat):Obj:=.cells (U (List.replicate c 0)).toArray 207
theorem Sj (t:TypeId) (ht:prog.underlying t=some (.slice 207)) (n c:Nat) (zc:Int) (hzc:zc=c) (hnc:n<=c) (hc:c<=10000000000) (w:World) :
  (Instr.makeSlice t (.int .i64 (n:Int)) (.int .i64 zc)).run prog w=.ok (.slice (some ⟨w.heap.size,0,none⟩) n c) (w.alloc (Gl c)):=by
 subst hzc;obtain⟨i0,hi,hz0,hz1,hz2⟩:=info_parts UO;rw[VQ t 207 i0 (.int .u64 0) ht hi hz0 .i64 .i64 n c hnc (by rw[hz2];omega) (by omega) w,hz1]
 have:madeCells (Value.int .u64 0).cells (c*1)=(U (List.replicate c 0)).toArray:=by
  apply Array.ext';show (madeCells #[.int .u64 0] (c*1)).toList=_;rw[toList_madeCells_one];simp
 rw[this];rfl
theorem M8 (c:Nat) (l:List Nat):splice (U (List.replicate c 0)) 0 (U l)=U (l++List.replicate (c-l.length) 0):=by
 simp[splice]
theorem F6:(prog.info? 207).map (·.size)=some 1:=by kernel_rfl
theorem M9 {w:World} {ops:Array Oper} {rest:List Oper} {o:Oper} {act:Act} {Q:Exit->Act->World->Prop} (hgd:o.guard=none) (d s:Operand) (T:TypeId)
  (ho:o.op=.call { callee:=.builtin .copy,args:=#[d,s],argTypes:=#[T,T] }) (hu:prog.underlying T=some (.slice 207))
  (A:Option Addr) (g n c m base:Nat) (l:List Nat) (hd:act.eval d=.slice (some ⟨g,0,none⟩) n m) (hs:act.eval s=.slice A n c)
  (hown:w.ownsRow base 207 1 (.slice A n c) n (U l)) (hrow:Row w g (List.replicate m 0)) (hnm:n<=m) (B:Nat) (w0:World) (hb:Below B w0 w) (hBg:B<=g)
  (h:∀w',Row w' g (l++List.replicate (m-n) 0)->Below B w0 w'->wpList prog ops Q rest (act.put o.dst (goInt n)) w'):wpList prog ops Q (o::rest) act w:=by
 have hl:=ZG hown;refine wpList_copy_splice hgd d s T T ho 207 hu F6 (some ⟨g,0,none⟩) A n m n c hd hs g 0 (U (List.replicate m 0)) 207 hrow (U l) (by simp;omega) ?_ (by simp;omega) ?_ B w0 hb hBg ?_
 ·intro hp;refine⟨rfl,?_⟩;rcases hown.2 with ⟨_,h0⟩|⟨g',cap,cur,hv,hbg,hh,_⟩
  ·simp at hp;omega
  ·injection hv with hA _ hc'
   subst hA hc';refine⟨_,rfl,fun j v hj=>?_⟩
   rw[Lib.add_plain,Nat.zero_add,hown.cellAt j (by have:=(Lg.1 hj).1;simp at this;omega)]
   exact hj
 ·intro v hv;simp at hv;obtain⟨q,_,rfl⟩:=hv;rfl
 ·intro w' h1 h2;have e:(U l).length=n:=by simp;omega
  rw[e];refine h w' ?_ h2;have h3:=h1.out;rw[M8,hl] at h3;exact h3
theorem Sk (w:World) (c:Nat):Row (w.alloc (Gl c)) w.heap.size (List.replicate c 0):=heap_alloc_new w _
theorem P5 {l:List Nat} {k:Nat} (h:l[k]?=some 0):YJ (l.take (k+1))=YJ (l.take k):=by
 obtain⟨hk,he⟩:=Lg.1 h;rw[List.take_succ_eq_append_getElem hk,he,XJ]
theorem Mf {l:List Nat} {k x:Nat} (h:l[k]?=some x) (hx:x≠0):(YJ (l.take (k+1))).length=k+1:=by
 obtain⟨hk,he⟩:=Lg.1 h;rw[List.take_succ_eq_append_getElem hk,he,VW _ _ hx];simp;omega
theorem VL (A:Option Addr) (n c:Nat) (l:List Nat) (w:World) (base:Nat) (h:w.ownsRow base 207 1 (.slice A n c) n (U l)) :
  Calls prog 130 #[.slice A n c] w fun e w'=>e=.returned (.slice A (YJ l).length c)/\w=w':=by
 have hl:=ZG h;obtain⟨hc1,hc2⟩:=Xk h;unfold maxLen at hc2;have h0:YJ (l.take n)=YJ l:=by rw[List.take_of_length_le (by omega)]
 have H0:=Lh h0;clear h0;have HL:=Lh hl;clear hl;go_enter func130,ntmps130;go_wp2
 go_loop [0] (fun v=>∃k:Nat,k<=n/\Hid (YJ (l.take k)=YJ l)/\v=.slice A k c) (fun v=>Zch v)
 case atStart=>exact⟨n,Nl _,H0,rfl⟩
 case round=>
  obtain⟨k,hk,HZ,rfl⟩:=hrel
  by_cases hk0:k=0
  ·subst hk0;go_wp2;go_ret
   have:=HZ.out
   simp[FY] at this;exact⟨by rw[this];rfl,rfl⟩
  ·obtain⟨j,rfl⟩:∃j,k=j+1:=⟨k-1,by omega⟩
   obtain⟨g,x,rfl,hx,hg,hgl,hcell,hfr⟩:=Wh h (k:=j) (by omega)
   have HX:=Lh hx;clear hx;clear h
   by_cases hx0:x=0
   ·subst hx0;go_wp2
    go_round
    case rel=>exact⟨j,by omega,by rw[<-P5 HX.out];exact HZ,by go_num⟩
    case measure=>simp
   ·have hxb:((x:Int)==0)=false:=by simp;omega
    go_wp2;go_ret
    have:=HZ.out
    exact⟨by rw[<-this,Mf HX.out hx0];rfl,rfl⟩
def Wi (m n:Nat):Int:=if (grp m).length=(grp n).length then (if m<n then -1 else if n<m then 1 else 0) else ((grp m).length:Int)-(grp n).length
theorem XN (m n:Nat):Wi m n<0↔m<n:=by
 unfold Wi
 split
 ·split
  ·simp_all
  ·split<;>simp_all
 ·rename_i h;constructor
  ·intro h1;exact P3 m n (by omega)
  ·intro h1;have:=ZD m n (by omega);omega
theorem F7 (m n:Nat):0<Wi m n↔n<m:=by
 unfold Wi
 split
 ·split
  ·simp;omega
  ·split<;>simp_all
 ·rename_i h;constructor
  ·intro h1;exact P3 n m (by omega)
  ·intro h1;have:=ZD n m (by omega);omega
theorem Gm {m n:Nat} (h:(grp m).length≠(grp n).length):Wi m n=((grp m).length:Int)-(grp n).length:=by unfold Wi;rw[if_neg h]
theorem Gq {m n:Nat} (hl:(grp m).length=(grp n).length) (h:(grp m).drop 0=(grp n).drop 0):Wi m n=0:=by
 simp only[List.drop_zero] at h;obtain rfl:=BZ h;simp[Wi]
theorem Is {m n k x y:Nat} (hl:(grp m).length=(grp n).length) (h:(grp m).drop (k+1)=(grp n).drop (k+1)) (hx:(grp m)[k]?=some x) (hy:(grp n)[k]?=some y) (hlt:x<y):Wi m n = -1:=by
 obtain⟨h1,ex⟩:=Lg.1 hx;obtain⟨h2,ey⟩:=Lg.1 hy;have a1:=XK (grp m) k (by omega)
 have a2:=XK (grp n) k (by omega)
 rw[Wx _ _ h1,ex] at a1;rw[Wx _ _ h2,ey,<-h] at a2;rw[YQ] at a1 a2;have b1:=QW _ (Vx (ZT m) k);rw[List.length_take,Nat.min_eq_left (by omega)] at b1
 have c1:BASE ^ k*(x+BASE*gv ((grp m).drop (k+1))+1)<=BASE ^ k*(y+BASE*gv ((grp m).drop (k+1))):=Nat.mul_le_mul_left _ (by omega)
 rw[Nat.mul_add _ _ 1] at c1
 have:m<n:=by omega
 simp[Wi,hl,this]
theorem B5 {m n k x y:Nat} (hl:(grp m).length=(grp n).length) (h:(grp m).drop (k+1)=(grp n).drop (k+1)) (hx:(grp m)[k]?=some x) (hy:(grp n)[k]?=some y) (hlt:y<x):Wi m n=1:=by
 have:=Is hl.symm h.symm hy hx hlt
 have h1:=(XN n m).1 (by omega)
 unfold Wi;rw[if_pos hl,if_neg (by omega),if_pos h1]
theorem Mg {m n k x:Nat} (h:(grp m).drop (k+1)=(grp n).drop (k+1)) (hx:(grp m)[k]?=some x) (hy:(grp n)[k]?=some x):(grp m).drop k=(grp n).drop k:=by
 obtain⟨h1,ex⟩:=Lg.1 hx;obtain⟨h2,ey⟩:=Lg.1 hy;rw[List.drop_eq_getElem_cons h1,List.drop_eq_getElem_cons h2,ex,ey,h]
theorem Sl {k:IntKind} {a b:Int} (h:a=b):Ending.returned (.int k a)=.returned (.int k b):=by rw[h]
theorem YU (A A':Option Addr) (n c n' c':Nat) (a b:Nat) (w:World) (base base':Nat) (h:w.ownsRow base 207 1 (.slice A n c) n (U (grp a))) (h':w.ownsRow base' 207 1 (.slice A' n' c') n' (U (grp b))) :
  Calls prog 126 #[.slice A n c,.slice A' n' c'] w fun e w'=>e=.returned (.int .i64 (Wi a b))/\∃k,w'=w.drewN k:=by
 have hl:=ZG h;have hl':=ZG h';obtain⟨hc1,hc2⟩:=Xk h;obtain⟨hc1',hc2'⟩:=Xk h';unfold maxLen at hc2 hc2';have HL:=Lh hl;clear hl;have HL':=Lh hl';clear hl'
 by_cases hne:n=n'
 ·subst hne;have HE:=Lh (HL.out.trans HL'.out.symm);go_enter func126,ntmps126;go_wp2
  go_loopw [5] (fun i wr=>∃k:Nat,k<=n/\i=.int .i64 ((k:Int)-1)/\Hid ((grp a).drop k=(grp b).drop k)/\∃q,wr=w.drewN q) (fun i _=>(intOf i+1).toNat)
  case atStart=>
   refine⟨n,Nl _,rfl,?_,0,rfl⟩;show _=_;rw[List.drop_of_length_le (by rw[HL.out];omega),List.drop_of_length_le (by rw[HL'.out];omega)]
  case round=>
   obtain⟨k,hk,rfl,HD,q,rfl⟩:=hrel
   by_cases hk0:k=0
   ·subst hk0;go_wp2;go_ret;exact⟨Sl (Gq HE.out HD.out).symm,q,rfl⟩
   ·obtain⟨j,rfl⟩:∃j,k=j+1:=⟨k-1,by omega⟩
    obtain⟨g,x,rfl,hx,_,_,hcell,_⟩:=Wh h (k:=j) (by omega)
    obtain⟨g',y,rfl,hy,_,_,hcell',_⟩:=Wh h' (k:=j) (by omega)
    have HX:=Lh hx;clear hx;have HY:=Lh hy;clear hy;clear h h';rcases Nat.lt_trichotomy x y with hxy|hxy|hxy
    ·go_wp2
     go_quiet (fail)
     go_wp2;go_ret;exact⟨Sl (Is HE.out HD.out HX.out HY.out hxy).symm,_,World.drewN_drewN _ _ _⟩
    ·subst hxy;go_wp2
     go_quiet (fail)
     go_wp2
     go_quiet (fail)
     go_wp2;go_roundw
     case rel=>exact⟨j,by omega,by go_num,Mg HD.out HX.out HY.out,_,rfl⟩
     case measure=>simp[intOf]
    ·go_wp2
     go_quiet (fail)
     go_wp2
     go_quiet (fail)
     go_wp2;go_ret;exact⟨Sl (B5 HE.out HD.out HX.out HY.out hxy).symm,_,by rw[World.drewN_drewN,World.drewN_drewN]⟩
 ·have hneb:((n:Int) != (n':Int))=true:=by simp;omega
  have HE:=Lh (Gm (m:=a) (n:=b) (by rw[HL.out,HL'.out];exact hne))
  go_enter func126,ntmps126;go_wp2;go_ret;exact⟨Sl (by rw[HE.out,HL.out,HL'.out]),0,rfl⟩
end Go.Proofs.YtpieeldbamklkaaGreatDoor
namespace Go.Proofs
open Go.Shelf
def Tryz.lays169_ren:Go.Shelf.Ren:=⟨fun|169=>135|n=>n,fun|70=>213|9=>9|0=>0|72=>216|37=>214|127=>289|3=>3|5=>5|n=>n,fun|n=>n⟩
theorem Tryz.lays169:Go.Proofs.Lays.n169 prog Tryz.lays169_ren:={
 mixed:=by kernel_rfl
 f169:=FkR func135
 t0:=underlying0
 a0:=isAgg0
 z0:=sizeOf0
 v0:=zeroValue0
 t3:=underlying3
 a3:=isAgg3
 z3:=sizeOf3
 v3:=zeroValue3
 t9:=underlying9
 a9:=isAgg9
 z9:=sizeOf9
 v9:=zeroValue9
 t37:=underlying214
 a37:=isAgg214
 z37:=sizeOf214
 v37:=zeroValue214
 t70:=underlying213
 a70:=isAgg213
 z70:=sizeOf213
 v70:=zeroValue213
 t72:=underlying216
 a72:=isAgg216
 z72:=sizeOf216
 v72:=zeroValue216
 t127:=underlying289
 a127:=isAgg289
 z127:=sizeOf289
 v127:=zeroValue289 }
theorem Tryz.Builder_Extra_169:Builder.Extra prog Tryz.lays169_ren:={
 sizeBuilder:=by kernel_rfl
 liesBuilder:=by kernel_rfl
 t5:=underlying5
 a5:=isAgg5
 z5:=sizeOf5
 v5:=zeroValue5
 infoByte:=by kernel_rfl
 cellsByte:=by kernel_rfl
 sizeByte:=by kernel_rfl
 neB5:=by decide }
open Go.RowKit in
theorem Tryz.Builder_String_any (B b:Nat) (l:List UInt8) (w:World) (h:Lib.IsBuilder 216 5 B b (Lib.byteCells l) w) (hBw:B<=w.heap.size) :
  Calls prog 135 #[.pointer (some ⟨b,0,none⟩)] w fun e w'=>e=.returned (.string ⟨l.toArray⟩)/\Below B w w':=Any.Builder_String_any Tryz.lays169 Tryz.Builder_Extra_169 B b l w h hBw
def Tryz.lays161_ren:Go.Shelf.Ren:=⟨fun|161=>193|231=>244|227=>246|233=>247|235=>249|228=>295|197=>296|151=>297|260=>323|152=>324|137=>341|119=>342|224=>343|225=>344|217=>346|266=>353|n=>n,fun|9=>9|4=>4|3=>3|5=>5|117=>323|116=>322|0=>0|124=>326|105=>369|21=>21|119=>404|46=>283|139=>407|138=>406|n=>n,fun|3=>4|4=>5|n=>n⟩
theorem Tryz.lays161:Go.Proofs.Lays.n161 prog Tryz.lays161_ren:={
 mixed:=by kernel_rfl
 f119:=FkR func342
 f137:=FkR func341
 f151:=FkR func297
 f152:=FkR func324
 f161:=FkR func193
 f197:=FkR func296
 f217:=FkR func346
 f224:=FkR func343
 f225:=FkR func344
 f227:=FkR func246
 f228:=FkR func295
 f231:=FkR func244
 f233:=FkR func247
 f235:=FkR func249
 f260:=FkR func323
 f266:=FkR func353
 t0:=underlying0
 a0:=isAgg0
 z0:=sizeOf0
 v0:=zeroValue0
 t3:=underlying3
 a3:=isAgg3
 z3:=sizeOf3
 v3:=zeroValue3
 t4:=underlying4
 a4:=isAgg4
 z4:=sizeOf4
 v4:=zeroValue4
 t5:=underlying5
 a5:=isAgg5
 z5:=sizeOf5
 v5:=zeroValue5
 t9:=underlying9
 a9:=isAgg9
 z9:=sizeOf9
 v9:=zeroValue9
 t21:=underlying21
 a21:=isAgg21
 z21:=sizeOf21
 v21:=zeroValue21
 t46:=underlying283
 a46:=isAgg283
 z46:=sizeOf283
 v46:=zeroValue283
 t105:=underlying369
 a105:=isAgg369
 z105:=sizeOf369
 v105:=zeroValue369
 t116:=underlying322
 a116:=isAgg322
 z116:=sizeOf322
 t117:=underlying323
 a117:=isAgg323
 z117:=sizeOf323
 v117:=zeroValue323
 t119:=underlying404
 a119:=isAgg404
 z119:=sizeOf404
 t124:=underlying326
 a124:=isAgg326
 z124:=sizeOf326
 v124:=zeroValue326
 t138:=underlying406
 a138:=isAgg406
 z138:=sizeOf406
 v138:=zeroValue406
 t139:=underlying407
 a139:=isAgg407
 z139:=sizeOf407
 v139:=zeroValue407
 g3:=by kernel_rfl
 g4:=by kernel_rfl }
def Tryz.lays160_ren:Go.Shelf.Ren:=⟨fun|160=>192|232=>245|231=>244|227=>246|234=>248|233=>247|236=>250|235=>249|228=>295|271=>298|151=>297|197=>296|120=>325|152=>324|260=>323|137=>341|119=>342|224=>343|225=>344|217=>346|266=>353|n=>n,fun|9=>9|4=>4|3=>3|5=>5|117=>323|116=>322|0=>0|124=>326|21=>21|105=>369|46=>283|119=>404|139=>407|138=>406|n=>n,fun|3=>4|4=>5|n=>n⟩
theorem Tryz.lays160:Go.Proofs.Lays.n160 prog Tryz.lays160_ren:={
 mixed:=by kernel_rfl
 f119:=FkR func342
 f120:=FkR func325
 f137:=FkR func341
 f151:=FkR func297
 f152:=FkR func324
 f160:=FkR func192
 f197:=FkR func296
 f217:=FkR func346
 f224:=FkR func343
 f225:=FkR func344
 f227:=FkR func246
 f228:=FkR func295
 f231:=FkR func244
 f232:=FkR func245
 f233:=FkR func247
 f234:=FkR func248
 f235:=FkR func249
 f236:=FkR func250
 f260:=FkR func323
 f266:=FkR func353
 f271:=FkR func298
 t0:=underlying0
 a0:=isAgg0
 z0:=sizeOf0
 v0:=zeroValue0
 t3:=underlying3
 a3:=isAgg3
 z3:=sizeOf3
 v3:=zeroValue3
 t4:=underlying4
 a4:=isAgg4
 z4:=sizeOf4
 v4:=zeroValue4
 t5:=underlying5
 a5:=isAgg5
 z5:=sizeOf5
 v5:=zeroValue5
 t9:=underlying9
 a9:=isAgg9
 z9:=sizeOf9
 v9:=zeroValue9
 t21:=underlying21
 a21:=isAgg21
 z21:=sizeOf21
 v21:=zeroValue21
 t46:=underlying283
 a46:=isAgg283
 z46:=sizeOf283
 v46:=zeroValue283
 t105:=underlying369
 a105:=isAgg369
 z105:=sizeOf369
 v105:=zeroValue369
 t116:=underlying322
 a116:=isAgg322
 z116:=sizeOf322
 t117:=underlying323
 a117:=isAgg323
 z117:=sizeOf323
 v117:=zeroValue323
 t119:=underlying404
 a119:=isAgg404
 z119:=sizeOf404
 t124:=underlying326
 a124:=isAgg326
 z124:=sizeOf326
 v124:=zeroValue326
 t138:=underlying406
 a138:=isAgg406
 z138:=sizeOf406
 v138:=zeroValue406
 t139:=underlying407
 a139:=isAgg407
 z139:=sizeOf407
 v139:=zeroValue407
 g3:=by kernel_rfl
 g4:=by kernel_rfl }
def Tryz.lays103_ren:Go.Shelf.Ren:=⟨fun|103=>191|210=>243|206=>264|n=>n,fun|9=>9|4=>4|24=>205|3=>3|n=>n,fun|n=>n⟩
theorem Tryz.lays103:Go.Proofs.Lays.n103 prog Tryz.lays103_ren:={
 mixed:=by kernel_rfl
 f103:=FkR func191
 f206:=FkR func264
 f210:=FkR func243
 t3:=underlying3
 a3:=isAgg3
 z3:=sizeOf3
 v3:=zeroValue3
 t4:=underlying4
 a4:=isAgg4
 z4:=sizeOf4
 v4:=zeroValue4
 t9:=underlying9
 a9:=isAgg9
 z9:=sizeOf9
 v9:=zeroValue9
 t24:=underlying205
 a24:=isAgg205
 z24:=sizeOf205
 v24:=zeroValue205 }
open Go.RowKit in
theorem Tryz.strings_CutPrefix (s p:ByteArray) (w:World) :
  Calls prog 191 #[.string s,.string p] w fun e w'=>e=.returned (.tuple #[.string ⟨(Lib.trimPrefix s.data.toList p.data.toList).toArray⟩,.bool (Lib.hasPrefix s.data.toList p.data.toList)])/\w'=w:=Any.strings_CutPrefix Tryz.lays103 s p w
def Tryz.lays283_ren:Go.Shelf.Ren:=⟨fun|283=>258|n=>n,fun|3=>3|9=>9|4=>4|n=>n,fun|n=>n⟩
theorem Tryz.lays283:Go.Proofs.Lays.n283 prog Tryz.lays283_ren:={
 mixed:=by kernel_rfl
 f283:=FkR func258
 t3:=underlying3
 a3:=isAgg3
 z3:=sizeOf3
 v3:=zeroValue3
 t4:=underlying4
 a4:=isAgg4
 z4:=sizeOf4
 v4:=zeroValue4
 t9:=underlying9
 a9:=isAgg9
 z9:=sizeOf9
 v9:=zeroValue9 }
open Go.Lib in
theorem Tryz.internal_strconv_small (i:Nat) (h:i<100) (w:World) :
  Calls prog 258 #[.int .i64 i] w fun e w'=>e=.returned (.string ⟨(Lib.decDigits i).toArray⟩)/\w'=w:=Any.internal_strconv_small Tryz.lays283 i h w
def Tryz.laysM284_ren:Go.Shelf.Ren:=⟨fun|284=>259|129=>302|317=>301|318=>303|n=>n,fun|53=>207|3=>3|212=>378|0=>0|4=>4|46=>283|5=>5|9=>9|n=>n,fun|17=>2|n=>n⟩
theorem Tryz.laysM284:Go.Proofs.LaysM.n284 prog Tryz.laysM284_ren:={
 mixed:=by kernel_rfl
 f129:=FkR func302
 f284:=FkR func259
 f317:=FkR func301
 f318:=FkR func303
 t0:=underlying0
 a0:=isAgg0
 z0:=sizeOf0
 v0:=zeroValue0
 t3:=underlying3
 a3:=isAgg3
 z3:=sizeOf3
 v3:=zeroValue3
 t4:=underlying4
 a4:=isAgg4
 z4:=sizeOf4
 v4:=zeroValue4
 t5:=underlying5
 a5:=isAgg5
 z5:=sizeOf5
 v5:=zeroValue5
 t9:=underlying9
 a9:=isAgg9
 z9:=sizeOf9
 v9:=zeroValue9
 t46:=underlying283
 a46:=isAgg283
 z46:=sizeOf283
 v46:=zeroValue283
 t53:=underlying207
 a53:=isAgg207
 z53:=sizeOf207
 v53:=zeroValue207
 t212:=underlying378
 a212:=isAgg378
 z212:=sizeOf378
 v212:=zeroValue378
 g17:=by kernel_rfl
 i0:=by kernel_rfl
 i3:=by kernel_rfl
 i4:=by kernel_rfl
 i5:=by kernel_rfl
 i9:=by kernel_rfl
 i46:=by kernel_rfl
 i53:=by kernel_rfl
 i212:=by kernel_rfl
 m17:=by kernel_rfl }
open Go.Lib in
theorem Tryz.internal_strconv_numDigits (u:Nat) (h1:1<=u) (h2:u<18446744073709551616) (w:World) (htab:Lib.TabIs prog w "internal/strconv.uint64pow10" .u64 Lib.pow10Tab) :
  Calls prog 259 #[.int .u64 u] w fun e w'=>e=.returned (.int .i64 (Lib.nDigits u))/\w'=w:=Any.internal_strconv_numDigits Tryz.laysM284 u h1 h2 w htab
def Tryz.lays285_ren:Go.Shelf.Ren:=⟨fun|285=>260|n=>n,fun|37=>214|53=>207|3=>3|4=>4|51=>339|9=>9|5=>5|0=>0|n=>n,fun|n=>n⟩
theorem Tryz.lays285:Go.Proofs.Lays.n285 prog Tryz.lays285_ren:={
 mixed:=by kernel_rfl
 f285:=FkR func260
 t0:=underlying0
 a0:=isAgg0
 z0:=sizeOf0
 v0:=zeroValue0
 t3:=underlying3
 a3:=isAgg3
 z3:=sizeOf3
 v3:=zeroValue3
 t4:=underlying4
 a4:=isAgg4
 z4:=sizeOf4
 v4:=zeroValue4
 t5:=underlying5
 a5:=isAgg5
 z5:=sizeOf5
 v5:=zeroValue5
 t9:=underlying9
 a9:=isAgg9
 z9:=sizeOf9
 v9:=zeroValue9
 t37:=underlying214
 a37:=isAgg214
 z37:=sizeOf214
 v37:=zeroValue214
 t51:=underlying339
 a51:=isAgg339
 z51:=sizeOf339
 v51:=zeroValue339
 t53:=underlying207
 a53:=isAgg207
 z53:=sizeOf207
 v53:=zeroValue207 }
open Go.RowKit Go.Sort Go.Lib in
theorem Tryz.internal_strconv_formatBase10 (blk off cap:Nat) (u:Nat) (d:Array UInt8) (w:World) (hH:Holds (fun (b:UInt8)=>Value.int .u8 (b.toNat:Int)) w blk off d) (hu:u<10 ^ d.size) (hu64:u<18446744073709551616) (hsz:d.size<4611686018427387904) :
  Calls prog 260 #[.slice (some ⟨blk,off,none⟩) d.size cap,.int .u64 u] w fun e w'=>
   e=.returned (.tuple #[])/\∃(n v':Nat) (dk:Array UInt8),w'=(putRow (fun (b:UInt8)=>Value.int .u8 (b.toNat:Int)) w blk off dk).drewN n/\FmtInv d.size u 0 v' dk:=Any.internal_strconv_formatBase10 Tryz.lays285 blk off cap u d w hH hu hu64 hsz
def Tryz.laysPu14_ren:Go.Shelf.Ren:=⟨fun|14=>129|16=>194|17=>195|19=>251|20=>252|21=>253|22=>254|23=>255|24=>256|25=>299|27=>140|26=>300|28=>203|29=>267|30=>258|31=>259|32=>260|33=>261|35=>302|34=>301|36=>303|37=>304|38=>305|39=>326|40=>327|n=>n,fun|9=>9|3=>3|22=>207|24=>209|25=>210|4=>4|34=>327|5=>5|36=>283|37=>214|0=>0|39=>329|21=>21|44=>374|47=>289|50=>394|48=>392|2=>2|52=>334|55=>337|59=>378|60=>339|20=>20|61=>379|65=>410|66=>411|67=>222|n=>n,fun|0=>0|1=>1|2=>2|3=>6|4=>7|n=>n⟩
theorem Tryz.laysPu14:Go.Proofs.LaysPu.n14 prog Tryz.laysPu14_ren:={
 mixed:=by kernel_rfl
 f14:=FkR func129
 f16:=FkR func194
 f17:=FkR func195
 f19:=FkR func251
 f20:=FkR func252
 f21:=FkR func253
 f22:=FkR func254
 f23:=FkR func255
 f24:=FkR func256
 f25:=FkR func299
 f26:=FkR func300
 f27:=FkR func140
 f28:=FkR func203
 f29:=FkR func267
 f30:=FkR func258
 f31:=FkR func259
 f32:=FkR func260
 f33:=FkR func261
 f34:=FkR func301
 f35:=FkR func302
 f36:=FkR func303
 f37:=FkR func304
 f38:=FkR func305
 f39:=FkR func326
 f40:=FkR func327
 t0:=underlying0
 a0:=isAgg0
 z0:=sizeOf0
 v0:=zeroValue0
 i0:=by kernel_rfl
 t2:=underlying2
 a2:=isAgg2
 z2:=sizeOf2
 v2:=zeroValue2
 i2:=by kernel_rfl
 t3:=underlying3
 a3:=isAgg3
 z3:=sizeOf3
 v3:=zeroValue3
 i3:=by kernel_rfl
 t4:=underlying4
 a4:=isAgg4
 z4:=sizeOf4
 v4:=zeroValue4
 i4:=by kernel_rfl
 t5:=underlying5
 a5:=isAgg5
 z5:=sizeOf5
 v5:=zeroValue5
 i5:=by kernel_rfl
 t9:=underlying9
 a9:=isAgg9
 z9:=sizeOf9
 v9:=zeroValue9
 i9:=by kernel_rfl
 t20:=underlying20
 a20:=isAgg20
 z20:=sizeOf20
 v20:=zeroValue20
 i20:=by kernel_rfl
 t21:=underlying21
 a21:=isAgg21
 z21:=sizeOf21
 v21:=zeroValue21
 i21:=by kernel_rfl
 t22:=underlying207
 a22:=isAgg207
 z22:=sizeOf207
 v22:=zeroValue207
 i22:=by kernel_rfl
 t24:=underlying209
 a24:=isAgg209
 z24:=sizeOf209
 v24:=zeroValue209
 i24:=by kernel_rfl
 t25:=underlying210
 a25:=isAgg210
 z25:=sizeOf210
 v25:=zeroValue210
 i25:=by kernel_rfl
 t34:=underlying327
 a34:=isAgg327
 z34:=sizeOf327
 v34:=zeroValue327
 i34:=by kernel_rfl
 c34:=by kernel_rfl
 t36:=underlying283
 a36:=isAgg283
 z36:=sizeOf283
 v36:=zeroValue283
 i36:=by kernel_rfl
 t37:=underlying214
 a37:=isAgg214
 z37:=sizeOf214
 v37:=zeroValue214
 i37:=by kernel_rfl
 t39:=underlying329
 a39:=isAgg329
 z39:=sizeOf329
 v39:=zeroValue329
 i39:=by kernel_rfl
 t44:=underlying374
 a44:=isAgg374
 z44:=sizeOf374
 v44:=zeroValue374
 i44:=by kernel_rfl
 t47:=underlying289
 a47:=isAgg289
 z47:=sizeOf289
 v47:=zeroValue289
 i47:=by kernel_rfl
 t48:=underlying392
 a48:=isAgg392
 z48:=sizeOf392
 v48:=zeroValue392
 i48:=by kernel_rfl
 t50:=underlying394
 a50:=isAgg394
 z50:=sizeOf394
 v50:=zeroValue394
 i50:=by kernel_rfl
 t52:=underlying334
 a52:=isAgg334
 z52:=sizeOf334
 v52:=zeroValue334
 i52:=by kernel_rfl
 t55:=underlying337
 a55:=isAgg337
 z55:=sizeOf337
 v55:=zeroValue337
 i55:=by kernel_rfl
 t59:=underlying378
 a59:=isAgg378
 z59:=sizeOf378
 v59:=zeroValue378
 i59:=by kernel_rfl
 t60:=underlying339
 a60:=isAgg339
 z60:=sizeOf339
 v60:=zeroValue339
 i60:=by kernel_rfl
 t61:=underlying379
 a61:=isAgg379
 z61:=sizeOf379
 t65:=underlying410
 a65:=isAgg410
 z65:=sizeOf410
 v65:=zeroValue410
 i65:=by kernel_rfl
 t66:=underlying411
 a66:=isAgg411
 z66:=sizeOf411
 v66:=zeroValue411
 i66:=by kernel_rfl
 t67:=underlying222
 a67:=isAgg222
 z67:=sizeOf222
 v67:=zeroValue222
 i67:=by kernel_rfl
 g0:=by kernel_rfl
 m0:=by kernel_rfl
 g1:=by kernel_rfl
 m1:=by kernel_rfl
 g2:=by kernel_rfl
 m2:=by kernel_rfl
 g3:=by kernel_rfl
 m3:=by kernel_rfl
 g4:=by kernel_rfl
 m4:=by kernel_rfl }
open Go.RowKit in
theorem Tryz.strconv_ParseUint_10_at64_ok (s:ByteArray) (hmax:s.size<=9223372036854775806) (u:Nat) (h:Lib.parseUintB 64 s.data.toList=.ok u) (w:World) :
  Calls prog 129 #[.string s,.int .i64 10,.int .i64 64] w fun e w'=>e=.returned (.tuple #[.int .u64 u,.nilIface])/\(w'=w∨w'=Lib.bytesWorld w 5 s):=Any.strconv_ParseUint_10_at64_ok Tryz.laysPu14 s hmax u h w
def Tryz.lays105_ren:Go.Shelf.Ren:=⟨fun|105=>134|212=>198|99=>199|165=>200|166=>132|170=>201|169=>135|263=>262|264=>263|206=>264|240=>196|241=>265|276=>257|277=>306|n=>n,fun|9=>9|3=>3|4=>4|20=>20|0=>0|46=>283|109=>284|5=>5|72=>216|76=>218|51=>339|146=>340|53=>207|148=>342|70=>213|37=>214|75=>209|127=>289|164=>332|80=>222|n=>n,fun|n=>n⟩
theorem Tryz.lays105:Go.Proofs.Lays.n105 prog Tryz.lays105_ren:={
 mixed:=by kernel_rfl
 f99:=FkR func199
 f105:=FkR func134
 f165:=FkR func200
 f166:=FkR func132
 f169:=FkR func135
 f170:=FkR func201
 f206:=FkR func264
 f212:=FkR func198
 f240:=FkR func196
 f241:=FkR func265
 f263:=FkR func262
 f264:=FkR func263
 f276:=FkR func257
 f277:=FkR func306
 t0:=underlying0
 a0:=isAgg0
 z0:=sizeOf0
 v0:=zeroValue0
 t3:=underlying3
 a3:=isAgg3
 z3:=sizeOf3
 v3:=zeroValue3
 t4:=underlying4
 a4:=isAgg4
 z4:=sizeOf4
 v4:=zeroValue4
 t5:=underlying5
 a5:=isAgg5
 z5:=sizeOf5
 v5:=zeroValue5
 t9:=underlying9
 a9:=isAgg9
 z9:=sizeOf9
 v9:=zeroValue9
 t20:=underlying20
 a20:=isAgg20
 z20:=sizeOf20
 v20:=zeroValue20
 t37:=underlying214
 a37:=isAgg214
 z37:=sizeOf214
 v37:=zeroValue214
 t46:=underlying283
 a46:=isAgg283
 z46:=sizeOf283
 v46:=zeroValue283
 t51:=underlying339
 a51:=isAgg339
 z51:=sizeOf339
 v51:=zeroValue339
 t53:=underlying207
 a53:=isAgg207
 z53:=sizeOf207
 v53:=zeroValue207
 t70:=underlying213
 a70:=isAgg213
 z70:=sizeOf213
 v70:=zeroValue213
 t72:=underlying216
 a72:=isAgg216
 z72:=sizeOf216
 v72:=zeroValue216
 t75:=underlying209
 a75:=isAgg209
 z75:=sizeOf209
 v75:=zeroValue209
 t76:=underlying218
 a76:=isAgg218
 z76:=sizeOf218
 v76:=zeroValue218
 t109:=underlying284
 a109:=isAgg284
 z109:=sizeOf284
 v109:=zeroValue284
 t127:=underlying289
 a127:=isAgg289
 z127:=sizeOf289
 v127:=zeroValue289
 t146:=underlying340
 a146:=isAgg340
 z146:=sizeOf340
 v146:=zeroValue340
 t148:=underlying342
 a148:=isAgg342
 z148:=sizeOf342
 v148:=zeroValue342
 t164:=underlying332
 a164:=isAgg332
 z164:=sizeOf332
 v164:=zeroValue332 }
theorem Tryz.Builder_Extra_105:Builder.Extra prog Tryz.lays105_ren:={
 sizeBuilder:=by kernel_rfl
 liesBuilder:=by kernel_rfl
 t5:=underlying5
 a5:=isAgg5
 z5:=sizeOf5
 v5:=zeroValue5
 infoByte:=by kernel_rfl
 cellsByte:=by kernel_rfl
 sizeByte:=by kernel_rfl
 neB5:=by decide }
open Go.RowKit Go.Lib in
theorem Tryz.strings_Repeat (s:ByteArray) (c:Nat) (w:World) (hc:c<=9223372036854775807) (hlen:s.size*c<=140737488355328) :
  Calls prog 134 #[.string s,.int .i64 c] w fun e w'=>e=.returned (.string ⟨(Lib.repeatL s.data.toList c).toArray⟩)/\Below w.heap.size w w':=Any.strings_Repeat Tryz.lays105 Tryz.Builder_Extra_105 s c w hc hlen
open Go.RowKit in
theorem Tryz.strings_Trim (s cutset:ByteArray) (w:World) (hs:s.size<=9223372036854775807) (hcs:cutset.size<4294967281) (hascii:∀(j:Nat) (b:UInt8),cutset.data.toList[j]?=some b->b.toNat<128) :
  Calls prog 192 #[.string s,.string cutset] w fun e w'=>e=.returned (.string ⟨(Lib.trimS s.data.toList cutset.data.toList).toArray⟩)/\Below w.heap.size w w':=Any.strings_Trim_laid Tryz.lays160 (by kernel_rfl) s cutset w hs hcs hascii
open Go.RowKit in
theorem Tryz.strings_TrimLeft (s cutset:ByteArray) (w:World) (hcs:cutset.size<4294967281) (hascii:∀(j:Nat) (b:UInt8),cutset.data.toList[j]?=some b->b.toNat<128) :
  Calls prog 193 #[.string s,.string cutset] w fun e w'=>e=.returned (.string ⟨(Lib.trimLeftS s.data.toList cutset.data.toList).toArray⟩)/\Below w.heap.size w w':=Any.strings_TrimLeft_laid Tryz.lays161 (by kernel_rfl) s cutset w hcs hascii
def Tryz.lays167_ren:Go.Shelf.Ren:=⟨fun|167=>131|240=>196|276=>257|n=>n,fun|0=>0|4=>4|5=>5|9=>9|20=>20|37=>214|70=>213|72=>216|75=>209|80=>222|164=>332|n=>n,fun|n=>n⟩
theorem Tryz.lays167:Go.Proofs.Lays.n167 prog Tryz.lays167_ren:={
 mixed:=by kernel_rfl
 f167:=FkR func131
 f240:=FkR func196
 f276:=FkR func257
 t0:=underlying0
 a0:=isAgg0
 z0:=sizeOf0
 v0:=zeroValue0
 t4:=underlying4
 a4:=isAgg4
 z4:=sizeOf4
 v4:=zeroValue4
 t5:=underlying5
 a5:=isAgg5
 z5:=sizeOf5
 v5:=zeroValue5
 t9:=underlying9
 a9:=isAgg9
 z9:=sizeOf9
 v9:=zeroValue9
 t20:=underlying20
 a20:=isAgg20
 z20:=sizeOf20
 v20:=zeroValue20
 t37:=underlying214
 a37:=isAgg214
 z37:=sizeOf214
 v37:=zeroValue214
 t70:=underlying213
 a70:=isAgg213
 z70:=sizeOf213
 v70:=zeroValue213
 t72:=underlying216
 a72:=isAgg216
 z72:=sizeOf216
 v72:=zeroValue216
 t75:=underlying209
 a75:=isAgg209
 z75:=sizeOf209
 v75:=zeroValue209
 t164:=underlying332
 a164:=isAgg332
 z164:=sizeOf332
 v164:=zeroValue332 }
theorem Tryz.Builder_Extra_167:Builder.Extra prog Tryz.lays167_ren:={
 sizeBuilder:=by kernel_rfl
 liesBuilder:=by kernel_rfl
 t5:=underlying5
 a5:=isAgg5
 z5:=sizeOf5
 v5:=zeroValue5
 infoByte:=by kernel_rfl
 cellsByte:=by kernel_rfl
 sizeByte:=by kernel_rfl
 neB5:=by decide }
open Go.RowKit in
theorem Tryz.Builder_WriteByte (B b:Nat) (bs:List Value) (c:Int) (w:World) (h:Lib.IsBuilder 216 5 B b bs w) (hlen:bs.length+1<=140737488355328) (hBw:B<=w.heap.size) :
  Calls prog 131 #[.pointer (some ⟨b,0,none⟩),.int .u8 c] w fun e w'=>e=.returned .nilIface/\(Lib.BuilderAt 216 5 B b (.pointer (some ⟨b,0,none⟩)) (bs++[.int .u8 c]) w'/\Below B w w'):=Any.Builder_WriteByte Tryz.lays167 Tryz.Builder_Extra_167 B b bs c w h hlen hBw
def Tryz.lays166_ren:Go.Shelf.Ren:=⟨fun|166=>132|240=>196|276=>257|n=>n,fun|0=>0|3=>3|4=>4|5=>5|9=>9|20=>20|37=>214|70=>213|72=>216|75=>209|80=>222|164=>332|n=>n,fun|n=>n⟩
theorem Tryz.lays166:Go.Proofs.Lays.n166 prog Tryz.lays166_ren:={
 mixed:=by kernel_rfl
 f166:=FkR func132
 f240:=FkR func196
 f276:=FkR func257
 t0:=underlying0
 a0:=isAgg0
 z0:=sizeOf0
 v0:=zeroValue0
 t3:=underlying3
 a3:=isAgg3
 z3:=sizeOf3
 v3:=zeroValue3
 t4:=underlying4
 a4:=isAgg4
 z4:=sizeOf4
 v4:=zeroValue4
 t9:=underlying9
 a9:=isAgg9
 z9:=sizeOf9
 v9:=zeroValue9
 t20:=underlying20
 a20:=isAgg20
 z20:=sizeOf20
 v20:=zeroValue20
 t37:=underlying214
 a37:=isAgg214
 z37:=sizeOf214
 v37:=zeroValue214
 t70:=underlying213
 a70:=isAgg213
 z70:=sizeOf213
 v70:=zeroValue213
 t72:=underlying216
 a72:=isAgg216
 z72:=sizeOf216
 v72:=zeroValue216
 t75:=underlying209
 a75:=isAgg209
 z75:=sizeOf209
 v75:=zeroValue209
 t164:=underlying332
 a164:=isAgg332
 z164:=sizeOf332
 v164:=zeroValue332 }
theorem Tryz.Builder_Extra_166:Builder.Extra prog Tryz.lays166_ren:={
 sizeBuilder:=by kernel_rfl
 liesBuilder:=by kernel_rfl
 t5:=underlying5
 a5:=isAgg5
 z5:=sizeOf5
 v5:=zeroValue5
 infoByte:=by kernel_rfl
 cellsByte:=by kernel_rfl
 sizeByte:=by kernel_rfl
 neB5:=by decide }
open Go.RowKit in
theorem Tryz.Builder_WriteString (B b:Nat) (bs:List Value) (s:ByteArray) (w:World) (h:Lib.IsBuilder 216 5 B b bs w) (hlen:bs.length+s.size<=140737488355328) (hBw:B<=w.heap.size) :
  Calls prog 132 #[.pointer (some ⟨b,0,none⟩),.string s] w fun e w'=>e=.returned (.tuple #[.int .i64 s.size,.nilIface])/\(Lib.BuilderAt 216 5 B b (.pointer (some ⟨b,0,none⟩)) (bs++Lib.strCells s) w'/\Below B w w'):=Any.Builder_WriteString Tryz.lays166 Tryz.Builder_Extra_166 B b bs s w h hlen hBw
end Go.Proofs
namespace Go.Proofs.YtpieeldbamklkaaGreatDoor
open Go.RowKit Num
theorem Mh (n:Nat):fmt n=Lib.decDigits n:=by
 induction n using Nat.strongRecOn with
 | ind n ih=>
  by_cases h:n<10
  ·rw[Qm n h,Lib.decDigits_one h];unfold dg;rw[Nat.mod_eq_of_lt h]
  ·rw[Lib.decDigits,dif_neg h,<-ih _ (by omega)]
   conv=>lhs;rw[show n=10*(n / 10)+n % 10 by omega]
   rw[M6 _ _ (by omega) (by omega)]
   unfold dg;rw[Nat.mod_mod]
theorem Zbf (l:List UInt8) (acc:Nat) (hd:l.all Z5=true) (hb:acc*10 ^ l.length+nat l<1000000000):Lib.parseUintM (2 ^ 64-1) acc l=.ok (acc*10 ^ l.length+nat l):=by
 induction l generalizing acc with
 | nil=>simp[Lib.parseUintM,nat]
 | cons c l ih=>
  simp only[List.all_cons,Bool.and_eq_true] at hd;have hc:=hd.1;simp[Z5] at hc;have hb':=hb;rw[PZ,List.length_cons,Nat.pow_succ] at hb';clear hb;have hpos:0<10 ^ l.length:=Nat.pow_pos (by omega)
  have e:acc*(10 ^ l.length*10)+((c.toNat-48)*10 ^ l.length+nat l)=(acc*10+(c.toNat-48))*10 ^ l.length+nat l:=by
   rw[Nat.add_mul,Nat.mul_assoc acc 10,Nat.mul_comm 10,Nat.add_assoc]
  rw[e] at hb';have h1:acc*10+(c.toNat-48)<=(acc*10+(c.toNat-48))*10 ^ l.length:=Nat.le_mul_of_pos_right _ hpos;rw[Lib.parseUintM,if_pos ⟨by omega,by omega⟩,if_neg (by omega),if_neg (by omega),ih _ hd.2 hb',PZ,List.length_cons,Nat.pow_succ 10 l.length,e]
theorem F8 (l:List UInt8) (h0:l≠[]) (hd:l.all Z5=true) (hl:l.length<=9):Lib.parseUintB 64 l=.ok (nat l):=by
 have h1:=KR l hd;have h2:10 ^ l.length<=10 ^ 9:=Nat.pow_le_pow_right (by omega) hl
 have:=Zbf l 0 hd (by omega)
 simp only[Nat.zero_mul,Nat.zero_add] at this;unfold Lib.parseUintB;rw[if_neg h0,this]
def DIG:List UInt8:=[48,49,50,51,52,53,54,55,56,57]
theorem Mi (b:UInt8):DIG.contains b=Z5 b:=by
 unfold DIG Z5;have h:∀n:Fin 256,([48,49,50,51,52,53,54,55,56,57]:List UInt8).contains (UInt8.ofNat n.1)=(decide (48<=(UInt8.ofNat n.1).toNat)&&decide ((UInt8.ofNat n.1).toNat<=57)):=by decide +kernel
 have:=h ⟨b.toNat,UInt8.toNat_lt b⟩
 rwa [UInt8.ofNat_toNat] at this
theorem XO {α:Type} (p:α->Bool) (l:List α):l.dropWhile p=[]↔l.all p=true:=by
 induction l with
 | nil=>simp
 | cons a l ih=>rw[List.dropWhile_cons];by_cases h:p a=true<;>simp_all
theorem P6 {α:Type} (p:α->Bool) (l:List α) (x:α) (r:List α) (h:l.dropWhile p=x::r):p x=false:=by
 induction l with
 | nil=>simp at h
 | cons a l ih=>
  rw[List.dropWhile_cons] at h
  by_cases hp:p a=true
  ·rw[if_pos hp] at h;exact ih h
  ·rw[if_neg hp] at h;injection h with h1 _;subst h1;simpa using hp
theorem F9 (l:List UInt8):(Lib.trimS l DIG).isEmpty=l.all Z5:=by
 have hc:(fun b:UInt8=>DIG.contains b)=Z5:=funext Mi
 unfold Lib.trimS Lib.trimLeftS Lib.trimRightS;rw[hc];rw[Bool.eq_iff_iff,List.isEmpty_iff,XO];constructor
 ·intro h;cases hr:l.reverse.dropWhile Z5 with
  | nil=>
   rw[XO] at hr;simpa using hr
  | cons x r=>
   have hx:=P6 Z5 _ _ _ hr;rw[hr] at h;simp[hx] at h
 ·intro h
  have:l.reverse.dropWhile Z5=[]:=by rw[XO];simpa using h
  simp[this]
theorem Gs (l:List UInt8):Lib.trimLeftS l [48]=sig l:=by
 unfold Lib.trimLeftS sig;congr 1
 funext b
 rw[Bool.eq_iff_iff];simp
theorem It (l:List UInt8):Lib.hasPrefix l [45]=TC l:=by
 cases l with
 | nil=>rfl
 | cons a t=>
  simp only[Lib.hasPrefix,TC,List.isPrefixOf,List.head?_cons,Bool.and_true];rw[Bool.eq_iff_iff];simp;exact eq_comm
theorem Ea (l:List UInt8):Lib.trimPrefix l [45]=rest l:=by
 unfold Lib.trimPrefix rest;rw[It];simp
theorem Lb (c:Nat):Lib.repeatL [48] c=List.replicate c 48:=by
 induction c with
 | zero=>rfl
 | succ c ih=>rw[Lib.repeatL,ih,List.replicate_succ];rfl
def Yb (w:World):Prop:=Lib.TabIs prog w "internal/strconv.uint64pow10" .u64 Lib.pow10Tab/\∃m:Int,w.cell? ⟨3,0,none⟩=some (.int .i64 m)
theorem Gt {w w':World} {name:String} {k:IntKind} {zs:List Int} (h:Lib.TabIs prog w name k zs) (hb:Below w.heap.size w w'):Lib.TabIs prog w' name k zs:=by
 unfold Lib.TabIs World.var? at *;cases hg:prog.globalNamed name with
 | none=>simp[hg] at h
 | some g=>
  simp only[hg,Option.bind_some] at h ⊢;have hlt:g<w.heap.size:=by
   rcases Nat.lt_or_ge g w.heap.size with h'|h'
   ·exact h'
   ·rw[Array.getElem?_eq_none h'] at h;simp at h
  rw[hb.block g hlt];exact h
theorem Yb.below {w w':World} (h:Yb w) (hb:Below w.heap.size w w'):Yb w':=
 ⟨Gt h.1 hb,h.2.elim fun m hm=>⟨m,(hb.cell (p:=⟨3,0,none⟩) (World.block_lt_of_cell? w _ hm)).trans hm⟩⟩
theorem Mj {B:Nat} {a w:World} (h:Below B a w) (n:Nat):Below B a (w.drewN n):=⟨h.os,h.tape,h.output,h.size,h.block⟩
theorem bto {w w1 w2:World} (h:Below w.heap.size w w1) (k:Below w1.heap.size w1 w2):Below w.heap.size w w2:=h.trans (k.mono h.size)
theorem holds_zero0 (w:World) (T:TypeId) (nd:Nat) (hs:nd<=24):Sort.Holds (fun (b:UInt8)=>Value.int .u8 (b.toNat:Int)) (w.alloc (.cells Lib.zeros24 T)) w.heap.size 0 (Array.replicate nd (0:UInt8)):=fun j hj=>by
 have hj':j<nd:=by simpa using hj
 refine⟨?_,World.frozen?_alloc_new _ _ _ _⟩;rw[World.cell?_alloc_new,Lib.zeros24_at _ (by omega),getElem!_pos _ j hj]
 simp
theorem below_putRow (w:World) (o:Obj) (dk:Array UInt8) (k:Nat):Below w.heap.size w ((Sort.putRow (fun (b:UInt8)=>Value.int .u8 (b.toNat:Int)) (w.alloc o) w.heap.size 0 dk).drewN k):=by
 rw[Sort.alloc_eq_grow];obtain⟨os',_,e⟩:=Sort.putRow_grow_new (fun (b:UInt8)=>Value.int .u8 (b.toNat:Int)) w #[o] w.heap.size 0 dk (Nl _)
 rw[e];exact⟨rfl,rfl,rfl,by simp[Sort.grow,World.drewN],fun i hi=>Sort.heap_grow_old w os' hi⟩
theorem Lc (u:Nat) (hu:u<18446744073709551616) (w:World) (hG:Yb w) :
  Calls prog 197 #[.int .u64 u,.int .i64 10] w fun e w'=>e=.returned (.string ⟨(fmt u).toArray⟩)/\Below w.heap.size w w':=by
 rw[Mh]
 by_cases hi:u<100
 ·go_enter func197,ntmps197;go_wp2_with (go_at_call 258;refine (Tryz.internal_strconv_small u hi _).mono ?_;rintro e w' ⟨rfl,rfl⟩);go_ret;exact⟨rfl,Below.refl _ _⟩
 ·have hu1:1<=u:=by omega
  have hnd20:Lib.nDigits u<=20:=by have:=Lib.numDigits_eq u hu1 hu;split at this<;>omega
  have hal:prog.arrayLen 334=24:=by simp[Program.arrayLen,underlying334]
  have hsl1:∀W,(Instr.sliceAt 334 (.pointer (some ⟨w.heap.size,0,none⟩)) none (some (.int .i64 (Lib.nDigits u:Int))) none).run prog W=.ok (.slice (some ⟨w.heap.size,0,none⟩) (Lib.nDigits u) 24) W:=fun W=>by
   rw[run_sliceAt_array_h W 334 ⟨w.heap.size,0,none⟩ (by simp[Program.arrayLen,Program.elem,underlying334]) .i64 (Lib.nDigits u:Int) (by omega) (by rw[hal];omega)]
   go_simp
  have hH0:=holds_zero0 w 334 (Lib.nDigits u) (by omega)
  have hfmt:=Tryz.internal_strconv_formatBase10 w.heap.size 0 24 u (Array.replicate (Lib.nDigits u) 0) (w.alloc (.cells Lib.zeros24 334)) hH0 (by rw[Array.size_replicate];exact Lib.lt_pow_nDigits u) hu (by rw[Array.size_replicate];omega)
  rw[Array.size_replicate] at hfmt;have HH0:=Lh hH0;have HF:=Lh hfmt;clear hH0 hal hfmt;go_enter func197,ntmps197;go_wp2_with (go_at_call 259;refine (Tryz.internal_strconv_numDigits u hu1 hu _ (Lib.tabIs_alloc hG.1 _)).mono ?_;rintro e w' ⟨rfl,rfl⟩)
  go_at_call 260
  refine HF.out.mono ?_;rintro e w' ⟨rfl,k,v',dk,rfl,hF⟩;have hcv:(convert 214 9 (.slice (some ⟨w.heap.size,0,none⟩) (Lib.nDigits u) 24)).run prog ((Sort.putRow (fun (b:UInt8)=>Value.int .u8 (b.toNat:Int)) (w.alloc (.cells Lib.zeros24 334)) w.heap.size 0 dk).drewN k)=.ok (.string ⟨(Lib.decDigits u).toArray⟩) ((Sort.putRow (fun (b:UInt8)=>Value.int .u8 (b.toNat:Int)) (w.alloc (.cells Lib.zeros24 334)) w.heap.size 0 dk).drewN k):=by
   have h:=run_convert_bytes_back (P:=prog) ((Sort.putRow (fun (b:UInt8)=>Value.int .u8 (b.toNat:Int)) (w.alloc (.cells Lib.zeros24 334)) w.heap.size 0 dk).drewN k) 214 9 5 ⟨w.heap.size,0,none⟩ 24 (Lib.decDigits u) underlying214 underlying5 underlying9 (fun j hj=>by
    rw[Lib.row_is_numeral hF j hj,Lib.add_plain,World.cell?_drewN]
    exact Sort.cell?_putRow (fun (b:UInt8)=>Value.int .u8 (b.toNat:Int)) _ w.heap.size 0 _ dk HH0.out (by rw[hF.size,Array.size_replicate]) j (by rw[hF.size];rw[Lib.decDigits_length] at hj;exact hj))
   rw[Lib.decDigits_length] at h;exact h
  go_wp2;go_ret;exact⟨rfl,below_putRow _ _ _ _⟩
theorem P7 (u:Nat) (hu:u<18446744073709551616) (w:World) (hG:Yb w) :
  Calls prog 133 #[.int .u64 u,.int .i64 10] w fun e w'=>e=.returned (.string ⟨(fmt u).toArray⟩)/\Below w.heap.size w w':=by
 go_enter func133,ntmps133;go_wp2_with (go_at_call 197;refine (Lc u hu _ hG).mono ?_;rintro e w' ⟨rfl,hb⟩);go_ret;exact⟨rfl,hb⟩
theorem Ng (l:List UInt8) (w:World) :
  Calls prog 191 #[.string ⟨l.toArray⟩,.string ⟨#[45]⟩] w fun e w'=>e=.returned (.tuple #[.string ⟨(rest l).toArray⟩,.bool (TC l)])/\w=w':=by
 refine (Tryz.strings_CutPrefix ⟨l.toArray⟩ ⟨#[45]⟩ w).mono ?_;rintro e w' ⟨rfl,rfl⟩;simp only[Ea,It,and_self]
theorem Eb (l:List UInt8) (w:World) (hl:l.length<=9223372036854775807) :
  Calls prog 192 #[.string ⟨l.toArray⟩,.string ⟨#[48,49,50,51,52,53,54,55,56,57]⟩] w fun e w'=>(∃t:List UInt8,t.isEmpty=l.all Z5/\e=.returned (.string ⟨t.toArray⟩))/\Below w.heap.size w w':=by
 refine (Tryz.strings_Trim ⟨l.toArray⟩ ⟨#[48,49,50,51,52,53,54,55,56,57]⟩ w (by simpa [ByteArray.size] using hl) (by decide) (ascii_of_all (by decide))).mono ?_
 rintro e w' ⟨rfl,hb⟩;exact⟨⟨_,F9 l,rfl⟩,hb⟩
theorem Mk (l:List UInt8) (w:World) :
  Calls prog 193 #[.string ⟨l.toArray⟩,.string ⟨#[48]⟩] w fun e w'=>e=.returned (.string ⟨(sig l).toArray⟩)/\Below w.heap.size w w':=by
 refine (Tryz.strings_TrimLeft ⟨l.toArray⟩ ⟨#[48]⟩ w (by decide) (ascii_of_all (by decide))).mono ?_
 rintro e w' ⟨rfl,hb⟩;refine⟨?_,hb⟩;simp only[Gs]
theorem bytesWorld_below (w:World) (t:TypeId) (s:ByteArray):Below w.heap.size w (Lib.bytesWorld w t s):=by
 exact Joins.below_bytesWorld _ w t s (Nl _)
theorem Gu (l:List UInt8) (w:World) (h0:l≠[]) (hd:l.all Z5=true) (hl:l.length<=9) :
  Calls prog 129 #[.string ⟨l.toArray⟩,.int .i64 10,.int .i64 64] w fun e w'=>e=.returned (.tuple #[.int .u64 (nat l:Nat),.nilIface])/\Below w.heap.size w w':=by
 refine (Tryz.strconv_ParseUint_10_at64_ok ⟨l.toArray⟩ (by simp[ByteArray.size];omega) (nat l) (F8 l h0 hd hl) w).mono ?_
 rintro e w' ⟨rfl,h⟩;refine⟨rfl,?_⟩;rcases h with rfl|rfl
 ·exact Below.refl _ _
 ·exact bytesWorld_below _ _ _
theorem K9 (c:Nat) (w:World) (hc:c<=1000) :
  Calls prog 134 #[.string ⟨#[48]⟩,.int .i64 c] w fun e w'=>e=.returned (.string ⟨(List.replicate c (48:UInt8)).toArray⟩)/\Below w.heap.size w w':=by
 refine (Tryz.strings_Repeat ⟨#[48]⟩ c w (by omega) (by simp[ByteArray.size];omega)).mono ?_
 rintro e w' ⟨rfl,hb⟩;refine⟨?_,hb⟩;show Ending.returned (Value.string ⟨(Lib.repeatL [48] c).toArray⟩)=_;rw[Lb]
theorem Ja (z:Int) (c:Nat) (w:World) (hz:z=c) (hc:c<=1000) :
  Calls prog 134 #[.string ⟨#[48]⟩,.int .i64 z] w fun e w'=>e=.returned (.string ⟨(List.replicate c (48:UInt8)).toArray⟩)/\Below w.heap.size w w':=by
 subst hz;exact K9 c w hc
theorem Ml {l:List UInt8} (h:(rest l).all Z5=true):WH l=sig (rest l):=by unfold WH Io;rw[if_pos h]
theorem Iu {l:List UInt8} (h:(rest l).all Z5=false):WH l=[]:=by unfold WH Io;rw[h];rfl
theorem Iv {l:List UInt8} (h:(rest l).all Z5=true):Z1 l=(TC l&&!(sig (rest l)).isEmpty):=by unfold Z1;rw[Ml h]
theorem B6 {l:List UInt8} (h:(rest l).all Z5=false):Z1 l=false:=by unfold Z1;rw[Iu h];simp
theorem P8 (l:List UInt8):(rest l).length<=l.length:=by unfold rest;split<;>simp
theorem B7 {a b c d:Value} (h:a=b) (k:c=d):Ending.returned (.tuple #[a,c])=.returned (.tuple #[b,d]):=by rw[h,k]
theorem str_eq {a b:List UInt8} (h:a=b):Value.string ⟨a.toArray⟩=.string ⟨b.toArray⟩:=by rw[h]
theorem TW (l:List UInt8) (w:World) (hl:l.length<=1000000000) :
  Calls prog 128 #[.string ⟨l.toArray⟩] w fun e w'=>e=.returned (.tuple #[.string ⟨(WH l).toArray⟩,.bool (Z1 l)])/\Below w.heap.size w w':=by
 have hr:=P8 l;go_enter func128,ntmps128;go_wp2_with (go_at_call 191;refine (Ng l _).mono ?_;rintro e w' ⟨rfl,rfl⟩);refine (Eb (rest l) _ (by omega)).mono ?_
 rintro e w1 ⟨⟨t,ht,rfl⟩,hb1⟩
 by_cases hd:(rest l).all Z5=true
 ·have ht0:t=[]:=by rw[hd] at ht;exact List.isEmpty_iff.1 ht
  subst ht0;have HD:=Lh hd;clear hd ht;go_wp2_with (go_at_call 193;refine (Mk (rest l) _).mono ?_;rintro e w2 ⟨rfl,hb2⟩)
  all_goals go_ret2
  ·have hn:TC l=true:=by assumption
   exact⟨B7 (str_eq (Ml HD.out).symm) (by rw[Iv HD.out,hn];simp),bto hb1 hb2⟩
  ·have hn:TC l=false:=by rename_i h;simpa using h
   exact⟨B7 (str_eq (Ml HD.out).symm) (by rw[Iv HD.out,hn];simp),bto hb1 hb2⟩
 ·have hd':(rest l).all Z5=false:=by simpa using hd
  have ht0:t.isEmpty=false:=by rw[ht,hd']
  have ht1:(!t.isEmpty)=true:=by rw[ht0];rfl
  have HD:=Lh hd';clear hd ht hd';go_wp2_with fail;go_ret2;exact⟨B7 (str_eq (Iu HD.out).symm) (by rw[B6 HD.out];rfl),hb1⟩
def Mag (w:World) (base:Nat) (v:Value) (m:Nat):Prop:=w.ownsRow base 207 1 v (grp m).length (U (grp m))
theorem Mag.form {w:World} {base:Nat} {v:Value} {m:Nat} (h:Mag w base v m):∃A c,v=.slice A (grp m).length c:=by
 rcases h.2 with ⟨rfl,h0⟩|⟨g,cap,cur,rfl,_⟩
 ·exact⟨none,0,by rw[h0]⟩
 ·exact⟨_,_,rfl⟩
theorem UP {w:World} {base n:Nat} {v:Value} {l:List Nat} {m:Nat} (h:w.ownsRow base 207 1 v n (U l)) (hl:l=grp m):Mag w base v m:=by
 subst hl;have h1:(grp m).length=n:=by have:=h.1;simpa using this
 subst h1;exact h
theorem Mag.below {w w':World} {base:Nat} {v:Value} {m:Nat} (h:Mag w base v m) (hb:Below w.heap.size w w'):Mag w' base v m:=own_below h hb
theorem Mag.base {w:World} {base base':Nat} {v:Value} {m:Nat} (h:Mag w base v m) (hb:base'<=base):Mag w base' v m:=YC h hb
theorem Ec (t:List UInt8) (h0:t≠[]) (hd:t.all Z5=true) (hh:t.head?≠some 48):grp (nat t)=nat (t.drop (t.length-9))::grp (nat (t.take (t.length-9))):=by
 have h1:=Nz (t.length+1) t (by omega) hd hh
 rw[<-h1,Ir,if_neg h0];congr 1;apply Nz
 ·simp
 ·rw[List.all_eq_true] at *;intro x hx;exact hd x (List.mem_of_mem_take hx)
 ·cases t with
  | nil=>simp at h0
  | cons a t=>
   cases h:(a::t).length-9 with
   | zero=>simp
   | succ k=>simpa using hh
theorem Mm (l:List UInt8) (a b:Nat):(⟨l.toArray⟩:ByteArray).extract a b=⟨((l.take b).drop a).toArray⟩:=by
 apply ByteArray.ext;apply Array.ext';rw[Lib.extract_data];simp only;rw[List.drop_take]
theorem Gv {s:List UInt8} {G:List Nat} {e:Nat} (he:0<e) (hl:e<=s.length) (hd:s.all Z5=true) (hh:s.head?≠some 48) (h:G++grp (nat (s.take e))=grp (nat s)) :
  (G++[nat ((s.take e).drop (e-9))])++grp (nat (s.take (e-9)))=grp (nat s):=by
 have hlen:(s.take e).length=e:=by simp;omega
 have h1:=Ec (s.take e) (by intro h0;rw[h0] at hlen;simp at hlen;omega) (by rw[List.all_eq_true] at *;intro x hx;exact hd x (List.mem_of_mem_take hx)) (by
  cases s with
  | nil=>simp
  | cons a t=>cases e with
   | zero=>omega
   | succ k=>simpa using hh)
 rw[hlen,List.take_take,Nat.min_eq_left (by omega)] at h1
 rw[<-h,h1];simp
theorem Ed (l:List UInt8) (w:World) (hl:l.length<=1000000000) :
  Calls prog 55 #[.string ⟨l.toArray⟩] w fun e w'=>∃v,e=.returned (.agg #[.bool (Z1 l),v])/\Mag w' w.heap.size v (val l).natAbs/\Below w.heap.size w w':=by
 obtain⟨i0,hi,hz0,hz1,hz2⟩:=info_parts UO;obtain⟨s,hs⟩:∃s,s=WH l:=⟨_,rfl⟩
 have HN:Hid (nat s=(val l).natAbs):=by show _=_;rw[hs,VU,Mc]
 have hsd:s.all Z5=true:=by rw[hs,VU];exact UN _
 have hsh:s.head?≠some 48:=by rw[hs,VU];exact M4 _
 have hsl:s.length<=1000000000:=by
  refine Nt ?_ hl;rw[hs];unfold WH sig
  split
  ·exact Nt (List.dropWhile_sublist _).length_le (P8 l)
  ·simp
 have HSD:=Lh hsd;have HSH:=Lh hsh;have HS:=Lh hs;clear hsd hsh hs;go_enter func55,ntmps55;go_wp2_with (go_at_call 128;refine (TW l _ hl).mono ?_;rintro e w1 ⟨he,hb1⟩;rw[<-HS.out] at he;subst he);have hz1':=hb1.size;simp only[World.size_alloc] at hz1' hb1
 go_loopw [5,6] (fun v i wr=>∃(z:Int) (G:List Nat) (A:Option Addr) (c:Nat),v=.slice A G.length c/\i=.int .i64 z/\-9<z/\9*(G.length:Int)+z<=s.length/\wr.ownsRow (w.heap.size+1) 207 1 (.slice A G.length c) G.length (U G)/\Hid (G++grp (nat (s.take z.toNat))=grp (nat s))/\Below (w.heap.size+1) w1 wr) (fun _ i _=>(intOf i+9).toNat)
 case atStart=>exact⟨_,[],none,0,rfl,rfl,by omega,by simp,World.ownsRow_nil _ _ _ _,by show _=_;simp,Below.refl _ _⟩
 case round=>
  obtain⟨z,G,A,c,rfl,rfl,hz,hGl,hown,HG,hbw⟩:=hrel;have hblk:=B4 (hb1.trans hbw);have c0:wr.cell? ⟨w.heap.size,0,none⟩=some (.bool false):=Zk hblk 0;have c1:wr.cell? ⟨w.heap.size,1,none⟩=some (.slice none 0 0):=Zk hblk 1;have f0:=Zt hblk 0;have f1:=Zt hblk 1;clear hblk
  by_cases hz0':z<=0
  ·clear hi hz0 hz1 hz2 i0;go_wp2;refine bodyPost_ret (v:=.agg #[.bool (Z1 l),.slice A G.length c]) (by simp[results,results55,go_sem,c0,c1]) rfl ?_
   have hG:G=grp (val l).natAbs:=by
    have h1:=HG.out;rw[show z.toNat=0 by omega,List.take_zero,Ip,Vw,List.append_nil,HN.out] at h1
    exact h1
   subst hG;have hbb:Below w.heap.size w wr:=Vy (hb1.trans hbw);refine⟨_,rfl,?_,(hbb.setCell (p:=⟨w.heap.size,0,none⟩) (Nl _) _).setCell (p:=⟨w.heap.size,1,none⟩) (Nl _) _⟩;exact YC (ownsRow_setCell_below (a:=⟨w.heap.size,1,none⟩) (ownsRow_setCell_below (a:=⟨w.heap.size,0,none⟩) hown (Nat.lt_succ_self _) _) (Nat.lt_succ_self _) _) (Nat.le_succ _)
  ·obtain⟨e,rfl⟩:∃e:Nat,z=e:=⟨z.toNat,by omega⟩
   obtain⟨t,ht⟩:∃t,t=(s.take e).drop (e-9):=⟨_,rfl⟩
   have hx:(⟨s.toArray⟩:ByteArray).extract (max 0 ((e:Int)-9)).toNat e=⟨t.toArray⟩:=by rw[Mm,ht,show (max 0 ((e:Int)-9)).toNat=e-9 by omega]
   have HT:=Lh ht;have htl:t.length<=9:=by rw[ht];simp;omega
   have ht0:t≠[]:=by intro h0;rw[h0] at ht;have:=congrArg List.length ht;simp at this;omega
   have htd:t.all Z5=true:=by
    rw[ht,List.all_eq_true];intro x hx';exact (List.all_eq_true.1 HSD.out) x (List.mem_of_mem_take (List.mem_of_mem_drop hx'))
   have HT0:=Lh ht0;have HTD:=Lh htd;clear ht ht0 htd;have hz2':=hbw.size
   go_wp2_with (first
    | (go_at_call 129;refine (Gu t _ HT0.out HTD.out htl).mono ?_;rintro e1 w2 ⟨rfl,hb2⟩;have hown2:=own_below hown hb2;have hz3:=hb2.size)
    | (at_builtin;refine wpList_append_own _ rfl _ _ 120 rfl (w.heap.size+1) 207 i0 (.int .u64 0) 1 8 underlying120 hi hz0 hz1 hz2 rfl (by decide) _ _ _ rfl (hown2.alloc _) ⟨w2.heap.size,0,none⟩ 1 1 [.int .u64 (nat t:Nat)] rfl rfl ?c1 ?c2 ?c3 ?c4 ?c5 ?_))
   case c1=>exact cell_one_new _ _ _
   case c2=>intro u hu;simp at hu;subst hu;rfl
   case c3=>unfold maxLen;omega
   case c4=>omega
   case c5=>simp;omega
   intro v' w3 hown' hgrow _;have hb3:Below (w.heap.size+1) w1 w3:=(((hbw.trans (hb2.mono (by omega))).alloc (by omega) _).grown hgrow (by simp;omega) (W7 hown))
   obtain⟨A',c',rfl⟩:=P4 hown';have HT':Hid ((G++[nat t])++grp (nat (s.take (e-9)))=grp (nat s)):=by
    show _=_;have h1:=HG.out;rw[Int.toNat_natCast] at h1;rw[HT.out];exact Gv (by omega) (by omega) HSD.out HSH.out h1
   clear hown hown2 hgrow hb2 c0 c1 f0 f1 hx;go_wp2;go_roundw
   case rel=>exact⟨(e:Int)-9,G++[nat t],A',c',by simp,rfl,by omega,by simp;omega,by simpa using hown',by rw[show ((e:Int)-9).toNat=e-9 by omega];exact HT',hb3⟩
   case measure=>simp[intOf];omega
def sgn (neg:Bool) (n:Nat):Int:=if neg then -(n:Int) else n
theorem Qn (l:List Nat):YJ l=l.take (YJ l).length:=by
 obtain⟨k,hk⟩:∃k,k=l.length:=⟨_,rfl⟩
 induction k generalizing l with
 | zero=>
  have:l=[]:=List.eq_nil_of_length_eq_zero hk.symm
  subst this;rfl
 | succ k ih=>
  rcases List.eq_nil_or_concat l with rfl|⟨m,b,rfl⟩
  ·rfl
  ·simp only[List.concat_eq_append] at *
   by_cases hb:b=0
   ·subst hb;have h1:=ih m (by simp at hk;omega)
    rw[XJ];have hle:(YJ m).length<=m.length:=by rw[h1];simp;omega
    rw[List.take_append_of_le_length hle];exact h1
   ·rw[VW _ _ hb,List.take_of_length_le (Nl _)]
theorem Ul {w:World} {base n c:Nat} {A:Option Addr} {l:List Nat} {e:TypeId} (h:w.ownsRow base e 1 (.slice A n c) n (U l)) :
  w.ownsRow base e 1 (.slice A (YJ l).length c) (YJ l).length (U (YJ l)):=by
 have hl:=ZG h;have h1:=Qn l;have hle:(YJ l).length<=l.length:=by rw[h1];simp;omega
 by_cases hA:A=none
 ·rcases h.2 with ⟨_,h0⟩|⟨g,cap,cur,hv,_⟩
  ·have:l=[]:=List.eq_nil_of_length_eq_zero (by omega)
   subst this;subst h0;exact h
  ·injection hv with h5;rw[hA] at h5;cases h5
 ·have h2:=M7 h (k:=(YJ l).length) (by omega) hA
  rw[<-h1] at h2;exact h2
def Bld (B b:Nat) (bs:List UInt8) (w:World):Prop:=Lib.IsBuilder 216 5 B b (Lib.byteCells bs) w
theorem UE {w w':World} {B b:Nat} {p:Value} {bs:List Value} {T e:TypeId} (h:Lib.BuilderAt T e B b p bs w) (hb:Below w.heap.size w w'):Lib.BuilderAt T e B b p bs w':=by
 have hlt:=h.lt;obtain⟨h1,v,h2,h3,h4⟩:=h;exact⟨h1,v,(hb.block b hlt).trans h2,own_below h3 hb,h4⟩
theorem Bld.below {w w':World} {B b:Nat} {bs:List UInt8} (h:Bld B b bs w) (hb:Below w.heap.size w w'):Bld B b bs w':=by
 rcases h with h|h
 ·exact .inl (UE h hb)
 ·exact .inr (UE h hb)
theorem B8 (w:World):Bld w.heap.size w.heap.size [] (w.alloc (.cells #[.pointer none,.slice none 0 0] 216)):=
 .inl ⟨Nl _,_,heap_alloc_new w _,World.ownsRow_nil _ _ _ _,by simp[Value.ownBlock]⟩
theorem Gw (B b:Nat) (bs:List UInt8) (w:World) (h:Bld B b bs w) (hlen:bs.length<=100000000000) (hBw:B<=w.heap.size) :
  Calls prog 131 #[.pointer (some ⟨b,0,none⟩),.int .u8 45] w fun e w'=>e=.returned .nilIface/\Bld B b (bs++[45]) w'/\Below B w w':=by
 refine (Tryz.Builder_WriteByte B b (Lib.byteCells bs) 45 w h (by rw[Lib.byteCells_length];omega) hBw).mono ?_
 rintro e w' ⟨rfl,h1,h2⟩;refine⟨rfl,.inr ?_,h2⟩
 have:Lib.byteCells (bs++[45])=Lib.byteCells bs++[.int .u8 45]:=by simp[Lib.byteCells]
 rw[this];exact h1
theorem Ld (B b:Nat) (bs t:List UInt8) (w:World) (h:Bld B b bs w) (hlen:bs.length<=100000000000) (ht:t.length<=100000000000) (hBw:B<=w.heap.size) :
  Calls prog 132 #[.pointer (some ⟨b,0,none⟩),.string ⟨t.toArray⟩] w fun e w'=>e=.returned (.tuple #[.int .i64 t.length,.nilIface])/\Bld B b (bs++t) w'/\Below B w w':=by
 refine (Tryz.Builder_WriteString B b (Lib.byteCells bs) ⟨t.toArray⟩ w h (by rw[Lib.byteCells_length];show bs.length+t.toArray.size<=_;simp;omega) hBw).mono ?_
 rintro e w' ⟨rfl,h1,h2⟩;refine⟨by simp[ByteArray.size],.inr ?_,h2⟩
 have:Lib.byteCells (bs++t)=Lib.byteCells bs++Lib.strCells ⟨t.toArray⟩:=by simp[Lib.byteCells,Lib.strCells]
 rw[this];exact h1
theorem Le (B b:Nat) (bs:List UInt8) (w:World) (h:Bld B b bs w) (hBw:B<=w.heap.size) :
  Calls prog 135 #[.pointer (some ⟨b,0,none⟩)] w fun e w'=>e=.returned (.string ⟨bs.toArray⟩)/\Below B w w':=Tryz.Builder_String_any B b bs w h hBw
theorem Iw (x y:List UInt8) (hx:x.length<=1000000) (hy:y.length<=1000000) (W:World):(Op.stringOp .add ⟨x.toArray⟩ ⟨y.toArray⟩).run prog W=.ok (.string ⟨(x++y).toArray⟩) W:=by
 have:=run_string_add_lists (P:=prog) W x y (by omega) (by omega)
 exact this
theorem Gx (neg:Bool) (A:Option Addr) (n c:Nat) (l:List Nat) (w:World) (base:Nat) (h:w.ownsRow base 207 1 (.slice A n c) n (U l)) (h0:YJ l=[]) :
  Calls prog 56 #[.agg #[.bool neg,.slice A n c]] w fun e w'=>e=.returned (.string ⟨#[]⟩)/\Below w.heap.size w w':=by
 have h':=own_below h ((Below.refl _ w).alloc (Nl _) (.cells #[.bool neg,.slice A n c] 122));have hl0:(YJ l).length=0:=by rw[h0];rfl
 go_enter func56,ntmps56;go_wp2_with (go_at_call 130;refine (VL A n c l _ base h').mono ?_;rintro e w1 ⟨rfl,rfl⟩);go_ret;exact⟨rfl,(Below.refl _ _).alloc (Nl _) _⟩
theorem B9 (l:List Nat) (hs:small l):(txt l).length<=9*l.length:=by
 induction l with
 | nil=>simp[txt]
 | cons g l ih=>
  have hg:g<10 ^ 9:=hs g (by simp)
  have:=ih (fun x hx=>hs x (by simp[hx]))
  simp only[txt,List.length_cons]
  split
  ·have:=Uk g 9 (by omega) hg;omega
  ·rw[List.length_append,B0 9 g (by omega) hg];omega
def pre (neg:Bool):List UInt8:=if neg then [45] else []
theorem Ac (neg:Bool):(pre neg).length<=1:=by cases neg<;>simp[pre]
theorem Gy (neg:Bool) (l:List Nat) (hs:small l) (h0:YJ l≠[]):pre neg++txt (YJ l)=canon (sgn neg (gv l)):=by
 have h1:=B3 _ (TV l hs) (Ny l);rw[Md] at h1;rw[h1];have h2:gv l≠0:=by
  intro e;rw[WY l hs,e] at h0;exact h0 rfl
 cases neg
 ·unfold pre sgn canon;simp only[Bool.false_eq_true,if_false,List.nil_append];rw[if_neg (by omega)];simp
 ·unfold pre sgn canon;simp only[if_true];rw[if_pos (by omega)];simp
theorem Ee (g:List Nat) (k x:Nat) (h:g[k]?=some x) (hk:k+1<g.length):txt (g.drop k)=txt (g.drop (k+1))++pad 9 x:=by
 obtain⟨h1,rfl⟩:=Lg.1 h;exact F0 g k hk
theorem Ef (neg:Bool) (A:Option Addr) (n c:Nat) (l:List Nat) (w:World) (base:Nat) (h:w.ownsRow base 207 1 (.slice A n c) n (U l)) (hs:small l) (hG:Yb w) (hn:n<=1000000000) (h0:YJ l≠[]) :
  Calls prog 56 #[.agg #[.bool neg,.slice A n c]] w fun e w'=>e=.returned (.string ⟨(pre neg++txt (YJ l)).toArray⟩)/\Below w.heap.size w w':=by
 have hbox:=(Below.refl w.heap.size w).alloc (Nl _) (.cells #[.bool neg,.slice A n c] 122);have h':=own_below h hbox;have hcz:=Ul h;have hlen:=ZG h;obtain⟨g,hg⟩:∃g,g=YJ l:=⟨_,rfl⟩
 have hgs:small g:=by rw[hg];exact TV l hs
 have hgl:g.length<=1000000000:=by
  have:=congrArg List.length (Qn l)
  rw[List.length_take,<-hg] at this;omega
 rw[<-hg] at hcz h0 ⊢;have hg1:1<=g.length:=List.length_pos_iff.2 h0;have Hg:=Lh hg;clear hg;obtain⟨hc1,hc2⟩:=Xk hcz;unfold maxLen at hc2;have HG:=Lh hG;have HGS:=Lh hgs;clear hG hgs h0 hs hlen;go_enter func56,ntmps56
 go_upto_if 14 with (go_at_call 130;refine (VL A n c l _ base h').mono ?_;rintro e w1 ⟨he,rfl⟩;rw[<-Hg.out] at he;subst he)
 go_cut [] (fun wx=>Bld (w.heap.size+1) (w.heap.size+1) (pre neg) wx/\Below (w.heap.size+1) (w.alloc (.cells #[.bool neg,.slice A n c] 122)) wx)
 case first=>
  have hbn:=B8 (w.alloc (.cells #[.bool neg,.slice A n c] 122));simp only[World.size_alloc] at hbn;cases neg
  ·go_wp2_with fail
   go_meet
   exact⟨hbn,(Below.refl _ _).alloc (by simp) _⟩
  ·go_wp2_with (go_at_call 131;refine (Gw _ _ _ _ hbn (by simp) (by simp)).mono ?_;rintro e w2 ⟨rfl,hbn2,hb2⟩)
   go_meet
   exact⟨hbn2,((Below.refl _ _).alloc (by simp) _).trans hb2⟩
 case rest=>
  obtain⟨hbd,hbw⟩:=hcut;have hbw':=Vy hbw;have hown:=own_below hcz hbw';have hGc:=HG.out.below hbw';have hz:=hbw.size;simp only[World.size_alloc] at hz;have hpl:=Ac neg;obtain⟨ga,x,rfl,hx,_,_,hcell,_⟩:=Wh hown (k:=g.length-1) (by omega)
  have hxb:x<1000000000:=HGS.out x (Lm hx);have HX:=Lh hx;have HF:Hid (pre neg++fmt x=pre neg++txt (g.drop (g.length-1))):=by show _=_;rw[F2 g x HX.out]
  have hfl:=Uk x 9 (by omega) hxb
  clear hx hown;have HH:=Lh h;have HH':=Lh h';have HCZ:=Lh hcz;clear h h' hcz
  go_wp2_with (first
   | (go_at_call 133;refine (P7 x (by omega) _ hGc).mono ?_;rintro e w2 ⟨rfl,hb2⟩;have hbd2:=hbd.below hb2;have hz2:=hb2.size)
   | (go_at_call 132;refine (Ld _ _ _ _ _ hbd2 (by omega) (by omega) (by omega)).mono ?_;rintro e w3 ⟨rfl,hbd3,hb3⟩;have hz3:=hb3.size))
  rw[HF.out] at hbd3;have hb3':Below (w.heap.size+1) (w.alloc (.cells #[.bool neg,.slice (some ⟨ga,0,none⟩) n c] 122)) w3:=(hbw.trans (hb2.mono (by omega))).trans hb3
  clear hbd hbd2 hb2 hb3 hbw hcell hGc hbw';clear HX HF hxb hfl
  go_loopw [5] (fun i wr=>∃k:Nat,k+1<=g.length/\i=.int .i64 ((k:Int)-1)/\Bld (w.heap.size+1) (w.heap.size+1) (pre neg++txt (g.drop k)) wr/\Below (w.heap.size+1) (w.alloc (.cells #[.bool neg,.slice (some ⟨ga,0,none⟩) n c] 122)) wr) (fun i _=>(intOf i+1).toNat)
  case atStart=>exact⟨g.length-1,by omega,by congr 1;omega,hbd3,hb3'⟩
  case round=>
   obtain⟨k,hk,rfl,hbd,hbw⟩:=hrel;clear hbd3 hb3' hz hz2 hz3;have hbw':=Vy hbw;have hz:=hbw.size;simp only[World.size_alloc] at hz
   by_cases hk0:k=0
   ·subst hk0;have HT:Hid ((pre neg++txt (g.drop 0))=pre neg++txt g):=by show _=_;rw[List.drop_zero]
    rw[HT.out] at hbd;go_wp2_with (go_at_call 135;refine (Le _ _ _ _ hbd (by omega)).mono ?_;rintro e w4 ⟨rfl,hb4⟩)
    go_ret;exact⟨rfl,hbw'.trans (hb4.mono (by omega))⟩
   ·obtain⟨j,rfl⟩:∃j,k=j+1:=⟨k-1,by omega⟩
    have hown:=own_below HCZ.out hbw';have hGc:=HG.out.below hbw';obtain⟨ga',x',hga,hx,_,_,hcell,_⟩:=Wh hown (k:=j) (by omega)
    obtain rfl:ga'=ga:=by injection hga with h1;injection h1 with h2;exact h2.symm
    have hxb:x'<1000000000:=HGS.out x' (Lm hx);have HT:Hid ((pre neg++txt (g.drop (j+1)))++(List.replicate (9-(fmt x').length) 48++fmt x')=pre neg++txt (g.drop j)):=by
     show _=_;rw[Ee g j x' hx (by omega),List.append_assoc];rfl
    have hfl:=Uk x' 9 (by omega) hxb
    have htl:=B9 (g.drop (j+1)) (Uj HGS.out _);rw[List.length_drop] at htl;have hadd:=Iw (List.replicate (9-(fmt x').length) 48) (fmt x') (by simp;omega) (by omega)
    clear hx hown hga
    go_wp2_with (first
     | (go_at_call 133;refine (P7 x' (by omega) _ hGc).mono ?_;rintro e w2 ⟨rfl,hb2⟩;have hbd2:=hbd.below hb2;have hz2:=hb2.size)
     | (go_at_call 134;refine (Ja _ (9-(fmt x').length) _ (by omega) (by omega)).mono ?_;rintro e w3 ⟨rfl,hb3⟩;have hbd3:=hbd2.below hb3;have hz3:=hb3.size)
     | (go_at_call 132;refine (Ld _ _ _ _ _ hbd3 (by simp;omega) (by simp;omega) (by omega)).mono ?_;rintro e w4 ⟨rfl,hbd4,hb4⟩))
    go_roundw
    case rel=>exact⟨j,by omega,by go_num,by rw[<-HT.out];exact hbd4,((hbw.trans (hb2.mono (by omega))).trans (hb3.mono (by omega))).trans hb4⟩
    case measure=>simp[intOf]
theorem Eg (neg:Bool) (A:Option Addr) (n c:Nat) (l:List Nat) (w:World) (base:Nat) (h:w.ownsRow base 207 1 (.slice A n c) n (U l)) (hs:small l) (hG:Yb w) (hn:n<=1000000000) :
  Calls prog 56 #[.agg #[.bool neg,.slice A n c]] w fun e w'=>e=.returned (.string ⟨(canon (sgn neg (gv l))).toArray⟩)/\Below w.heap.size w w':=by
 by_cases h0:YJ l=[]
 ·have hv:gv l=0:=by rw[<-Md,h0];rfl
  have hz:canon (sgn neg (gv l))=[]:=by rw[hv];cases neg<;>rfl
  rw[hz];exact Gx neg A n c l w base h h0
 ·rw[<-Gy neg l hs h0];exact Ef neg A n c l w base h hs hG hn h0
def P9 (l l' ps:List Nat) (k c:Nat):Prop:=ps.length=k/\small ps/\gv ps+BASE ^ k*c=gv (l.take k)+gv (l'.take k)
theorem P9.step {l l' ps:List Nat} {k c x t:Nat} (h:P9 l l' ps k c) (hx:l[k]?=some x) (y:Nat) (hy:l'[k]?=some y∨(l'.length<=k/\y=0)) (ht:t=x+c+y):P9 l l' (ps++[t % BASE]) (k+1) (t / BASE):=by
 obtain⟨h1,h2,h3⟩:=h;refine⟨by simp[h1],Xv h2 (Nat.mod_lt _ (by decide)),?_⟩
 rw[Ww,h1,Xf hx,Nat.pow_succ,Gk _ _ _ _ _ _ _ h3 ht];rcases hy with hy|⟨hl,rfl⟩
 ·rw[Xf hy];omega
 ·rw[QX hl];omega
theorem Eh {ps:List Nat} {x y k cy:Nat} (hs:small ps) (hl:ps.length=(grp x).length) (h:gv ps+BASE ^ k*cy=x+y) (hk:(grp x).length=k) (hcb:cy<BASE):(if cy=0 then ps else ps++[cy])=grp (x+y):=by
 by_cases hc:cy=0
 ·subst hc;rw[if_pos rfl];have h1:gv ps=x+y:=by simpa using h
  have h2:=WY ps hs;rw[h1] at h2;have h3:=ZD x (x+y) (by omega)
  rw[<-h2] at h3 ⊢;have h4:=Qn ps;rw[List.take_of_length_le (by omega)] at h4
  exact h4.symm
 ·rw[if_neg hc];rw[<-h,<-hk,<-hl,<-Ww,KZ _ (Xv hs hcb) (by simp[norm,hc])]
theorem Oc (A A':Option Addr) (n c n' c':Nat) (a b:Nat) (w:World) (base base':Nat) (h:w.ownsRow base 207 1 (.slice A n c) n (U (grp a))) (h':w.ownsRow base' 207 1 (.slice A' n' c') n' (U (grp b)))
  (hn:n<=1000000000) (hn':n'<=1000000000) :
  Calls prog 125 #[.slice A n c,.slice A' n' c'] w fun e w'=>∃v,e=.returned v/\Mag w' w.heap.size v (a+b)/\Below w.heap.size w w':=by
 obtain⟨i0,hi,hz0,hz1,hz2⟩:=info_parts UO;go_enter func125,ntmps125
 go_upto_if 12 with fail
 go_cut [0,1] (fun v0 v1 wx=>w=wx/\∃(A A':Option Addr) (n c n' c' x y base base':Nat),v0=.slice A n c/\v1=.slice A' n' c'/\n'<=n/\n<=1000000000/\Hid (x+y=a+b)/\w.ownsRow base 207 1 (.slice A n c) n (U (grp x))/\w.ownsRow base' 207 1 (.slice A' n' c') n' (U (grp y)))
 case first=>
  by_cases hlt:n<n'
  ·go_wp2_with fail
   go_meet
   exact⟨rfl,A',A,n',c',n,c,b,a,base',base,rfl,rfl,by omega,by omega,Nat.add_comm b a,h',h⟩
  ·go_wp2_with fail
   go_meet
   exact⟨rfl,A,A',n,c,n',c',a,b,base,base',rfl,rfl,by omega,by omega,rfl,h,h'⟩
 case rest=>
  clear h h' hn hn';obtain⟨rfl,A,A',n,c,n',c',x,y,base,base',rfl,rfl,hnn,hn,HXY,h,h'⟩:=hcut;have hmk:=fun W=>Sj 120 underlying120 n (n+1) ((n:Int)+1) (by omega) (by omega) (by omega) W
  have hl:=ZG h;have hl':=ZG h';have HL:=Lh hl;have HL':=Lh hl';have HZ:=Lh (Sk w (n+1));have HB:Hid (Below w.heap.size w (w.alloc (Gl (n+1)))):=(Below.refl _ _).alloc (Nl _) _;have HO:=Lh (own_below h HB.out);have HH:=Lh h;have HH':=Lh h';clear hl hl' h h';go_wp2_with (refine M9 rfl (.tmp 21) (.tmp 22) 120 rfl underlying120 A w.heap.size n c (n+1) base (grp x) rfl rfl HO.out HZ.out (Nat.le_succ _) w.heap.size w HB.out (Nl _) ?_;intro w2 hrow0 hb2)
  clear hmk
  go_loopw [6,26] (fun cv i wr=>∃(k cy:Nat) (ps:List Nat),k<=n/\i=.int .i64 k/\cv=.int .u64 (cy:Int)/\cy<=1/\Hid (P9 (grp x) (grp y) ps k cy)/\Row wr w.heap.size (ps++((grp x).drop k++[0]))/\Below w.heap.size w wr) (fun _ i _=>n-(intOf i).toNat)
  case atStart=>
   refine⟨0,0,[],by omega,rfl,rfl,by omega,⟨rfl,fun x hx=>by simp at hx,by simp[gv]⟩,?_,hb2⟩
   rw[show n+1-n=1 by omega] at hrow0
   exact hrow0
  case round=>
   clear hrow0 hb2;obtain⟨k,cy,ps,hk,rfl,rfl,hcy,HP,hrow,hbw⟩:=hrel
   by_cases hkn:k<n
   ·obtain⟨xk,hxk⟩:∃xk,(grp x)[k]?=some xk:=⟨_,List.getElem?_eq_getElem (by rw[HL.out];exact hkn)⟩
    have hxb:xk<1000000000:=ZT x xk (Lm hxk);have hcell:=hrow.cell (F3 (t:=[0]) HP.out.1 hxk);have hfr:=hrow.frozen k;have HX:=Lh hxk;have HR:=Lh hrow;clear hxk hrow
    by_cases hkn':k<n'
    ·obtain⟨g',yk,rfl,hyk,hgl,hcell'⟩:=Xl HH'.out hbw hkn';have HY:=Lh hyk;have hyb:yk<1000000000:=ZT y yk (Lm hyk);have hne:¬g'=w.heap.size:=by omega
     have hne':¬w.heap.size=g':=by omega
     clear hyk;go_wp2
     go_region
     all_goals go_wp2
     all_goals go_roundw
     case rel=>
      refine⟨k+1,(xk+cy+yk) / 1000000000,ps++[(xk+cy+yk) % 1000000000],by omega,by go_num,congrArg (Value.int .u64) (by omega),by omega,HP.out.step HX.out yk (.inl HY.out) rfl,?_,(((hbw.setCell (p:=⟨w.heap.size,k,none⟩) (Nl _) _).setCell (p:=⟨w.heap.size,k,none⟩) (Nl _) _).setCell (p:=⟨w.heap.size,k,none⟩) (Nl _) _).drew⟩
      have h1:=((HR.out.setI k (xk+cy) (z:=(xk:Int)+cy) (by omega)).setI k (xk+cy+yk) (z:=(xk:Int)+cy+yk) (by omega)).setI k ((xk+cy+yk) % 1000000000) (z:=((xk:Int)+cy+yk) % 1000000000) (by omega)
      rw[List.set_set,List.set_set,Tg HP.out.1 (by rw[HL.out];omega)] at h1
      exact h1.drew
     case measure=>simp[intOf];omega
    ·go_wp2;go_roundw
     case rel=>
      refine⟨k+1,(xk+cy) / 1000000000,ps++[(xk+cy) % 1000000000],by omega,by go_num,congrArg (Value.int .u64) (by omega),by omega,HP.out.step HX.out 0 (.inr ⟨by rw[HL'.out];omega,rfl⟩) rfl,?_,(hbw.setCell (p:=⟨w.heap.size,k,none⟩) (Nl _) _).setCell (p:=⟨w.heap.size,k,none⟩) (Nl _) _⟩
      have h1:=(HR.out.setI k (xk+cy) (z:=(xk:Int)+cy) (by omega)).setI k ((xk+cy) % 1000000000) (z:=((xk:Int)+cy) % 1000000000) (by omega)
      rw[List.set_set,Tg HP.out.1 (by rw[HL.out];omega)] at h1
      exact h1
     case measure=>simp[intOf];omega
   ·obtain rfl:k=n:=by omega
    have hd:(grp x).drop k=[]:=List.drop_of_length_le (by rw[HL.out];omega)
    rw[hd,List.nil_append] at hrow;obtain⟨hp1,hp2,hp3⟩:=HP.out;have hown:=hrow.own (base:=w.heap.size) (n:=k) (Nl _) (by simp;omega) (by simp;unfold maxLen;omega)
    have e1:(ps++[0]).length=k+1:=by simp;omega
    have e2:(ps++[0]).take k=ps:=by rw[List.take_append_of_le_length (by omega),List.take_of_length_le (by omega)]
    rw[e1,e2] at hown;have hgv:gv ps+BASE ^ k*cy=x+y:=by
     rw[hp3,List.take_of_length_le (by rw[HL.out];omega),List.take_of_length_le (by rw[HL'.out];omega),YQ,YQ]
    have hfin:=Eh (x:=x) (y:=y) hp2 (by rw[hp1,HL.out]) hgv (by rw[HL.out]) (by unfold BASE;omega)
    rw[HXY.out] at hfin;have HF:=Lh hfin;clear hfin hgv e1 e2 hp1 hp2 hp3 hd
    by_cases hc0:cy=0
    ·subst hc0;clear hi hz0 hz1 hz2 i0;go_wp2;go_ret;exact⟨_,rfl,UP hown HF.out,hbw⟩
    ·have hz:=hbw.size;go_wp2_with (at_builtin;refine wpList_append_own _ rfl _ _ 120 rfl w.heap.size 207 i0 (.int .u64 0) 1 8 underlying120 hi hz0 hz1 hz2 rfl (by decide) _ _ _ rfl (hown.alloc _) ⟨wr.heap.size,0,none⟩ 1 1 [.int .u64 (cy:Int)] rfl rfl ?c1 ?c2 ?c3 ?c4 ?c5 ?_)
     case c1=>exact cell_one_new _ _ _
     case c2=>intro u hu;simp at hu;subst hu;rfl
     case c3=>unfold maxLen;omega
     case c4=>omega
     case c5=>simp;omega
     intro v' w3 hown' hgrow _;have hb3:Below w.heap.size w w3:=(hbw.alloc (by omega) _).grown hgrow (by simp;omega) (W7 hown)
     have hmag:Mag w3 w.heap.size v' (a+b):=by
      refine UP (l:=ps++[cy]) (by simpa using hown') ?_
      have:=HF.out
      rwa [if_neg hc0] at this
     clear hown hown' hgrow;go_wp2;go_ret;exact⟨_,rfl,hmag,hb3⟩
theorem Gz (A:Option Addr) (n c:Nat) (l:List Nat) (w:World) (base:Nat) (h:w.ownsRow base 207 1 (.slice A n c) n (U l)) (hn:n<=1000000000) :
  Calls prog 190 #[.slice A n c] w fun e w'=>∃v,e=.returned v/\w'.ownsRow w.heap.size 207 1 v n (U l)/\Below w.heap.size w w':=by
 obtain⟨i0,hi,hz0,hz1,hz2⟩:=info_parts UO;have hl:=ZG h;have q:∀(w:World) (a:Option Addr) (n c n' c':Nat),(binOp .eql 120 (.slice a n c) (.slice none n' c')).run prog w=.ok (.bool a.isNone) w:=fun w a n c n' c'=>Lib.run_eql_slice_nil w _ _ a n c n' c' underlying120
 rcases h.2 with ⟨hv,h0⟩|⟨g,cap,cur,hv,hbg,hh,_⟩
 ·injection hv with h1 h2 h3
  subst h1 h2 h3
  have:l=[]:=List.eq_nil_of_length_eq_zero (by omega)
  subst this;clear hi hz0 hz1 hz2 i0 hl h0 h;go_enter func190,ntmps190;go_wp2;go_ret;exact⟨_,rfl,World.ownsRow_nil _ _ _ _,Below.refl _ _⟩
 ·injection hv with hA _ hc'
  subst hA hc';have hgl:=(Ag.1 hh).1;have hcell:∀j u,(U l)[j]?=some u->(w.alloc (.cells #[] 207)).cell? ((⟨g,0,none⟩:Addr).add j)=some u:=by
   intro j u hj;rw[Lib.add_plain,Nat.zero_add,World.cell?_alloc_lt _ _ _ hgl,h.cellAt j (by have:=(Lg.1 hj).1;simp at this;omega)]
   exact hj
  have HC:=Lh hcell;have HN:Hid ((U l).length=n*1):=by show _=_;simp[hl]
  clear hcell h hh hl;go_enter func190,ntmps190;go_wp2_with (at_builtin;refine wpList_append_own _ rfl _ _ 120 rfl w.heap.size 207 i0 (.int .u64 0) 1 8 underlying120 hi hz0 hz1 hz2 rfl (by decide) _ _ _ rfl (World.ownsRow_made w #[] 0 (Nl _) (Nat.zero_le _) (by simp)) ⟨g,0,none⟩ n c (U l) rfl HN.out HC.out (ZaY l) ?c3 ?c4 ?c5 ?_)
  case c3=>unfold maxLen;omega
  case c4=>omega
  intro v' w1 hown hgrow _;have hb:Below w.heap.size w w1:=((Below.refl _ w).alloc (Nl _) _).grown hgrow (by simp) (by intro k hk;simp[Value.ownBlock] at hk;omega)
  have hown2:w1.ownsRow w.heap.size 207 1 v' n (U l):=by simpa using hown
  clear hown hgrow;go_wp2;go_ret;exact⟨v',rfl,hown2,hb⟩
theorem Um {w:World} {base n c g:Nat} {l:List Nat} (h:w.ownsRow base 207 1 (.slice (some ⟨g,0,none⟩) n c) n (U l)) (k y:Nat) {z:Int} (hz:z=y) :
  (w.setCell ⟨g,k,none⟩ (.int .u64 z)).ownsRow base 207 1 (.slice (some ⟨g,0,none⟩) n c) n (U (l.set k y)):=by
 subst hz
 have:=h.stored k (.int .u64 (y:Int))
 simpa [U,List.map_set] using this.1
def Ti (l l' ps:List Nat) (k b:Nat):Prop:=ps.length=k/\small ps/\gv ps+gv (l'.take k)=gv (l.take k)+BASE ^ k*b
theorem Ti.step {l l' ps:List Nat} {k b x r b':Nat} (h:Ti l l' ps k b) (hx:l[k]?=some x) (y:Nat) (hy:l'[k]?=some y∨(l'.length<=k/\y=0)) (hr:r+(b+y)=x+BASE*b') (hrb:r<BASE):Ti l l' (ps++[r]) (k+1) b':=by
 obtain⟨h1,h2,h3⟩:=h;refine⟨by simp[h1],Xv h2 hrb,?_⟩
 have e:BASE ^ k*r+(BASE ^ k*b+BASE ^ k*y)=BASE ^ k*x+BASE ^ k*BASE*b':=by
  rw[<-Nat.mul_add,<-Nat.mul_add,hr,Nat.mul_add,Nat.mul_assoc]
 rw[Ww,h1,Xf hx,Nat.pow_succ];rcases hy with hy|⟨hl,rfl⟩
 ·rw[Xf hy];omega
 ·rw[QX hl];omega
theorem Ti.fin {l l' ps:List Nat} {k b x y:Nat} (h:Ti l l' ps k b) (hl:l=grp x) (hl':l'=grp y) (hk:l.length=k) (hk':l'.length<=k) (hxy:y<=x):YJ ps=grp (x-y):=by
 obtain⟨h1,h2,h3⟩:=h;rw[List.take_of_length_le (by omega),List.take_of_length_le (by omega),hl,hl',YQ,YQ] at h3
 have h4:=QW ps h2;rw[h1] at h4;have hb:b=0:=by
  rcases Nat.eq_zero_or_pos b with h|h
  ·exact h
  ·have:BASE ^ k*1<=BASE ^ k*b:=Nat.mul_le_mul_left _ h
   omega
 subst hb;rw[WY ps h2];congr 1;omega
theorem Vq (A A':Option Addr) (n c n' c':Nat) (x y:Nat) (w:World) (base base':Nat) (h:w.ownsRow base 207 1 (.slice A n c) n (U (grp x))) (h':w.ownsRow base' 207 1 (.slice A' n' c') n' (U (grp y)))
  (hn:n<=1000000000) (hxy:y<=x) :
  Calls prog 127 #[.slice A n c,.slice A' n' c'] w fun e w'=>∃v,e=.returned v/\Mag w' w.heap.size v (x-y)/\Below w.heap.size w w':=by
 have hl:=ZG h;have hl':=ZG h';have hnn:n'<=n:=by have:=ZD y x hxy;omega
 obtain⟨_,hc2'⟩:=Xk h';unfold maxLen at hc2';have HL:=Lh hl;have HL':=Lh hl';have HH:=Lh h;have HH':=Lh h';clear hl hl' h h';go_enter func127,ntmps127;go_wp2_with (go_at_call 190;refine (Gz A n c (grp x) _ base HH.out hn).mono ?_;rintro e w2 ⟨v,rfl,hown,hb2⟩;obtain⟨B,cb,rfl⟩:=P4 hown);obtain⟨hcb1,hcb2⟩:=Xk hown;unfold maxLen at hcb2
 go_loopw [6,13] (fun cv i wr=>∃(k br:Nat) (ps:List Nat),k<=n/\i=.int .i64 k/\cv=.int .u64 (br:Int)/\br<=1/\Hid (Ti (grp x) (grp y) ps k br)/\wr.ownsRow w.heap.size 207 1 (.slice B n cb) n (U (ps++((grp x).drop k++[])))/\Below w.heap.size w wr) (fun _ i _=>n-(intOf i).toNat)
 case atStart=>exact⟨0,0,[],by omega,rfl,rfl,by omega,⟨rfl,fun x hx=>by simp at hx,by simp[gv]⟩,by simpa using hown,hb2⟩
 case round=>
  clear hown hb2;obtain⟨k,br,ps,hk,rfl,rfl,hbr,HP,hown,hbw⟩:=hrel
  by_cases hkn:k<n
  ·obtain⟨g,xk,rfl,hxk0,hbg,hgl,hcell,hfr⟩:=Wh hown (k:=k) hkn;have hxk:(grp x)[k]?=some xk:=by
    obtain⟨xk',hxk'⟩:∃xk,(grp x)[k]?=some xk:=⟨_,List.getElem?_eq_getElem (by rw[HL.out];exact hkn)⟩
    have:=F3 (t:=[]) HP.out.1 hxk'
    rw[this] at hxk0;rw[hxk',hxk0]
   have hxb:xk<1000000000:=ZT x xk (Lm hxk);have HX:=Lh hxk;have HO:=Lh hown;clear hxk hown hxk0
   by_cases hkn':k<n'
   ·obtain⟨g',yk,rfl,hyk,hgl',hcell'⟩:=Xl HH'.out hbw hkn';have HY:=Lh hyk;have hyb:yk<1000000000:=ZT y yk (Lm hyk);have hne:¬g'=g:=by omega
    have hne':¬g=g':=by omega
    clear hyk
    by_cases hlt:xk<br+yk
    ·go_wp2;go_roundw
     case rel=>
      refine⟨k+1,1,ps++[xk+1000000000-(br+yk)],by omega,by go_num,rfl,by omega,HP.out.step HX.out yk (.inl HY.out) (by unfold BASE;omega) (by unfold BASE;omega),?_,(hbw.setCell (p:=⟨g,k,none⟩) hbg _).setCell (p:=⟨g,k,none⟩) hbg _⟩
      have h1:=Um (Um HO.out k (xk+1000000000) (z:=(xk:Int)+1000000000) (by omega)) k (xk+1000000000-(br+yk)) (z:=(xk:Int)+1000000000-((br:Int)+yk)) (by omega)
      rw[List.set_set,Tg HP.out.1 (by rw[HL.out];omega)] at h1
      exact h1
     case measure=>simp[intOf];omega
    ·go_wp2;go_roundw
     case rel=>
      refine⟨k+1,0,ps++[xk-(br+yk)],by omega,by go_num,rfl,by omega,HP.out.step HX.out yk (.inl HY.out) (by unfold BASE;omega) (by unfold BASE;omega),?_,hbw.setCell (p:=⟨g,k,none⟩) hbg _⟩
      have h1:=Um HO.out k (xk-(br+yk)) (z:=(xk:Int)-((br:Int)+yk)) (by omega)
      rw[Tg HP.out.1 (by rw[HL.out];omega)] at h1
      exact h1
     case measure=>simp[intOf];omega
   ·by_cases hlt:xk<br
    ·go_wp2;go_roundw
     case rel=>
      refine⟨k+1,1,ps++[xk+1000000000-(br)],by omega,by go_num,rfl,by omega,HP.out.step HX.out 0 (.inr ⟨by rw[HL'.out];omega,rfl⟩) (by unfold BASE;omega) (by unfold BASE;omega),?_,(hbw.setCell (p:=⟨g,k,none⟩) hbg _).setCell (p:=⟨g,k,none⟩) hbg _⟩
      have h1:=Um (Um HO.out k (xk+1000000000) (z:=(xk:Int)+1000000000) (by omega)) k (xk+1000000000-(br)) (z:=(xk:Int)+1000000000-((br:Int))) (by omega)
      rw[List.set_set,Tg HP.out.1 (by rw[HL.out];omega)] at h1
      exact h1
     case measure=>simp[intOf];omega
    ·go_wp2;go_roundw
     case rel=>
      refine⟨k+1,0,ps++[xk-(br)],by omega,by go_num,rfl,by omega,HP.out.step HX.out 0 (.inr ⟨by rw[HL'.out];omega,rfl⟩) (by unfold BASE;omega) (by unfold BASE;omega),?_,hbw.setCell (p:=⟨g,k,none⟩) hbg _⟩
      have h1:=Um HO.out k (xk-(br)) (z:=(xk:Int)-((br:Int))) (by omega)
      rw[Tg HP.out.1 (by rw[HL.out];omega)] at h1
      exact h1
     case measure=>simp[intOf];omega
  ·obtain rfl:k=n:=by omega
   have hd:(grp x).drop k=[]:=List.drop_of_length_le (by rw[HL.out];omega)
   have e:ps++((grp x).drop k++[])=ps:=by rw[hd];simp
   rw[e] at hown;clear hd e;go_wp2_with (go_at_call 130;refine (VL B k cb _ _ w.heap.size hown).mono ?_;rintro e w3 ⟨rfl,rfl⟩);go_ret;have hfin:=HP.out.fin rfl rfl HL.out (by rw[HL'.out];omega) hxy
   exact⟨_,rfl,UP (Ul hown) hfin,hbw⟩
theorem Oo (k:Nat) (qs:List Nat) (y:Nat):(List.replicate (k+1) 0++qs).set k y=List.replicate k 0++(y::qs):=by
 rw[List.replicate_succ',List.append_assoc,List.set_append_right _ _ (by simp)]
 simp
theorem Mo (k:Nat) (qs:List Nat):(List.replicate (k+1) 0++qs)[k]?=some 0:=by
 rw[List.getElem?_append_left (by simp)]
 simp
def Ix (l qs:List Nat) (d k r:Nat):Prop:=qs.length+k=l.length/\small qs/\r<d/\gv qs*d+r=gv (l.drop k)
theorem Ix.step {l qs:List Nat} {d k r x:Nat} (h:Ix l qs d (k+1) r) (hx:l[k]?=some x) (hxb:x<BASE):Ix l ((r*BASE+x) / d::qs) d k ((r*BASE+x) % d)/\(r*BASE+x) / d<BASE:=by
 obtain⟨h1,h2,h3,h4⟩:=h;obtain⟨hk,he⟩:=Lg.1 hx;have hq:(r*BASE+x) / d<BASE:=by
  apply Nat.div_lt_of_lt_mul
  have:(r+1)*BASE<=d*BASE:=Nat.mul_le_mul_right _ h3
  rw[Nat.add_mul] at this;omega
 refine⟨⟨by simp;omega,?_,Nat.mod_lt _ (by omega),?_⟩,hq⟩
 ·intro y hy;rcases List.mem_cons.1 hy with rfl|hy
  ·exact hq
  ·exact h2 y hy
 ·rw[Wx l k hk,he,gv,<-h4]
  have:=Nat.div_add_mod (r*BASE+x) d
  rw[Nat.add_mul,Nat.mul_assoc,Nat.mul_add];have e1:(r*BASE+x) / d*d=d*((r*BASE+x) / d):=Nat.mul_comm _ _;have e2:BASE*r=r*BASE:=Nat.mul_comm _ _;omega
theorem Jb (A:Option Addr) (n c:Nat) (m d:Nat) (w:World) (base:Nat) (h:w.ownsRow base 207 1 (.slice A n c) n (U (grp m))) (hn:n<=1000000000) (hd0:1<=d) (hd1:d<=1000000000) :
  Calls prog 266 #[.slice A n c,.int .u64 (d:Int)] w fun e w'=>∃v,e=.returned (.tuple #[v,.int .u64 ((m % d:Nat):Int)])/\Mag w' w.heap.size v (m / d)/\Below w.heap.size w w':=by
 have hl:=ZG h;have HL:=Lh hl;have HH:=Lh h;obtain⟨hc1,hc2⟩:=Xk h;unfold maxLen at hc2;clear hl h;have hmk:=fun W=>Sj 120 underlying120 n n (n:Int) rfl (Nl _) (by omega) W
 go_enter func266,ntmps266;go_wp2;clear hmk
 go_loopw [7,8] (fun rv i wr=>∃(k r:Nat) (qs:List Nat),k<=n/\i=.int .i64 ((k:Int)-1)/\rv=.int .u64 (r:Int)/\r<d/\Hid (Ix (grp m) qs d k r)/\Row wr w.heap.size (List.replicate k 0++qs)/\Below w.heap.size w wr) (fun _ i _=>(intOf i+1).toNat)
 case atStart=>
  refine⟨n,0,[],Nl _,rfl,rfl,by omega,⟨by simp[HL.out],fun x hx=>by simp at hx,by omega,?_⟩,by simpa using Sk w n,(Below.refl _ _).alloc (Nl _) _⟩
  rw[List.drop_of_length_le (by rw[HL.out];omega)];simp[gv]
 case round=>
  obtain⟨k,r,qs,hk,rfl,rfl,hr,HD,hrow,hbw⟩:=hrel
  by_cases hk0:k=0
  ·subst hk0;rw[List.replicate_zero,List.nil_append] at hrow;obtain⟨h1,h2,h3,h4⟩:=HD.out;rw[List.drop_zero,YQ] at h4;have hown:=hrow.own (base:=w.heap.size) (n:=n) (Nl _) (by have:=HL.out;omega) (by have:=HL.out;unfold maxLen;omega)
   have e1:qs.length=n:=by have:=HL.out;omega
   rw[List.take_of_length_le (by omega),e1] at hown
   have hq:gv qs=m / d:=by rw[<-h4,Nat.mul_comm,Nat.mul_add_div (by omega),Nat.div_eq_of_lt h3,Nat.add_zero]
   have hr':r=m % d:=by rw[<-h4,Nat.mul_comm,Nat.mul_add_mod,Nat.mod_eq_of_lt h3]
   have HQ:Hid (YJ qs=grp (m / d)):=by show _=_;rw[WY qs h2,hq]
   have HR:=Lh hr';clear h1 h2 h4 hq hr' e1 hrow;go_wp2_with (go_at_call 130;refine (VL _ n n qs _ w.heap.size hown).mono ?_;rintro e w3 ⟨rfl,rfl⟩);go_ret2;refine⟨_,B7 rfl (by rw[<-HR.out];rfl),UP (Ul hown) HQ.out,hbw⟩
  ·obtain⟨j,rfl⟩:∃j,k=j+1:=⟨k-1,by omega⟩
   obtain⟨g,xk,rfl,hxk,hgl,hcell⟩:=Xl HH.out hbw (k:=j) (by omega)
   have hxb:xk<1000000000:=ZT m xk (Lm hxk);obtain⟨hstep,hq⟩:=HD.out.step hxk hxb;have hcell2:=hrow.cell (Mo j qs);have hfr2:=hrow.frozen j;have hqc:((r:Int)*1000000000+xk) / d=(((r*1000000000+xk) / d:Nat):Int):=by rw[Int.natCast_ediv];rfl
   have hrc:((r:Int)*1000000000+xk) % d=(((r*1000000000+xk) % d:Nat):Int):=by rw[Int.natCast_emod];rfl
   have HS:=Lh hstep;have HR:=Lh hrow;have HQC:=Lh hqc;have HRC:=Lh hrc;have hne:¬g=w.heap.size:=by omega
   clear hstep hrow hxk hq hqc hrc;go_wp2;go_roundw
   case rel=>
    refine⟨j,(r*1000000000+xk) % d,(r*1000000000+xk) / d::qs,by omega,rfl,congrArg (Value.int .u64) HRC.out,Nat.mod_lt _ (by omega),HS.out,?_,hbw.setCell (p:=⟨w.heap.size,j,none⟩) (Nl _) _⟩
    have h1:=HR.out.setI j ((r*1000000000+xk) / d) HQC.out;rw[Oo] at h1;exact h1
   case measure=>simp[intOf]
def PN (l l' rs:List Nat) (i:Nat):Prop:=rs.length=i+l'.length/\small rs/\gv rs=gv (l.take i)*gv l'
def VM (l l' rs:List Nat) (i k x c:Nat):Prop:=
 rs.length=i+l'.length/\small rs/\c<BASE/\gv rs+BASE ^ (i+k)*c=gv (l.take i)*gv l'+BASE ^ i*(x*gv (l'.take k))
theorem PN.enter {l l' rs:List Nat} {i:Nat} (h:PN l l' rs i) (x:Nat):VM l l' rs i 0 x 0:=by
 obtain⟨h1,h2,h3⟩:=h;exact⟨h1,h2,by decide,by simp[h3,gv]⟩
theorem Zbg {l:List Nat} {k x:Nat} (h:l[k]?=some x) (y:Nat):gv (l.set k y)+BASE ^ k*x=gv l+BASE ^ k*y:=by
 obtain⟨hk,rfl⟩:=Lg.1 h
 induction l generalizing k with
 | nil=>simp at hk
 | cons a l ih=>
  cases k with
  | zero=>simp[gv];omega
  | succ k=>
   simp only[List.set_cons_succ,gv,List.getElem_cons_succ,Nat.pow_succ];have hk':k<l.length:=by simpa using hk
   have:=ih (k:=k) hk' (List.getElem?_eq_getElem hk')
   have e1:BASE ^ k*BASE*l[k]=BASE*(BASE ^ k*l[k]):=by rw[Nat.mul_comm (BASE ^ k) BASE,Nat.mul_assoc]
   have e2:BASE ^ k*BASE*y=BASE*(BASE ^ k*y):=by rw[Nat.mul_comm (BASE ^ k) BASE,Nat.mul_assoc]
   rw[e1,e2];have h3:BASE*(gv (l.set k y)+BASE ^ k*l[k])=BASE*(gv l+BASE ^ k*y):=by rw[this]
   rw[Nat.mul_add,Nat.mul_add] at h3;omega
theorem GA {l:List Nat} {k y:Nat} (h:small l) (hy:y<BASE):small (l.set k y):=by
 intro z hz;rcases List.mem_or_eq_of_mem_set hz with h1|h1
 ·exact h z h1
 ·omega
theorem Sm {x y:Nat} (hx:x<1000000000) (hy:y<1000000000):x*y<=999999999*999999999:=Nat.mul_le_mul (by omega) (by omega)
theorem VM.step {l l' rs:List Nat} {i k x c o y:Nat} (h:VM l l' rs i k x c) (ho:rs[i+k]?=some o) (hy:l'[k]?=some y) (hxb:x<BASE) (hyb:y<BASE) :
  VM l l' (rs.set (i+k) ((c+(o+x*y)) % BASE)) i (k+1) x ((c+(o+x*y)) / BASE):=by
 obtain⟨h1,h2,h3,h4⟩:=h;have hob:o<BASE:=h2 o (Lm ho);have hxy:=Sm hxb hyb;refine⟨by simp[h1],GA h2 (Nat.mod_lt _ (by decide)),?_,?_⟩
 ·apply Nat.div_lt_of_lt_mul;unfold BASE at *;omega
 ·have hs:=Zbg ho ((c+(o+x*y)) % BASE);rw[Xf hy];have e1:BASE ^ (i+(k+1))*((c+(o+x*y)) / BASE)+BASE ^ (i+k)*((c+(o+x*y)) % BASE)=BASE ^ (i+k)*(c+(o+x*y)):=by
   rw[show i+(k+1)=(i+k)+1 by omega,Nat.pow_succ,Nat.mul_assoc,<-Nat.mul_add,Nat.div_add_mod]
  have e2:BASE ^ i*(x*(gv (l'.take k)+BASE ^ k*y))=BASE ^ i*(x*gv (l'.take k))+BASE ^ (i+k)*(x*y):=by
   rw[Nat.mul_add x,Nat.mul_add,Nat.pow_add,Nat.mul_assoc];congr 1;rw[<-Nat.mul_assoc x,Nat.mul_comm x,Nat.mul_assoc]
  have e3:BASE ^ (i+k)*(c+(o+x*y))=BASE ^ (i+k)*c+(BASE ^ (i+k)*o+BASE ^ (i+k)*(x*y)):=by rw[Nat.mul_add,Nat.mul_add]
  omega
theorem VM.leave {l l' rs:List Nat} {i x c:Nat} (h:VM l l' rs i l'.length x c) (hx:l[i]?=some x):PN l l' (rs++[c]) (i+1):=by
 obtain⟨h1,h2,h3,h4⟩:=h;refine⟨by simp[h1];omega,Xv h2 h3,?_⟩
 rw[Ww,h1,h4,List.take_length,Xf hx,Nat.add_mul,Nat.mul_assoc]
theorem Ae (rs:List Nat) (z k:Nat) (hk:rs.length=k) (hz:0<z):(rs++List.replicate z 0)[k]?=some 0:=by
 rw[List.getElem?_append_right (by omega),hk,Nat.sub_self]
 obtain⟨j,rfl⟩:∃j,z=j+1:=⟨z-1,by omega⟩
 simp[List.replicate_succ]
theorem Ei (n:Nat):gv (List.replicate n 0)=0:=by
 induction n with
 | zero=>rfl
 | succ n ih=>rw[List.replicate_succ,gv,ih];rfl
theorem Ej (rs:List Nat) (z k c:Nat) (hk:rs.length=k):(rs++List.replicate (z+1) 0).set k c=(rs++[c])++List.replicate z 0:=by
 rw[List.set_append_right _ _ (by omega),hk,Nat.sub_self,List.replicate_succ];simp
theorem GB (rs:List Nat) (z:Nat):rs++List.replicate (z+1) 0=(rs++[0])++List.replicate z 0:=by
 rw[List.replicate_succ];simp
theorem Qo (A A':Option Addr) (n c n' c':Nat) (x y:Nat) (w:World) (base base':Nat) (h:w.ownsRow base 207 1 (.slice A n c) n (U (grp x))) (h':w.ownsRow base' 207 1 (.slice A' n' c') n' (U (grp y)))
  (hn:n<=1000000000) (hn':n'<=1000000000) :
  Calls prog 143 #[.slice A n c,.slice A' n' c'] w fun e w'=>∃v,e=.returned v/\Mag w' w.heap.size v (x*y)/\Below w.heap.size w w':=by
 have HL:=Lh (ZG h);have HL':=Lh (ZG h');have HH:=Lh h;have HH':=Lh h';obtain⟨_,hc2⟩:=Xk h;obtain⟨_,hc2'⟩:=Xk h';unfold maxLen at hc2 hc2';clear h h';have hmk:∀W:World,(Instr.makeSlice 120 (.int .i64 ((n:Int)+n')) (.int .i64 ((n:Int)+n'))).run prog W=.ok (.slice (some ⟨W.heap.size,0,none⟩) (n+n') (n+n')) (W.alloc (Gl (n+n'))):=fun W=>by
  have:=Sj 120 underlying120 (n+n') (n+n') ((n+n':Nat):Int) rfl (Nl _) (by omega) W
  rw[Int.natCast_add] at this;exact this
 go_enter func143,ntmps143;go_wp2;clear hmk
 go_loopw [19] (fun iv wr=>∃(i:Nat) (rs:List Nat),i<=n/\iv=.int .i64 (i:Int)/\Hid (PN (grp x) (grp y) rs i)/\Row wr w.heap.size (rs++List.replicate (n-i) 0)/\Below w.heap.size w wr) (fun iv _=>n-(intOf iv).toNat)
 case atStart=>
  refine⟨0,List.replicate n' 0,by omega,rfl,⟨by simp[HL'.out],fun x hx=>?_,?_⟩,?_,(Below.refl _ _).alloc (Nl _) _⟩
  ·have:=List.eq_of_mem_replicate hx;subst this;decide
  ·rw[Ei];simp[gv]
  ·rw[Nat.sub_zero,List.replicate_append_replicate,Nat.add_comm n' n];exact Sk w (n+n')
 case round=>
  obtain⟨i,rs,hi,rfl,HT,hrow,hbw⟩:=hrel
  by_cases hin:i<n
  ·obtain⟨g,xi,rfl,hxi,hgl,hcell⟩:=Xl HH.out hbw (k:=i) hin;have hxb:xi<1000000000:=ZT x xi (Lm hxi);have HX:=Lh hxi;have HR:=Lh hrow;clear hxi hrow;go_wp2;obtain⟨wo,hwo⟩:∃wo:World,wo=wr:=⟨_,rfl⟩
   have hbo:=hbw;rw[<-hwo] at hbo;clear hwo
   go_loopw [8,26] (fun cv kv wr=>∃(k c:Nat) (rs:List Nat),k<=n'/\kv=.int .i64 (k:Int)/\cv=.int .u64 (c:Int)/\c<1000000000/\Hid (VM (grp x) (grp y) rs i k xi c)/\Row wr w.heap.size (rs++List.replicate (n-i) 0)/\Below w.heap.size w wr) (fun _ kv _=>n'-(intOf kv).toNat)
   case atStart=>exact⟨0,0,rs,by omega,rfl,rfl,by omega,HT.out.enter xi,HR.out,hbw⟩
   case round=>
    clear hcell hbw HR HT;obtain⟨k,cy,rs,hk,rfl,rfl,hcy,HT,hrow,hbw⟩:=hrel;have hcell:wr.cell? ⟨g,i,none⟩=some (.int .u64 (xi:Int)):=by
     obtain⟨g2,x2,h1,h2,h3,h4⟩:=Xl HH.out hbw (k:=i) hin;injection h1 with h1
     injection h1 with h1
     subst h1;rw[HX.out] at h2;injection h2 with h2
     subst h2;exact h4
    have hrl:=HT.out.1;rw[HL'.out] at hrl
    by_cases hkn:k<n'
    ·obtain⟨g',yk,rfl,hyk,hgl',hcell'⟩:=Xl HH'.out hbw hkn;have hyb:yk<1000000000:=ZT y yk (Lm hyk);obtain⟨o,ho⟩:∃o,rs[i+k]?=some o:=⟨_,List.getElem?_eq_getElem (by omega)⟩
     have hob:o<1000000000:=HT.out.2.1 o (Lm ho);have hco:=hrow.cell (k:=i+k) (x:=o) (by rw[List.getElem?_append_left (by omega)];exact ho)
     have hfo:=hrow.frozen (i+k);have hxy:=Sm hxb hyb;have HS:=Lh (HT.out.step ho hyk hxb hyb);obtain⟨p,hp⟩:∃p,p=xi*yk:=⟨_,rfl⟩
     have hpc:(xi:Int)*yk=(p:Int):=by rw[hp];rfl
     rw[<-hp] at hxy;have HPP:=Lh hp;have HR:=Lh hrow;clear hyk ho hrow hp hrl;go_wp2;go_roundw
     case rel=>
      refine⟨k+1,(cy+(o+p)) / 1000000000,rs.set (i+k) ((cy+(o+p)) % 1000000000),by omega,by go_num,congrArg (Value.int .u64) (by omega),by omega,by rw[HPP.out];exact HS.out,?_,hbw.setCell (p:=⟨w.heap.size,i+k,none⟩) (Nl _) _⟩
      have h1:=HR.out.setI (i+k) ((cy+(o+p)) % 1000000000) (z:=((cy:Int)+(o+p)) % 1000000000) (by omega)
      rw[List.set_append_left _ _ (by have:=HT.out.1;rw[HL'.out] at this;omega)] at h1
      exact h1
     case measure=>simp[intOf];omega
    ·obtain rfl:k=n':=by omega
     have HV:=Lh (VM.leave (x:=xi) (c:=cy) (by rw[HL'.out];exact HT.out) HX.out)
     by_cases hn0:k=0
     ·subst hn0;have hcy0:cy=0:=by
       have h1:=HT.out.2.2.2;have hy0:grp y=[]:=List.eq_nil_of_length_eq_zero HL'.out;rw[hy0] at h1;simp only[List.take_nil,gv,Nat.mul_zero,Nat.add_zero] at h1;have h2:BASE ^ i*cy=0:=by omega
       rcases Nat.mul_eq_zero.1 h2 with h3|h3
       ·exact absurd h3 (Nat.ne_of_gt (Nat.pow_pos (by decide)))
       ·exact h3
      subst hcy0;go_wp2;go_roundw
      case rel=>
       refine⟨i+1,rs++[0],by omega,by go_num,HV.out,?_,hbw⟩
       rw[show n-i=(n-(i+1))+1 by omega,GB] at hrow
       exact hrow
      case measure=>simp[intOf];omega
     ·have hco:=hrow.cell (Ae rs (n-i) (i+k) hrl (by omega))
      have hfo:=hrow.frozen (i+k);go_wp2;go_roundw
      case rel=>
       refine⟨i+1,rs++[cy],by omega,by go_num,HV.out,?_,hbw.setCell (p:=⟨w.heap.size,i+k,none⟩) (Nl _) _⟩
       have h1:=hrow.set_ (i+k) cy;rw[show n-i=(n-(i+1))+1 by omega,Ej rs _ (i+k) cy hrl] at h1
       exact h1
      case measure=>simp[intOf];omega
  ·obtain rfl:i=n:=by omega
   rw[Nat.sub_self,List.replicate_zero,List.append_nil] at hrow;obtain⟨h1,h2,h3⟩:=HT.out;rw[HL'.out] at h1;rw[List.take_of_length_le (by rw[HL.out];omega),YQ,YQ] at h3
   have hown:=hrow.own (base:=w.heap.size) (n:=i+n') (Nl _) (by omega) (by unfold maxLen;omega)
   rw[List.take_of_length_le (by omega),h1] at hown
   have HQ:Hid (YJ rs=grp (x*y)):=by show _=_;rw[WY rs h2,h3]
   clear h1 h2 h3 hrow;go_wp2_with (go_at_call 130;refine (VL _ _ _ rs _ w.heap.size hown).mono ?_;rintro e w3 ⟨rfl,rfl⟩);go_ret;exact⟨_,rfl,UP (Ul hown) HQ.out,hbw⟩
theorem below_drewN (w:World) (k:Nat):Below w.heap.size w (w.drewN k):=Mj (Below.refl _ _) k
theorem Af (w:World) (base:Nat):Mag w base (.slice none 0 0) 0:=World.ownsRow_nil _ _ _ _
theorem Ek {a b:Nat} (h:a<b):decide (Wi a b<0)=true:=Dt ((XN a b).2 h)
theorem Jc {a b:Nat} (h:b<=a):decide (Wi a b<0)=false:=Df (fun h1=>by have:=(XN a b).1 h1;omega)
theorem Oq (A:Option Addr) (n c:Nat) (m d:Nat) (w:World) (base:Nat) (h:w.ownsRow base 207 1 (.slice A n c) n (U (grp m))) (hn:n<=1000000000) (hd0:1<=d) (hd1:d<=1000000000) :
  Calls prog 266 #[.slice A n c,.int .u64 (d:Int)] w fun e w'=>∃(v:Value) (r:Nat),e=.returned (.tuple #[v,.int .u64 (r:Int)])/\Hid (r=m % d)/\Mag w' w.heap.size v (m / d)/\Below w.heap.size w w':=
 (Jb A n c m d w base h hn hd0 hd1).mono fun _ _ ⟨v,he,h1,h2⟩=>⟨v,m % d,he,rfl,h1,h2⟩
def PO (w:World) (x y:Nat) (e:Ending) (w':World):Prop:=∃q r,e=.returned (.tuple #[q,r])/\Mag w' 0 q (x / y)/\Mag w' 0 r (x % y)/\Below w.heap.size w w'
theorem GC (A A':Option Addr) (n c n' c':Nat) (x y:Nat) (w:World) (base base':Nat) (h:w.ownsRow base 207 1 (.slice A n c) n (U (grp x))) (h':w.ownsRow base' 207 1 (.slice A' n' c') n' (U (grp y)))
  (hxy:x<y) :
  Calls prog 202 #[.slice A n c,.slice A' n' c'] w (PO w x y):=by
 have hlt:=Ek hxy;have hlt2:Wi x y<0:=(XN x y).2 hxy;go_enter func202,ntmps202;go_wp2_with (go_at_call 126;refine (YU A A' n c n' c' x y _ base base' h h').mono ?_;rintro e w1 ⟨rfl,k,rfl⟩);go_ret2;refine⟨_,_,rfl,?_,?_,below_drewN w k⟩
 ·rw[Nat.div_eq_of_lt hxy];exact Af _ _
 ·rw[Nat.mod_eq_of_lt hxy];exact UP (YC (own_below h (below_drewN w k)) (Nat.zero_le _)) rfl
theorem PP (w:World) (r:Nat):(w.alloc (.cells #[.int .u64 (r:Int)] 207)).ownsRow 0 207 1 (.slice (some ⟨w.heap.size,0,none⟩) 1 1) 1 (U [r]):=
 World.ownsRow_lit w _ 1 (Nat.zero_le _) (by unfold maxLen;omega) rfl
theorem Iy (r:Nat) (hr:r<BASE):YJ [r]=grp r:=by
 rw[WY [r] (fun z hz=>by simp at hz;omega)];simp[gv]
theorem Jd (A A':Option Addr) (n c c':Nat) (x y:Nat) (w:World) (base base':Nat) (h:w.ownsRow base 207 1 (.slice A n c) n (U (grp x))) (h':w.ownsRow base' 207 1 (.slice A' 1 c') 1 (U (grp y)))
  (hxy:y<=x) (hn:n<=1000000000) :
  Calls prog 202 #[.slice A n c,.slice A' 1 c'] w (PO w x y):=by
 have hge:=Jc hxy;have hge2:¬Wi x y<0:=fun h1=>by have:=(XN x y).1 h1;omega
 have hly:=ZG h';obtain⟨g,y0,rfl,hy0,_,hgl,hcell,_⟩:=Wh h' (k:=0) (by omega)
 have hyb:y0<1000000000:=ZT y y0 (Lm hy0);have hyy:y0=y:=by
  have h1:=YQ y
  match hg:grp y,hly with
  | [a],_=>rw[hg] at h1 hy0;simp[gv] at h1 hy0;omega
 subst hyy;have hy1:1<=y0:=by
  rcases Nat.eq_zero_or_pos y0 with h1|h1
  ·subst h1;rw[Vw] at hly;simp at hly
  ·exact h1
 have HH:=Lh h;have HH':=Lh h';clear h h' hly hy0;go_enter func202,ntmps202
 go_wp2_with (first
  | (go_at_call 126;refine (YU A _ n c 1 c' x y0 _ base base' HH.out HH'.out).mono ?_;rintro e w1 ⟨rfl,k,rfl⟩)
  | (go_at_call 266;refine (Oq A n c x y0 _ base (own_below HH.out (below_drewN w k)) hn hy1 (by omega)).mono ?_;rintro e w2 ⟨v,r,rfl,HR,hm,hb2⟩;obtain⟨Aq,cq,rfl⟩:=hm.form))
 have hrb:r<1000000000:=by rw[HR.out];exact Nat.lt_trans (Nat.mod_lt _ (by omega)) hyb
 refine (VL _ 1 1 [r] _ 0 (PP w2 r)).mono ?_;rintro e w3 ⟨rfl,rfl⟩;go_wp2_with fail;go_ret2;have hb3:=(Below.refl w2.heap.size w2).alloc (Nl _) (.cells #[.int .u64 (r:Int)] 207);refine⟨_,_,rfl,(hm.below hb3).base (Nat.zero_le _),?_,bto (bto (below_drewN w k) hb2) hb3⟩;rw[<-HR.out];exact UP (Ul (PP w2 r)) (Iy r hrb)
namespace Num
def Va (A qs:List Nat) (L k t b a0:Nat):Prop:=A.length=L/\small A/\gv (A.drop t)<b/\gv A+b*(BASE ^ t*gv qs)=a0/\qs.length+t+k=L/\small qs
theorem Nh {b k:Nat} (hk:(grp b).length=k) (h1:1<=k):BASE ^ (k-1)<=b:=by
 have h0:grp b≠[]:=by intro e;rw[e] at hk;simp at hk;omega
 have:=ZaX _ (Si b) h0
 rwa [YQ,hk] at this
theorem Va.start {a0 b k:Nat} (hk:(grp b).length=k) (hk2:2<=k) (hba:b<=a0) :
  Va (grp a0++[0,0]) [] ((grp a0).length+2) k ((grp a0).length+2-k) b a0:=by
 have hkl:k<=(grp a0).length:=by rw[<-hk];exact ZD b a0 hba
 refine⟨by simp,WZ (ZT a0) (fun x hx=>by simp at hx;subst hx;decide),?_,?_,by simp;omega,fun x hx=>by simp at hx⟩
 ·rw[List.drop_append,show (grp a0).length+2-k-(grp a0).length=0 by omega,List.drop_zero,VV]
  simp only[gv,Nat.mul_zero,Nat.add_zero];have h1:=QW _ (Uj (ZT a0) ((grp a0).length+2-k));rw[List.length_drop,show (grp a0).length-((grp a0).length+2-k)=k-2 by omega] at h1
  have h2:=Nh hk (by omega)
  have h3:BASE ^ (k-2)<=BASE ^ (k-1):=Nat.pow_le_pow_right (by decide) (by omega)
  omega
 ·rw[VV];simp[gv,YQ]
theorem TD {l:List Nat} {k:Nat} (h:gv l<BASE ^ k) (hk:k<=l.length):gv (l.drop k)=0:=by
 have h1:=XK l k hk;rcases Nat.eq_zero_or_pos (gv (l.drop k)) with h2|h2
 ·exact h2
 ·have:BASE ^ k*1<=BASE ^ k*gv (l.drop k):=Nat.mul_le_mul_left _ h2
  omega
theorem El {l:List Nat} {i x y z:Nat} (hx:l[i]?=some x) (hy:l[i+1]?=some y) (hz:l[i+2]?=some z):gv (l.drop i)=x+BASE*(y+BASE*(z+BASE*gv (l.drop (i+3)))):=by
 obtain⟨h1,rfl⟩:=Lg.1 hx;obtain⟨h2,rfl⟩:=Lg.1 hy;obtain⟨h3,rfl⟩:=Lg.1 hz;rw[Wx l i h1,Wx l (i+1) h2,Wx l (i+2) h3]
theorem Zbh {l:List Nat} {i x y:Nat} (hx:l[i]?=some x) (hy:l[i+1]?=some y):gv (l.drop i)=x+BASE*(y+BASE*gv (l.drop (i+2))):=by
 obtain⟨h1,rfl⟩:=Lg.1 hx;obtain⟨h2,rfl⟩:=Lg.1 hy;rw[Wx l i h1,Wx l (i+1) h2]
theorem Va.beyond {A qs:List Nat} {L k j b a0:Nat} (h:Va A qs L k (j+1) b a0) (hb:b<BASE ^ k):gv (A.drop (j+k+1))=0:=by
 obtain⟨h1,h2,h3,h4,h5,h6⟩:=h
 have:=TD (l:=A.drop (j+1)) (k:=k) (by omega) (by rw[List.length_drop];omega)
 rwa [List.drop_drop,show j+1+k=j+k+1 by omega] at this
theorem Va.tops {A qs:List Nat} {L k j b a0 uh um ul:Nat} (h:Va A qs L k (j+1) b a0) (hb:b<BASE ^ k) (hk:2<=k)
  (huh:A[j+k]?=some uh) (hum:A[j+k-1]?=some um) (hul:A[j+k-2]?=some ul) :
  gv (A.drop j)=((uh*BASE+um)*BASE+ul)*BASE ^ (k-2)+gv ((A.drop j).take (k-2))/\gv ((A.drop j).take (k-2))<BASE ^ (k-2):=by
 have hz:=h.beyond hb;obtain⟨h1,h2,h3,h4,h5,h6⟩:=h;have hl:(A.drop j).length=L-j:=by rw[List.length_drop,h1]
 constructor
 ·rw[XK (A.drop j) (k-2) (by omega),List.drop_drop]
  have e1:j+(k-2)=j+k-2:=by omega
  rw[e1,El hul (by rw[show j+k-2+1=j+k-1 by omega];exact hum) (by rw[show j+k-2+2=j+k by omega];exact huh),show j+k-2+3=j+k+1 by omega,hz]
  rw[Nat.mul_zero,Nat.add_zero,Nat.mul_comm (BASE ^ (k-2)),Nat.mul_add BASE um,Nat.add_comm];congr 2;rw[Nat.mul_comm uh BASE,Nat.mul_comm _ BASE,Nat.mul_add BASE];omega
 ·have:=QW _ (Vx (Uj h2 j) (k-2))
  rw[List.length_take,hl,Nat.min_eq_left (by omega)] at this
  exact this
theorem Em {b k bh bm:Nat} (hk:(grp b).length=k) (hk2:2<=k) (hbh:(grp b)[k-1]?=some bh) (hbm:(grp b)[k-2]?=some bm) :
  b=(bh*BASE+bm)*BASE ^ (k-2)+gv ((grp b).take (k-2))/\gv ((grp b).take (k-2))<BASE ^ (k-2)/\1<=bh:=by
 have h1:=XK (grp b) (k-2) (by omega)
 rw[YQ,Zbh hbm (by rw[show k-2+1=k-1 by omega];exact hbh),List.drop_of_length_le (by omega)] at h1
 simp only[gv,Nat.mul_zero,Nat.add_zero] at h1;have h2:=QW _ (Vx (ZT b) (k-2));rw[List.length_take,hk,Nat.min_eq_left (by omega)] at h2
 refine⟨?_,h2,?_⟩
 ·have e:BASE ^ (k-2)*(bm+BASE*bh)=(bh*BASE+bm)*BASE ^ (k-2):=by rw[Nat.mul_comm,Nat.add_comm bm,Nat.mul_comm BASE bh]
  omega
 ·have hn:=Si b;unfold norm at hn;rw[List.getLast?_eq_getElem?,hk,hbh] at hn;simp at hn;omega
theorem Ah {b bh bm P r:Nat} (h:b=(bh*BASE+bm)*P+r) (h1:1<=bh):BASE*P<=b:=by
 have h4:BASE<=bh*BASE+bm:=Nt (Nat.le_mul_of_pos_left BASE h1) (Nat.le_add_right _ _);rw[h];exact Nt (Nat.mul_le_mul_right P h4) (Nat.le_add_right _ _)
theorem Je {x y s:Nat} (hs:1<=s):x*s / (y*s)=x / y:=Nat.mul_div_mul_right _ _ (by omega)
theorem Jf {x y s:Nat} (hs:1<=s):x*s % (y*s) / s=x % y:=by rw[Nat.mul_mod_mul_right,Nat.mul_div_cancel _ (by omega)]
def TE (u v g:Nat):Prop:=g<=999999999/\∀G,G<=999999999->G*v<=u->G<=g
theorem TE.start {top ul bh bm:Nat} (hbh:1<=bh):TE (top*BASE+ul) (bh*BASE+bm) (min (top / bh) 999999999)∨ul≥BASE:=by
 by_cases hu:ul<BASE
 ·left;refine⟨Nat.min_le_right _ _,fun G hG h=>?_⟩
  refine Nat.le_min.2 ⟨?_,hG⟩;rw[Nat.le_div_iff_mul_le (by omega)]
  rcases Nat.lt_or_ge top (G*bh) with h1|h1
  ·have h2:(top+1)*BASE<=G*bh*BASE:=Nat.mul_le_mul_right _ h1;rw[Nat.add_mul] at h2;have h3:G*(bh*BASE+bm)=G*bh*BASE+G*bm:=by rw[Nat.mul_add,Nat.mul_assoc]
   omega
  ·exact h1
 ·right;omega
theorem TE.down {top ul bh bm g:Nat} (h:TE (top*BASE+ul) (bh*BASE+bm) g) (hle:g*bh<=top) (hbad:(top-g*bh)*BASE+ul<g*bm):1<=g/\TE (top*BASE+ul) (bh*BASE+bm) (g-1):=by
 have hg:1<=g:=by
  rcases Nat.eq_zero_or_pos g with h0|h0
  ·subst h0;simp at hbad
  ·exact h0
 refine⟨hg,by have:=h.1;omega,fun G hG h1=>?_⟩
 have h2:=h.2 G hG h1;rcases Nat.lt_or_ge G g with h3|h3
 ·omega
 ·have:G=g:=by omega
  subst this;have e:G*(bh*BASE+bm)=G*bh*BASE+G*bm:=by rw[Nat.mul_add,Nat.mul_assoc]
  have e2:(top-G*bh)*BASE=top*BASE-G*bh*BASE:=Nat.sub_mul _ _ _;have e3:G*bh*BASE<=top*BASE:=Nat.mul_le_mul_right _ hle;omega
theorem Ot {top ul bh bm g:Nat} (hle:g*bh<=top) (hok:g*bm<=(top-g*bh)*BASE+ul):g*(bh*BASE+bm)<=top*BASE+ul:=by
 have e:g*(bh*BASE+bm)=g*bh*BASE+g*bm:=by rw[Nat.mul_add,Nat.mul_assoc]
 have e2:(top-g*bh)*BASE=top*BASE-g*bh*BASE:=Nat.sub_mul _ _ _;have e3:g*bh*BASE<=top*BASE:=Nat.mul_le_mul_right _ hle;omega
theorem TE.fin {U b u v g P ul vl:Nat} (h:TE u v g) (hg:g*v<=u) (hU:U=u*P+ul) (hV:b=v*P+vl) (hul:ul<P) (hvl:vl<P) (hb:BASE*P<=b) (hUb:U<BASE*b) :
  (g*b<=U->U-g*b<b)/\(U<g*b->1<=g/\(g-1)*b<=U/\U-(g-1)*b<b):=by
 have hb0:0<b:=by
  have:0<P:=by omega
  have:BASE*1<=BASE*P:=Nat.mul_le_mul_left _ this
  unfold BASE at *;omega
 have hQ:U / b<=999999999:=by
  have:U / b<BASE:=(Nat.div_lt_iff_lt_mul hb0).2 hUb
  unfold BASE at this;omega
 have h1:=F4 U b u v P ul vl (U / b) hU hV hul (Nat.div_mul_le_self U b);have h2:=h.2 _ hQ h1;have h3:=F5 U b u v P ul vl g hU hV hvl hg (by have:=h.1;unfold BASE;omega) hb
 have h4:=Nat.lt_succ_iff.2 h2;have h5:U<(g+1)*b:=by
  have:=(Nat.div_lt_iff_lt_mul hb0).1 h4
  exact this
 rw[Nat.add_mul] at h5;refine⟨fun h=>by omega,fun h=>?_⟩
 have hg1:1<=g:=by
  rcases Nat.eq_zero_or_pos g with h0|h0
  ·subst h0;simp at h
  ·exact h0
 have e:(g-1)*b=g*b-b:=by rw[Nat.sub_mul,Nat.one_mul]
 exact⟨hg1,by omega,by omega⟩
def Xq (A:List Nat) (j:Nat) (ps:List Nat) (r:Nat):List Nat:=A.take j++(ps++A.drop (j+r))
theorem NA (A:List Nat) (j:Nat):Xq A j [] 0=A:=by simp[Xq]
theorem Ou {A ps:List Nat} {j r:Nat} (hp:ps.length=r) (hj:j+r<=A.length):(Xq A j ps r).length=A.length:=by
 simp[Xq];omega
theorem Sn {A ps:List Nat} {j r s:Nat} (hp:ps.length=r) (hj:j+r<=A.length) (hs:r<=s):(Xq A j ps r)[j+s]?=A[j+s]?:=by
 unfold Xq;rw[List.getElem?_append_right (by simp;omega),List.getElem?_append_right (by simp;omega),List.getElem?_drop]
 congr 1;simp;omega
theorem Ai {A ps:List Nat} {j r s:Nat} (hp:ps.length=r) (hj:j+r<=A.length) (hs:s<r):(Xq A j ps r)[j+s]?=ps[s]?:=by
 unfold Xq;rw[List.getElem?_append_right (by simp;omega),List.getElem?_append_left (by simp;omega)]
 congr 1;simp;omega
theorem UQ {A ps:List Nat} {j r:Nat} (hp:ps.length=r) (hj:j+r<A.length) (y:Nat):(Xq A j ps r).set (j+r) y=Xq A j (ps++[y]) (r+1):=by
 unfold Xq;have e:(A.drop (j+r)).set 0 y=y::A.drop (j+(r+1)):=by rw[List.drop_eq_getElem_cons hj];rfl
 rw[List.set_append_right _ _ (by simp;omega),List.length_take,Nat.min_eq_left (by omega),List.set_append_right _ _ (by omega),show j+r-j-ps.length=0 by omega,e]
 simp
theorem GD {A ps X:List Nat} {j k:Nat} (hp:ps.length=k) (hj:j+k<=A.length):Xq (Xq A j ps k) j X (k+1)=Xq A j X (k+1):=by
 unfold Xq;have e1:(A.take j++(ps++A.drop (j+k))).take j=A.take j:=by
  rw[List.take_append_of_le_length (by simp;omega),List.take_of_length_le (by simp;omega)]
 have e2:(A.take j++(ps++A.drop (j+k))).drop (j+(k+1))=A.drop (j+(k+1)):=by
  rw[List.drop_append,List.drop_of_length_le (by simp;omega),List.nil_append,List.drop_append,List.drop_of_length_le (by simp;omega),List.nil_append,List.drop_drop]
  congr 1;simp;omega
 rw[e1,e2]
def QY (D B:List Nat) (g:Nat) (ps:List Nat) (r br:Nat):Prop:=ps.length=r/\small ps/\br<=999999999/\gv ps+g*gv (B.take r)=gv (D.take r)+BASE ^ r*br
theorem QY.step {D B ps:List Nat} {g r br x y x' br':Nat} (h:QY D B g ps r br) (hx:D[r]?=some x) (hy:B[r]?=some y) (hx':x'<BASE) (hbr:br'<=999999999) (he:x'+(g*y+br)=x+BASE*br'):QY D B g (ps++[x']) (r+1) br':=by
 obtain⟨h1,h2,h3,h4⟩:=h;refine⟨by simp[h1],Xv h2 hx',hbr,?_⟩
 rw[Ww,h1,Xf hx,Xf hy,Nat.pow_succ,Nat.mul_add];have e:BASE ^ r*x'+(BASE ^ r*(g*y)+BASE ^ r*br)=BASE ^ r*x+BASE ^ r*BASE*br':=by
  rw[<-Nat.mul_add,<-Nat.mul_add,he,Nat.mul_add,Nat.mul_assoc]
 have e2:g*(BASE ^ r*y)=BASE ^ r*(g*y):=by rw[<-Nat.mul_assoc,Nat.mul_comm g,Nat.mul_assoc]
 omega
theorem Va.next {A qs ps:List Nat} {L k j b a0 Q:Nat} (h:Va A qs L k (j+1) b a0) (hb:b<BASE ^ k) (hp:ps.length=k+1) (hs:small ps) (hv:gv ps+Q*b=gv (A.drop j)) (hlt:gv ps<b) (hQ:Q<BASE) :
  Va (Xq A j ps (k+1)) (Q::qs) L k j b a0:=by
 have hz:=h.beyond hb;obtain⟨h1,h2,h3,h4,h5,h6⟩:=h;have hjl:j+(k+1)<=A.length:=by omega
 have hd:gv ((Xq A j ps (k+1)).drop j)=gv ps:=by
  have e:(Xq A j ps (k+1)).drop j=ps++A.drop (j+(k+1)):=by
   unfold Xq;rw[List.drop_append,List.drop_of_length_le (by simp;omega),List.nil_append,List.length_take,Nat.min_eq_left (by omega),Nat.sub_self,List.drop_zero]
  rw[e,VV,show j+(k+1)=j+k+1 by omega,hz];simp
 refine⟨by rw[Ou hp hjl,h1],?_,by rw[hd];exact hlt,?_,by simp;omega,?_⟩
 ·unfold Xq;exact WZ (Vx h2 _) (WZ hs (Uj h2 _))
 ·have e1:gv (Xq A j ps (k+1))=gv (A.take j)+BASE ^ j*gv ps:=by
   have h7:=XK (Xq A j ps (k+1)) j (by rw[Ou hp hjl];omega)
   rw[hd] at h7;have e2:(Xq A j ps (k+1)).take j=A.take j:=by
    unfold Xq;rw[List.take_append_of_le_length (by simp;omega),List.take_of_length_le (by simp;omega)]
   rw[e2] at h7;exact h7
  have h8:=XK A j (by omega)
  rw[e1];rw[h8] at h4;rw[<-h4,<-hv];simp only[gv];have e3:b*(BASE ^ j*(Q+BASE*gv qs))=BASE ^ j*(Q*b)+b*(BASE ^ (j+1)*gv qs):=by
   rw[Nat.mul_add,Nat.mul_add,Nat.pow_succ,Nat.mul_assoc];congr 1;rw[Nat.mul_comm b,Nat.mul_assoc]
  rw[e3,Nat.mul_add (BASE ^ j)];omega
 ·intro x hx;rcases List.mem_cons.1 hx with rfl|hx
  ·exact hQ
  ·exact h6 x hx
theorem Va.lt {A qs:List Nat} {L k j b a0:Nat} (h:Va A qs L k (j+1) b a0):gv (A.drop j)<BASE*b:=by
 obtain⟨h1,h2,h3,h4,h5,h6⟩:=h;have hj:j<A.length:=by omega
 rw[Wx A j hj];have h7:A[j]<BASE:=h2 _ (List.getElem_mem hj);have h8:BASE*(gv (A.drop (j+1))+1)<=BASE*b:=Nat.mul_le_mul_left _ h3;rw[Nat.mul_add] at h8;omega
theorem Va.split_top {A qs:List Nat} {L k j b a0 uh:Nat} (h:Va A qs L k (j+1) b a0) (hb:b<BASE ^ k) (huh:A[j+k]?=some uh):gv (A.drop j)=gv ((A.drop j).take k)+BASE ^ k*uh:=by
 have hz:=h.beyond hb;obtain⟨h1,h2,h3,h4,h5,h6⟩:=h;obtain⟨hl,he⟩:=Lg.1 huh;rw[XK (A.drop j) k (by rw[List.length_drop];omega),List.drop_drop,Wx A (j+k) hl,he,hz,Nat.mul_zero,Nat.add_zero]
theorem Zbi {A qs B ps:List Nat} {L k j b a0 uh g br:Nat} (h:Va A qs L k (j+1) b a0) (hb:b<BASE ^ k) (hB:gv B=b) (hBl:B.length=k) (hs:QY (A.drop j) B g ps k br) (huh:A[j+k]?=some uh) (hle:br<=uh)
  (hfin:g*b<=gv (A.drop j)->gv (A.drop j)-g*b<b) (hg:g<=999999999):Va (Xq A j (ps++[uh-br]) (k+1)) (g::qs) L k j b a0:=by
 have hU:=h.split_top hb huh;have huhb:uh<BASE:=h.2.1 uh (Lm huh);obtain⟨s1,s2,s3,s4⟩:=hs;rw[List.take_of_length_le (by omega),hB] at s4
 have e:BASE ^ k*(uh-br)+BASE ^ k*br=BASE ^ k*uh:=by rw[<-Nat.mul_add,Nat.sub_add_cancel hle]
 have hv:gv (ps++[uh-br])+g*b=gv (A.drop j):=by rw[Ww,s1];omega
 exact h.next hb (by simp[s1]) (Xv s2 (by omega)) hv (by have:=hfin (by omega);omega) (by unfold BASE;omega)
theorem Zbj {A qs B ps:List Nat} {L k j b a0 uh g br:Nat} (h:Va A qs L k (j+1) b a0) (hb:b<BASE ^ k) (hB:gv B=b) (hBl:B.length=k) (hs:QY (A.drop j) B g ps k br) (huh:A[j+k]?=some uh) (hlt:uh<br):gv (A.drop j)<g*b:=by
 have hU:=h.split_top hb huh;obtain⟨s1,s2,s3,s4⟩:=hs;rw[List.take_of_length_le (by omega),hB] at s4
 have h1:=QW ps s2;rw[s1] at h1;have e:BASE ^ k*(uh+1)<=BASE ^ k*br:=Nat.mul_le_mul_left _ hlt;rw[Nat.mul_add] at e;omega
theorem Zbk {A qs B ps ps2:List Nat} {L k j b a0 uh g br cy:Nat} (h:Va A qs L k (j+1) b a0) (hb:b<BASE ^ k) (hB:gv B=b) (hBl:B.length=k) (hs:QY (A.drop j) B g ps k br) (huh:A[j+k]?=some uh) (hlt:uh<br)
  (hg1:1<=g) (hle:(g-1)*b<=gv (A.drop j)) (hfin:gv (A.drop j)-(g-1)*b<b) (hg:g<=999999999) (hl2:ps2.length=k) (hs2:small ps2) (hcy:cy<=1) (hv2:gv ps2+BASE ^ k*cy=gv ps+b) :
  br<=uh+cy/\Va (Xq A j (ps2++[uh+cy-br]) (k+1)) ((g-1)::qs) L k j b a0:=by
 have hU:=h.split_top hb huh;obtain⟨s1,s2,s3,s4⟩:=hs;rw[List.take_of_length_le (by omega),hB] at s4
 have h1:=QW ps2 hs2;rw[hl2] at h1;have e1:(g-1)*b+b=g*b:=by
  obtain⟨g',rfl⟩:∃g',g=g'+1:=⟨g-1,by omega⟩
  rw[Nat.add_sub_cancel,Nat.add_mul,Nat.one_mul]
 have e2:BASE ^ k*(uh+cy)=BASE ^ k*uh+BASE ^ k*cy:=Nat.mul_add _ _ _;have hbr:br<=uh+cy:=by
  rcases Nat.lt_or_ge (uh+cy) br with h3|h3
  ·have e:BASE ^ k*(uh+cy+1)<=BASE ^ k*br:=Nat.mul_le_mul_left _ h3;rw[Nat.mul_add _ _ 1] at e;omega
  ·exact h3
 refine⟨hbr,?_⟩;have e3:BASE ^ k*(uh+cy-br)+BASE ^ k*br=BASE ^ k*(uh+cy):=by rw[<-Nat.mul_add,Nat.sub_add_cancel hbr]
 have hv:gv (ps2++[uh+cy-br])+(g-1)*b=gv (A.drop j):=by rw[Ww,hl2];omega
 exact h.next hb (by simp[hl2]) (Xv hs2 (by unfold BASE;omega)) hv (by omega) (by unfold BASE;omega)
theorem Va.fin {A qs:List Nat} {L k b a0:Nat} (h:Va A qs L k 0 b a0) (hb:b<BASE ^ k):gv qs=a0 / b/\gv (A.take k)=a0 % b/\small qs/\small (A.take k):=by
 obtain⟨h1,h2,h3,h4,h5,h6⟩:=h;rw[List.drop_zero] at h3;simp only[Nat.pow_zero,Nat.one_mul] at h4;have h7:=XK A k (by omega)
 rw[TD (l:=A) (by omega) (by omega),Nat.mul_zero,Nat.add_zero] at h7
 refine⟨?_,?_,h6,Vx h2 k⟩
 ·rw[<-h4,Nat.add_mul_div_left _ _ (by omega),Nat.div_eq_of_lt h3,Nat.zero_add]
 ·rw[<-h7,<-h4,Nat.add_mul_mod_self_left,Nat.mod_eq_of_lt h3]
end Num
end Go.Proofs.YtpieeldbamklkaaGreatDoor
