/- Bd: awake great ret qlawb long powr -/
import Derived.Test.YtpieeldbamklkaaGreatDoorVBc
open Go.Proofs.Tryz
namespace Go.Proofs.YtpieeldbamklkaaGreatDoor
open Go.RowKit Num
structure IsQ (l l':List UInt8) (q:Rat):Prop where
 num:l.length<=100000
 den:l'.length<=100000
 eq:fv l l'=q
theorem PR {l l':List UInt8} {k:Nat} (h:l.length<=k) (h':l'.length<=k) (hk:k<=100000):IsQ l l' (fv l l'):=⟨Nt h hk,Nt h' hk,rfl⟩
theorem Qs {q:Rat} {k:Nat} (h:Bd k q) (hk:k<=99999):IsQ (fN q) (fD q) q:=⟨Nt (TY h).1 (by omega),Nt (TY h).2 (by omega),Ax q⟩
theorem EB:IsQ [] [] 0:=⟨by decide,by decide,by decide +kernel⟩
section
variable {l l' k k':List UInt8} {p q r:Rat}
theorem Zda (h:IsQ l l' p) (h':IsQ k k' q) (e:p-q=r):Ret 34 #[(Value.agg #[.string ⟨l.toArray⟩,.string ⟨l'.toArray⟩]),(Value.agg #[.string ⟨k.toArray⟩,.string ⟨k'.toArray⟩])] (Value.agg #[.string ⟨List.toArray (fN r)⟩,.string ⟨List.toArray (fD r)⟩]):=fun w hG=>by
 have:=IE l l' k k' w h.num h.den h'.num h'.den hG
 rwa [h.eq,h'.eq,e] at this
theorem Zdb (h:IsQ l l' p) (h':IsQ k k' q) (e:p*q=r):Ret 12 #[(Value.agg #[.string ⟨l.toArray⟩,.string ⟨l'.toArray⟩]),(Value.agg #[.string ⟨k.toArray⟩,.string ⟨k'.toArray⟩])] (Value.agg #[.string ⟨List.toArray (fN r)⟩,.string ⟨List.toArray (fD r)⟩]):=fun w hG=>by
 have:=AG l l' k k' w h.num h.den h'.num h'.den hG
 rwa [h.eq,h'.eq,e] at this
theorem Ls (h:IsQ l l' p) (h':IsQ k k' q) {c:Int} (e:Mv p q=c):Ret 24 #[(Value.agg #[.string ⟨l.toArray⟩,.string ⟨l'.toArray⟩]),(Value.agg #[.string ⟨k.toArray⟩,.string ⟨k'.toArray⟩])] (.int .i64 c):=fun w hG=>by
 have:=Lr l l' k k' w h.num h.den h'.num h'.den hG
 rwa [h.eq,h'.eq,e] at this
theorem rOf (hl:l.length<=1000000) {z:Int} (e:val l=z):Ret 31 #[.string ⟨l.toArray⟩] (Value.agg #[.string ⟨List.toArray (fN ((z:Rat)))⟩,.string ⟨List.toArray (fD ((z:Rat)))⟩]):=fun w hG=>by
 have:=Zbr l w hl hG
 rwa [e] at this
theorem EC (h:IsQ l l' p):Ret 136 #[(Value.agg #[.string ⟨l.toArray⟩,.string ⟨l'.toArray⟩])] (.tuple #[.string ⟨(fN p).toArray⟩,.string ⟨(canon (p.den:Int)).toArray⟩]):=fun w hG=>by
 have:=GL l l' w (Nt h.num (by decide)) (Nt h.den (by decide)) hG
 rwa [h.eq] at this
theorem Zck (hl:l.length<=1000000) (hl':l'.length<=1000000) (h0:val l'≠0) (e:Rat.divInt (val l) (val l')=r):Ret 46 #[.string ⟨l.toArray⟩,.string ⟨l'.toArray⟩] (.tuple #[(Value.agg #[.string ⟨List.toArray (fN r)⟩,.string ⟨List.toArray (fD r)⟩]),.int .i64 0]):=fun w hG=>by
 have:=AC l l' w hl hl' hG h0
 rwa [e] at this
theorem Zbs (h:IsQ l l' p) {c:Int} (e:(if l=fN p/\l'=fD p then 0 else 1)=c):Ret 83 #[(Value.agg #[.string ⟨l.toArray⟩,.string ⟨l'.toArray⟩])] (.int .i64 c):=fun w hG=>by
 have:=GM l l' w h.num h.den hG
 rwa [h.eq,e] at this
theorem XX (hl:l.length<=100000000) (hl':l'.length<=100000000) {z:Int} (e:val l+val l'=z):Ret 15 #[.string ⟨l.toArray⟩,.string ⟨l'.toArray⟩] (.string ⟨(canon z).toArray⟩):=fun w hG=>by
 have:=Et l l' w hl hl' hG
 rwa [e] at this
theorem Yv (hl:l.length<=1000000) {c:Int} (e:(if l=canon (val l) then 0 else 1)=c):Ret 103 #[.string ⟨l.toArray⟩] (.int .i64 c):=fun w _=>by
 have:=Jj l w hl
 rwa [e] at this
theorem ZF (hl:l.length<=100000000) (hl':l'.length<=100000000) {c:Int} (e:ZH (val l) (val l')=c):Ret 64 #[.string ⟨l.toArray⟩,.string ⟨l'.toArray⟩] (.int .i64 c):=fun w _=>by
 have:=YV l l' w hl hl'
 rwa [e] at this
end
end Go.Proofs.YtpieeldbamklkaaGreatDoor
