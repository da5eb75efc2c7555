/- Bd: awake great ret qlawb long powr -/
import Derived.Test.YtpieeldbamklkaaGreatDoorABc
namespace Go.Proofs.YtpieeldbamklkaaGreatDoor
open Go.RowKit Num
structure IsQ (l l':List UInt8) (q:Rat):Prop where
 num:l.length<=100000
 den:l'.length<=100000
 eq:fv l l'=q
theorem Av {l l':List UInt8} {k:Nat} (h:l.length<=k) (h':l'.length<=k) (hk:k<=100000):IsQ l l' (fv l l'):=⟨Nt h hk,Nt h' hk,rfl⟩
theorem Zs {q:Rat} {k:Nat} (h:Bd k q) (hk:k<=99999):IsQ (fN q) (fD q) q:=⟨Nt (Vl h).1 (by omega),Nt (Vl h).2 (by omega),PC q⟩
theorem PD:Bd 1 (0:Rat):=⟨by decide,by decide⟩
theorem ED:IsQ [] [] 0:=⟨by decide,by decide,by decide +kernel⟩
section
variable {l l' k k':List UInt8} {p q r:Rat}
theorem Oz (h:IsQ l l' p) (h':IsQ k k' q) (e:p+q=r):Ret 30 #[(Value.agg #[Value.string ⟨l.toArray⟩,Value.string ⟨l'.toArray⟩]),(Value.agg #[Value.string ⟨k.toArray⟩,Value.string ⟨k'.toArray⟩])] (Value.agg #[Value.string ⟨List.toArray (fN r)⟩,Value.string ⟨List.toArray (fD r)⟩]):=fun w hG=>by
 have:=As l l' k k' w h.num h.den h'.num h'.den hG
 rwa [h.eq,h'.eq,e] at this
theorem EE (h:IsQ l l' p) (h':IsQ k k' q) (e:p-q=r):Ret 34 #[(Value.agg #[Value.string ⟨l.toArray⟩,Value.string ⟨l'.toArray⟩]),(Value.agg #[Value.string ⟨k.toArray⟩,Value.string ⟨k'.toArray⟩])] (Value.agg #[Value.string ⟨List.toArray (fN r)⟩,Value.string ⟨List.toArray (fD r)⟩]):=fun w hG=>by
 have:=Iv l l' k k' w h.num h.den h'.num h'.den hG
 rwa [h.eq,h'.eq,e] at this
theorem Nm (h:IsQ l l' p) (h':IsQ k k' q) (e:p*q=r):Ret 12 #[(Value.agg #[Value.string ⟨l.toArray⟩,Value.string ⟨l'.toArray⟩]),(Value.agg #[Value.string ⟨k.toArray⟩,Value.string ⟨k'.toArray⟩])] (Value.agg #[Value.string ⟨List.toArray (fN r)⟩,Value.string ⟨List.toArray (fD r)⟩]):=fun w hG=>by
 have:=Au l l' k k' w h.num h.den h'.num h'.den hG
 rwa [h.eq,h'.eq,e] at this
theorem Lv (h:IsQ l l' p) (h':IsQ k k' q) {c:Int} (e:Mt p q=c):Ret 24 #[(Value.agg #[Value.string ⟨l.toArray⟩,Value.string ⟨l'.toArray⟩]),(Value.agg #[Value.string ⟨k.toArray⟩,Value.string ⟨k'.toArray⟩])] (.int .i64 c):=fun w hG=>by
 have:=Lu l l' k k' w h.num h.den h'.num h'.den hG
 rwa [h.eq,h'.eq,e] at this
theorem rOf (hl:l.length<=1000000) {z:Int} (e:val l=z):Ret 31 #[.string ⟨l.toArray⟩] (Value.agg #[Value.string ⟨List.toArray (fN ((z:Rat)))⟩,Value.string ⟨List.toArray (fD ((z:Rat)))⟩]):=fun w hG=>by
 have:=Za9 l w hl hG
 rwa [e] at this
theorem EF (h:IsQ l l' p):Ret 136 #[(Value.agg #[Value.string ⟨l.toArray⟩,Value.string ⟨l'.toArray⟩])] (.tuple #[.string ⟨(fN p).toArray⟩,.string ⟨(canon (p.den:Int)).toArray⟩]):=fun w hG=>by
 have:=GA l l' w (Nt h.num (by decide)) (Nt h.den (by decide)) hG
 rwa [h.eq] at this
theorem Zb4 (hl:l.length<=1000000) (hl':l'.length<=1000000) (h0:val l'≠0) (e:Rat.divInt (val l) (val l')=r):Ret 46 #[.string ⟨l.toArray⟩,.string ⟨l'.toArray⟩] (.tuple #[(Value.agg #[Value.string ⟨List.toArray (fN r)⟩,Value.string ⟨List.toArray (fD r)⟩]),.int .i64 0]):=fun w hG=>by
 have:=Aj l l' w hl hl' hG h0
 rwa [e] at this
theorem OA (h:IsQ l l' p) {c:Int} (e:(if l=fN p/\l'=fD p then 0 else 1)=c):Ret 83 #[(Value.agg #[Value.string ⟨l.toArray⟩,Value.string ⟨l'.toArray⟩])] (.int .i64 c):=fun w hG=>by
 have:=GB l l' w h.num h.den hG
 rwa [h.eq,e] at this
theorem UU (hl:l.length<=100000000) (hl':l'.length<=100000000) {z:Int} (e:val l+val l'=z):Ret 15 #[.string ⟨l.toArray⟩,.string ⟨l'.toArray⟩] (.string ⟨(canon z).toArray⟩):=fun w hG=>by
 have:=Ll l l' w hl hl' hG
 rwa [e] at this
theorem Yz (hl:l.length<=1000000) {c:Int} (e:(if l=canon (val l) then 0 else 1)=c):Ret 103 #[.string ⟨l.toArray⟩] (.int .i64 c):=fun w _=>by
 have:=Ja l w hl
 rwa [e] at this
theorem ZM (hl:l.length<=100000000) (hl':l'.length<=100000000) {c:Int} (e:ZI (val l) (val l')=c):Ret 64 #[.string ⟨l.toArray⟩,.string ⟨l'.toArray⟩] (.int .i64 c):=fun w _=>by
 have:=YH l l' w hl hl'
 rwa [e] at this
end
end Go.Proofs.YtpieeldbamklkaaGreatDoor
