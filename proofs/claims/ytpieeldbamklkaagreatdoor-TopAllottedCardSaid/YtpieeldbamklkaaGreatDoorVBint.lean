/- Bint: intb intc intd inte -/
import Derived.Test.YtpieeldbamklkaaGreatDoorVBk
import Derived.Deep.RegionHeld3
set_option maxHeartbeats 4000000
set_option maxRecDepth 100000
open Go.Proofs.Tryz
namespace Go.Proofs.YtpieeldbamklkaaGreatDoor
open Go.RowKit Num
theorem Vd (l:List UInt8):sgn (Z1 l) (val l).natAbs=val l:=by
 rw[Xd];unfold sgn
 by_cases h:val l<0<;>simp[h]<;>omega
theorem IA (l:List UInt8):sgn (!Z1 l) (val l).natAbs = -val l:=by
 rw[Xd];unfold sgn
 by_cases h:val l<0<;>simp[h]<;>omega
theorem Wy (l:List UInt8):(grp (val l).natAbs).length<=l.length:=by
 refine We _ _ (Nat.lt_of_lt_of_le (TU l) ?_);exact Nat.pow_le_pow_left (by decide) _
theorem Li (x y:Nat):(grp (x*y)).length<=(grp x).length+(grp y).length:=by
 refine We _ _ ?_;rw[Nat.pow_add];exact Nat.mul_lt_mul'' (Xe x) (Xe y)
theorem QZ (x y:Nat):(grp (x+y)).length<=(grp x).length+(grp y).length+1:=by
 refine We _ _ ?_;have h1:=Xe x;have h2:=Xe y;have e1:BASE ^ (grp x).length<=BASE ^ ((grp x).length+(grp y).length):=Nat.pow_le_pow_right (by decide) (by omega)
 have e2:BASE ^ (grp y).length<=BASE ^ ((grp x).length+(grp y).length):=Nat.pow_le_pow_right (by decide) (by omega)
 have e3:BASE ^ ((grp x).length+(grp y).length)*2<=BASE ^ ((grp x).length+(grp y).length)*BASE:=Nat.mul_le_mul_left _ (by decide)
 rw[Nat.pow_succ];omega
theorem Yr (neg:Bool) (A:Option Addr) (n c:Nat) (m:Nat) (w:World) (base:Nat) (h:w.ownsRow base 207 1 (.slice A n c) n (U (grp m))) (hG:Yb w) (hn:n<=1000000000) :
  Calls prog 56 #[.agg #[.bool neg,.slice A n c]] w fun e w'=>e=.returned (.string ⟨(canon (sgn neg m)).toArray⟩)/\Below w.heap.size w w':=by
 have:=Eg neg A n c (grp m) w base h (ZT m) hG hn
 rwa [YQ] at this
theorem Ys (l:List UInt8) (w:World) (hl:l.length<=100000000) :
  Calls prog 55 #[.string ⟨l.toArray⟩] w fun e w'=>∃(A:Option Addr) (n c:Nat),e=.returned (.agg #[.bool (Z1 l),.slice A n c])/\n<=100000000/\w'.ownsRow w.heap.size 207 1 (.slice A n c) n (U (grp (val l).natAbs))/\Below w.heap.size w w':=by
 refine (Ed l w (by omega)).mono ?_
 rintro e w' ⟨v,rfl,hm,hb⟩;obtain⟨A,c,rfl⟩:=hm.form;exact⟨A,_,c,rfl,Nt (Wy l) hl,hm,hb⟩
theorem Au (l l':List UInt8):sgn (Z1 l != Z1 l') ((val l).natAbs*(val l').natAbs)=val l*val l':=by
 rw[Xd,Xd];unfold sgn;have e:((val l).natAbs*(val l').natAbs:Nat)=(val l*val l').natAbs:=(Int.natAbs_mul _ _).symm;rw[e]
 by_cases h1:val l<0<;>by_cases h2:val l'<0
 ·have:=Int.mul_pos_of_neg_of_neg h1 h2;simp[h1,h2];omega
 ·have:val l*val l'<=0:=Int.mul_nonpos_of_nonpos_of_nonneg (by omega) (by omega)
  simp[h1,h2];omega
 ·have:val l*val l'<=0:=Int.mul_nonpos_of_nonneg_of_nonpos (by omega) (by omega)
  simp[h1,h2];omega
 ·have:0<=val l*val l':=Int.mul_nonneg (by omega) (by omega)
  simp[h1,h2];omega
theorem Ms (l l':List UInt8) (w:World) (hl:l.length<=100000000) (hl':l'.length<=100000000) (hG:Yb w) :
  Calls prog 68 #[.string ⟨l.toArray⟩,.string ⟨l'.toArray⟩] w fun e w'=>e=.returned (.string ⟨(canon (val l*val l')).toArray⟩)/\Below w.heap.size w w':=by
 rw[<-Au];go_enter func68,ntmps68;go_wp2_with fail
 refine (Ys l _ hl).mono ?_
 rintro e w1 ⟨A,n,c,rfl,hn,ho1,hb1⟩;go_wp2_with fail
 refine (Ys l' _ hl').mono ?_
 rintro e w2 ⟨A',n',c',rfl,hn',ho2,hb2⟩;go_wp2_with fail;have hbx:=bto (Zh w2 (.cells #[.bool (Z1 l),.slice A n c] 122)) (Zh _ (.cells #[.bool (Z1 l'),.slice A' n' c'] 122));obtain⟨W,hW⟩:∃W,W=(w2.alloc (.cells #[.bool (Z1 l),.slice A n c] 122)).alloc (.cells #[.bool (Z1 l'),.slice A' n' c'] 122):=⟨_,rfl⟩
 have hsz:W.heap.size=w2.heap.size+2:=by rw[hW];simp
 have k0:W.cell? ⟨w2.heap.size,0,none⟩=some (.bool (Z1 l)):=by rw[hW];simp[go_sem]
 have k1:W.cell? ⟨w2.heap.size,1,none⟩=some (.slice A n c):=by rw[hW];simp[go_sem]
 have k2:W.cell? ⟨w2.heap.size+1,0,none⟩=some (.bool (Z1 l')):=by rw[hW];simp[go_sem]
 have k3:W.cell? ⟨w2.heap.size+1,1,none⟩=some (.slice A' n' c'):=by rw[hW];simp[go_sem]
 rw[<-hW] at hbx ⊢;have hbW:Below w.heap.size w W:=bto hb1 (bto hb2 hbx);have HO1:=Lh (own_below ho1 (bto hb2 hbx));have HO2:=Lh (own_below ho2 hbx);have HSZ:=Lh hsz;clear hW ho1 ho2 hsz
 go_region_held3 (fun w'=>w'.cell? ⟨w2.heap.size,0,none⟩=some (.bool (Z1 l))/\w'.cell? ⟨w2.heap.size,1,none⟩=some (.slice A n c)/\w'.cell? ⟨w2.heap.size+1,0,none⟩=some (.bool (Z1 l'))/\w'.cell? ⟨w2.heap.size+1,1,none⟩=some (.slice A' n' c'))
  (first
   | go_keep
   | (exact⟨(hbc.cell (p:=⟨w2.heap.size,0,none⟩) (by simp;rw[HSZ.out];omega)).trans k0,(hbc.cell (p:=⟨w2.heap.size,1,none⟩) (by simp;rw[HSZ.out];omega)).trans k1,(hbc.cell (p:=⟨w2.heap.size+1,0,none⟩) (by simp;rw[HSZ.out];omega)).trans k2,(hbc.cell (p:=⟨w2.heap.size+1,1,none⟩) (by simp;rw[HSZ.out];omega)).trans k3⟩))
  (first
   | (go_at_call 143;refine (Qo A A' n c n' c' _ _ _ _ _ (by exact HO1.out) (by exact HO2.out) (by omega) (by omega)).mono ?_;rintro e w3 ⟨v,rfl,hm,hb3⟩;obtain⟨A3,c3,rfl⟩:=hm.form;have hbc:=bto (bdr W) hb3)
   | (go_at_call 56;refine (Yr _ A3 _ c3 _ _ _ hm ((hG.below hbW).below hbc) (by have:=Li (val l).natAbs (val l').natAbs;have:=Wy l;have:=Wy l';omega)).mono ?_;rintro e w4 ⟨rfl,hb4⟩;have hbc:=bto hbc hb4))
 go_wp2;go_ret;exact⟨rfl,bto hbW hbc⟩
theorem Mt (l:List UInt8) (w:World) (hl:l.length<=100000000) (hG:Yb w) :
  Calls prog 206 #[.string ⟨l.toArray⟩] w fun e w'=>e=.returned (.string ⟨(canon (-val l)).toArray⟩)/\Below w.heap.size w w':=by
 rw[<-IA];go_enter func206,ntmps206;go_wp2_with fail
 refine (Ys l _ hl).mono ?_
 rintro e w1 ⟨A,n,c,rfl,hn,ho1,hb1⟩;go_wp2_with fail;have hbl:=Zh w1 (.cells #[.bool !Z1 l,.slice A n c] 122)
 refine (Yr (!Z1 l) A n c _ _ _ (by exact own_below ho1 hbl) (by exact (hG.below hb1).below hbl) (by omega)).mono ?_
 rintro e w2 ⟨rfl,hb2⟩;go_wp2_with fail;go_ret;exact⟨rfl,bto hb1 (bto hbl hb2)⟩
def Ox (w:World) (z:Int) (b:Nat) (e:Ending) (w':World):Prop:=∃(neg:Bool) (m:Nat) (A:Option Addr) (n c:Nat),e=.returned (.agg #[.bool neg,.slice A n c])/\sgn neg m=z/\n<=b/\w'.ownsRow 0 207 1 (.slice A n c) n (U (grp m))/\Below w.heap.size w w'
theorem US {w:World} {base n:Nat} {e:TypeId} {v:Value} {xs:List Value} {b:Nat} (h:w.ownsRow base e 1 v n xs) (hb:v.ownBlock≠some b) (u0 u1:Value):((w.setCell ⟨b,0,none⟩ u0).setCell ⟨b,1,none⟩ u1).ownsRow base e 1 v n xs:=
 Ss (p:=⟨b,1,none⟩) (Ss (p:=⟨b,0,none⟩) h hb u0) hb u1
theorem VY {w:World} {base n b:Nat} {e:TypeId} {v:Value} {xs:List Value} (h:w.ownsRow base e 1 v n xs) (hb:b<base):v.ownBlock≠some b:=fun e=>by
 have:=W7 h b e;omega
theorem Es (ng:Bool) (A A':Option Addr) (n c n' c':Nat) (x y:Nat) (w:World) (base base':Nat) (h:w.ownsRow base 207 1 (.slice A n c) n (U (grp x))) (h':w.ownsRow base' 207 1 (.slice A' n' c') n' (U (grp y)))
  (hn:n<=100000000) (hn':n'<=100000000) :
  Calls prog 54 #[.agg #[.bool ng,.slice A n c],.agg #[.bool ng,.slice A' n' c']] w (Ox w (sgn ng (x+y)) 300000000):=by
 obtain⟨W,hW⟩:∃W,W=((w.alloc (.cells #[.bool ng,.slice A n c] 122)).alloc (.cells #[.bool ng,.slice A' n' c'] 122)).alloc (.cells #[.bool false,.slice none 0 0] 122):=⟨_,rfl⟩
 obtain⟨b0,hb0⟩:∃b,b=w.heap.size:=⟨_,rfl⟩
 obtain⟨b1,hb1⟩:∃b,b=b0+1:=⟨_,rfl⟩
 obtain⟨b2,hb2⟩:∃b,b=b1+1:=⟨_,rfl⟩
 have k0:W.cell? ⟨b0,0,none⟩=some (.bool ng):=by rw[hW,hb0];simp[go_sem]
 have k1:W.cell? ⟨b0,1,none⟩=some (.slice A n c):=by rw[hW,hb0];simp[go_sem]
 have k2:W.cell? ⟨b1,0,none⟩=some (.bool ng):=by rw[hW,hb1,hb0];simp[go_sem]
 have k3:W.cell? ⟨b1,1,none⟩=some (.slice A' n' c'):=by rw[hW,hb1,hb0];simp[go_sem]
 have k4:W.cell? ⟨b2,0,none⟩=some (.bool false):=by rw[hW,hb2,hb1,hb0];simp[go_sem]
 have k5:W.cell? ⟨b2,1,none⟩=some (.slice none 0 0):=by rw[hW,hb2,hb1,hb0];simp[go_sem]
 have f0:W.frozen? ⟨b0,0,none⟩=false:=by rw[hW,hb0];simp[go_sem]
 have f1:W.frozen? ⟨b0,1,none⟩=false:=by rw[hW,hb0];simp[go_sem]
 have f2:W.frozen? ⟨b1,0,none⟩=false:=by rw[hW,hb1,hb0];simp[go_sem]
 have f3:W.frozen? ⟨b1,1,none⟩=false:=by rw[hW,hb1,hb0];simp[go_sem]
 have f4:W.frozen? ⟨b2,0,none⟩=false:=by rw[hW,hb2,hb1,hb0];simp[go_sem]
 have f5:W.frozen? ⟨b2,1,none⟩=false:=by rw[hW,hb2,hb1,hb0];simp[go_sem]
 have hbW:Below w.heap.size w W:=by rw[hW];exact bto (Zh _ _) (bto (Zh _ _) (Zh _ _))
 have l2:b2<W.heap.size:=by rw[hW,hb2,hb1,hb0];simp
 have l1:b1<W.heap.size:=by omega
 have l0:b0<W.heap.size:=by omega
 have w0:w.heap.size<=b0:=by omega
 have wz2:w.heap.size<=b2:=by omega
 have d01:¬b0=b1:=by omega
 have d02:¬b0=b2:=by omega
 have d12:¬b1=b2:=by omega
 have d10:¬b1=b0:=by omega
 have d20:¬b2=b0:=by omega
 have d21:¬b2=b1:=by omega
 have HO1:=Lh (own_below h hbW);have HO2:=Lh (own_below h' hbW);have HW:=Lh hW;have HB:Hid (b0=w.heap.size/\b1=w.heap.size+1/\b2=w.heap.size+1+1):=⟨hb0,by omega,by omega⟩
 have HLX:=Lh (ZG h);have HLY:=Lh (ZG h');clear hW h h' hb0 hb1 hb2;go_enter func54,ntmps54;go_wp2_with fail;rw[<-HW.out,<-HB.out.2.2,<-HB.out.2.1,<-HB.out.1];go_wp2_with fail
 go_region_held3 (fun w'=>w'.cell? ⟨b0,0,none⟩=some (.bool ng)/\w'.cell? ⟨b0,1,none⟩=some (.slice A n c)/\w'.cell? ⟨b1,1,none⟩=some (.slice A' n' c'))
  (first
   | go_keep
   | (dsimp only;exact⟨q0,q1,q3⟩))
  (first
   | (go_at_call 125;refine (Oc A A' n c n' c' _ _ _ _ _ (by exact HO1.out) (by exact HO2.out) (by omega) (by omega)).mono ?_;rintro e w3 ⟨v,rfl,hm,hb3⟩;obtain⟨A3,c3,rfl⟩:=hm.form;have hbc:=bto (bdr W) hb3;have q0:=(hbc.cell (p:=⟨b0,0,none⟩) l0).trans k0;have q1:=(hbc.cell (p:=⟨b0,1,none⟩) l0).trans k1;have q3:=(hbc.cell (p:=⟨b1,1,none⟩) l1).trans k3;have q4:=(hbc.cell (p:=⟨b2,0,none⟩) l2).trans k4;have q5:=(hbc.cell (p:=⟨b2,1,none⟩) l2).trans k5;have g4:=(hbc.frozen (p:=⟨b2,0,none⟩) l2).trans f4;have g5:=(hbc.frozen (p:=⟨b2,1,none⟩) l2).trans f5))
 go_wp2;refine bodyPost_ret (v:=.agg #[.bool ng,.slice A3 (grp (x+y)).length c3]) (by simp[results,results54,go_sem,q4,q5]) rfl ?_
 have hle:=QZ x y;refine⟨ng,x+y,A3,_,c3,rfl,rfl,?_,YC (US hm (VY hm (by exact l2)) _ _) (Nat.zero_le _),ZS (bto hbW hbc) wz2 _ _⟩
 have:=HLX.out;have:=HLY.out;omega
theorem Zbl (ng:Bool) (A A':Option Addr) (n c n' c':Nat) (x y:Nat) (w:World) (base base':Nat) (h:w.ownsRow base 207 1 (.slice A n c) n (U (grp x))) (h':w.ownsRow base' 207 1 (.slice A' n' c') n' (U (grp y)))
  (hn:n<=100000000) (hxy:y<=x) :
  Calls prog 54 #[.agg #[.bool ng,.slice A n c],.agg #[.bool !ng,.slice A' n' c']] w (Ox w (sgn ng (x-y)) 300000000):=by
 have hge:=Jc hxy;have hge2:¬Wi x y<0:=fun h1=>by have:=(XN x y).1 h1;omega
 cases ng
 ·show Calls prog 54 #[.agg #[.bool false,.slice A n c],.agg #[.bool true,.slice A' n' c']] w (Ox w (sgn false (x-y)) 300000000);obtain⟨W,hW⟩:∃W,W=((w.alloc (.cells #[.bool false,.slice A n c] 122)).alloc (.cells #[.bool true,.slice A' n' c'] 122)).alloc (.cells #[.bool false,.slice none 0 0] 122):=⟨_,rfl⟩
  obtain⟨b0,hb0⟩:∃b,b=w.heap.size:=⟨_,rfl⟩
  obtain⟨b1,hb1⟩:∃b,b=b0+1:=⟨_,rfl⟩
  obtain⟨b2,hb2⟩:∃b,b=b1+1:=⟨_,rfl⟩
  have k0:W.cell? ⟨b0,0,none⟩=some (.bool false):=by rw[hW,hb0];simp[go_sem]
  have k1:W.cell? ⟨b0,1,none⟩=some (.slice A n c):=by rw[hW,hb0];simp[go_sem]
  have k2:W.cell? ⟨b1,0,none⟩=some (.bool true):=by rw[hW,hb1,hb0];simp[go_sem]
  have k3:W.cell? ⟨b1,1,none⟩=some (.slice A' n' c'):=by rw[hW,hb1,hb0];simp[go_sem]
  have k4:W.cell? ⟨b2,0,none⟩=some (.bool false):=by rw[hW,hb2,hb1,hb0];simp[go_sem]
  have k5:W.cell? ⟨b2,1,none⟩=some (.slice none 0 0):=by rw[hW,hb2,hb1,hb0];simp[go_sem]
  have f0:W.frozen? ⟨b0,0,none⟩=false:=by rw[hW,hb0];simp[go_sem]
  have f1:W.frozen? ⟨b0,1,none⟩=false:=by rw[hW,hb0];simp[go_sem]
  have f2:W.frozen? ⟨b1,0,none⟩=false:=by rw[hW,hb1,hb0];simp[go_sem]
  have f3:W.frozen? ⟨b1,1,none⟩=false:=by rw[hW,hb1,hb0];simp[go_sem]
  have f4:W.frozen? ⟨b2,0,none⟩=false:=by rw[hW,hb2,hb1,hb0];simp[go_sem]
  have f5:W.frozen? ⟨b2,1,none⟩=false:=by rw[hW,hb2,hb1,hb0];simp[go_sem]
  have hbW:Below w.heap.size w W:=by rw[hW];exact bto (Zh _ _) (bto (Zh _ _) (Zh _ _))
  have l2:b2<W.heap.size:=by rw[hW,hb2,hb1,hb0];simp
  have l1:b1<W.heap.size:=by omega
  have l0:b0<W.heap.size:=by omega
  have w0:w.heap.size<=b0:=by omega
  have wz2:w.heap.size<=b2:=by omega
  have d01:¬b0=b1:=by omega
  have d02:¬b0=b2:=by omega
  have d12:¬b1=b2:=by omega
  have d10:¬b1=b0:=by omega
  have d20:¬b2=b0:=by omega
  have d21:¬b2=b1:=by omega
  have HO1:=Lh (own_below h hbW);have HO2:=Lh (own_below h' hbW);have HW:=Lh hW;have HB:Hid (b0=w.heap.size/\b1=w.heap.size+1/\b2=w.heap.size+1+1):=⟨hb0,by omega,by omega⟩
  have HLX:=Lh (ZG h);have HLY:=Lh (ZG h');clear hW h h' hb0 hb1 hb2;go_enter func54,ntmps54;go_wp2_with fail;rw[<-HW.out,<-HB.out.2.2,<-HB.out.2.1,<-HB.out.1];go_wp2_with (go_at_call 126;refine (YU A A' n c n' c' x y _ base base' (by exact HO1.out) (by exact HO2.out)).mono ?_;rintro e w1 ⟨rfl,kd,rfl⟩)
  go_region_held3 (fun w'=>w'.cell? ⟨b0,0,none⟩=some (.bool false)/\w'.cell? ⟨b0,1,none⟩=some (.slice A n c)/\w'.cell? ⟨b1,1,none⟩=some (.slice A' n' c'))
   (first
    | go_keep
    | (dsimp only;exact⟨q0,q1,q3⟩))
   (first
    | (go_at_call 127;refine (Vq A A' n c n' c' _ _ _ _ _ (by exact HO1.out) (by exact HO2.out) (by omega) hxy).mono ?_;rintro e w3 ⟨v,rfl,hm,hb3⟩;obtain⟨A3,c3,rfl⟩:=hm.form;have hbc:=bto (bto (below_drewN W kd) (bdr _)) hb3;have q0:=(hbc.cell (p:=⟨b0,0,none⟩) l0).trans k0;have q1:=(hbc.cell (p:=⟨b0,1,none⟩) l0).trans k1;have q3:=(hbc.cell (p:=⟨b1,1,none⟩) l1).trans k3;have q4:=(hbc.cell (p:=⟨b2,0,none⟩) l2).trans k4;have q5:=(hbc.cell (p:=⟨b2,1,none⟩) l2).trans k5;have g4:=(hbc.frozen (p:=⟨b2,0,none⟩) l2).trans f4;have g5:=(hbc.frozen (p:=⟨b2,1,none⟩) l2).trans f5))
  go_wp2;refine bodyPost_ret (v:=.agg #[.bool false,.slice A3 (grp (x-y)).length c3]) (by simp[results,results54,go_sem,q4,q5]) rfl ?_
  have hle:=ZD (x-y) x (by omega)
  refine⟨_,x-y,A3,_,c3,rfl,rfl,?_,YC (US hm (VY hm (by exact l2)) _ _) (Nat.zero_le _),ZS (bto hbW hbc) wz2 _ _⟩
  have:=HLX.out;omega
 ·show Calls prog 54 #[.agg #[.bool true,.slice A n c],.agg #[.bool false,.slice A' n' c']] w (Ox w (sgn true (x-y)) 300000000);obtain⟨W,hW⟩:∃W,W=((w.alloc (.cells #[.bool true,.slice A n c] 122)).alloc (.cells #[.bool false,.slice A' n' c'] 122)).alloc (.cells #[.bool false,.slice none 0 0] 122):=⟨_,rfl⟩
  obtain⟨b0,hb0⟩:∃b,b=w.heap.size:=⟨_,rfl⟩
  obtain⟨b1,hb1⟩:∃b,b=b0+1:=⟨_,rfl⟩
  obtain⟨b2,hb2⟩:∃b,b=b1+1:=⟨_,rfl⟩
  have k0:W.cell? ⟨b0,0,none⟩=some (.bool true):=by rw[hW,hb0];simp[go_sem]
  have k1:W.cell? ⟨b0,1,none⟩=some (.slice A n c):=by rw[hW,hb0];simp[go_sem]
  have k2:W.cell? ⟨b1,0,none⟩=some (.bool false):=by rw[hW,hb1,hb0];simp[go_sem]
  have k3:W.cell? ⟨b1,1,none⟩=some (.slice A' n' c'):=by rw[hW,hb1,hb0];simp[go_sem]
  have k4:W.cell? ⟨b2,0,none⟩=some (.bool false):=by rw[hW,hb2,hb1,hb0];simp[go_sem]
  have k5:W.cell? ⟨b2,1,none⟩=some (.slice none 0 0):=by rw[hW,hb2,hb1,hb0];simp[go_sem]
  have f0:W.frozen? ⟨b0,0,none⟩=false:=by rw[hW,hb0];simp[go_sem]
  have f1:W.frozen? ⟨b0,1,none⟩=false:=by rw[hW,hb0];simp[go_sem]
  have f2:W.frozen? ⟨b1,0,none⟩=false:=by rw[hW,hb1,hb0];simp[go_sem]
  have f3:W.frozen? ⟨b1,1,none⟩=false:=by rw[hW,hb1,hb0];simp[go_sem]
  have f4:W.frozen? ⟨b2,0,none⟩=false:=by rw[hW,hb2,hb1,hb0];simp[go_sem]
  have f5:W.frozen? ⟨b2,1,none⟩=false:=by rw[hW,hb2,hb1,hb0];simp[go_sem]
  have hbW:Below w.heap.size w W:=by rw[hW];exact bto (Zh _ _) (bto (Zh _ _) (Zh _ _))
  have l2:b2<W.heap.size:=by rw[hW,hb2,hb1,hb0];simp
  have l1:b1<W.heap.size:=by omega
  have l0:b0<W.heap.size:=by omega
  have w0:w.heap.size<=b0:=by omega
  have wz2:w.heap.size<=b2:=by omega
  have d01:¬b0=b1:=by omega
  have d02:¬b0=b2:=by omega
  have d12:¬b1=b2:=by omega
  have d10:¬b1=b0:=by omega
  have d20:¬b2=b0:=by omega
  have d21:¬b2=b1:=by omega
  have HO1:=Lh (own_below h hbW);have HO2:=Lh (own_below h' hbW);have HW:=Lh hW;have HB:Hid (b0=w.heap.size/\b1=w.heap.size+1/\b2=w.heap.size+1+1):=⟨hb0,by omega,by omega⟩
  have HLX:=Lh (ZG h);have HLY:=Lh (ZG h');clear hW h h' hb0 hb1 hb2;go_enter func54,ntmps54;go_wp2_with fail;rw[<-HW.out,<-HB.out.2.2,<-HB.out.2.1,<-HB.out.1];go_wp2_with (go_at_call 126;refine (YU A A' n c n' c' x y _ base base' (by exact HO1.out) (by exact HO2.out)).mono ?_;rintro e w1 ⟨rfl,kd,rfl⟩)
  go_region_held3 (fun w'=>w'.cell? ⟨b0,0,none⟩=some (.bool true)/\w'.cell? ⟨b0,1,none⟩=some (.slice A n c)/\w'.cell? ⟨b1,1,none⟩=some (.slice A' n' c'))
   (first
    | go_keep
    | (dsimp only;exact⟨q0,q1,q3⟩))
   (first
    | (go_at_call 127;refine (Vq A A' n c n' c' _ _ _ _ _ (by exact HO1.out) (by exact HO2.out) (by omega) hxy).mono ?_;rintro e w3 ⟨v,rfl,hm,hb3⟩;obtain⟨A3,c3,rfl⟩:=hm.form;have hbc:=bto (bto (below_drewN W kd) (bdr _)) hb3;have q0:=(hbc.cell (p:=⟨b0,0,none⟩) l0).trans k0;have q1:=(hbc.cell (p:=⟨b0,1,none⟩) l0).trans k1;have q3:=(hbc.cell (p:=⟨b1,1,none⟩) l1).trans k3;have q4:=(hbc.cell (p:=⟨b2,0,none⟩) l2).trans k4;have q5:=(hbc.cell (p:=⟨b2,1,none⟩) l2).trans k5;have g4:=(hbc.frozen (p:=⟨b2,0,none⟩) l2).trans f4;have g5:=(hbc.frozen (p:=⟨b2,1,none⟩) l2).trans f5))
  go_wp2;refine bodyPost_ret (v:=.agg #[.bool true,.slice A3 (grp (x-y)).length c3]) (by simp[results,results54,go_sem,q4,q5]) rfl ?_
  have hle:=ZD (x-y) x (by omega)
  refine⟨_,x-y,A3,_,c3,rfl,rfl,?_,YC (US hm (VY hm (by exact l2)) _ _) (Nat.zero_le _),ZS (bto hbW hbc) wz2 _ _⟩
  have:=HLX.out;omega
theorem add_lt (ng:Bool) (A A':Option Addr) (n c n' c':Nat) (x y:Nat) (w:World) (base base':Nat) (h:w.ownsRow base 207 1 (.slice A n c) n (U (grp x))) (h':w.ownsRow base' 207 1 (.slice A' n' c') n' (U (grp y)))
  (hn:n'<=100000000) (hxy:x<y) :
  Calls prog 54 #[.agg #[.bool ng,.slice A n c],.agg #[.bool !ng,.slice A' n' c']] w (Ox w (sgn (!ng) (y-x)) 300000000):=by
 have hlt:=Ek hxy;have hlt2:Wi x y<0:=(XN x y).2 hxy;cases ng
 ·show Calls prog 54 #[.agg #[.bool false,.slice A n c],.agg #[.bool true,.slice A' n' c']] w (Ox w (sgn true (y-x)) 300000000);obtain⟨W,hW⟩:∃W,W=((w.alloc (.cells #[.bool false,.slice A n c] 122)).alloc (.cells #[.bool true,.slice A' n' c'] 122)).alloc (.cells #[.bool false,.slice none 0 0] 122):=⟨_,rfl⟩
  obtain⟨b0,hb0⟩:∃b,b=w.heap.size:=⟨_,rfl⟩
  obtain⟨b1,hb1⟩:∃b,b=b0+1:=⟨_,rfl⟩
  obtain⟨b2,hb2⟩:∃b,b=b1+1:=⟨_,rfl⟩
  have k0:W.cell? ⟨b0,0,none⟩=some (.bool false):=by rw[hW,hb0];simp[go_sem]
  have k1:W.cell? ⟨b0,1,none⟩=some (.slice A n c):=by rw[hW,hb0];simp[go_sem]
  have k2:W.cell? ⟨b1,0,none⟩=some (.bool true):=by rw[hW,hb1,hb0];simp[go_sem]
  have k3:W.cell? ⟨b1,1,none⟩=some (.slice A' n' c'):=by rw[hW,hb1,hb0];simp[go_sem]
  have k4:W.cell? ⟨b2,0,none⟩=some (.bool false):=by rw[hW,hb2,hb1,hb0];simp[go_sem]
  have k5:W.cell? ⟨b2,1,none⟩=some (.slice none 0 0):=by rw[hW,hb2,hb1,hb0];simp[go_sem]
  have f0:W.frozen? ⟨b0,0,none⟩=false:=by rw[hW,hb0];simp[go_sem]
  have f1:W.frozen? ⟨b0,1,none⟩=false:=by rw[hW,hb0];simp[go_sem]
  have f2:W.frozen? ⟨b1,0,none⟩=false:=by rw[hW,hb1,hb0];simp[go_sem]
  have f3:W.frozen? ⟨b1,1,none⟩=false:=by rw[hW,hb1,hb0];simp[go_sem]
  have f4:W.frozen? ⟨b2,0,none⟩=false:=by rw[hW,hb2,hb1,hb0];simp[go_sem]
  have f5:W.frozen? ⟨b2,1,none⟩=false:=by rw[hW,hb2,hb1,hb0];simp[go_sem]
  have hbW:Below w.heap.size w W:=by rw[hW];exact bto (Zh _ _) (bto (Zh _ _) (Zh _ _))
  have l2:b2<W.heap.size:=by rw[hW,hb2,hb1,hb0];simp
  have l1:b1<W.heap.size:=by omega
  have l0:b0<W.heap.size:=by omega
  have w0:w.heap.size<=b0:=by omega
  have wz2:w.heap.size<=b2:=by omega
  have d01:¬b0=b1:=by omega
  have d02:¬b0=b2:=by omega
  have d12:¬b1=b2:=by omega
  have d10:¬b1=b0:=by omega
  have d20:¬b2=b0:=by omega
  have d21:¬b2=b1:=by omega
  have HO1:=Lh (own_below h hbW);have HO2:=Lh (own_below h' hbW);have HW:=Lh hW;have HB:Hid (b0=w.heap.size/\b1=w.heap.size+1/\b2=w.heap.size+1+1):=⟨hb0,by omega,by omega⟩
  have HLX:=Lh (ZG h);have HLY:=Lh (ZG h');have HX:=Lh h;have HY:=Lh h';have w01:b0<=b1:=by omega
  clear hW h h' hb0 hb1 hb2;go_enter func54,ntmps54;go_wp2_with fail;rw[<-HW.out,<-HB.out.2.2,<-HB.out.2.1,<-HB.out.1];go_wp2_with (go_at_call 126;refine (YU A A' n c n' c' x y _ base base' (by exact HO1.out) (by exact HO2.out)).mono ?_;rintro e w1 ⟨rfl,kd,rfl⟩)
  obtain⟨V,hV⟩:∃V,V=((((W.drewN kd).setCell ⟨b0,0,none⟩ (.bool true)).setCell ⟨b0,1,none⟩ (.slice A' n' c')).setCell ⟨b1,0,none⟩ (.bool false)).setCell ⟨b1,1,none⟩ (.slice A n c):=⟨_,rfl⟩
  have hbV:Below w.heap.size w V:=by rw[hV];exact ((((Mj hbW kd).setCell (p:=⟨b0,0,none⟩) w0 _).setCell (p:=⟨b0,1,none⟩) w0 _).setCell (p:=⟨b1,0,none⟩) (by exact Nt w0 w01) _).setCell (p:=⟨b1,1,none⟩) (by exact Nt w0 w01) _
  have hsV:V.heap.size=W.heap.size:=by rw[hV];simp[World.setCell]
  have k0:V.cell? ⟨b0,0,none⟩=some (.bool true):=by rw[hV];simp[go_sem,k0]
  have k1:V.cell? ⟨b0,1,none⟩=some (.slice A' n' c'):=by rw[hV];simp[go_sem,k1]
  have k3:V.cell? ⟨b1,1,none⟩=some (.slice A n c):=by rw[hV];simp[go_sem,k3]
  have k4:V.cell? ⟨b2,0,none⟩=some (.bool false):=by rw[hV];simp[go_sem,k4]
  have k5:V.cell? ⟨b2,1,none⟩=some (.slice none 0 0):=by rw[hV];simp[go_sem,k5]
  have f4:V.frozen? ⟨b2,0,none⟩=false:=by rw[hV];simp[go_sem,f4]
  have f5:V.frozen? ⟨b2,1,none⟩=false:=by rw[hV];simp[go_sem,f5]
  have l0:b0<V.heap.size:=by rw[hsV];exact l0
  have l1:b1<V.heap.size:=by rw[hsV];exact l1
  have l2:b2<V.heap.size:=by rw[hsV];exact l2
  have HO1:=Lh (own_below HX.out hbV);have HO2:=Lh (own_below HY.out hbV);rw[<-hV];clear hV hsV
  go_region_held3 (fun w'=>w'.cell? ⟨b0,0,none⟩=some (.bool true)/\w'.cell? ⟨b0,1,none⟩=some (.slice A' n' c')/\w'.cell? ⟨b1,1,none⟩=some (.slice A n c))
   (first
    | go_keep
    | (dsimp only;exact⟨q0,q1,q3⟩))
   (first
    | (go_at_call 127;refine (Vq A' A n' c' n c _ _ _ _ _ (by exact HO2.out) (by exact HO1.out) (by omega) (Nat.le_of_lt hxy)).mono ?_;rintro e w3 ⟨v,rfl,hm,hb3⟩;obtain⟨A3,c3,rfl⟩:=hm.form;have hbc:=bto (bdr V) hb3;have q0:=(hbc.cell (p:=⟨b0,0,none⟩) l0).trans k0;have q1:=(hbc.cell (p:=⟨b0,1,none⟩) l0).trans k1;have q3:=(hbc.cell (p:=⟨b1,1,none⟩) l1).trans k3;have q4:=(hbc.cell (p:=⟨b2,0,none⟩) l2).trans k4;have q5:=(hbc.cell (p:=⟨b2,1,none⟩) l2).trans k5;have g4:=(hbc.frozen (p:=⟨b2,0,none⟩) l2).trans f4;have g5:=(hbc.frozen (p:=⟨b2,1,none⟩) l2).trans f5))
  go_wp2;refine bodyPost_ret (v:=.agg #[.bool true,.slice A3 (grp (y-x)).length c3]) (by simp[results,results54,go_sem,q4,q5]) rfl ?_
  have hle:=ZD (y-x) y (by omega)
  refine⟨_,y-x,A3,_,c3,rfl,rfl,?_,YC (US hm (VY hm (by exact l2)) _ _) (Nat.zero_le _),ZS (bto hbV hbc) wz2 _ _⟩
  have:=HLY.out;omega
 ·show Calls prog 54 #[.agg #[.bool true,.slice A n c],.agg #[.bool false,.slice A' n' c']] w (Ox w (sgn false (y-x)) 300000000);obtain⟨W,hW⟩:∃W,W=((w.alloc (.cells #[.bool true,.slice A n c] 122)).alloc (.cells #[.bool false,.slice A' n' c'] 122)).alloc (.cells #[.bool false,.slice none 0 0] 122):=⟨_,rfl⟩
  obtain⟨b0,hb0⟩:∃b,b=w.heap.size:=⟨_,rfl⟩
  obtain⟨b1,hb1⟩:∃b,b=b0+1:=⟨_,rfl⟩
  obtain⟨b2,hb2⟩:∃b,b=b1+1:=⟨_,rfl⟩
  have k0:W.cell? ⟨b0,0,none⟩=some (.bool true):=by rw[hW,hb0];simp[go_sem]
  have k1:W.cell? ⟨b0,1,none⟩=some (.slice A n c):=by rw[hW,hb0];simp[go_sem]
  have k2:W.cell? ⟨b1,0,none⟩=some (.bool false):=by rw[hW,hb1,hb0];simp[go_sem]
  have k3:W.cell? ⟨b1,1,none⟩=some (.slice A' n' c'):=by rw[hW,hb1,hb0];simp[go_sem]
  have k4:W.cell? ⟨b2,0,none⟩=some (.bool false):=by rw[hW,hb2,hb1,hb0];simp[go_sem]
  have k5:W.cell? ⟨b2,1,none⟩=some (.slice none 0 0):=by rw[hW,hb2,hb1,hb0];simp[go_sem]
  have f0:W.frozen? ⟨b0,0,none⟩=false:=by rw[hW,hb0];simp[go_sem]
  have f1:W.frozen? ⟨b0,1,none⟩=false:=by rw[hW,hb0];simp[go_sem]
  have f2:W.frozen? ⟨b1,0,none⟩=false:=by rw[hW,hb1,hb0];simp[go_sem]
  have f3:W.frozen? ⟨b1,1,none⟩=false:=by rw[hW,hb1,hb0];simp[go_sem]
  have f4:W.frozen? ⟨b2,0,none⟩=false:=by rw[hW,hb2,hb1,hb0];simp[go_sem]
  have f5:W.frozen? ⟨b2,1,none⟩=false:=by rw[hW,hb2,hb1,hb0];simp[go_sem]
  have hbW:Below w.heap.size w W:=by rw[hW];exact bto (Zh _ _) (bto (Zh _ _) (Zh _ _))
  have l2:b2<W.heap.size:=by rw[hW,hb2,hb1,hb0];simp
  have l1:b1<W.heap.size:=by omega
  have l0:b0<W.heap.size:=by omega
  have w0:w.heap.size<=b0:=by omega
  have wz2:w.heap.size<=b2:=by omega
  have d01:¬b0=b1:=by omega
  have d02:¬b0=b2:=by omega
  have d12:¬b1=b2:=by omega
  have d10:¬b1=b0:=by omega
  have d20:¬b2=b0:=by omega
  have d21:¬b2=b1:=by omega
  have HO1:=Lh (own_below h hbW);have HO2:=Lh (own_below h' hbW);have HW:=Lh hW;have HB:Hid (b0=w.heap.size/\b1=w.heap.size+1/\b2=w.heap.size+1+1):=⟨hb0,by omega,by omega⟩
  have HLX:=Lh (ZG h);have HLY:=Lh (ZG h');have HX:=Lh h;have HY:=Lh h';have w01:b0<=b1:=by omega
  clear hW h h' hb0 hb1 hb2;go_enter func54,ntmps54;go_wp2_with fail;rw[<-HW.out,<-HB.out.2.2,<-HB.out.2.1,<-HB.out.1];go_wp2_with (go_at_call 126;refine (YU A A' n c n' c' x y _ base base' (by exact HO1.out) (by exact HO2.out)).mono ?_;rintro e w1 ⟨rfl,kd,rfl⟩)
  obtain⟨V,hV⟩:∃V,V=((((W.drewN kd).setCell ⟨b0,0,none⟩ (.bool false)).setCell ⟨b0,1,none⟩ (.slice A' n' c')).setCell ⟨b1,0,none⟩ (.bool true)).setCell ⟨b1,1,none⟩ (.slice A n c):=⟨_,rfl⟩
  have hbV:Below w.heap.size w V:=by rw[hV];exact ((((Mj hbW kd).setCell (p:=⟨b0,0,none⟩) w0 _).setCell (p:=⟨b0,1,none⟩) w0 _).setCell (p:=⟨b1,0,none⟩) (by exact Nt w0 w01) _).setCell (p:=⟨b1,1,none⟩) (by exact Nt w0 w01) _
  have hsV:V.heap.size=W.heap.size:=by rw[hV];simp[World.setCell]
  have k0:V.cell? ⟨b0,0,none⟩=some (.bool false):=by rw[hV];simp[go_sem,k0]
  have k1:V.cell? ⟨b0,1,none⟩=some (.slice A' n' c'):=by rw[hV];simp[go_sem,k1]
  have k3:V.cell? ⟨b1,1,none⟩=some (.slice A n c):=by rw[hV];simp[go_sem,k3]
  have k4:V.cell? ⟨b2,0,none⟩=some (.bool false):=by rw[hV];simp[go_sem,k4]
  have k5:V.cell? ⟨b2,1,none⟩=some (.slice none 0 0):=by rw[hV];simp[go_sem,k5]
  have f4:V.frozen? ⟨b2,0,none⟩=false:=by rw[hV];simp[go_sem,f4]
  have f5:V.frozen? ⟨b2,1,none⟩=false:=by rw[hV];simp[go_sem,f5]
  have l0:b0<V.heap.size:=by rw[hsV];exact l0
  have l1:b1<V.heap.size:=by rw[hsV];exact l1
  have l2:b2<V.heap.size:=by rw[hsV];exact l2
  have HO1:=Lh (own_below HX.out hbV);have HO2:=Lh (own_below HY.out hbV);rw[<-hV];clear hV hsV
  go_region_held3 (fun w'=>w'.cell? ⟨b0,0,none⟩=some (.bool false)/\w'.cell? ⟨b0,1,none⟩=some (.slice A' n' c')/\w'.cell? ⟨b1,1,none⟩=some (.slice A n c))
   (first
    | go_keep
    | (dsimp only;exact⟨q0,q1,q3⟩))
   (first
    | (go_at_call 127;refine (Vq A' A n' c' n c _ _ _ _ _ (by exact HO2.out) (by exact HO1.out) (by omega) (Nat.le_of_lt hxy)).mono ?_;rintro e w3 ⟨v,rfl,hm,hb3⟩;obtain⟨A3,c3,rfl⟩:=hm.form;have hbc:=bto (bdr V) hb3;have q0:=(hbc.cell (p:=⟨b0,0,none⟩) l0).trans k0;have q1:=(hbc.cell (p:=⟨b0,1,none⟩) l0).trans k1;have q3:=(hbc.cell (p:=⟨b1,1,none⟩) l1).trans k3;have q4:=(hbc.cell (p:=⟨b2,0,none⟩) l2).trans k4;have q5:=(hbc.cell (p:=⟨b2,1,none⟩) l2).trans k5;have g4:=(hbc.frozen (p:=⟨b2,0,none⟩) l2).trans f4;have g5:=(hbc.frozen (p:=⟨b2,1,none⟩) l2).trans f5))
  go_wp2;refine bodyPost_ret (v:=.agg #[.bool false,.slice A3 (grp (y-x)).length c3]) (by simp[results,results54,go_sem,q4,q5]) rfl ?_
  have hle:=ZD (y-x) y (by omega)
  refine⟨_,y-x,A3,_,c3,rfl,rfl,?_,YC (US hm (VY hm (by exact l2)) _ _) (Nat.zero_le _),ZS (bto hbV hbc) wz2 _ _⟩
  have:=HLY.out;omega
theorem Ox.eq {w:World} {z z':Int} {b:Nat} {e:Ending} {w':World} (h:Ox w z b e w') (hz:z=z'):Ox w z' b e w':=by rw[<-hz];exact h
theorem IB (nx ny:Bool) (A A':Option Addr) (n c n' c':Nat) (x y:Nat) (w:World) (base base':Nat) (h:w.ownsRow base 207 1 (.slice A n c) n (U (grp x))) (h':w.ownsRow base' 207 1 (.slice A' n' c') n' (U (grp y)))
  (hn:n<=100000000) (hn':n'<=100000000) :
  Calls prog 54 #[.agg #[.bool nx,.slice A n c],.agg #[.bool ny,.slice A' n' c']] w (Ox w (sgn nx x+sgn ny y) 300000000):=by
 by_cases hs:ny=nx
 ·subst hs;refine (Es ny A A' n c n' c' x y w base base' h h' hn hn').mono fun e w' h1=>h1.eq ?_
  unfold sgn;cases ny<;>simp<;>omega
 ·have hs':ny = !nx:=by cases nx<;>cases ny<;>simp_all
  subst hs';rcases Nat.lt_or_ge x y with hlt|hge
  ·refine (add_lt nx A A' n c n' c' x y w base base' h h' hn' hlt).mono fun e w' h1=>h1.eq ?_
   unfold sgn;cases nx<;>simp<;>omega
  ·refine (Zbl nx A A' n c n' c' x y w base base' h h' hn hge).mono fun e w' h1=>h1.eq ?_
   unfold sgn;cases nx<;>simp<;>omega
theorem Et (l l':List UInt8) (w:World) (hl:l.length<=100000000) (hl':l'.length<=100000000) (hG:Yb w) :
  Calls prog 15 #[.string ⟨l.toArray⟩,.string ⟨l'.toArray⟩] w fun e w'=>e=.returned (.string ⟨(canon (val l+val l')).toArray⟩)/\Below w.heap.size w w':=by
 go_enter func15,ntmps15;go_wp2_with fail
 refine (Ys l _ hl).mono ?_
 rintro e w1 ⟨A,n,c,rfl,hn,ho1,hb1⟩;go_wp2_with fail
 refine (Ys l' _ hl').mono ?_
 rintro e w2 ⟨A',n',c',rfl,hn',ho2,hb2⟩;go_wp2_with fail
 refine (IB _ _ A A' n c n' c' _ _ _ _ _ (by exact own_below ho1 hb2) (by exact ho2) hn hn').mono ?_
 rintro e w3 ⟨neg,m,A3,n3,c3,rfl,hz,hn3,ho3,hb3⟩;have HZ:Hid (sgn neg m=val l+val l'):=by show _=_;rw[hz,Vd,Vd]
 clear hz;go_wp2_with fail
 refine (Yr neg A3 n3 c3 m _ _ (by exact ho3) (by exact ((hG.below hb1).below hb2).below hb3) (by omega)).mono ?_
 rintro e w4 ⟨rfl,hb4⟩;go_wp2_with fail;go_ret;exact⟨by rw[<-HZ.out];rfl,bto hb1 (bto hb2 (bto hb3 hb4))⟩
theorem Lj (l l':List UInt8) (w:World) (hl:l.length<=100000000) (hl':l'.length<=100000000) (hG:Yb w) :
  Calls prog 22 #[.string ⟨l.toArray⟩,.string ⟨l'.toArray⟩] w fun e w'=>e=.returned (.string ⟨(canon (val l-val l')).toArray⟩)/\Below w.heap.size w w':=by
 go_enter func22,ntmps22;go_wp2_with fail
 refine (Ys l' _ hl').mono ?_
 rintro e w1 ⟨A',n',c',rfl,hn',ho1,hb1⟩;go_wp2_with fail;obtain⟨W,hW⟩:∃W,W=w1.alloc (.cells #[.bool !Z1 l',.slice A' n' c'] 122):=⟨_,rfl⟩
 have k0:W.cell? ⟨w1.heap.size,0,none⟩=some (.bool !Z1 l'):=by rw[hW];simp[go_sem]
 have k1:W.cell? ⟨w1.heap.size,1,none⟩=some (.slice A' n' c'):=by rw[hW];simp[go_sem]
 have hbW:Below w1.heap.size w1 W:=by rw[hW];exact Zh _ _
 have l0:w1.heap.size<W.heap.size:=by rw[hW];simp
 rw[<-hW];have HO:=Lh (own_below ho1 hbW);have HGW:=Lh ((hG.below hb1).below hbW);clear hW ho1 hG
 go_region_held3 (fun w'=>w'.cell? ⟨w1.heap.size,0,none⟩=some (.bool !Z1 l')/\w'.cell? ⟨w1.heap.size,1,none⟩=some (.slice A' n' c'))
  (first
   | go_keep
   | (dsimp only;exact⟨q0,q1⟩))
  (first
   | (go_at_call 55;refine (Ys l _ hl).mono ?_;rintro e w2 ⟨A,n,c,rfl,hn,ho2,hb2⟩;have hbc:=bto (bdr W) hb2;have q0:=(hbc.cell (p:=⟨w1.heap.size,0,none⟩) l0).trans k0;have q1:=(hbc.cell (p:=⟨w1.heap.size,1,none⟩) l0).trans k1)
   | (go_at_call 54;refine (IB _ _ A A' n c n' c' _ _ _ _ _ (by exact ho2) (by exact own_below HO.out hbc) hn hn').mono ?_;rintro e w3 ⟨neg,m,A3,n3,c3,rfl,hz,hn3,ho3,hb3⟩;have q0:=(hb3.cell (p:=⟨w1.heap.size,0,none⟩) (Nat.lt_of_lt_of_le l0 hbc.size)).trans q0;have q1:=(hb3.cell (p:=⟨w1.heap.size,1,none⟩) (Nat.lt_of_lt_of_le l0 hbc.size)).trans q1;have hbc:=bto hbc hb3;have HZ:=Lh hz;clear hz)
   | (go_at_call 56;refine (Yr neg A3 n3 c3 m _ _ (by exact ho3) (by exact HGW.out.below hbc) (by omega)).mono ?_;rintro e w4 ⟨rfl,hb4⟩;have q0:=(hb4.cell (p:=⟨w1.heap.size,0,none⟩) (Nat.lt_of_lt_of_le l0 hbc.size)).trans q0;have q1:=(hb4.cell (p:=⟨w1.heap.size,1,none⟩) (Nat.lt_of_lt_of_le l0 hbc.size)).trans q1;have hbc:=bto hbc hb4))
 go_wp2;go_ret;refine⟨?_,bto hb1 (bto hbW hbc)⟩
 have:sgn neg m=val l-val l':=by rw[HZ.out,Vd,IA];omega
 rw[<-this];rfl
theorem Eu (l:List UInt8):(WH l).length<=l.length:=by
 unfold WH sig
 split
 ·exact Nt (List.dropWhile_sublist _).length_le (P8 l)
 ·simp
theorem Xr (l:List UInt8) (w:World) (hl:l.length<=1000000) :
  Calls prog 139 #[.string ⟨l.toArray⟩] w fun e w'=>e=.returned (.string ⟨(canon (val l)).toArray⟩)/\Below w.heap.size w w':=by
 rw[Gj];have hdl:=Eu l;have hadd:=Iw [45] (WH l) (by simp) (by omega)
 by_cases hb:Z1 l=true
 ·rw[if_pos hb];go_enter func139,ntmps139;go_wp2_with (go_at_call 128;refine (TW l _ (by omega)).mono ?_;rintro e w1 ⟨rfl,hb1⟩)
  go_ret;exact⟨rfl,hb1⟩
 ·have hb':Z1 l=false:=by simpa using hb
  rw[if_neg hb];go_enter func139,ntmps139;go_wp2_with (go_at_call 128;refine (TW l _ (by omega)).mono ?_;rintro e w1 ⟨rfl,hb1⟩)
  go_ret;exact⟨rfl,hb1⟩
theorem Jj (l:List UInt8) (w:World) (hl:l.length<=1000000) :
  Calls prog 103 #[.string ⟨l.toArray⟩] w fun e w'=>e=.returned (.int .i64 (if l=canon (val l) then 0 else 1))/\Below w.heap.size w w':=by
 by_cases h:l=canon (val l)
 ·rw[if_pos h];have h1:(l==canon (val l))=true:=by rw[beq_iff_eq];exact h
  have HE:=Lh h;clear h;go_enter func103,ntmps103;go_wp2_with (go_at_call 139;refine (Xr l _ hl).mono ?_;rintro e w1 ⟨rfl,hb1⟩);go_ret;exact⟨rfl,hb1⟩
 ·rw[if_neg h];have h1:(l==canon (val l))=false:=by rw[Bn];exact h
  have HE:=Lh h;clear h;go_enter func103,ntmps103;go_wp2_with (go_at_call 139;refine (Xr l _ hl).mono ?_;rintro e w1 ⟨rfl,hb1⟩);go_ret;exact⟨rfl,hb1⟩
theorem Jk (l:List UInt8) (w:World) (hl:l.length<=1000000) :
  Calls prog 322 #[.string ⟨l.toArray⟩] w fun e w'=>e=.returned (.string ⟨(Mq l).toArray⟩)/\Below w.heap.size w w':=by
 unfold Mq
 by_cases h:val l=0
 ·rw[if_pos h];have h1:canon (val l)=[]:=by rw[h];rfl
  have HE:=Lh h;clear h;go_enter func322,ntmps322;go_wp2_with (go_at_call 139;refine (Xr l _ hl).mono ?_;rintro e w1 ⟨rfl,hb1⟩);go_ret;exact⟨rfl,hb1⟩
 ·rw[if_neg h];have h1:(canon (val l)).isEmpty=false:=by rw[List.isEmpty_eq_false_iff];intro e;exact h ((Uh _).1 e)
  have h2:¬canon (val l)=[]:=fun e=>h ((Uh _).1 e)
  have HE:=Lh h;clear h;go_enter func322,ntmps322;go_wp2_with (go_at_call 139;refine (Xr l _ hl).mono ?_;rintro e w1 ⟨rfl,hb1⟩);go_ret;exact⟨rfl,hb1⟩
theorem Ev {l l':List UInt8} (h:Z1 l≠Z1 l'):ZH (val l) (val l')=if Z1 l then -1 else 1:=by
 rw[Xd,Xd] at h;rw[Xd];unfold ZH
 by_cases h1:val l<0<;>by_cases h2:val l'<0<;>simp[h1,h2] at h ⊢<;>omega
theorem Lk {l l':List UInt8} (h:Z1 l=Z1 l'):ZH (val l) (val l')=max (-1) (min (if Z1 l then -Wi (val l).natAbs (val l').natAbs else Wi (val l).natAbs (val l').natAbs) 1):=by
 have h1:=XN (val l).natAbs (val l').natAbs;have h2:=F7 (val l).natAbs (val l').natAbs;rw[Xd,Xd] at h;rw[Xd];have h3:(val l<0↔val l'<0):=by simpa using h
 unfold ZH;generalize Wi (val l).natAbs (val l').natAbs=c at *
 by_cases h4:val l<0
 ·have h5:=h3.1 h4;simp only[h4,decide_true,if_true]
  split
  ·have:0<c:=h2.2 (by omega)
   omega
  ·split
   ·have:c<0:=h1.2 (by omega)
    omega
   ·have a1:¬c<0:=fun h=>by have:=h1.1 h;omega
    have a2:¬0<c:=fun h=>by have:=h2.1 h;omega
    omega
 ·have h5:¬val l'<0:=fun h=>h4 (h3.2 h)
  simp only[h4,decide_false,Bool.false_eq_true,if_false]
  split
  ·have:c<0:=h1.2 (by omega)
   omega
  ·split
   ·have:0<c:=h2.2 (by omega)
    omega
   ·have a1:¬c<0:=fun h=>by have:=h1.1 h;omega
    have a2:¬0<c:=fun h=>by have:=h2.1 h;omega
    omega
theorem Jl {m n b:Nat} (hm:(grp m).length<=b) (hn:(grp n).length<=b) (hb:1<=b) : -(b:Int)<=Wi m n/\Wi m n<=b:=by
 unfold Wi
 split
 ·split
  ·omega
  ·split<;>omega
 ·omega
theorem YV (l l':List UInt8) (w:World) (hl:l.length<=100000000) (hl':l'.length<=100000000) :
  Calls prog 64 #[.string ⟨l.toArray⟩,.string ⟨l'.toArray⟩] w fun e w'=>e=.returned (.int .i64 (ZH (val l) (val l')))/\Below w.heap.size w w':=by
 have hcb:=Jl (m:=(val l).natAbs) (n:=(val l').natAbs) (b:=100000000) (Nt (Wy l) hl) (Nt (Wy l') hl') (by omega)
 obtain⟨cg,hcg⟩:∃cg,cg=Wi (val l).natAbs (val l').natAbs:=⟨_,rfl⟩
 rw[<-hcg] at hcb;obtain⟨hcb1,hcb2⟩:=hcb;have HCG:=Lh hcg;clear hcg;rcases hbl:Z1 l with _|_<;>rcases hbl':Z1 l' with _|_
 all_goals
  have HBL:=Lh hbl;have HBL':=Lh hbl';go_enter func64,ntmps64;go_wp2_with fail
  refine (Ys l _ hl).mono ?_
  rintro e w1 ⟨A,n,c,rfl,hn,ho1,hb1⟩;go_wp2_with fail
  refine (Ys l' _ hl').mono ?_
  rintro e w2 ⟨A',n',c',rfl,hn',ho2,hb2⟩;go_wp2_with fail;have hbx:=bto (Zh w2 (.cells #[.bool (Z1 l),.slice A n c] 122)) (Zh _ (.cells #[.bool (Z1 l'),.slice A' n' c'] 122));rw[hbl,hbl'] at hbx;clear hbl hbl'
  ((refine (YU A A' n c n' c' _ _ _ _ _ (by exact own_below ho1 (bto hb2 hbx)) (by exact own_below ho2 hbx)).mono ?_);rintro e w3 ⟨he,kd,rfl⟩;rw[<-HCG.out] at he;subst he)
  go_wp2_with fail;go_ret;refine⟨Sl ?_,bto hb1 (bto hb2 (bto hbx (below_drewN _ kd)))⟩
  first
   | (rw[Lk (by rw[HBL.out,HBL'.out]),HBL.out,<-HCG.out];simp;done)
   | (rw[Lk (by rw[HBL.out,HBL'.out]),HBL.out,<-HCG.out];rfl)
   | (rw[Ev (by rw[HBL.out,HBL'.out];decide),HBL.out];rfl)
end Go.Proofs.YtpieeldbamklkaaGreatDoor
