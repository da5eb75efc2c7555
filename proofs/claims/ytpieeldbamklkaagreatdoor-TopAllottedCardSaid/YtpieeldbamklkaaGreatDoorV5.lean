/- Texts put together: Sp Ol Om On By St. -/
import Derived.Test.YtpieeldbamklkaaGreatDoorV4
import Derived.Shelf.SlSortCmp.Whole1
import Derived.Shelf.Strconv.ParseIntPublic10
import Derived.Sort.Grow
import Derived.Deep.DeepCutAuto
set_option maxHeartbeats 4000000
set_option maxRecDepth 100000
open Go.Proofs.Tryz
namespace Go.Proofs
open Go.Shelf
def Tryz.laysC174_ren:Go.Shelf.Ren:=⟨fun|174=>321|247=>330|245=>195|287=>194|279=>253|280=>254|281=>255|282=>256|321=>251|322=>252|316=>299|171=>140|205=>300|243=>203|246=>267|283=>258|284=>259|285=>260|286=>261|129=>302|317=>301|318=>303|319=>304|320=>305|337=>326|338=>327|n=>n,fun|9=>9|3=>3|2=>2|75=>209|85=>388|4=>4|167=>327|5=>5|53=>207|175=>210|46=>283|168=>329|37=>214|0=>0|210=>374|21=>21|127=>289|145=>394|143=>392|171=>334|173=>337|212=>378|51=>339|20=>20|213=>379|232=>410|233=>411|80=>222|n=>n,fun|15=>0|16=>1|17=>2|18=>6|19=>7|n=>n⟩
theorem Tryz.laysC174:Go.Proofs.LaysC.n174 prog Tryz.laysC174_ren:={
 mixed:=by kernel_rfl
 f129:=FkR func302
 f171:=FkR func140
 f174:=FkR func321
 f205:=FkR func300
 f243:=FkR func203
 f245:=FkR func195
 f246:=FkR func267
 f247:=FkR func330
 f279:=FkR func253
 f280:=FkR func254
 f281:=FkR func255
 f282:=FkR func256
 f283:=FkR func258
 f284:=FkR func259
 f285:=FkR func260
 f286:=FkR func261
 f287:=FkR func194
 f316:=FkR func299
 f317:=FkR func301
 f318:=FkR func303
 f319:=FkR func304
 f320:=FkR func305
 f321:=FkR func251
 f322:=FkR func252
 f337:=FkR func326
 f338:=FkR func327
 t0:=underlying0
 a0:=isAgg0
 z0:=sizeOf0
 v0:=zeroValue0
 t2:=underlying2
 a2:=isAgg2
 z2:=sizeOf2
 v2:=zeroValue2
 t3:=underlying3
 a3:=isAgg3
 z3:=sizeOf3
 v3:=zeroValue3
 t4:=underlying4
 a4:=isAgg4
 z4:=sizeOf4
 v4:=zeroValue4
 t5:=underlying5
 a5:=isAgg5
 z5:=sizeOf5
 v5:=zeroValue5
 t9:=underlying9
 a9:=isAgg9
 z9:=sizeOf9
 v9:=zeroValue9
 t20:=underlying20
 a20:=isAgg20
 z20:=sizeOf20
 v20:=zeroValue20
 t21:=underlying21
 a21:=isAgg21
 z21:=sizeOf21
 v21:=zeroValue21
 t37:=underlying214
 a37:=isAgg214
 z37:=sizeOf214
 v37:=zeroValue214
 t46:=underlying283
 a46:=isAgg283
 z46:=sizeOf283
 v46:=zeroValue283
 t51:=underlying339
 a51:=isAgg339
 z51:=sizeOf339
 v51:=zeroValue339
 t53:=underlying207
 a53:=isAgg207
 z53:=sizeOf207
 v53:=zeroValue207
 t75:=underlying209
 a75:=isAgg209
 z75:=sizeOf209
 v75:=zeroValue209
 t85:=underlying388
 a85:=isAgg388
 z85:=sizeOf388
 v85:=zeroValue388
 t127:=underlying289
 a127:=isAgg289
 z127:=sizeOf289
 v127:=zeroValue289
 t143:=underlying392
 a143:=isAgg392
 z143:=sizeOf392
 v143:=zeroValue392
 t145:=underlying394
 a145:=isAgg394
 z145:=sizeOf394
 v145:=zeroValue394
 t167:=underlying327
 a167:=isAgg327
 z167:=sizeOf327
 v167:=zeroValue327
 t168:=underlying329
 a168:=isAgg329
 z168:=sizeOf329
 v168:=zeroValue329
 t171:=underlying334
 a171:=isAgg334
 z171:=sizeOf334
 v171:=zeroValue334
 t173:=underlying337
 a173:=isAgg337
 z173:=sizeOf337
 v173:=zeroValue337
 t175:=underlying210
 a175:=isAgg210
 z175:=sizeOf210
 v175:=zeroValue210
 t210:=underlying374
 a210:=isAgg374
 z210:=sizeOf374
 v210:=zeroValue374
 t212:=underlying378
 a212:=isAgg378
 z212:=sizeOf378
 v212:=zeroValue378
 t213:=underlying379
 a213:=isAgg379
 z213:=sizeOf379
 t232:=underlying410
 a232:=isAgg410
 z232:=sizeOf410
 v232:=zeroValue410
 t233:=underlying411
 a233:=isAgg411
 z233:=sizeOf411
 v233:=zeroValue411
 g15:=by kernel_rfl
 g16:=by kernel_rfl
 g17:=by kernel_rfl
 g18:=by kernel_rfl
 g19:=by kernel_rfl
 t80:=underlying222
 a80:=isAgg222
 z80:=sizeOf222
 v80:=zeroValue222
 i0:=by kernel_rfl
 i2:=by kernel_rfl
 i3:=by kernel_rfl
 i4:=by kernel_rfl
 i5:=by kernel_rfl
 i9:=by kernel_rfl
 i20:=by kernel_rfl
 i21:=by kernel_rfl
 i37:=by kernel_rfl
 i46:=by kernel_rfl
 i51:=by kernel_rfl
 i53:=by kernel_rfl
 i75:=by kernel_rfl
 i80:=by kernel_rfl
 i85:=by kernel_rfl
 i127:=by kernel_rfl
 i143:=by kernel_rfl
 i145:=by kernel_rfl
 i167:=by kernel_rfl
 i168:=by kernel_rfl
 i171:=by kernel_rfl
 i173:=by kernel_rfl
 i175:=by kernel_rfl
 i210:=by kernel_rfl
 i212:=by kernel_rfl
 i232:=by kernel_rfl
 i233:=by kernel_rfl
 m15:=by kernel_rfl
 m16:=by kernel_rfl
 m17:=by kernel_rfl
 m18:=by kernel_rfl
 m19:=by kernel_rfl
 c0:=by kernel_rfl
 c2:=by kernel_rfl
 c3:=by kernel_rfl
 c4:=by kernel_rfl
 c5:=by kernel_rfl
 c9:=by kernel_rfl
 c20:=by kernel_rfl
 c21:=by kernel_rfl
 c37:=by kernel_rfl
 c46:=by kernel_rfl
 c51:=by kernel_rfl
 c53:=by kernel_rfl
 c75:=by kernel_rfl
 c80:=by kernel_rfl
 c85:=by kernel_rfl
 c127:=by kernel_rfl
 c143:=by kernel_rfl
 c145:=by kernel_rfl
 c167:=by kernel_rfl
 c168:=by kernel_rfl
 c171:=by kernel_rfl
 c173:=by kernel_rfl
 c175:=by kernel_rfl
 c210:=by kernel_rfl
 c212:=by kernel_rfl
 c213:=by kernel_rfl
 c232:=by kernel_rfl
 c233:=by kernel_rfl }
open Go.RowKit in
theorem Tryz.strconv_ParseInt_10_at64_ok (s:ByteArray) (hmax:s.size<=9223372036854775806) (v:Int) (h:Lib.parseIntB 64 s.data.toList=.ok v) (w:World) :
  Calls prog 321 #[.string s,Zi 10,Zi 64] w fun e w'=>e=.returned (.tuple #[Zi v,.nilIface])/\(w'=w∨∃t,w'=Lib.bytesWorld w 5 t):=Any.strconv_ParseInt_10_at64_ok Tryz.laysC174 s hmax v h w
def Tryz.laysSlF6_f291_ren:Go.Shelf.Ren:=⟨fun|6=>291|15=>319|14=>318|28=>340|29=>302|20=>332|21=>333|22=>334|23=>335|24=>336|25=>337|26=>338|27=>339|46=>348|47=>349|48=>350|49=>351|50=>352|57=>355|n=>n,fun|22=>198|24=>3|25=>363|3=>3|39=>283|0=>0|53=>339|55=>207|4=>4|46=>399|45=>398|50=>247|5=>5|9=>9|66=>412|70=>416|76=>419|77=>420|n=>n,fun|n=>n⟩
theorem Tryz.laysSlF6_f291:Go.Proofs.SlLaysF.n6 prog Tryz.laysSlF6_f291_ren:={
 mixed:=by kernel_rfl
 f6:=⟨Tryz.f291.name,by decide,func291.trans (congrArg some (by kernel_rfl))⟩
 f14:=⟨Tryz.f318.name,by decide,func318.trans (congrArg some (by kernel_rfl))⟩
 f15:=FkR func319
 f20:=⟨Tryz.f332.name,by decide,func332.trans (congrArg some (by kernel_rfl))⟩
 f21:=⟨Tryz.f333.name,by decide,func333.trans (congrArg some (by kernel_rfl))⟩
 f22:=⟨Tryz.f334.name,by decide,func334.trans (congrArg some (by kernel_rfl))⟩
 f23:=⟨Tryz.f335.name,by decide,func335.trans (congrArg some (by kernel_rfl))⟩
 f24:=⟨Tryz.f336.name,by decide,func336.trans (congrArg some (by kernel_rfl))⟩
 f25:=⟨Tryz.f337.name,by decide,func337.trans (congrArg some (by kernel_rfl))⟩
 f26:=⟨Tryz.f338.name,by decide,func338.trans (congrArg some (by kernel_rfl))⟩
 f27:=⟨Tryz.f339.name,by decide,func339.trans (congrArg some (by kernel_rfl))⟩
 f28:=FkR func340
 f29:=FkR func302
 f46:=⟨Tryz.f348.name,by decide,func348.trans (congrArg some (by kernel_rfl))⟩
 f47:=FkR func349
 f48:=FkR func350
 f49:=⟨Tryz.f351.name,by decide,func351.trans (congrArg some (by kernel_rfl))⟩
 f50:=⟨Tryz.f352.name,by decide,func352.trans (congrArg some (by kernel_rfl))⟩
 f57:=⟨Tryz.f355.name,by decide,func355.trans (congrArg some (by kernel_rfl))⟩
 t0:=underlying0
 a0:=isAgg0
 z0:=sizeOf0
 v0:=zeroValue0
 t3:=underlying3
 a3:=isAgg3
 z3:=sizeOf3
 v3:=zeroValue3
 t4:=underlying4
 a4:=isAgg4
 z4:=sizeOf4
 v4:=zeroValue4
 t5:=underlying5
 a5:=isAgg5
 z5:=sizeOf5
 v5:=zeroValue5
 t9:=underlying9
 a9:=isAgg9
 z9:=sizeOf9
 v9:=zeroValue9
 t22:=underlying198
 a22:=isAgg198
 z22:=sizeOf198
 v22:=zeroValue198
 a24:=isAgg3
 z24:=sizeOf3
 t25:=underlying363
 a25:=isAgg363
 z25:=sizeOf363
 v25:=zeroValue363
 t39:=underlying283
 a39:=isAgg283
 z39:=sizeOf283
 v39:=zeroValue283
 t45:=underlying398
 a45:=isAgg398
 z45:=sizeOf398
 v45:=zeroValue398
 t46:=underlying399
 a46:=isAgg399
 z46:=sizeOf399
 v46:=zeroValue399
 t50:=underlying247
 a50:=isAgg247
 z50:=sizeOf247
 v50:=zeroValue247
 t53:=underlying339
 a53:=isAgg339
 z53:=sizeOf339
 v53:=zeroValue339
 t55:=underlying207
 a55:=isAgg207
 z55:=sizeOf207
 v55:=zeroValue207
 t66:=underlying412
 a66:=isAgg412
 z66:=sizeOf412
 v66:=zeroValue412
 t70:=underlying416
 a70:=isAgg416
 z70:=sizeOf416
 v70:=zeroValue416
 t76:=underlying419
 a76:=isAgg419
 z76:=sizeOf419
 v76:=zeroValue419
 t77:=underlying420
 a77:=isAgg420
 z77:=sizeOf420
 v77:=zeroValue420 }
open Go.RowKit Go.Lib Go.Sort in
theorem Tryz.sortInt {α:Type} [Inhabited α] (enc:α->Value) (h1:OneCell enc) (cf:α->α->Int) (hO:SWO (ltOf cf)) (g:Nat) (cb:Array Value) (blk off cap:Nat) (d:Array α) (w:World) (eg:∀args w,(callFunc g args).run prog w=.ok (.enter g args) w) (hcmp:CmpLays1 prog g cb enc cf blk off d.size w) (hH:Holds enc w blk off d) (hblk:blk<w.heap.size) (hsz:d.size<4611686018427387904) :
  Calls prog 291 #[.slice (some ⟨blk,off,none⟩) d.size cap,.func (.func g) #[] cb] w fun e w'=>
   e=.returned (.tuple #[])/\∃d' n os,PermIn 0 d.size d d'/\SortedIn (ltOf cf) 0 d.size d'/\w'=sortWorld enc w blk off n d' os:=Any.slices_SortFunc Tryz.laysSlF6_f291 enc h1 cf hO g cb blk off cap d w eg hcmp hH hblk hsz
end Go.Proofs
namespace Go.Proofs.YtpieeldbamklkaaGreatDoor
open Go.RowKit Num
theorem LQ:((List.range 1001).all fun n=>match Lib.parseIntB 64 (Z3 (n:Int)) with|.ok v=>v==(n:Int)|_=>false)=true:=by kernel_rfl
theorem OS {n:Nat} (h:n<=1000):Lib.parseIntB 64 (Z3 (n:Int))=.ok (n:Int):=by
 have:=List.all_eq_true.1 LQ n (List.mem_range.2 (by omega))
 revert this;cases Lib.parseIntB 64 (Z3 (n:Int)) with
 | ok v=>intro h;rw[beq_iff_eq] at h;rw[h]
 | _=>intro h;cases h
theorem ZbI {n:Nat} (h:n<=1000):Ret 294 #[Zg (canon (n:Int))] (.tuple #[Zi (n:Int),.bool true]):=fun w hG=>by
 have hl:(canon (n:Int)).length<=100:=Nt (Zu (n:Int) 4 (by omega)) (by decide)
 have hp:=Mw (n:Int);have hs:=OS h;have hz:(⟨(Z3 (n:Int)).toArray⟩:ByteArray).size<=9223372036854775806:=by
  show (Z3 (n:Int)).toArray.size<=_
  have:=SA (n:Int) (by omega) (by omega)
  simp;omega
 have C1:=Lh (Jk (canon (n:Int)) w (by exact Nt hl (by decide)))
 have C2:=Lh (fun w'=>Tryz.strconv_ParseInt_10_at64_ok ⟨(Z3 (n:Int)).toArray⟩ hz (n:Int) hs w')
 rw[hp] at C1;obtain⟨s,hse⟩:∃s,s=canon (n:Int):=⟨_,rfl⟩
 obtain⟨p,hpe⟩:∃p,p=Z3 (n:Int):=⟨_,rfl⟩
 rw[<-hse] at C1 ⊢;rw[<-hpe] at C1 C2;clear hl hp hs hz hse hpe;go_enter func294,ntmps294;go_wp2_with fail;refine C1.out.mono ?_;rintro e w1 ⟨rfl,hb1⟩;go_wp2_with fail;refine (C2.out w1).mono ?_;rintro e w2 ⟨rfl,hw2⟩;have hb2:Below w1.heap.size w1 w2:=by
  rcases hw2 with rfl|⟨t,rfl⟩
  ·exact Below.refl _ _
  ·exact bytesWorld_below _ _ _
 have hb:=bto hb1 hb2;clear hw2 hb1 hb2 C1 C2;go_wp2;go_ret2;exact⟨rfl,hb⟩
def zsC (zs:List Int):Array Value:=LP (zs.map canon)
def izC (zs:List Int):Array Value:=(zs.map (fun z=>Zi z)).toArray
def Tz (js:List Nat):Array Value:=(js.map (fun (k:Nat)=>Zi (k:Int))).toArray
theorem T7 {zs:List Int} {k:Nat} {z:Int} (h:zs[k]?=some z):(zsC zs)[k]?=some (Zg (canon z)):=SR (by simp[h])
theorem PU (zs:List Int) (k:Nat) (z:Int):(zsC zs).setIfInBounds k (Zg (canon z))=zsC (zs.set k z):=by
 unfold zsC LP;simp[List.map_set]
theorem Zaa (zs:List Int) (k:Nat) (z:Int):(izC zs).setIfInBounds k (Zi z)=izC (zs.set k z):=by
 unfold izC;simp[List.map_set]
theorem Hc {js:List Nat} {k j:Nat} (h:js[k]?=some j):(Tz js)[k]?=some (Zi (j:Int)):=by simp[Tz,h]
theorem Zab (js:List Nat):izC (js.map (fun (k:Nat)=>(k:Int)))=Tz js:=by simp[izC,Tz]
section
variable {α:Type} [Inhabited α]
theorem NT (enc:α->Value) (w:World) (bo:Nat) (cs:Array Value) (t:TypeId) (h:w.heap[bo]?=some (.cells cs t (0,0))) (d':Array α) (hs:d'.size=cs.size) (m:Nat) (os:Array Obj) :
  (Sort.grow (Sort.putRow enc (Sort.ahead w m) bo 0 d') os).heap[bo]?=some (.cells (d'.map enc) t (0,0))/\Zz (fun b=>b=bo) w (Sort.grow (Sort.putRow enc (Sort.ahead w m) bo 0 d') os):=by
 have hb:bo<w.heap.size:=(Ag.1 h).1;have e:Sort.putCells enc 0 d' cs=d'.map enc:=by
  apply Array.ext
  ·simp[Sort.putCells,hs]
  ·intro i h1 h2;have h3:i<d'.size:=by simpa using h2
   simp only[Sort.putCells,Array.getElem_mapIdx,Array.getElem_map];rw[if_pos (by omega),Nat.sub_zero,getElem!_pos d' i h3]
 refine⟨?_,rfl,rfl,rfl,?_,fun k hk hne=>?_⟩
 ·rw[Sort.heap_grow_old _ _ (by rw[Sort.size_putRow];exact hb)]
  unfold Sort.putRow Sort.mapBlock Sort.ahead;simp only[Array.getElem?_modify,if_true,h,Option.map_some,Sort.onCells,e]
 ·rw[Sort.size_grow,Sort.size_putRow];exact Nat.le_add_right _ _
 ·have hne:bo≠k:=fun e=>hne e.symm
  rw[Sort.heap_grow_old _ _ (by rw[Sort.size_putRow];exact hk)]
  unfold Sort.putRow Sort.mapBlock Sort.ahead;simp only[Array.getElem?_modify,if_neg hne]
end
theorem DF (args:Array Value) (w:World):(callFunc 292 args).run prog w=.ok (.enter 292 args) w:=by kernel_rfl
theorem Zcz {w0 w:World} {bx br bo n:Nat} {t:TypeId} (rs:List (List UInt8)) (hG:Yb w0) (hb:Below w0.heap.size w0 w) (hbo1:w0.heap.size<=bo) (hbx:Blk w bx #[.slice (some ⟨br,0,none⟩) n n]) (hbr:Blk w br (LP rs)) (hbo:w.heap[bo]?=some (.cells (Tz (List.range n)) t (0,0)))
  (hn:rs.length=n) (hn0:0<n) (hn1:n<=100000) (hrl:∀r∈rs,r.length<=100000) (hne:bx≠bo) (hne2:br≠bo) :
  Calls prog 291 #[.slice (some ⟨bo,0,none⟩) n n,.func (.func 292) #[] #[.pointer (some ⟨bx,0,none⟩)]] w fun e w'=>e=.returned (.tuple #[])/\
   (∃js:List Nat,js.Perm (List.range n)/\js.Pairwise (PG fun i=>val (rs.getD i []))/\w'.heap[bo]?=some (.cells (Tz js) t (0,0)))/\Zz (fun b=>b=bo) w w':=by
 obtain⟨m,rfl⟩:∃m,n=m+1:=⟨n-1,by omega⟩
 have hlt:∀x y:Fin (m+1),ltOf (fun x y:Fin (m+1)=>JY rs x y) x y=true↔PG (fun i=>val (rs.getD i [])) x y:=fun x y=>by
  unfold ltOf;rw[decide_eq_true_iff];exact A9 rs x y
 have hO:=Dz (fun i=>val (rs.getD i [])) _ hlt
 have hd:(List.finRange (m+1)).toArray.size=m+1:=by simp
 have hcs:(Tz (List.range (m+1))).size=m+1:=by simp[Tz]
 have hlow:∀k,k=bo->w0.heap.size<=k:=fun k hk=>by rw[hk];exact hbo1
 have hH:Sort.Holds (fun x:Fin (m+1)=>Zi (x.val:Int)) w bo 0 (List.finRange (m+1)).toArray:=fun j hj=>by
  rw[hd] at hj;rw[Nat.zero_add];refine⟨?_,Zt hbo j⟩;rw[Zk hbo j,Hc (j:=j) (by simp[hj]),getElem!_pos _ j (by rw[hd];exact hj)]
  simp
 have hcmp:CmpLays1 prog 292 #[.pointer (some ⟨bx,0,none⟩)] (fun x:Fin (m+1)=>Zi (x.val:Int)) (fun x y:Fin (m+1)=>JY rs x y) bo 0 (List.finRange (m+1)).toArray.size w:=fun q os dk hs x y=>by
  rw[hd] at hs;obtain⟨h1,h2⟩:=NT (fun x:Fin (m+1)=>Zi (x.val:Int)) w bo _ t hbo dk (by rw[hs,hcs]) q os
  have hx:∃r,rs[x.val]?=some r:=⟨_,List.getElem?_eq_getElem (by rw[hn];exact x.isLt)⟩
  have hy:∃r,rs[y.val]?=some r:=⟨_,List.getElem?_eq_getElem (by rw[hn];exact y.isLt)⟩
  obtain⟨ri,hri⟩:=hx;obtain⟨rk,hrk⟩:=hy;have hk:=Go.Proofs.YtpieeldbamklkaaGreatDoorMono.calls_grown (Zcy bx br (m+1) (m+1) rs x.val y.val ri rk _ (hG.below (h2.lower hb hlow)) (hbx.keepX h2 hne) (hbr.keepX h2 hne2) hri hrk hn (hrl ri (Lm hri)) (hrl rk (Lm hrk)));have e:orZ (ZH (val rk) (val ri)) (PE (x.val:Int) (y.val:Int))=JY rs x y:=by
   unfold JY;rw[List.getD_eq_getElem?_getD,List.getD_eq_getElem?_getD,hri,hrk];rfl
  rw[e] at hk;exact hk
 have key:=Tryz.sortInt (fun x:Fin (m+1)=>Zi (x.val:Int)) (fun _=>rfl) (fun x y:Fin (m+1)=>JY rs x y) hO 292 #[.pointer (some ⟨bx,0,none⟩)] bo 0 (m+1) (List.finRange (m+1)).toArray w DF hcmp hH (Ag.1 hbo).1 (Nat.lt_of_le_of_lt (by rw[hd];exact hn1) (by decide))
 rw[hd] at key;refine key.mono ?_;rintro e w' ⟨he,d',q,os,hp,hs,hw⟩;obtain⟨j1,j2⟩:=Zct (fun i=>val (rs.getD i [])) _ hlt d' hp hs
 have hsz:d'.size=(Tz (List.range (m+1))).size:=by rw[hcs];exact hp.1.trans hd
 obtain⟨h1,h2⟩:=NT (fun x:Fin (m+1)=>Zi (x.val:Int)) w bo _ t hbo d' hsz q os
 have hw2:w'=Sort.grow (Sort.putRow (fun x:Fin (m+1)=>Zi (x.val:Int)) (Sort.ahead w q) bo 0 d') os:=hw
 rw[hw2];refine⟨he,⟨_,j1,j2,h1.trans ?_⟩,h2⟩;congr 2;apply Array.ext';simp[Tz]
theorem QG:(prog.info? 32).map (fun i=>(i.zero,i.size,i.bytes))=some (some (Zj),1,16):=by kernel_rfl
theorem Fl:(prog.info? 3).map (fun i=>(i.zero,i.size,i.bytes))=some (some (Zi 0),1,8):=by kernel_rfl
theorem DG (n:Nat) (hn:n<=100000) (w:World) :
  (Instr.makeSlice 50 (Zi (n:Int)) (Zi (n:Int))).run prog w=.ok (.slice (some ⟨w.heap.size,0,none⟩) n n) (w.alloc (.cells (zsC (List.replicate n 0)) 32)):=by
 obtain⟨i0,hi,hz0,hz1,hz2⟩:=info_parts QG;rw[VQ 50 32 i0 (Zj) underlying50 hi hz0 .i64 .i64 n n (Nl _) (by rw[hz2];omega) (by omega) w,hz1]
 have:madeCells (Zj).cells (n*1)=zsC (List.replicate n 0):=by
  apply Array.ext';show (madeCells #[Zj] (n*1)).toList=_;have e:(canon 0).toArray=#[]:=by decide
  rw[toList_madeCells_one];simp[zsC,LP,List.map_replicate,e]
 rw[this]
theorem DI (n:Nat) (hn:n<=100000) (w:World) :
  (Instr.makeSlice 198 (Zi (n:Int)) (Zi (n:Int))).run prog w=.ok (.slice (some ⟨w.heap.size,0,none⟩) n n) (w.alloc (.cells (izC (List.replicate n 0)) 3)):=by
 obtain⟨i0,hi,hz0,hz1,hz2⟩:=info_parts Fl;rw[VQ 198 3 i0 (Zi 0) underlying198 hi hz0 .i64 .i64 n n (Nl _) (by rw[hz2];omega) (by omega) w,hz1]
 have:madeCells (Zi 0).cells (n*1)=izC (List.replicate n 0):=by
  apply Array.ext';show (madeCells #[Zi 0] (n*1)).toList=_;rw[toList_madeCells_one];simp[izC]
 rw[this]
structure Zdh (w:World) (bp br bx n:Nat) (wx:World):Prop where
 lp:w.heap.size<=bp
 lr:w.heap.size<=br
 lx:w.heap.size<=bx
 pr:bp≠br
 px:bp≠bx
 rx:br≠bx
 p:wx.heap[bp]?=some (.cells (zsC (List.replicate n 0)) 32 (0,0))
 r:wx.heap[br]?=some (.cells (zsC (List.replicate n 0)) 32 (0,0))
 x:Blk wx bx #[.slice (some ⟨br,0,none⟩) n n]
 below:Below w.heap.size w wx
structure ZbJ (w0 w:World) (bp br bx bo n:Nat) (Q R I:List Int) (k:Nat) (wr:World):Prop where
 below:Below w0.heap.size w0 wr
 bw:Zz (fun b=>b=bp∨b=br∨b=bo) w wr
 p:wr.heap[bp]?=some (.cells (zsC (YF Q k)) 32 (0,0))
 r:wr.heap[br]?=some (.cells (zsC (YF R k)) 32 (0,0))
 o:wr.heap[bo]?=some (.cells (izC (YF I k)) 3 (0,0))
 x:Blk wr bx #[.slice (some ⟨br,0,none⟩) n n]
theorem al3 (w1:World) (a b c:Obj):(((w1.alloc a).alloc b).alloc c).drew.heap[w1.heap.size]?=some a/\(((w1.alloc a).alloc b).alloc c).drew.heap[w1.heap.size+1]?=some b/\(((w1.alloc a).alloc b).alloc c).drew.heap[w1.heap.size+1+1]?=some c/\Below w1.heap.size w1 (((w1.alloc a).alloc b).alloc c).drew:=by
 have h0:(((w1.alloc a).alloc b).alloc c).drew.heap=((w1.heap.push a).push b).push c:=rfl;refine⟨?_,?_,?_,?_⟩
 ·rw[h0];simp only[Array.getElem?_push,Array.size_push];rw[if_neg (by omega),if_neg (by omega),if_pos trivial]
 ·rw[h0];simp only[Array.getElem?_push,Array.size_push];rw[if_neg (by omega),if_pos trivial]
 ·rw[h0];simp only[Array.getElem?_push,Array.size_push];rw[if_pos trivial]
 ·exact Dc (bto (bto (Zh w1 a) (Zh _ b)) (Zh _ c))
theorem WK:∀(Q:List Int) (k:Nat),(∀q∈Q,0<=q)->0<=(Q.take k).sum/\(Q.take k).sum<=Q.sum
 | [],k,_=>by simp
 | q::t,0,h=>by
  have h1:=(WK t 0 (fun x hx=>h x (List.mem_cons_of_mem _ hx))).2
  have h2:=h q List.mem_cons_self;simp at h1 ⊢;omega
 | q::t,k+1,h=>by
  have h1:=WK t k (fun x hx=>h x (List.mem_cons_of_mem _ hx))
  have h2:=h q List.mem_cons_self;simp only[List.take_succ_cons,List.sum_cons];omega
theorem ZbK {z:Int} {T:List UInt8} (hT:T.length<=5000) (h0:0<=z) (h1:z<=val T+1000):(canon z).length<=5100:=by
 obtain⟨N,hN⟩:∃N,N=5000:=⟨_,rfl⟩
 rw[<-hN] at hT;have h:=Zw (l:=T) hT;refine Nt (Zu z (N+1) ?_) (by omega)
 have e:(10:Nat) ^ (N+1)=10 ^ N*10:=Nat.pow_succ ..;rw[e];have h3:(1000:Nat)<=10 ^ N:=Nt (by decide:1000<=10 ^ 3) (Nat.pow_le_pow_right (by decide) (by omega))
 generalize (10:Nat) ^ N=P at *;omega
theorem XU {a b:Int} {k:Nat} (h:0<=a/\a<=b) (hb:(canon b).length<=k):(canon a).length<=k+1:=by
 have h1:=Zw hb;rw[Zm] at h1;exact Zu a k (by omega)
theorem JZ {T S:Int} {zs:List Int} {k:Nat} {z:Int} (h:zs[k]?=some z):(Vj T S zs)[k]?=some (T*z / S)/\(VS T S zs)[k]?=some (T*z % S):=by
 simp[Vj,VS,h]
theorem TN {Q:List Int} {k:Nat} {q:Int} (h:Q[k]?=some q):(Q.take (k+1)).sum=(Q.take k).sum+q:=by
 obtain⟨hk,rfl⟩:=Lg.1 h;rw[List.take_succ_eq_append_getElem hk,List.sum_append];simp
def Zdi (w:World) (T:Int) (zs:List Int) (n:Nat) (e:Ending) (w':World):Prop:=
 ∃bp ps,e=.returned (.slice (some ⟨bp,0,none⟩) n n)/\w.heap.size<=bp/\w'.heap[bp]?=some (.cells (zsC ps) 32 (0,0))/\OP T zs ps/\Below w.heap.size w w'
theorem Hd:∀(ws:List (List UInt8)),(∀r∈ws,0<=val r)->0<=Z7 ws
 | [],_=>Int.le_refl _
 | r::t,h=>by
  have h1:=Hd t (fun x hx=>h x (List.mem_cons_of_mem _ hx))
  have h2:=h r List.mem_cons_self;rw[NH];omega
theorem J0 (R:List Int) (i:Nat):val ((R.map canon).getD i [])=R.getD i 0:=by
 rw[List.getD_eq_getElem?_getD,List.getD_eq_getElem?_getD,List.getElem?_map];cases R[i]? with
 | none=>rfl
 | some z=>simp[Zm]
theorem Fo (n:Nat):izC ((List.range n).map (fun (k:Nat)=>(k:Int)))=Tz (List.range n):=Zab _
theorem DJ {a b:Int} (h:0<b):Vb a b=a / b/\Un a b=a % b:=by
 unfold Vb Un;exact⟨if_pos (by omega),if_pos (by omega)⟩
theorem NU {w:World} {A:Option Addr} {ws:List (List UInt8)} {n:Nat} (c:Nat) {T:List UInt8} (hG:GE w) (hI:WR w A ws n) (hT:T.length<=5000) (h0:1<=n) (hn1:n<=1000) (hpos:∀r∈ws,0<=val r) (hS:Z7 ws≠0) (hT0:0<=val T) :
  Calls prog 242 #[Zg T,.slice A n c] w (Zdi w (val T) (ws.map val) n):=by
 have hS0:0<Z7 ws:=by
  have:0<=Z7 ws:=Hd ws hpos
  omega
 obtain⟨S,hSe⟩:∃S,S=Z7 ws:=⟨_,rfl⟩
 obtain⟨zs,hzs⟩:∃zs,zs=ws.map val:=⟨_,rfl⟩
 have hzS:zs.sum=S:=by rw[hzs,hSe];rfl
 rw[<-hzs];obtain⟨Q,hQ⟩:∃Q,Q=Vj (val T) S zs:=⟨_,rfl⟩
 obtain⟨R,hR⟩:∃R,R=VS (val T) S zs:=⟨_,rfl⟩
 obtain⟨I,hIe⟩:∃I,I=(List.range n).map (fun (k:Nat)=>(k:Int)):=⟨_,rfl⟩
 have hzl:zs.length=n:=by rw[hzs,List.length_map];exact hI.len
 have hQl:Q.length=n:=by rw[hQ];simp[Vj,hzl]
 have hRl:R.length=n:=by rw[hR];simp[VS,hzl]
 have hIl:I.length=n:=by rw[hIe];simp
 have hSl:(canon S).length<=2008:=by rw[hSe];exact SH 2000 ws hI.sm (by rw[hI.len];omega)
 have C0:=Lh (Dg c hG.g hI);have HI:=Lh hI.mem;have HSM:=Lh hI.sm;have HN:=Lh hI.len;obtain⟨hm0,hm1⟩:=I8 (val T) zs (by rw[hzS,hSe];exact hS0)
 rw[hzS,<-hQ] at hm0 hm1;rw[hzl] at hm1;have hmk1:=fun w=>DG n (by omega) w
 have hmk2:=fun w=>DI n (by omega) w
 have hQn:∀q∈Q,0<=q:=fun q hq=>by
  rw[hQ] at hq;obtain⟨z,hz,rfl⟩:=List.mem_map.1 hq;rw[hzs] at hz;obtain⟨r,hr,rfl⟩:=List.mem_map.1 hz;exact Int.ediv_nonneg (Int.mul_nonneg hT0 (hpos r hr)) (by rw[hSe];omega)
 have HQN:Hid (∀k,0<=(Q.take k).sum/\(Q.take k).sum<=val T):=fun k=>by
  have:=WK Q k hQn
  omega
 have HQM:Hid (∀q∈Q,0<=q/\q<=val T):=fun q hq=>by
  refine⟨hQn q hq,?_⟩;obtain⟨i,hi⟩:=List.getElem?_of_mem hq;have h1:=TN hi;have h2:=(WK Q (i+1) hQn).2;have h3:=(WK Q i hQn).1;omega
 rw[<-hSe] at C0 hS0;have HSS:=Lh hS0;have HP:Hid (∀js:List Nat,js.Perm (List.range n)->js.Pairwise (PG fun i=>R.getD i 0)->OP (val T) zs (WJ Q (js.take (val T-Q.sum).toNat))):=fun js h1 h2=>by
  have:=Dy (val T) zs (by rw[hzS];exact hS0) js (by rw[hzl];exact h1) (by rw[hzS,<-hR];exact h2)
  rw[hzS,<-hQ] at this;exact this
 have HQ:=Lh hQ;have HR:=Lh hR;have HZS:=Lh hzs;have HIE:=Lh hIe;have HQL:=Lh hQl;have HRL:=Lh hRl;have HIL:=Lh hIl;have HM:=Lh (And.intro hm0 hm1);clear hSe hzS hQ hR hIe hzs hzl hQl hRl hIl hI hpos hS hS0 hm0 hm1 hQn;go_enter func242,ntmps242;go_wp2_with fail
 refine (C0.out).mono ?_
 rintro e w1 ⟨rfl,hb1⟩
 go_upto_region 2 with fail
 go_cut [6,7] from 18 to 23 (fun s6 s7 wx=>∃bp br bx,s6=.slice (some ⟨bp,0,none⟩) n n/\s7=.pointer (some ⟨bx,0,none⟩)/\Zdh w1 bp br bx n wx)
 case first=>
  clear C0
  go_region
  all_goals (go_wp2_with fail)
  all_goals go_meet
  all_goals first
   | (refine⟨_,w1.heap.size,_,rfl,rfl,⟨by omega,by omega,by omega,by omega,by omega,by omega,?_,?_,⟨50,?_⟩,?_⟩⟩<;>first|exact (al3 _ _ _ _).1|exact (al3 _ _ _ _).2.1|exact (al3 _ _ _ _).2.2.1|exact (al3 _ _ _ _).2.2.2)
   | (refine⟨_,w1.heap.size+1,_,rfl,rfl,⟨by omega,by omega,by omega,by omega,by omega,by omega,?_,?_,⟨50,?_⟩,?_⟩⟩<;>first|exact (al3 _ _ _ _).1|exact (al3 _ _ _ _).2.1|exact (al3 _ _ _ _).2.2.1|exact (al3 _ _ _ _).2.2.2)
   | (refine⟨_,w1.heap.size+1+1,_,rfl,rfl,⟨by omega,by omega,by omega,by omega,by omega,by omega,?_,?_,⟨50,?_⟩,?_⟩⟩<;>first|exact (al3 _ _ _ _).1|exact (al3 _ _ _ _).2.1|exact (al3 _ _ _ _).2.2.1|exact (al3 _ _ _ _).2.2.2)
 case rest=>
  rename World=>wx
  obtain⟨bp,br,bx,rfl,rfl,HNw⟩:=hcut;have hbW:=bto hb1 HNw.below;have hbo:=Zh wx (.cells (izC (List.replicate n 0)) 3);have HPW:Hid (ZbJ w wx bp br bx wx.heap.size n Q R I 0 (wx.alloc (.cells (izC (List.replicate n 0)) 3))):=by
   have l1:=(Ag.1 HNw.p).1;have l2:=(Ag.1 HNw.r).1;refine⟨bto hbW hbo,Zz.of_below hbo,?_,?_,?_,HNw.x.below hbo⟩
   ·rw[T4,HQL.out];exact (hbo.block _ l1).trans HNw.p
   ·rw[T4,HRL.out];exact (hbo.block _ l2).trans HNw.r
   ·rw[T4,HIL.out];simp[World.alloc,-World.alloc_eq]
  have hpr:=HNw.pr;have hpx:=HNw.px;have hrx:=HNw.rx;have hpo:bp≠wx.heap.size:=fun e=>by have:=(Ag.1 HNw.p).1;omega
  have hro:br≠wx.heap.size:=fun e=>by have:=(Ag.1 HNw.r).1;omega
  have hxo:bx≠wx.heap.size:=fun e=>by have:=HNw.x.lt;omega
  have hlp:=Nt hb1.size HNw.lp;have hlr:=Nt hb1.size HNw.lr;have hlo:w.heap.size<=wx.heap.size:=hbW.size;have HL:=Lh (And.intro hlp (And.intro hlr hlo));have HNE:=Lh (And.intro hpr (And.intro hpx (And.intro hrx (And.intro hpo (And.intro hro hxo)))));clear hmk1 HNw hbo hbW hb1 hpr hpx hrx hpo hro hxo hlp hlr hlo;go_wp2_with fail;clear hmk2
  go_loopw [9,10,11,30] (fun mv _ _ iv wr=>∃(k:Nat) (m:List UInt8),k<=n/\mv=Zg m/\iv=Zi (k:Int)/\Hid (m.length<=5100/\val m=val T-(Q.take k).sum/\(1<=k->m=canon (val m)))/\Hid (ZbJ w wx bp br bx wx.heap.size n Q R I k wr)) (fun _ _ _ iv _=>n-(intOf iv).toNat)
  case atStart=>exact⟨0,T,Nat.zero_le _,rfl,rfl,⟨by omega,by simp,fun h=>by omega⟩,HPW.out⟩
  case round=>
   clear HPW;obtain⟨k,m,hk,rfl,rfl,HMV,HPW⟩:=hrel;have hbw:=HPW.out.below
   by_cases hlk:k<n
   rotate_left
   ·have e1:decide (k<n)=false:=Df hlk;have e2:decide ((k:Int)<(n:Int))=false:=Df (by omega)
    have hlp:=HL.out.1;have hlo:=HL.out.2.2;obtain⟨hpr,hpx,hrx,hpo,hro,hxo⟩:=HNE.out;have HPn:Hid (wr.heap[bp]?=some (.cells (zsC Q) 32 (0,0))):=by
     have h:=HPW.out.p;rw[QE Q k (by have:=HQL.out;omega)] at h
     exact h
    have hRn:Blk wr br (LP (R.map canon)):=by
     have h:=HPW.out.r;rw[QE R k (by have:=HRL.out;omega)] at h
     exact⟨_,h⟩
    have hOn:wr.heap[wx.heap.size]?=some (.cells (Tz (List.range n)) 3 (0,0)):=by
     have h:=HPW.out.o;rw[QE I k (by have:=HIL.out;omega),HIE.out,Fo] at h
     exact h
    have hXn:=HPW.out.x;obtain⟨z,hz⟩:∃z:Nat,(z:Int)=val T-Q.sum:=⟨(val T-Q.sum).toNat,by have:=HM.out;omega⟩
    have hzn:z<n:=by have:=HM.out;omega
    obtain rfl:m=canon (z:Int):=by
     rw[HMV.out.2.2 (by omega),HMV.out.2.1,List.take_of_length_le (by have:=HQL.out;omega),hz]
    have HZ:=Lh hz
    have CS:=Lh (Zcz (R.map canon) hG.g hbw hlo hXn hRn hOn (by rw[List.length_map];exact HRL.out) (by omega) (by omega) (fun r hr=>by
     obtain⟨x,hx,rfl⟩:=List.mem_map.1 hr;rw[HR.out] at hx;obtain⟨y,hy,rfl⟩:=List.mem_map.1 hx;have h1:=Int.emod_nonneg (val T*y) (Int.ne_of_gt HSS.out);have h2:=Int.emod_lt_of_pos (val T*y) HSS.out
     exact Nt (XU (by omega) hSl) (by decide)) hxo hro)
    have CM:=Lh (ZbI (n:=z) (by omega))
    have hz1:(z:Int)<=(n:Int):=by omega
    clear HMV HPW hz hXn hRn hOn hk hlk;go_wp2_with fail;refine CS.out.mono ?_;rintro e w7 ⟨rfl,⟨js,hj1,hj2,hj3⟩,hb7⟩;clear e1 e2 CS;rw[show (fun i=>val ((R.map canon).getD i []))=fun i=>R.getD i 0 from funext (J0 R)] at hj2
    have hb8:=hb7.lower hbw (fun k hk=>by rw[hk];exact hlo)
    have HP7:Hid (w7.heap[bp]?=some (.cells (zsC Q) 32 (0,0))):=(hb7.block _ (Ag.1 HPn.out).1 hpo).trans HPn.out;have HO7:=Lh hj3;have HJ1:=Lh hj1;have HJ2:=Lh hj2;clear hbw hb7 hj1 hj2 hj3 HPn;go_wp2_with fail
    refine (CM.out.of hG.g hb8).mono ?_
    rintro e w8 ⟨rfl,hb9⟩;have hb:=bto hb8 hb9;have HP8:Hid (w8.heap[bp]?=some (.cells (zsC Q) 32 (0,0))):=(hb9.block _ (Ag.1 HP7.out).1).trans HP7.out;have HO8:Hid (w8.heap[wx.heap.size]?=some (.cells (Tz js) 3 (0,0))):=(hb9.block _ (Ag.1 HO7.out).1).trans HO7.out;have HNE:=Lh hpo;clear hb8 hb9 HP7 HO7 CM hpr hpx hrx hpo hro hxo;go_wp2_with fail
    rename World=>wo
    go_loopw [15,73] (fun _ iv wr=>∃t:Nat,t<=z/\iv=Zi (t:Int)/\Hid (Below w.heap.size w wr)/\Hid (wr.heap[bp]?=some (.cells (zsC (WJ Q (js.take t))) 32 (0,0)))/\Hid (wr.heap[wx.heap.size]?=some (.cells (Tz js) 3 (0,0)))) (fun _ iv _=>z-(intOf iv).toNat)
    case atStart=>exact⟨0,Nat.zero_le _,rfl,hb,HP8.out,HO8.out⟩
    case round=>
     clear HP8 HO8 hb;obtain⟨t,ht,rfl,HB,HPt,HOt⟩:=hrel;have hb:=HB.out
     by_cases hlt:t<z
     rotate_left
     ·have e1:decide (t<z)=false:=Df hlt;have e2:decide ((t:Int)<(z:Int))=false:=Df (by omega)
      go_wp2;go_ret;refine⟨bp,_,rfl,hlp,HPt.out,?_,HB.out⟩;have h:=HP.out js HJ1.out HJ2.out;have e:(val T-Q.sum).toNat=t:=by have:=HZ.out;omega
      rw[e] at h;exact h
     have e1:decide (t<z)=true:=Dt hlt;have e2:decide ((t:Int)<(z:Int))=true:=Dt (by omega)
     have hjl:js.length=n:=by rw[HJ1.out.length_eq,List.length_range]
     obtain⟨j,hj⟩:∃j,js[t]?=some j:=⟨_,List.getElem?_eq_getElem (by omega)⟩
     have hjn:j<n:=List.mem_range.1 (HJ1.out.subset (Lm hj));obtain⟨y,hy⟩:∃y,Q[j]?=some y:=⟨_,List.getElem?_eq_getElem (by have:=HQL.out;omega)⟩
     have hyb:=HQM.out y (Lm hy);obtain⟨x,hxe⟩:∃x,x=y+((js.take t).count j:Int):=⟨_,rfl⟩
     have hx:(WJ Q (js.take t))[j]?=some x:=by rw[SP,hy,hxe];rfl
     have hcnt:(js.take t).count j<=1000:=Nt List.count_le_length (by rw[List.length_take];omega)
     have hxl:(canon x).length<=5100:=ZbK hT (by omega) (by omega)
     have CA:=Lh (XX (l:=canon x) (l':=[49]) (z:=x+1) (by omega) (by decide) (by rw[Zm];rfl))
     have HT:Hid (js.take (t+1)=js.take t++[j]):=by
      show _=_;obtain⟨h1,rfl⟩:=Lg.1 hj;exact List.take_succ_eq_append_getElem h1
     have q0:wr.cell? ⟨wx.heap.size,t,none⟩=some (Zi (j:Int)):=(Zk HOt.out t).trans (Hc hj);have q1:wr.cell? ⟨bp,j,none⟩=some (Zg (canon x)):=(Zk HPt.out j).trans (T7 hx);have HX:=Lh hx;clear hjl hj hy hyb hxe hcnt hxl hx;go_wp2_with fail
     refine (CA.out.of hG.g hb).mono ?_
     rintro e w9 ⟨rfl,hb9⟩;clear q0 q1 e1 e2 CA;have HB9:=Lh (bto hb hb9);have HP9:Hid (w9.heap[bp]?=some (.cells (zsC (WJ Q (js.take t))) 32 (0,0))):=(hb9.block _ (Ag.1 HPt.out).1).trans HPt.out;have HO9:Hid (w9.heap[wx.heap.size]?=some (.cells (Tz js) 3 (0,0))):=(hb9.block _ (Ag.1 HOt.out).1).trans HOt.out;have q1:w9.cell? ⟨bp,j,none⟩=some (Zg (canon x)):=(Zk HP9.out j).trans (T7 HX.out);have q2:w9.frozen? ⟨bp,j,none⟩=false:=Zt HP9.out j;have HPN:Hid ((w9.setCell ⟨bp,j,none⟩ (Zg (canon (x+1)))).heap[bp]?=some (.cells (zsC (WJ Q (js.take (t+1)))) 32 (0,0))):=by
      have h:=Yl (o:=j) (Zg (canon (x+1))) HP9.out;rw[PU,Dx HX.out,<-JW,<-HT.out] at h;exact h
     have HON:Hid ((w9.setCell ⟨bp,j,none⟩ (Zg (canon (x+1)))).heap[wx.heap.size]?=some (.cells (Tz js) 3 (0,0))):=(Below.heap_setCell w9 ⟨bp,j,none⟩ _ _ (Ne.symm HNE.out)).trans HO9.out;have HBN:Hid (Below w.heap.size w (w9.setCell ⟨bp,j,none⟩ (Zg (canon (x+1))))):=HB9.out.setCell (p:=⟨bp,j,none⟩) hlp _;clear hb hb9 HB HPt HOt HB9 HP9 HO9 HX HT;go_wp2;go_roundw
     case rel=>exact⟨t+1,by omega,by go_num,HBN.out,HPN.out,HON.out⟩
     case measure=>simp[intOf];omega
   have e1:decide (k<n)=true:=Dt hlk;have e2:decide ((k:Int)<(n:Int))=true:=Dt (by omega)
   obtain⟨u,hu⟩:∃u,ws[k]?=some u:=⟨_,List.getElem?_eq_getElem (by have:=HN.out;omega)⟩
   obtain⟨b,o,rfl,hbs,p0⟩:=(HI.out.below hbw) k u hu;have hz:zs[k]?=some (val u):=by rw[HZS.out,List.getElem?_map,hu];rfl
   obtain⟨q,hq⟩:∃q,q=val T*val u / S:=⟨_,rfl⟩
   obtain⟨r,hr⟩:∃r,r=val T*val u % S:=⟨_,rfl⟩
   have hqk:Q[k]?=some q:=by rw[HQ.out,(JZ hz).1,hq]
   have hrk:R[k]?=some r:=by rw[HR.out,(JZ hz).2,hr]
   have hul:=HSM.out u (Lm hu);have hd:=DJ (a:=val T*val u) HSS.out;have hml:=Yf T u;have HC1:=Lh (IR (l:=T) (l':=u) (by omega) (by omega) rfl)
   have HC2:=Lh (IQ (l:=canon (val T*val u)) (l':=canon S) (q:=q) (r:=r) (by omega) (by omega) (by rw[Zm];exact Int.ne_of_gt HSS.out) (by rw[Zm,Zm,hd.1,hq]) (by rw[Zm,Zm,hd.2,hr]))
   have hqm:=HQM.out q (Lm hqk);have hql:(canon q).length<=5100:=ZbK hT hqm.1 (by omega)
   have hmlen:=HMV.out.1;obtain⟨mm,hmm⟩:∃mm,mm=val m-q:=⟨_,rfl⟩
   have HC3:=Lh (Vg (l:=m) (l':=canon q) (z:=mm) (by omega) (by omega) (by rw[Zm,hmm]))
   have HMV2:Hid ((canon mm).length<=5100/\val (canon mm)=val T-(Q.take (k+1)).sum/\(1<=k+1->canon mm=canon (val (canon mm)))):=by
    have h1:=HMV.out.2.1;have h2:=TN hqk;have h3:=HQN.out (k+1);refine⟨ZbK hT (by omega) (by omega),by rw[Zm];omega,fun _=>by rw[Zm]⟩
   have HQK:=Lh hqk;have HRK:=Lh hrk;obtain⟨tu,htu⟩:∃tu,tu=canon (val T*val u):=⟨_,rfl⟩
   rw[<-htu] at HC1 HC2;obtain⟨ss,hss⟩:∃ss,ss=canon S:=⟨_,rfl⟩
   rw[<-hss] at HC2 ⊢;clear hu hz hq hr hqk hrk hul hd hml hqm hql hmlen hmm htu hss;go_wp2_with fail;clear p0 e1 e2;obtain⟨-,-,hlo⟩:=HL.out;have hlp:=HL.out.1;have hlr:=HL.out.2.1;obtain⟨hpr,hpx,hrx,hpo,hro,hxo⟩:=HNE.out;obtain⟨F,hF⟩:∃F:Fx,F=fun b=>if b=bp then some (.cells (zsC (YF Q k)) 32 (0,0)) else if b=br then some (.cells (zsC (YF R k)) 32 (0,0)) else none:=⟨_,rfl⟩
   have f1:F bp=some (.cells (zsC (YF Q k)) 32 (0,0)):=by rw[hF];exact if_pos rfl
   have f2:F br=some (.cells (zsC (YF R k)) 32 (0,0)):=by rw[hF];exact (if_neg (Ne.symm hpr)).trans (if_pos rfl)
   have hX:∀b,F b≠none->b=bp∨b=br:=fun b hb=>by
    rw[hF] at hb;dsimp only at hb
    by_cases h1:b=bp
    ·exact .inl h1
    ·by_cases h2:b=br
     ·exact .inr h2
     ·rw[if_neg h1,if_neg h2] at hb;exact absurd rfl hb
   have HFF:Hid (∀b ob,F b=some ob->wr.heap[b]?=some ob):=fun b ob h=>by
    rw[hF] at h;dsimp only at h
    by_cases h1:b=bp
    ·rw[if_pos h1] at h;rw[h1,<-h];exact HPW.out.p
    ·rw[if_neg h1] at h
     by_cases h2:b=br
     ·rw[if_pos h2] at h;rw[h2,<-h];exact HPW.out.r
     ·rw[if_neg h2] at h;cases h
   have hnx:¬(F bx≠none):=fun h=>by
    rcases hX bx h with e|e
    ·exact hpx e.symm
    ·exact hrx e.symm
   have hno:¬(F wx.heap.size≠none):=fun h=>by
    rcases hX _ h with e|e
    ·exact hpo e.symm
    ·exact hro e.symm
   have hlow:∀k,F k≠none->w.heap.size<=k:=fun k hk=>by
    rcases hX k hk with e|e
    ·rw[e];exact hlp
    ·rw[e];exact hlr
   have HX:=Lh HPW.out.x;have f2b:(fun k'=>if k'=bp then some (Obj.cells ((zsC (YF Q k)).setIfInBounds k (Zg (canon q))) 32 (0,0)) else F k') br=some (.cells (zsC (YF R k)) 32 (0,0)):=(if_neg (Ne.symm hpr)).trans f2
   have hql:=HQL.out;have hrl:=HRL.out;obtain⟨tch,htch⟩:∃tch:Nat->List Nat,tch=fun b=>if b=bp then [14] else if b=br then [16] else []:=⟨_,rfl⟩
   clear hF;refine ZL tch F (by kernel_rfl) (by kernel_rfl) (by kernel_rfl) HFF.out ?_
   iterate 2 refine PfV _ rfl (fun wz hw=>by go_simp;try rfl) ?_
   refine PfV _ rfl (fun wz hw=>by have q0:=(HX.out.keepX hw hnx).c 0;go_simp;try rfl) ?_
   iterate 3 refine PfV _ rfl (fun wz hw=>by go_simp;try rfl) ?_
   refine PfC _ _ _ rfl (fun wz hw=>by go_simp;try rfl) (fun wz hw=>HC1.out.of hG.g (hw.lower hbw hlow)) ?_
   refine PfV _ rfl (fun wz hw=>by go_simp;try rfl) ?_
   refine PfC _ _ _ rfl (fun wz hw=>by go_simp;try rfl) (fun wz hw=>HC2.out.of hG.g (hw.lower hbw hlow)) ?_
   iterate 2
    refine PfV _ rfl (fun wz hw=>by go_simp;try rfl) ?_
    refine PfV _ rfl (fun wz hw=>by go_simp;try rfl) ?_
   refine PfV (.pointer (some ⟨bp,k,none⟩)) rfl (fun wz hw=>by go_simp;try rfl) ?_
   refine XE bp k (zsC (YF Q k)) (Zg (canon q)) 32 f1 (by simp[htch]) (fun j oj hj=>ZC (l:=[14]) (by kernel_rfl) j oj (by simpa [htch] using hj)) rfl (fun wz hw hc hf=>by have q0:=(hc k).trans (T7 (V7 (Nl k) (by omega)));have q1:=hf k;clear hc hf;go_simp;try rfl) ?_
   simp only[Act.put,Nat.reduceAdd];refine PfV (.pointer (some ⟨br,k,none⟩)) rfl (fun wz hw=>by go_simp;try rfl) ?_
   refine XE br k (zsC (YF R k)) (Zg (canon r)) 32 f2b (by simp[htch,Ne.symm hpr]) (fun j oj hj=>ZC (l:=[16]) (by kernel_rfl) j oj (by simpa [htch,Ne.symm hpr] using hj)) rfl (fun wz hw hc hf=>by have q0:=(hc k).trans (T7 (V7 (Nl k) (by omega)));have q1:=hf k;clear hc hf;go_simp;try rfl) ?_
   simp only[Act.put,Nat.reduceAdd];refine YB (fun w4 hF4=>?_)
   have hb4:=hF4.below.lower hbw hlow;have HP4:Hid (w4.heap[bp]?=some (.cells (zsC (YF Q (k+1))) 32 (0,0))):=by
    have h:=hF4.box bp _ ((if_neg hpr).trans (if_pos rfl));rw[PU,QF HQK.out] at h;exact h
   have HR4:Hid (w4.heap[br]?=some (.cells (zsC (YF R (k+1))) 32 (0,0))):=by
    have h:=hF4.box br _ (if_pos rfl);rw[PU,QF HRK.out] at h;exact h
   have HO4:Hid (w4.heap[wx.heap.size]?=some (.cells (izC (YF I k)) 3 (0,0))):=(hF4.below.block _ (Ag.1 HPW.out.o).1 hno).trans HPW.out.o;have HX4:Hid (Blk w4 bx #[.slice (some ⟨br,0,none⟩) n n]):=HPW.out.x.keepX hF4.below hnx
   have HB4:Hid (Zz (fun b=>b=bp∨b=br∨b=wx.heap.size) wx w4):=HPW.out.bw.trans ⟨hF4.below.os,hF4.below.tape,hF4.below.output,hF4.below.size,fun j hj hn=>hF4.below.block j hj (fun h=>hn (by
    rcases hX j h with e|e
    ·exact .inl e
    ·exact .inr (.inl e)))⟩
   have HNE:=Lh (And.intro hpr (And.intro hpx (And.intro hrx (And.intro hpo (And.intro hro hxo)))));have q0:w4.cell? ⟨bp,k,none⟩=some (Zg (canon q)):=(Zk HP4.out k).trans (T7 ((SO (Nat.lt_succ_self k) (by omega)).trans HQK.out))
   clear hF4 HX HPW HFF f1 f2 f2b hX hnx hno hlow htch HC1 HC2 hbw hpr hpx hrx hpo hro hxo hlp hlr;go_wp2_with fail
   refine (HC3.out.of hG.g hb4).mono ?_
   rintro e w5 ⟨rfl,hb5⟩;clear q0 HC3;have hb6:=bto hb4 hb5;have HP5:Hid (w5.heap[bp]?=some (.cells (zsC (YF Q (k+1))) 32 (0,0))):=(hb5.block _ (Ag.1 HP4.out).1).trans HP4.out;have HR5:Hid (w5.heap[br]?=some (.cells (zsC (YF R (k+1))) 32 (0,0))):=(hb5.block _ (Ag.1 HR4.out).1).trans HR4.out;have HO5:Hid (w5.heap[wx.heap.size]?=some (.cells (izC (YF I k)) 3 (0,0))):=(hb5.block _ (Ag.1 HO4.out).1).trans HO4.out;have HX5:=Lh (HX4.out.below hb5);have HB5:=Lh (HB4.out.trans (Zz.of_below hb5));clear hb4 hb5 HP4 HR4 HO4 HX4 HB4 hql hrl;have HIK:Hid (I[k]?=some (k:Int)):=by
    show _=_;rw[HIE.out,List.getElem?_map,List.getElem?_range hlk];rfl
   have hil:=HIL.out
   have q0:w5.cell? ⟨wx.heap.size,k,none⟩=some (Zi 0):=(Zk HO5.out k).trans (by
    have h:=V7 (f:=I) (i:=k) (Nl k) (by omega)
    simp[izC,h])
   have q1:w5.frozen? ⟨wx.heap.size,k,none⟩=false:=Zt HO5.out k;clear hil;have HPW:Hid (ZbJ w wx bp br bx wx.heap.size n Q R I (k+1) (w5.setCell ⟨wx.heap.size,k,none⟩ (Zi (k:Int)))):=by
    obtain⟨hpr,hpx,hrx,hpo,hro,hxo⟩:=HNE.out;refine⟨hb6.setCell (p:=⟨wx.heap.size,k,none⟩) hlo _,HB5.out.trans (ZM (g:=wx.heap.size) (.inr (.inr rfl)) [Zi (k:Int)] k w5),?_,?_,?_,HX5.out.setO hxo⟩
    ·exact (Below.heap_setCell w5 ⟨wx.heap.size,k,none⟩ _ bp hpo).trans HP5.out
    ·exact (Below.heap_setCell w5 ⟨wx.heap.size,k,none⟩ _ br hro).trans HR5.out
    ·have h:=Yl (o:=k) (Zi (k:Int)) HO5.out;rw[Zaa,QF HIK.out] at h;exact h
   clear HP5 HR5 HO5 HX5 HB5 HIK hb6 HQK HRK;obtain⟨W6,hW6⟩:∃W6,W6=w5.setCell ⟨wx.heap.size,k,none⟩ (Zi (k:Int)):=⟨_,rfl⟩
   go_wp2;go_roundw
   case rel=>exact⟨k+1,canon mm,by omega,rfl,by go_num,HMV2.out,HPW.out⟩
   case measure=>simp[intOf];omega
def UK (T:Int) (zs qs:List Int):Prop:=(0<=T/\OP T zs qs)∨(T<0/\∃ps,OP (-T) zs ps/\qs=ps.map (fun z=>-z))
theorem He:∀ps:List Int,(ps.map (fun z=>-z)).sum = -ps.sum
 | []=>rfl
 | p::t=>by simp only[List.map_cons,List.sum_cons,He t];omega
theorem UK.sum {T:Int} {zs qs:List Int} (h:UK T zs qs):qs.sum=T/\qs.length=zs.length:=by
 rcases h with ⟨-,h⟩|⟨-,ps,h,rfl⟩
 ·exact⟨h.sum,h.len⟩
 ·rw[He,h.sum,List.length_map];exact⟨by omega,h.len⟩
theorem UK.bd {T:Int} {zs qs:List Int} {N:Nat} (hz:∀z∈zs,0<=z/\z.natAbs<10 ^ N) (hT:T.natAbs<10 ^ N) (h:UK T zs qs):∀q∈qs,(canon q).length<=N+N+2:=by
 have key:∀(T:Int) (ps:List Int),T.natAbs<10 ^ N->OP T zs ps->∀q∈ps,q.natAbs<10 ^ (N+N+1):=fun T ps hT h q hq=>by
  obtain⟨k,hk⟩:=List.getElem?_of_mem hq;have h1:=h.at' k;have hk2:k<zs.length:=by
   have:=(Lg.1 hk).1
   rw[h.len] at this;exact this
  obtain⟨z,hzk⟩:∃z,zs[k]?=some z:=⟨_,List.getElem?_eq_getElem hk2⟩
  rw[(JZ hzk).1,hk] at h1;have hzz:=(hz z (Lm hzk)).2;have h2:(T*z / zs.sum).natAbs<=(T*z).natAbs:=Int.natAbs_ediv_le_natAbs _ _;have h3:(T*z).natAbs<10 ^ N*10 ^ N:=by
   rw[Int.natAbs_mul];exact Nat.mul_lt_mul'' hT hzz
  have e:(10:Nat) ^ (N+N+1)=10 ^ N*10 ^ N*10:=by rw[Nat.pow_succ,Nat.pow_add]
  rw[e];generalize (10:Nat) ^ N*10 ^ N=P at *;simp only[Option.map_some,Option.some.injEq] at h1;omega
 intro q hq;rcases h with ⟨-,h⟩|⟨-,ps,h,rfl⟩
 ·exact Zu q (N+N+1) (key T qs hT h q hq)
 ·obtain⟨p,hp,rfl⟩:=List.mem_map.1 hq;refine Zu _ (N+N+1) ?_;rw[Int.natAbs_neg];exact key (-T) ps (by rw[Int.natAbs_neg];exact hT) h p hp
def ZcA (w:World) (T:Int) (zs:List Int) (n:Nat) (e:Ending) (w':World):Prop:=
 ∃bp ps,e=.returned (.slice (some ⟨bp,0,none⟩) n n)/\w.heap.size<=bp/\w'.heap[bp]?=some (.cells (zsC ps) 32 (0,0))/\UK T zs ps/\Below w.heap.size w w'
def No (ps:List Int) (k:Nat):List Int:=(ps.take k).map (fun z=>-z)++ps.drop k
theorem Hf {ps:List Int} {k:Nat} {x:Int} (h:ps[k]?=some x):(No ps k)[k]?=some x:=by
 have hk:=(Lg.1 h).1;unfold No;rw[List.getElem?_append_right (by rw[List.length_map,List.length_take];omega),List.length_map,List.length_take,Nat.min_eq_left (Nat.le_of_lt hk),Nat.sub_self,List.getElem?_drop]
 exact h
theorem DK {ps:List Int} {k:Nat} {x:Int} (h:ps[k]?=some x):(No ps k).set k (-x)=No ps (k+1):=by
 obtain⟨hk,rfl⟩:=Lg.1 h;unfold No;rw[List.set_append_right _ _ (by rw[List.length_map,List.length_take];omega),List.length_map,List.length_take,Nat.min_eq_left (Nat.le_of_lt hk),Nat.sub_self,List.drop_eq_getElem_cons hk,List.set_cons_zero,List.take_succ_eq_append_getElem hk,List.map_append,List.append_assoc]
 rfl
theorem DL (ps:List Int):No ps ps.length=ps.map (fun z=>-z):=by simp[No]
theorem Zac {w:World} {A:Option Addr} {ws:List (List UInt8)} {n:Nat} (c:Nat) {T:List UInt8} (hG:GE w) (hI:WR w A ws n) (hT:T.length<=4900) (h0:1<=n) (hn1:n<=1000) (hpos:∀r∈ws,0<=val r) (hS:Z7 ws≠0) :
  Calls prog 189 #[Zg T,.slice A n c] w (ZcA w (val T) (ws.map val) n):=by
 have hb:=Below.refl w.heap.size w;have C1:=Lh (Tn (l:=T) (by omega))
 by_cases hT0:0<=val T
 ·have e0:decide (val T<0)=false:=Df (by omega)
  rw[e0] at C1;have C2:=Lh (fun (w':World) (hb':Below w.heap.size w w')=>NU c (hG.below hb') (hI.below hb') (T:=T) (by omega) h0 hn1 hpos hS hT0)
  have HT0:=Lh hT0;clear e0 hI hpos hS hT0;go_enter func189,ntmps189;go_wp2_with fail
  refine (C1.out.of hG.g hb).mono ?_
  rintro e w1 ⟨rfl,hb1⟩;go_wp2_with fail;refine (C2.out w1 hb1).mono ?_;rintro e w2 ⟨bp,ps,rfl,h1,h2,h3,h4⟩;have HR:Hid (ZcA w (val T) (ws.map val) n (.returned (.slice (some ⟨bp,0,none⟩) n n)) w2):=⟨bp,ps,rfl,Nt hb1.size h1,h2,.inl ⟨HT0.out,h3⟩,bto hb1 h4⟩;clear h1 h2 h3 h4 C1 C2 hb hb1;go_wp2;go_ret;exact HR.out
 ·have e0:decide (val T<0)=true:=Dt (by omega)
  rw[e0] at C1;have hTl:(canon (-val T)).length<=5000:=by
   have:=Zw (l:=T) hT
   refine Nt (Zu (-val T) 4900 (by rw[Int.natAbs_neg];exact this)) (by decide)
  have C2:=Lh (Za0 (l:=T) (by omega) rfl)
  have C3:=Lh (fun (w':World) (hb':Below w.heap.size w w')=>NU c (hG.below hb') (hI.below hb') (T:=canon (-val T)) hTl h0 hn1 hpos hS (by rw[Zm];omega))
  have HB:Hid (∀ps,OP (-val T) (ws.map val) ps->∀q∈ps,(canon q).length<=10002):=fun ps hp=>by
   obtain⟨N,hN⟩:∃N,N=5000:=⟨_,rfl⟩
   have hz:∀z∈ws.map val,0<=z/\z.natAbs<10 ^ N:=fun z hz=>by
    obtain⟨r,hr,rfl⟩:=List.mem_map.1 hz;exact⟨hpos r hr,Zw (by have:=hI.sm r hr;omega)⟩
   have:=UK.bd (N:=N) hz (T:=-val T) (by rw[Int.natAbs_neg];exact Zw (by omega)) (.inl ⟨by omega,hp⟩)
   intro q hq
   have:=this q hq
   omega
  rw[Zm] at C3;have HT0:Hid (val T<0):=by show _<_;omega
  have HL:Hid ((ws.map val).length=n):=by show _=_;rw[List.length_map];exact hI.len
  obtain⟨nt,hnt⟩:∃nt,nt=canon (-val T):=⟨_,rfl⟩
  rw[<-hnt] at C2 C3;clear e0 hI hpos hS hT0 hTl hnt;go_enter func189,ntmps189;go_wp2_with fail
  refine (C1.out.of hG.g hb).mono ?_
  rintro e w1 ⟨rfl,hb1⟩;go_wp2_with fail
  refine (C2.out.of hG.g hb1).mono ?_
  rintro e w2 ⟨rfl,hb2⟩;replace hb1:=bto hb1 hb2;go_wp2_with fail;refine (C3.out w2 hb1).mono ?_;rintro e w3 ⟨bp,ps,rfl,h1,h2,h3,h4⟩;have HP:=Lh h3;have HL2:Hid (ps.length=n):=h3.len.trans HL.out;have hlp:=Nt hb1.size h1;have HR:=Lh h2;have HB3:=Lh (bto hb1 h4);clear h1 h2 h3 h4 C1 C2 C3 hb hb1 hb2;go_wp2_with fail
  go_loopw [6,19] (fun _ iv wr=>∃k:Nat,k<=n/\iv=Zi (k:Int)/\Hid (wr.heap[bp]?=some (.cells (zsC (No ps k)) 32 (0,0)))/\Hid (Below w.heap.size w wr)) (fun _ iv _=>n-(intOf iv).toNat)
  case atStart=>exact⟨0,Nat.zero_le _,rfl,HR.out,HB3.out⟩
  case round=>
   clear HR HB3;obtain⟨k,hk,rfl,HR,HB3⟩:=hrel
   by_cases hlk:k<n
   rotate_left
   ·have e1:decide (k<n)=false:=Df hlk;have e2:decide ((k:Int)<(n:Int))=false:=Df (by omega)
    go_wp2;go_ret;refine⟨bp,_,rfl,hlp,HR.out,.inr ⟨HT0.out,ps,HP.out,?_⟩,HB3.out⟩;have e:k=ps.length:=by have:=HL2.out;omega
    rw[e,DL]
   have e1:decide (k<n)=true:=Dt hlk;have e2:decide ((k:Int)<(n:Int))=true:=Dt (by omega)
   obtain⟨x,hx⟩:∃x,ps[k]?=some x:=⟨_,List.getElem?_eq_getElem (by have:=HL2.out;omega)⟩
   have hxl:=HB.out ps HP.out x (Lm hx);have CN:=Lh (Za0 (l:=canon x) (z:=-x) (by omega) (by rw[Zm]))
   have q0:wr.cell? ⟨bp,k,none⟩=some (Zg (canon x)):=(Zk HR.out k).trans (T7 (Hf hx));have hb:=HB3.out;have HX:=Lh hx;clear hx hxl;go_wp2_with fail
   refine (CN.out.of hG.g hb).mono ?_
   rintro e w4 ⟨rfl,hb4⟩;clear q0 e1 e2 CN;have HR4:Hid (w4.heap[bp]?=some (.cells (zsC (No ps k)) 32 (0,0))):=(hb4.block _ (Ag.1 HR.out).1).trans HR.out;have q1:w4.cell? ⟨bp,k,none⟩=some (Zg (canon x)):=(Zk HR4.out k).trans (T7 (Hf HX.out));have q2:w4.frozen? ⟨bp,k,none⟩=false:=Zt HR4.out k;have HRN:Hid ((w4.setCell ⟨bp,k,none⟩ (Zg (canon (-x)))).heap[bp]?=some (.cells (zsC (No ps (k+1))) 32 (0,0))):=by
    have h:=Yl (o:=k) (Zg (canon (-x))) HR4.out;rw[PU,DK HX.out] at h;exact h
   have HBN:Hid (Below w.heap.size w (w4.setCell ⟨bp,k,none⟩ (Zg (canon (-x))))):=(bto hb hb4).setCell (p:=⟨bp,k,none⟩) hlp _;clear hb hb4 HR HB3 HR4 HX;go_wp2;go_roundw
   case rel=>exact⟨k+1,by omega,by go_num,HRN.out,HBN.out⟩
   case measure=>simp[intOf];omega
theorem J2 {w:World} {A:Option Addr} {ws:List (List UInt8)} {n:Nat} (c:Nat) {T:List UInt8} (hG:GE w) (hI:WR w A ws n) (hT:T.length<=4900) (h:Tx T ws≠0) :
  Calls prog 124 #[Zg T,.slice A n c] w fun e w'=>e=.returned (.tuple #[.slice none 0 0,Zi (Tx T ws)])/\Below w.heap.size w w':=by
 have C1:=Lh (Dh c (T:=T) (by omega) hG.g hI)
 obtain⟨E,hE⟩:∃E,E=Tx T ws:=⟨_,rfl⟩
 rw[<-hE] at C1 h ⊢;have e1:(E==0)=false:=by rw[Bn];exact h
 have e2:=V0 e1;clear hE hI h;go_enter func124,ntmps124;go_wp2_with fail;refine C1.out.mono ?_;rintro e w1 ⟨rfl,hb1⟩;go_wp2;go_ret2;exact⟨rfl,hb1⟩
def ZcB (w:World) (T:Int) (zs:List Int) (n:Nat) (e:Ending) (w':World):Prop:=
 ∃bp ps,e=.returned (.tuple #[.slice (some ⟨bp,0,none⟩) n n,Zi 0])/\w.heap.size<=bp/\w'.heap[bp]?=some (.cells (zsC ps) 32 (0,0))/\UK T zs ps/\Below w.heap.size w w'
theorem DN {w:World} {A:Option Addr} {ws:List (List UInt8)} {n:Nat} (c:Nat) {T:List UInt8} (hG:GE w) (hI:WR w A ws n) (hT:T.length<=4900) (h:Tx T ws=0) :
  Calls prog 124 #[Zg T,.slice A n c] w (ZcB w (val T) (ws.map val) n):=by
 obtain⟨s1,s2,-,s4,s5⟩:=SJ h;have hl:=hI.len;have C1:=Lh (Dh c (T:=T) (by omega) hG.g hI)
 have C2:=Lh (fun (w':World) (hb':Below w.heap.size w w')=>Zac c (hG.below hb') (hI.below hb') (T:=T) hT (by omega) (by omega) (fun r hr=>(s4 r hr).2) s5)
 rw[h] at C1;clear hI h s1 s2 s4 s5 hl;go_enter func124,ntmps124;go_wp2_with fail;refine C1.out.mono ?_;rintro e w1 ⟨rfl,hb1⟩;go_wp2_with fail;refine (C2.out w1 hb1).mono ?_;rintro e w2 ⟨bp,ps,rfl,h1,h2,h3,h4⟩;have HR:Hid (ZcB w (val T) (ws.map val) n (.returned (.tuple #[.slice (some ⟨bp,0,none⟩) n n,Zi 0])) w2):=⟨bp,ps,rfl,Nt hb1.size h1,h2,h3,bto hb1 h4⟩;clear h1 h2 h3 h4 C1 C2 hb1;go_wp2;go_ret2;exact HR.out
theorem Zad {l l':List UInt8} {q:Rat} {k:Nat} (h:IsQ l l' q) (b:Bd k q) (hk:k<=90000) {z:Int} (e:rnd q 1=z):Ret 57 #[(Value.agg #[Zg l,Zg l']),Zi 1] (.tuple #[Zg (canon z),Zi 0]):=by
 subst e
 by_cases h0:q.num % q.den=0
 ·exact GU h b hk 1 rfl h0
 ·exact GV h b hk 1 rfl h0
theorem ZbL {T p a:List UInt8} (hTl:T.length<=2000) (hpl:p.length<=2000) (hal:a.length<=2000) (hT:T=canon (val T)) (hp:p=canon (val p)) (ha:a=canon (val a)) (h0:0<=val p) (h1:val p<=val a) (h2:0<val a) :
  Ret 277 #[Zg T,Zg p,Zg a] (.tuple #[Zg (canon (OQ (val T) (val p) (val a))),Zg (canon (val T-OQ (val T) (val p) (val a))),Zi 0]):=fun w hG=>by
 have hb:=Below.refl w.heap.size w;have K1:=Lh (Yv (l:=T) (c:=0) (by omega) (if_pos hT))
 have K2:=Lh (Yv (l:=p) (c:=0) (by omega) (if_pos hp))
 have K3:=Lh (Yv (l:=a) (c:=0) (by omega) (if_pos ha))
 have N1:=Lh (Tn (l:=a) (by omega))
 have N2:=Lh (Tn (l:=p) (by omega))
 rw[Df (by omega:¬val a<0)] at N1
 rw[Df (by omega:¬val p<0)] at N2
 obtain⟨cp,hcp⟩:∃cp,cp=ZH (val p) (val a):=⟨_,rfl⟩
 have hc0:cp<=0:=by rw[hcp];unfold ZH;split<;>(try split)<;>omega
 have CC:=Lh (ZF (l:=p) (l':=a) (by omega) (by omega) hcp.symm)
 have e1:decide (0<cp)=false:=Df (by omega)
 have hml:=Yf T p;have CM:=Lh (IR (l:=T) (l':=p) (by omega) (by omega) rfl)
 obtain⟨q,hq⟩:∃q,q=Rat.divInt (val T*val p) (val a):=⟨_,rfl⟩
 have CN:=Lh (Zck (l:=canon (val T*val p)) (l':=a) (r:=q) (by omega) (by omega) (by omega) (by rw[Zm,hq]))
 obtain⟨N,hN⟩:∃N,N=4001:=⟨_,rfl⟩
 have hbq:Bd N q:=by
  rw[hq];refine Vr ?_ (Zw (by omega)) (by omega)
  have:=Zw (l:=canon (val T*val p)) (k:=N) (by omega)
  rwa [Zm] at this
 obtain⟨s,hs⟩:∃s,s=OQ (val T) (val p) (val a):=⟨_,rfl⟩
 have CR:=Lh (Zad (Qs hbq (by omega)) hbq (by omega) (z:=s) (by rw[hs,hq];rfl))
 have hsl:(canon s).length<=100000:=by
  have h3:=EZ q 1;have h4:=MA q;have h5:=hbq.1;have e5:s=rnd q 1:=by rw[hs,hq];rfl
  have h6:s.natAbs<10 ^ (N+1):=by
   have e:(10:Nat) ^ (N+1)=10 ^ N*10:=Nat.pow_succ ..;have h7:1<=(10:Nat) ^ N:=Nat.pow_pos (by decide)
   rw[e];generalize (10:Nat) ^ N=P at *;omega
  exact Nt (Zu s (N+1) h6) (by omega)
 have CS:=Lh (Vg (l:=T) (l':=canon s) (z:=val T-s) (by omega) (by omega) (by rw[Zm]))
 have ha1:(a==[])=false:=by
  rw[Bn];intro hc;rw[hc] at h2;exact absurd h2 (by decide)
 have ha2:a.isEmpty=false:=by
  rw[List.isEmpty_eq_false_iff];intro hc;rw[hc] at h2;exact absurd h2 (by decide)
 rw[<-hs];obtain⟨mt,hmt⟩:∃mt,mt=canon (val T*val p):=⟨_,rfl⟩
 rw[<-hmt] at CM CN;obtain⟨ss,hss⟩:∃ss,ss=canon s:=⟨_,rfl⟩
 rw[<-hss] at CR CS ⊢;obtain⟨rr,hrr⟩:∃rr,rr=canon (val T-s):=⟨_,rfl⟩
 rw[<-hrr] at CS ⊢;clear hT hp ha hcp hq hN hbq hs hsl hmt hss hrr hml h0 h1 h2 hTl hpl hal;go_enter func277,ntmps277;go_wp2_with fail
 refine (K1.out.of hG hb).mono ?_
 rintro e w1 ⟨rfl,hb1⟩;replace hb:=bto hb hb1;go_wp2_with fail
 refine (K2.out.of hG hb).mono ?_
 rintro e w2 ⟨rfl,hb2⟩;replace hb:=bto hb hb2;go_wp2_with fail
 refine (K3.out.of hG hb).mono ?_
 rintro e w3 ⟨rfl,hb3⟩;replace hb:=bto hb hb3;clear hb1 hb2 hb3 K1 K2 K3;go_wp2_with fail
 refine (N1.out.of hG hb).mono ?_
 rintro e w4 ⟨rfl,hb4⟩;replace hb:=bto hb hb4;go_wp2_with fail
 refine (N2.out.of hG hb).mono ?_
 rintro e w5 ⟨rfl,hb5⟩;replace hb:=bto hb hb5;go_wp2_with fail
 refine (CC.out.of hG hb).mono ?_
 rintro e w6 ⟨rfl,hb6⟩;replace hb:=bto hb hb6;clear hb4 hb5 hb6 N1 N2 CC;go_wp2_with fail
 refine (CM.out.of hG hb).mono ?_
 rintro e w7 ⟨rfl,hb7⟩;replace hb:=bto hb hb7;go_wp2_with fail
 refine (CN.out.of hG hb).mono ?_
 rintro e w8 ⟨rfl,hb8⟩;replace hb:=bto hb hb8;have x9:=Xa.new w8 (Zg (fN q)) (Zg (fD q)) 34;have hbA:=Zh w8 (.cells #[Zg (fN q),Zg (fD q)] 34);replace hb:=bto hb hbA;have p0:=x9.c0;have p1:=x9.c1;clear hb7 hb8 hbA x9 CM CN e1 ha1 ha2;go_wp2_with fail
 refine (CR.out.of hG hb).mono ?_
 rintro e w9 ⟨rfl,hb9⟩;replace hb:=bto hb hb9;clear p0 p1 hb9 CR;go_wp2_with fail
 refine (CS.out.of hG hb).mono ?_
 rintro e w10 ⟨rfl,hb10⟩;replace hb:=bto hb hb10;clear hb10 CS;go_wp2;refine bodyPost_ret (v:=.tuple #[Zg ss,Zg rr,Zi 0]) (by simp[results,results277,go_sem]) rfl ?_
 exact⟨rfl,hb⟩
section
variable {P:Program} {ops:Array Oper} {C:World->Prop} {Q:St->Bx->Prop} {rest:List Oper} {i:Nat} {a:St} {B:Bx} {o:Oper}
theorem NV (k j:Nat) (ok:Oper) (d:Tmp) (cs:Array Value) (vs:List Value) (t:TypeId) (hp:B k=some (false,.cells cs t (0,0))) (hk:ops[k]?=some ok) (hd:ok.dst=some d) (hl:d∈o.looksAt ops)
  (hw:∀ρ,Region.wanted o (yielded ops (a ρ).tmps)=true)
  (h:∀ρ w,C w->(∀m,w.cell? ⟨ρ k,m,none⟩=cs[m]?)->(∀m,w.frozen? ⟨ρ k,m,none⟩=false)->(execOp (a ρ).eval o).run P w=.ok .skip (w.setCells (ρ k) j vs))
  (hn:ZI P ops C Q rest (i+1) (fun ρ=>(a ρ).put o.dst undef) (fun l=>if l=k then some (true,.cells (Yp cs j vs) t (0,0)) else B l)):ZI P ops C Q (o::rest) i a B:=
 ⟨.put k (.cells cs t (0,0)) (.cells (Yp cs j vs) t (0,0)),hp,⟨.inr ⟨ok,d,hk,hd,hl⟩,fun ρ=>⟨hw ρ,fun w hc hb=>
  ⟨_,h ρ w hc (fun m=>Zk hb m) (fun m=>Zt hb m),VO (ρ k) t vs j cs w hb⟩⟩⟩,hn⟩
end
theorem Zdj (w1:World) (a b c:Obj):(((w1.alloc a).alloc b).alloc c).heap[w1.heap.size]?=some a/\(((w1.alloc a).alloc b).alloc c).heap[w1.heap.size+1]?=some b/\(((w1.alloc a).alloc b).alloc c).heap[w1.heap.size+1+1]?=some c/\Below w1.heap.size w1 (((w1.alloc a).alloc b).alloc c):=by
 have h0:(((w1.alloc a).alloc b).alloc c).heap=((w1.heap.push a).push b).push c:=rfl;refine⟨?_,?_,?_,?_⟩
 ·rw[h0];simp only[Array.getElem?_push,Array.size_push];rw[if_neg (by omega),if_neg (by omega),if_pos trivial]
 ·rw[h0];simp only[Array.getElem?_push,Array.size_push];rw[if_neg (by omega),if_pos trivial]
 ·rw[h0];simp only[Array.getElem?_push,Array.size_push];rw[if_pos trivial]
 ·exact bto (bto (Zh w1 a) (Zh _ b)) (Zh _ c)
def LR (cs:Array Value) (qs:List Lot):Prop:=cs.toList.take (qs.length*7)=Yg qs/\qs.length*7<=cs.size
theorem YG {α:Type} {xs:List α} {i:Nat} {x:α} (h:xs[i]?=some x):i<xs.length:=(Lg.1 h).1
theorem YL {w:World} {g i:Nat} {cs:Array Value} {qs:List Lot} {x:Lot} (h:LR cs qs) (hw:∀m,w.cell? ⟨g,m,none⟩=cs[m]?) (hx:qs[i]?=some x):w.rangeAt g (i*7) (lcs x):=fun j v hv=>by
 have hi:=YG hx;have hj:j<7:=YG hv;have h1:=VC hx j hj;rw[hw,<-hv,<-h1,<-h.1,List.getElem?_take,if_pos (by omega),Array.getElem?_toList]
theorem YM {w:World} {g i:Nat} {cs:Array Value} {qs:List Lot} (h:LR cs qs) (hw:∀m,w.cell? ⟨g,m,none⟩=cs[m]?) (hf:∀m,w.frozen? ⟨g,m,none⟩=false) (hi:i<qs.length):w.there g (i*7) 7:=fun j hj=>by
 have:=h.2
 exact⟨by rw[hw,Array.getElem?_eq_getElem (by omega)];rfl,hf _⟩
theorem LR.set {i:Nat} {cs:Array Value} {qs:List Lot} (h:LR cs qs) (y:Lot) (hi:i<qs.length):LR (Yp cs (i*7) (lcs y)) (qs.set i y):=by
 refine⟨?_,by rw[OH,List.length_set];exact h.2⟩
 rw[List.length_set];simp only[Yp,lcs,Array.toList_setIfInBounds,List.take_set,h.1];exact Qy y hi
theorem YK.cs {w:World} {g:Nat} {qs:List Lot} (h:YK w g qs):∃cs,w.heap[g]?=some (.cells cs 130 (0,0))/\LR cs qs:=h
theorem YK.of {w:World} {g:Nat} {qs:List Lot} {cs:Array Value} (h:w.heap[g]?=some (.cells cs 130 (0,0))) (hc:LR cs qs):YK w g qs:=⟨cs,h,hc⟩
structure SAt (w0:World) (g:Nat) (xs:List Lot) (W:World) (ys:List Lot):Prop where
 row:YK W g ys
 perm:ys.Perm xs
 bw:Zz (fun k=>k=g) w0 W
theorem SAt.go {w0 W W':World} {g:Nat} {xs ys:List Lot} (h:SAt w0 g xs W ys) (hb:Below W.heap.size W W'):SAt w0 g xs W' ys:=
 ⟨h.row.below hb,h.perm,h.bw.trans (Zz.of_below hb)⟩
theorem SAt.len {w0 W:World} {g n:Nat} {xs ys:List Lot} (h:SAt w0 g xs W ys) (hn:xs.length=n):ys.length=n:=h.perm.length_eq.trans hn
theorem SAt.swap {w0 W W':World} {g i j:Nat} {xs ys:List Lot} {x y:Lot} {cs:Array Value} (h:SAt w0 g xs W ys) (hrc:LR cs ys) (hi:ys[i]?=some x) (hj:ys[j]?=some y)
  (hc:W'.heap[g]?=some (.cells (Yp (Yp cs (i*7) (lcs y)) (j*7) (lcs x)) 130 (0,0))) (hb:Zz (fun k=>k=g) W W'):SAt w0 g xs W' ((ys.set i y).set j x):=
 ⟨YK.of hc ((hrc.set y (YG hi)).set x (by rw[List.length_set];exact YG hj)),(G0 hi hj).trans h.perm,h.bw.trans hb⟩
structure Np (w0:World) (g:Nat) (xs:List Lot) (f:Nat) (caps:Array Value) (cf:Lot->Lot->Int):Prop where
 enter:∀args w,(callFunc f args).run prog w=.ok (.enter f args) w
 cmp:∀W x y,Zz (fun k=>k=g) w0 W->x∈xs->y∈xs->Calls prog f (#[(Value.agg (Zn x)),(Value.agg (Zn y))]++caps) W fun e w'=>e=.returned (Zi (cf x y))/\Below W.heap.size W w'
theorem Np.at {w0 W W':World} {g i j f:Nat} {xs ys:List Lot} {caps:Array Value} {cf:Lot->Lot->Int} {x y:Lot} (H:Np w0 g xs f caps cf) (h:SAt w0 g xs W ys) (hb:Below W.heap.size W W') (hi:ys[i]?=some x) (hj:ys[j]?=some y) :
  Calls prog f (#[(Value.agg (Zn x)),(Value.agg (Zn y))]++caps) W' fun e w'=>e=.returned (Zi (cf x y))/\Below W'.heap.size W' w':=
 H.cmp W' x y (h.bw.trans (Zz.of_below hb)) (h.perm.subset (Lm hi)) (h.perm.subset (Lm hj))
def SS (cf:Lot->Lot->Int) (ys:List Lot):Prop:=∀(i:Nat) (x y:Lot),ys[i]?=some x->ys[i+1]?=some y->¬cf y x<0
theorem Xj (x:Lot):(Zn x).all (·.oneCell')=true:=all_oneCell_toArray (cs:=lcs x) (fun v hv=>by
 simp only[lcs,List.mem_cons,List.not_mem_nil,or_false] at hv
 rcases hv with rfl|rfl|rfl|rfl|rfl|rfl|rfl<;>rfl)
theorem YS:(prog.info? 130).map (·.size)=some 7:=by kernel_rfl
def Nq (g:Nat) (l:List Nat):Nat->List Nat:=fun b=>if b=g then l else []
theorem To {k:Nat} {z:Int} (hz:z=(k:Int)) (hk:k<=1000000):IntKind.i64.wrap z=(k:Int):=by
 subst hz;exact IntWalk.i64_in _ (by omega)
theorem WV.swapX {F':Fx} {g:Nat} {w w2:World} {X:Nat->Prop} (h:WV X w F' w2) (hX:∀k,X k->k=g):Zz (fun k=>k=g) w w2:=
 ⟨h.below.os,h.below.tape,h.below.output,h.below.size,fun k hk hn=>h.below.block k hk (fun hx=>hn (hX k hx))⟩
def Zdk (w0:World) (g:Nat) (xs ys:List Lot) (cf:Lot->Lot->Int) (e:Ending) (w':World):Prop:=e=.returned (.tuple #[])/\∃zs,SAt w0 g xs w' zs/\(SS cf ys->zs=ys)
theorem ZcC {w0 w:World} {g n c f:Nat} {caps:Array Value} {cf:Lot->Lot->Int} {xs ys:List Lot} (H:Np w0 g xs f caps cf) (h:SAt w0 g xs w ys) (hn:xs.length=n) (hn2:n<=100000) (a b:Nat) (hab:a<=b) (hbn:b<=n) :
  Calls prog 309 #[.slice (some ⟨g,0,none⟩) n c,Zi (a:Int),Zi (b:Int),.func (.func f) #[] caps] w (Zdk w0 g xs ys cf):=by
 have HS:=Lh h;have HN:=Lh hn;have hEn:=H.enter;have HZ:=Lh YS;clear h hn;go_enter func309,ntmps309;go_wp2_with fail
 go_loopw [8,9] (fun iv _ wr=>∃(k:Nat) (zs:List Lot),k<=b+1/\a<k/\iv=Zi (k:Int)/\Hid (SAt w0 g xs wr zs)/\Hid (SS cf ys->zs=ys)) (fun iv _ _=>b+1-(intOf iv).toNat)
 case atStart=>exact⟨a+1,ys,by omega,by omega,by go_num,HS.out,fun _=>rfl⟩
 case round=>
  clear HS;obtain⟨k,zs,hk,hak,rfl,HS,HO⟩:=hrel
  by_cases hkb:k<b
  rotate_left
  ·have e1:decide (k<b)=false:=Df hkb;have e2:decide ((k:Int)<(b:Int))=false:=Df (by omega)
   go_wp2
   go_end0
   exact⟨rfl,zs,HS.out,HO.out⟩
  have e1:decide (k<b)=true:=Dt hkb;have e2:decide ((k:Int)<(b:Int))=true:=Dt (by omega)
  go_wp2_with fail;clear e1 e2
  rename World=>wo
  go_loopw [9] (fun jv wr=>∃(j:Nat) (zs':List Lot),j<=k/\a<=j/\jv=Zi (j:Int)/\Hid (SAt w0 g xs wr zs')/\Hid (SS cf ys->zs'=ys)) (fun jv _=>(intOf jv).toNat)
  case atStart=>exact⟨k,zs,Nl _,by omega,rfl,HS.out,HO.out⟩
  case round=>
   clear HS HO;obtain⟨j,zs',hjk,haj,rfl,HS,HO⟩:=hrel;have HR:=Lh HS.out.row
   by_cases hja:a<j
   rotate_left
   ·have e1:decide (a<j)=false:=Df hja;have e2:decide ((a:Int)<(j:Int))=false:=Df (by omega)
    go_wp2_with fail;refine Zx (by kernel_rfl) (by kernel_rfl) ?_
    iterate 2
     refine PeV ?_;refine PeV ?_
    iterate 6
     refine PeO ?_;refine PeO ?_
    refine PeV ?_;intro ρ wq hF;dsimp only;replace HS:=Lh (HS.out.go hF.below);clear hF HR e1 e2;go_wp2;go_roundw
    case rel=>exact⟨k+1,zs',by omega,by omega,by go_num,HS.out,HO.out⟩
    case measure=>simp[intOf];omega
   obtain⟨j1,hj1⟩:∃j1,j=j1+1:=⟨j-1,by omega⟩
   have hjn:j<n:=by omega
   have hj1n:j1<n:=by omega
   have hw1:IntKind.i64.wrap ((j:Int)-1)=(j1:Int):=To (by omega) (by omega)
   have hl:zs'.length=n:=HS.out.len HN.out;obtain⟨y,hy⟩:∃y,zs'[j]?=some y:=⟨_,List.getElem?_eq_getElem (by omega)⟩
   obtain⟨x,hx⟩:∃x,zs'[j1]?=some x:=⟨_,List.getElem?_eq_getElem (by omega)⟩
   have e1:decide (a<j)=true:=Dt hja;have e2:decide ((a:Int)<(j:Int))=true:=Dt (by omega)
   have HC:Hid (SS cf ys->¬cf y x<0):=fun ho=>by
    have ez:=HO.out ho;subst ez;exact ho j1 x y hx (by rw[<-hj1];exact hy)
   have HJ:=Lh hj1;clear hl hj1;go_wp2_with fail;refine Zx (by kernel_rfl) (by kernel_rfl) ?_
   iterate 7 refine PeV ?_
   refine PeV (v:=.pointer (some ⟨g,j*7,none⟩)) ?_;refine PkV (.agg (Zn y)) (fun _=>rfl) (fun ρ wz hw=>Zo 130 _ rfl g (j*7) rfl (lcs y) _ ((HR.out.below hw).range hy) underlying130 rfl (by rw[HZ.out];rfl)) ?_
   iterate 2 refine PeV ?_
   refine PeV (v:=Zi (j1:Int)) ?_;refine PeV (v:=.pointer (some ⟨g,j1*7,none⟩)) ?_;refine PkV (.agg (Zn x)) (fun _=>rfl) (fun ρ wz hw=>Zo 130 _ rfl g (j1*7) rfl (lcs x) _ ((HR.out.below hw).range hx) underlying130 rfl (by rw[HZ.out];rfl)) ?_
   refine PeC (fun wz hw=>H.at HS.out hw hy hx) ?_
   iterate 2 refine PeV ?_
   intro ρ wq hF;dsimp only;replace HS:=Lh (HS.out.go hF.below);clear hF HR e1 e2
   by_cases hc:cf y x<0
   rotate_left
   ·have e3:decide (cf y x<0)=false:=Df hc;clear HC;go_wp2;go_roundw
    case rel=>exact⟨k+1,zs',by omega,by omega,by go_num,HS.out,HO.out⟩
    case measure=>simp[intOf];omega
   have e3:decide (cf y x<0)=true:=Dt hc;go_wp2_with fail;clear e3;obtain⟨cs,hcs,hrc⟩:=HS.out.row.cs;obtain⟨F,hF⟩:∃F:Fx,F=fun k=>if k=g then some (.cells cs 130 (0,0)) else none:=⟨_,rfl⟩
   have fF:F g=some (.cells cs 130 (0,0)):=by rw[hF];exact if_pos rfl
   have hFF:∀b ob,F b=some ob->wq.heap[b]?=some ob:=fun b ob h=>by
    rw[hF] at h;dsimp only at h
    by_cases hg:b=g
    ·rw[if_pos hg] at h;rw[hg,hcs];exact h
    ·rw[if_neg hg] at h;cases h
   have hFX:∀k,F k≠none->k=g:=fun k hk=>by
    rw[hF] at hk;dsimp only at hk
    by_cases hg:k=g
    ·exact hg
    ·rw[if_neg hg] at hk;exact absurd rfl hk
   obtain⟨tch,htch⟩:∃tch,tch=Nq g [9,13,15,17]:=⟨_,rfl⟩
   unfold Nq at htch;have HFF:=Lh hFF;have HFX:=Lh hFX;clear hF hcs hFF hFX;refine ZL tch F (by kernel_rfl) (by kernel_rfl) (by kernel_rfl) HFF.out ?_
   iterate 2
    refine PfV _ rfl (fun wz hw=>by go_simp;try rfl) ?_
    refine PfV _ rfl (fun wz hw=>by go_simp;try rfl) ?_
   refine PfV (Zi (j1:Int)) rfl (fun wz hw=>by go_simp;try rfl) ?_
   iterate 2 refine PfV _ rfl (fun wz hw=>by go_simp;try rfl) ?_
   refine PfV (Zi (j1:Int)) rfl (fun wz hw=>by go_simp;try rfl) ?_
   refine PfV (.pointer (some ⟨g,j1*7,none⟩)) rfl (fun wz hw=>by go_simp;try rfl) ?_
   refine Z9 g cs 130 (.agg (Zn x)) fF (by simp[htch]) rfl (fun wz hw hc=>Zo 130 _ rfl g (j1*7) rfl (lcs x) _ (YL hrc hc hx) underlying130 rfl (by rw[HZ.out];rfl)) ?_
   simp only[Act.put,StT,StZ,StS,Nat.reduceAdd]
   iterate 2 refine PfV _ rfl (fun wz hw=>by go_simp;try rfl) ?_
   refine PfV (.pointer (some ⟨g,j*7,none⟩)) rfl (fun wz hw=>by go_simp;try rfl) ?_
   refine Z9 g cs 130 (.agg (Zn y)) fF (by simp[htch]) rfl (fun wz hw hc=>Zo 130 _ rfl g (j*7) rfl (lcs y) _ (YL hrc hc hy) underlying130 rfl (by rw[HZ.out];rfl)) ?_
   simp only[Act.put,StT,StZ,StS,Nat.reduceAdd];refine PfV (.pointer (some ⟨g,j*7,none⟩)) rfl (fun wz hw=>by go_simp;try rfl) ?_
   refine Z6 g (j*7) cs (lcs x) 130 fF (by simp[htch]) (fun j oj hj=>ZC (l:=[9,13,15,17]) (by kernel_rfl) j oj (by simpa [htch] using hj)) rfl (fun wz hw hc hf=>ZB 130 _ _ rfl g (j*7) (Zn x) rfl rfl (YM hrc hc hf (YG hy)) (by rw[HZ.out];rfl) (Xj x)) ?_
   simp only[Act.put,Nat.reduceAdd];refine PfV (.pointer (some ⟨g,j1*7,none⟩)) rfl (fun wz hw=>by go_simp;try rfl) ?_
   have fF2:(fun kb=>if kb=g then some (Obj.cells (Yp cs (j*7) (lcs x)) 130 (0,0)) else F kb) g=some (.cells (Yp cs (j*7) (lcs x)) 130 (0,0)):=if_pos rfl
   refine Z6 g (j1*7) (Yp cs (j*7) (lcs x)) (lcs y) 130 fF2 (by simp[htch]) (fun j oj hj=>ZC (l:=[9,13,15,17]) (by kernel_rfl) j oj (by simpa [htch] using hj)) rfl (fun wz hw hc hf=>ZB 130 _ _ rfl g (j1*7) (Zn y) rfl rfl (YM (hrc.set x (YG hy)) hc hf (by rw[List.length_set];exact YG hx)) (by rw[HZ.out];rfl) (Xj y)) ?_
   simp only[Act.put,Nat.reduceAdd];refine YB (fun w2 hF2=>?_)
   have hSw:=Lh (HS.out.swap (W':=w2) hrc hy hx (hF2.box g _ (if_pos rfl)) (hF2.swapX HFX.out));clear hF2 HFF HFX htch fF fF2 hrc HS;have HO2:Hid (SS cf ys->(zs'.set j x).set j1 y=ys):=fun ho=>absurd hc (by have:=HC.out ho;omega)
   clear HO HC hc;go_wp2;go_roundw
   case rel=>exact⟨j1,_,by have:=HJ.out;omega,by have:=HJ.out;omega,(by first|rfl|go_num),hSw.out,HO2.out⟩
   case measure=>simp[intOf];have:=HJ.out;omega
end Go.Proofs.YtpieeldbamklkaaGreatDoor
