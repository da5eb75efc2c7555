/- Texts put together: Hh Wg Ops. -/
import Derived.Test.YtpieeldbamklkaaGreatDoorA13
import Derived.Test.YtpieeldbamklkaaGreatDoorAWf
import Derived.Stop.LaidErr
import Derived.Deep.Slices
import Derived.Deep.Fields
import Derived.OpenShut
import Derived.Lib.SmallJoins
import Derived.ChangeSame
set_option maxHeartbeats 8000000
set_option maxRecDepth 100000
namespace Go.Proofs.YtpieeldbamklkaaGreatDoor
open Go.RowKit Go.Shelf Num
attribute [local go_sem] Oper.semAt_some
theorem FP (args:Array Value) (w:World):(callFunc 153 args).run Tryz.prog w=.ok (.enter 153 args) w:=by kernel_rfl
def ZaA (w:World) (b o:Nat) (ps:List (List Sec)):Prop:=∀(i:Nat) (xs:List Sec),ps[i]?=some xs->b<w.heap.size/\∃A1 c1,w.cell? ⟨b,o+i,none⟩=some (.slice A1 xs.length c1)/\xs.length<=c1/\Y7 w A1 xs
theorem ZaA.below {w w':World} {b o:Nat} {ps:List (List Sec)} (h:ZaA w b o ps) (hb:Below w.heap.size w w'):ZaA w' b o ps:=fun i x hx=>by
 obtain⟨hl,A1,c1,h0,hc,h1⟩:=h i x hx;exact⟨Nat.lt_of_lt_of_le hl hb.size,A1,c1,(hb.cell (p:=⟨b,_,none⟩) hl).trans h0,hc,h1.below hb⟩
theorem TX.b {w:World} {A:Option Addr} {ps:List (List Sec)} (h:TX w A ps) {x:List Sec} (hx:ps[0]?=some x):∃b o,A=some ⟨b,o,none⟩/\ZaA w b o ps:=by
 obtain⟨b,o,-,-,hA,-⟩:=h 0 x hx;refine⟨b,o,hA,fun i xs hi=>?_⟩
 obtain⟨b',o',A1,c1,hA',hl,h0,hc,h1⟩:=h i xs hi;rw[hA] at hA';injection hA' with hA'
 injection hA' with e1 e2
 subst e1 e2;exact⟨hl,A1,c1,h0,hc,h1⟩
def M1 (ps:List (List Sec)):Int:=if ps.length=0 then 11 else O9 (nmS (ps.headD [])) ps
def FQ (ps:List (List Sec)) (w w':World) (e:Ending):Prop:=Below w.heap.size w w'/\((M1 ps≠0/\e=.returned (.tuple #[.slice none 0 0,.int .i64 (M1 ps)]))∨(M1 ps=0/\∃g,e=.returned (.tuple #[.slice (some ⟨g,0,none⟩) (ps.headD []).length (ps.headD []).length,.int .i64 0])/\WL w' g (Vv (Xe (ps.headD []).length) 1 ps)))
theorem FR:(Tryz.prog.info? 156).map (fun i=>(i.zero,i.size,i.bytes))=some (some (.agg #[.string ⟨#[]⟩,.string ⟨#[]⟩,.string ⟨#[]⟩,.string ⟨#[]⟩,.string ⟨#[]⟩,.string ⟨#[]⟩,.string ⟨#[]⟩]),7,112):=by kernel_rfl
theorem FT (m:Nat) (h1:m<=5) (w:World):(Instr.makeSlice 78 (.int .i64 (m:Int)) (.int .i64 (m:Int))).run Tryz.prog w=.ok (.slice (some ⟨w.heap.size,0,none⟩) m m) (w.alloc (.cells (YO (Xe m)).toArray 156)):=by
 obtain⟨i0,hi,hz0,hz1,hz2⟩:=info_parts FR;rw[Wo 78 156 i0 _ Tryz.underlying78 hi hz0 .i64 .i64 m m (Nl _) (by rw[hz2];omega) (by omega) w,hz1]
 have e:madeCells (Value.agg #[.string ⟨#[]⟩,.string ⟨#[]⟩,.string ⟨#[]⟩,.string ⟨#[]⟩,.string ⟨#[]⟩,.string ⟨#[]⟩,.string ⟨#[]⟩]).cells (m*7)=(YO (Xe m)).toArray:=by
  have h:m=0∨m=1∨m=2∨m=3∨m=4∨m=5:=by omega
  apply Array.ext';rcases h with rfl|rfl|rfl|rfl|rfl|rfl<;>simp[madeCells,List.range_succ,YO,Xe,ptL,Zat,Zau,Value.cells,List.replicate]
 rw[e]
theorem WL.setO {w:World} {g c i:Nat} {rs:YF} {u:Value} (h:WL w g rs) (hn:g≠c):WL (w.setCell ⟨c,i,none⟩ u) g rs:=(Below.heap_setCell w ⟨c,i,none⟩ u g hn).trans h
theorem WL.putO {w:World} {g l:Nat} {rs:YF} {ob:Obj} (h:WL w g rs) (hn:g≠l):WL (w.putObj l ob) g rs:=(World.putObj_heap_other hn).trans h
theorem WL.keepX {X:Nat->Prop} {w w':World} {g:Nat} {rs:YF} (h:WL w g rs) (hb:Zl X w w') (hx:¬X g):WL w' g rs:=(hb.block g h.lt hx).trans h
def FrL (S0 P7 P8 N48 K49:Value) (ds:List Deferred) (a:Act):Prop:=∃f:Nat->Value,a=⟨#[S0,f 1,f 2,f 3,f 4,f 5,f 6,P7,P8,f 9,f 10,f 11,f 12,f 13,f 14,f 15,f 16,f 17,f 18,f 19,f 20,f 21,f 22,f 23,f 24,f 25,f 26,f 27,f 28,f 29,f 30,f 31,f 32,f 33,f 34,f 35,f 36,f 37,f 38,f 39,f 40,f 41,f 42,f 43,f 44,f 45,f 46,S0,N48,K49,f 50,f 51,f 52,f 53,f 54,f 55,f 56,f 57,f 58,f 59,f 60,f 61,f 62,f 63,f 64,f 65,f 66,f 67,f 68,f 69,f 70,f 71,f 72,f 73,f 74,f 75,f 76,f 77,f 78,f 79,f 80,f 81,f 82,f 83],ds⟩
theorem BE {S0 P7 P8 N48 K49 v1 v2 v3 v4 v5 v6 v9 v10 v11 v12 v13 v14 v15 v16 v17 v18 v19 v20 v21 v22 v23 v24 v25 v26 v27 v28 v29 v30 v31 v32 v33 v34 v35 v36 v37 v38 v39 v40 v41 v42 v43 v44 v45 v46 v50 v51 v52 v53 v54 v55 v56 v57 v58 v59 v60 v61 v62 v63 v64 v65 v66 v67 v68 v69 v70 v71 v72 v73 v74 v75 v76 v77 v78 v79 v80 v81 v82 v83:Value} {ds:List Deferred}:FrL S0 P7 P8 N48 K49 ds ⟨#[S0,v1,v2,v3,v4,v5,v6,P7,P8,v9,v10,v11,v12,v13,v14,v15,v16,v17,v18,v19,v20,v21,v22,v23,v24,v25,v26,v27,v28,v29,v30,v31,v32,v33,v34,v35,v36,v37,v38,v39,v40,v41,v42,v43,v44,v45,v46,S0,N48,K49,v50,v51,v52,v53,v54,v55,v56,v57,v58,v59,v60,v61,v62,v63,v64,v65,v66,v67,v68,v69,v70,v71,v72,v73,v74,v75,v76,v77,v78,v79,v80,v81,v82,v83],ds⟩:=
 ⟨fun i=>([S0,v1,v2,v3,v4,v5,v6,P7,P8,v9,v10,v11,v12,v13,v14,v15,v16,v17,v18,v19,v20,v21,v22,v23,v24,v25,v26,v27,v28,v29,v30,v31,v32,v33,v34,v35,v36,v37,v38,v39,v40,v41,v42,v43,v44,v45,v46,S0,N48,K49,v50,v51,v52,v53,v54,v55,v56,v57,v58,v59,v60,v61,v62,v63,v64,v65,v66,v67,v68,v69,v70,v71,v72,v73,v74,v75,v76,v77,v78,v79,v80,v81,v82,v83]:List Value).getD i undef,rfl⟩
theorem ZaB {S0 P7 P8 N48 K49 K v1 v2 v3 v4 v5 v6 v9 v10 v11 v12 v13 v14 v15 v16 v17 v18 v19 v20 v21 v22 v23 v24 v25 v26 v27 v28 v29 v30 v31 v32 v33 v34 v35 v36 v37 v38 v39 v40 v41 v42 v43 v44 v45 v46 v50 v51 v52 v53 v54 v55 v56 v57 v58 v59 v60 v61 v62 v63 v64 v65 v66 v67 v68 v69 v70 v71 v72 v73 v74 v75 v76 v77 v78 v79 v80 v81 v82 v83:Value} {ds:List Deferred} (e:K=K49):FrL S0 P7 P8 N48 K49 ds ⟨#[S0,v1,v2,v3,v4,v5,v6,P7,P8,v9,v10,v11,v12,v13,v14,v15,v16,v17,v18,v19,v20,v21,v22,v23,v24,v25,v26,v27,v28,v29,v30,v31,v32,v33,v34,v35,v36,v37,v38,v39,v40,v41,v42,v43,v44,v45,v46,S0,N48,K,v50,v51,v52,v53,v54,v55,v56,v57,v58,v59,v60,v61,v62,v63,v64,v65,v66,v67,v68,v69,v70,v71,v72,v73,v74,v75,v76,v77,v78,v79,v80,v81,v82,v83],ds⟩:=by
 subst e;exact BE
structure ZaC (w:World) (b7 b8 g m:Nat) (ks:List Nat) (o:YF) (G:Rat) (wr:World):Prop where
 below:Below w.heap.size w wr
 x7:Blk wr b7 #[.slice (some ⟨g,0,none⟩) m m]
 x8:Blk wr b8 #[.string ⟨List.toArray (fN G)⟩,.string ⟨List.toArray (fD G)⟩]
 row:WL wr g o
 dfr:∀r∈ks,wr.heap[r]?=some (.deferred (some []))
 lo:∀r∈ks,w.heap.size<=r
 nd:ks.Nodup
def marks (ks:List Nat):List Deferred:=ks.map fun r=>{ target:=.collected r,args:=#[] }
theorem Qg {P:Program} {F:Fence} {n:Nat} {fn:Func} {tmps:Array Value} {R:Ending->World->Prop} :
  ∀(ks:List Nat) (w:World),ks.Nodup->(∀r∈ks,w.heap[r]?=some (.deferred (some [])))->LeavesInM F n P fn tmps R [] .returning (ks.foldl (fun w r=>w.putObj r (.deferred none)) w)->LeavesInM F n P fn tmps R (marks ks) .returning w
 | [],_,_,_,h=>h
 | r::ks,w,hn,hd,h=>by
  refine⟨by simp,.inl ⟨r,_,rfl,run_takeDeferred (hd r (by simp)),?_⟩⟩
  have hn':=List.nodup_cons.1 hn;exact Qg ks _ hn'.2 (fun r' hr'=>(World.putObj_heap_other (fun e=>hn'.1 (by rw[<-e];exact hr'))).trans (hd r' (by simp[hr']))) h
theorem Nf (B:Nat):∀(ks:List Nat) (w:World),(∀r∈ks,B<=r)->Below B w (ks.foldl (fun w r=>w.putObj r (.deferred none)) w)/\∀g,g∉ks->(ks.foldl (fun w r=>w.putObj r (.deferred none)) w).heap[g]?=w.heap[g]?
 | [],w,_=>⟨Below.refl _ _,fun _ _=>rfl⟩
 | r::ks,w,h=>by
  obtain⟨h1,h2⟩:=Nf B ks (w.putObj r (.deferred none)) (fun r' hr'=>h r' (by simp[hr']))
  refine⟨?_,fun g hg=>(h2 g (fun e=>hg (by simp[e]))).trans (World.putObj_heap_other (fun e=>hg (by simp[e])))⟩
  have h0:Below B w (w.putObj r (.deferred none)):=⟨rfl,rfl,rfl,by simp,fun k hk=>World.putObj_heap_other (by have:=h r (by simp);omega)⟩
  exact h0.trans h1
structure UC (w:World) (b7 b8 b11 b12 bl g m l:Nat) (ks:List Nat) (A1:Option Addr) (c1:Nat) (O1 O2 B1 B2 G1 G2:List UInt8) (R:Loop) (rs:YF) (W:World):Prop where
 below:Below w.heap.size w W
 x7:Blk W b7 #[.slice (some ⟨g,0,none⟩) m m]
 x8:Blk W b8 #[.string ⟨G1.toArray⟩,.string ⟨G2.toArray⟩]
 x11:Blk W b11 #[.string ⟨O1.toArray⟩,.string ⟨O2.toArray⟩]
 x12:Blk W b12 #[.string ⟨B1.toArray⟩,.string ⟨B2.toArray⟩]
 xl:Blk W bl #[.slice A1 m c1]
 row:WL W g rs
 loop:W.heap[l]?=some (.loop R)
 dfr:∀r∈ks,W.heap[r]?=some (.deferred (some []))
structure ZbV (w:World) (b7 b8 b11 b12 bl g l:Nat) (ks:List Nat):Prop where
 n7:b7≠g/\b7≠l
 n8:b8≠g/\b8≠l
 n11:b11≠g/\b11≠l
 n12:b12≠g/\b12≠l
 nb:bl≠g/\bl≠l
 ng:g≠l
 nk:∀r∈ks,r≠g/\r≠l
 lo:w.heap.size<=g/\w.heap.size<=l
section
variable {w W W':World} {b7 b8 b11 b12 bl g m l c1:Nat} {ks:List Nat} {A1:Option Addr} {O1 O2 B1 B2 G1 G2:List UInt8} {R R1 R2:Loop} {rs rs':YF}
theorem UC.keep (h:UC w b7 b8 b11 b12 bl g m l ks A1 c1 O1 O2 B1 B2 G1 G2 R rs W) (hN:ZbV w b7 b8 b11 b12 bl g l ks) {X:Nat->Prop} (hX:∀k,X k->k=g) (hb:Zl X W W') (hr:WL W' g rs'):UC w b7 b8 b11 b12 bl g m l ks A1 c1 O1 O2 B1 B2 G1 G2 R rs' W':=
 ⟨hb.lower h.below (fun k hk=>by rw[hX k hk];exact hN.lo.1),h.x7.keepX hb (fun hx=>hN.n7.1 (hX _ hx)),h.x8.keepX hb (fun hx=>hN.n8.1 (hX _ hx)),h.x11.keepX hb (fun hx=>hN.n11.1 (hX _ hx)),h.x12.keepX hb (fun hx=>hN.n12.1 (hX _ hx)),h.xl.keepX hb (fun hx=>hN.nb.1 (hX _ hx)),hr,
  (hb.block _ (Ag.1 h.loop).1 (fun hx=>hN.ng (hX _ hx).symm)).trans h.loop,fun r hk=>(hb.block _ (Ag.1 (h.dfr r hk)).1 (fun hx=>(hN.nk r hk).1 (hX _ hx))).trans (h.dfr r hk)⟩
theorem UC.mono (h:UC w b7 b8 b11 b12 bl g m l ks A1 c1 O1 O2 B1 B2 G1 G2 R rs W) (hb:Below W.heap.size W W'):UC w b7 b8 b11 b12 bl g m l ks A1 c1 O1 O2 B1 B2 G1 G2 R rs W':=
 ⟨bto h.below hb,h.x7.below hb,h.x8.below hb,h.x11.below hb,h.x12.below hb,h.xl.below hb,h.row.below hb,Zk h.loop hb,fun r hk=>Zk (h.dfr r hk) hb⟩
theorem UC.done (hR:R2=R) (hN:ZbV w b7 b8 b11 b12 bl g l ks) (h:UC w b7 b8 b11 b12 bl g m l ks A1 c1 O1 O2 B1 B2 G1 G2 R1 rs W):UC w b7 b8 b11 b12 bl g m l ks A1 c1 O1 O2 B1 B2 G1 G2 R rs (W.putObj l (.loop R2)):=by
 subst hR;exact⟨Xb h.below hN.lo.2,h.x7.putO hN.n7.2,h.x8.putO hN.n8.2,h.x11.putO hN.n11.2,h.x12.putO hN.n12.2,h.xl.putO hN.nb.2,h.row.putO hN.ng,World.putObj_heap_same (Ag.1 h.loop).1,fun r hk=>(World.putObj_heap_other (hN.nk r hk).2).trans (h.dfr r hk)⟩
end
theorem UD (r:List UInt8×Yx) (rs:YF):YO (r::rs)=ptL r++YO rs:=rfl
theorem Hw (r:List UInt8×Yx):(ptL r).length=7:=rfl
theorem QI:∀(a b:YF),YO (a++b)=YO a++YO b
 | [],_=>rfl
 | r::a,b=>by rw[List.cons_append,UD,QI a b,UD,List.append_assoc]
theorem Ng:∀(vs:List Value) (cs:Array Value) (o:Nat),o+vs.length<=cs.size->(YR cs o vs).toList=cs.toList.take o++vs++cs.toList.drop (o+vs.length)
 | [],cs,o,_=>by
  show cs.toList=_;rw[List.append_nil,List.length_nil,Nat.add_zero,List.take_append_drop]
 | v::r,cs,o,h=>by
  have hl:o<cs.toList.length:=by rw[Array.length_toList];rw[List.length_cons] at h;omega
  have ho:(cs.toList.take o).length=o:=by rw[List.length_take];omega
  rw[YR,Ng r _ (o+1) (by rw[Array.size_setIfInBounds];rw[List.length_cons] at h;omega),Array.toList_setIfInBounds,List.set_eq_take_append_cons_drop,if_pos hl]
  have e1:(cs.toList.take o++v::cs.toList.drop (o+1)).take (o+1)=cs.toList.take o++[v]:=by
   rw[List.take_append,List.take_of_length_le (by omega),ho,show o+1-o=1 by omega];rfl
  have e2:(cs.toList.take o++v::cs.toList.drop (o+1)).drop (o+1+r.length)=cs.toList.drop (o+(r.length+1)):=by
   rw[List.drop_append,List.drop_eq_nil_of_le (by omega),ho,List.nil_append,show o+1+r.length-o=r.length+1 by omega,List.drop_succ_cons,List.drop_drop]
   congr 1;omega
  rw[e1,e2,List.length_cons];simp
theorem FU {rs:YF} {k:Nat} (y:List UInt8×Yx) (hk:k<rs.length):YR (YO rs).toArray (k*7) (ptL y)=(YO (rs.set k y)).toArray:=by
 have e0:rs=rs.take k++rs.drop k:=(List.take_append_drop k rs).symm;have e1:rs.drop k=rs[k]::rs.drop (k+1):=List.drop_eq_getElem_cons hk;have hl:(rs.take k).length=k:=by rw[List.length_take];omega
 have h1:YO rs=YO (rs.take k)++(ptL rs[k]++YO (rs.drop (k+1))):=by
  rw[<-UD,<-e1,<-QI,<-e0]
 have h2:rs.set k y=rs.take k++y::rs.drop (k+1):=by rw[List.set_eq_take_append_cons_drop,if_pos hk]
 have hL:(YO (rs.take k)).length=k*7:=by rw[TC,hl]
 apply Array.ext';rw[Ng _ _ _ (by show k*7+7<=(YO rs).toArray.size;rw[List.size_toArray,TC];omega),List.toList_toArray,List.toList_toArray,h2,QI,UD,h1,List.take_left' hL,Hw]
 have h3:(YO (rs.take k)++(ptL rs[k]++YO (rs.drop (k+1)))).drop (k*7+7)=YO (rs.drop (k+1)):=by
  rw[<-List.append_assoc];exact List.drop_left' (by rw[List.length_append,hL,Hw])
 rw[h3,List.append_assoc]
theorem ZcN {A:Option Addr} {ps:List (List Sec)} {n:Nat} (c:Nat) {w:World} (hG:ZQ w) (hn:ps.length=n) (hn2:n<=3) (h:TX w A ps) (hs:∀x∈ps,∀s∈x,SmS s) (hl:∀x∈ps,x.length<=40/\(x.length<=32->x.length<=5)) :
  Calls Tryz.prog 28 #[.slice A n c] w fun e w'=>FQ ps w w' e:=by
 by_cases h0:n=0
 ·have HV:Hid (M1 ps=11):=by unfold M1;exact if_pos (by omega)
  have k3:((n:Int)==0)=true:=by rw[beq_iff_eq];omega
  have k4:(n==0)=true:=by rw[beq_iff_eq];exact h0
  clear h hs hl h0 hn hn2;go_enter Tryz.func28,Tryz.ntmps28;go_wp2;refine bodyPost_ret (v:=.tuple #[.slice none 0 0,.int .i64 11]) (by simp[results,Tryz.results28,go_sem]) rfl ?_
  unfold FQ;rw[HV.out];exact⟨Below.refl _ _,.inl ⟨by decide,rfl⟩⟩
 have k3:((n:Int)==0)=false:=by rw[Bn];omega
 have k4:(n==0)=false:=by rw[Bn];exact h0
 have k5:decide (64<n)=false:=Df (by omega)
 have k6:decide ((64:Int)<(n:Int))=false:=Df (by omega)
 obtain⟨x0,hx0⟩:∃x0,ps[0]?=some x0:=⟨_,List.getElem?_eq_getElem (by omega)⟩
 obtain⟨b,o,rfl,hB⟩:=h.b hx0;obtain⟨N0,hN0⟩:∃N0,N0=nmS x0:=⟨_,rfl⟩
 obtain⟨E,hE⟩:∃E,E=O9 N0 ps:=⟨_,rfl⟩
 have hhd:ps.headD []=x0:=by
  cases ps with
  | nil=>simp at hx0
  | cons y r=>simpa using hx0
 have HPO:Hid (∀w' e,Below w.heap.size w w'->((E≠0/\e=.returned (.tuple #[.slice none 0 0,.int .i64 E]))∨(E=0/\∃g,e=.returned (.tuple #[.slice (some ⟨g,0,none⟩) x0.length x0.length,.int .i64 0])/\WL w' g (Vv (Xe x0.length) 1 ps)))->FQ ps w w' e):=fun w' e h1 h2=>by
  unfold FQ M1;rw[if_neg (by omega),hhd,<-hN0,<-hE]
  exact⟨h1,h2⟩
 have HE:Hid (E=O9 N0 (ps.drop 0)):=hE;have HEE:=Lh hE;have HX:=Lh hB;have HS:=Lh hs;have HL:=Lh hl;have HN:=Lh hn;have HX0:=Lh hx0;have HN0:=Lh hN0;have hn1:0<n:=by omega
 clear h hs hl hn hx0 hB hE hhd h0 hN0;refine (callsIn_wide (n:=5)).1 ?_;refine callsIn_of_wp_marks Tryz.func28 rfl trivial ?_ rfl;simp only[Tryz.ntmps28,List.size_toArray,List.length_cons,List.length_nil,Nat.reduceAdd,Nat.reduceSub,Array.replicate_succ,Array.replicate_zero,List.push_toArray,List.append_toArray,List.nil_append,List.cons_append]
 gi_wp2_with fail
 clear k3 k4 k5 k6
 gi_loopw [23] (fun iv wr=>∃k:Nat,k<=n/\iv=.int .i64 (k:Int)/\Hid (E=O9 N0 (ps.drop k))/\Below w.heap.size w wr) (fun iv _=>n-(intOf iv).toNat)
 case atStart=>exact⟨0,Nat.zero_le _,rfl,HE,Below.refl _ _⟩
 case round=>
  clear HE;obtain⟨k,hk,rfl,HE,hb⟩:=hrel
  by_cases hlt:k<n
  ·obtain⟨x,hx⟩:∃x,ps[k]?=some x:=⟨_,List.getElem?_eq_getElem (by rw[HN.out];omega)⟩
   obtain⟨hbs,A1,c1,p0,hc1,hat⟩:=(HX.out.below hb) k x hx;have HD:=Lh (HE.out.trans (FL hx));have hxm:=Lm hx;have hl40:=(HL.out x hxm).1;obtain⟨m,hm⟩:∃m,m=x.length:=⟨_,rfl⟩
   rw[<-hm] at p0 hc1 hl40;have CK:=Lh (Hr c1 (hG.below hb) hm.symm (by omega) hc1 hat (HS.out x hxm))
   have KN:=Lh (fun w' (hb':Below wr.heap.size wr w')=>CQ c1 hm.symm (by omega) (hat.below hb'))
   have e1:decide ((k:Int)<(n:Int))=true:=Dt (by omega)
   obtain⟨ev,hev⟩:∃ev,ev=Sr x:=⟨_,rfl⟩
   rw[<-hev] at CK HD;have HM:=Lh hm;clear hx hxm hat hev hm HE hc1
   gi_wp2_with fail
   refine⟨trivial,?_⟩
   (with_reducible refine (callsIn_wide.2 CK.out).mono ?_)
   rintro e w1 ⟨rfl,hb1⟩;clear CK
   by_cases he:ev=0
   rotate_left
   ·have HV:Hid (E=ev):=HD.out.trans (if_pos he);have e2:(ev==0)=false:=by rw[Bn];exact he
    have HHE:=Lh he;have hb2:=bto hb hb1;clear HD KN he
    gi_wp2
    refine⟨.tuple #[.slice none 0 0,.int .i64 ev],by simp[results,Tryz.results28,go_sem],?_⟩
    exact HPO.out _ _ hb2 (.inl ⟨by rw[HV.out];exact HHE.out,by rw[HV.out]⟩)
   have HD2:=Lh (HD.out.trans (if_neg (fun h=>h he)))
   have e2:(ev==0)=true:=by rw[beq_iff_eq];exact he
   clear HD he;have hxl:n=ps.length:=HN.out.symm;obtain⟨hbs0,A2,c2,p00,hc2,hat0⟩:=(HX.out.below (bto hb hb1)) 0 x0 HX0.out;have KN0:=Lh (fun w' (hb':Below w1.heap.size w1 w')=>CQ c2 rfl (by have:=(HL.out x0 (Lm HX0.out)).1;omega) (hat0.below hb'))
   obtain⟨m0,hm0⟩:∃m0,m0=x0.length:=⟨_,rfl⟩
   rw[<-hm0] at p00 KN0;rw[Nat.add_zero] at p00;have hn0:decide (0<n)=true:=Dt (by omega)
   have hni:decide ((0:Int)<(n:Int))=true:=Dt (by omega)
   have HKN:=Lh (fun w' (hb':Below w1.heap.size w1 w')=>KN.out w' (bto hb1 hb'))
   have hnl:(nmS x).length=m:=by unfold nmS;rw[List.length_map];exact HM.out.symm
   have hnl0:N0.length=m0:=by rw[HN0.out,hm0];unfold nmS;rw[List.length_map]
   rw[<-HN0.out] at KN0;have HNL:=Lh hnl;have HNL0:=Lh hnl0;have HMM:Hid (m<=40/\m0<=40):=⟨hl40,by rw[hm0];exact (HL.out x0 (Lm HX0.out)).1⟩
   have HB1:=Lh (bto hb hb1);obtain⟨NX,hNX⟩:∃NX,NX=nmS x:=⟨_,rfl⟩
   rw[<-hNX] at HKN HNL HD2;obtain⟨bq,hbq⟩:∃bq,bq=(NX==N0):=⟨_,rfl⟩
   rw[<-hbq] at HD2;have HBQ:=Lh hbq;clear KN hat0 hxl hnl hnl0 hm0 hNX hb1 hb hbq
   gi_wp2_with fail
   refine wpIn_wide.2 ?_;refine Pb (n:=8) (Below w1.heap.size w1) (by kernel_rfl) rfl ?_
   intro wd hwd;refine Xy 0 (by kernel_rfl) rfl rfl (by kernel_rfl) hwd (fun wz hw=>by go_simp;try with_reducible rfl) ?_
   simp only[Act.put,List.setIfInBounds_toArray,List.set_cons_zero,List.set_cons_succ];refine Xy 2 (by kernel_rfl) rfl rfl (by kernel_rfl) hwd (fun wz hw=>by go_simp;try with_reducible rfl) ?_
   simp only[Act.put,List.setIfInBounds_toArray,List.set_cons_zero,List.set_cons_succ];refine Xy 3 (by kernel_rfl) rfl rfl (by kernel_rfl) hwd (fun wz hw=>by go_simp;try with_reducible rfl) ?_
   simp only[Act.put,List.setIfInBounds_toArray,List.set_cons_zero,List.set_cons_succ];refine Xy 4 (by kernel_rfl) rfl rfl (by kernel_rfl) hwd (fun wz hw=>by have q0:=(hw.cell (p:=⟨b,_,none⟩) hbs0).trans p00;go_simp;try with_reducible rfl) ?_
   simp only[Act.put,List.setIfInBounds_toArray,List.set_cons_zero,List.set_cons_succ];refine ZU 1 (by kernel_rfl) rfl rfl hwd (fun K2 hK2=>?_)
   go_wp2_with fail;refine (HKN.out wd hwd).mono ?_;rintro e w2 ⟨A3,c3,rfl,hs2,hb2⟩;have hwd2:=bto hwd hb2;go_wp2_with fail;refine YT (hK2 _ _ ?_);clear hK2;refine ZU 5 (by kernel_rfl) rfl rfl hwd2 (fun K2 hK2=>?_)
   go_wp2_with fail;refine (KN0.out w2 hwd2).mono ?_;rintro e w3 ⟨A4,c4,rfl,hs3,hb3⟩;have hwd3:=bto hwd2 hb3;have KE0:=ZcK c3 c4 HNL.out HNL0.out (by have:=HMM.out;omega) (by have:=HMM.out;omega) (hs2.below hb3) hs3
   rw[<-HBQ.out] at KE0;have KE:=Lh KE0;clear KE0;go_wp2_with fail;refine YT (hK2 _ _ ?_);clear hK2;refine ZU 6 (by kernel_rfl) rfl rfl hwd3 (fun K2 hK2=>?_)
   go_wp2_with fail;refine KE.out.mono ?_;rintro e w4 ⟨rfl,hb4⟩;have hwd4:=bto hwd3 hb4;have HB4:=Lh (bto HB1.out hwd4);clear KE hb4 hb3 hb2 hs2 hs3 hwd hwd2 hwd3 KN0 HKN HNL HNL0 HMM HB1;go_wp2_with fail;refine YT (hK2 _ _ ?_);clear hK2;refine ZU 7 (by kernel_rfl) rfl rfl hwd4 (fun K2 hK2=>?_)
   go_wp2_with fail;refine YT (hK2 _ _ ?_);clear hK2;refine Nc (by kernel_rfl) hwd4 ?_
   clear hwd4 HBQ;cases bq with
   | false=>
    have HV:Hid (E=9):=HD2.out.trans (if_pos rfl);clear HD2
    gi_wp2
    refine⟨.tuple #[.slice none 0 0,.int .i64 9],by simp[results,Tryz.results28,go_sem],?_⟩
    exact HPO.out _ _ HB4.out (.inl ⟨by rw[HV.out];decide,by rw[HV.out]⟩)
   | true=>
    have HV:Hid (E=O9 N0 (ps.drop (k+1))):=HD2.out.trans (if_neg (by decide))
    clear HD2
    gi_wp2
    go_roundw
    case rel=>exact⟨k+1,by omega,by go_num,HV,HB4.out⟩
    case measure=>simp[intOf];omega
  ·have e1:decide ((k:Int)<(n:Int))=false:=Df (by omega)
   have hE0:E=0:=by rw[HE.out,List.drop_of_length_le (by rw[HN.out];omega)];rfl
   have hok:=MY (n0:=N0) (ps:=ps) (by rw[<-HEE.out];exact hE0)
   obtain⟨m,hm⟩:∃m,m=x0.length:=⟨_,rfl⟩
   have hper:∀x∈ps,SmP x/\Ht x/\x.length=m:=fun x hx=>by
    obtain⟨h1,h2⟩:=hok x hx;have h3:=MZ h1;refine⟨⟨(HL.out x hx).2 h3.len.2,fun y hy=>?_⟩,h3,?_⟩
    ·obtain⟨s,hs,rfl⟩:=List.mem_map.1 hy;exact MX (HS.out x hx s hs)
    ·have h4:(nmS x).length=(nmS x0).length:=by rw[h2,HN0.out]
     unfold nmS at h4;rw[List.length_map,List.length_map] at h4;rw[h4,hm]
   have hx0m:=hper x0 (Lm HX0.out);have hm5:m<=5:=by have:=hx0m.1.len;omega
   have hm1:0<m:=by have:=hx0m.2.1.len.1;omega
   have HPZ:Hid (∀w' e,Below w.heap.size w w'->(∃g,e=.returned (.tuple #[.slice (some ⟨g,0,none⟩) m m,.int .i64 0])/\WL w' g (Vv (Xe m) 1 ps))->FQ ps w w' e):=fun w' e h1 h2=>HPO.out w' e h1 (.inr ⟨hE0,by rw[<-hm];exact h2⟩)
   obtain⟨hbs0,A2,c2,p00,-,-⟩:=(HX.out.below hb) 0 x0 HX0.out;rw[<-hm,Nat.add_zero] at p00;have HPE:=Lh hper;have hn0:decide (0<n)=true:=Dt hn1;have hmk:=fun w'=>FT m hm5 w'
   have HB1:=Lh hb;clear HPO HE HEE HL HS HX0 HN0 hE0 hok hx0m hm hb hper
   gi_wp2_with fail
   clear e1;refine wpIn_wide.2 ?_;refine Qc (by simp) (by simp) (by kernel_rfl) (by kernel_rfl) (by kernel_rfl) (by kernel_rfl) (by kernel_rfl) ?_
   simp only[List.dropLast_cons_cons,List.dropLast_singleton,List.getLast_cons_cons,List.getLast_singleton];refine TA _ (fun _=>rfl) (fun ρ wz hw=>by go_simp;try with_reducible rfl) ?_
   simp only[Act.put,StT,StZ,StS,Nat.reduceAdd];refine TA _ (fun _=>rfl) (fun ρ wz hw=>by go_simp;try with_reducible rfl) ?_
   simp only[Act.put,StT,StZ,StS,Nat.reduceAdd];refine TA _ (fun _=>rfl) (fun ρ wz hw=>by have q0:=(hw.cell (p:=⟨b,_,none⟩) hbs0).trans p00;go_simp;try with_reducible rfl) ?_
   simp only[Act.put,StT,StZ,StS,Nat.reduceAdd];refine TA _ (fun _=>rfl) (fun ρ wz hw=>by go_simp;try with_reducible rfl) ?_
   simp only[Act.put,StT,StZ,StS,Nat.reduceAdd];refine QG (fun b=>.slice (some ⟨b,0,none⟩) m m) (.cells (YO (Xe m)).toArray 156) (fun _=>rfl) (fun ρ wz hw=>by have q0:=hmk wz;go_simp;try with_reducible rfl) wr (fun wz hw=>hw.size) ?_
   simp only[Act.put,StT,StZ,StS,Nat.reduceAdd];refine JY _ _ _ (fun _=>rfl) (fun ρ wz hw=>by go_simp;try with_reducible rfl) (fun wz hw=>Zav wz (hG.below (bto HB1.out hw))) ?_
   simp only[Act.put,StT,StZ,StS,Nat.reduceAdd];refine QG (fun b=>.pointer (some ⟨b,0,none⟩)) (.cells #[.slice none 0 0] 78) (fun _=>rfl) (fun ρ wz hw=>by go_simp;try with_reducible rfl) wr (fun wz hw=>hw.size) ?_
   simp only[Act.put,StT,StZ,StS,Nat.reduceAdd];refine QG (fun b=>.pointer (some ⟨b,0,none⟩)) ((.cells #[.string ⟨#[]⟩,.string ⟨#[]⟩] 34)) (fun _=>rfl) (fun ρ wz hw=>by go_simp;try with_reducible rfl) wr (fun wz hw=>hw.size) ?_
   simp only[Act.put,StT,StZ,StS,Nat.reduceAdd];intro ρ w5 hF;obtain⟨⟨g,e4,l4,h4⟩,-⟩:=hF.box 4 _ rfl;obtain⟨⟨b7,e6,l6,h6⟩,-⟩:=hF.box 6 _ rfl;obtain⟨⟨b8,e7,l7,h7⟩,-⟩:=hF.box 7 _ rfl;have hbF:=hF.below;simp only[e4,e6,e7];clear hF e4 e6 e7;have n78:b7≠b8:=fun e=>by rw[e,h7] at h6;injection h6 with h6;injection h6 with _ h6;exact absurd h6 (by decide)
   have n7g:b7≠g:=fun e=>by rw[e,h4] at h6;injection h6 with h6;injection h6 with _ h6;exact absurd h6 (by decide)
   have n8g:b8≠g:=fun e=>by rw[e,h4] at h7;injection h7 with h7;injection h7 with _ h7;exact absurd h7 (by decide)
   have X7:Blk w5 b7 #[.slice none 0 0]:=⟨_,h6⟩;have X8:Blk w5 b8 #[.string ⟨#[]⟩,.string ⟨#[]⟩]:=⟨_,h7⟩;have q7:=X7.c 0;have f7:=X7.f 0;have X82:=X8.setO (i:=0) (u:=.slice (some ⟨g,0,none⟩) m m) n78.symm;have q80:=X82.c 0;have q81:=X82.c 1;have f80:=X82.f 0;have f81:=X82.f 1;have HX7:=Lh X7;have HX8:=Lh X8;have HG4:Hid (WL w5 g (Xe m)):=h4;have hl7:w.heap.size<=b7:=Nt HB1.out.size l6;have hl8:w.heap.size<=b8:=Nt HB1.out.size l7;have hlg:w.heap.size<=g:=Nt HB1.out.size l4;have HB5:=Lh (bto HB1.out hbF);have HNE:=Lh (And.intro n78 (And.intro n7g n8g));have HLO:=Lh (And.intro hl7 (And.intro hl8 hlg));clear X7 X8 X82 h4 h6 h7 hbF l4 l6 l7 hl7 hl8 hlg HB1 hmk hbs0 p00 n7g n8g;go_wp2_with fail;obtain⟨W,hW⟩:∃W,W=((w5.setCell ⟨b7,0,none⟩ (.slice (some ⟨g,0,none⟩) m m)).setCell ⟨b8,0,none⟩ (.string ⟨(fN (1:Rat)).toArray⟩)).setCell ⟨b8,1,none⟩ (.string ⟨(fD (1:Rat)).toArray⟩):=⟨_,rfl⟩
   rw[<-hW];have HS0:Hid (ZaC w b7 b8 g m [] (Xe m) 1 W):=by
    obtain⟨n78,n7g,n8g⟩:=HNE.out;obtain⟨l7,l8,lg⟩:=HLO.out;show ZaC w b7 b8 g m [] (Xe m) 1 W;rw[hW];exact⟨((HB5.out.setCell (p:=⟨b7,0,none⟩) l7 _).setCell (p:=⟨b8,0,none⟩) l8 _).setCell (p:=⟨b8,1,none⟩) l8 _,((HX7.out.set1 _).setO n78).setO n78,(HX8.out.setO n78.symm).set2 _ _,((HG4.out.setO n7g.symm).setO n8g.symm).setO n8g.symm,fun r hr=>(by simp at hr),fun r hr=>(by simp at hr),List.nodup_nil⟩
   clear hW q7 f7 q80 q81 f80 f81 HX7 HX8 HG4 HB5
   gi_wp2_with fail
   refine wpIn_loop (fun a' w'=>∃(k:Nat) (ks:List Nat) (or:YF) (G:Rat) (M:Nat),(k<=n/\Hid (Vv (Xe m) 1 ps=Vv or G (ps.drop k))/\Hid (ZaC w b7 b8 g m ks or G w')/\Hid (or.length=m)/\Hid (Bd (1+128*k) G/\∀p∈or,BdP M p.2)/\M<=1+714*k)/\FrL (.slice (some ⟨b,o,none⟩) n c) (.pointer (some ⟨b7,0,none⟩)) (.pointer (some ⟨b8,0,none⟩)) (.int .i64 (n:Int)) (.int .i64 (k:Int)) (marks ks) a') (fun a' _=>n-(intOf (a'.tmps.getD 49 undef)).toNat) ?_ ?_
   ·exact⟨0,[],Xe m,1,1,⟨Nat.zero_le _,rfl,HS0.out,List.length_replicate,⟨YP,L9 m⟩,Nl _⟩,BE⟩
   intro a' wr2 hinv;obtain⟨k,ks,or,G,M,⟨hk,HF,HS2,HOL,HBD,hM⟩,f,ha⟩:=hinv;subst ha;clear HS0
   try dsimp only
   by_cases hlt:k<n
   rotate_left
   ·have e1:decide ((k:Int)<(n:Int))=false:=Df (by omega)
    have hfin:Vv (Xe m) 1 ps=or:=by rw[HF.out,List.drop_of_length_le (by rw[HN.out];omega)];rfl
    have q7:wr2.cell? ⟨b7,0,none⟩=some (.slice (some ⟨g,0,none⟩) m m):=HS2.out.x7.c 0;have HFIN:=Lh hfin;clear HF HPE HX HOL HBD hM hfin
    gi_wp2
    refine Qg ks wr2 HS2.out.nd HS2.out.dfr ?_;obtain⟨hfb,hfg⟩:=Nf w.heap.size ks wr2 HS2.out.lo;refine⟨.tuple #[.slice (some ⟨g,0,none⟩) m m,.int .i64 0],by simp[results,Tryz.results28,go_sem],?_⟩
    refine HPZ.out _ _ (HS2.out.below.trans hfb) ⟨g,rfl,?_⟩;rw[HFIN.out];refine (hfg g (fun hmem=>?_)).trans HS2.out.row
    have h1:=HS2.out.dfr g hmem;have h2:wr2.heap[g]?=some (.cells (YO or).toArray 156 (0,0)):=HS2.out.row;rw[h2] at h1;cases h1
   have e1:decide ((k:Int)<(n:Int))=true:=Dt (by omega)
   obtain⟨x,hx⟩:∃x,ps[k]?=some x:=⟨_,List.getElem?_eq_getElem (by rw[HN.out];omega)⟩
   obtain⟨hbs,A1,c1,p0w,hc1,hatw⟩:=HX.out k x hx;obtain⟨hsm,hok,hxm⟩:=HPE.out x (Lm hx);have hraw:=hok.raw;have HST:=Lh (HF.out.trans (FM hx));rw[hxm] at p0w hc1;have p0:=(HS2.out.below.cell (p:=⟨b,_,none⟩) hbs).trans p0w;have hln:(x.map WK).length=m:=by rw[List.length_map];exact hxm
   have HAT:Hid (∀W,Below w.heap.size w W->Y7 W A1 ((x.map WK).map raw)):=fun W hb=>by rw[<-hraw];exact hatw.below hb
   have K1:=Lh (O8 c1 (hG.below HS2.out.below) hln (by omega) (HAT.out _ HS2.out.below) hsm.bd (by omega))
   rw[Ss] at K1;have HSM:=Lh hsm;have HLN:=Lh hln;have HXM:=Lh hxm;obtain⟨O1,hO1⟩:∃O1,O1=fN (Xj (qL x)):=⟨_,rfl⟩
   obtain⟨O2,hO2⟩:∃O2,O2=fD (Xj (qL x)):=⟨_,rfl⟩
   obtain⟨B1,hB1⟩:∃B1,B1=fN (Yd (qL x)):=⟨_,rfl⟩
   obtain⟨B2,hB2⟩:∃B2,B2=fD (Yd (qL x)):=⟨_,rfl⟩
   rw[<-hO1,<-hO2,<-hB1,<-hB2] at K1;have HO1:=Lh hO1;have HO2:=Lh hO2;have HB1:=Lh hB1;have HB2:=Lh hB2;clear hx hbs p0w hatw hsm hok hxm hraw hln hO1 hO2 hB1 hB2 HF hc1
   gi_wp2_with fail
   refine⟨trivial,?_⟩
   (with_reducible refine (callsIn_wide.2 K1.out).mono ?_)
   rintro e w3 ⟨rfl,hb3⟩;clear K1 p0;obtain⟨a1,a2,a3,a4⟩:=Xi w3 (.cells #[.string ⟨O1.toArray⟩,.string ⟨O2.toArray⟩] 34) (.cells #[.string ⟨B1.toArray⟩,.string ⟨B2.toArray⟩] 34);obtain⟨W4,hW4⟩:∃W4,W4=(w3.alloc (.cells #[.string ⟨O1.toArray⟩,.string ⟨O2.toArray⟩] 34)).alloc (.cells #[.string ⟨B1.toArray⟩,.string ⟨B2.toArray⟩] 34):=⟨_,rfl⟩
   rw[<-hW4] at a1 a2 a3 a4;have HW4:=Lh hW4;have HA1:=Lh a1;have HA2:=Lh a2;have HB34:=Lh (bto hb3 a3);have HCA:=Lh (L8 A1 m c1 W4);have hsz4:W4.heap.size=w3.heap.size+2:=by rw[hW4,World.size_alloc,World.size_alloc]
   have HSZ4:=Lh hsz4;have HS3S:=Lh hb3.size;clear a1 a2 a3 a4 hW4 hb3 hsz4
   gi_wp2_with fail
   rw[<-HW4.out];refine⟨trivial,?_⟩
   (with_reducible refine (callsIn_wide.2 HCA.out).mono ?_)
   rintro e W5 ⟨rfl,rfl⟩
   gi_wp2_with fail
   refine XW (gf:=153) (lb:=#[.pointer (some ⟨W4.heap.size,0,none⟩)]) rfl FP ?_;intro fn R hR;obtain⟨W5,hW5⟩:∃W5,W5=W4.alloc (.cells #[.slice A1 m c1] 76):=⟨_,rfl⟩
   have hb45:Below W4.heap.size W4 W5:=by rw[hW5];exact Zb _ _
   have hxl:W5.heap[W4.heap.size]?=some (.cells #[.slice A1 m c1] 76 (0,0)):=by rw[hW5];exact ZJ _ _
   have hs5:W5.heap.size=W4.heap.size+1:=by rw[hW5,World.size_alloc]
   rw[<-hW5] at hR ⊢;obtain⟨W1,hW1⟩:∃W1,W1=(W5.alloc (.deferred (some []))).alloc (.loop R):=⟨_,rfl⟩
   have hbB:Below W5.heap.size W5 W1:=by rw[hW1];exact bto (Zb _ _) (Zb _ _)
   have hD:W1.heap[W5.heap.size]?=some (.deferred (some [])):=by rw[hW1];exact (Below.heap_alloc _ _ _ (by simp)).trans (World.alloc_heap_new _ _)
   have hL:W1.heap[W5.heap.size+1]?=some (.loop R):=by
    rw[hW1]
    have:=World.alloc_heap_new (W5.alloc (.deferred (some []))) (.loop R)
    rwa [World.size_alloc] at this
   rw[<-hW1];obtain⟨l,hl⟩:∃l,l=W5.heap.size+1:=⟨_,rfl⟩
   obtain⟨d,hd⟩:∃d,d=W5.heap.size:=⟨_,rfl⟩
   rw[<-hl] at hL ⊢;rw[<-hd] at hD hR ⊢;obtain⟨b11,hb11⟩:∃b11,b11=w3.heap.size:=⟨_,rfl⟩
   obtain⟨bl,hbl⟩:∃bl,bl=W4.heap.size:=⟨_,rfl⟩
   obtain⟨G1,hG1⟩:∃G1,G1=fN G:=⟨_,rfl⟩
   obtain⟨G2,hG2⟩:∃G2,G2=fD G:=⟨_,rfl⟩
   have hs4:=HSZ4.out;have hs3:=HS3S.out;have l7:=HS2.out.x7.lt;have l8:=HS2.out.x8.lt;have lg:=HS2.out.row.lt;obtain⟨lo7,lo8,log⟩:=HLO.out;have hg1:wr2.heap[g]?=some (.cells (YO or).toArray 156 (0,0)):=HS2.out.row;have hkg:∀r∈ks,r≠g:=fun r hr e=>by
    have h1:=HS2.out.dfr r hr;rw[e,hg1] at h1;cases h1
   have hkl:∀r∈ks,r<wr2.heap.size:=fun r hr=>(Ag.1 (HS2.out.dfr r hr)).1
   have hNN:ZbV w b7 b8 b11 (b11+1) bl g l (d::ks):=by
    obtain⟨-,n7g,n8g⟩:=HNE.out;have hw:=HS2.out.below.size;refine⟨⟨n7g,by omega⟩,⟨n8g,by omega⟩,⟨by omega,by omega⟩,⟨by omega,by omega⟩,⟨by omega,by omega⟩,by omega,fun r hr=>?_,⟨log,by omega⟩⟩
    rcases List.mem_cons.1 hr with rfl|hr
    ·exact⟨by omega,by omega⟩
    ·exact⟨hkg r hr,by have:=hkl r hr;omega⟩
   have HNN:=Lh hNN;have hbAll:=bto (bto HB34.out hb45) hbB;have hS0:UC w b7 b8 b11 (b11+1) bl g m l (d::ks) A1 c1 O1 O2 B1 B2 G1 G2 R or W1:=by
    refine⟨bto HS2.out.below hbAll,HS2.out.x7.below hbAll,(by rw[hG1,hG2];exact HS2.out.x8.below hbAll),⟨34,?_⟩,⟨34,?_⟩,⟨76,?_⟩,HS2.out.row.below hbAll,hL,fun r hr=>?_⟩
    ·rw[hb11];exact Zk (Zk HA1.out hb45) hbB
    ·rw[hb11];exact Zk (Zk HA2.out hb45) hbB
    ·rw[hbl];exact Zk hxl hbB
    ·rcases List.mem_cons.1 hr with rfl|hr
     ·exact hD
     ·exact Zk (HS2.out.dfr r hr) hbAll
   have hdks:(d::ks).Nodup/\∀r∈d::ks,w.heap.size<=r:=by
    have hw:=HS2.out.below.size;refine⟨List.nodup_cons.2 ⟨fun hm=>by have:=hkl d hm;omega,HS2.out.nd⟩,fun r hr=>?_⟩
    rcases List.mem_cons.1 hr with rfl|hr
    ·omega
    ·exact HS2.out.lo r hr
   have HDK:=Lh hdks;have HB8:Hid (b11≠b8):=by show _≠_;omega
   have HG1:=Lh hG1;have HG2:=Lh hG2;have hR11:W4.heap.size=bl:=hbl.symm;rw[<-hb11] at hR ⊢;rw[hR11];clear hW5 hb45 hxl hs5 hW1 hbB hD hL hl hd hb11 hbl hs4 hs3 l7 l8 lg lo7 lo8 log hg1 hkg hkl hNN hbAll hdks hG1 hG2 hR11 HW4 HA1 HA2 HB34 HCA HSZ4 HS3S;obtain⟨z,hz⟩:∃z,z=Ud G x or:=⟨_,rfl⟩
   have hzl:z.length=or.length:=by rw[hz,TB G (by rw[HOL.out,HXM.out]),HXM.out,HOL.out]
   have HZ:=Lh hz;have HZL:=Lh hzl;have HZB:Hid (∀p∈z,BdP (M+128+(200+(1+128*k))+1) p.2):=by rw[hz];exact Ke HSM.out HBD.out.2 HBD.out.1
   clear hz hzl;have HI:Hid ((Tryz.prog.info? 156).map (·.size)=some 7):=by
    show _=_
    kernel_rfl
   have hY:∀(b':Nat) (ob:Obj) (j:Nat) (cc:List UInt8×Yx) (W:World),(UC w b7 b8 b11 (b11+1) bl g m l (d::ks) A1 c1 O1 O2 B1 B2 G1 G2 R (UL j or z) W/\W.heap[b']?=some ob/\b'≠g/\b'≠l)->(TH (x.map WK))[j]?=some cc->
     YieldAt Fence.wide (5-1-1) Tryz.prog l #[.int .i64 (j:Int),.agg (ptC cc.1 cc.2)] W fun e W'=>e=.returned (.bool true)/\UC w b7 b8 b11 (b11+1) bl g m l (d::ks) A1 c1 O1 O2 B1 B2 G1 G2 R (UL (j+1) or z) W'/\W'.heap[b']?=some ob/\b'≠g/\b'≠l:=by
    clear hS0;intro b' ob j cc W hSS hcc;obtain⟨hS,hob,hbg,hbl'⟩:=hSS;have hlj:=(Lg.1 hcc).1;rw[Na,HLN.out] at hlj;obtain⟨p,hp⟩:∃p,or[j]?=some p:=⟨_,List.getElem?_eq_getElem (by rw[HOL.out];exact hlj)⟩
    have hmp:(UL j or z)[j]?=some p:=(C7 HZL.out (by rw[HOL.out];exact hlj)).trans hp
    have hzj:z[j]?=some (cc.1,Vt (ZC p.2 (1+Yd (qL x))) (ZC cc.2 G)):=by rw[HZ.out];exact CX hp hcc
    have hset:=C8 HZL.out hzj;have hml:j<(UL j or z).length:=by rw[CZ HZL.out,HOL.out];exact hlj
    have hbp:=HBD.out.2 p (Lm hp);have hbc:=HSM.out.con cc (Lm hcc);have hbb:=HSM.out.ben;have hbg1:=HBD.out.1;show YieldAt Fence.wide (5-1-1) Tryz.prog l #[.int .i64 (j:Int),.agg #[.string ⟨List.toArray cc.1⟩,.string ⟨List.toArray (fN cc.2.a)⟩,.string ⟨List.toArray (fD cc.2.a)⟩,.string ⟨List.toArray (fN cc.2.s)⟩,.string ⟨List.toArray (fD cc.2.s)⟩,.string ⟨List.toArray (fN cc.2.i)⟩,.string ⟨List.toArray (fD cc.2.i)⟩]] W _;have hy:=run_yield (P:=Tryz.prog) (args:=#[.int .i64 (j:Int),.agg #[.string ⟨List.toArray cc.1⟩,.string ⟨List.toArray (fN cc.2.a)⟩,.string ⟨List.toArray (fD cc.2.a)⟩,.string ⟨List.toArray (fN cc.2.s)⟩,.string ⟨List.toArray (fD cc.2.s)⟩,.string ⟨List.toArray (fN cc.2.i)⟩,.string ⟨List.toArray (fD cc.2.i)⟩]]) hS.loop (by rw[hR];rfl)
    refine⟨R.fn,_,R.assign,R.body,hy,roundIn_of_wpIn trivial ?_⟩;have hSa:=hS.mono (Zb W (.cells #[.string ⟨List.toArray cc.1⟩,.string ⟨List.toArray (fN cc.2.a)⟩,.string ⟨List.toArray (fD cc.2.a)⟩,.string ⟨List.toArray (fN cc.2.s)⟩,.string ⟨List.toArray (fD cc.2.s)⟩,.string ⟨List.toArray (fN cc.2.i)⟩,.string ⟨List.toArray (fD cc.2.i)⟩] 156));have hbr:=run_beginRound (P:=Tryz.prog) hSa.loop (by rw[hR])
    have hS1:UC w b7 b8 b11 (b11+1) bl g m l (d::ks) A1 c1 O1 O2 B1 B2 G1 G2 { R with state:=.busy } (UL j or z) ((W.alloc (.cells #[.string ⟨List.toArray cc.1⟩,.string ⟨List.toArray (fN cc.2.a)⟩,.string ⟨List.toArray (fD cc.2.a)⟩,.string ⟨List.toArray (fN cc.2.s)⟩,.string ⟨List.toArray (fD cc.2.s)⟩,.string ⟨List.toArray (fN cc.2.i)⟩,.string ⟨List.toArray (fD cc.2.i)⟩] 156)).putObj l (.loop { R with state:=.busy })):=UC.done rfl HNN.out hSa
    have hWl:l<W.heap.size:=(Ag.1 hS.loop).1;have hWg:g<W.heap.size:=hS.row.lt;have x14:Blk ((W.alloc (.cells #[.string ⟨List.toArray cc.1⟩,.string ⟨List.toArray (fN cc.2.a)⟩,.string ⟨List.toArray (fD cc.2.a)⟩,.string ⟨List.toArray (fN cc.2.s)⟩,.string ⟨List.toArray (fD cc.2.s)⟩,.string ⟨List.toArray (fN cc.2.i)⟩,.string ⟨List.toArray (fD cc.2.i)⟩] 156)).putObj l (.loop { R with state:=.busy })) W.heap.size #[.string ⟨List.toArray cc.1⟩,.string ⟨List.toArray (fN cc.2.a)⟩,.string ⟨List.toArray (fD cc.2.a)⟩,.string ⟨List.toArray (fN cc.2.s)⟩,.string ⟨List.toArray (fD cc.2.s)⟩,.string ⟨List.toArray (fN cc.2.i)⟩,.string ⟨List.toArray (fD cc.2.i)⟩]:=(Blk.new W _ 156).putO (by omega)
    have hob2:((W.alloc (.cells #[.string ⟨List.toArray cc.1⟩,.string ⟨List.toArray (fN cc.2.a)⟩,.string ⟨List.toArray (fD cc.2.a)⟩,.string ⟨List.toArray (fN cc.2.s)⟩,.string ⟨List.toArray (fD cc.2.s)⟩,.string ⟨List.toArray (fN cc.2.i)⟩,.string ⟨List.toArray (fD cc.2.i)⟩] 156)).putObj l (.loop { R with state:=.busy })).heap[b']?=some ob:=(World.putObj_heap_other hbl').trans (Zk hob (Zb _ _))
    obtain⟨Wb,hWb⟩:∃Wb,Wb=(W.alloc (.cells #[.string ⟨List.toArray cc.1⟩,.string ⟨List.toArray (fN cc.2.a)⟩,.string ⟨List.toArray (fD cc.2.a)⟩,.string ⟨List.toArray (fN cc.2.s)⟩,.string ⟨List.toArray (fD cc.2.s)⟩,.string ⟨List.toArray (fN cc.2.i)⟩,.string ⟨List.toArray (fD cc.2.i)⟩] 156)).putObj l (.loop { R with state:=.busy }):=⟨_,rfl⟩
    rw[<-hWb] at hbr hS1 x14 hob2;have hRe:({ { R with state:=.busy } with state:=.ready,pending:=none }:Loop)=R:=by rw[hR]
    obtain⟨R1,hR1⟩:∃R1,R1={ R with state:=.busy }:=⟨_,rfl⟩
    rw[<-hR1] at hS1 hRe;have hbt:BdP (M+128) (ZC p.2 (1+Yd (qL x))):=by
     have hf:Bd 128 (1+Yd (qL x)):=Xn YP hbb;exact⟨Yn hbp.1 hf,Yn hbp.2.1 hf,Yn hbp.2.2 hf⟩
    have hbu:BdP (200+(1+128*k)) (ZC cc.2 G):=⟨Yn hbc.1 hbg1,Yn hbc.2.1 hbg1,Yn hbc.2.2 hbg1⟩;have C1:=Lh Zav;have C2:=Lh (Oz (Zs YP (by omega)) (Zs hbb (by omega)) (rfl:(1:Rat)+Yd (qL x)=_))
    have C3:=Lh (Cy p.1 hbp (Xn YP hbb:Bd 128 (1+Yd (qL x))) (by omega) (by omega))
    have C4:=Lh (Cy cc.1 hbc hbg1 (by omega) (by omega))
    have C5:=Lh (ZcI p.1 cc.1 hbt hbu (by omega) (by omega))
    rw[<-HB1.out,<-HB2.out] at C2;rw[<-HG1.out,<-HG2.out] at C4;obtain⟨RS,hRS⟩:∃RS,RS=(YO (UL j or z)).toArray:=⟨_,rfl⟩
    have hRZ:RS.size=(UL j or z).length*7:=by rw[hRS,List.size_toArray,TC]
    have hcl:∀t,t<7->RS[j*7+t]?=(ptL p)[t]?:=fun t ht=>by rw[hRS,List.getElem?_toArray];exact PM ptL 7 (fun _=>rfl) hmp t ht
    have hrow:Wb.heap[g]?=some (.cells RS 156 (0,0)):=by rw[hRS];exact hS1.row
    have hnew:∀W',W'.heap[g]?=some (.cells (YR RS (j*7) (ptL (cc.1,Vt (ZC p.2 (1+Yd (qL x))) (ZC cc.2 G)))) 156 (0,0))->WL W' g (UL (j+1) or z):=fun W' h=>by
     rw[hRS,FU _ hml,hset] at h;exact h
    have hjs:j*7+7<=RS.size:=by rw[hRZ];omega
    have HR0:Hid (RS[j*7]?=some (.string ⟨List.toArray p.1⟩)):=hcl 0 (by decide)
    have HR1:Hid (RS[j*7+1]?=some (.string ⟨List.toArray (fN p.2.a)⟩)):=hcl 1 (by decide)
    have HR2:Hid (RS[j*7+2]?=some (.string ⟨List.toArray (fD p.2.a)⟩)):=hcl 2 (by decide)
    have HR3:Hid (RS[j*7+3]?=some (.string ⟨List.toArray (fN p.2.s)⟩)):=hcl 3 (by decide)
    have HR4:Hid (RS[j*7+4]?=some (.string ⟨List.toArray (fD p.2.s)⟩)):=hcl 4 (by decide)
    have HR5:Hid (RS[j*7+5]?=some (.string ⟨List.toArray (fN p.2.i)⟩)):=hcl 5 (by decide)
    have HR6:Hid (RS[j*7+6]?=some (.string ⟨List.toArray (fD p.2.i)⟩)):=hcl 6 (by decide)
    unfold ptL at hnew;unfold ptC at C3 C4 C5;dsimp only at hnew C3 C4 C5;have HNEW:=Lh hnew;have HROW:=Lh hrow;have HS1:=Lh hS1;have HBr:=Lh hbr;have HRe:=Lh hRe;have HOB:=Lh hob2;have HBG:=Lh (And.intro hbg hbl');have HJS:=Lh hjs;have X14:=Lh x14;have hn14:W.heap.size≠g:=by omega
    obtain⟨F,hO⟩:=J5 g (.cells RS 156 (0,0));have hn7:=hO.no (k:=b7) HNN.out.n7.1;have hn8:=hO.no (k:=b8) HNN.out.n8.1;have hn12:=hO.no (k:=b11+1) HNN.out.n12.1;have hn14':=hO.no hn14;have HO:=Lh hO;have hlow:=hO.low (B:=w.heap.size) HNN.out.lo.1;have e3:decide ((j:Int)<(m:Int))=true:=Dt (by omega)
    clear hy hS hSa hob hob2 hWb hbr hS1 hRe hR1 hcl hrow hnew hjs hRZ hRS hset hmp hml hzj hp hcc hbp hbc hbb hbg1 hbt hbu hn14 hO hWl hWg x14 hbg hbl';generalize fN (Vt (ZC p.2 (1+Yd (qL x))) (ZC cc.2 G)).a=V1 at *;generalize fD (Vt (ZC p.2 (1+Yd (qL x))) (ZC cc.2 G)).a=V2 at *;generalize fN (Vt (ZC p.2 (1+Yd (qL x))) (ZC cc.2 G)).s=V3 at *;generalize fD (Vt (ZC p.2 (1+Yd (qL x))) (ZC cc.2 G)).s=V4 at *;generalize fN (Vt (ZC p.2 (1+Yd (qL x))) (ZC cc.2 G)).i=V5 at *;generalize fD (Vt (ZC p.2 (1+Yd (qL x))) (ZC cc.2 G)).i=V6 at *;generalize fN (ZC p.2 (1+Yd (qL x))).a=T1 at *;generalize fD (ZC p.2 (1+Yd (qL x))).a=T2 at *;generalize fN (ZC p.2 (1+Yd (qL x))).s=T3 at *;generalize fD (ZC p.2 (1+Yd (qL x))).s=T4 at *;generalize fN (ZC p.2 (1+Yd (qL x))).i=T5 at *;generalize fD (ZC p.2 (1+Yd (qL x))).i=T6 at *;generalize fN (ZC cc.2 G).a=U1 at *;generalize fD (ZC cc.2 G).a=U2 at *;generalize fN (ZC cc.2 G).s=U3 at *;generalize fD (ZC cc.2 G).s=U4 at *;generalize fN (ZC cc.2 G).i=U5 at *;generalize fD (ZC cc.2 G).i=U6 at *;generalize fN p.2.a=P1 at *;generalize fD p.2.a=P2 at *;generalize fN p.2.s=P3 at *;generalize fD p.2.s=P4 at *;generalize fN p.2.i=P5 at *;generalize fD p.2.i=P6 at *;generalize fN cc.2.a=Q1 at *;generalize fD cc.2.a=Q2 at *;generalize fN cc.2.s=Q3 at *;generalize fD cc.2.s=Q4 at *;generalize fN cc.2.i=Q5 at *;generalize fD cc.2.i=Q6 at *;generalize fN (1+Yd (qL x))=F1 at *;generalize fD (1+Yd (qL x))=F2 at *;generalize fN (1:Rat)=N1 at *;generalize fD (1:Rat)=D1 at *;rw[hR]
    gi_wp2
    refine⟨_,HBr.out,?_⟩
    gi_wp2_with fail
    refine XF (QT l) (fun _=>[5,15]) F (by kernel_rfl) (by kernel_rfl) (by kernel_rfl) (HO.out.heap HROW.out) ?_
    refine Zi _ rfl (fun wz hw=>by have q0:wz.cell? ⟨b7,0,none⟩=some (.slice (some ⟨g,0,none⟩) m m):=(HS1.out.x7.keepX hw hn7).c 0;go_simp;try with_reducible rfl) ?_
    simp only[Act.put,StT,StZ,StS,Nat.reduceAdd];refine Zi _ rfl (fun wz hw=>by go_simp;try with_reducible rfl) ?_
    simp only[Act.put,StT,StZ,StS,Nat.reduceAdd];refine Zi _ rfl (fun wz hw=>by have q0:wz.cell? ⟨b7,0,none⟩=some (.slice (some ⟨g,0,none⟩) m m):=(HS1.out.x7.keepX hw hn7).c 0;go_simp;try with_reducible rfl) ?_
    simp only[Act.put,StT,StZ,StS,Nat.reduceAdd];refine Zi _ rfl (fun wz hw=>by go_simp;try with_reducible rfl) ?_
    simp only[Act.put,StT,StZ,StS,Nat.reduceAdd];refine Zi _ rfl (fun wz hw=>by go_simp;try with_reducible rfl) ?_
    simp only[Act.put,StT,StZ,StS,Nat.reduceAdd];refine Yp g RS 156 _ HO.out.at_ (by decide) rfl (fun wz hw hc=>by have q0:=(hc (j*7)).trans HR0.out;have q1:=(hc (j*7+1)).trans HR1.out;have q2:=(hc (j*7+2)).trans HR2.out;have q3:=(hc (j*7+3)).trans HR3.out;have q4:=(hc (j*7+4)).trans HR4.out;have q5:=(hc (j*7+5)).trans HR5.out;have q6:=(hc (j*7+6)).trans HR6.out;clear hc;go_simp;try with_reducible rfl) ?_
    simp only[Act.put,StT,StZ,StS,Nat.reduceAdd];refine Zu _ _ _ rfl (fun wz hw=>by go_simp;try with_reducible rfl) (fun wz hw=>C1.out.of hG (hw.lower HS1.out.below hlow)) ?_
    simp only[Act.put,StT,StZ,StS,Nat.reduceAdd];refine Zi _ rfl (fun wz hw=>by have q0:wz.cell? ⟨b11+1,0,none⟩=some (.string ⟨B1.toArray⟩):=(HS1.out.x12.keepX hw hn12).c 0;have q1:wz.cell? ⟨b11+1,1,none⟩=some (.string ⟨B2.toArray⟩):=(HS1.out.x12.keepX hw hn12).c 1;go_simp;try with_reducible rfl) ?_
    simp only[Act.put,StT,StZ,StS,Nat.reduceAdd];refine Zu _ _ _ rfl (fun wz hw=>by go_simp;try with_reducible rfl) (fun wz hw=>C2.out.of hG (hw.lower HS1.out.below hlow)) ?_
    simp only[Act.put,StT,StZ,StS,Nat.reduceAdd];refine Zu _ _ _ rfl (fun wz hw=>by go_simp;try with_reducible rfl) (fun wz hw=>C3.out.of hG (hw.lower HS1.out.below hlow)) ?_
    simp only[Act.put,StT,StZ,StS,Nat.reduceAdd];refine Zi _ rfl (fun wz hw=>by have q0:wz.cell? ⟨W.heap.size,0,none⟩=some (.string ⟨List.toArray cc.1⟩):=(X14.out.keepX hw hn14').c 0;have q1:wz.cell? ⟨W.heap.size,1,none⟩=some (.string ⟨Q1.toArray⟩):=(X14.out.keepX hw hn14').c 1;have q2:wz.cell? ⟨W.heap.size,2,none⟩=some (.string ⟨Q2.toArray⟩):=(X14.out.keepX hw hn14').c 2;have q3:wz.cell? ⟨W.heap.size,3,none⟩=some (.string ⟨Q3.toArray⟩):=(X14.out.keepX hw hn14').c 3;have q4:wz.cell? ⟨W.heap.size,4,none⟩=some (.string ⟨Q4.toArray⟩):=(X14.out.keepX hw hn14').c 4;have q5:wz.cell? ⟨W.heap.size,5,none⟩=some (.string ⟨Q5.toArray⟩):=(X14.out.keepX hw hn14').c 5;have q6:wz.cell? ⟨W.heap.size,6,none⟩=some (.string ⟨Q6.toArray⟩):=(X14.out.keepX hw hn14').c 6;go_simp;try with_reducible rfl) ?_
    simp only[Act.put,StT,StZ,StS,Nat.reduceAdd];refine Zi _ rfl (fun wz hw=>by have q0:wz.cell? ⟨b8,0,none⟩=some (.string ⟨G1.toArray⟩):=(HS1.out.x8.keepX hw hn8).c 0;have q1:wz.cell? ⟨b8,1,none⟩=some (.string ⟨G2.toArray⟩):=(HS1.out.x8.keepX hw hn8).c 1;go_simp;try with_reducible rfl) ?_
    simp only[Act.put,StT,StZ,StS,Nat.reduceAdd];refine Zu _ _ _ rfl (fun wz hw=>by go_simp;try with_reducible rfl) (fun wz hw=>C4.out.of hG (hw.lower HS1.out.below hlow)) ?_
    simp only[Act.put,StT,StZ,StS,Nat.reduceAdd];refine Zu _ _ _ rfl (fun wz hw=>by go_simp;try with_reducible rfl) (fun wz hw=>C5.out.of hG (hw.lower HS1.out.below hlow)) ?_
    simp only[Act.put,StT,StZ,StS,Nat.reduceAdd];refine Zi _ rfl (fun wz hw=>by go_simp;try with_reducible rfl) ?_
    simp only[Act.put,StT,StZ,StS,Nat.reduceAdd];refine ZO g (j*7) RS [.string ⟨List.toArray cc.1⟩,.string ⟨V1.toArray⟩,.string ⟨V2.toArray⟩,.string ⟨V3.toArray⟩,.string ⟨V4.toArray⟩,.string ⟨V5.toArray⟩,.string ⟨V6.toArray⟩] 156 HO.out.at_ (by decide) (fun j oj hj=>Zq (l:=[5,15]) (by kernel_rfl) j oj hj) rfl (fun wz hw hc hf=>Zn 156 _ _ rfl g (j*7) #[.string ⟨List.toArray cc.1⟩,.string ⟨V1.toArray⟩,.string ⟨V2.toArray⟩,.string ⟨V3.toArray⟩,.string ⟨V4.toArray⟩,.string ⟨V5.toArray⟩,.string ⟨V6.toArray⟩] rfl rfl (fun i hi=>⟨by have hi:i<7:=hi;have hjs:=HJS.out;rw[hc,Array.getElem?_eq_getElem (by omega)];rfl,hf _⟩) HI.out (Zax _ _ _ _ _ _ _)) ?_
    simp only[Act.put,Nat.reduceAdd];refine ZY (fun w4 hF4=>?_)
    have hpar:=HNEW.out w4 (hF4.box g _ (if_pos rfl));have HGO:=Lh (HS1.out.keep HNN.out (X:=fun k=>F k≠none) (fun k hk=>HO.out.only k hk) hF4.below hpar)
    have HOB2:=Lh ((hF4.below.block b' (Ag.1 HOB.out).1 (HO.out.no HBG.out.1)).trans HOB.out);clear hF4 hpar HS1 HNEW HROW X14 C1 C2 C3 C4 C5 HO HOB HBr HJS hn7 hn8 hn12 hn14' hlow HR0 HR1 HR2 HR3 HR4 HR5 HR6
    gi_wp2
    exact⟨_,_,run_endRound (P:=Tryz.prog) none HGO.out.loop,rfl,UC.done (HRe.out.trans hR) HNN.out HGO.out,(World.putObj_heap_other HBG.out.2).trans HOB2.out,HBG.out⟩
   have key:=J8 (A:=A1) (xs:=x.map WK) (n:=m) c1 bl (M:=12) (K:=126) HLN.out (by omega) HSM.out.bd (by omega) (by rw[Ss];exact HSM.out.ben) (by omega)
   have key2:=key (5-1) l (fun W=>UC w b7 b8 b11 (b11+1) bl g m l (d::ks) A1 c1 O1 O2 B1 B2 G1 G2 R or W) (fun b' ob j W=>UC w b7 b8 b11 (b11+1) bl g m l (d::ks) A1 c1 O1 O2 B1 B2 G1 G2 R (UL j or z) W/\W.heap[b']?=some ob/\b'≠g/\b'≠l)
    (fun W h=>⟨hG.below h.below,HAT.out W h.below,h.xl⟩)
    (fun W W' b' ob h hb hle hob=>⟨h.mono hb,hob,(by have:=h.row.lt;omega),(by have:=(Ag.1 h.loop).1;omega)⟩)
    (fun b' ob j W h=>⟨⟨hG.below h.1.below,HAT.out W h.1.below,h.1.xl⟩,h.2.1⟩)
    (fun b' ob j W W' h hb=>⟨h.1.mono hb,Zk h.2.1 hb,h.2.2⟩) hY W1 hS0
   refine key2.mono ?_;rintro e W2 ⟨hv,b',ob,hSE,-,-,-⟩;rw[Na,HLN.out,CY HOL.out (HZL.out.trans HOL.out)] at hSE;refine⟨hv,hSE.loop,?_⟩;have hS3:UC w b7 b8 b11 (b11+1) bl g m l (d::ks) A1 c1 O1 O2 B1 B2 G1 G2 { R with state:=.exhausted } z (W2.putObj l (.loop { R with state:=.exhausted })):=UC.done rfl HNN.out hSE
   obtain⟨W3,hW3⟩:∃W3,W3=W2.putObj l (.loop { R with state:=.exhausted }):=⟨_,rfl⟩
   rw[<-hW3] at hS3 ⊢;obtain⟨t8,h8⟩:=hS3.x8;have hbo:Bd 128 (1+Xj (qL x)):=Xn YP HSM.out.own;have D1_:=Lh Zav;have D2_:=Lh (Oz (Zs YP (by omega)) (Zs HSM.out.own (by omega)) (rfl:(1:Rat)+Xj (qL x)=_))
   have D3_:=Lh (Nm (Zs HBD.out.1 (by omega)) (Zs hbo (by omega)) (rfl:G*(1+Xj (qL x))=_))
   rw[<-HO1.out,<-HO2.out] at D2_;rw[<-HG1.out,<-HG2.out] at D3_;have hbg2:Bd (1+128*(k+1)) (G*(1+Xj (qL x))):=YQ (Yn HBD.out.1 hbo) (by omega)
   obtain⟨GN,hGN⟩:∃GN,GN=G*(1+Xj (qL x)):=⟨_,rfl⟩
   rw[<-hGN] at D3_ hbg2;have HST2:Hid (Vv (Xe m) 1 ps=Vv z GN (ps.drop (k+1))):=by show _=_;rw[HZ.out,hGN];exact HST.out
   obtain⟨E1,hE1⟩:∃E1,E1=fN GN:=⟨_,rfl⟩
   obtain⟨E2,hE2⟩:∃E2,E2=fD GN:=⟨_,rfl⟩
   rw[<-hE1,<-hE2] at D3_;obtain⟨F,hO⟩:=J5 b8 (.cells #[.string ⟨G1.toArray⟩,.string ⟨G2.toArray⟩] t8 (0,0));have hn11:=hO.no (k:=b11) HB8.out;have hlow:=hO.low (B:=w.heap.size) HLO.out.2.1;have HO:=Lh hO;have HS3:=Lh hS3;have H8:=Lh h8;have HE1:=Lh hE1;have HE2:=Lh hE2;have HBG2:=Lh hbg2;have HIF:Hid ((Tryz.prog.info? 34).map (·.size)=some 2):=by
    show _=_
    kernel_rfl
   have HZB2:=Lh HZB.out;clear key key2 hSE hS3 hW3 hbo hGN hbg2 hE1 hE2 hO h8 hY hS0 hv HAT HSM HLN HXM HST HZ HZB HBD HO1 HO2 HB1 HB2 HG1 HG2;generalize fN (1+Xj (qL x))=Y1 at *;generalize fD (1+Xj (qL x))=Y2 at *;generalize fN (1:Rat)=N1 at *;generalize fD (1:Rat)=D1 at *
   gi_wp2_with fail
   refine wpIn_wide.2 ?_;refine Zw (fun _=>[0,5]) F (by kernel_rfl) (by kernel_rfl) (by kernel_rfl) (HO.out.heap H8.out) ?_
   refine Yp b8 #[.string ⟨G1.toArray⟩,.string ⟨G2.toArray⟩] t8 _ HO.out.at_ (by decide) rfl (fun wz hw hc=>by have q0:=hc 0;have q1:=hc 1;go_simp;try with_reducible rfl) ?_
   simp only[Act.put,StT,StZ,StS,Nat.reduceAdd];refine Zu _ _ _ rfl (fun wz hw=>by go_simp;try with_reducible rfl) (fun wz hw=>D1_.out.of hG (hw.lower HS3.out.below hlow)) ?_
   simp only[Act.put,StT,StZ,StS,Nat.reduceAdd];refine Zi _ rfl (fun wz hw=>by have q0:wz.cell? ⟨b11,0,none⟩=some (.string ⟨O1.toArray⟩):=(HS3.out.x11.keepX hw hn11).c 0;have q1:wz.cell? ⟨b11,1,none⟩=some (.string ⟨O2.toArray⟩):=(HS3.out.x11.keepX hw hn11).c 1;go_simp;try with_reducible rfl) ?_
   simp only[Act.put,StT,StZ,StS,Nat.reduceAdd];refine Zu _ _ _ rfl (fun wz hw=>by go_simp;try with_reducible rfl) (fun wz hw=>D2_.out.of hG (hw.lower HS3.out.below hlow)) ?_
   simp only[Act.put,StT,StZ,StS,Nat.reduceAdd];refine Zu _ _ _ rfl (fun wz hw=>by go_simp;try with_reducible rfl) (fun wz hw=>D3_.out.of hG (hw.lower HS3.out.below hlow)) ?_
   simp only[Act.put,StT,StZ,StS,Nat.reduceAdd];refine ZO b8 0 #[.string ⟨G1.toArray⟩,.string ⟨G2.toArray⟩] [.string ⟨E1.toArray⟩,.string ⟨E2.toArray⟩] t8 HO.out.at_ (by decide) (fun j oj hj=>Zq (l:=[0,5]) (by kernel_rfl) j oj hj) rfl (fun wz hw hc hf=>Zn 34 _ _ rfl b8 0 #[.string ⟨E1.toArray⟩,.string ⟨E2.toArray⟩] rfl rfl (fun j hj=>⟨by have hj:j<2:=hj;rw[hc,Array.getElem?_eq_getElem (by show 0+j<2;omega)];rfl,hf _⟩) HIF.out (VK _ _)) ?_
   simp only[Act.put,Nat.reduceAdd];refine ZY (fun w4 hF4=>?_)
   have h4:=hF4.box b8 _ (if_pos rfl);have HS4:Hid (ZaC w b7 b8 g m (d::ks) z GN w4):=by
    obtain⟨n78,n7g,n8g⟩:=HNE.out;refine⟨hF4.below.lower HS3.out.below hlow,HS3.out.x7.keepX hF4.below (HO.out.no n78),⟨t8,?_⟩,HS3.out.row.keepX hF4.below (HO.out.no n8g.symm),fun r hr=>?_,HDK.out.2,HDK.out.1⟩
    ·rw[<-HE1.out,<-HE2.out];exact h4
    ·have h1:=HS3.out.dfr r hr;refine (hF4.below.block r (Ag.1 h1).1 (HO.out.no fun e=>?_)).trans h1
     rw[e,H8.out] at h1;cases h1
   clear hF4 h4 HS3 H8 HO HE1 HE2 D1_ D2_ D3_ hlow hn11
   gi_wp2
   refine⟨⟨k+1,d::ks,z,GN,M+128+(200+(1+128*k))+1,⟨by omega,HST2.out,HS4.out,HZL.out.trans HOL.out,⟨HBG2.out,HZB2.out⟩,by omega⟩,ZaB (by go_num)⟩,?_⟩
   simp[intOf];omega
end Go.Proofs.YtpieeldbamklkaaGreatDoor
namespace Go.Proofs.YtpieeldbamklkaaGreatDoor
open Go.ChangeShapes Go.WideShapes Go.ChangeAt Go.RowKit
theorem BF : "*"++ "errors.errorString" = "*errors.errorString":=by decide
theorem ZaX (u:TypeId) (h:Tryz.prog.typeName? 3 u=some "*errors.errorString"):u=392:=
 typeName_ptr_named (nm:= "errors.errorString") (by rw[BF];kernel_rfl) (by kernel_rfl) (by decide) u (by rw[BF];exact h)
theorem ZcO:Tryz.prog.cellsOf 394=1:=by kernel_rfl
theorem ZcP:Tryz.prog.cellsOf 9=1:=by kernel_rfl
theorem ZcQ:Tryz.prog.globalNamed "strconv.ErrRange" = some 1:=by kernel_rfl
theorem ZcR:Tryz.prog.globalNamed "strconv.ErrSyntax" = some 0:=by kernel_rfl
theorem Zdh:(Tryz.prog.globals[1]?).map (·.type)=some 209:=by kernel_rfl
theorem Zdi:(Tryz.prog.globals[0]?).map (·.type)=some 209:=by kernel_rfl
theorem ZcS {W:World} (h1:laidMet Tryz.prog Lw W) (hs:W.ShapedOpen Tryz.prog):GE W:=by
 refine⟨⟨?_,Go.Proofs.cell_of_shapedOpen_int (zero:=#[.int .i64 0]) (t:=3) hs (of_decide_eq_true (by kernel_rfl)) (by kernel_rfl) rfl (by kernel_rfl) (by kernel_rfl) Tryz.underlying3⟩,?_,?_⟩
 ·exact Lib.tabIs_of_head (g:=2) (by kernel_rfl) (by kernel_rfl) Tryz.underlying378 Tryz.underlying207 (by kernel_rfl) (by kernel_rfl) h1.tail.tail
 ·obtain⟨a,s,hv,-⟩:=laid_sentinel h1.tail.tail.tail.tail.tail ZcR Zdi Tryz.underlying209 ZaX Tryz.underlying392 Tryz.underlying394 rfl rfl Tryz.underlying9 ZcO ZcP;exact⟨_,_,World.var?_cell ZcR hv 0⟩
 ·obtain⟨a,s,hv,-⟩:=laid_sentinel h1.tail.tail.tail.tail ZcQ Zdh Tryz.underlying209 ZaX Tryz.underlying392 Tryz.underlying394 rfl rfl Tryz.underlying9 ZcO ZcP;exact⟨_,_,World.var?_cell ZcQ hv 0⟩
open Go.Deep
theorem Pd {w:World} {a:Addr} {v:Value} (h:w.cell? a=some v):a.spot=none/\a.block<w.heap.size:=by
 unfold World.cell? at h
 split at h
 ·next he=>
  split at h
  ·cases h
  ·next hs=>exact⟨by simpa using hs,(Ag.1 he).1⟩
 ·cases h
theorem ZaD:Tryz.prog.cellsOf 9=1:=by kernel_rfl
theorem BG:Tryz.prog.cellsOf 32=1:=by kernel_rfl
theorem M3:Tryz.prog.cellsOf 34=2:=by kernel_rfl
theorem BH:Tryz.prog.cellsOf 231=9:=by kernel_rfl
theorem ZbW:Tryz.prog.cellsOf 76=1:=by kernel_rfl
section
variable {H:Type} {enc:TypeId×Value->H} {w:World} {base:Nat} {spare:Nat->Bool} {held:Bool}
theorem Wl {n:Nat} {fs:Array Field} {cs:List Value} {xs:List (DataW H×List MemPlace)} (hf:∀(i:Nat) (f:Field),fs[i]?=some f->DataW.trod enc Tryz.prog w base spare held n f.type ((cs.drop f.offset).take (Tryz.prog.cellsOf f.type))=xs[i]?)
  (i:Nat) (ty:TypeId) (off:Nat) (f:Field) (h1:fs[i]?=some f) (h2:f.type=ty) (h3:f.offset=off) (k:Nat) (h4:Tryz.prog.cellsOf ty=k) (h5:i<xs.length):DataW.trod enc Tryz.prog w base spare held n ty ((cs.drop off).take k)=some (xs[i]'h5):=by
 have h:=hf i f h1;rw[h2,h3,h4,List.getElem?_eq_getElem h5] at h;exact h
theorem VE {fuel:Nat} {c0 c1:Value} {x:DataW H×List MemPlace} (h:DataW.trod enc Tryz.prog w base spare held fuel 34 [c0,c1]=some x):∃l l':List UInt8,c0=.string ⟨l.toArray⟩/\c1=.string ⟨l'.toArray⟩:=by
 obtain⟨xs,n,-,-,-,hxl,hf⟩:=DataW.trod_struct Tryz.underlying34 h;have hxl:xs.length=2:=hxl;have h0:DataW.trod enc Tryz.prog w base spare held n 32 [c0]=some (xs[0]'(by omega)):=Wl hf 0 32 0 _ rfl rfl rfl 1 BG (by omega)
 have h1:DataW.trod enc Tryz.prog w base spare held n 32 [c1]=some (xs[1]'(by omega)):=Wl hf 1 32 1 _ rfl rfl rfl 1 BG (by omega)
 obtain⟨s0,e0,-,-⟩:=DataW.trod_string Tryz.underlying32 h0;obtain⟨s1,e1,-,-⟩:=DataW.trod_string Tryz.underlying32 h1;injection e0 with e0
 injection e1 with e1
 exact⟨s0.data.toList,s1.data.toList,e0,e1⟩
theorem Ki {fuel:Nat} {cs:List Value} {x:DataW H×List MemPlace} (h:DataW.trod enc Tryz.prog w base spare held fuel 231 cs=some x):∃t:Sec,cs=[.string ⟨t.n.toArray⟩,.string ⟨t.w1.toArray⟩,.string ⟨t.w2.toArray⟩,.string ⟨t.r1.toArray⟩,.string ⟨t.r2.toArray⟩,.string ⟨t.b1.toArray⟩,.string ⟨t.b2.toArray⟩,.string ⟨t.c1.toArray⟩,.string ⟨t.c2.toArray⟩]:=by
 obtain⟨xs,n,-,-,hlen,hxl,hf⟩:=DataW.trod_struct Tryz.underlying231 h;rw[BH] at hlen;have hxl:xs.length=5:=hxl
 match cs,hlen with
 | [c0,c1,c2,c3,c4,c5,c6,c7,c8],_=>
  have h0:DataW.trod enc Tryz.prog w base spare held n 9 [c0]=some (xs[0]'(by omega)):=Wl hf 0 9 0 _ rfl rfl rfl 1 ZaD (by omega)
  have h1:DataW.trod enc Tryz.prog w base spare held n 34 [c1,c2]=some (xs[1]'(by omega)):=Wl hf 1 34 1 _ rfl rfl rfl 2 M3 (by omega)
  have h2:DataW.trod enc Tryz.prog w base spare held n 34 [c3,c4]=some (xs[2]'(by omega)):=Wl hf 2 34 3 _ rfl rfl rfl 2 M3 (by omega)
  have h3:DataW.trod enc Tryz.prog w base spare held n 34 [c5,c6]=some (xs[3]'(by omega)):=Wl hf 3 34 5 _ rfl rfl rfl 2 M3 (by omega)
  have h4:DataW.trod enc Tryz.prog w base spare held n 34 [c7,c8]=some (xs[4]'(by omega)):=Wl hf 4 34 7 _ rfl rfl rfl 2 M3 (by omega)
  obtain⟨s0,e0,-,-⟩:=DataW.trod_string Tryz.underlying9 h0;injection e0 with e0
  obtain⟨s1,s2,e1,e2⟩:=VE h1;obtain⟨s3,s4,e3,e4⟩:=VE h2;obtain⟨s5,s6,e5,e6⟩:=VE h3;obtain⟨s7,s8,e7,e8⟩:=VE h4;subst e0 e1 e2 e3 e4 e5 e6 e7 e8;exact⟨⟨s0.data.toList,s1,s2,s3,s4,s5,s6,s7,s8⟩,rfl⟩
theorem M4 {fuel:Nat} {cs:List Value} {x:DataW H×List MemPlace} (hf:DataW.trod enc Tryz.prog w base spare held fuel 76 cs=some x) :
  ∃(A:Option Addr) (c:Nat) (ts:List Sec),cs=[.slice A ts.length c]/\ts.length<=c/\ts.length<=9223372036854775807/\Y7 w A ts:=by
 rcases open_slice Tryz.underlying76 hf with ⟨hcs,-⟩|⟨a,n,cap,m,k,D,Pl,hcs,-,hl,hm,hmm,-,hi⟩
 ·exact⟨none,0,[],hcs,Nl _,by decide,fun i x hx=>by simp at hx⟩
 ·have hnm:n<=m:=by rw[hmm];split<;>omega
  unfold maxLen at hm;rw[BH] at hi;have hy:∀i,i<n->∃t:Sec,w.cell? ((a.add (i*9)).add 0)=some (.string ⟨t.n.toArray⟩)/\w.cell? ((a.add (i*9)).add 1)=some (.string ⟨t.w1.toArray⟩)/\w.cell? ((a.add (i*9)).add 2)=some (.string ⟨t.w2.toArray⟩)/\w.cell? ((a.add (i*9)).add 3)=some (.string ⟨t.r1.toArray⟩)/\w.cell? ((a.add (i*9)).add 4)=some (.string ⟨t.r2.toArray⟩)/\w.cell? ((a.add (i*9)).add 5)=some (.string ⟨t.b1.toArray⟩)/\w.cell? ((a.add (i*9)).add 6)=some (.string ⟨t.b2.toArray⟩)/\w.cell? ((a.add (i*9)).add 7)=some (.string ⟨t.c1.toArray⟩)/\w.cell? ((a.add (i*9)).add 8)=some (.string ⟨t.c2.toArray⟩):=fun i hin=>by
   obtain⟨cs',hc,ht⟩:=hi i (by omega)
   obtain⟨t,hy⟩:=Ki ht;obtain⟨_,hcl,hat⟩:=World.cells?_some hc;exact⟨t,by rw[hat 0 (by decide),hy];rfl,by rw[hat 1 (by decide),hy];rfl,by rw[hat 2 (by decide),hy];rfl,by rw[hat 3 (by decide),hy];rfl,by rw[hat 4 (by decide),hy];rfl,by rw[hat 5 (by decide),hy];rfl,by rw[hat 6 (by decide),hy];rfl,by rw[hat 7 (by decide),hy];rfl,by rw[hat 8 (by decide),hy];rfl⟩
  have hget:∀i t,((List.range n).map fun i=>if hin:i<n then (hy i hin).choose else ⟨[],[],[],[],[],[],[],[],[]⟩)[i]?=some t->∃hin:i<n,(hy i hin).choose=t:=fun i t hx=>by
   have hin:i<n:=by
    have:=(Lg.1 hx).1
    simpa using this
   rw[List.getElem?_map,List.getElem?_range hin] at hx;simp only[Option.map_some,dif_pos hin,Option.some.injEq] at hx;exact⟨hin,hx⟩
  refine⟨some a,cap,(List.range n).map fun i=>if hin:i<n then (hy i hin).choose else ⟨[],[],[],[],[],[],[],[],[]⟩,by rw[hcs];simp,by simpa using hl,by simp;omega,?_⟩
  intro i t hx;obtain⟨hin,rfl⟩:=hget i t hx;have hcell:=(hy i hin).choose_spec;obtain⟨hs0,hbl⟩:=Pd (hy 0 (by omega)).choose_spec.1
  generalize (hy i hin).choose=t at hcell ⊢;obtain⟨b,o,s⟩:=a;have hz:((⟨b,o,s⟩:Addr).add (0*9)).add 0=⟨b,o,s⟩:=by simp[Addr.add]
  rw[hz] at hs0 hbl;have hs0:s=none:=hs0;subst hs0;simp only[Lib.add_plain] at hcell;exact⟨b,o,rfl,hbl,hcell⟩
theorem FV {r:Reach} {b0:Nat} {v:Value} {d:DataW H} {p:List MemPlace} (hv:Value.okWide Tryz.prog w r b0 74 v) (h:DataW.Trod enc Tryz.prog w base spare held 74 v d p) :
  ∃(A:Option Addr) (n c:Nat) (ts:List (List Sec)),v=.slice A n c/\ts.length=n/\n<=c/\n<=9223372036854775807/\(∀t∈ts,t.length<=9223372036854775807)/\TX w A ts:=by
 obtain⟨A,n,c,rfl⟩:=okWide_slice Tryz.underlying74 hv;obtain⟨fuel,hf⟩:=h;rcases open_slice1 Tryz.underlying74 ZbW hf with ⟨hcs,-⟩|⟨a,len,cap,m,k,V,D,Pl,hcs,-,hl,hm,hmm,-,hi⟩
 ·have hcs:[Value.slice A n c]=[.slice none 0 0]:=hcs;injection hcs with hcs
  injection hcs with h1 h2 h3
  subst h1 h2 h3;exact⟨none,0,0,[],rfl,rfl,Nl _,by omega,fun t ht=>by simp at ht,fun i x hx=>by simp at hx⟩
 ·have hcs:[Value.slice A n c]=[.slice (some a) len cap]:=hcs;injection hcs with hcs
  injection hcs with h1 h2 h3
  subst h1 h2 h3;have hnm:n<=m:=by rw[hmm];split<;>omega
  unfold maxLen at hm;have hy:∀i,i<n->∃t:List Sec,t.length<=9223372036854775807/\∃A1 c1,w.cell? (a.add i)=some (.slice A1 t.length c1)/\t.length<=c1/\Y7 w A1 t:=fun i hin=>by
   obtain⟨hc,ht⟩:=hi i (by omega)
   obtain⟨A1,c1,ts,hcs,h1,h2,h3⟩:=M4 ht;injection hcs with hcs
   exact⟨ts,h2,A1,c1,by rw[hc,hcs],h1,h3⟩
  have hget:∀i t,((List.range n).map fun i=>if hin:i<n then (hy i hin).choose else [])[i]?=some t->∃hin:i<n,(hy i hin).choose=t:=fun i t hx=>by
   have hin:i<n:=by
    have:=(Lg.1 hx).1
    simpa using this
   rw[List.getElem?_map,List.getElem?_range hin] at hx;simp only[Option.map_some,dif_pos hin,Option.some.injEq] at hx;exact⟨hin,hx⟩
  refine⟨some a,n,c,(List.range n).map fun i=>if hin:i<n then (hy i hin).choose else [],rfl,by simp,hl,by omega,?_,?_⟩
  ·intro t ht;obtain⟨i,hi⟩:=List.getElem?_of_mem ht;obtain⟨hin,rfl⟩:=hget i t hi;exact (hy i hin).choose_spec.1
  ·intro i t hx;obtain⟨hin,rfl⟩:=hget i t hx;obtain⟨A1,c1,hcell,hc1,hat⟩:=(hy i hin).choose_spec.2;obtain⟨A2,c2,hc0,-,-⟩:=(hy 0 (by omega)).choose_spec.2
   obtain⟨hs0,hbl⟩:=Pd hc0;generalize (hy i hin).choose=t at hcell hc1 hat ⊢;obtain⟨b,o,s⟩:=a;have hs0:s=none:=hs0;subst hs0;simp only[Lib.add_plain] at hcell;exact⟨b,o,A1,c1,rfl,hbl,hcell,hc1,hat⟩
end
end Go.Proofs.YtpieeldbamklkaaGreatDoor
