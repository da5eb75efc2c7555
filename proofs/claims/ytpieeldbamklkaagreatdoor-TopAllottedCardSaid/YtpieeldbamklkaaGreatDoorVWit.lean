/- A world in which the listed variables hold what the rows list: for the witness. -/
import Derived.Test.YtpieeldbamklkaaGreatDoorCards
import Derived.Test.YtpieeldbamklkaaGreatDoorTie
import Derived.ProofKit
import Derived.Deep.DeepHandedRow
import Derived.Deep.DeepWitnessRowRef
import Derived.Deep.DeepLaidRun
import Derived.Lib.LaidTab
import Derived.Below
import Derived.Carry
import Derived.OpenShut
set_option maxRecDepth 1000000
open Go.Proofs.Tryz
namespace Go.Proofs.YtpieeldbamklkaaGreatDoor
open Go.ChangeShapes Go.WideShapes Go.ChangeAt Go.RowKit
theorem TG {H:Type} {enc:TypeId×Value->H} {P:Program} (hl:laidOutB P=true) {W W':World} (hb:Below W.heap.size W W') :
  ∀(ts:List TypeId) (vs:List Value) (ds:List (DataW H)) (ps:List MemPlace),(∀t∈ts,P.readableRec t=true/\t<P.types.size)->(∀x∈ps,x.block<W.heap.size)->
   DataW.TrodAll enc P W 0 (fun _=>true) true ts vs ds ps->DataW.TrodAll enc P W' 0 (fun b=>decide (b<W.heap.size)) true ts vs ds ps
 | [],vs,ds,ps,_,_,h=>by
  obtain⟨rfl,rfl,rfl⟩:=trodAll_nil h;exact trodAll_mk0
 | t::ts,vs,ds,ps,ht,hp,h=>by
  obtain⟨v,vs',d,ds',p,q,rfl,rfl,rfl,h1,h2⟩:=trodAll_cons h;obtain⟨hr,hs⟩:=ht t List.mem_cons_self;exact trodAll_cons_mk (Below.trod hl hr hs h1 hb (fun x hx=>hp x (List.mem_append_left _ hx)))
   (TG hl hb ts vs' ds' q (fun t' ht'=>ht t' (List.mem_cons_of_mem _ ht')) (fun x hx=>hp x (List.mem_append_right _ hx)) h2)
theorem ED {H:Type} {enc:TypeId×Value->H} {P:Program} {f:Func} {s:ChangeSpec} {W W':World} {args:Array Value} {ds gs:List (DataW H)} {before:List MemPlace} (hl:laidOutB P=true)
  (hts:∀t∈f.params.toList,P.readableRec t=true/\t<P.types.size) {tb:TypeId} (hres:f.resultTypes=#[tb]) (hbool:P.underlying tb=some .bool) (hvs:s.vars=[])
  (hW:DataW.Whole enc P f.params.toList s.vars false W args.toList ds gs before) (hfn:s.fn H (ds++gs)={ results:=[.lit (.bool true)],args:=ds }) (hb:Below W.heap.size W W') :
  s.post enc P f false true false false W args (.bool true) W':=by
 have hlt:∀x∈before,x.block<W.heap.size:=fun x hx=>hW.lt x hx
 have hW0:=hW;obtain⟨p,q,hA,hV,rfl,-,-⟩:=hW;rw[hvs] at hV;obtain⟨rfl,rfl⟩:=trodVars_none hV;refine⟨ds,[],p++[],[],p,[],hW0,?_,?_,?_,World.keptBut_mono (fun x hx=>⟨hx,.inr (.inl (by simpa using hx))⟩) (hb.frame (·∈p++[])),fun h=>by cases h⟩
 ·rw[hfn,hres];exact trodAll_cons_mk (shut_bool hbool _) trodAll_mk0
 ·rw[hfn];exact TG hl hb _ _ _ _ hts (fun x hx=>hlt x (by simpa using hx)) hA
 ·rw[hfn,hvs];rfl
theorem own:ownKnob prog.godebug=none:=by kernel_rfl
def Qt:Nat->DataW Unit->List Value
 | 0,_=>[]
 | _+1,.lit (.int k z)=>[.int k z]
 | n+1,.agg ps=>ps.flatMap (Qt n)
 | _+1,_=>[]
def putCells (h:Array Obj) (g:Nat) (cs:List Value):Array Obj:=h.modify g fun
 | .cells _ t frozen=>.cells cs.toArray t frozen
 | o=>o
noncomputable def low:Nat:=(World.holding prog default ⟨#[],#[],[]⟩).heap.size
noncomputable def Qu (os:Os):World:=
 let w0:=World.holding prog os ⟨#[.cells #[.string ⟨#[118,97,108,117,101,32,111,117,116,32,111,102,32,114,97,110,103,101]⟩] 394,.cells #[.string ⟨#[105,110,118,97,108,105,100,32,115,121,110,116,97,120]⟩] 394],#[],[]⟩
 let h0:=putCells (putCells w0.heap 1 [.iface 392 (.pointer (some ⟨low,0,none⟩))]) 0 [.iface 392 (.pointer (some ⟨low+1,0,none⟩))]
 let h1:=putCells (putCells h0 6 (Qt 3 Rows.laid_math_bits_deBruijn32tab)) 7 (Qt 3 Rows.laid_math_bits_deBruijn64tab)
 let h2:=putCells (putCells h1 2 (Qt 3 Rows.laid_internal_strconv_uint64pow10)) 5 (Qt 3 Rows.laid_unicode_utf8_acceptRanges)
 { w0 with heap:=putCells h2 4 (Qt 3 Rows.laid_unicode_utf8_first) }
def Lt:List (String×DataW Unit):=[("math/bits.deBruijn32tab",Rows.laid_math_bits_deBruijn32tab),("math/bits.deBruijn64tab",Rows.laid_math_bits_deBruijn64tab),("internal/strconv.uint64pow10",Rows.laid_internal_strconv_uint64pow10),("unicode/utf8.acceptRanges",Rows.laid_unicode_utf8_acceptRanges),("strconv.ErrRange",Rows.laid_strconv_ErrRange),("strconv.ErrSyntax",Rows.laid_strconv_ErrSyntax),("unicode/utf8.first",Rows.laid_unicode_utf8_first)]
theorem EE (os:Os) (args:Array Value):laidMet prog Lt ((Qu os).forCall (fun _ _=>0) ⟨#[],args,[]⟩).memory:=
 laidMet_of_run3 10 (by kernel_rfl) (by kernel_rfl) (by kernel_rfl)
end Go.Proofs.YtpieeldbamklkaaGreatDoor
