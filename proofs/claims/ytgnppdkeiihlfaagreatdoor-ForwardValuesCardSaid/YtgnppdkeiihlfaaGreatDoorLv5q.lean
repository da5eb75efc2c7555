/- The law ForwardValues. -/
import Derived.Test.YtgnppdkeiihlfaaGreatDoorG8
namespace Go.Proofs.YtgnppdkeiihlfaaGreatDoor
open Go.RowKit Num
theorem eqMsB12 {w : World} {A B : Option Addr} {xs : List Mon} {n c n' c' : Nat} (hl : xs.length ≤ 16) (hn : xs.length = n) (hn' : xs.length = n') (h : MonAt w A xs) (h' : MonAt w B xs) : RetB w 26 #[.slice A n c, .slice B n' c'] (.bool true) := fun w' hb => by
  have := eqMs A B xs xs n n' c c' w' hn hn' (by omega) (by omega) (h.below hb) (h'.below hb)
  rwa [sameMs_self] at this
theorem setV_len {x : Ins} {q : List UInt8} (hS : x.Tiny) (hq : q.length ≤ 20) : (setV x q).1.length ≤ 16 := by
  by_cases h : (setV x q).2 = 0
  · obtain ⟨h1, h2⟩ := setV_ok h
    rw [h2]
    exact Nat.le_trans (set_bg2 (fwd_of (ok_iff.1 h1).1) hS hq).len (by decide)
  · rw [setV_bad h]; exact Nat.zero_le _
def findReg (n : Nat) : Code → Option Code
  | .region i o b => if i = n then some (.region i o b) else none
  | .loop c => findReg n c
  | .seq a b => match findReg n a with
    | some c => some c
    | none => findReg n b
  | .block _ c => findReg n c
  | .scope c => findReg n c
  | .cond _ a b => match findReg n a with
    | some c => some c
    | none => findReg n b
  | _ => none
def isReg (n : Nat) : Code → Bool
  | .region i _ _ => i == n
  | _ => false
def findRest (n : Nat) : Code → Option Code
  | .seq a b => if isReg n a then some b else match findRest n a with
    | some c => some c
    | none => findRest n b
  | _ => none
noncomputable def regV (n : Nat) : Code := ((Tryz.f8.body.bind (findReg n)).getD .skip)
noncomputable def restV (n : Nat) : Code := ((Tryz.f8.body.bind (findRest n)).getD .skip)
set_option maxHeartbeats 8000000 in
set_option maxRecDepth 1000000 in
theorem values_tail {Q : Exit → Act → World → Prop} (x : Ins) (b6 b25 b27 : Nat) (B3 B4 : Option Addr) (m3 c3 m4 c4 : Nat) (z0 z1 z2 z3 E : Int) (v1 v2 n1 n2 : List UInt8) (W w : World) (hG : Glob W) (hb : Below W.heap.size W w)
    (x6 : IBox w b6 x) (x25 : FBox w b25 (.string ⟨n1.toArray⟩) (.string ⟨n2.toArray⟩)) (x27 : FBox w b27 (.string ⟨n1.toArray⟩) (.string ⟨n2.toArray⟩))
    (K1 : Hid (Ret 16 #[(Value.agg #[Value.string ⟨List.toArray x.id⟩, Value.int .i64 x.kind, Value.string ⟨List.toArray x.cur⟩, Value.int .i64 x.places, Value.int .i64 x.issued, Value.int .i64 x.matures, Value.string ⟨List.toArray x.fn⟩, Value.string ⟨List.toArray x.fd⟩, Value.string ⟨List.toArray x.cn⟩, Value.string ⟨List.toArray x.cd⟩, Value.int .i64 x.months, Value.int .i64 x.count, Value.string ⟨List.toArray x.other⟩, Value.string ⟨List.toArray x.sn⟩, Value.string ⟨List.toArray x.sd⟩])] (.int .i64 E))) (K2 : Hid (Ret 36 #[(Value.agg #[Value.string ⟨List.toArray x.id⟩, Value.int .i64 x.kind, Value.string ⟨List.toArray x.cur⟩, Value.int .i64 x.places, Value.int .i64 x.issued, Value.int .i64 x.matures, Value.string ⟨List.toArray x.fn⟩, Value.string ⟨List.toArray x.fd⟩, Value.string ⟨List.toArray x.cn⟩, Value.string ⟨List.toArray x.cd⟩, Value.int .i64 x.months, Value.int .i64 x.count, Value.string ⟨List.toArray x.other⟩, Value.string ⟨List.toArray x.sn⟩, Value.string ⟨List.toArray x.sd⟩])] (.int .i64 E))) (KE : Hid (RetB w 26 #[.slice B3 m3 c3, .slice B4 m4 c4] (.bool true))) (t0 t1 t2 t3 t4 t5 t7 t8 t9 t10 t11 t12 t29 t30 t31 t32 t33 t34 t35 t36 t37 t38 t39 t40 t41 t42 t43 t44 t45 t46 t47 t48 t49 t50 t51 t52 t53 t54 t55 t56 t57 t58 t59 t60 t61 t62 t63 t64 t65 t66 t67 t68 t69 t70 t71 t72 t73 t74 t75 t76 t77 t78 t79 t80 t81 t82 t83 t84 t85 t86 t87 t88 t89 t90 t91 t92 t93 t94 t95 t96 t97 t98 t99 t100 t101 t102 t103 t104 t105 t106 t107 t108 t109 t110 t111 t112 t113 t114 t115 t116 t117 t118 t119 t120 t121 t122 t123 t124 t125 t126 t127 t128 t129 t130 t131 t132 t133 t134 t135 t136 t137 t138 t139 t140 t141 t142 t143 t144 t145 t146 t147 : Value)
    (hQ : ∀ (u0 u1 u2 u3 u4 u5 u6 u7 u8 u9 u10 u11 u13 u14 u15 u16 u17 u18 u19 u20 u21 u22 u23 u24 u25 u26 u27 u28 u29 u30 u31 u32 u33 u34 u35 u36 u37 u38 u39 u40 u41 u42 u43 u44 u45 u46 u47 u48 u49 u50 u51 u52 u53 u54 u55 u56 u57 u58 u59 u60 u61 u62 u63 u64 u65 u66 u67 u68 u69 u70 u71 u72 u73 u74 u75 u76 u77 u78 u79 u80 u81 u82 u83 u84 u85 u86 u87 u88 u89 u90 u91 u92 u93 u94 u95 u96 u97 u98 u99 u100 u101 u102 u103 u104 u105 u106 u107 u108 u109 u110 u111 u112 u113 u114 u115 u116 u117 u118 u119 u120 u121 u122 u123 u124 u125 u126 u127 u128 u129 u130 u131 u132 u133 u134 u135 u136 u137 u138 u139 u140 u141 u142 u143 u144 u145 u146 u147 : Value) (w' : World), Below W.heap.size W w' → Q .ret ⟨#[u0, u1, u2, u3, u4, u5, u6, u7, u8, u9, u10, u11, .bool true, u13, u14, u15, u16, u17, u18, u19, u20, u21, u22, u23, u24, u25, u26, u27, u28, u29, u30, u31, u32, u33, u34, u35, u36, u37, u38, u39, u40, u41, u42, u43, u44, u45, u46, u47, u48, u49, u50, u51, u52, u53, u54, u55, u56, u57, u58, u59, u60, u61, u62, u63, u64, u65, u66, u67, u68, u69, u70, u71, u72, u73, u74, u75, u76, u77, u78, u79, u80, u81, u82, u83, u84, u85, u86, u87, u88, u89, u90, u91, u92, u93, u94, u95, u96, u97, u98, u99, u100, u101, u102, u103, u104, u105, u106, u107, u108, u109, u110, u111, u112, u113, u114, u115, u116, u117, u118, u119, u120, u121, u122, u123, u124, u125, u126, u127, u128, u129, u130, u131, u132, u133, u134, u135, u136, u137, u138, u139, u140, u141, u142, u143, u144, u145, u146, u147], []⟩ w') :
    Code.wp Tryz.prog (regV 11) (Exit.then (Code.wp Tryz.prog (restV 11) Q) Q) ⟨#[t0, t1, t2, t3, t4, t5, .pointer (some ⟨b6, 0, none⟩), t7, t8, t9, t10, t11, t12, .slice B3 m3 c3, .int .i64 z0, .slice B4 m4 c4, .int .i64 z0, .string ⟨v1.toArray⟩, .int .i64 z1, .string ⟨v1.toArray⟩, .int .i64 z1, .string ⟨v2.toArray⟩, .int .i64 z2, .string ⟨v2.toArray⟩, .int .i64 z2, .pointer (some ⟨b25, 0, none⟩), .int .i64 z3, .pointer (some ⟨b27, 0, none⟩), .int .i64 z3, t29, t30, t31, t32, t33, t34, t35, t36, t37, t38, t39, t40, t41, t42, t43, t44, t45, t46, t47, t48, t49, t50, t51, t52, t53, t54, t55, t56, t57, t58, t59, t60, t61, t62, t63, t64, t65, t66, t67, t68, t69, t70, t71, t72, t73, t74, t75, t76, t77, t78, t79, t80, t81, t82, t83, t84, t85, t86, t87, t88, t89, t90, t91, t92, t93, t94, t95, t96, t97, t98, t99, t100, t101, t102, t103, t104, t105, t106, t107, t108, t109, t110, t111, t112, t113, t114, t115, t116, t117, t118, t119, t120, t121, t122, t123, t124, t125, t126, t127, t128, t129, t130, t131, t132, t133, t134, t135, t136, t137, t138, t139, t140, t141, t142, t143, t144, t145, t146, t147], []⟩ w := by
  have HAw := Lib.hid wAwake12
  have hE := fun (w : World) => eqP1 n1 n2 n1 n2 w
  simp only [sameP_self] at hE
  have hEG := guardP
  have HQ := Lib.hid hQ
  clear hQ
  conv => arg 2; whnf
  conv => arg 3; arg 1; arg 2; whnf
  refine wp_region_kept (by kernel_rfl) (by kernel_rfl) ?_
  refine kept_val _ (fun _ => rfl) (fun ρ w hw => by have q0 := (x6.below hw).c0; have q1 := (x6.below hw).c1; have q2 := (x6.below hw).c2; have q3 := (x6.below hw).c3; have q4 := (x6.below hw).c4; have q5 := (x6.below hw).c5; have q6 := (x6.below hw).c6; have q7 := (x6.below hw).c7; have q8 := (x6.below hw).c8; have q9 := (x6.below hw).c9; have q10 := (x6.below hw).c10; have q11 := (x6.below hw).c11; have q12 := (x6.below hw).c12; have q13 := (x6.below hw).c13; have q14 := (x6.below hw).c14; go_simp; first | done | with_reducible rfl) ?_
  simp only [Act.put, List.setIfInBounds_toArray, List.set_cons_zero, List.set_cons_succ, Nat.reduceAdd]
  refine kept_call _ _ _ (fun _ => rfl) (fun ρ w hw => by go_simp; first | done | with_reducible rfl) (fun w hw => K1.out.of hG (bto hb hw)) ?_
  simp only [Act.put, List.setIfInBounds_toArray, List.set_cons_zero, List.set_cons_succ, Nat.reduceAdd]
  refine kept_val _ (fun _ => rfl) (fun ρ w hw => by have q0 := (x6.below hw).c0; have q1 := (x6.below hw).c1; have q2 := (x6.below hw).c2; have q3 := (x6.below hw).c3; have q4 := (x6.below hw).c4; have q5 := (x6.below hw).c5; have q6 := (x6.below hw).c6; have q7 := (x6.below hw).c7; have q8 := (x6.below hw).c8; have q9 := (x6.below hw).c9; have q10 := (x6.below hw).c10; have q11 := (x6.below hw).c11; have q12 := (x6.below hw).c12; have q13 := (x6.below hw).c13; have q14 := (x6.below hw).c14; go_simp; first | done | with_reducible rfl) ?_
  simp only [Act.put, List.setIfInBounds_toArray, List.set_cons_zero, List.set_cons_succ, Nat.reduceAdd]
  refine kept_call _ _ _ (fun _ => rfl) (fun ρ w hw => by go_simp; first | done | with_reducible rfl) (fun w hw => K2.out.of hG (bto hb hw)) ?_
  simp only [Act.put, List.setIfInBounds_toArray, List.set_cons_zero, List.set_cons_succ, Nat.reduceAdd]
  refine kept_val _ (fun _ => rfl) (fun ρ w hw => by go_simp; first | done | with_reducible rfl) ?_
  simp only [Act.put, List.setIfInBounds_toArray, List.set_cons_zero, List.set_cons_succ, Nat.reduceAdd]
  refine kept_val _ (fun _ => rfl) (fun ρ w hw => by go_simp; first | done | with_reducible rfl) ?_
  simp only [Act.put, List.setIfInBounds_toArray, List.set_cons_zero, List.set_cons_succ, Nat.reduceAdd]
  refine kept_val _ (fun _ => rfl) (fun ρ w hw => by go_simp; first | done | with_reducible rfl) ?_
  simp only [Act.put, List.setIfInBounds_toArray, List.set_cons_zero, List.set_cons_succ, Nat.reduceAdd]
  refine kept_val _ (fun _ => rfl) (fun ρ w hw => by go_simp; first | done | with_reducible rfl) ?_
  simp only [Act.put, List.setIfInBounds_toArray, List.set_cons_zero, List.set_cons_succ, Nat.reduceAdd]
  refine kept_call _ _ _ (fun _ => rfl) (fun ρ w hw => by go_simp; first | done | with_reducible rfl) (fun w hw => KE.out.of (hG.below hb) hw) ?_
  simp only [Act.put, List.setIfInBounds_toArray, List.set_cons_zero, List.set_cons_succ, Nat.reduceAdd]
  refine kept_val _ (fun _ => rfl) (fun ρ w hw => by go_simp; first | done | with_reducible rfl) ?_
  simp only [Act.put, List.setIfInBounds_toArray, List.set_cons_zero, List.set_cons_succ, Nat.reduceAdd]
  refine kept_val _ (fun _ => rfl) (fun ρ w hw => by go_simp; first | done | with_reducible rfl) ?_
  simp only [Act.put, List.setIfInBounds_toArray, List.set_cons_zero, List.set_cons_succ, Nat.reduceAdd]
  refine kept_val _ (fun _ => rfl) (fun ρ w hw => by go_simp; first | done | with_reducible rfl) ?_
  simp only [Act.put, List.setIfInBounds_toArray, List.set_cons_zero, List.set_cons_succ, Nat.reduceAdd]
  refine kept_val _ (fun _ => rfl) (fun ρ w hw => by go_simp; first | done | with_reducible rfl) ?_
  simp only [Act.put, List.setIfInBounds_toArray, List.set_cons_zero, List.set_cons_succ, Nat.reduceAdd]
  refine kept_val _ (fun _ => rfl) (fun ρ w hw => by go_simp; first | done | with_reducible rfl) ?_
  simp only [Act.put, List.setIfInBounds_toArray, List.set_cons_zero, List.set_cons_succ, Nat.reduceAdd]
  refine kept_val _ (fun _ => rfl) (fun ρ w hw => by go_simp; first | done | with_reducible rfl) ?_
  simp only [Act.put, List.setIfInBounds_toArray, List.set_cons_zero, List.set_cons_succ, Nat.reduceAdd]
  refine kept_val _ (fun _ => rfl) (fun ρ w hw => by go_simp; first | done | with_reducible rfl) ?_
  simp only [Act.put, List.setIfInBounds_toArray, List.set_cons_zero, List.set_cons_succ, Nat.reduceAdd]
  refine kept_val _ (fun _ => rfl) (fun ρ w hw => by go_simp; first | done | with_reducible rfl) ?_
  simp only [Act.put, List.setIfInBounds_toArray, List.set_cons_zero, List.set_cons_succ, Nat.reduceAdd]
  refine kept_val _ (fun _ => rfl) (fun ρ w hw => by go_simp; first | done | with_reducible rfl) ?_
  simp only [Act.put, List.setIfInBounds_toArray, List.set_cons_zero, List.set_cons_succ, Nat.reduceAdd]
  refine kept_val _ (fun _ => rfl) (fun ρ w hw => by go_simp; first | done | with_reducible rfl) ?_
  simp only [Act.put, List.setIfInBounds_toArray, List.set_cons_zero, List.set_cons_succ, Nat.reduceAdd]
  refine kept_val _ (fun _ => rfl) (fun ρ w hw => by go_simp; first | done | with_reducible rfl) ?_
  simp only [Act.put, List.setIfInBounds_toArray, List.set_cons_zero, List.set_cons_succ, Nat.reduceAdd]
  refine kept_val _ (fun _ => rfl) (fun ρ w hw => by go_simp; first | done | with_reducible rfl) ?_
  simp only [Act.put, List.setIfInBounds_toArray, List.set_cons_zero, List.set_cons_succ, Nat.reduceAdd]
  refine kept_val _ (fun _ => rfl) (fun ρ w hw => by go_simp; first | done | with_reducible rfl) ?_
  simp only [Act.put, List.setIfInBounds_toArray, List.set_cons_zero, List.set_cons_succ, Nat.reduceAdd]
  refine kept_val _ (fun _ => rfl) (fun ρ w hw => by go_simp; first | done | with_reducible rfl) ?_
  simp only [Act.put, List.setIfInBounds_toArray, List.set_cons_zero, List.set_cons_succ, Nat.reduceAdd]
  refine kept_val _ (fun _ => rfl) (fun ρ w hw => by go_simp; first | done | with_reducible rfl) ?_
  simp only [Act.put, List.setIfInBounds_toArray, List.set_cons_zero, List.set_cons_succ, Nat.reduceAdd]
  refine kept_val _ (fun _ => rfl) (fun ρ w hw => by go_simp; first | done | with_reducible rfl) ?_
  simp only [Act.put, List.setIfInBounds_toArray, List.set_cons_zero, List.set_cons_succ, Nat.reduceAdd]
  refine kept_val _ (fun _ => rfl) (fun ρ w hw => by go_simp; first | done | with_reducible rfl) ?_
  simp only [Act.put, List.setIfInBounds_toArray, List.set_cons_zero, List.set_cons_succ, Nat.reduceAdd]
  refine kept_val _ (fun _ => rfl) (fun ρ w hw => by go_simp; first | done | with_reducible rfl) ?_
  simp only [Act.put, List.setIfInBounds_toArray, List.set_cons_zero, List.set_cons_succ, Nat.reduceAdd]
  refine kept_val _ (fun _ => rfl) (fun ρ w hw => by go_simp; first | done | with_reducible rfl) ?_
  simp only [Act.put, List.setIfInBounds_toArray, List.set_cons_zero, List.set_cons_succ, Nat.reduceAdd]
  refine kept_val _ (fun _ => rfl) (fun ρ w hw => by go_simp; first | done | with_reducible rfl) ?_
  simp only [Act.put, List.setIfInBounds_toArray, List.set_cons_zero, List.set_cons_succ, Nat.reduceAdd]
  refine kept_val _ (fun _ => rfl) (fun ρ w hw => by go_simp; first | done | with_reducible rfl) ?_
  simp only [Act.put, List.setIfInBounds_toArray, List.set_cons_zero, List.set_cons_succ, Nat.reduceAdd]
  refine kept_val _ (fun _ => rfl) (fun ρ w hw => by go_simp; first | done | with_reducible rfl) ?_
  simp only [Act.put, List.setIfInBounds_toArray, List.set_cons_zero, List.set_cons_succ, Nat.reduceAdd]
  refine kept_val _ (fun _ => rfl) (fun ρ w hw => by go_simp; first | done | with_reducible rfl) ?_
  simp only [Act.put, List.setIfInBounds_toArray, List.set_cons_zero, List.set_cons_succ, Nat.reduceAdd]
  refine kept_val _ (fun _ => rfl) (fun ρ w hw => by go_simp; first | done | with_reducible rfl) ?_
  simp only [Act.put, List.setIfInBounds_toArray, List.set_cons_zero, List.set_cons_succ, Nat.reduceAdd]
  refine kept_val _ (fun _ => rfl) (fun ρ w hw => by go_simp; first | done | with_reducible rfl) ?_
  simp only [Act.put, List.setIfInBounds_toArray, List.set_cons_zero, List.set_cons_succ, Nat.reduceAdd]
  refine kept_val _ (fun _ => rfl) (fun ρ w hw => by go_simp; first | done | with_reducible rfl) ?_
  simp only [Act.put, List.setIfInBounds_toArray, List.set_cons_zero, List.set_cons_succ, Nat.reduceAdd]
  refine kept_val _ (fun _ => rfl) (fun ρ w hw => by go_simp; first | done | with_reducible rfl) ?_
  simp only [Act.put, List.setIfInBounds_toArray, List.set_cons_zero, List.set_cons_succ, Nat.reduceAdd]
  refine kept_val _ (fun _ => rfl) (fun ρ w hw => by have q0 := (x25.below hw).c0; have q1 := (x25.below hw).c1; go_simp; first | done | with_reducible rfl) ?_
  simp only [Act.put, List.setIfInBounds_toArray, List.set_cons_zero, List.set_cons_succ, Nat.reduceAdd]
  refine kept_val _ (fun _ => rfl) (fun ρ w hw => by have q0 := (x27.below hw).c0; have q1 := (x27.below hw).c1; go_simp; first | done | with_reducible rfl) ?_
  simp only [Act.put, List.setIfInBounds_toArray, List.set_cons_zero, List.set_cons_succ, Nat.reduceAdd]
  refine kept_val _ (fun _ => rfl) (fun ρ w hw => by go_simp; first | done | with_reducible rfl) ?_
  simp only [Act.put, List.setIfInBounds_toArray, List.set_cons_zero, List.set_cons_succ, Nat.reduceAdd]
  refine kept_val _ (fun _ => rfl) (fun ρ w hw => by go_simp; first | done | with_reducible rfl) ?_
  simp only [Act.put, List.setIfInBounds_toArray, List.set_cons_zero, List.set_cons_succ, Nat.reduceAdd]
  refine kept_val _ (fun _ => rfl) (fun ρ w hw => by go_simp; first | done | with_reducible rfl) ?_
  simp only [Act.put, List.setIfInBounds_toArray, List.set_cons_zero, List.set_cons_succ, Nat.reduceAdd]
  refine kept_val _ (fun _ => rfl) (fun ρ w hw => by go_simp; first | done | with_reducible rfl) ?_
  simp only [Act.put, List.setIfInBounds_toArray, List.set_cons_zero, List.set_cons_succ, Nat.reduceAdd]
  refine kept_val _ (fun _ => rfl) (fun ρ w hw => by go_simp; first | done | with_reducible rfl) ?_
  simp only [Act.put, List.setIfInBounds_toArray, List.set_cons_zero, List.set_cons_succ, Nat.reduceAdd]
  refine kept_val _ (fun _ => rfl) (fun ρ w hw => by go_simp; first | done | with_reducible rfl) ?_
  simp only [Act.put, List.setIfInBounds_toArray, List.set_cons_zero, List.set_cons_succ, Nat.reduceAdd]
  refine kept_val _ (fun _ => rfl) (fun ρ w hw => by go_simp; first | done | with_reducible rfl) ?_
  simp only [Act.put, List.setIfInBounds_toArray, List.set_cons_zero, List.set_cons_succ, Nat.reduceAdd]
  refine kept_val _ (fun _ => rfl) (fun ρ w hw => by go_simp; first | done | with_reducible rfl) ?_
  simp only [Act.put, List.setIfInBounds_toArray, List.set_cons_zero, List.set_cons_succ, Nat.reduceAdd]
  refine kept_call _ _ _ (fun _ => rfl) (fun ρ w hw => by go_simp; first | done | with_reducible rfl) (fun w hw => HAw.out.of hG (bto hb hw)) ?_
  simp only [Act.put, List.setIfInBounds_toArray, List.set_cons_zero, List.set_cons_succ, Nat.reduceAdd]
  refine kept_val _ (fun _ => rfl) (fun ρ w hw => by go_simp; first | done | with_reducible rfl) ?_
  simp only [Act.put, List.setIfInBounds_toArray, List.set_cons_zero, List.set_cons_succ, Nat.reduceAdd]
  refine kept_val _ (fun _ => rfl) (fun ρ w hw => by go_simp; first | done | with_reducible rfl) ?_
  simp only [Act.put, List.setIfInBounds_toArray, List.set_cons_zero, List.set_cons_succ, Nat.reduceAdd]
  refine kept_end (fun ρ w19 hF => ?_)
  refine wp_ret ?_
  exact HQ.out _ _ _ _ _ _ _ _ _ _ _ _ _ _ _ _ _ _ _ _ _ _ _ _ _ _ _ _ _ _ _ _ _ _ _ _ _ _ _ _ _ _ _ _ _ _ _ _ _ _ _ _ _ _ _ _ _ _ _ _ _ _ _ _ _ _ _ _ _ _ _ _ _ _ _ _ _ _ _ _ _ _ _ _ _ _ _ _ _ _ _ _ _ _ _ _ _ _ _ _ _ _ _ _ _ _ _ _ _ _ _ _ _ _ _ _ _ _ _ _ _ _ _ _ _ _ _ _ _ _ _ _ _ _ _ _ _ _ _ _ _ _ _ _ _ _ _ _ (bto hb hF.below)
set_option maxHeartbeats 8000000 in
set_option maxRecDepth 1000000 in
theorem values_b {Q : Exit → Act → World → Prop} (x : Ins) (q v : List UInt8) (r i y : Fp2) (b6 b9 b10 b11 : Nat) (B3 B4 : Option Addr) (m3 c3 m4 c4 : Nat) (z0 z1 E : Int) (v1 : List UInt8) (ZL : List Mon) (W w : World) (hG : Glob W) (hb : Below W.heap.size W w)
    (HS : Hid x.Small) (HT : Hid x.Tiny) (Lq : Hid (q.length ≤ 13)) (Lv : Hid (v.length ≤ 13)) (Lr : Hid (r.1.length ≤ 13 ∧ r.2.length ≤ 13)) (Li : Hid (i.1.length ≤ 13 ∧ i.2.length ≤ 13)) (Ly : Hid (y.1.length ≤ 13 ∧ y.2.length ≤ 13))
    (x6 : IBox w b6 x) (x9 : FBox w b9 (.string ⟨r.1.toArray⟩) (.string ⟨r.2.toArray⟩)) (x10 : FBox w b10 (.string ⟨i.1.toArray⟩) (.string ⟨i.2.toArray⟩)) (x11 : FBox w b11 (.string ⟨y.1.toArray⟩) (.string ⟨y.2.toArray⟩))
    (K1 : Hid (Ret 16 #[(Value.agg #[Value.string ⟨List.toArray x.id⟩, Value.int .i64 x.kind, Value.string ⟨List.toArray x.cur⟩, Value.int .i64 x.places, Value.int .i64 x.issued, Value.int .i64 x.matures, Value.string ⟨List.toArray x.fn⟩, Value.string ⟨List.toArray x.fd⟩, Value.string ⟨List.toArray x.cn⟩, Value.string ⟨List.toArray x.cd⟩, Value.int .i64 x.months, Value.int .i64 x.count, Value.string ⟨List.toArray x.other⟩, Value.string ⟨List.toArray x.sn⟩, Value.string ⟨List.toArray x.sd⟩])] (.int .i64 E))) (K2 : Hid (Ret 36 #[(Value.agg #[Value.string ⟨List.toArray x.id⟩, Value.int .i64 x.kind, Value.string ⟨List.toArray x.cur⟩, Value.int .i64 x.places, Value.int .i64 x.issued, Value.int .i64 x.matures, Value.string ⟨List.toArray x.fn⟩, Value.string ⟨List.toArray x.fd⟩, Value.string ⟨List.toArray x.cn⟩, Value.string ⟨List.toArray x.cd⟩, Value.int .i64 x.months, Value.int .i64 x.count, Value.string ⟨List.toArray x.other⟩, Value.string ⟨List.toArray x.sn⟩, Value.string ⟨List.toArray x.sd⟩])] (.int .i64 E))) (L1 : Hid (ZL.length ≤ 16)) (hm3 : ZL.length = m3) (hM3 : MonAt w B3 ZL) (hm4 : ZL.length = m4) (hM4 : MonAt w B4 ZL) (t0 t3 t4 t5 t7 t8 t12 t21 t22 t23 t24 t25 t26 t27 t28 t29 t30 t31 t32 t33 t34 t35 t36 t37 t38 t39 t40 t41 t42 t43 t44 t45 t46 t47 t48 t49 t50 t51 t52 t53 t54 t55 t56 t57 t58 t59 t60 t61 t62 t63 t64 t65 t66 t67 t68 t69 t70 t71 t72 t73 t74 t75 t76 t77 t78 t79 t80 t81 t82 t83 t84 t85 t86 t87 t88 t89 t90 t91 t92 t93 t94 t95 t96 t97 t98 t99 t100 t101 t102 t103 t104 t105 t106 t107 t108 t109 t110 t111 t112 t113 t114 t115 t116 t117 t118 t119 t120 t121 t122 t123 t124 t125 t126 t127 t128 t129 t130 t131 t132 t133 t134 t135 t136 t137 t138 t139 t140 t141 t142 t143 t144 t145 t146 t147 : Value)
    (hQ : ∀ (u0 u1 u2 u3 u4 u5 u6 u7 u8 u9 u10 u11 u13 u14 u15 u16 u17 u18 u19 u20 u21 u22 u23 u24 u25 u26 u27 u28 u29 u30 u31 u32 u33 u34 u35 u36 u37 u38 u39 u40 u41 u42 u43 u44 u45 u46 u47 u48 u49 u50 u51 u52 u53 u54 u55 u56 u57 u58 u59 u60 u61 u62 u63 u64 u65 u66 u67 u68 u69 u70 u71 u72 u73 u74 u75 u76 u77 u78 u79 u80 u81 u82 u83 u84 u85 u86 u87 u88 u89 u90 u91 u92 u93 u94 u95 u96 u97 u98 u99 u100 u101 u102 u103 u104 u105 u106 u107 u108 u109 u110 u111 u112 u113 u114 u115 u116 u117 u118 u119 u120 u121 u122 u123 u124 u125 u126 u127 u128 u129 u130 u131 u132 u133 u134 u135 u136 u137 u138 u139 u140 u141 u142 u143 u144 u145 u146 u147 : Value) (w' : World), Below W.heap.size W w' → Q .ret ⟨#[u0, u1, u2, u3, u4, u5, u6, u7, u8, u9, u10, u11, .bool true, u13, u14, u15, u16, u17, u18, u19, u20, u21, u22, u23, u24, u25, u26, u27, u28, u29, u30, u31, u32, u33, u34, u35, u36, u37, u38, u39, u40, u41, u42, u43, u44, u45, u46, u47, u48, u49, u50, u51, u52, u53, u54, u55, u56, u57, u58, u59, u60, u61, u62, u63, u64, u65, u66, u67, u68, u69, u70, u71, u72, u73, u74, u75, u76, u77, u78, u79, u80, u81, u82, u83, u84, u85, u86, u87, u88, u89, u90, u91, u92, u93, u94, u95, u96, u97, u98, u99, u100, u101, u102, u103, u104, u105, u106, u107, u108, u109, u110, u111, u112, u113, u114, u115, u116, u117, u118, u119, u120, u121, u122, u123, u124, u125, u126, u127, u128, u129, u130, u131, u132, u133, u134, u135, u136, u137, u138, u139, u140, u141, u142, u143, u144, u145, u146, u147], []⟩ w') :
    Code.wp Tryz.prog (regV 7) (Exit.then (Code.wp Tryz.prog (restV 7) Q) Q) ⟨#[t0, .string ⟨q.toArray⟩, .string ⟨v.toArray⟩, t3, t4, t5, .pointer (some ⟨b6, 0, none⟩), t7, t8, .pointer (some ⟨b9, 0, none⟩), .pointer (some ⟨b10, 0, none⟩), .pointer (some ⟨b11, 0, none⟩), t12, .slice B3 m3 c3, .int .i64 z0, .slice B4 m4 c4, .int .i64 z0, .string ⟨v1.toArray⟩, .int .i64 z1, .string ⟨v1.toArray⟩, .int .i64 z1, t21, t22, t23, t24, t25, t26, t27, t28, t29, t30, t31, t32, t33, t34, t35, t36, t37, t38, t39, t40, t41, t42, t43, t44, t45, t46, t47, t48, t49, t50, t51, t52, t53, t54, t55, t56, t57, t58, t59, t60, t61, t62, t63, t64, t65, t66, t67, t68, t69, t70, t71, t72, t73, t74, t75, t76, t77, t78, t79, t80, t81, t82, t83, t84, t85, t86, t87, t88, t89, t90, t91, t92, t93, t94, t95, t96, t97, t98, t99, t100, t101, t102, t103, t104, t105, t106, t107, t108, t109, t110, t111, t112, t113, t114, t115, t116, t117, t118, t119, t120, t121, t122, t123, t124, t125, t126, t127, t128, t129, t130, t131, t132, t133, t134, t135, t136, t137, t138, t139, t140, t141, t142, t143, t144, t145, t146, t147], []⟩ w := by
  have hq : q.length ≤ 20 := Nat.le_trans Lq.out (by decide)
  have CP1 := Lib.hid (fPresent x HS.out q (Nat.le_trans Lq.out (by decide)) r i y ⟨Nat.le_trans Lr.out.1 (by decide), Nat.le_trans Lr.out.2 (by decide)⟩ ⟨Nat.le_trans Li.out.1 (by decide), Nat.le_trans Li.out.2 (by decide)⟩ ⟨Nat.le_trans Ly.out.1 (by decide), Nat.le_trans Ly.out.2 (by decide)⟩)
  have CP2 := Lib.hid (jPresent x HS.out HT.out q hq r i y ⟨Nat.le_trans Lr.out.1 (by decide), Nat.le_trans Lr.out.2 (by decide)⟩ ⟨Nat.le_trans Li.out.1 (by decide), Nat.le_trans Li.out.2 (by decide)⟩ ⟨Nat.le_trans Ly.out.1 (by decide), Nat.le_trans Ly.out.2 (by decide)⟩)
  have CE1 := Lib.hid (fEven x HS.out q v (Nat.le_trans Lq.out (by decide)) (Nat.le_trans Lv.out (by decide)))
  have CE2 := Lib.hid (jEven x HS.out q v (Nat.le_trans Lq.out (by decide)) (Nat.le_trans Lv.out (by decide)))
  generalize (presV x q r i y).1 = v2 at *
  generalize (presV x q r i y).2 = z2 at *
  generalize fN (evenV x q v).1 = u1 at *
  generalize fD (evenV x q v).1 = u2 at *
  generalize (evenV x q v).2 = z3 at *
  have HQ := Lib.hid hQ
  clear hQ hq HS HT Lq Lv Lr Li Ly
  conv => arg 2; whnf
  conv => arg 3; arg 1; arg 2; whnf
  have qx6_0 := x6.c0
  have qx6_1 := x6.c1
  have qx6_2 := x6.c2
  have qx6_3 := x6.c3
  have qx6_4 := x6.c4
  have qx6_5 := x6.c5
  have qx6_6 := x6.c6
  have qx6_7 := x6.c7
  have qx6_8 := x6.c8
  have qx6_9 := x6.c9
  have qx6_10 := x6.c10
  have qx6_11 := x6.c11
  have qx6_12 := x6.c12
  have qx6_13 := x6.c13
  have qx6_14 := x6.c14
  have qx90 := x9.c0
  have qx91 := x9.c1
  have qx100 := x10.c0
  have qx101 := x10.c1
  have qx110 := x11.c0
  have qx111 := x11.c1
  go_wp2_with fail
  ((with_reducible refine (CP1.out.of hG hb).mono ?_); rintro e w7 ⟨rfl, hb7⟩)
  clear qx6_0 qx6_1 qx6_2 qx6_3 qx6_4 qx6_5 qx6_6 qx6_7 qx6_8 qx6_9 qx6_10 qx6_11 qx6_12 qx6_13 qx6_14
  clear qx90 qx91 qx100 qx101 qx110 qx111
  replace x6 := x6.below hb7
  replace x9 := x9.below hb7
  replace x10 := x10.below hb7
  replace x11 := x11.below hb7
  replace hM3 := hM3.below hb7
  replace hM4 := hM4.below hb7
  replace hb := bto hb hb7
  clear hb7
  have qx6_0 := x6.c0
  have qx6_1 := x6.c1
  have qx6_2 := x6.c2
  have qx6_3 := x6.c3
  have qx6_4 := x6.c4
  have qx6_5 := x6.c5
  have qx6_6 := x6.c6
  have qx6_7 := x6.c7
  have qx6_8 := x6.c8
  have qx6_9 := x6.c9
  have qx6_10 := x6.c10
  have qx6_11 := x6.c11
  have qx6_12 := x6.c12
  have qx6_13 := x6.c13
  have qx6_14 := x6.c14
  have qx90 := x9.c0
  have qx91 := x9.c1
  have qx100 := x10.c0
  have qx101 := x10.c1
  have qx110 := x11.c0
  have qx111 := x11.c1
  go_wp2_with fail
  ((with_reducible refine (CP2.out.of hG hb).mono ?_); rintro e w8 ⟨rfl, hb8⟩)
  clear qx6_0 qx6_1 qx6_2 qx6_3 qx6_4 qx6_5 qx6_6 qx6_7 qx6_8 qx6_9 qx6_10 qx6_11 qx6_12 qx6_13 qx6_14
  clear qx90 qx91 qx100 qx101 qx110 qx111
  replace x6 := x6.below hb8
  replace x9 := x9.below hb8
  replace x10 := x10.below hb8
  replace x11 := x11.below hb8
  replace hM3 := hM3.below hb8
  replace hM4 := hM4.below hb8
  replace hb := bto hb hb8
  clear hb8
  have qx6_0 := x6.c0
  have qx6_1 := x6.c1
  have qx6_2 := x6.c2
  have qx6_3 := x6.c3
  have qx6_4 := x6.c4
  have qx6_5 := x6.c5
  have qx6_6 := x6.c6
  have qx6_7 := x6.c7
  have qx6_8 := x6.c8
  have qx6_9 := x6.c9
  have qx6_10 := x6.c10
  have qx6_11 := x6.c11
  have qx6_12 := x6.c12
  have qx6_13 := x6.c13
  have qx6_14 := x6.c14
  go_wp2_with fail
  ((with_reducible refine (CE1.out.of hG hb).mono ?_); rintro e w9 ⟨rfl, hb9'⟩)
  clear qx6_0 qx6_1 qx6_2 qx6_3 qx6_4 qx6_5 qx6_6 qx6_7 qx6_8 qx6_9 qx6_10 qx6_11 qx6_12 qx6_13 qx6_14
  have hbA := below_alloc w9 (.cells #[.string ⟨u1.toArray⟩, .string ⟨u2.toArray⟩] 25)
  have x25 := FBox.new w9 (.string ⟨u1.toArray⟩) (.string ⟨u2.toArray⟩) 25
  have hb9 := bto hb9' hbA
  clear hb9' hbA
  replace x6 := x6.below hb9
  replace x9 := x9.below hb9
  replace x10 := x10.below hb9
  replace x11 := x11.below hb9
  replace hM3 := hM3.below hb9
  replace hM4 := hM4.below hb9
  replace hb := bto hb hb9
  clear hb9
  have qx6_0 := x6.c0
  have qx6_1 := x6.c1
  have qx6_2 := x6.c2
  have qx6_3 := x6.c3
  have qx6_4 := x6.c4
  have qx6_5 := x6.c5
  have qx6_6 := x6.c6
  have qx6_7 := x6.c7
  have qx6_8 := x6.c8
  have qx6_9 := x6.c9
  have qx6_10 := x6.c10
  have qx6_11 := x6.c11
  have qx6_12 := x6.c12
  have qx6_13 := x6.c13
  have qx6_14 := x6.c14
  go_wp2_with fail
  ((with_reducible refine (CE2.out.of hG hb).mono ?_); rintro e w10 ⟨rfl, hb10'⟩)
  clear qx6_0 qx6_1 qx6_2 qx6_3 qx6_4 qx6_5 qx6_6 qx6_7 qx6_8 qx6_9 qx6_10 qx6_11 qx6_12 qx6_13 qx6_14
  have hbA := below_alloc w10 (.cells #[.string ⟨u1.toArray⟩, .string ⟨u2.toArray⟩] 25)
  have x27 := FBox.new w10 (.string ⟨u1.toArray⟩) (.string ⟨u2.toArray⟩) 25
  have hb10 := bto hb10' hbA
  clear hb10' hbA
  replace x6 := x6.below hb10
  replace x9 := x9.below hb10
  replace x10 := x10.below hb10
  replace x11 := x11.below hb10
  replace hM3 := hM3.below hb10
  replace hM4 := hM4.below hb10
  replace x25 := x25.below hb10
  replace hb := bto hb hb10
  clear hb10
  go_upto_region 11 with fail
  have KE := Lib.hid (eqMsB12 (c := c3) (c' := c4) L1.out hm3 hm4 hM3 hM4)
  refine wp_mono (Q := Exit.then (Code.wp Tryz.prog (restV 11) Q) Q) (values_tail x _ _ _ B3 B4 m3 c3 m4 c4 z0 z1 z2 z3 E v1 v2 u1 u2 W _ hG hb x6 x25 x27 K1 K2 KE _ _ _ _ _ _ _ _ _ _ _ _ _ _ _ _ _ _ _ _ _ _ _ _ _ _ _ _ _ _ _ _ _ _ _ _ _ _ _ _ _ _ _ _ _ _ _ _ _ _ _ _ _ _ _ _ _ _ _ _ _ _ _ _ _ _ _ _ _ _ _ _ _ _ _ _ _ _ _ _ _ _ _ _ _ _ _ _ _ _ _ _ _ _ _ _ _ _ _ _ _ _ _ _ _ _ _ _ _ _ _ _ _ _ _ _ _ _ _ _ _ _ _ _ _ _ _ _ _ _ _ HQ.out) ?_
  rename_i K hK
  intro e a w h
  cases e <;> first | exact h | exact hK _ _ h
set_option maxHeartbeats 8000000 in
set_option maxRecDepth 1000000 in
theorem values_a {Q : Exit → Act → World → Prop} (x : Ins) (q v : List UInt8) (r i y : Fp2) (b6 b9 b10 b11 : Nat) (W w : World) (hG : Glob W) (hb : Below W.heap.size W w)
    (HS : Hid x.Small) (HT : Hid x.Tiny) (Lq : Hid (q.length ≤ 13)) (Lv : Hid (v.length ≤ 13)) (Lr : Hid (r.1.length ≤ 13 ∧ r.2.length ≤ 13)) (Li : Hid (i.1.length ≤ 13 ∧ i.2.length ≤ 13)) (Ly : Hid (y.1.length ≤ 13 ∧ y.2.length ≤ 13))
    (x6 : IBox w b6 x) (x9 : FBox w b9 (.string ⟨r.1.toArray⟩) (.string ⟨r.2.toArray⟩)) (x10 : FBox w b10 (.string ⟨i.1.toArray⟩) (.string ⟨i.2.toArray⟩)) (x11 : FBox w b11 (.string ⟨y.1.toArray⟩) (.string ⟨y.2.toArray⟩)) (t0 t3 t4 t5 t7 t8 t12 t13 t14 t15 t16 t17 t18 t19 t20 t21 t22 t23 t24 t25 t26 t27 t28 t29 t30 t31 t32 t33 t34 t35 t36 t37 t38 t39 t40 t41 t42 t43 t44 t45 t46 t47 t48 t49 t50 t51 t52 t53 t54 t55 t56 t57 t58 t59 t60 t61 t62 t63 t64 t65 t66 t67 t68 t69 t70 t71 t72 t73 t74 t75 t76 t77 t78 t79 t80 t81 t82 t83 t84 t85 t86 t87 t88 t89 t90 t91 t92 t93 t94 t95 t96 t97 t98 t99 t100 t101 t102 t103 t104 t105 t106 t107 t108 t109 t110 t111 t112 t113 t114 t115 t116 t117 t118 t119 t120 t121 t122 t123 t124 t125 t126 t127 t128 t129 t130 t131 t132 t133 t134 t135 t136 t137 t138 t139 t140 t141 t142 t143 t144 t145 t146 t147 : Value)
    (hQ : ∀ (u0 u1 u2 u3 u4 u5 u6 u7 u8 u9 u10 u11 u13 u14 u15 u16 u17 u18 u19 u20 u21 u22 u23 u24 u25 u26 u27 u28 u29 u30 u31 u32 u33 u34 u35 u36 u37 u38 u39 u40 u41 u42 u43 u44 u45 u46 u47 u48 u49 u50 u51 u52 u53 u54 u55 u56 u57 u58 u59 u60 u61 u62 u63 u64 u65 u66 u67 u68 u69 u70 u71 u72 u73 u74 u75 u76 u77 u78 u79 u80 u81 u82 u83 u84 u85 u86 u87 u88 u89 u90 u91 u92 u93 u94 u95 u96 u97 u98 u99 u100 u101 u102 u103 u104 u105 u106 u107 u108 u109 u110 u111 u112 u113 u114 u115 u116 u117 u118 u119 u120 u121 u122 u123 u124 u125 u126 u127 u128 u129 u130 u131 u132 u133 u134 u135 u136 u137 u138 u139 u140 u141 u142 u143 u144 u145 u146 u147 : Value) (w' : World), Below W.heap.size W w' → Q .ret ⟨#[u0, u1, u2, u3, u4, u5, u6, u7, u8, u9, u10, u11, .bool true, u13, u14, u15, u16, u17, u18, u19, u20, u21, u22, u23, u24, u25, u26, u27, u28, u29, u30, u31, u32, u33, u34, u35, u36, u37, u38, u39, u40, u41, u42, u43, u44, u45, u46, u47, u48, u49, u50, u51, u52, u53, u54, u55, u56, u57, u58, u59, u60, u61, u62, u63, u64, u65, u66, u67, u68, u69, u70, u71, u72, u73, u74, u75, u76, u77, u78, u79, u80, u81, u82, u83, u84, u85, u86, u87, u88, u89, u90, u91, u92, u93, u94, u95, u96, u97, u98, u99, u100, u101, u102, u103, u104, u105, u106, u107, u108, u109, u110, u111, u112, u113, u114, u115, u116, u117, u118, u119, u120, u121, u122, u123, u124, u125, u126, u127, u128, u129, u130, u131, u132, u133, u134, u135, u136, u137, u138, u139, u140, u141, u142, u143, u144, u145, u146, u147], []⟩ w') :
    Code.wp Tryz.prog (regV 3) (Exit.then (Code.wp Tryz.prog (restV 3) Q) Q) ⟨#[t0, .string ⟨q.toArray⟩, .string ⟨v.toArray⟩, t3, t4, t5, .pointer (some ⟨b6, 0, none⟩), t7, t8, .pointer (some ⟨b9, 0, none⟩), .pointer (some ⟨b10, 0, none⟩), .pointer (some ⟨b11, 0, none⟩), t12, t13, t14, t15, t16, t17, t18, t19, t20, t21, t22, t23, t24, t25, t26, t27, t28, t29, t30, t31, t32, t33, t34, t35, t36, t37, t38, t39, t40, t41, t42, t43, t44, t45, t46, t47, t48, t49, t50, t51, t52, t53, t54, t55, t56, t57, t58, t59, t60, t61, t62, t63, t64, t65, t66, t67, t68, t69, t70, t71, t72, t73, t74, t75, t76, t77, t78, t79, t80, t81, t82, t83, t84, t85, t86, t87, t88, t89, t90, t91, t92, t93, t94, t95, t96, t97, t98, t99, t100, t101, t102, t103, t104, t105, t106, t107, t108, t109, t110, t111, t112, t113, t114, t115, t116, t117, t118, t119, t120, t121, t122, t123, t124, t125, t126, t127, t128, t129, t130, t131, t132, t133, t134, t135, t136, t137, t138, t139, t140, t141, t142, t143, t144, t145, t146, t147], []⟩ w := by
  have hq : q.length ≤ 20 := Nat.le_trans Lq.out (by decide)
  have CS1 := Lib.hid (fun (w' : World) (hb : Below W.heap.size W w') => fSettle x HS.out HT.out q hq w' (hG.below hb))
  have CS2 := Lib.hid (fun (w' : World) (hb : Below W.heap.size W w') => jSettle x HS.out HT.out q hq w' (hG.below hb))
  have CV1 := Lib.hid (fValue x HS.out q (Nat.le_trans Lq.out (by decide)) r ⟨Nat.le_trans Lr.out.1 (by decide), Nat.le_trans Lr.out.2 (by decide)⟩)
  have CV2 := Lib.hid (jValue x HS.out HT.out q hq r ⟨Nat.le_trans Lr.out.1 (by decide), Nat.le_trans Lr.out.2 (by decide)⟩)
  have K1 := Lib.hid (fCheck x HS.out)
  have K2 := Lib.hid (jFk x HS.out)
  have L0 := setV_len (x := x) (q := q) HT.out hq
  generalize (setV x q).1 = ZL at *
  generalize (setV x q).2 = z0 at *
  generalize (presV x q r ([], []) ([], [])).1 = v1 at *
  generalize (presV x q r ([], []) ([], [])).2 = z1 at *
  generalize fkE x = E at *
  have L1 := Lib.hid L0
  have HQ := Lib.hid hQ
  clear hQ L0 hq
  conv => arg 2; whnf
  conv => arg 3; arg 1; arg 2; whnf
  have qx6_0 := x6.c0
  have qx6_1 := x6.c1
  have qx6_2 := x6.c2
  have qx6_3 := x6.c3
  have qx6_4 := x6.c4
  have qx6_5 := x6.c5
  have qx6_6 := x6.c6
  have qx6_7 := x6.c7
  have qx6_8 := x6.c8
  have qx6_9 := x6.c9
  have qx6_10 := x6.c10
  have qx6_11 := x6.c11
  have qx6_12 := x6.c12
  have qx6_13 := x6.c13
  have qx6_14 := x6.c14
  go_wp2_with fail
  refine (CS1.out _ hb).mono ?_
  rintro e w3 ⟨B3, m3, c3, rfl, hm3, hc3, hM3, hb3⟩
  clear qx6_0 qx6_1 qx6_2 qx6_3 qx6_4 qx6_5 qx6_6 qx6_7 qx6_8 qx6_9 qx6_10 qx6_11 qx6_12 qx6_13 qx6_14
  replace x6 := x6.below hb3
  replace x9 := x9.below hb3
  replace x10 := x10.below hb3
  replace x11 := x11.below hb3
  replace hb := bto hb hb3
  clear hb3
  have qx6_0 := x6.c0
  have qx6_1 := x6.c1
  have qx6_2 := x6.c2
  have qx6_3 := x6.c3
  have qx6_4 := x6.c4
  have qx6_5 := x6.c5
  have qx6_6 := x6.c6
  have qx6_7 := x6.c7
  have qx6_8 := x6.c8
  have qx6_9 := x6.c9
  have qx6_10 := x6.c10
  have qx6_11 := x6.c11
  have qx6_12 := x6.c12
  have qx6_13 := x6.c13
  have qx6_14 := x6.c14
  go_wp2_with fail
  refine (CS2.out _ hb).mono ?_
  rintro e w4 ⟨B4, m4, c4, rfl, hm4, hc4, hM4, hb4⟩
  clear qx6_0 qx6_1 qx6_2 qx6_3 qx6_4 qx6_5 qx6_6 qx6_7 qx6_8 qx6_9 qx6_10 qx6_11 qx6_12 qx6_13 qx6_14
  replace x6 := x6.below hb4
  replace x9 := x9.below hb4
  replace x10 := x10.below hb4
  replace x11 := x11.below hb4
  replace hM3 := hM3.below hb4
  replace hb := bto hb hb4
  clear hb4
  have qx6_0 := x6.c0
  have qx6_1 := x6.c1
  have qx6_2 := x6.c2
  have qx6_3 := x6.c3
  have qx6_4 := x6.c4
  have qx6_5 := x6.c5
  have qx6_6 := x6.c6
  have qx6_7 := x6.c7
  have qx6_8 := x6.c8
  have qx6_9 := x6.c9
  have qx6_10 := x6.c10
  have qx6_11 := x6.c11
  have qx6_12 := x6.c12
  have qx6_13 := x6.c13
  have qx6_14 := x6.c14
  have qx90 := x9.c0
  have qx91 := x9.c1
  go_wp2_with fail
  ((with_reducible refine (CV1.out.of hG hb).mono ?_); rintro e w5 ⟨rfl, hb5⟩)
  clear qx6_0 qx6_1 qx6_2 qx6_3 qx6_4 qx6_5 qx6_6 qx6_7 qx6_8 qx6_9 qx6_10 qx6_11 qx6_12 qx6_13 qx6_14
  clear qx90 qx91
  replace x6 := x6.below hb5
  replace x9 := x9.below hb5
  replace x10 := x10.below hb5
  replace x11 := x11.below hb5
  replace hM3 := hM3.below hb5
  replace hM4 := hM4.below hb5
  replace hb := bto hb hb5
  clear hb5
  have qx6_0 := x6.c0
  have qx6_1 := x6.c1
  have qx6_2 := x6.c2
  have qx6_3 := x6.c3
  have qx6_4 := x6.c4
  have qx6_5 := x6.c5
  have qx6_6 := x6.c6
  have qx6_7 := x6.c7
  have qx6_8 := x6.c8
  have qx6_9 := x6.c9
  have qx6_10 := x6.c10
  have qx6_11 := x6.c11
  have qx6_12 := x6.c12
  have qx6_13 := x6.c13
  have qx6_14 := x6.c14
  have qx90 := x9.c0
  have qx91 := x9.c1
  go_wp2_with fail
  ((with_reducible refine (CV2.out.of hG hb).mono ?_); rintro e w6 ⟨rfl, hb6⟩)
  clear qx6_0 qx6_1 qx6_2 qx6_3 qx6_4 qx6_5 qx6_6 qx6_7 qx6_8 qx6_9 qx6_10 qx6_11 qx6_12 qx6_13 qx6_14
  clear qx90 qx91
  replace x6 := x6.below hb6
  replace x9 := x9.below hb6
  replace x10 := x10.below hb6
  replace x11 := x11.below hb6
  replace hM3 := hM3.below hb6
  replace hM4 := hM4.below hb6
  replace hb := bto hb hb6
  clear hb6
  go_upto_region 7 with fail
  refine wp_mono (Q := Exit.then (Code.wp Tryz.prog (restV 7) Q) Q) (values_b x q v r i y _ _ _ _ B3 B4 m3 c3 m4 c4 z0 z1 E v1 ZL W _ hG hb HS HT Lq Lv Lr Li Ly x6 x9 x10 x11 K1 K2 L1 hm3 hM3 hm4 hM4 _ _ _ _ _ _ _ _ _ _ _ _ _ _ _ _ _ _ _ _ _ _ _ _ _ _ _ _ _ _ _ _ _ _ _ _ _ _ _ _ _ _ _ _ _ _ _ _ _ _ _ _ _ _ _ _ _ _ _ _ _ _ _ _ _ _ _ _ _ _ _ _ _ _ _ _ _ _ _ _ _ _ _ _ _ _ _ _ _ _ _ _ _ _ _ _ _ _ _ _ _ _ _ _ _ _ _ _ _ _ _ _ _ _ _ _ _ _ _ _ _ _ _ _ _ _ _ _ _ _ _ _ _ _ HQ.out) ?_
  rename_i K hK
  intro e a w h
  cases e <;> first | exact h | exact hK _ _ h
set_option maxHeartbeats 8000000 in
set_option maxRecDepth 100000 in
theorem values_law (x : Ins) (q v : List UInt8) (r i y : Fp2) (w : World) (hG : Glob w) : Calls Tryz.prog 8 #[(Value.agg #[Value.string ⟨List.toArray x.id⟩, Value.int .i64 x.kind, Value.string ⟨List.toArray x.cur⟩, Value.int .i64 x.places, Value.int .i64 x.issued, Value.int .i64 x.matures, Value.string ⟨List.toArray x.fn⟩, Value.string ⟨List.toArray x.fd⟩, Value.string ⟨List.toArray x.cn⟩, Value.string ⟨List.toArray x.cd⟩, Value.int .i64 x.months, Value.int .i64 x.count, Value.string ⟨List.toArray x.other⟩, Value.string ⟨List.toArray x.sn⟩, Value.string ⟨List.toArray x.sd⟩]), .string ⟨q.toArray⟩, .string ⟨v.toArray⟩, (Value.agg #[Value.string ⟨List.toArray (r.1)⟩, Value.string ⟨List.toArray (r.2)⟩]), (Value.agg #[Value.string ⟨List.toArray (i.1)⟩, Value.string ⟨List.toArray (i.2)⟩]), (Value.agg #[Value.string ⟨List.toArray (y.1)⟩, Value.string ⟨List.toArray (y.2)⟩])] w fun e w' => e = .returned (.bool true) ∧ Below w.heap.size w w' := by
  have HAw := Lib.hid wAwake12
  go_enter Tryz.func8, Tryz.ntmps8
  have x' := ((((IBox.new w x 27).below (below_alloc _ (.cells #[.string ⟨r.1.toArray⟩, .string ⟨r.2.toArray⟩] 25))).below (below_alloc _ (.cells #[.string ⟨i.1.toArray⟩, .string ⟨i.2.toArray⟩] 25))).below (below_alloc _ (.cells #[.string ⟨y.1.toArray⟩, .string ⟨y.2.toArray⟩] 25)))
  have qx6_0 := x'.c0
  have qx6_1 := x'.c1
  have qx6_2 := x'.c2
  have qx6_3 := x'.c3
  have qx6_4 := x'.c4
  have qx6_5 := x'.c5
  have qx6_6 := x'.c6
  have qx6_7 := x'.c7
  have qx6_8 := x'.c8
  have qx6_9 := x'.c9
  have qx6_10 := x'.c10
  have qx6_11 := x'.c11
  have qx6_12 := x'.c12
  have qx6_13 := x'.c13
  have qx6_14 := x'.c14
  go_wp2_with fail
  refine (lGreat x _ [q, v] 2 2 _ rfl (by decide) (stsAt_of (by first | (simp; done) | (simp; omega)) (fun i hi => by
    have hi : i = 0 ∨ i = 1 := by simp at hi; omega
    rcases hi with rfl | rfl <;> simp [go_sem]))).mono ?_
  rintro e w1 ⟨gb, rfl, hg, hb1'⟩
  have hb1 := bto (below_alloc _ _) hb1'
  have x6 := x'.below hb1
  have x9 : FBox w1 (w.heap.size + 1) (.string ⟨r.1.toArray⟩) (.string ⟨r.2.toArray⟩) := FBox.below ⟨by simp [go_sem], by simp [go_sem], by simp [go_sem], by simp [go_sem], by first | (simp; done) | (simp; omega)⟩ hb1
  have x10 : FBox w1 (w.heap.size + 2) (.string ⟨i.1.toArray⟩) (.string ⟨i.2.toArray⟩) := FBox.below ⟨by simp [go_sem], by simp [go_sem], by simp [go_sem], by simp [go_sem], by first | (simp; done) | (simp; omega)⟩ hb1
  have x11 : FBox w1 (w.heap.size + 3) (.string ⟨y.1.toArray⟩) (.string ⟨y.2.toArray⟩) := FBox.below ⟨by simp [go_sem], by simp [go_sem], by simp [go_sem], by simp [go_sem], by first | (simp; done) | (simp; omega)⟩ hb1
  have hb : Below w.heap.size w w1 := bto (bto (bto (bto (below_alloc _ _) (below_alloc _ _)) (below_alloc _ _)) (below_alloc _ _)) hb1
  clear qx6_0 qx6_1 qx6_2 qx6_3 qx6_4 qx6_5 qx6_6 qx6_7 qx6_8 qx6_9 qx6_10 qx6_11 qx6_12 qx6_13 qx6_14
  have HF := Lib.hid hg
  clear hg hb1 hb1' x'
  cases gb with
  | true =>
    clear HF
    go_wp2_with fail
    ((with_reducible refine (HAw.out.of hG hb).mono ?_); rintro e wz ⟨rfl, hbz⟩)
    replace hb := bto hb hbz
    clear hbz
    go_wp2
    go_ret
    exact ⟨rfl, hb⟩
  | false =>
  obtain ⟨hS, hT, hQ⟩ := HF.out rfl
  have lq : q.length ≤ 13 := hQ q (by simp)
  have lv : v.length ≤ 13 := hQ v (by simp)
  clear hQ HF
  have HS := Lib.hid hS
  have HT := Lib.hid hT
  clear hS hT
  have Lq := Lib.hid lq
  clear lq
  have Lv := Lib.hid lv
  clear lv
  have qx90 := x9.c0
  have qx91 := x9.c1
  have qx100 := x10.c0
  have qx101 := x10.c1
  have qx110 := x11.c0
  have qx111 := x11.c1
  go_wp2_with fail
  refine (lLong _ [r, i, y] 3 3 _ rfl (by decide) (frAt_of (by first | (simp; done) | (simp; omega)) (fun i hi => by
    have hi : i = 0 ∨ i = 1 ∨ i = 2 := by simp at hi; omega
    rcases hi with rfl | rfl | rfl <;> simp [go_sem]))).mono ?_
  rintro e w2 ⟨rfl, hb2'⟩
  have hb2 := bto (below_alloc _ _) hb2'
  clear qx90 qx91 qx100 qx101 qx110 qx111 hb2'
  replace x6 := x6.below hb2
  replace x9 := x9.below hb2
  replace x10 := x10.below hb2
  replace x11 := x11.below hb2
  replace hb := bto hb hb2
  clear hb2
  by_cases gL : [r, i, y].any longF = true
  · rw [gL]
    clear gL
    go_wp2_with fail
    ((with_reducible refine (HAw.out.of hG hb).mono ?_); rintro e wz ⟨rfl, hbz⟩)
    replace hb := bto hb hbz
    clear hbz
    go_wp2
    go_ret
    exact ⟨rfl, hb⟩
  rw [not_true_b gL]
  have hL := not_true_b gL
  clear gL
  simp only [List.any_cons, List.any_nil, Bool.or_false, Bool.or_eq_false_iff] at hL
  have Lr := Lib.hid (longF_no hL.1)
  have Li := Lib.hid (longF_no hL.2.1)
  have Ly := Lib.hid (longF_no hL.2.2)
  clear hL
  go_upto_region 3 with fail
  rename_i Q0 K hK
  refine wp_mono (Q := Exit.then (Code.wp Tryz.prog (restV 3) Q0) Q0) (values_a x q v r i y _ _ _ _ w _ hG hb HS HT Lq Lv Lr Li Ly x6 x9 x10 x11 _ _ _ _ _ _ _ _ _ _ _ _ _ _ _ _ _ _ _ _ _ _ _ _ _ _ _ _ _ _ _ _ _ _ _ _ _ _ _ _ _ _ _ _ _ _ _ _ _ _ _ _ _ _ _ _ _ _ _ _ _ _ _ _ _ _ _ _ _ _ _ _ _ _ _ _ _ _ _ _ _ _ _ _ _ _ _ _ _ _ _ _ _ _ _ _ _ _ _ _ _ _ _ _ _ _ _ _ _ _ _ _ _ _ _ _ _ _ _ _ _ _ _ _ _ _ _ _ _ _ _ _ _ _ _ _ _ _ _ _ _ _ ?_) ?_
  · intro u0 u1 u2 u3 u4 u5 u6 u7 u8 u9 u10 u11 u13 u14 u15 u16 u17 u18 u19 u20 u21 u22 u23 u24 u25 u26 u27 u28 u29 u30 u31 u32 u33 u34 u35 u36 u37 u38 u39 u40 u41 u42 u43 u44 u45 u46 u47 u48 u49 u50 u51 u52 u53 u54 u55 u56 u57 u58 u59 u60 u61 u62 u63 u64 u65 u66 u67 u68 u69 u70 u71 u72 u73 u74 u75 u76 u77 u78 u79 u80 u81 u82 u83 u84 u85 u86 u87 u88 u89 u90 u91 u92 u93 u94 u95 u96 u97 u98 u99 u100 u101 u102 u103 u104 u105 u106 u107 u108 u109 u110 u111 u112 u113 u114 u115 u116 u117 u118 u119 u120 u121 u122 u123 u124 u125 u126 u127 u128 u129 u130 u131 u132 u133 u134 u135 u136 u137 u138 u139 u140 u141 u142 u143 u144 u145 u146 u147 w19 hb19
    show bodyPost Tryz.prog Tryz.f8 _ .ret _ _
    go_ret
    exact ⟨rfl, hb19⟩
  · intro e a w h
    cases e <;> first | exact h | exact hK _ _ h
theorem values_law' (x : Ins) (q v r1 r2 i1 i2 y1 y2 : List UInt8) (w : World) (hG : Glob w) : Calls Tryz.prog 8 #[(Value.agg #[Value.string ⟨List.toArray x.id⟩, Value.int .i64 x.kind, Value.string ⟨List.toArray x.cur⟩, Value.int .i64 x.places, Value.int .i64 x.issued, Value.int .i64 x.matures, Value.string ⟨List.toArray x.fn⟩, Value.string ⟨List.toArray x.fd⟩, Value.string ⟨List.toArray x.cn⟩, Value.string ⟨List.toArray x.cd⟩, Value.int .i64 x.months, Value.int .i64 x.count, Value.string ⟨List.toArray x.other⟩, Value.string ⟨List.toArray x.sn⟩, Value.string ⟨List.toArray x.sd⟩]), .string ⟨q.toArray⟩, .string ⟨v.toArray⟩, (Value.agg #[Value.string ⟨List.toArray r1⟩, Value.string ⟨List.toArray r2⟩]), (Value.agg #[Value.string ⟨List.toArray i1⟩, Value.string ⟨List.toArray i2⟩]), (Value.agg #[Value.string ⟨List.toArray y1⟩, Value.string ⟨List.toArray y2⟩])] w fun e w' => e = .returned (.bool true) ∧ Below w.heap.size w w' := values_law x q v (r1, r2) (i1, i2) (y1, y2) w hG
end Go.Proofs.YtgnppdkeiihlfaaGreatDoor
