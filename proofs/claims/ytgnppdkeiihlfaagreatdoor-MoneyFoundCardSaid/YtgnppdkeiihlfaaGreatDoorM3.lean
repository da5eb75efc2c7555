/- Texts put together: Mt Dp Da Mu Mv My Db Dc Dd. -/
import Derived.Test.YtgnppdkeiihlfaaGreatDoorM2
import Derived.Test.YtgnppdkeiihlfaaGreatDoorMBe
namespace Go.Proofs.YtgnppdkeiihlfaaGreatDoor
open Go.RowKit Go.Shelf Num
attribute [local go_sem] Oper.semAt_some
theorem both_any (A B : Option Addr) (n c m d : Nat) (w : World) :
    Calls Tryz.prog 209 #[.slice A n c, .slice B m d] w fun e w' => e = .returned (.func (.func 255) #[] #[.pointer (some ⟨w.heap.size, 0, none⟩), .pointer (some ⟨w.heap.size + 1, 0, none⟩)]) ∧ w' = (w.alloc (.cells #[.slice A n c] 42)).alloc (.cells #[.slice B m d] 42) := by
  go_enter Tryz.func209, Tryz.ntmps209
  go_wp2_with fail
  go_ret
  exact ⟨rfl, rfl⟩
theorem enter_b1 (args : Array Value) (w : World) : (callFunc 255 args).run Tryz.prog w = .ok (.enter 255 args) w := by kernel_rfl
theorem keep_snoc (zs : List Yl) (y : Yl) : keepL (zs ++ [y]) = keepL zs ++ keepL [y] := by
  induction zs with
  | nil => rfl
  | cons z r ih =>
    show (if _ = 0 then keepL (r ++ [y]) else _ :: keepL (r ++ [y])) = (if _ = 0 then keepL r else _ :: keepL r) ++ _
    rw [ih]
    split <;> simp
/-- the state of sum behind what both has yielded -/
structure SmAt (w : World) (R : Loop) (d l : Nat) (zs : List Yl) (W : World) : Prop where
  below : Below w.heap.size w W
  loop : W.heap[l]? = some (.loop R)
  dfr : W.heap[d]? = some (.deferred (some []))
  row : ∃ v, Boxed W w.heap.size 42 v ∧ W.ownsRow w.heap.size 48 2 v (keepL zs).length (rowsM (keepL zs))
theorem own_belowM {w w' : World} {B k sz : Nat} {ty : TypeId} {v : Value} {cs : List Value} (h : w.ownsRow B ty sz v k cs) (hb : Below w.heap.size w w') : w'.ownsRow B ty sz v k cs := by
  refine ⟨h.1, ?_⟩
  rcases h.2 with h2 | ⟨g, cap, cur, e, hB, hg, r⟩
  · exact .inl h2
  · exact .inr ⟨g, cap, cur, e, hB, (hb.block g (Array.getElem?_eq_some_iff.1 hg).1).trans hg, r⟩
theorem below_putM {w W : World} {l : Nat} {ob : Obj} (h : Below w.heap.size w W) (hl : w.heap.size ≤ l) : Below w.heap.size w (W.putObj l ob) :=
  h.trans ⟨rfl, rfl, rfl, by simp, fun k hk => World.putObj_heap_other (by omega)⟩
section
variable {w W W' : World} {R : Loop} {d l : Nat} {zs : List Yl}
theorem SmAt.mono (h : SmAt w R d l zs W) (hb : Below W.heap.size W W') : SmAt w R d l zs W' :=
  ⟨bto h.below hb, (hb.block _ (Array.getElem?_eq_some_iff.1 h.loop).1).trans h.loop, (hb.block _ (Array.getElem?_eq_some_iff.1 h.dfr).1).trans h.dfr, by
    obtain ⟨v, h1, h2⟩ := h.row
    exact ⟨v, (hb.block _ h1.lt).trans h1, own_belowM h2 hb⟩⟩
theorem SmAt.done {R1 R2 : Loop} (hR : R2 = R) (hl : l ≠ d ∧ l ≠ w.heap.size ∧ w.heap.size ≤ l) (h : SmAt w R1 d l zs W) : SmAt w R d l zs (W.putObj l (.loop R2)) := by
  subst hR
  refine ⟨below_putM h.below hl.2.2, World.putObj_heap_same (Array.getElem?_eq_some_iff.1 h.loop).1, (World.putObj_heap_other (by omega)).trans h.dfr, ?_⟩
  obtain ⟨v, h1, h2⟩ := h.row
  exact ⟨v, (World.putObj_heap_other (Ne.symm hl.2.1)).trans h1, ownsRow_putObj h2 _ h.loop rfl⟩
theorem SmAt.grown (h : SmAt w R d l zs W) {b : Nat} {cs : Array Value} {t : TypeId} (hb : W.heap[b]? = some (.cells cs t (0, 0))) (ht : t ≠ 48) (hn : b ≠ w.heap.size) (hw : w.heap.size ≤ b) (hg : W.grownBy W' (some b)) : SmAt w R d l zs W' := by
  have hne : ∀ {k : Nat} {ob : Obj}, W.heap[k]? = some ob → ob.isCells = false → some k ≠ some b := fun hk hc e => by
    injection e with e
    rw [e, hb] at hk
    injection hk with hk
    rw [← hk] at hc; cases hc
  obtain ⟨v, h1, h2⟩ := h.row
  refine ⟨h.below.grown hg h.below.size (fun j ej => by injection ej with ej; omega), (hg.block l (Array.getElem?_eq_some_iff.1 h.loop).1 (hne h.loop rfl)).trans h.loop, (hg.block d (Array.getElem?_eq_some_iff.1 h.dfr).1 (hne h.dfr rfl)).trans h.dfr, v, h1.kept hg (fun e => hn (by injection e with e; exact e.symm)), h2.kept hg ?_⟩
  rcases h2.2 with ⟨rfl, -⟩ | ⟨g, cap, cur, rfl, -, hgb, -⟩
  · exact .inl rfl
  · refine .inr fun e' => ?_
    obtain rfl : g = b := by simpa [Value.ownBlock] using e'
    rw [hgb] at hb
    injection hb with hb
    injection hb with _ hb2
    exact ht hb2.symm
end
/-- what a call returns that makes amounts -/
def MonEnd (xs : List Mon) (code : Int) (w : World) (e : Ending) (w' : World) : Prop := ∃ B m cp, e = .returned (.tuple #[.slice B m cp, .int .i64 code]) ∧ xs.length = m ∧ m ≤ cp ∧ MonAt w' B xs ∧ Below w.heap.size w w'
def smR (a b : List Mon) : List Mon := if 16 < (smL a b).length then [] else smL a b
def smE (a b : List Mon) : Int := if 16 < (smL a b).length then 4 else 0
theorem mon_nil (w : World) (A : Option Addr) : MonAt w A [] := fun i t ht => by simp at ht
theorem own_mon {w : World} {base k : Nat} {v : Value} {xs : List Mon} (h : w.ownsRow base 48 2 v k (rowsM xs)) (hk : xs.length = k) : ∃ B cp, v = .slice B k cp ∧ k ≤ cp ∧ MonAt w B xs := by
  subst hk
  rcases h.2 with ⟨rfl, h0⟩ | ⟨g, cap, cur, rfl, hB, hg, hcap, _, hsz, htk⟩
  · have : xs = [] := List.eq_nil_of_length_eq_zero h0
    subst this
    exact ⟨none, 0, rfl, Nat.le_refl _, mon_nil w none⟩
  · refine ⟨_, _, rfl, hcap, crow_mon ⟨cur, hg, ?_, ?_⟩⟩
    · rw [rowsM_len]; exact htk
    · rw [rowsM_len, hsz]; exact Nat.mul_le_mul_right 2 hcap

set_option maxHeartbeats 8000000 in
set_option maxRecDepth 100000 in
theorem msum (A B : Option Addr) (xs ys : List Mon) (n c n' c' : Nat) (w : World) (hG : Glob w) (hX : ML w A xs n) (hc : n ≤ c) (hY : ML w B ys n') (hc' : n' ≤ c') :
    Calls Tryz.prog 143 #[.slice A n c, .slice B n' c'] w (MonEnd (smR xs ys) (smE xs ys) w) := by
  obtain ⟨i0, hi, hz0, hz1, hz2⟩ := info_parts info_mon
  have hn63 : n ≤ 1000000 ∧ n' ≤ 1000000 := ⟨Nat.le_trans hX.sm (by decide), Nat.le_trans hY.sm (by decide)⟩
  have hNs : xs.length + ys.length ≤ 2000 := by have := hX.len; have := hY.len; have := hX.sm; have := hY.sm; omega
  have HX := Lib.hid hX
  have HYs := Lib.hid hY
  have HNs := Lib.hid hNs
  clear hX hY hNs
  refine (callsIn_wide (n := 5)).1 ?_
  refine callsIn_of_wp_marks Tryz.func143 rfl trivial ?_ rfl
  simp only [Tryz.ntmps143, List.size_toArray, List.length_cons, List.length_nil, Nat.reduceAdd, Nat.reduceSub, Array.replicate_succ, Array.replicate_zero, List.push_toArray, List.append_toArray, List.nil_append, List.cons_append]
  gi_wp2_with (refine ⟨trivial, ?_⟩; gi_at_call 209; refine (callsIn_wide.2 (both_any A B n c n' c' _)).mono ?_; rintro e w1 ⟨rfl, rfl⟩)
  refine range_goes (gf := 255) (lb := #[.pointer (some ⟨w.heap.size + 1, 0, none⟩), .pointer (some ⟨w.heap.size + 1 + 1, 0, none⟩)]) rfl enter_b1 ?_
  intro fn R hR
  obtain ⟨Wo, hWo⟩ : ∃ Wo, Wo = w.alloc (.cells #[.slice none 0 0] 42) := ⟨_, rfl⟩
  obtain ⟨W0, hW0⟩ : ∃ W0, W0 = (Wo.alloc (.cells #[.slice A n c] 42)).alloc (.cells #[.slice B n' c'] 42) := ⟨_, rfl⟩
  have hso : Wo.heap.size = w.heap.size + 1 := by rw [hWo]; simp only [World.size_alloc]
  have hsz : W0.heap.size = w.heap.size + 3 := by rw [hW0, World.size_alloc, World.size_alloc, hso]
  have hb0 : Below w.heap.size w Wo := by rw [hWo]; exact below_alloc _ _
  have hbo : Below Wo.heap.size Wo W0 := by rw [hW0]; exact bto (below_alloc _ _) (below_alloc _ _)
  have x6 : Boxed W0 w.heap.size 42 (.slice none 0 0) := bx_below (by rw [hWo]; exact Boxed.new _ _ _) hbo
  have xa : Boxed W0 (w.heap.size + 1) 42 (.slice A n c) := by
    rw [hW0, ← hso]
    exact bx_below (Boxed.new Wo _ _) (below_alloc _ _)
  have xb : Boxed W0 (w.heap.size + 1 + 1) 42 (.slice B n' c') := by
    rw [hW0, ← hso]
    have := Boxed.new (Wo.alloc (.cells #[.slice A n c] 42)) 42 (.slice B n' c')
    rwa [World.size_alloc] at this
  replace hb0 := bto hb0 hbo
  rw [← hWo, ← hW0] at hR ⊢
  clear hW0 hWo hso hbo
  obtain ⟨W1, hW1⟩ : ∃ W1, W1 = (W0.alloc (.deferred (some []))).alloc (.loop R) := ⟨_, rfl⟩
  have hbB : Below W0.heap.size W0 W1 := by rw [hW1]; exact bto (below_alloc _ _) (below_alloc _ _)
  have hD : W1.heap[W0.heap.size]? = some (.deferred (some [])) := by rw [hW1]; exact (Below.heap_alloc _ _ _ (by simp)).trans (World.alloc_heap_new _ _)
  have hL : W1.heap[W0.heap.size + 1]? = some (.loop R) := by
    rw [hW1]
    have := World.alloc_heap_new (W0.alloc (.deferred (some []))) (.loop R)
    rwa [World.size_alloc] at this
  rw [← hW1]
  obtain ⟨l, hl⟩ : ∃ l, l = W0.heap.size + 1 := ⟨_, rfl⟩
  obtain ⟨d, hd⟩ : ∃ d, d = W0.heap.size := ⟨_, rfl⟩
  rw [← hl] at hL ⊢
  rw [← hd] at hD hR ⊢
  have hS0 : SmAt w R d l [] W1 := ⟨bto hb0 hbB, hL, hD, ⟨_, bx_below x6 hbB, World.ownsRow_nil _ _ _ 2⟩⟩
  replace xa := bx_below xa hbB
  replace xb := bx_below xb hbB
  obtain ⟨ab, hab⟩ : ∃ ab, ab = w.heap.size + 1 := ⟨_, rfl⟩
  obtain ⟨bb, hbb⟩ : ∃ bb, bb = w.heap.size + 1 + 1 := ⟨_, rfl⟩
  rw [← hbb] at xb ⊢
  rw [← hab] at xa ⊢
  have n1 : l ≠ d ∧ l ≠ w.heap.size ∧ w.heap.size ≤ l := by omega
  have n3 : w.heap.size ≤ d ∧ d ≠ w.heap.size := by omega
  have n4 : ab ≠ bb ∧ ab ≠ w.heap.size ∧ bb ≠ w.heap.size ∧ w.heap.size ≤ ab ∧ w.heap.size ≤ bb ∧ ab ≠ l ∧ bb ≠ l := by omega
  clear hW1 hbB hD hL x6 hb0 hsz hl hd hab hbb
  have hY : ∀ zs (y : Yl) W u v, SmAt w R d l zs W → y.1.length ≤ 1000 → y.2.1.length ≤ 1000 → y.2.2.length ≤ 1000 → zs.length < 2000 → Boxed W ab 42 u → Boxed W bb 42 v →
      YieldAt Fence.wide (5 - 1 - 1) Tryz.prog l #[.string ⟨y.1.toArray⟩, .agg #[.string ⟨y.2.1.toArray⟩, .string ⟨y.2.2.toArray⟩]] W fun e W' => e = .returned (.bool true) ∧ SmAt w R d l (zs ++ [y]) W' ∧ Boxed W' ab 42 u ∧ Boxed W' bb 42 v := by
    intro zs y W u v hS l1 l2 l3 hlen hA hB
    have hy := run_yield (P := Tryz.prog) (args := #[.string ⟨y.1.toArray⟩, .agg #[.string ⟨y.2.1.toArray⟩, .string ⟨y.2.2.toArray⟩]]) hS.loop (by rw [hR]; rfl)
    refine ⟨R.fn, _, R.assign, R.body, hy, roundIn_of_wpIn trivial ?_⟩
    have hlW := (Array.getElem?_eq_some_iff.1 hS.loop).1
    have hbA := below_alloc W (.cells #[.string ⟨y.2.1.toArray⟩, .string ⟨y.2.2.toArray⟩] 201)
    have hSa := hS.mono hbA
    have hbr := run_beginRound (P := Tryz.prog) hSa.loop (by rw [hR])
    have hS1 : SmAt w { R with state := .busy } d l zs ((W.alloc (.cells #[.string ⟨y.2.1.toArray⟩, .string ⟨y.2.2.toArray⟩] 201)).putObj l (.loop { R with state := .busy })) := SmAt.done rfl n1 hSa
    have x8 : Blk ((W.alloc (.cells #[.string ⟨y.2.1.toArray⟩, .string ⟨y.2.2.toArray⟩] 201)).putObj l (.loop { R with state := .busy })) W.heap.size #[.string ⟨y.2.1.toArray⟩, .string ⟨y.2.2.toArray⟩] := by
      obtain ⟨t, h⟩ := Blk.new W #[.string ⟨y.2.1.toArray⟩, .string ⟨y.2.2.toArray⟩] 201
      exact ⟨t, (World.putObj_heap_other (by omega)).trans h⟩
    have hA1 : Boxed ((W.alloc (.cells #[.string ⟨y.2.1.toArray⟩, .string ⟨y.2.2.toArray⟩] 201)).putObj l (.loop { R with state := .busy })) ab 42 u := (World.putObj_heap_other n4.2.2.2.2.2.1).trans (bx_below hA hbA)
    have hB1 : Boxed ((W.alloc (.cells #[.string ⟨y.2.1.toArray⟩, .string ⟨y.2.2.toArray⟩] 201)).putObj l (.loop { R with state := .busy })) bb 42 v := (World.putObj_heap_other n4.2.2.2.2.2.2).trans (bx_below hB hbA)
    obtain ⟨Wc, hWc⟩ : ∃ Wc, Wc = (W.alloc (.cells #[.string ⟨y.2.1.toArray⟩, .string ⟨y.2.2.toArray⟩] 201)).putObj l (.loop { R with state := .busy }) := ⟨_, rfl⟩
    rw [← hWc] at hbr hS1 x8 hA1 hB1
    have hRe : ({ { R with state := .busy } with state := .ready, pending := none } : Loop) = R := by rw [hR]
    obtain ⟨R1, hR1⟩ : ∃ R1, R1 = { R with state := .busy } := ⟨_, rfl⟩
    rw [← hR1] at hS1 hRe
    have hbc := hS1.below
    have p0 : Wc.cell? ⟨W.heap.size, 0, none⟩ = some (.string ⟨y.2.1.toArray⟩) := x8.c 0
    have p1 : Wc.cell? ⟨W.heap.size, 1, none⟩ = some (.string ⟨y.2.2.toArray⟩) := x8.c 1
    have HBr := Lib.hid hbr
    have HRe := Lib.hid hRe
    have HS1 := Lib.hid hS1
    have HA1 := Lib.hid hA1
    have HB1 := Lib.hid hB1
    obtain ⟨Z, hZ⟩ : ∃ Z, Z = val y.2.1 + val y.2.2 := ⟨_, rfl⟩
    have C1 := Lib.hid (riAdd (l := y.2.1) (l' := y.2.2) (by omega) (by omega) hZ.symm)
    have HZ := Lib.hid hZ
    have HHR := Lib.hid hR
    clear hWc hbr hy hS hSa hlW hS1 hRe hR1 hS0 hA hB hA1 hB1 hbA x8 hZ xa xb
    rw [hR]
    gi_wp2
    refine ⟨_, HBr.out, ?_⟩
    gi_wp2_with fail
    refine ⟨trivial, ?_⟩
    refine (CallsIn.inRound l (callsIn_wide.2 (C1.out.of hG hbc))).mono ?_
    rintro e w4 ⟨rfl, hb4⟩
    have HS2 := Lib.hid (HS1.out.mono hb4)
    have HA2 := Lib.hid (bx_below HA1.out hb4)
    have HB2 := Lib.hid (bx_below HB1.out hb4)
    replace hbc := bto hbc hb4
    clear hb4 p0 p1 C1 HS1 HA1 HB1 HBr hR
    by_cases hz : Z = 0
    · have e3 : (canon Z == []) = true := by rw [hz]; rfl
      have e4 : (canon Z).isEmpty = true := by rw [hz]; rfl
      have HK : Hid (keepL (zs ++ [y]) = keepL zs) := by
        show _ = _
        rw [keep_snoc]
        show _ ++ (if val y.2.1 + val y.2.2 = 0 then keepL [] else _) = _
        rw [← HZ.out, if_pos hz]; exact List.append_nil _
      have HGO : Hid (SmAt w R1 d l (zs ++ [y]) w4) := by
        obtain ⟨g1, g2, g3, v, g4, g5⟩ := HS2.out
        exact ⟨g1, g2, g3, v, g4, by rw [HK.out]; exact g5⟩
      clear hz
      gi_wp2
      exact ⟨_, _, run_endRound (P := Tryz.prog) none HGO.out.loop, rfl, SmAt.done (HRe.out.trans HHR.out) n1 HGO.out, (World.putObj_heap_other n4.2.2.2.2.2.1).trans HA2.out, (World.putObj_heap_other n4.2.2.2.2.2.2).trans HB2.out⟩
    have e3 : (canon Z == []) = false := by rw [beq_eq_false_iff_ne]; exact fun h => hz ((canon_eq_nil _).1 h)
    have e4 : (canon Z).isEmpty = false := by rw [List.isEmpty_eq_false_iff]; exact fun h => hz ((canon_eq_nil _).1 h)
    have HK : Hid (keepL (zs ++ [y]) = keepL zs ++ [⟨y.1, canon Z⟩]) := by
      show _ = _
      rw [keep_snoc]
      show _ ++ (if val y.2.1 + val y.2.2 = 0 then keepL [] else _) = _
      rw [← HZ.out, if_neg hz]; rfl
    have hkl := keep_len zs
    obtain ⟨v0, hv, hrow⟩ := HS2.out.row
    have hc := hv.cell
    generalize canon Z = C at *
    clear hz HZ
    gi_wp2_with (gi_at_builtin; refine wpListIn_append_own _ rfl _ _ 42 rfl w.heap.size 48 i0 (.agg #[.string ⟨#[]⟩, .string ⟨#[]⟩]) 2 32 Tryz.underlying42 hi hz0 hz1 hz2 rfl (by decide) _ _ _ rfl (own_belowM hrow (below_alloc _ _)) ⟨w4.heap.size, 0, none⟩ 1 1 [.string ⟨y.1.toArray⟩, .string ⟨C.toArray⟩] rfl rfl ?c1 ?c2 ?c3 ?c4 ?c5 ?_)
    case c1 =>
      intro j u hu
      match j with
      | 0 => simp at hu; subst hu; rw [Lib.add_plain]; simp [go_sem]
      | 1 => simp at hu; subst hu; rw [Lib.add_plain]; simp [go_sem]
      | j + 2 => simp at hu
    case c2 =>
      intro u hu
      simp at hu
      rcases hu with rfl | rfl <;> rfl
    case c3 => unfold maxLen; omega
    case c4 => omega
    case c5 => have := hbc.size; simp; omega
    intro v' w5 hown' hgrow _
    obtain ⟨g', cap', rfl⟩ := ownsRow_succ hown'
    obtain ⟨hv1, hv2, hr2, hk2, hb2⟩ := hv.appended (by decide) hrow hbc.size (Nat.le_refl _) hown' hgrow
    have hc1 := hv1.cell
    have hf1 := hv1.frozen
    have hA3 := bx_far (i := 0) (u := .slice (some ⟨g', 0, none⟩) ((keepL zs).length + 1) cap') ((Boxed.alloc HA2.out _).kept hgrow (HA2.out.not_row (by decide) hrow)) n4.2.1
    have hB3 := bx_far (i := 0) (u := .slice (some ⟨g', 0, none⟩) ((keepL zs).length + 1) cap') ((Boxed.alloc HB2.out _).kept hgrow (HB2.out.not_row (by decide) hrow)) n4.2.2.1
    have HA3 := Lib.hid hA3
    have HB3 := Lib.hid hB3
    have HGO : Hid (SmAt w R1 d l (zs ++ [y]) (w5.setCell ⟨w.heap.size, 0, none⟩ (.slice (some ⟨g', 0, none⟩) ((keepL zs).length + 1) cap'))) := by
      refine ⟨hbc.trans hb2, hk2.same _ _ HS2.out.loop rfl, hk2.same _ _ HS2.out.dfr rfl, _, hv2, ?_⟩
      have e1 : (keepL (zs ++ [y])).length = (keepL zs).length + 1 := by rw [HK.out, List.length_append]; rfl
      have e2 : rowsM (keepL (zs ++ [y])) = rowsM (keepL zs) ++ [.string ⟨y.1.toArray⟩, .string ⟨C.toArray⟩] := by rw [HK.out, rowsM_app]; rfl
      rw [e1, e2]; exact hr2
    clear hown' hgrow hv1 hv2 hr2 hk2 hb2 hv hrow hc HS2 HA2 HB2 hA3 hB3 HK
    gi_wp2
    exact ⟨_, _, run_endRound (P := Tryz.prog) none HGO.out.loop, rfl, SmAt.done (HRe.out.trans HHR.out) n1 HGO.out, (World.putObj_heap_other n4.2.2.2.2.2.1).trans HA3.out, (World.putObj_heap_other n4.2.2.2.2.2.2).trans HB3.out⟩
  have key := both1_in (5 - 1) l ab bb w.heap.size xs ys 2000 w (SmAt w R d l) (fun zs W h => h.below) (fun zs W W' h hb => h.mono hb) (fun zs W W' b cs t h hb ht hn hw hg => h.grown hb ht hn hw hg) (fun zs W h => by obtain ⟨v, h1, -⟩ := h.row; exact h1.lt) n4.2.1 n4.2.2.1 n4.2.2.2.1 n4.2.2.2.2.1 hY n4.1 HNs.out A B n c n' c' ⟨HX.out.len, HX.out.str, HX.out.mem⟩ ⟨HYs.out.len, HYs.out.str, HYs.out.mem⟩ hc hc' hn63 W1 hS0 xa xb
  refine key.mono ?_
  rintro e W2 ⟨hv, hS2⟩
  refine ⟨hv, hS2.loop, ?_⟩
  have hS3 : SmAt w { R with state := .exhausted } d l (bothL xs ys) (W2.putObj l (.loop { R with state := .exhausted })) := SmAt.done rfl n1 hS2
  obtain ⟨W3, hW3⟩ : ∃ W3, W3 = W2.putObj l (.loop { R with state := .exhausted }) := ⟨_, rfl⟩
  rw [← hW3] at hS3 ⊢
  obtain ⟨v, hv, hrow⟩ := hS3.row
  have q0 := hv.cell
  have hD5 := hS3.dfr
  have hb5 := hS3.below
  have hrow2 : W3.ownsRow w.heap.size 48 2 v (smL xs ys).length (rowsM (smL xs ys)) := hrow
  obtain ⟨Bv, cv, rfl, hcv, -⟩ := own_mon hrow2 rfl
  have HR := Lib.hid (ownsRow_putObj hrow2 (.deferred none) hD5 rfl)
  have hsl : (smL xs ys).length ≤ 2000 := Nat.le_trans (smL_len xs ys) HNs.out
  clear hW3 hS3 key hY hS2 hS0 hrow hrow2 HX HYs xa xb
  have HVV := Lib.hid (show (16 < (smL xs ys).length → smR xs ys = [] ∧ smE xs ys = 4) ∧ (¬ 16 < (smL xs ys).length → smR xs ys = smL xs ys ∧ smE xs ys = 0) from ⟨fun g => ⟨if_pos g, if_pos g⟩, fun g => ⟨if_neg g, if_neg g⟩⟩)
  obtain ⟨M, hM⟩ : ∃ M, M = (smL xs ys).length := ⟨_, rfl⟩
  rw [← hM] at HVV hsl HR q0 hcv
  have HMM := Lib.hid hM.symm
  clear hM
  by_cases g16 : 16 < M
  · have e1 : decide (16 < M) = true := decide_eq_true g16
    have e2 : decide ((16 : Int) < (M : Int)) = true := decide_eq_true (by omega)
    have HV : Hid (smR xs ys = [] ∧ smE xs ys = 4) := HVV.out.1 g16
    clear g16
    gi_wp2
    refine ⟨by simp, .inl ⟨_, _, rfl, run_takeDeferred hD5, ?_⟩⟩
    refine ⟨_, results_tmp2 rfl _ _ _, none, 0, 0, ?_, ?_, Nat.le_refl _, ?_, below_putM hb5 n3.1⟩
    · rw [HV.out.2]; rfl
    · rw [HV.out.1]; rfl
    · rw [HV.out.1]; exact mon_nil _ _
  · have e1 : decide (16 < M) = false := decide_eq_false g16
    have e2 : decide ((16 : Int) < (M : Int)) = false := decide_eq_false (by omega)
    have HV : Hid (smR xs ys = smL xs ys ∧ smE xs ys = 0) := HVV.out.2 g16
    obtain ⟨Bw, cw, hBw, hcw, hmw⟩ := own_mon HR.out HMM.out
    injection hBw with b1 b2 b3
    subst b1 b3
    have HM := Lib.hid hmw
    clear g16 hmw HR
    gi_wp2
    refine ⟨by simp, .inl ⟨_, _, rfl, run_takeDeferred hD5, ?_⟩⟩
    refine ⟨_, results_tmp2 rfl _ _ _, Bv, _, cv, ?_, ?_, hcw, ?_, below_putM hb5 n3.1⟩
    · rw [HV.out.2]; rfl
    · rw [HV.out.1]; exact HMM.out
    · rw [HV.out.1]; exact HM.out

end Go.Proofs.YtgnppdkeiihlfaaGreatDoor
namespace Go.Proofs.YtgnppdkeiihlfaaGreatDoor
open Num
/-! Decimal texts. -/
theorem index46_none : ∀ a : List UInt8, 46 ∉ a → Lib.index a [46] = -1
  | [], _ => rfl
  | x :: a, h => by
    have h1 : ¬ (46 = x) := fun e => h (by rw [e]; exact List.mem_cons_self)
    have ih := index46_none a (fun e => h (List.mem_cons_of_mem _ e))
    unfold Lib.index
    simp [h1, ih]
theorem index46_at : ∀ a b : List UInt8, 46 ∉ a → Lib.index (a ++ 46 :: b) [46] = (a.length : Int)
  | [], b, _ => by unfold Lib.index; simp
  | x :: a, b, h => by
    have h1 : ¬ (46 = x) := fun e => h (by rw [e]; exact List.mem_cons_self)
    have ih := index46_at a b (fun e => h (List.mem_cons_of_mem _ e))
    rw [List.cons_append]
    unfold Lib.index
    rw [ih]
    have h2 : ((a.length : Int) == -1) = false := by rw [beq_eq_false_iff_ne]; omega
    simp [h1, h2]
theorem cut46_none {a : List UInt8} (h : 46 ∉ a) : Lib.cut a [46] = (a, [], false) := by
  unfold Lib.cut; rw [index46_none a h, if_neg (by decide)]
theorem cut46_at {a : List UInt8} (b : List UInt8) (h : 46 ∉ a) : Lib.cut (a ++ 46 :: b) [46] = (a, b, true) := by
  unfold Lib.cut; rw [index46_at a b h, if_pos (by omega), Int.toNat_natCast]
  simp
theorem point_cases : ∀ s : List UInt8, 46 ∉ s ∨ ∃ a b, 46 ∉ a ∧ s = a ++ 46 :: b
  | [] => .inl (by simp)
  | x :: s => by
    by_cases h : x = 46
    · exact .inr ⟨[], s, by simp, by rw [h]; rfl⟩
    · rcases point_cases s with h1 | ⟨a, b, h1, h2⟩
      · exact .inl (by simp; exact ⟨fun e => h e.symm, h1⟩)
      · exact .inr ⟨x :: a, b, by simp; exact ⟨fun e => h e.symm, h1⟩, by rw [h2]; rfl⟩
/-- a text without a point, or with one -/
theorem cut46_cases (s : List UInt8) : (46 ∉ s ∧ Lib.cut s [46] = (s, [], false)) ∨ ∃ a b, 46 ∉ a ∧ s = a ++ 46 :: b ∧ Lib.cut s [46] = (a, b, true) := by
  rcases point_cases s with h | ⟨a, b, h, rfl⟩
  · exact .inl ⟨h, cut46_none h⟩
  · exact .inr ⟨a, b, h, rfl, cut46_at b h⟩
def isD (l : List UInt8) : Bool := !l.isEmpty && l.all isDig
def okW (l : List UInt8) : Bool := isD l && !(decide (1 < l.length) && (l.head? == some 48))
def decW (s : List UInt8) : List UInt8 := (Lib.cut (rest s) [46]).1
def decP (s : List UInt8) : List UInt8 := (Lib.cut (rest s) [46]).2.1
def decB (s : List UInt8) : Bool := (Lib.cut (rest s) [46]).2.2
def decN' (s : List UInt8) : Nat := nat (decW s ++ decP s)
def decZ (s : List UInt8) : Int := if isNeg s then -(decN' s : Int) else (decN' s : Int)
def decOk (s : List UInt8) : Bool := okW (decW s) && (!decB s || isD (decP s)) && !(isNeg s && decN' s == 0)
theorem isD_iff (l : List UInt8) : isD l = true ↔ l ≠ [] ∧ l.all isDig = true := by
  unfold isD; cases l <;> simp
theorem no46 {l : List UInt8} (h : l.all isDig = true) : 46 ∉ l := fun hm => by
  have := List.all_eq_true.1 h 46 hm
  exact absurd this (by decide)
theorem no45_head {l : List UInt8} (h : l.all isDig = true) : isNeg l = false := by
  cases l with
  | nil => rfl
  | cons a t =>
    have : isDig a = true := by simp at h; exact h.1
    unfold isNeg
    rw [beq_eq_false_iff_ne]
    intro e
    simp at e
    rw [e] at this
    exact absurd this (by decide)
theorem head48_sig {l : List UInt8} (h : l.head? ≠ some 48) : sig l = l := by
  cases l with
  | nil => rfl
  | cons a t =>
    unfold sig
    rw [List.dropWhile_cons_of_neg]
    simp at h ⊢; exact h
/-- the whole part is the text of its number -/
theorem okW_fmt {l : List UInt8} (h : okW l = true) : l = fmt (nat l) ∧ l ≠ [] ∧ l.all isDig = true := by
  unfold okW at h
  simp only [Bool.and_eq_true, Bool.not_eq_true'] at h
  obtain ⟨h1, h2⟩ := h
  obtain ⟨hn, hd⟩ := (isD_iff l).1 h1
  refine ⟨?_, hn, hd⟩
  cases l with
  | nil => exact absurd rfl hn
  | cons a t =>
    by_cases ha : a = 48
    · subst ha
      cases t with
      | nil => decide
      | cons b u => simp at h2
    · have hs : sig (a :: t) = a :: t := head48_sig (by simpa using ha)
      have := dec_nat (a :: t) hd
      unfold fmt
      rw [if_neg, this, hs]
      intro h0
      rw [h0, dec_zero, hs] at this
      exact absurd this (by simp)
def zpad (k : Nat) (l : List UInt8) : List UInt8 := List.replicate (k - l.length) 48 ++ l
theorem zpad_len (k : Nat) (l : List UInt8) : (zpad k l).length = max k l.length := by unfold zpad; simp; omega
theorem nat_zeros : ∀ k, nat (List.replicate k 48) = 0
  | 0 => rfl
  | k + 1 => by rw [List.replicate_succ, nat_cons, nat_zeros k]; simp
def tW (a p : Nat) : List UInt8 := (zpad (p + 1) (dec a)).take ((zpad (p + 1) (dec a)).length - p)
def tP (a p : Nat) : List UInt8 := (zpad (p + 1) (dec a)).drop ((zpad (p + 1) (dec a)).length - p)
def sgnT (z : Int) : List UInt8 := if z < 0 then [45] else []
def textD (z : Int) (p : Nat) : List UInt8 := sgnT z ++ (tW z.natAbs p ++ if p = 0 then [] else 46 :: tP z.natAbs p)
theorem tP_len (a p : Nat) : (tP a p).length = p := by unfold tP; rw [List.length_drop, zpad_len]; omega
theorem tW_len (a p : Nat) : (tW a p).length = max (p + 1) (dec a).length - p := by unfold tW; rw [List.length_take, zpad_len]; omega
theorem textD_len (z : Int) (p : Nat) : (textD z p).length ≤ (dec z.natAbs).length + p + 3 := by
  have h1 := tW_len z.natAbs p
  have h2 := tP_len z.natAbs p
  unfold textD sgnT
  split <;> split <;> simp <;> omega
/-! Without the zeros at the end. -/
def strip (l : List UInt8) : List UInt8 := (l.reverse.dropWhile (· == 48)).reverse
/-! The text without zeros behind the point. -/
def trimT (s : List UInt8) : List UInt8 := if 46 ∈ s then (if (strip s).getLast? = some 46 then (strip s).dropLast else strip s) else s
def tail0 (P : List UInt8) : List UInt8 := if strip P = [] then [] else 46 :: strip P
theorem strip_app (a : List UInt8) {b : List UInt8} (h : strip b ≠ []) : strip (a ++ b) = a ++ strip b := by
  have e : ∀ (x y : List UInt8), x.dropWhile (· == 48) ≠ [] → (x ++ y).dropWhile (· == 48) = x.dropWhile (· == 48) ++ y := by
    intro x y hx
    induction x with
    | nil => exact absurd rfl hx
    | cons c x ih =>
      by_cases hc : (c == 48) = true
      · rw [List.cons_append, List.dropWhile_cons_of_pos (p := fun x : UInt8 => x == 48) hc, List.dropWhile_cons_of_pos (p := fun x : UInt8 => x == 48) hc]
        rw [List.dropWhile_cons_of_pos (p := fun x : UInt8 => x == 48) hc] at hx
        exact ih hx
      · rw [List.cons_append, List.dropWhile_cons_of_neg (p := fun x : UInt8 => x == 48) hc, List.dropWhile_cons_of_neg (p := fun x : UInt8 => x == 48) hc]; rfl
  unfold strip at *
  rw [List.reverse_append, e _ _ (fun h0 => h (by rw [h0]; rfl)), List.reverse_append, List.reverse_reverse]
theorem strip_nil_app (a : List UInt8) {b : List UInt8} (h : strip b = []) : strip (a ++ b) = strip a := by
  have e : ∀ (x y : List UInt8), x.dropWhile (· == 48) = [] → (x ++ y).dropWhile (· == 48) = y.dropWhile (· == 48) := by
    intro x y hx
    induction x with
    | nil => rfl
    | cons c x ih =>
      by_cases hc : (c == 48) = true
      · rw [List.cons_append, List.dropWhile_cons_of_pos (p := fun x : UInt8 => x == 48) hc]
        rw [List.dropWhile_cons_of_pos (p := fun x : UInt8 => x == 48) hc] at hx
        exact ih hx
      · rw [List.dropWhile_cons_of_neg (p := fun x : UInt8 => x == 48) hc] at hx; cases hx
  unfold strip at *
  rw [List.reverse_append, e _ _ (by simpa using h)]
theorem strip_last {l : List UInt8} (hd : l.all isDig = true) : (strip l).getLast? ≠ some 46 := by
  intro e
  have h1 : 46 ∈ strip l := List.mem_of_getLast? e
  have h2 : 46 ∈ l := by
    unfold strip at h1
    rw [List.mem_reverse] at h1
    have := (List.dropWhile_sublist _).subset h1
    rwa [List.mem_reverse] at this
  exact no46 hd h2
theorem trimT_point (a : List UInt8) {P : List UInt8} (hP : P.all isDig = true) : trimT (a ++ 46 :: P) = a ++ tail0 P := by
  unfold trimT tail0
  rw [if_pos (by simp)]
  by_cases h : strip P = []
  · have e : strip (a ++ 46 :: P) = a ++ [46] := by
      rw [show a ++ 46 :: P = (a ++ [46]) ++ P by simp, strip_nil_app _ h, strip_app a (b := [46]) (by decide)]; rfl
    rw [e, if_pos h, if_pos (by simp)]
    simp
  · have e : strip (a ++ 46 :: P) = a ++ 46 :: strip P := by
      rw [show a ++ 46 :: P = (a ++ [46]) ++ P by simp, strip_app _ h]; simp
    rw [e, if_neg h, if_neg]
    have := strip_last hP
    rw [List.getLast?_append, List.getLast?_cons]
    cases hl : (strip P).getLast? with
    | none => rw [List.getLast?_eq_none_iff] at hl; exact absurd hl h
    | some y => rw [hl] at this; simpa using this
theorem trimT_plain {a : List UInt8} (h : 46 ∉ a) : trimT a = a := by unfold trimT; rw [if_neg h]
theorem sgn_rest (s : List UInt8) : s = (if isNeg s then [45] else []) ++ rest s := by
  unfold rest
  by_cases h : isNeg s = true
  · rw [if_pos h, if_pos h]
    cases s with
    | nil => exact absurd h (by decide)
    | cons a t =>
      unfold isNeg at h
      have : a = 45 := by simpa using h
      rw [this]; rfl
  · rw [if_neg h, if_neg h]; rfl
theorem decOk_parts {s : List UInt8} (h : decOk s = true) : okW (decW s) = true ∧ (decP s).all isDig = true ∧ (isNeg s = true → decN' s ≠ 0) ∧ trimT s = (if isNeg s then [45] else []) ++ (decW s ++ tail0 (decP s)) := by
  unfold decOk at h
  simp only [Bool.and_eq_true, Bool.not_eq_true', Bool.or_eq_true] at h
  obtain ⟨⟨h1, h2⟩, h3⟩ := h
  have hs := sgn_rest s
  have hsg : 46 ∉ (if isNeg s then [45] else [] : List UInt8) := by split <;> decide
  have hn : isNeg s = true → decN' s ≠ 0 := by
    intro hg h0
    rw [hg, h0] at h3
    exact absurd h3 (by decide)
  have hWd := (okW_fmt h1).2.2
  rcases cut46_cases (rest s) with ⟨hno, hc⟩ | ⟨a, b, hno, he, hc⟩
  · have eW : decW s = rest s := by unfold decW; rw [hc]
    have eP : decP s = [] := by unfold decP; rw [hc]
    refine ⟨h1, by rw [eP]; rfl, hn, ?_⟩
    rw [eP, eW]
    have : trimT s = s := trimT_plain (by rw [hs]; simp only [List.mem_append, not_or]; exact ⟨hsg, hno⟩)
    rw [this]
    conv => lhs; rw [hs]
    simp [tail0, strip]
  · have eW : decW s = a := by unfold decW; rw [hc]
    have eP : decP s = b := by unfold decP; rw [hc]
    have eB : decB s = true := by unfold decB; rw [hc]
    have hb : b.all isDig = true := by
      rw [eP, eB] at h2
      rcases h2 with h2 | h2
      · cases h2
      · exact ((isD_iff b).1 h2).2
    refine ⟨h1, by rw [eP]; exact hb, hn, ?_⟩
    rw [eP, eW]
    conv => lhs; rw [hs, he, ← List.append_assoc]
    rw [trimT_point _ hb, List.append_assoc]
/-! How often 2 and 5 divide. -/
def tenQ (p : Nat) : Rat := ((10 ^ p : Nat) : Int)
end Go.Proofs.YtgnppdkeiihlfaaGreatDoor
namespace Go.Proofs.YtgnppdkeiihlfaaGreatDoor
open Go.RowKit Num
section
variable {l l' : List UInt8}
theorem riNeg (hl : l.length ≤ 100000000) {z : Int} (e : -val l = z) : Ret 23 #[.string ⟨l.toArray⟩] (.string ⟨(canon z).toArray⟩) := fun w hG => by
  subst e; exact neg_any l w hl hG
theorem riCanonical (hl : l.length ≤ 1000000) {z : Int} (e : val l = z) : Ret 65 #[.string ⟨l.toArray⟩] (.string ⟨(canon z).toArray⟩) := fun w _ => by
  subst e; exact canonical_any l w hl
theorem riPower (hl : l.length ≤ 100000) {n : Nat} (hn : n ≤ 400) {z : Int} (e : val l ^ n = z) : Ret 176 #[.string ⟨l.toArray⟩, .int .i64 (n : Int)] (.tuple #[.string ⟨(canon z).toArray⟩, .int .i64 0]) := fun w hG => by
  subst e; exact ipower_any l n w hl hn hG
end
theorem str_nil {z : Int} (h : z = 0) : (canon z == []) = true ∧ (canon z).isEmpty = true := by rw [h]; decide
theorem str_ne {z : Int} (h : z ≠ 0) : (canon z == []) = false ∧ (canon z).isEmpty = false := by
  have : canon z ≠ [] := fun e => h ((canon_eq_nil z).1 e)
  exact ⟨by rw [beq_eq_false_iff_ne]; exact this, by rw [List.isEmpty_eq_false_iff]; exact this⟩
theorem canon_len_of {z : Int} {k : Nat} (h : z.natAbs < 10 ^ k) {n : Nat} (hn : k + 1 ≤ n) : (canon z).length ≤ n := Nat.le_trans (canon_len_le _ _ h) hn
end Go.Proofs.YtgnppdkeiihlfaaGreatDoor
namespace Go.Proofs.YtgnppdkeiihlfaaGreatDoor
open Go.RowKit Num
def sumV (xs ys : List Mon) : List Mon × Int := if ¬ bagE xs = 0 then ([], 1) else if ¬ bagE ys = 0 then ([], 1) else (smR xs ys, smE xs ys)
theorem mCheckB {w : World} {A : Option Addr} {xs : List Mon} {n : Nat} (hG : Glob w) (h : ML w A xs n) (c : Nat) : RetB w 79 #[.slice A n c] (.int .i64 (bagE xs)) := fun w' hb => mCheck A xs n c w' (hG.below hb) (h.below hb)
theorem monEnd_no {V : List Mon × Int} {z : Int} {w w' : World} (h : V = ([], z)) (hb : Below w.heap.size w w') : MonEnd V.1 V.2 w (.returned (.tuple #[.slice none 0 0, .int .i64 z])) w' :=
  ⟨none, 0, 0, by rw [h], by rw [h]; rfl, Nat.le_refl _, by rw [h]; exact mon_nil _ _, hb⟩
set_option maxHeartbeats 4000000 in
set_option maxRecDepth 100000 in
theorem mSum (A B : Option Addr) (xs ys : List Mon) (n c n' c' : Nat) (w : World) (hG : Glob w) (hX : ML w A xs n) (hc : n ≤ c) (hY : ML w B ys n') (hc' : n' ≤ c') :
    Calls Tryz.prog 106 #[.slice A n c, .slice B n' c'] w (MonEnd (sumV xs ys).1 (sumV xs ys).2 w) := by
  have CB := Lib.hid (mCheckB hG hX c)
  have CC := Lib.hid (mCheckB hG hY c')
  have HX := Lib.hid hX
  have HY := Lib.hid hY
  have hb := Below.refl w.heap.size w
  clear hX hY
  by_cases g0 : bagE xs = 0
  rotate_left
  · have HV : Hid (sumV xs ys = ([], 1)) := if_pos g0
    have e1 : (bagE xs != 0) = true := bneq' (intbne g0)
    generalize bagE xs = E at *
    clear g0 CC
    go_enter Tryz.func106, Tryz.ntmps106
    go_wp2_with fail
    ((with_reducible refine (CB.out.of hG hb).mono ?_); rintro e w2 ⟨rfl, hb2⟩)
    replace hb := bto hb hb2
    clear hb2
    clear CB
    go_wp2
    go_ret2
    exact monEnd_no HV.out hb
  have HV0 : Hid (sumV xs ys = if ¬ bagE ys = 0 then ([], 1) else (smR xs ys, smE xs ys)) := if_neg (fun h => h g0)
  rw [g0] at CB
  clear g0
  by_cases g1 : bagE ys = 0
  rotate_left
  · have HV : Hid (sumV xs ys = ([], 1)) := HV0.out.trans (if_pos g1)
    have e1 : (bagE ys != 0) = true := bneq' (intbne g1)
    generalize bagE ys = E at *
    clear g1 HV0
    go_enter Tryz.func106, Tryz.ntmps106
    go_wp2_with fail
    ((with_reducible refine (CB.out.of hG hb).mono ?_); rintro e w2 ⟨rfl, hb2⟩)
    replace hb := bto hb hb2
    clear hb2
    clear CB
    go_wp2_with fail
    ((with_reducible refine (CC.out.of hG hb).mono ?_); rintro e w3 ⟨rfl, hb3⟩)
    replace hb := bto hb hb3
    clear hb3
    clear CC
    go_wp2
    go_ret2
    exact monEnd_no HV.out hb
  have HV : Hid (sumV xs ys = (smR xs ys, smE xs ys)) := HV0.out.trans (if_neg (fun h => h g1))
  rw [g1] at CC
  clear g1 HV0
  go_enter Tryz.func106, Tryz.ntmps106
  go_wp2_with fail
  ((with_reducible refine (CB.out.of hG hb).mono ?_); rintro e w2 ⟨rfl, hb2⟩)
  replace hb := bto hb hb2
  clear hb2
  clear CB
  go_wp2_with fail
  ((with_reducible refine (CC.out.of hG hb).mono ?_); rintro e w3 ⟨rfl, hb3⟩)
  replace hb := bto hb hb3
  clear hb3
  clear CC
  have CS := Lib.hid (msum A B xs ys n c n' c' w3 (hG.below hb) (HX.out.below hb) hc (HY.out.below hb) hc')
  go_wp2_with fail
  refine CS.out.mono ?_
  rintro e w5 ⟨B', k, cp, rfl, k1, k2, k3, hb5⟩
  have HK1 := Lib.hid k1
  have HK3 := Lib.hid k3
  clear CS k1 k3
  go_wp2
  go_ret2
  exact ⟨B', k, cp, by rw [HV.out]; rfl, by rw [HV.out]; exact HK1.out, k2, by rw [HV.out]; exact HK3.out, bto hb hb5⟩

end Go.Proofs.YtgnppdkeiihlfaaGreatDoor
namespace Go.Proofs.YtgnppdkeiihlfaaGreatDoor
open Go.RowKit Num
open Go.Op (bytesLess)
end Go.Proofs.YtgnppdkeiihlfaaGreatDoor
namespace Go.Proofs.YtgnppdkeiihlfaaGreatDoor
open Go.RowKit Num
end Go.Proofs.YtgnppdkeiihlfaaGreatDoor
namespace Go.Proofs.YtgnppdkeiihlfaaGreatDoor
open Go.RowKit Num
theorem isDig_iff (c : UInt8) : isDig c = true ↔ 48 ≤ c.toNat ∧ c.toNat ≤ 57 := by simp [isDig]

set_option maxHeartbeats 1000000 in
set_option maxRecDepth 100000 in
theorem dDigits {l : List UInt8} (hl : l.length ≤ 1000000) : Ret 263 #[.string ⟨l.toArray⟩] (.bool (isD l)) := fun w hG => by
  have hb := Below.refl w.heap.size w
  have HN : Hid (l.all isDig = false → isD l = false) := by intro h; unfold isD; rw [h, Bool.and_false]
  go_enter Tryz.func263, Tryz.ntmps263
  go_wp2_with fail
  go_loop [6] (fun iv => ∃ k : Nat, k ≤ l.length ∧ iv = .int .i64 (k : Int) ∧ Hid ((l.take k).all isDig = true)) (fun iv => l.length - (intOf iv).toNat)
  case atStart => exact ⟨0, Nat.zero_le _, rfl, rfl⟩
  case round =>
    obtain ⟨k, hk, rfl, HK⟩ := hrel
    by_cases hlt : k < l.length
    · have hlt' : k < (⟨l.toArray⟩ : ByteArray).size := by show k < l.toArray.size; simpa using hlt
      obtain ⟨x, hx⟩ : ∃ x, x = (⟨l.toArray⟩ : ByteArray)[k] := ⟨_, rfl⟩
      have hxl : l[k]? = some x := by rw [hx]; simp [hlt]; rfl
      have HX := Lib.hid hxl
      clear hxl
      have hx2 : ∀ hp, (⟨l.toArray⟩ : ByteArray)[k]'hp = x := fun _ => hx.symm
      clear hx
      by_cases d1 : (x.toNat : Int) < 48
      · have ed1 : decide ((x.toNat : Int) < 48) = true := decide_eq_true d1
        go_wp2
        go_ret
        exact ⟨retb (HN.out (all_no' HX.out (not_true_b (fun h => by have := (isDig_iff _).1 h; omega)))).symm, hb⟩
      · have ed1 : decide ((x.toNat : Int) < 48) = false := decide_eq_false d1
        by_cases d2 : 57 < (x.toNat : Int)
        · have ed2 : decide (57 < (x.toNat : Int)) = true := decide_eq_true d2
          go_wp2
          go_ret
          exact ⟨retb (HN.out (all_no' HX.out (not_true_b (fun h => by have := (isDig_iff _).1 h; omega)))).symm, hb⟩
        · have ed2 : decide (57 < (x.toNat : Int)) = false := decide_eq_false d2
          go_wp2
          go_round
          case rel => exact ⟨k + 1, by omega, by go_num, all_snoc' HK.out HX.out ((isDig_iff _).2 (by omega))⟩
          case measure => simp [intOf]; omega
    · have HK' : Hid (l.all isDig = true) := by have := HK.out; rw [List.take_of_length_le (by omega)] at this; exact this
      clear HK
      by_cases h0 : l = []
      · have e0 : (l == []) = true := by rw [beq_iff_eq]; exact h0
        have e1 : l.isEmpty = true := by rw [List.isEmpty_iff]; exact h0
        have HV : Hid (isD l = false) := by show _ = _; rw [h0]; rfl
        clear h0
        go_wp2
        go_ret
        exact ⟨retb HV.out.symm, hb⟩
      · have e0 : (l == []) = false := by rw [beq_eq_false_iff_ne]; exact h0
        have e1 : l.isEmpty = false := by rw [List.isEmpty_eq_false_iff]; exact h0
        have HV := Lib.hid ((isD_iff l).2 ⟨h0, HK'.out⟩)
        clear h0
        go_wp2
        go_ret
        exact ⟨retb HV.out.symm, hb⟩
set_option maxHeartbeats 1000000 in
set_option maxRecDepth 100000 in
theorem dPlaces {n : Int} (h0 : 0 ≤ n) (h12 : n ≤ 12) : Ret 218 #[.int .i64 n] (.int .i64 0) := fun w hG => by
  have hb := Below.refl w.heap.size w
  have e1 : decide (n < 0) = false := decide_eq_false (by omega)
  have e2 : decide (12 < n) = false := decide_eq_false (by omega)
  go_enter Tryz.func218, Tryz.ntmps218
  go_wp2
  go_ret
  exact ⟨rfl, hb⟩
theorem ten_val (p : Nat) : val [49, 48] ^ p = ((10 ^ p : Nat) : Int) := by
  have : val [49, 48] = ((10 : Nat) : Int) := by decide
  rw [this, ← Int.natCast_pow]
theorem tenQ_int (p : Nat) : tenQ p = (((10 ^ p : Nat) : Int) : Rat) := rfl
theorem bd_ten (p : Nat) : Bd (p + 1) (tenQ p) := bd_int (by rw [Int.natAbs_natCast]; exact Nat.pow_lt_pow_right (by decide) (by omega)) (by omega)
set_option maxHeartbeats 2000000 in
set_option maxRecDepth 100000 in
theorem dShift {l l' : List UInt8} {q : Rat} (h : IsQ l l' q) {p : Nat} (hp : p ≤ 12) {r : Rat} (e : q * tenQ p = r) : Ret 220 #[(Value.agg #[Value.string ⟨List.toArray l⟩, Value.string ⟨List.toArray l'⟩]), .int .i64 (p : Int)] (Value.agg #[Value.string ⟨List.toArray (fN r)⟩, Value.string ⟨List.toArray (fD r)⟩]) := fun w hG => by
  have c1 := riPower (l := [49, 48]) (by decide) (n := p) (by omega) (ten_val p)
  have hlen : ((10 ^ p : Nat) : Int).natAbs < 10 ^ (p + 1) := by rw [Int.natAbs_natCast]; exact Nat.pow_lt_pow_right (by decide) (by omega)
  have c2 := rOf (l := canon ((10 ^ p : Nat) : Int)) (canon_len_of hlen (by omega)) (val_canon _)
  rw [← tenQ_int] at c2
  have c3 := rMul h (isq_fr (bd_ten p) (by omega)) e
  generalize fN (tenQ p) = M at *
  generalize fD (tenQ p) = E at *
  generalize canon ((10 ^ p : Nat) : Int) = T at *
  generalize fN r = N at *
  generalize fD r = D at *
  have C1 := Lib.hid c1
  have C2 := Lib.hid c2
  have C3 := Lib.hid c3
  have x2 := (FBox.new w (.string ⟨l.toArray⟩) (.string ⟨l'.toArray⟩) 25)
  have hb0 := below_alloc w (.cells #[.string ⟨l.toArray⟩, .string ⟨l'.toArray⟩] 25)
  have hsz : (w.alloc (.cells #[.string ⟨l.toArray⟩, .string ⟨l'.toArray⟩] 25)).heap.size = w.heap.size + 1 := World.size_alloc _ _
  have hlt := x2.lt
  obtain ⟨w0, hw0⟩ : ∃ w0, w0 = w.alloc (.cells #[.string ⟨l.toArray⟩, .string ⟨l'.toArray⟩] 25) := ⟨_, rfl⟩
  rw [← hw0] at x2 hb0 hsz hlt
  have hb1 := below_alloc w0 (.cells #[.string ⟨#[]⟩, .string ⟨#[]⟩] 25)
  have hbx := heap_alloc_new w0 (.cells #[.string ⟨#[]⟩, .string ⟨#[]⟩] 25)
  have HW := Lib.hid hw0
  have hsz2 : w.heap.size + 1 = w0.heap.size := hsz.symm
  clear c1 c2 c3 e hlen hsz h hw0
  go_enter Tryz.func220, Tryz.ntmps220
  go_wp2_with fail
  rw [← HW.out]
  ((with_reducible refine (C1.out.of hG (bto hb0 hb1)).mono ?_); rintro e w1 ⟨rfl, hb2⟩)
  have hbr : w1.heap[w0.heap.size]? = some (.cells #[.string ⟨#[]⟩, .string ⟨#[]⟩] 25 (0, 0)) := (hb2.block _ (by rw [World.size_alloc]; omega)).trans hbx
  replace hb1 := bto hb1 hb2
  clear hb2 hbx
  go_wp2_with fail
  (try rw [hsz2])
  refine wp_region_kept_at 5 w0.heap.size 4 _ (by kernel_rfl) (by kernel_rfl) (by decide) hb1 (Nat.le_refl _) hbr rfl ?_
  simp only [Act.put, List.setIfInBounds_toArray, List.set_cons_zero, List.set_cons_succ]
  clear hbr hsz2
  refine kept_val _ (fun _ => rfl) (fun ρ w hw => by have q0 := (x2.below hw).c0; have q1 := (x2.below hw).c1; go_simp; first | done | with_reducible rfl) ?_
  simp only [Act.put, List.setIfInBounds_toArray, List.set_cons_zero, List.set_cons_succ, Nat.reduceAdd]
  refine kept_val _ (fun _ => rfl) (fun ρ w hw => by go_simp; first | done | with_reducible rfl) ?_
  simp only [Act.put, List.setIfInBounds_toArray, List.set_cons_zero, List.set_cons_succ, Nat.reduceAdd]
  refine kept_call _ _ _ (fun _ => rfl) (fun ρ w hw => by go_simp; first | done | with_reducible rfl) (fun w hw => C2.out.of hG (bto hb0 hw)) ?_
  simp only [Act.put, List.setIfInBounds_toArray, List.set_cons_zero, List.set_cons_succ, Nat.reduceAdd]
  refine kept_call _ _ _ (fun _ => rfl) (fun ρ w hw => by go_simp; first | done | with_reducible rfl) (fun w hw => C3.out.of hG (bto hb0 hw)) ?_
  simp only [Act.put, List.setIfInBounds_toArray, List.set_cons_zero, List.set_cons_succ, Nat.reduceAdd]
  refine kept_putK 5 _ _ _ _ _ rfl rfl (fun _ => rfl) (fun ρ w hw q0 q1 q2 q3 => by go_simp; first | done | with_reducible rfl) ?_
  simp only [Act.put, Nat.reduceAdd]
  refine kept_end (fun ρ w3 hF => ?_)
  have hb := bto hb0 hF.below
  have x4 := FBox.ofB (hF.box 5 _ _ rfl).2
  generalize ρ 5 = b4 at *
  clear hF
  have d0 := x4.c0
  have d1 := x4.c1
  go_wp2
  refine bodyPost_ret (v := .agg #[.string ⟨N.toArray⟩, .string ⟨D.toArray⟩]) (by simp [results, Tryz.results220, go_sem, d0, d1]) rfl ?_
  exact ⟨rfl, hb⟩
end Go.Proofs.YtgnppdkeiihlfaaGreatDoor
namespace Go.Proofs.YtgnppdkeiihlfaaGreatDoor
open Go.RowKit Num
theorem wbyte_c (c : UInt8) (B b : Nat) (bs : List UInt8) (w : World) (h : Bld B b bs w) (hlen : bs.length ≤ 100000000000) (hBw : B ≤ w.heap.size) :
    Calls Tryz.prog 138 #[.pointer (some ⟨b, 0, none⟩), .int .u8 (c.toNat : Int)] w fun e w' => e = .returned .nilIface ∧ Bld B b (bs ++ [c]) w' ∧ Below B w w' := by
  refine (Tryz.Builder_WriteByte B b (Lib.byteCells bs) (c.toNat : Int) w h (by rw [Lib.byteCells_length]; omega) hBw).mono ?_
  rintro e w' ⟨rfl, h1, h2⟩
  refine ⟨rfl, .inr ?_, h2⟩
  have : Lib.byteCells (bs ++ [c]) = Lib.byteCells bs ++ [.int .u8 (c.toNat : Int)] := by simp [Lib.byteCells]
  rw [this]; exact h1
theorem rRepeat (z : Int) (c : Nat) (hz : z = c) (hc : c ≤ 1000) : Ret 141 #[.string ⟨#[48]⟩, .int .i64 z] (.string ⟨(List.replicate c (48 : UInt8)).toArray⟩) := fun w _ => repeat_int z c w hz hc
set_option maxHeartbeats 1000000 in
set_option maxRecDepth 100000 in
theorem hPre_lite (l : List UInt8) (hl : l.length ≤ 1000000) : Ret 253 #[.string ⟨l.toArray⟩, .string ⟨#[45]⟩] (.bool (isNeg l)) := fun w hG => by
  have hb := Below.refl w.heap.size w
  cases l with
  | nil =>
    go_enter Tryz.func253, Tryz.ntmps253
    go_wp2
    go_ret
    exact ⟨rfl, hb⟩
  | cons a t =>
    have ht : t.length ≤ 1000000 := by simp at hl; omega
    have k4 : (⟨(a :: t).toArray⟩ : ByteArray).extract 0 1 = ⟨#[a]⟩ := by rw [extract_list]; rfl
    have hv : isNeg (a :: t) = (a == 45) := by unfold isNeg; simp
    rw [hv]
    by_cases ha : a = 45
    · subst ha
      go_enter Tryz.func253, Tryz.ntmps253
      go_wp2
      go_ret
      exact ⟨rfl, hb⟩
    · have e1 : (a == 45) = false := by rw [beq_eq_false_iff_ne]; exact ha
      have e2 : ([a] == [45]) = false := by rw [beq_eq_false_iff_ne]; simpa using ha
      go_enter Tryz.func253, Tryz.ntmps253
      go_wp2
      go_ret
      exact ⟨by rw [e1]; first | done | rfl, hb⟩
theorem hPre (l : List UInt8) (hl : l.length ≤ 1000000) : Ret 206 #[.string ⟨l.toArray⟩, .string ⟨#[45]⟩] (.bool (isNeg l)) := fun w hG => by
  have c1 := hPre_lite l hl
  have hb := Below.refl w.heap.size w
  go_enter Tryz.func206, Tryz.ntmps206
  go_wp2_with fail
  ((with_reducible refine (c1.of hG hb).mono ?_); rintro e w2 ⟨rfl, hb2⟩)
  go_wp2
  go_ret
  exact ⟨rfl, bto hb hb2⟩
set_option maxHeartbeats 2000000 in
set_option maxRecDepth 100000 in
theorem dText_n0 {l : List UInt8} (hl : l.length ≤ 1000) {z : Int} (e : val l = z) {p : Nat} (hp : p = 0) (hp2 : p ≤ 12) (hz : z < 0) : Ret 171 #[.string ⟨l.toArray⟩, .int .i64 (p : Int)] (.tuple #[.string ⟨(textD z p).toArray⟩, .int .i64 0]) := fun w hG => by
  have c1 := dPlaces (n := (p : Int)) (by omega) (by omega)
  have c2 := riCanonical (l := l) (by omega) e
  have hcz : canon z = 45 :: dec z.natAbs := by unfold canon; rw [if_pos hz]
  have hD : (dec z.natAbs).length ≤ 1000 := Nat.le_trans (Num.dec_len_le _ _ (by rw [← e]; exact val_lt l)) hl
  have hd := dec_digs z.natAbs
  have HT : Hid (∀ Z, Z = zpad (p + 1) (dec z.natAbs) → textD z p = [45] ++ (Z.take (Z.length - p) ++ [])) := by
    rintro Z rfl; unfold textD sgnT tW tP; rw [if_pos hz, if_pos hp]
  rw [hcz] at c2
  obtain ⟨D, hDe⟩ : ∃ D, D = dec z.natAbs := ⟨_, rfl⟩
  rw [← hDe] at c2 hD hd HT
  have hneg : isNeg (45 :: D) = true := rfl
  have c3 := hPre (45 :: D) (by simp; omega)
  rw [hneg] at c3
  have hadd := str_add (List.replicate (p + 1 - D.length) 48) D (by simp; omega) (by omega)
  have c4 := rRepeat (max 0 ((p : Int) + 1 - (D.length : Int))) (p + 1 - D.length) (by omega) (by omega)
  obtain ⟨Z, hZ⟩ : ∃ Z, Z = List.replicate (p + 1 - D.length) 48 ++ D := ⟨_, rfl⟩
  rw [← hZ] at hadd
  have hZl : Z.length = max (p + 1) D.length := by rw [hZ]; exact zpad_len _ _
  have HV := Lib.hid (HT.out Z hZ)
  have hz1 : Z.length ≤ 2000 := by omega
  have hz2 : p + 1 ≤ Z.length := by omega
  have kx : (⟨Z.toArray⟩ : ByteArray).extract 0 (Z.length - p) = ⟨(Z.take (Z.length - p)).toArray⟩ := by rw [extract_list]; simp
  have ky : (⟨Z.toArray⟩ : ByteArray).extract (Z.length - p) Z.length = ⟨(Z.drop (Z.length - p)).toArray⟩ := by rw [extract_list]; simp
  have kx' : (⟨Z.toArray⟩ : ByteArray).extract 0 ((Z.length : Int) - (p : Int)).toNat = ⟨(Z.take (Z.length - p)).toArray⟩ := by rw [show ((Z.length : Int) - (p : Int)).toNat = Z.length - p by omega]; exact kx
  have ky' : (⟨Z.toArray⟩ : ByteArray).extract ((Z.length : Int) - (p : Int)).toNat Z.length = ⟨(Z.drop (Z.length - p)).toArray⟩ := by rw [show ((Z.length : Int) - (p : Int)).toNat = Z.length - p by omega]; exact ky
  have hA : (Z.take (Z.length - p)).length ≤ 2000 := by rw [List.length_take]; omega
  have hB : (Z.drop (Z.length - p)).length ≤ 2000 := by rw [List.length_drop]; omega
  generalize Z.take (Z.length - p) = ZA at *
  generalize Z.drop (Z.length - p) = ZB at *
  have k4 : (⟨(45 :: D).toArray⟩ : ByteArray).extract 1 (D.length + 1) = ⟨D.toArray⟩ := by rw [extract_list]; simp
  have k9 : ¬ 0 < p := by omega
  have e0 : decide (0 < (p : Int)) = false := decide_eq_false (by omega)
  have C1 := Lib.hid c1
  have C2 := Lib.hid c2
  have C3 := Lib.hid c3
  have C4 := Lib.hid c4
  have hb := Below.refl w.heap.size w
  clear c1 c2 c3 c4 hcz hd HT hDe hneg hZ hZl e hz hp hl
  generalize List.replicate (p + 1 - D.length) (48 : UInt8) = Rp at *
  go_enter Tryz.func171, Tryz.ntmps171
  go_wp2_with fail
  ((with_reducible refine (C1.out.of hG hb).mono ?_); rintro e w1 ⟨rfl, hb1⟩)
  replace hb := bto hb hb1
  clear hb1
  go_wp2_with fail
  ((with_reducible refine (C2.out.of hG hb).mono ?_); rintro e w2 ⟨rfl, hb2⟩)
  replace hb := bto hb hb2
  have hbd := bld_new w2
  have hw2 : w.heap.size ≤ w2.heap.size := hb.size
  have hb8 := below_alloc w2 (.cells #[.pointer none, .slice none 0 0] 161)
  have hs2 : w2.heap.size ≤ (w2.alloc (.cells #[.pointer none, .slice none 0 0] 161)).heap.size := hb8.size
  replace hb := bto hb hb8
  clear hb2 hb8
  go_wp2_with fail
  ((with_reducible refine (C3.out.of hG hb).mono ?_); rintro e w3 ⟨rfl, hb3⟩)
  replace hb := bto hb hb3
  replace hbd := hbd.below hb3
  have hs3 := Nat.le_trans hs2 hb3.size
  generalize w2.heap.size = n8 at *
  clear hb3 hs2 C1 C2 C3
  go_wp2_with fail
  (refine (wbyte_c 45 _ _ _ _ hbd (by simp) hs3).mono ?_; rintro e w4 ⟨rfl, hbd4, hb4⟩)
  replace hbd := hbd4
  replace hb := hb.trans (hb4.mono hw2)
  replace hs3 := Nat.le_trans hs3 hb4.size
  clear hbd4 hb4
  go_wp2_with fail
  ((with_reducible refine (C4.out.of hG hb).mono ?_); rintro e w5 ⟨rfl, hb5⟩)
  replace hbd := hbd.below hb5
  replace hb := bto hb hb5
  replace hs3 := Nat.le_trans hs3 hb5.size
  clear hb5
  go_wp2_with fail
  (refine (wstr_any _ _ _ _ _ hbd (by simp) (by omega) hs3).mono ?_; rintro e w6 ⟨rfl, hbd6, hb6⟩)
  replace hbd := hbd6
  replace hb := hb.trans (hb6.mono hw2)
  replace hs3 := Nat.le_trans hs3 hb6.size
  clear hbd6 hb6
  go_wp2_with fail
  (refine (bstring_any _ _ _ _ hbd hs3).mono ?_; rintro e w9 ⟨rfl, hb9⟩)
  replace hb := hb.trans (hb9.mono hw2)
  go_wp2
  go_ret2
  exact ⟨by rw [HV.out]; simp; first | done | rfl, hb⟩
set_option maxHeartbeats 2000000 in
set_option maxRecDepth 100000 in
theorem dText_n1 {l : List UInt8} (hl : l.length ≤ 1000) {z : Int} (e : val l = z) {p : Nat} (hp : 0 < p) (hp2 : p ≤ 12) (hz : z < 0) : Ret 171 #[.string ⟨l.toArray⟩, .int .i64 (p : Int)] (.tuple #[.string ⟨(textD z p).toArray⟩, .int .i64 0]) := fun w hG => by
  have c1 := dPlaces (n := (p : Int)) (by omega) (by omega)
  have c2 := riCanonical (l := l) (by omega) e
  have hcz : canon z = 45 :: dec z.natAbs := by unfold canon; rw [if_pos hz]
  have hD : (dec z.natAbs).length ≤ 1000 := Nat.le_trans (Num.dec_len_le _ _ (by rw [← e]; exact val_lt l)) hl
  have hd := dec_digs z.natAbs
  have HT : Hid (∀ Z, Z = zpad (p + 1) (dec z.natAbs) → textD z p = [45] ++ (Z.take (Z.length - p) ++ 46 :: Z.drop (Z.length - p))) := by
    rintro Z rfl; unfold textD sgnT tW tP; rw [if_pos hz, if_neg (by omega)]
  rw [hcz] at c2
  obtain ⟨D, hDe⟩ : ∃ D, D = dec z.natAbs := ⟨_, rfl⟩
  rw [← hDe] at c2 hD hd HT
  have hneg : isNeg (45 :: D) = true := rfl
  have c3 := hPre (45 :: D) (by simp; omega)
  rw [hneg] at c3
  have hadd := str_add (List.replicate (p + 1 - D.length) 48) D (by simp; omega) (by omega)
  have c4 := rRepeat (max 0 ((p : Int) + 1 - (D.length : Int))) (p + 1 - D.length) (by omega) (by omega)
  obtain ⟨Z, hZ⟩ : ∃ Z, Z = List.replicate (p + 1 - D.length) 48 ++ D := ⟨_, rfl⟩
  rw [← hZ] at hadd
  have hZl : Z.length = max (p + 1) D.length := by rw [hZ]; exact zpad_len _ _
  have HV := Lib.hid (HT.out Z hZ)
  have hz1 : Z.length ≤ 2000 := by omega
  have hz2 : p + 1 ≤ Z.length := by omega
  have kx : (⟨Z.toArray⟩ : ByteArray).extract 0 (Z.length - p) = ⟨(Z.take (Z.length - p)).toArray⟩ := by rw [extract_list]; simp
  have ky : (⟨Z.toArray⟩ : ByteArray).extract (Z.length - p) Z.length = ⟨(Z.drop (Z.length - p)).toArray⟩ := by rw [extract_list]; simp
  have kx' : (⟨Z.toArray⟩ : ByteArray).extract 0 ((Z.length : Int) - (p : Int)).toNat = ⟨(Z.take (Z.length - p)).toArray⟩ := by rw [show ((Z.length : Int) - (p : Int)).toNat = Z.length - p by omega]; exact kx
  have ky' : (⟨Z.toArray⟩ : ByteArray).extract ((Z.length : Int) - (p : Int)).toNat Z.length = ⟨(Z.drop (Z.length - p)).toArray⟩ := by rw [show ((Z.length : Int) - (p : Int)).toNat = Z.length - p by omega]; exact ky
  have hA : (Z.take (Z.length - p)).length ≤ 2000 := by rw [List.length_take]; omega
  have hB : (Z.drop (Z.length - p)).length ≤ 2000 := by rw [List.length_drop]; omega
  generalize Z.take (Z.length - p) = ZA at *
  generalize Z.drop (Z.length - p) = ZB at *
  have k4 : (⟨(45 :: D).toArray⟩ : ByteArray).extract 1 (D.length + 1) = ⟨D.toArray⟩ := by rw [extract_list]; simp
  have k9 : 0 < p := by omega
  have e0 : decide (0 < (p : Int)) = true := decide_eq_true (by omega)
  have C1 := Lib.hid c1
  have C2 := Lib.hid c2
  have C3 := Lib.hid c3
  have C4 := Lib.hid c4
  have hb := Below.refl w.heap.size w
  clear c1 c2 c3 c4 hcz hd HT hDe hneg hZ hZl e hz hp hl
  generalize List.replicate (p + 1 - D.length) (48 : UInt8) = Rp at *
  go_enter Tryz.func171, Tryz.ntmps171
  go_wp2_with fail
  ((with_reducible refine (C1.out.of hG hb).mono ?_); rintro e w1 ⟨rfl, hb1⟩)
  replace hb := bto hb hb1
  clear hb1
  go_wp2_with fail
  ((with_reducible refine (C2.out.of hG hb).mono ?_); rintro e w2 ⟨rfl, hb2⟩)
  replace hb := bto hb hb2
  have hbd := bld_new w2
  have hw2 : w.heap.size ≤ w2.heap.size := hb.size
  have hb8 := below_alloc w2 (.cells #[.pointer none, .slice none 0 0] 161)
  have hs2 : w2.heap.size ≤ (w2.alloc (.cells #[.pointer none, .slice none 0 0] 161)).heap.size := hb8.size
  replace hb := bto hb hb8
  clear hb2 hb8
  go_wp2_with fail
  ((with_reducible refine (C3.out.of hG hb).mono ?_); rintro e w3 ⟨rfl, hb3⟩)
  replace hb := bto hb hb3
  replace hbd := hbd.below hb3
  have hs3 := Nat.le_trans hs2 hb3.size
  generalize w2.heap.size = n8 at *
  clear hb3 hs2 C1 C2 C3
  go_wp2_with fail
  (refine (wbyte_c 45 _ _ _ _ hbd (by simp) hs3).mono ?_; rintro e w4 ⟨rfl, hbd4, hb4⟩)
  replace hbd := hbd4
  replace hb := hb.trans (hb4.mono hw2)
  replace hs3 := Nat.le_trans hs3 hb4.size
  clear hbd4 hb4
  go_wp2_with fail
  ((with_reducible refine (C4.out.of hG hb).mono ?_); rintro e w5 ⟨rfl, hb5⟩)
  replace hbd := hbd.below hb5
  replace hb := bto hb hb5
  replace hs3 := Nat.le_trans hs3 hb5.size
  clear hb5
  go_wp2_with fail
  (refine (wstr_any _ _ _ _ _ hbd (by simp) (by omega) hs3).mono ?_; rintro e w6 ⟨rfl, hbd6, hb6⟩)
  replace hbd := hbd6
  replace hb := hb.trans (hb6.mono hw2)
  replace hs3 := Nat.le_trans hs3 hb6.size
  clear hbd6 hb6
  go_wp2_with fail
  (refine (wbyte_c 46 _ _ _ _ hbd (by simp; omega) hs3).mono ?_; rintro e w7 ⟨rfl, hbd7, hb7⟩)
  replace hbd := hbd7
  replace hb := hb.trans (hb7.mono hw2)
  replace hs3 := Nat.le_trans hs3 hb7.size
  clear hbd7 hb7
  go_wp2_with fail
  (refine (wstr_any _ _ _ _ _ hbd (by simp; omega) (by omega) hs3).mono ?_; rintro e w8 ⟨rfl, hbd8, hb8⟩)
  replace hbd := hbd8
  replace hb := hb.trans (hb8.mono hw2)
  replace hs3 := Nat.le_trans hs3 hb8.size
  clear hbd8 hb8
  go_wp2_with fail
  (refine (bstring_any _ _ _ _ hbd hs3).mono ?_; rintro e w9 ⟨rfl, hb9⟩)
  replace hb := hb.trans (hb9.mono hw2)
  go_wp2
  go_ret2
  exact ⟨by rw [HV.out]; simp; first | done | rfl, hb⟩
set_option maxHeartbeats 2000000 in
set_option maxRecDepth 100000 in
theorem dText_p0 {l : List UInt8} (hl : l.length ≤ 1000) {z : Int} (e : val l = z) {p : Nat} (hp : p = 0) (hp2 : p ≤ 12) (hz : ¬ z < 0) : Ret 171 #[.string ⟨l.toArray⟩, .int .i64 (p : Int)] (.tuple #[.string ⟨(textD z p).toArray⟩, .int .i64 0]) := fun w hG => by
  have c1 := dPlaces (n := (p : Int)) (by omega) (by omega)
  have c2 := riCanonical (l := l) (by omega) e
  have hcz : canon z = dec z.natAbs := by unfold canon; rw [if_neg hz]
  have hD : (dec z.natAbs).length ≤ 1000 := Nat.le_trans (Num.dec_len_le _ _ (by rw [← e]; exact val_lt l)) hl
  have hd := dec_digs z.natAbs
  have HT : Hid (∀ Z, Z = zpad (p + 1) (dec z.natAbs) → textD z p = [] ++ (Z.take (Z.length - p) ++ [])) := by
    rintro Z rfl; unfold textD sgnT tW tP; rw [if_neg hz, if_pos hp]
  rw [hcz] at c2
  obtain ⟨D, hDe⟩ : ∃ D, D = dec z.natAbs := ⟨_, rfl⟩
  rw [← hDe] at c2 hD hd HT
  have hneg : isNeg D = false := no45_head hd
  have c3 := hPre D (by omega)
  rw [hneg] at c3
  have hadd := str_add (List.replicate (p + 1 - D.length) 48) D (by simp; omega) (by omega)
  have c4 := rRepeat (max 0 ((p : Int) + 1 - (D.length : Int))) (p + 1 - D.length) (by omega) (by omega)
  obtain ⟨Z, hZ⟩ : ∃ Z, Z = List.replicate (p + 1 - D.length) 48 ++ D := ⟨_, rfl⟩
  rw [← hZ] at hadd
  have hZl : Z.length = max (p + 1) D.length := by rw [hZ]; exact zpad_len _ _
  have HV := Lib.hid (HT.out Z hZ)
  have hz1 : Z.length ≤ 2000 := by omega
  have hz2 : p + 1 ≤ Z.length := by omega
  have kx : (⟨Z.toArray⟩ : ByteArray).extract 0 (Z.length - p) = ⟨(Z.take (Z.length - p)).toArray⟩ := by rw [extract_list]; simp
  have ky : (⟨Z.toArray⟩ : ByteArray).extract (Z.length - p) Z.length = ⟨(Z.drop (Z.length - p)).toArray⟩ := by rw [extract_list]; simp
  have kx' : (⟨Z.toArray⟩ : ByteArray).extract 0 ((Z.length : Int) - (p : Int)).toNat = ⟨(Z.take (Z.length - p)).toArray⟩ := by rw [show ((Z.length : Int) - (p : Int)).toNat = Z.length - p by omega]; exact kx
  have ky' : (⟨Z.toArray⟩ : ByteArray).extract ((Z.length : Int) - (p : Int)).toNat Z.length = ⟨(Z.drop (Z.length - p)).toArray⟩ := by rw [show ((Z.length : Int) - (p : Int)).toNat = Z.length - p by omega]; exact ky
  have hA : (Z.take (Z.length - p)).length ≤ 2000 := by rw [List.length_take]; omega
  have hB : (Z.drop (Z.length - p)).length ≤ 2000 := by rw [List.length_drop]; omega
  generalize Z.take (Z.length - p) = ZA at *
  generalize Z.drop (Z.length - p) = ZB at *

  have k9 : ¬ 0 < p := by omega
  have e0 : decide (0 < (p : Int)) = false := decide_eq_false (by omega)
  have C1 := Lib.hid c1
  have C2 := Lib.hid c2
  have C3 := Lib.hid c3
  have C4 := Lib.hid c4
  have hb := Below.refl w.heap.size w
  clear c1 c2 c3 c4 hcz hd HT hDe hneg hZ hZl e hz hp hl
  generalize List.replicate (p + 1 - D.length) (48 : UInt8) = Rp at *
  go_enter Tryz.func171, Tryz.ntmps171
  go_wp2_with fail
  ((with_reducible refine (C1.out.of hG hb).mono ?_); rintro e w1 ⟨rfl, hb1⟩)
  replace hb := bto hb hb1
  clear hb1
  go_wp2_with fail
  ((with_reducible refine (C2.out.of hG hb).mono ?_); rintro e w2 ⟨rfl, hb2⟩)
  replace hb := bto hb hb2
  have hbd := bld_new w2
  have hw2 : w.heap.size ≤ w2.heap.size := hb.size
  have hb8 := below_alloc w2 (.cells #[.pointer none, .slice none 0 0] 161)
  have hs2 : w2.heap.size ≤ (w2.alloc (.cells #[.pointer none, .slice none 0 0] 161)).heap.size := hb8.size
  replace hb := bto hb hb8
  clear hb2 hb8
  go_wp2_with fail
  ((with_reducible refine (C3.out.of hG hb).mono ?_); rintro e w3 ⟨rfl, hb3⟩)
  replace hb := bto hb hb3
  replace hbd := hbd.below hb3
  have hs3 := Nat.le_trans hs2 hb3.size
  generalize w2.heap.size = n8 at *
  clear hb3 hs2 C1 C2 C3
  go_wp2_with fail
  ((with_reducible refine (C4.out.of hG hb).mono ?_); rintro e w5 ⟨rfl, hb5⟩)
  replace hbd := hbd.below hb5
  replace hb := bto hb hb5
  replace hs3 := Nat.le_trans hs3 hb5.size
  clear hb5
  go_wp2_with fail
  (refine (wstr_any _ _ _ _ _ hbd (by simp) (by omega) hs3).mono ?_; rintro e w6 ⟨rfl, hbd6, hb6⟩)
  replace hbd := hbd6
  replace hb := hb.trans (hb6.mono hw2)
  replace hs3 := Nat.le_trans hs3 hb6.size
  clear hbd6 hb6
  go_wp2_with fail
  (refine (bstring_any _ _ _ _ hbd hs3).mono ?_; rintro e w9 ⟨rfl, hb9⟩)
  replace hb := hb.trans (hb9.mono hw2)
  go_wp2
  go_ret2
  exact ⟨by rw [HV.out]; simp; first | done | rfl, hb⟩
set_option maxHeartbeats 2000000 in
set_option maxRecDepth 100000 in
theorem dText_p1 {l : List UInt8} (hl : l.length ≤ 1000) {z : Int} (e : val l = z) {p : Nat} (hp : 0 < p) (hp2 : p ≤ 12) (hz : ¬ z < 0) : Ret 171 #[.string ⟨l.toArray⟩, .int .i64 (p : Int)] (.tuple #[.string ⟨(textD z p).toArray⟩, .int .i64 0]) := fun w hG => by
  have c1 := dPlaces (n := (p : Int)) (by omega) (by omega)
  have c2 := riCanonical (l := l) (by omega) e
  have hcz : canon z = dec z.natAbs := by unfold canon; rw [if_neg hz]
  have hD : (dec z.natAbs).length ≤ 1000 := Nat.le_trans (Num.dec_len_le _ _ (by rw [← e]; exact val_lt l)) hl
  have hd := dec_digs z.natAbs
  have HT : Hid (∀ Z, Z = zpad (p + 1) (dec z.natAbs) → textD z p = [] ++ (Z.take (Z.length - p) ++ 46 :: Z.drop (Z.length - p))) := by
    rintro Z rfl; unfold textD sgnT tW tP; rw [if_neg hz, if_neg (by omega)]
  rw [hcz] at c2
  obtain ⟨D, hDe⟩ : ∃ D, D = dec z.natAbs := ⟨_, rfl⟩
  rw [← hDe] at c2 hD hd HT
  have hneg : isNeg D = false := no45_head hd
  have c3 := hPre D (by omega)
  rw [hneg] at c3
  have hadd := str_add (List.replicate (p + 1 - D.length) 48) D (by simp; omega) (by omega)
  have c4 := rRepeat (max 0 ((p : Int) + 1 - (D.length : Int))) (p + 1 - D.length) (by omega) (by omega)
  obtain ⟨Z, hZ⟩ : ∃ Z, Z = List.replicate (p + 1 - D.length) 48 ++ D := ⟨_, rfl⟩
  rw [← hZ] at hadd
  have hZl : Z.length = max (p + 1) D.length := by rw [hZ]; exact zpad_len _ _
  have HV := Lib.hid (HT.out Z hZ)
  have hz1 : Z.length ≤ 2000 := by omega
  have hz2 : p + 1 ≤ Z.length := by omega
  have kx : (⟨Z.toArray⟩ : ByteArray).extract 0 (Z.length - p) = ⟨(Z.take (Z.length - p)).toArray⟩ := by rw [extract_list]; simp
  have ky : (⟨Z.toArray⟩ : ByteArray).extract (Z.length - p) Z.length = ⟨(Z.drop (Z.length - p)).toArray⟩ := by rw [extract_list]; simp
  have kx' : (⟨Z.toArray⟩ : ByteArray).extract 0 ((Z.length : Int) - (p : Int)).toNat = ⟨(Z.take (Z.length - p)).toArray⟩ := by rw [show ((Z.length : Int) - (p : Int)).toNat = Z.length - p by omega]; exact kx
  have ky' : (⟨Z.toArray⟩ : ByteArray).extract ((Z.length : Int) - (p : Int)).toNat Z.length = ⟨(Z.drop (Z.length - p)).toArray⟩ := by rw [show ((Z.length : Int) - (p : Int)).toNat = Z.length - p by omega]; exact ky
  have hA : (Z.take (Z.length - p)).length ≤ 2000 := by rw [List.length_take]; omega
  have hB : (Z.drop (Z.length - p)).length ≤ 2000 := by rw [List.length_drop]; omega
  generalize Z.take (Z.length - p) = ZA at *
  generalize Z.drop (Z.length - p) = ZB at *

  have k9 : 0 < p := by omega
  have e0 : decide (0 < (p : Int)) = true := decide_eq_true (by omega)
  have C1 := Lib.hid c1
  have C2 := Lib.hid c2
  have C3 := Lib.hid c3
  have C4 := Lib.hid c4
  have hb := Below.refl w.heap.size w
  clear c1 c2 c3 c4 hcz hd HT hDe hneg hZ hZl e hz hp hl
  generalize List.replicate (p + 1 - D.length) (48 : UInt8) = Rp at *
  go_enter Tryz.func171, Tryz.ntmps171
  go_wp2_with fail
  ((with_reducible refine (C1.out.of hG hb).mono ?_); rintro e w1 ⟨rfl, hb1⟩)
  replace hb := bto hb hb1
  clear hb1
  go_wp2_with fail
  ((with_reducible refine (C2.out.of hG hb).mono ?_); rintro e w2 ⟨rfl, hb2⟩)
  replace hb := bto hb hb2
  have hbd := bld_new w2
  have hw2 : w.heap.size ≤ w2.heap.size := hb.size
  have hb8 := below_alloc w2 (.cells #[.pointer none, .slice none 0 0] 161)
  have hs2 : w2.heap.size ≤ (w2.alloc (.cells #[.pointer none, .slice none 0 0] 161)).heap.size := hb8.size
  replace hb := bto hb hb8
  clear hb2 hb8
  go_wp2_with fail
  ((with_reducible refine (C3.out.of hG hb).mono ?_); rintro e w3 ⟨rfl, hb3⟩)
  replace hb := bto hb hb3
  replace hbd := hbd.below hb3
  have hs3 := Nat.le_trans hs2 hb3.size
  generalize w2.heap.size = n8 at *
  clear hb3 hs2 C1 C2 C3
  go_wp2_with fail
  ((with_reducible refine (C4.out.of hG hb).mono ?_); rintro e w5 ⟨rfl, hb5⟩)
  replace hbd := hbd.below hb5
  replace hb := bto hb hb5
  replace hs3 := Nat.le_trans hs3 hb5.size
  clear hb5
  go_wp2_with fail
  (refine (wstr_any _ _ _ _ _ hbd (by simp) (by omega) hs3).mono ?_; rintro e w6 ⟨rfl, hbd6, hb6⟩)
  replace hbd := hbd6
  replace hb := hb.trans (hb6.mono hw2)
  replace hs3 := Nat.le_trans hs3 hb6.size
  clear hbd6 hb6
  go_wp2_with fail
  (refine (wbyte_c 46 _ _ _ _ hbd (by simp; omega) hs3).mono ?_; rintro e w7 ⟨rfl, hbd7, hb7⟩)
  replace hbd := hbd7
  replace hb := hb.trans (hb7.mono hw2)
  replace hs3 := Nat.le_trans hs3 hb7.size
  clear hbd7 hb7
  go_wp2_with fail
  (refine (wstr_any _ _ _ _ _ hbd (by simp; omega) (by omega) hs3).mono ?_; rintro e w8 ⟨rfl, hbd8, hb8⟩)
  replace hbd := hbd8
  replace hb := hb.trans (hb8.mono hw2)
  replace hs3 := Nat.le_trans hs3 hb8.size
  clear hbd8 hb8
  go_wp2_with fail
  (refine (bstring_any _ _ _ _ hbd hs3).mono ?_; rintro e w9 ⟨rfl, hb9⟩)
  replace hb := hb.trans (hb9.mono hw2)
  go_wp2
  go_ret2
  exact ⟨by rw [HV.out]; simp; first | done | rfl, hb⟩
theorem dText {l : List UInt8} (hl : l.length ≤ 1000) {z : Int} (e : val l = z) {p : Nat} (hp2 : p ≤ 12) : Ret 171 #[.string ⟨l.toArray⟩, .int .i64 (p : Int)] (.tuple #[.string ⟨(textD z p).toArray⟩, .int .i64 0]) := by
  by_cases hz : z < 0
  · rcases Nat.eq_zero_or_pos p with hp | hp
    · exact dText_n0 hl e hp hp2 hz
    · exact dText_n1 hl e hp hp2 hz
  · rcases Nat.eq_zero_or_pos p with hp | hp
    · exact dText_p0 hl e hp hp2 hz
    · exact dText_p1 hl e hp hp2 hz
end Go.Proofs.YtgnppdkeiihlfaaGreatDoor
namespace Go.Proofs.YtgnppdkeiihlfaaGreatDoor
open Go.RowKit Num
theorem rCutP (s : List UInt8) (hs : s.length ≤ 1000000) : Ret 262 #[.string ⟨s.toArray⟩, .string ⟨#[46]⟩] (.tuple #[.string ⟨(Lib.cut s [46]).1.toArray⟩, .string ⟨(Lib.cut s [46]).2.1.toArray⟩, .bool (Lib.cut s [46]).2.2]) := fun w hG => by
  obtain ⟨m, hm⟩ := hG.2
  have h := Any.strings_Cut { Tryz.laysM145 with } ⟨s.toArray⟩ ⟨#[46]⟩ m w (by show s.toArray.size < _; simp; omega) hm
  exact h.mono fun e w' ⟨he, n, hw⟩ => by
    subst hw
    exact ⟨he, bdrewN (Below.refl _ _) n⟩
theorem rCutPre (s : List UInt8) : Ret 195 #[.string ⟨s.toArray⟩, .string ⟨#[45]⟩] (.tuple #[.string ⟨(rest s).toArray⟩, .bool (isNeg s)]) := fun w hG => by
  refine (cutPrefix_any s w).mono ?_
  rintro e w' ⟨rfl, rfl⟩
  exact ⟨rfl, Below.refl _ _⟩
theorem cut46_len (s : List UInt8) : (Lib.cut s [46]).1.length ≤ s.length ∧ (Lib.cut s [46]).2.1.length ≤ s.length := by
  unfold Lib.cut; split
  · exact ⟨by rw [List.length_take]; omega, by rw [List.length_drop]; omega⟩
  · exact ⟨Nat.le_refl _, Nat.zero_le _⟩
theorem byte_ne {x c : UInt8} (h : ¬ x = c) : ((x.toNat : Int) == (c.toNat : Int)) = false := by
  rw [beq_eq_false_iff_ne]; intro e; exact h (UInt8.toNat_inj.1 (Int.ofNat_inj.1 e))
theorem decW_len (s : List UInt8) : (decW s).length ≤ s.length := Nat.le_trans (cut46_len _).1 (rest_len s)
theorem decP_len (s : List UInt8) : (decP s).length ≤ s.length := Nat.le_trans (cut46_len _).2 (rest_len s)
theorem val_alldig {l : List UInt8} (h : l.all isDig = true) : val l = nat l := by
  have hn := no45_head h
  have hr : rest l = l := by unfold rest; rw [hn]; rfl
  have hd : digs l = sig l := by rw [digs_ok (by rw [hr]; exact h), hr]
  unfold val
  rw [negB_ok (by rw [hr]; exact h), hn, hd, nat_sig]; rfl
theorem val_one0 (k : Nat) : val (49 :: List.replicate k 48) = ((10 ^ k : Nat) : Int) := by
  have h : (49 :: List.replicate k (48 : UInt8)).all isDig = true := by
    rw [List.all_cons, Bool.and_eq_true]
    refine ⟨by decide, ?_⟩
    rw [List.all_eq_true]
    intro x hx
    rw [List.eq_of_mem_replicate hx]; decide
  rw [val_alldig h, nat_cons, nat_zeros, List.length_replicate]
  simp
def decQ (s : List UInt8) : Rat := Rat.divInt (decZ s) ((10 ^ (decP s).length : Nat) : Int)
theorem decB_nil {s : List UInt8} (h : decB s = false) : decP s = [] := by
  unfold decB at h; unfold decP
  rcases cut46_cases (rest s) with ⟨-, hc⟩ | ⟨a, b, -, -, hc⟩
  · rw [hc]
  · rw [hc] at h; cases h
theorem okW_not_dig {l : List UInt8} (h : isD l = false) : okW l = false := by unfold okW; rw [h]; rfl
theorem okW_zero {l : List UInt8} {x : UInt8} (hx : l[0]? = some x) (h1 : 1 < l.length) (h : x = 48) : okW l = false := by
  unfold okW
  have : l.head? = some 48 := by rw [List.head?_eq_getElem?, hx, h]
  rw [this, decide_eq_true h1]; simp
theorem okW_one {l : List UInt8} (hd : isD l = true) (h1 : ¬ 1 < l.length) : okW l = true := by unfold okW; rw [hd, decide_eq_false h1]; rfl
theorem okW_nz {l : List UInt8} {x : UInt8} (hd : isD l = true) (hx : l[0]? = some x) (h : ¬ x = 48) : okW l = true := by
  unfold okW
  have : (l.head? == some 48) = false := by rw [List.head?_eq_getElem?, hx, beq_eq_false_iff_ne]; simpa using h
  rw [hd, this]; simp
theorem decOk_W {s : List UInt8} (h : okW (decW s) = false) : decOk s = false := by unfold decOk; rw [h]; rfl
theorem decOk_P {s : List UInt8} (hb : decB s = true) (h : isD (decP s) = false) : decOk s = false := by unfold decOk; rw [hb, h]; simp
theorem decOk_0 {s : List UInt8} (hn : isNeg s = true) (h : decN' s = 0) : decOk s = false := by unfold decOk; rw [hn, h]; simp
theorem decOk_of {s : List UInt8} (h1 : okW (decW s) = true) (h2 : decB s = false ∨ isD (decP s) = true) (h3 : isNeg s = false ∨ decN' s ≠ 0) : decOk s = true := by
  unfold decOk; rw [h1]
  have a : (!decB s || isD (decP s)) = true := by rcases h2 with h | h <;> rw [h] <;> simp
  have b : (isNeg s && decN' s == 0) = false := by
    rcases h3 with h | h
    · rw [h]; rfl
    · have : (decN' s == 0) = false := by rw [beq_eq_false_iff_ne]; exact h
      rw [this]; simp
  rw [a, b]; rfl
/-- what Fraction returns: the value, and why there is none -/
def FracV (s : List UInt8) : Value := if decOk s = true then .tuple #[(Value.agg #[Value.string ⟨List.toArray (fN (decQ s))⟩, Value.string ⟨List.toArray (fD (decQ s))⟩]), .int .i64 0] else .tuple #[.agg #[.string ⟨#[]⟩, .string ⟨#[]⟩], .int .i64 3]
theorem fracV_t {s : List UInt8} (h : decOk s = true) : FracV s = .tuple #[(Value.agg #[Value.string ⟨List.toArray (fN (decQ s))⟩, Value.string ⟨List.toArray (fD (decQ s))⟩]), .int .i64 0] := if_pos h
theorem fracV_f {s : List UInt8} (h : decOk s = false) : FracV s = .tuple #[.agg #[.string ⟨#[]⟩, .string ⟨#[]⟩], .int .i64 3] := if_neg (by rw [h]; decide)
set_option maxHeartbeats 4000000 in
set_option maxRecDepth 100000 in
theorem dFrac {s : List UInt8} (hs : s.length ≤ 1000) : Ret 219 #[.string ⟨s.toArray⟩] (FracV s) := fun w hG => by
  have k0 : decide (65536 < s.length) = false := decide_eq_false (by omega)
  have k00 : ¬ 65536 < s.length := by omega
  have C1 := Lib.hid (rCutPre s)
  have c2 := rCutP (rest s) (Nat.le_trans (rest_len s) (by omega))
  have C2 : Hid (Ret 262 #[.string ⟨(rest s).toArray⟩, .string ⟨#[46]⟩] (.tuple #[.string ⟨(decW s).toArray⟩, .string ⟨(decP s).toArray⟩, .bool (decB s)])) := c2
  have lW := decW_len s
  have lP := decP_len s
  have C3 := Lib.hid (dDigits (l := decW s) (by omega))
  have C4 := Lib.hid (dDigits (l := decP s) (by omega))
  have hadd := str_add (decW s) (decP s) (by omega) (by omega)
  have hb := below_alloc w (.cells #[.string ⟨#[]⟩, .string ⟨#[]⟩] 25)
  have x2 := FBox.new w (.string ⟨#[]⟩) (.string ⟨#[]⟩) 25
  clear c2
  -- the end: what is known decides it
  have HY : Hid (okW (decW s) = true → (decB s = false ∨ isD (decP s) = true) → (decW s ++ decP s).all isDig = true) := fun h1 h2 => by
    rw [List.all_append, (okW_fmt h1).2.2]
    rcases h2 with h | h
    · rw [decB_nil h]; rfl
    · exact ((isD_iff _).1 h).2
  have HW0 := Lib.hid (fun h => decOk_W (s := s) (okW_not_dig h))
  have HW1 := Lib.hid (fun x h h1 h2 => decOk_W (s := s) (okW_zero (x := x) h h1 h2))
  have HP0 := Lib.hid (decOk_P (s := s))
  have HN0 := Lib.hid (decOk_0 (s := s))
  have HOk := Lib.hid (decOk_of (s := s))
  have HF := Lib.hid (fracV_f (s := s))
  have HT := Lib.hid (fracV_t (s := s))
  have HQ : Hid (decQ s = Rat.divInt (decZ s) ((10 ^ (decP s).length : Nat) : Int)) := rfl
  have HZ : Hid (decZ s = if isNeg s then -(decN' s : Int) else (decN' s : Int)) := rfl
  have HN : Hid (decN' s = nat (decW s ++ decP s)) := rfl
  generalize decQ s = q at *
  generalize decZ s = z at *
  generalize decN' s = n at *
  generalize decOk s = ok at *
  generalize decW s = W at *
  generalize decP s = P at *
  generalize decB s = B at *
  generalize rest s = R at *
  generalize FracV s = V at *
  generalize isNeg s = ng at *
  go_enter Tryz.func219, Tryz.ntmps219
  go_wp2_with fail
  ((with_reducible refine (C1.out.of hG hb).mono ?_); rintro e w1 ⟨rfl, hb1⟩)
  replace hb := bto hb hb1
  replace x2 := x2.below hb1
  clear hb1
  go_wp2_with fail
  ((with_reducible refine (C2.out.of hG hb).mono ?_); rintro e w2 ⟨rfl, hb2⟩)
  replace hb := bto hb hb2
  replace x2 := x2.below hb2
  clear hb2
  cases hd : isD W
  · have HD := Lib.hid hd
    rw [hd] at C3
    clear hd
    go_wp2_with fail
    ((with_reducible refine (C3.out.of hG hb).mono ?_); rintro e w3 ⟨rfl, hb3⟩)
    replace hb := bto hb hb3
    replace x2 := x2.below hb3
    clear hb3
    have HV := Lib.hid (HF.out (HW0.out HD.out))
    clear HW0 HW1 HP0 HN0 HOk HY HF HT HQ HZ HN
    have q0 := x2.c0
    have q1 := x2.c1
    have q2 := x2.f0
    have q3 := x2.f1
    go_wp2
    have hy := x2.set (.string ⟨#[]⟩) (.string ⟨#[]⟩)
    have d0 := hy.c0
    have d1 := hy.c1
    refine bodyPost_ret (v := .tuple #[.agg #[.string ⟨#[]⟩, .string ⟨#[]⟩], .int .i64 3]) (by simp [results, Tryz.results219, go_sem, d0, d1]) rfl ?_
    exact ⟨by rw [HV.out], below_set2 hb (Nat.le_refl _) _ _⟩
  · have HD := Lib.hid hd
    rw [hd] at C3
    clear hd
    go_wp2_with fail
    ((with_reducible refine (C3.out.of hG hb).mono ?_); rintro e w3 ⟨rfl, hb3⟩)
    replace hb := bto hb hb3
    replace x2 := x2.below hb3
    clear hb3
    have hne : W ≠ [] := ((isD_iff W).1 HD.out).1
    have hlt : 0 < W.length := List.length_pos_iff.2 hne
    clear hne
    have hlt' : 0 < (⟨W.toArray⟩ : ByteArray).size := by show 0 < W.toArray.size; simpa using hlt
    obtain ⟨x, hx⟩ : ∃ x, x = (⟨W.toArray⟩ : ByteArray)[0] := ⟨_, rfl⟩
    have hxl : W[0]? = some x := by rw [hx]; simp [hlt]; rfl
    have HX := Lib.hid hxl
    clear hxl
    have hx2 : ∀ hp, (⟨W.toArray⟩ : ByteArray)[0]'hp = x := fun _ => hx.symm
    clear hx
    by_cases g1 : 1 < W.length
    · have g1' : decide (1 < W.length) = true := decide_eq_true g1
      by_cases hx48 : x = 48
      · have e48 : ((x.toNat : Int) == 48) = true := by rw [hx48]; rfl
        have HV := Lib.hid (HF.out (HW1.out x HX.out g1 hx48))
        clear HW0 HW1 HP0 HN0 HOk HY HF HT HQ HZ HN
        have q0 := x2.c0
        have q1 := x2.c1
        have q2 := x2.f0
        have q3 := x2.f1
        go_wp2
        have hy := x2.set (.string ⟨#[]⟩) (.string ⟨#[]⟩)
        have d0 := hy.c0
        have d1 := hy.c1
        refine bodyPost_ret (v := .tuple #[.agg #[.string ⟨#[]⟩, .string ⟨#[]⟩], .int .i64 3]) (by simp [results, Tryz.results219, go_sem, d0, d1]) rfl ?_
        exact ⟨by rw [HV.out], below_set2 hb (Nat.le_refl _) _ _⟩
      · have e48 : ((x.toNat : Int) == 48) = false := byte_ne hx48
        have HWk := Lib.hid (okW_nz HD.out HX.out hx48)
        cases hB : B
        · subst hB
          have HA := Lib.hid (HY.out (HWk.out) (by first | exact .inl rfl | exact .inl trivial))
          have hv := val_alldig HA.out
          rw [← HN.out] at hv
          have C5 := Lib.hid (riCanonical (l := W ++ P) (by rw [List.length_append]; omega) hv)
          have hnl := canon_len_le (n : Int) (W ++ P).length (by rw [← hv]; exact val_lt (W ++ P))
          have hnm := canon_len_le (-(n : Int)) (W ++ P).length (by rw [Int.natAbs_neg, ← hv]; exact val_lt (W ++ P))
          rw [List.length_append] at hnl hnm
          clear hv HA
          go_wp2_with fail
          ((with_reducible refine (C5.out.of hG hb).mono ?_); rintro e w5 ⟨rfl, hb5⟩)
          replace hb := bto hb hb5
          replace x2 := x2.below hb5
          clear hb5
          clear hadd C5
          cases ng
          · have hz : z = (n : Int) := HZ.out.trans rfl
            have C6 := Lib.hid (rRepeat (P.length : Int) P.length rfl (by omega))
            have ha1 := str_add [49] (List.replicate P.length 48) (by decide) (by simp; omega)
            have C7 := Lib.hid (rNew (l := canon (n : Int)) (l' := 49 :: List.replicate P.length 48) (by omega) (by simp; omega) (by rw [val_one0]; have := Nat.pow_pos (n := P.length) (show 0 < 10 by decide); omega) (show Rat.divInt (val (canon (n : Int))) (val (49 :: List.replicate P.length 48)) = q by rw [val_canon, val_one0, HQ.out, hz]))
            have HV := Lib.hid HT.out
            have HO := Lib.hid (HOk.out (HWk.out) (by first | exact .inl rfl | exact .inl trivial) (by first | exact .inl rfl | exact .inl trivial))
            clear HW0 HW1 HP0 HN0 HOk HY HF HT HQ HZ HN hz
            generalize fN q = N at *
            generalize fD q = D at *
            generalize hrp : List.replicate P.length (48 : UInt8) = Rp at *
            clear hrp
            go_wp2_with fail
            ((with_reducible refine (C6.out.of hG hb).mono ?_); rintro e w6 ⟨rfl, hb6⟩)
            replace hb := bto hb hb6
            replace x2 := x2.below hb6
            clear hb6
            go_wp2_with fail
            ((with_reducible refine (C7.out.of hG hb).mono ?_); rintro e w7 ⟨rfl, hb7⟩)
            replace hb := bto hb hb7
            replace x2 := x2.below hb7
            clear hb7
            have x10 := FBox.new w7 (.string ⟨N.toArray⟩) (.string ⟨D.toArray⟩) 25
            replace x2 := x2.below (below_alloc w7 (.cells #[.string ⟨N.toArray⟩, .string ⟨D.toArray⟩] 25))
            replace hb := bto hb (below_alloc w7 (.cells #[.string ⟨N.toArray⟩, .string ⟨D.toArray⟩] 25))
            have q0 := x2.c0
            have q1 := x2.c1
            have q2 := x2.f0
            have q3 := x2.f1
            have g0 := x10.c0
            have g1 := x10.c1
            go_wp2
            have hy := x2.set (.string ⟨N.toArray⟩) (.string ⟨D.toArray⟩)
            have d0 := hy.c0
            have d1 := hy.c1
            refine bodyPost_ret (v := .tuple #[.agg #[.string ⟨N.toArray⟩, .string ⟨D.toArray⟩], .int .i64 0]) (by simp [results, Tryz.results219, go_sem, d0, d1]) rfl ?_
            exact ⟨by rw [HV.out HO.out], below_set2 hb (Nat.le_refl _) _ _⟩
          · by_cases h0 : n = 0
            · obtain ⟨e1, e2⟩ := str_nil (z := (n : Int)) (by omega)
              have HV := Lib.hid (HF.out (HN0.out (by first | rfl | trivial) h0))
              clear HW0 HW1 HP0 HN0 HOk HY HF HT HQ HZ HN
              have q0 := x2.c0
              have q1 := x2.c1
              have q2 := x2.f0
              have q3 := x2.f1
              go_wp2
              have hy := x2.set (.string ⟨#[]⟩) (.string ⟨#[]⟩)
              have d0 := hy.c0
              have d1 := hy.c1
              refine bodyPost_ret (v := .tuple #[.agg #[.string ⟨#[]⟩, .string ⟨#[]⟩], .int .i64 3]) (by simp [results, Tryz.results219, go_sem, d0, d1]) rfl ?_
              exact ⟨by rw [HV.out], below_set2 hb (Nat.le_refl _) _ _⟩
            · obtain ⟨e1, e2⟩ := str_ne (z := (n : Int)) (by omega)
              have C8 := Lib.hid (riNeg (l := canon (n : Int)) (by omega) (show -val (canon (n : Int)) = -(n : Int) by rw [val_canon]))
              go_wp2_with fail
              ((with_reducible refine (C8.out.of hG hb).mono ?_); rintro e w8 ⟨rfl, hb8⟩)
              replace hb := bto hb hb8
              replace x2 := x2.below hb8
              clear hb8
              clear e1 e2 C8
              have hz : z = -(n : Int) := HZ.out.trans rfl
              have C6 := Lib.hid (rRepeat (P.length : Int) P.length rfl (by omega))
              have ha1 := str_add [49] (List.replicate P.length 48) (by decide) (by simp; omega)
              have C7 := Lib.hid (rNew (l := canon (-(n : Int))) (l' := 49 :: List.replicate P.length 48) (by omega) (by simp; omega) (by rw [val_one0]; have := Nat.pow_pos (n := P.length) (show 0 < 10 by decide); omega) (show Rat.divInt (val (canon (-(n : Int)))) (val (49 :: List.replicate P.length 48)) = q by rw [val_canon, val_one0, HQ.out, hz]))
              have HV := Lib.hid HT.out
              have HO := Lib.hid (HOk.out (HWk.out) (by first | exact .inl rfl | exact .inl trivial) (.inr h0))
              clear HW0 HW1 HP0 HN0 HOk HY HF HT HQ HZ HN hz
              generalize fN q = N at *
              generalize fD q = D at *
              generalize hrp : List.replicate P.length (48 : UInt8) = Rp at *
              clear hrp
              go_wp2_with fail
              ((with_reducible refine (C6.out.of hG hb).mono ?_); rintro e w6 ⟨rfl, hb6⟩)
              replace hb := bto hb hb6
              replace x2 := x2.below hb6
              clear hb6
              go_wp2_with fail
              ((with_reducible refine (C7.out.of hG hb).mono ?_); rintro e w7 ⟨rfl, hb7⟩)
              replace hb := bto hb hb7
              replace x2 := x2.below hb7
              clear hb7
              have x10 := FBox.new w7 (.string ⟨N.toArray⟩) (.string ⟨D.toArray⟩) 25
              replace x2 := x2.below (below_alloc w7 (.cells #[.string ⟨N.toArray⟩, .string ⟨D.toArray⟩] 25))
              replace hb := bto hb (below_alloc w7 (.cells #[.string ⟨N.toArray⟩, .string ⟨D.toArray⟩] 25))
              have q0 := x2.c0
              have q1 := x2.c1
              have q2 := x2.f0
              have q3 := x2.f1
              have g0 := x10.c0
              have g1 := x10.c1
              go_wp2
              have hy := x2.set (.string ⟨N.toArray⟩) (.string ⟨D.toArray⟩)
              have d0 := hy.c0
              have d1 := hy.c1
              refine bodyPost_ret (v := .tuple #[.agg #[.string ⟨N.toArray⟩, .string ⟨D.toArray⟩], .int .i64 0]) (by simp [results, Tryz.results219, go_sem, d0, d1]) rfl ?_
              exact ⟨by rw [HV.out HO.out], below_set2 hb (Nat.le_refl _) _ _⟩
        · subst hB
          cases hp : isD P
          · have HD2 := Lib.hid hp
            rw [hp] at C4
            clear hp
            go_wp2_with fail
            ((with_reducible refine (C4.out.of hG hb).mono ?_); rintro e w4 ⟨rfl, hb4⟩)
            replace hb := bto hb hb4
            replace x2 := x2.below hb4
            clear hb4
            have HV := Lib.hid (HF.out (HP0.out (by first | rfl | trivial) HD2.out))
            clear HW0 HW1 HP0 HN0 HOk HY HF HT HQ HZ HN
            have q0 := x2.c0
            have q1 := x2.c1
            have q2 := x2.f0
            have q3 := x2.f1
            go_wp2
            have hy := x2.set (.string ⟨#[]⟩) (.string ⟨#[]⟩)
            have d0 := hy.c0
            have d1 := hy.c1
            refine bodyPost_ret (v := .tuple #[.agg #[.string ⟨#[]⟩, .string ⟨#[]⟩], .int .i64 3]) (by simp [results, Tryz.results219, go_sem, d0, d1]) rfl ?_
            exact ⟨by rw [HV.out], below_set2 hb (Nat.le_refl _) _ _⟩
          · have HD2 := Lib.hid hp
            rw [hp] at C4
            clear hp
            go_wp2_with fail
            ((with_reducible refine (C4.out.of hG hb).mono ?_); rintro e w4 ⟨rfl, hb4⟩)
            replace hb := bto hb hb4
            replace x2 := x2.below hb4
            clear hb4
            have HA := Lib.hid (HY.out (HWk.out) (.inr HD2.out))
            have hv := val_alldig HA.out
            rw [← HN.out] at hv
            have C5 := Lib.hid (riCanonical (l := W ++ P) (by rw [List.length_append]; omega) hv)
            have hnl := canon_len_le (n : Int) (W ++ P).length (by rw [← hv]; exact val_lt (W ++ P))
            have hnm := canon_len_le (-(n : Int)) (W ++ P).length (by rw [Int.natAbs_neg, ← hv]; exact val_lt (W ++ P))
            rw [List.length_append] at hnl hnm
            clear hv HA
            go_wp2_with fail
            ((with_reducible refine (C5.out.of hG hb).mono ?_); rintro e w5 ⟨rfl, hb5⟩)
            replace hb := bto hb hb5
            replace x2 := x2.below hb5
            clear hb5
            clear hadd C5
            cases ng
            · have hz : z = (n : Int) := HZ.out.trans rfl
              have C6 := Lib.hid (rRepeat (P.length : Int) P.length rfl (by omega))
              have ha1 := str_add [49] (List.replicate P.length 48) (by decide) (by simp; omega)
              have C7 := Lib.hid (rNew (l := canon (n : Int)) (l' := 49 :: List.replicate P.length 48) (by omega) (by simp; omega) (by rw [val_one0]; have := Nat.pow_pos (n := P.length) (show 0 < 10 by decide); omega) (show Rat.divInt (val (canon (n : Int))) (val (49 :: List.replicate P.length 48)) = q by rw [val_canon, val_one0, HQ.out, hz]))
              have HV := Lib.hid HT.out
              have HO := Lib.hid (HOk.out (HWk.out) (.inr HD2.out) (by first | exact .inl rfl | exact .inl trivial))
              clear HW0 HW1 HP0 HN0 HOk HY HF HT HQ HZ HN hz
              generalize fN q = N at *
              generalize fD q = D at *
              generalize hrp : List.replicate P.length (48 : UInt8) = Rp at *
              clear hrp
              go_wp2_with fail
              ((with_reducible refine (C6.out.of hG hb).mono ?_); rintro e w6 ⟨rfl, hb6⟩)
              replace hb := bto hb hb6
              replace x2 := x2.below hb6
              clear hb6
              go_wp2_with fail
              ((with_reducible refine (C7.out.of hG hb).mono ?_); rintro e w7 ⟨rfl, hb7⟩)
              replace hb := bto hb hb7
              replace x2 := x2.below hb7
              clear hb7
              have x10 := FBox.new w7 (.string ⟨N.toArray⟩) (.string ⟨D.toArray⟩) 25
              replace x2 := x2.below (below_alloc w7 (.cells #[.string ⟨N.toArray⟩, .string ⟨D.toArray⟩] 25))
              replace hb := bto hb (below_alloc w7 (.cells #[.string ⟨N.toArray⟩, .string ⟨D.toArray⟩] 25))
              have q0 := x2.c0
              have q1 := x2.c1
              have q2 := x2.f0
              have q3 := x2.f1
              have g0 := x10.c0
              have g1 := x10.c1
              go_wp2
              have hy := x2.set (.string ⟨N.toArray⟩) (.string ⟨D.toArray⟩)
              have d0 := hy.c0
              have d1 := hy.c1
              refine bodyPost_ret (v := .tuple #[.agg #[.string ⟨N.toArray⟩, .string ⟨D.toArray⟩], .int .i64 0]) (by simp [results, Tryz.results219, go_sem, d0, d1]) rfl ?_
              exact ⟨by rw [HV.out HO.out], below_set2 hb (Nat.le_refl _) _ _⟩
            · by_cases h0 : n = 0
              · obtain ⟨e1, e2⟩ := str_nil (z := (n : Int)) (by omega)
                have HV := Lib.hid (HF.out (HN0.out (by first | rfl | trivial) h0))
                clear HW0 HW1 HP0 HN0 HOk HY HF HT HQ HZ HN
                have q0 := x2.c0
                have q1 := x2.c1
                have q2 := x2.f0
                have q3 := x2.f1
                go_wp2
                have hy := x2.set (.string ⟨#[]⟩) (.string ⟨#[]⟩)
                have d0 := hy.c0
                have d1 := hy.c1
                refine bodyPost_ret (v := .tuple #[.agg #[.string ⟨#[]⟩, .string ⟨#[]⟩], .int .i64 3]) (by simp [results, Tryz.results219, go_sem, d0, d1]) rfl ?_
                exact ⟨by rw [HV.out], below_set2 hb (Nat.le_refl _) _ _⟩
              · obtain ⟨e1, e2⟩ := str_ne (z := (n : Int)) (by omega)
                have C8 := Lib.hid (riNeg (l := canon (n : Int)) (by omega) (show -val (canon (n : Int)) = -(n : Int) by rw [val_canon]))
                go_wp2_with fail
                ((with_reducible refine (C8.out.of hG hb).mono ?_); rintro e w8 ⟨rfl, hb8⟩)
                replace hb := bto hb hb8
                replace x2 := x2.below hb8
                clear hb8
                clear e1 e2 C8
                have hz : z = -(n : Int) := HZ.out.trans rfl
                have C6 := Lib.hid (rRepeat (P.length : Int) P.length rfl (by omega))
                have ha1 := str_add [49] (List.replicate P.length 48) (by decide) (by simp; omega)
                have C7 := Lib.hid (rNew (l := canon (-(n : Int))) (l' := 49 :: List.replicate P.length 48) (by omega) (by simp; omega) (by rw [val_one0]; have := Nat.pow_pos (n := P.length) (show 0 < 10 by decide); omega) (show Rat.divInt (val (canon (-(n : Int)))) (val (49 :: List.replicate P.length 48)) = q by rw [val_canon, val_one0, HQ.out, hz]))
                have HV := Lib.hid HT.out
                have HO := Lib.hid (HOk.out (HWk.out) (.inr HD2.out) (.inr h0))
                clear HW0 HW1 HP0 HN0 HOk HY HF HT HQ HZ HN hz
                generalize fN q = N at *
                generalize fD q = D at *
                generalize hrp : List.replicate P.length (48 : UInt8) = Rp at *
                clear hrp
                go_wp2_with fail
                ((with_reducible refine (C6.out.of hG hb).mono ?_); rintro e w6 ⟨rfl, hb6⟩)
                replace hb := bto hb hb6
                replace x2 := x2.below hb6
                clear hb6
                go_wp2_with fail
                ((with_reducible refine (C7.out.of hG hb).mono ?_); rintro e w7 ⟨rfl, hb7⟩)
                replace hb := bto hb hb7
                replace x2 := x2.below hb7
                clear hb7
                have x10 := FBox.new w7 (.string ⟨N.toArray⟩) (.string ⟨D.toArray⟩) 25
                replace x2 := x2.below (below_alloc w7 (.cells #[.string ⟨N.toArray⟩, .string ⟨D.toArray⟩] 25))
                replace hb := bto hb (below_alloc w7 (.cells #[.string ⟨N.toArray⟩, .string ⟨D.toArray⟩] 25))
                have q0 := x2.c0
                have q1 := x2.c1
                have q2 := x2.f0
                have q3 := x2.f1
                have g0 := x10.c0
                have g1 := x10.c1
                go_wp2
                have hy := x2.set (.string ⟨N.toArray⟩) (.string ⟨D.toArray⟩)
                have d0 := hy.c0
                have d1 := hy.c1
                refine bodyPost_ret (v := .tuple #[.agg #[.string ⟨N.toArray⟩, .string ⟨D.toArray⟩], .int .i64 0]) (by simp [results, Tryz.results219, go_sem, d0, d1]) rfl ?_
                exact ⟨by rw [HV.out HO.out], below_set2 hb (Nat.le_refl _) _ _⟩
    · have g1' : decide (1 < W.length) = false := decide_eq_false g1
      have HWk := Lib.hid (okW_one HD.out g1)
      cases hB : B
      · subst hB
        have HA := Lib.hid (HY.out (HWk.out) (by first | exact .inl rfl | exact .inl trivial))
        have hv := val_alldig HA.out
        rw [← HN.out] at hv
        have C5 := Lib.hid (riCanonical (l := W ++ P) (by rw [List.length_append]; omega) hv)
        have hnl := canon_len_le (n : Int) (W ++ P).length (by rw [← hv]; exact val_lt (W ++ P))
        have hnm := canon_len_le (-(n : Int)) (W ++ P).length (by rw [Int.natAbs_neg, ← hv]; exact val_lt (W ++ P))
        rw [List.length_append] at hnl hnm
        clear hv HA
        go_wp2_with fail
        ((with_reducible refine (C5.out.of hG hb).mono ?_); rintro e w5 ⟨rfl, hb5⟩)
        replace hb := bto hb hb5
        replace x2 := x2.below hb5
        clear hb5
        clear hadd C5
        cases ng
        · have hz : z = (n : Int) := HZ.out.trans rfl
          have C6 := Lib.hid (rRepeat (P.length : Int) P.length rfl (by omega))
          have ha1 := str_add [49] (List.replicate P.length 48) (by decide) (by simp; omega)
          have C7 := Lib.hid (rNew (l := canon (n : Int)) (l' := 49 :: List.replicate P.length 48) (by omega) (by simp; omega) (by rw [val_one0]; have := Nat.pow_pos (n := P.length) (show 0 < 10 by decide); omega) (show Rat.divInt (val (canon (n : Int))) (val (49 :: List.replicate P.length 48)) = q by rw [val_canon, val_one0, HQ.out, hz]))
          have HV := Lib.hid HT.out
          have HO := Lib.hid (HOk.out (HWk.out) (by first | exact .inl rfl | exact .inl trivial) (by first | exact .inl rfl | exact .inl trivial))
          clear HW0 HW1 HP0 HN0 HOk HY HF HT HQ HZ HN hz
          generalize fN q = N at *
          generalize fD q = D at *
          generalize hrp : List.replicate P.length (48 : UInt8) = Rp at *
          clear hrp
          go_wp2_with fail
          ((with_reducible refine (C6.out.of hG hb).mono ?_); rintro e w6 ⟨rfl, hb6⟩)
          replace hb := bto hb hb6
          replace x2 := x2.below hb6
          clear hb6
          go_wp2_with fail
          ((with_reducible refine (C7.out.of hG hb).mono ?_); rintro e w7 ⟨rfl, hb7⟩)
          replace hb := bto hb hb7
          replace x2 := x2.below hb7
          clear hb7
          have x10 := FBox.new w7 (.string ⟨N.toArray⟩) (.string ⟨D.toArray⟩) 25
          replace x2 := x2.below (below_alloc w7 (.cells #[.string ⟨N.toArray⟩, .string ⟨D.toArray⟩] 25))
          replace hb := bto hb (below_alloc w7 (.cells #[.string ⟨N.toArray⟩, .string ⟨D.toArray⟩] 25))
          have q0 := x2.c0
          have q1 := x2.c1
          have q2 := x2.f0
          have q3 := x2.f1
          have g0 := x10.c0
          have g1 := x10.c1
          go_wp2
          have hy := x2.set (.string ⟨N.toArray⟩) (.string ⟨D.toArray⟩)
          have d0 := hy.c0
          have d1 := hy.c1
          refine bodyPost_ret (v := .tuple #[.agg #[.string ⟨N.toArray⟩, .string ⟨D.toArray⟩], .int .i64 0]) (by simp [results, Tryz.results219, go_sem, d0, d1]) rfl ?_
          exact ⟨by rw [HV.out HO.out], below_set2 hb (Nat.le_refl _) _ _⟩
        · by_cases h0 : n = 0
          · obtain ⟨e1, e2⟩ := str_nil (z := (n : Int)) (by omega)
            have HV := Lib.hid (HF.out (HN0.out (by first | rfl | trivial) h0))
            clear HW0 HW1 HP0 HN0 HOk HY HF HT HQ HZ HN
            have q0 := x2.c0
            have q1 := x2.c1
            have q2 := x2.f0
            have q3 := x2.f1
            go_wp2
            have hy := x2.set (.string ⟨#[]⟩) (.string ⟨#[]⟩)
            have d0 := hy.c0
            have d1 := hy.c1
            refine bodyPost_ret (v := .tuple #[.agg #[.string ⟨#[]⟩, .string ⟨#[]⟩], .int .i64 3]) (by simp [results, Tryz.results219, go_sem, d0, d1]) rfl ?_
            exact ⟨by rw [HV.out], below_set2 hb (Nat.le_refl _) _ _⟩
          · obtain ⟨e1, e2⟩ := str_ne (z := (n : Int)) (by omega)
            have C8 := Lib.hid (riNeg (l := canon (n : Int)) (by omega) (show -val (canon (n : Int)) = -(n : Int) by rw [val_canon]))
            go_wp2_with fail
            ((with_reducible refine (C8.out.of hG hb).mono ?_); rintro e w8 ⟨rfl, hb8⟩)
            replace hb := bto hb hb8
            replace x2 := x2.below hb8
            clear hb8
            clear e1 e2 C8
            have hz : z = -(n : Int) := HZ.out.trans rfl
            have C6 := Lib.hid (rRepeat (P.length : Int) P.length rfl (by omega))
            have ha1 := str_add [49] (List.replicate P.length 48) (by decide) (by simp; omega)
            have C7 := Lib.hid (rNew (l := canon (-(n : Int))) (l' := 49 :: List.replicate P.length 48) (by omega) (by simp; omega) (by rw [val_one0]; have := Nat.pow_pos (n := P.length) (show 0 < 10 by decide); omega) (show Rat.divInt (val (canon (-(n : Int)))) (val (49 :: List.replicate P.length 48)) = q by rw [val_canon, val_one0, HQ.out, hz]))
            have HV := Lib.hid HT.out
            have HO := Lib.hid (HOk.out (HWk.out) (by first | exact .inl rfl | exact .inl trivial) (.inr h0))
            clear HW0 HW1 HP0 HN0 HOk HY HF HT HQ HZ HN hz
            generalize fN q = N at *
            generalize fD q = D at *
            generalize hrp : List.replicate P.length (48 : UInt8) = Rp at *
            clear hrp
            go_wp2_with fail
            ((with_reducible refine (C6.out.of hG hb).mono ?_); rintro e w6 ⟨rfl, hb6⟩)
            replace hb := bto hb hb6
            replace x2 := x2.below hb6
            clear hb6
            go_wp2_with fail
            ((with_reducible refine (C7.out.of hG hb).mono ?_); rintro e w7 ⟨rfl, hb7⟩)
            replace hb := bto hb hb7
            replace x2 := x2.below hb7
            clear hb7
            have x10 := FBox.new w7 (.string ⟨N.toArray⟩) (.string ⟨D.toArray⟩) 25
            replace x2 := x2.below (below_alloc w7 (.cells #[.string ⟨N.toArray⟩, .string ⟨D.toArray⟩] 25))
            replace hb := bto hb (below_alloc w7 (.cells #[.string ⟨N.toArray⟩, .string ⟨D.toArray⟩] 25))
            have q0 := x2.c0
            have q1 := x2.c1
            have q2 := x2.f0
            have q3 := x2.f1
            have g0 := x10.c0
            have g1 := x10.c1
            go_wp2
            have hy := x2.set (.string ⟨N.toArray⟩) (.string ⟨D.toArray⟩)
            have d0 := hy.c0
            have d1 := hy.c1
            refine bodyPost_ret (v := .tuple #[.agg #[.string ⟨N.toArray⟩, .string ⟨D.toArray⟩], .int .i64 0]) (by simp [results, Tryz.results219, go_sem, d0, d1]) rfl ?_
            exact ⟨by rw [HV.out HO.out], below_set2 hb (Nat.le_refl _) _ _⟩
      · subst hB
        cases hp : isD P
        · have HD2 := Lib.hid hp
          rw [hp] at C4
          clear hp
          go_wp2_with fail
          ((with_reducible refine (C4.out.of hG hb).mono ?_); rintro e w4 ⟨rfl, hb4⟩)
          replace hb := bto hb hb4
          replace x2 := x2.below hb4
          clear hb4
          have HV := Lib.hid (HF.out (HP0.out (by first | rfl | trivial) HD2.out))
          clear HW0 HW1 HP0 HN0 HOk HY HF HT HQ HZ HN
          have q0 := x2.c0
          have q1 := x2.c1
          have q2 := x2.f0
          have q3 := x2.f1
          go_wp2
          have hy := x2.set (.string ⟨#[]⟩) (.string ⟨#[]⟩)
          have d0 := hy.c0
          have d1 := hy.c1
          refine bodyPost_ret (v := .tuple #[.agg #[.string ⟨#[]⟩, .string ⟨#[]⟩], .int .i64 3]) (by simp [results, Tryz.results219, go_sem, d0, d1]) rfl ?_
          exact ⟨by rw [HV.out], below_set2 hb (Nat.le_refl _) _ _⟩
        · have HD2 := Lib.hid hp
          rw [hp] at C4
          clear hp
          go_wp2_with fail
          ((with_reducible refine (C4.out.of hG hb).mono ?_); rintro e w4 ⟨rfl, hb4⟩)
          replace hb := bto hb hb4
          replace x2 := x2.below hb4
          clear hb4
          have HA := Lib.hid (HY.out (HWk.out) (.inr HD2.out))
          have hv := val_alldig HA.out
          rw [← HN.out] at hv
          have C5 := Lib.hid (riCanonical (l := W ++ P) (by rw [List.length_append]; omega) hv)
          have hnl := canon_len_le (n : Int) (W ++ P).length (by rw [← hv]; exact val_lt (W ++ P))
          have hnm := canon_len_le (-(n : Int)) (W ++ P).length (by rw [Int.natAbs_neg, ← hv]; exact val_lt (W ++ P))
          rw [List.length_append] at hnl hnm
          clear hv HA
          go_wp2_with fail
          ((with_reducible refine (C5.out.of hG hb).mono ?_); rintro e w5 ⟨rfl, hb5⟩)
          replace hb := bto hb hb5
          replace x2 := x2.below hb5
          clear hb5
          clear hadd C5
          cases ng
          · have hz : z = (n : Int) := HZ.out.trans rfl
            have C6 := Lib.hid (rRepeat (P.length : Int) P.length rfl (by omega))
            have ha1 := str_add [49] (List.replicate P.length 48) (by decide) (by simp; omega)
            have C7 := Lib.hid (rNew (l := canon (n : Int)) (l' := 49 :: List.replicate P.length 48) (by omega) (by simp; omega) (by rw [val_one0]; have := Nat.pow_pos (n := P.length) (show 0 < 10 by decide); omega) (show Rat.divInt (val (canon (n : Int))) (val (49 :: List.replicate P.length 48)) = q by rw [val_canon, val_one0, HQ.out, hz]))
            have HV := Lib.hid HT.out
            have HO := Lib.hid (HOk.out (HWk.out) (.inr HD2.out) (by first | exact .inl rfl | exact .inl trivial))
            clear HW0 HW1 HP0 HN0 HOk HY HF HT HQ HZ HN hz
            generalize fN q = N at *
            generalize fD q = D at *
            generalize hrp : List.replicate P.length (48 : UInt8) = Rp at *
            clear hrp
            go_wp2_with fail
            ((with_reducible refine (C6.out.of hG hb).mono ?_); rintro e w6 ⟨rfl, hb6⟩)
            replace hb := bto hb hb6
            replace x2 := x2.below hb6
            clear hb6
            go_wp2_with fail
            ((with_reducible refine (C7.out.of hG hb).mono ?_); rintro e w7 ⟨rfl, hb7⟩)
            replace hb := bto hb hb7
            replace x2 := x2.below hb7
            clear hb7
            have x10 := FBox.new w7 (.string ⟨N.toArray⟩) (.string ⟨D.toArray⟩) 25
            replace x2 := x2.below (below_alloc w7 (.cells #[.string ⟨N.toArray⟩, .string ⟨D.toArray⟩] 25))
            replace hb := bto hb (below_alloc w7 (.cells #[.string ⟨N.toArray⟩, .string ⟨D.toArray⟩] 25))
            have q0 := x2.c0
            have q1 := x2.c1
            have q2 := x2.f0
            have q3 := x2.f1
            have g0 := x10.c0
            have g1 := x10.c1
            go_wp2
            have hy := x2.set (.string ⟨N.toArray⟩) (.string ⟨D.toArray⟩)
            have d0 := hy.c0
            have d1 := hy.c1
            refine bodyPost_ret (v := .tuple #[.agg #[.string ⟨N.toArray⟩, .string ⟨D.toArray⟩], .int .i64 0]) (by simp [results, Tryz.results219, go_sem, d0, d1]) rfl ?_
            exact ⟨by rw [HV.out HO.out], below_set2 hb (Nat.le_refl _) _ _⟩
          · by_cases h0 : n = 0
            · obtain ⟨e1, e2⟩ := str_nil (z := (n : Int)) (by omega)
              have HV := Lib.hid (HF.out (HN0.out (by first | rfl | trivial) h0))
              clear HW0 HW1 HP0 HN0 HOk HY HF HT HQ HZ HN
              have q0 := x2.c0
              have q1 := x2.c1
              have q2 := x2.f0
              have q3 := x2.f1
              go_wp2
              have hy := x2.set (.string ⟨#[]⟩) (.string ⟨#[]⟩)
              have d0 := hy.c0
              have d1 := hy.c1
              refine bodyPost_ret (v := .tuple #[.agg #[.string ⟨#[]⟩, .string ⟨#[]⟩], .int .i64 3]) (by simp [results, Tryz.results219, go_sem, d0, d1]) rfl ?_
              exact ⟨by rw [HV.out], below_set2 hb (Nat.le_refl _) _ _⟩
            · obtain ⟨e1, e2⟩ := str_ne (z := (n : Int)) (by omega)
              have C8 := Lib.hid (riNeg (l := canon (n : Int)) (by omega) (show -val (canon (n : Int)) = -(n : Int) by rw [val_canon]))
              go_wp2_with fail
              ((with_reducible refine (C8.out.of hG hb).mono ?_); rintro e w8 ⟨rfl, hb8⟩)
              replace hb := bto hb hb8
              replace x2 := x2.below hb8
              clear hb8
              clear e1 e2 C8
              have hz : z = -(n : Int) := HZ.out.trans rfl
              have C6 := Lib.hid (rRepeat (P.length : Int) P.length rfl (by omega))
              have ha1 := str_add [49] (List.replicate P.length 48) (by decide) (by simp; omega)
              have C7 := Lib.hid (rNew (l := canon (-(n : Int))) (l' := 49 :: List.replicate P.length 48) (by omega) (by simp; omega) (by rw [val_one0]; have := Nat.pow_pos (n := P.length) (show 0 < 10 by decide); omega) (show Rat.divInt (val (canon (-(n : Int)))) (val (49 :: List.replicate P.length 48)) = q by rw [val_canon, val_one0, HQ.out, hz]))
              have HV := Lib.hid HT.out
              have HO := Lib.hid (HOk.out (HWk.out) (.inr HD2.out) (.inr h0))
              clear HW0 HW1 HP0 HN0 HOk HY HF HT HQ HZ HN hz
              generalize fN q = N at *
              generalize fD q = D at *
              generalize hrp : List.replicate P.length (48 : UInt8) = Rp at *
              clear hrp
              go_wp2_with fail
              ((with_reducible refine (C6.out.of hG hb).mono ?_); rintro e w6 ⟨rfl, hb6⟩)
              replace hb := bto hb hb6
              replace x2 := x2.below hb6
              clear hb6
              go_wp2_with fail
              ((with_reducible refine (C7.out.of hG hb).mono ?_); rintro e w7 ⟨rfl, hb7⟩)
              replace hb := bto hb hb7
              replace x2 := x2.below hb7
              clear hb7
              have x10 := FBox.new w7 (.string ⟨N.toArray⟩) (.string ⟨D.toArray⟩) 25
              replace x2 := x2.below (below_alloc w7 (.cells #[.string ⟨N.toArray⟩, .string ⟨D.toArray⟩] 25))
              replace hb := bto hb (below_alloc w7 (.cells #[.string ⟨N.toArray⟩, .string ⟨D.toArray⟩] 25))
              have q0 := x2.c0
              have q1 := x2.c1
              have q2 := x2.f0
              have q3 := x2.f1
              have g0 := x10.c0
              have g1 := x10.c1
              go_wp2
              have hy := x2.set (.string ⟨N.toArray⟩) (.string ⟨D.toArray⟩)
              have d0 := hy.c0
              have d1 := hy.c1
              refine bodyPost_ret (v := .tuple #[.agg #[.string ⟨N.toArray⟩, .string ⟨D.toArray⟩], .int .i64 0]) (by simp [results, Tryz.results219, go_sem, d0, d1]) rfl ?_
              exact ⟨by rw [HV.out HO.out], below_set2 hb (Nat.le_refl _) _ _⟩
set_option maxHeartbeats 1000000 in
set_option maxRecDepth 100000 in
theorem dFracLong {s : List UInt8} (hs : 65536 < s.length) (hs2 : s.length ≤ 9223372036854775807) : Ret 219 #[.string ⟨s.toArray⟩] (.tuple #[.agg #[.string ⟨#[]⟩, .string ⟨#[]⟩], .int .i64 4]) := fun w hG => by
  have k0 : decide (65536 < s.length) = true := decide_eq_true (by omega)
  have hb := below_alloc w (.cells #[.string ⟨#[]⟩, .string ⟨#[]⟩] 25)
  go_enter Tryz.func219, Tryz.ntmps219
  go_wp2
  refine bodyPost_ret (v := .tuple #[.agg #[.string ⟨#[]⟩, .string ⟨#[]⟩], .int .i64 4]) (by simp [results, Tryz.results219, go_sem]) rfl ?_
  exact ⟨rfl, hb⟩
end Go.Proofs.YtgnppdkeiihlfaaGreatDoor
