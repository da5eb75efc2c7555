/- Growth factors, one behind the other; the product of whatever an iterator yields: package timeweighted. -/
import Derived.Test.YtmjglcgdcclinaaGreatDoorTr
import Derived.Test.YtmjglcgdcclinaaGreatDoorTp
namespace Go.Proofs.YtmjglcgdcclinaaGreatDoor
open Go.RowKit Go.Shelf Num
attribute [local go_sem] Oper.semAt_some
section
variable {w : World} {b c l i : Nat} {v u x y : Value} {cs : Array Value} {ob : Obj}
theorem Blk.set1 (h : Blk w b #[v]) (u : Value) : Blk (w.setCell ⟨b, 0, none⟩ u) b #[u] := by
  obtain ⟨t, h⟩ := h
  refine ⟨t, ?_⟩
  obtain ⟨hlt, hk⟩ := Array.getElem?_eq_some_iff.1 h
  show (w.heap.modify b _)[b]? = _
  rw [Array.getElem?_eq_getElem (by rw [Array.size_modify]; exact hlt), Array.getElem_modify_self, hk]
  rfl
theorem Blk.setAt (h : Blk w b cs) (i : Nat) (u : Value) : Blk (w.setCell ⟨b, i, none⟩ u) b (cs.setIfInBounds i u) := by
  obtain ⟨t, h⟩ := h
  refine ⟨t, ?_⟩
  obtain ⟨hlt, hk⟩ := Array.getElem?_eq_some_iff.1 h
  show (w.heap.modify b _)[b]? = _
  rw [Array.getElem?_eq_getElem (by rw [Array.size_modify]; exact hlt), Array.getElem_modify_self, hk]
  simp
theorem Blk.set2 (h : Blk w b #[u, v]) (x y : Value) : Blk ((w.setCell ⟨b, 0, none⟩ x).setCell ⟨b, 1, none⟩ y) b #[x, y] := (h.setAt 0 x).setAt 1 y
theorem Blk.setO (h : Blk w b cs) (hn : b ≠ c) : Blk (w.setCell ⟨c, i, none⟩ u) b cs := by
  obtain ⟨t, h⟩ := h
  exact ⟨t, (Below.heap_setCell w ⟨c, i, none⟩ u b hn).trans h⟩
theorem Blk.putO (h : Blk w b cs) (hn : b ≠ l) : Blk (w.putObj l ob) b cs := by
  obtain ⟨t, h⟩ := h
  exact ⟨t, (World.putObj_heap_other hn).trans h⟩
theorem Blk.box (h : Blk w b #[u, v]) : FBox w b u v := ⟨h.c 0, h.c 1, h.f 0, h.f 1, h.lt⟩
end
theorem below_put {w W : World} {l : Nat} {ob : Obj} (h : Below w.heap.size w W) (hl : w.heap.size ≤ l) : Below w.heap.size w (W.putObj l ob) :=
  h.trans ⟨rfl, rfl, rfl, by simp, fun k hk => World.putObj_heap_other (by omega)⟩
theorem setCell_loop {w : World} {l c i : Nat} {u : Value} {ob : Obj} (h : w.heap[l]? = some ob) (hn : l ≠ c) : (w.setCell ⟨c, i, none⟩ u).heap[l]? = some ob := (Below.heap_setCell w ⟨c, i, none⟩ u l hn).trans h
set_option maxHeartbeats 1000000 in
set_option maxRecDepth 100000 in
theorem twRatio {l l' : List UInt8} (hl : l.length ≤ 1000000) (hl' : l'.length ≤ 1000000) (h0 : val l' ≠ 0) {q : Rat} (eq : Rat.divInt (val l) (val l') = q) : Ret 83 #[.string ⟨l.toArray⟩, .string ⟨l'.toArray⟩] (Value.agg #[Value.string ⟨List.toArray (fN q)⟩, Value.string ⟨List.toArray (fD q)⟩]) := fun w hG => by
  have C1 := Lib.hid (rNew (l := l) (l' := l') hl hl' h0 eq)
  have x3 := FBox.new w (.string ⟨#[]⟩) (.string ⟨#[]⟩) 32
  have hb := below_alloc w (.cells #[.string ⟨#[]⟩, .string ⟨#[]⟩] 32)
  clear hl hl' h0 eq
  go_enter Tryz.func83, Tryz.ntmps83
  go_wp2_with fail
  ((with_reducible refine (C1.out.of hG hb).mono ?_); rintro e w2 ⟨rfl, hb2⟩)
  have x4 := FBox.new w2 (.string ⟨(fN q).toArray⟩) (.string ⟨(fD q).toArray⟩) 32
  have hbA := below_alloc w2 (.cells #[.string ⟨(fN (q)).toArray⟩, .string ⟨(fD (q)).toArray⟩] 32)
  replace x3 := (x3.below hb2).below hbA
  replace hb := bto hb (bto hb2 hbA)
  have g0 := x3.c0
  have g1 := x3.c1
  have g2 := x3.f0
  have g3 := x3.f1
  have p0 := x4.c0
  have p1 := x4.c1
  clear hb2 hbA
  go_wp2
  have hy := x3.set (.string ⟨(fN q).toArray⟩) (.string ⟨(fD q).toArray⟩)
  have d0 := hy.c0
  have d1 := hy.c1
  refine bodyPost_ret (v := (Value.agg #[Value.string ⟨List.toArray (fN q)⟩, Value.string ⟨List.toArray (fD q)⟩])) (by simp [results, Tryz.results83, go_sem, d0, d1]) rfl ?_
  exact ⟨rfl, below_set2 hb (Nat.le_refl _) _ _⟩
/-- what a function value yields, wherever it is called beyond w -/
def IterOk (w : World) (gf : Nat) (lb : Array Value) (qs : List Rat) (M : Nat) : Prop :=
  ∀ (m lw : Nat) (S : List Rat → World → Prop), (∀ ys W, S ys W → Below w.heap.size w W) → (∀ ys W W', S ys W → Below W.heap.size W W' → S ys W') →
    (∀ ys y W, S ys W → Bd M y → ys.length < qs.length → YieldAt Fence.wide (m - 1) Tryz.prog lw #[(Value.agg #[Value.string ⟨List.toArray (fN y)⟩, Value.string ⟨List.toArray (fD y)⟩])] W fun e W' => e = .returned (.bool true) ∧ S (ys ++ [y]) W') →
    ∀ W, S [] W → CallsIn Fence.wide m Tryz.prog gf (#[.func (.yield lw) #[] #[]] ++ lb) W fun e W' => (∃ v, e = .returned v) ∧ S qs W'
theorem IterOk.below {w w1 : World} {gf : Nat} {lb : Array Value} {qs : List Rat} {M : Nat} (h : IterOk w gf lb qs M) (hb : Below w.heap.size w w1) : IterOk w1 gf lb qs M :=
  fun m lw S h1 h2 h3 W h4 => h m lw S (fun ys W hS => bto hb (h1 ys W hS)) h2 h3 W h4
set_option maxHeartbeats 4000000 in
set_option maxRecDepth 100000 in
theorem facs1_in (bl : Nat) (A : Option Addr) (ts : List Pnt) (n c : Nat) (w : World) (hG : Glob w) (hn : ts.length = n) (hn0 : 1 ≤ n) (hn3 : n ≤ 1000) (hok : ∀ t ∈ ts, PntOk t) (hp : PosL (pts ts)) (h : PntAt w A ts) (hbl : Blk w bl #[.slice A n c]) :
    IterOk w 143 #[.pointer (some ⟨bl, 0, none⟩)] (facs (pts ts)) 42 := by
  intro m lw S hSB hSm hY W hS
  have HI := Lib.hid h
  have HP := Lib.hid hp
  have HS0 := Lib.hid hok
  have HB := Lib.hid hSB
  have HM := Lib.hid hSm
  have HY := Lib.hid hY
  have HX := Lib.hid hS
  have hn1 : ts.length ≤ n := by omega
  have hn2 : n ≤ ts.length := by omega
  have HFL : Hid ((facs (pts ts)).length = n - 1) := by show _ = _; rw [facs_len, pts_len]; omega
  clear h hp hok hSB hSm hY hS hn
  show CallsIn Fence.wide m Tryz.prog 143 #[.func (.yield lw) #[] #[], .pointer (some ⟨bl, 0, none⟩)] W _
  refine callsIn_of_wp Tryz.func143 rfl trivial ?_ rfl
  simp only [Tryz.ntmps143, List.size_toArray, List.length_cons, List.length_nil, Nat.reduceAdd, Nat.reduceSub, Array.replicate_succ, Array.replicate_zero, List.push_toArray, List.append_toArray, List.nil_append, List.cons_append]
  gi_wp2_with fail
  gi_loopw [3] (fun iv wr => ∃ (k : Nat) (ys : List Rat), k + 1 ≤ n ∧ iv = .int .i64 ((k : Int) + 1) ∧ Hid (ys.length = k) ∧ Hid (ys ++ facs (pts (ts.drop k)) = facs (pts ts)) ∧ Hid (S ys wr)) (fun iv _ => n + 1 - (intOf iv).toNat)
  case atStart => exact ⟨0, [], hn0, rfl, rfl, rfl, HX.out⟩
  case round =>
    clear HX
    obtain ⟨k, ys, hk, rfl, HL, HQ, HX⟩ := hrel
    have hb := HB.out _ _ HX.out
    have hGr := hG.below hb
    have hblk := hbl.below hb
    have q0 : wr.cell? ⟨bl, 0, none⟩ = some (.slice A n c) := hblk.c 0
    by_cases hlk : k + 1 < n
    rotate_left
    · have HE : Hid (S (facs (pts ts)) wr) := by
        have h1 := HQ.out
        rw [facs_end (by omega), List.append_nil] at h1
        show S _ wr
        rw [← h1]; exact HX.out
      have e1 : decide ((k : Int) + 1 < n) = false := decide_eq_false (by omega)
      clear HQ HX HL
      gi_wp2
      go_end0
      exact ⟨⟨_, rfl⟩, HE.out⟩
    have e1 : decide ((k : Int) + 1 < n) = true := decide_eq_true (by omega)
    obtain ⟨t, ht⟩ : ∃ t, ts[k]? = some t := ⟨_, List.getElem?_eq_getElem (by omega)⟩
    obtain ⟨u, hu⟩ : ∃ u, ts[k + 1]? = some u := ⟨_, List.getElem?_eq_getElem (by omega)⟩
    have oT := HS0.out t (List.mem_of_getElem? ht)
    have oU := HS0.out u (List.mem_of_getElem? hu)
    have hpos := posL_at HP.out ht hu
    have HBd := Lib.hid (fac_bd hpos oT oU)
    have HN := Lib.hid (facs_step ht hu)
    have hl1 := oT.lv
    have hl2 := oT.lf
    have hl3 := oU.lv
    have C1 := Lib.hid (tStart t (by omega) (by omega))
    have hyl : (canon (val t.vl + val t.fl)).length ≤ 100 := Nat.le_trans (canon_len_le _ 62 (by have h1 := val_lt_of (l := t.vl) (k := 60) (by omega); have h2 := val_lt_of (l := t.fl) (k := 60) (by omega); have h3 := Int.natAbs_add_le (val t.vl) (val t.fl); have h4 : (10 : Nat) ^ 60 + 10 ^ 60 ≤ 10 ^ 62 := (by decide); omega)) (by decide)
    have C2 := Lib.hid (twRatio (l := u.vl) (l' := canon (val t.vl + val t.fl)) (by omega) (by omega) (by rw [val_canon]; omega) (show _ = Rat.divInt (val u.vl) (val t.vl + val t.fl) by rw [val_canon]))
    obtain ⟨y, hy⟩ : ∃ y, y = Rat.divInt (val u.vl) (val t.vl + val t.fl) := ⟨_, rfl⟩
    rw [← hy] at C2 HN HBd
    obtain ⟨sm, hsm⟩ : ∃ sm, sm = canon (val t.vl + val t.fl) := ⟨_, rfl⟩
    rw [← hsm] at C1 C2
    have HQ2 : Hid (ys ++ [y] ++ facs (pts (ts.drop (k + 1))) = facs (pts ts)) := by
      show _ = _
      rw [List.append_assoc, List.singleton_append, ← HN.out]; exact HQ.out
    have HL2 : Hid ((ys ++ [y]).length = k + 1) := by show _ = _; rw [List.length_append, HL.out]; rfl
    have HYY : Hid (∀ W, S ys W → YieldAt Fence.wide (m - 1) Tryz.prog lw #[(Value.agg #[Value.string ⟨List.toArray (fN y)⟩, Value.string ⟨List.toArray (fD y)⟩])] W fun e W' => e = .returned (.bool true) ∧ S (ys ++ [y]) W') := fun W h1 => HY.out ys y W h1 HBd.out (by rw [HFL.out, HL.out]; omega)
    obtain ⟨b, o, rfl, hbs, p0, p1, p2⟩ := (HI.out.below hb) k t ht
    obtain ⟨b', o', hA', hbs', -, r1, -⟩ := (HI.out.below hb) (k + 1) u hu
    obtain ⟨rfl, rfl⟩ : b = b' ∧ o = o' := by injection hA' with hA'; injection hA' with h1 h2; exact ⟨h1, h2⟩
    have hwr : IntKind.i64.wrap ((k : Int) + 1 - 1) = (k : Int) := by rw [Go.IntWalk.i64_in _ (by omega)]; omega
    have hwr2 : IntKind.i64.wrap (k : Int) = (k : Int) := Go.IntWalk.i64_in _ (by omega)
    have hko : k < n := by omega
    have k0 : (k : Int) + 1 - 1 = (k : Int) := by omega
    have k1 : ((k : Int) + 1).toNat = k + 1 := by omega
    have k2 : (k : Int) + 1 < n := by omega
    have k3 : (k : Int) < n := by omega
    have k4 : 0 ≤ (k : Int) + 1 := by omega
    clear ht hu oT oU hpos hl1 hl2 hl3 hyl hy hsm HBd HN HQ HL hbs' hA' hb
    gi_wp2_with fail
    refine wpIn_region_tail2D (by simp) (by simp) (by kernel_rfl) (by kernel_rfl) (by kernel_rfl) (by kernel_rfl) (by kernel_rfl) ?_
    simp only [List.dropLast_cons_cons, List.dropLast_singleton, List.getLast_cons_cons, List.getLast_singleton]
    refine kept_val _ (fun _ => rfl) (fun ρ wz hw => by go_simp; first | done | with_reducible rfl) ?_
    simp only [Act.put, List.setIfInBounds_toArray, List.set_cons_zero, List.set_cons_succ, Nat.reduceAdd]
    refine kept_val _ (fun _ => rfl) (fun ρ wz hw => by have q0 : wz.cell? ⟨bl, 0, none⟩ = some (.slice (some ⟨b, o, none⟩) n c) := (hblk.below hw).c 0; go_simp; first | done | with_reducible rfl) ?_
    simp only [Act.put, List.setIfInBounds_toArray, List.set_cons_zero, List.set_cons_succ, Nat.reduceAdd]
    refine kept_val _ (fun _ => rfl) (fun ρ wz hw => by go_simp; first | done | with_reducible rfl) ?_
    simp only [Act.put, List.setIfInBounds_toArray, List.set_cons_zero, List.set_cons_succ, Nat.reduceAdd]
    refine kept_val _ (fun _ => rfl) (fun ρ wz hw => by go_simp; first | done | with_reducible rfl) ?_
    simp only [Act.put, List.setIfInBounds_toArray, List.set_cons_zero, List.set_cons_succ, Nat.reduceAdd]
    refine kept_val _ (fun _ => rfl) (fun ρ wz hw => by go_simp; first | done | with_reducible rfl) ?_
    simp only [Act.put, List.setIfInBounds_toArray, List.set_cons_zero, List.set_cons_succ, Nat.reduceAdd]
    refine kept_val _ (fun _ => rfl) (fun ρ wz hw => by have q0 := (hw.cell (p := ⟨b, o + (k + 1) * 3 + 1, none⟩) hbs).trans r1; go_simp; first | done | with_reducible rfl) ?_
    simp only [Act.put, List.setIfInBounds_toArray, List.set_cons_zero, List.set_cons_succ, Nat.reduceAdd]
    refine kept_val _ (fun _ => rfl) (fun ρ wz hw => by have q0 : wz.cell? ⟨bl, 0, none⟩ = some (.slice (some ⟨b, o, none⟩) n c) := (hblk.below hw).c 0; go_simp; first | done | with_reducible rfl) ?_
    simp only [Act.put, List.setIfInBounds_toArray, List.set_cons_zero, List.set_cons_succ, Nat.reduceAdd]
    refine kept_val _ (fun _ => rfl) (fun ρ wz hw => by go_simp; first | done | with_reducible rfl) ?_
    simp only [Act.put, List.setIfInBounds_toArray, List.set_cons_zero, List.set_cons_succ, Nat.reduceAdd]
    refine kept_val _ (fun _ => rfl) (fun ρ wz hw => by go_simp; first | done | with_reducible rfl) ?_
    simp only [Act.put, List.setIfInBounds_toArray, List.set_cons_zero, List.set_cons_succ, Nat.reduceAdd]
    refine kept_val _ (fun _ => rfl) (fun ρ wz hw => by go_simp; first | done | with_reducible rfl) ?_
    simp only [Act.put, List.setIfInBounds_toArray, List.set_cons_zero, List.set_cons_succ, Nat.reduceAdd]
    refine kept_val _ (fun _ => rfl) (fun ρ wz hw => by have q0 := (hw.cell (p := ⟨b, o + k * 3, none⟩) hbs).trans p0; have q1 := (hw.cell (p := ⟨b, o + k * 3 + 1, none⟩) hbs).trans p1; have q2 := (hw.cell (p := ⟨b, o + k * 3 + 2, none⟩) hbs).trans p2; go_simp; first | done | with_reducible rfl) ?_
    simp only [Act.put, List.setIfInBounds_toArray, List.set_cons_zero, List.set_cons_succ, Nat.reduceAdd]
    refine kept_call _ _ _ (fun _ => rfl) (fun ρ wz hw => by go_simp; first | done | with_reducible rfl) (fun wz hw => C1.out.of hGr hw) ?_
    simp only [Act.put, List.setIfInBounds_toArray, List.set_cons_zero, List.set_cons_succ, Nat.reduceAdd]
    refine kept_call _ _ _ (fun _ => rfl) (fun ρ wz hw => by go_simp; first | done | with_reducible rfl) (fun wz hw => C2.out.of hGr hw) ?_
    simp only [Act.put, List.setIfInBounds_toArray, List.set_cons_zero, List.set_cons_succ, Nat.reduceAdd]
    intro ρ w21 hF
    dsimp only
    have HX3 := Lib.hid (HM.out _ _ _ HX.out hF.below)
    clear hF HX q0 p0 p1 p2 r1 C1 C2
    obtain ⟨fn, tmps, assign, body, hyr, hR⟩ := HYY.out w21 HX3.out
    gi_wp2
    refine ⟨fun h => (by cases h), hR.mono ?_⟩
    rintro e W3 ⟨rfl, hS3⟩
    have HX4 := Lib.hid hS3
    clear hS3 hR hyr
    gi_wp2
    go_roundw
    case rel => exact ⟨k + 1, ys ++ [y], by omega, by go_num, HL2.out, HQ2.out, HX4.out⟩
    case measure => simp [intOf]; omega
theorem facs_any (A : Option Addr) (n c : Nat) (w : World) :
    Calls Tryz.prog 74 #[.slice A n c] w fun e w' => e = .returned (.func (.func 143) #[] #[.pointer (some ⟨w.heap.size, 0, none⟩)]) ∧ w' = w.alloc (.cells #[.slice A n c] 39) := by
  go_enter Tryz.func74, Tryz.ntmps74
  go_wp2_with fail
  go_ret
  exact ⟨rfl, rfl⟩
end Go.Proofs.YtmjglcgdcclinaaGreatDoor
