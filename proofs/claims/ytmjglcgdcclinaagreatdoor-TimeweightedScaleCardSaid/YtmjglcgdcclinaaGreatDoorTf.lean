/- Factors, Return, Dietz: package timeweighted. -/
import Derived.Test.YtmjglcgdcclinaaGreatDoorTe
namespace Go.Proofs.YtmjglcgdcclinaaGreatDoor
open Go.RowKit Num
section
variable {P : Program} {ops : Array Oper} {C : World → Prop} {Q : St → Bx → Prop} {rest : List Oper} {o : Oper} {i : Nat} {a : St} {B : Bx}
theorem turned3 (w : World) (b : Nat) (u v s x y z : Value) (t : TypeId) (h : w.heap[b]? = some (.cells #[u, v, s] t (0, 0))) : Turned w (((w.setCell ⟨b, 0, none⟩ x).setCell ⟨b, 1, none⟩ y).setCell ⟨b, 2, none⟩ z) b (.cells #[x, y, z] t (0, 0)) := by
  refine ⟨rfl, rfl, rfl, by simp [World.setCell], by simp [World.setCell, Array.getElem?_modify, h], fun k hk => ?_⟩
  rw [Below.heap_setCell _ _ _ _ hk, Below.heap_setCell _ _ _ _ hk, Below.heap_setCell _ _ _ _ hk]
/-- a store of three cells into a block that the region has made -/
theorem kept_put3 (k : Nat) (ok : Oper) (d : Tmp) (u v s x y z : Value) (t : TypeId) (hp : B k = some (false, .cells #[u, v, s] t (0, 0))) (hk : ops[k]? = some ok) (hd : ok.dst = some d) (hl : d ∈ o.looksAt ops)
    (hw : ∀ ρ, Region.wanted o (yielded ops (a ρ).tmps) = true)
    (h : ∀ ρ w, C w → w.cell? ⟨ρ k, 0, none⟩ = some u → w.cell? ⟨ρ k, 1, none⟩ = some v → w.cell? ⟨ρ k, 2, none⟩ = some s → w.frozen? ⟨ρ k, 0, none⟩ = false → w.frozen? ⟨ρ k, 1, none⟩ = false → w.frozen? ⟨ρ k, 2, none⟩ = false →
      (execOp (a ρ).eval o).run P w = .ok .skip (((w.setCell ⟨ρ k, 0, none⟩ x).setCell ⟨ρ k, 1, none⟩ y).setCell ⟨ρ k, 2, none⟩ z))
    (hn : wpKept P ops C Q rest (i + 1) (fun ρ => (a ρ).put o.dst undef) (fun l => if l = k then some (true, .cells #[x, y, z] t (0, 0)) else B l)) : wpKept P ops C Q (o :: rest) i a B :=
  ⟨.put k (.cells #[u, v, s] t (0, 0)) (.cells #[x, y, z] t (0, 0)), hp, ⟨.inr ⟨ok, d, hk, hd, hl⟩, fun ρ => ⟨hw ρ, fun w hc hb =>
    ⟨_, h ρ w hc (by rw [cell_of_row w (ρ k) 0 _ t (0, 0) hb]; rfl) (by rw [cell_of_row w (ρ k) 1 _ t (0, 0) hb]; rfl) (by rw [cell_of_row w (ρ k) 2 _ t (0, 0) hb]; rfl) (by simp [World.frozen?, hb]) (by simp [World.frozen?, hb]) (by simp [World.frozen?, hb]), turned3 w (ρ k) u v s x y z t hb⟩⟩⟩, hn⟩
end
section
variable {l l' : List UInt8}
theorem niSub46 (hl : l.length ≤ 100000000) (hl' : l'.length ≤ 100000000) {z : Int} (e : val l - val l' = z) : Ret 81 #[.string ⟨l.toArray⟩, .string ⟨l'.toArray⟩] (.string ⟨(canon z).toArray⟩) := fun w hG => by
  subst e; exact isub_any l l' w hl hl' hG
theorem niMul46 (hl : l.length ≤ 100000000) (hl' : l'.length ≤ 100000000) {z : Int} (e : val l * val l' = z) : Ret 41 #[.string ⟨l.toArray⟩, .string ⟨l'.toArray⟩] (.string ⟨(canon z).toArray⟩) := fun w hG => by
  subst e; exact mul_any l l' w hl hl' hG
theorem niDiv46 (hl : l.length ≤ 100000000) (hl' : l'.length ≤ 100000000) (h0 : val l' ≠ 0) {q r : Int} (e : divZ (val l) (val l') = q) (e' : modZ (val l) (val l') = r) : Ret 173 #[.string ⟨l.toArray⟩, .string ⟨l'.toArray⟩] (.tuple #[.string ⟨(canon q).toArray⟩, .string ⟨(canon r).toArray⟩, .int .i64 0]) := fun w hG => by
  subst e; subst e'; exact idiv_any l l' w hl hl' hG h0
theorem niPower46 (hl : l.length ≤ 100000) {n : Nat} (hn : n ≤ 400) {z : Int} (e : val l ^ n = z) : Ret 108 #[.string ⟨l.toArray⟩, .int .i64 (n : Int)] (.tuple #[.string ⟨(canon z).toArray⟩, .int .i64 0]) := fun w hG => by
  subst e; exact ipower_any l n w hl hn hG
end
/-- points within the statements' sizes, in memory -/
structure QL (w : World) (A : Option Addr) (ts : List Pnt) (n : Nat) : Prop where
  len : ts.length = n
  sm : n ≤ 1000
  gap : n ≤ 12 ∨ 400 < n
  str : ∀ t ∈ ts, t.vl.length ≤ 60 ∧ t.fl.length ≤ 60
  mem : PntAt w A ts
section
variable {w w' : World} {A : Option Addr} {ts : List Pnt} {n : Nat}
theorem QL.below (h : QL w A ts n) (hb : Below w.heap.size w w') : QL w' A ts n := ⟨h.len, h.sm, h.gap, h.str, h.mem.below hb⟩
theorem QL.ok (h : QL w A ts n) (h0 : pntE ts = 0) : 1 ≤ n ∧ n ≤ 12 ∧ PosL (pts ts) ∧ UpD none ts ∧ ∀ t ∈ ts, PntOk t := by
  obtain ⟨h1, h2, h3, h4, h5⟩ := pntE_ok h0
  have := h.len
  have := h.gap
  exact ⟨by omega, by omega, h3, h4, h5⟩
theorem twCheckB (hG : Glob w) (h : QL w A ts n) (c : Nat) : RetB w 30 #[.slice A n c] (.int .i64 (pntE ts)) := fun w' hb => twCheck A ts n c w' (hG.below hb) h.len h.sm h.str (h.mem.below hb)
theorem rwCheckB (hG : Glob w) (h : QL w A ts n) (c : Nat) : RetB w 31 #[.slice A n c] (.int .i64 (pntE ts)) := fun w' hb => rwCheck A ts n c w' (hG.below hb) h.len h.sm h.str (h.mem.below hb)
end
theorem enter_f1 (args : Array Value) (w : World) : (callFunc 143 args).run Tryz.prog w = .ok (.enter 143 args) w := by kernel_rfl
theorem facs_bd1 {ts : List Pnt} (h : ∀ t ∈ ts, PntOk t) (hp : PosL (pts ts)) (hn : ts.length ≤ 12) : Bd 505 (prodQ 1 (facs (pts ts))) := by
  have h1 := prodQ_bd (M := 42) (facs (pts ts)) bd_one (facs_bd hp h)
  rw [facs_len, pts_len] at h1
  exact bd_mono h1 (by omega)
theorem own_baseN {w : World} {B B' k sz : Nat} {ty : TypeId} {v : Value} {cs : List Value} (h : w.ownsRow B ty sz v k cs) (hb : B' ≤ B) : w.ownsRow B' ty sz v k cs := by
  refine ⟨h.1, ?_⟩
  rcases h.2 with h2 | ⟨g, cap, cur, e, hB, r⟩
  · exact .inl h2
  · exact .inr ⟨g, cap, cur, e, Nat.le_trans hb hB, r⟩
/-- what Return returns -/
def retV (ts : List Pnt) : Value := if ¬ pntE ts = 0 then .tuple #[.agg #[.string ⟨#[]⟩, .string ⟨#[]⟩], .int .i64 1] else .tuple #[(Value.agg #[Value.string ⟨List.toArray (fN (prodQ 1 (facs (pts ts)) - 1))⟩, Value.string ⟨List.toArray (fD (prodQ 1 (facs (pts ts)) - 1))⟩]), .int .i64 0]
set_option maxHeartbeats 2000000 in
set_option maxRecDepth 100000 in
theorem twReturn {w : World} {A : Option Addr} {ts : List Pnt} {n : Nat} (hG : Glob w) (h : QL w A ts n) (c : Nat) : RetB w 26 #[.slice A n c] (retV ts) := fun w' hbw => by
  replace hG := hG.below hbw
  replace h := h.below hbw
  clear hbw
  have C1 := Lib.hid (twCheckB hG h c)
  have x2 := FBox.new w' (.string ⟨#[]⟩) (.string ⟨#[]⟩) 32
  have hb := below_alloc w' (.cells #[.string ⟨#[]⟩, .string ⟨#[]⟩] 32)
  by_cases g : pntE ts = 0
  rotate_left
  · have HV : Hid (retV ts = .tuple #[.agg #[.string ⟨#[]⟩, .string ⟨#[]⟩], .int .i64 1]) := if_pos g
    have e1 : (pntE ts != 0) = true := bneq' (intbne g)
    generalize pntE ts = E at *
    clear g h
    go_enter Tryz.func26, Tryz.ntmps26
    go_wp2_with fail
    ((with_reducible refine (C1.out.of hG hb).mono ?_); rintro e w1 ⟨rfl, hb1⟩)
    replace x2 := x2.below hb1
    replace hb := bto hb hb1
    have g0 := x2.c0
    have g1 := x2.c1
    have g2 := x2.f0
    have g3 := x2.f1
    clear hb1
    go_wp2
    have hy := x2.set (.string ⟨#[]⟩) (.string ⟨#[]⟩)
    have d0 := hy.c0
    have d1 := hy.c1
    refine bodyPost_ret (v := .tuple #[.agg #[.string ⟨#[]⟩, .string ⟨#[]⟩], .int .i64 1]) (by simp [results, Tryz.results26, go_sem, d0, d1]) rfl ?_
    exact ⟨by rw [HV.out], below_set2 hb (Nat.le_refl _) _ _⟩
  have HV0 : Hid (retV ts = .tuple #[(Value.agg #[Value.string ⟨List.toArray (fN (prodQ 1 (facs (pts ts)) - 1))⟩, Value.string ⟨List.toArray (fD (prodQ 1 (facs (pts ts)) - 1))⟩]), .int .i64 0]) := if_neg (fun h => h g)
  obtain ⟨h1, h12, hp, -, hok⟩ := h.ok g
  rw [g] at C1
  have HB := Lib.hid (facs_bd1 hok hp (by rw [h.len]; exact h12))
  have hfl : (facs (pts ts)).length ≤ 12 := by rw [facs_len, pts_len, h.len]; omega
  have CI : Hid (∀ w1, Below w'.heap.size w' w1 → IterOk (w1.alloc (.cells #[.slice A n c] 39)) 143 #[.pointer (some ⟨w1.heap.size, 0, none⟩)] (facs (pts ts)) 42) := fun w1 hb1 =>
    facs1_in w1.heap.size A ts n c _ (hG.below (bto hb1 (below_alloc _ _))) h.len h1 (by omega) hok hp (h.mem.below (bto hb1 (below_alloc _ _))) (Blk.new _ _ _)
  obtain ⟨qs, hqs⟩ : ∃ qs, qs = facs (pts ts) := ⟨_, rfl⟩
  rw [← hqs] at HV0 HB CI hfl
  have c0 : Ret 37 #[.string ⟨[49].toArray⟩] (Value.agg #[Value.string ⟨List.toArray (fN ((1 : Rat)))⟩, Value.string ⟨List.toArray (fD ((1 : Rat)))⟩]) := by have h := rOf (l := [49]) (by decide) (z := 1) (by decide); exact h
  have C3 := Lib.hid c0
  have C4 := Lib.hid (rSub (isq_fr HB.out (by decide)) (isq_fr bd_one (by decide)) rfl)
  obtain ⟨y, hy⟩ : ∃ y, y = prodQ 1 qs - 1 := ⟨_, rfl⟩
  have HV := HV0
  rw [← hy] at C4 HV
  clear g h h12 hok hp hqs c0 HV0 hy
  go_enter Tryz.func26, Tryz.ntmps26
  go_wp2_with fail
  ((with_reducible refine (C1.out.of hG hb).mono ?_); rintro e w1 ⟨rfl, hb1⟩)
  replace x2 := x2.below hb1
  replace hb := bto hb hb1
  clear hb1
  go_wp2_with fail
  refine (facs_any A n c _).mono ?_
  rintro e w2 ⟨rfl, rfl⟩
  have C2 := Lib.hid (twProduct 143 #[.pointer (some ⟨w1.heap.size, 0, none⟩)] qs 42 (w1.alloc (.cells #[.slice A n c] 39)) (hG.below (bto hb (below_alloc _ _))) enter_f1 (CI.out w1 hb) (by omega))
  replace x2 := x2.below (below_alloc _ (.cells #[.slice A n c] 39))
  replace hb := bto hb (below_alloc _ (.cells #[.slice A n c] 39))
  go_wp2_with fail
  refine C2.out.mono ?_
  rintro e w3 ⟨rfl, hb3⟩
  replace x2 := x2.below hb3
  replace hb := bto hb hb3
  clear hb3 C2 CI
  go_wp2_with fail
  ((with_reducible refine (C3.out.of hG hb).mono ?_); rintro e w4 ⟨rfl, hb4⟩)
  replace x2 := x2.below hb4
  replace hb := bto hb hb4
  clear hb4
  go_wp2_with fail
  ((with_reducible refine (C4.out.of hG hb).mono ?_); rintro e w5 ⟨rfl, hb5⟩)
  replace x2 := x2.below hb5
  replace hb := bto hb hb5
  have g0 := x2.c0
  have g1 := x2.c1
  have g2 := x2.f0
  have g3 := x2.f1
  clear hb5
  go_wp2
  have hy := x2.set (.string ⟨(fN (y)).toArray⟩) (.string ⟨(fD (y)).toArray⟩)
  have d0 := hy.c0
  have d1 := hy.c1
  refine bodyPost_ret (v := .tuple #[(Value.agg #[Value.string ⟨List.toArray (fN y)⟩, Value.string ⟨List.toArray (fD y)⟩]), .int .i64 0]) (by simp [results, Tryz.results26, go_sem, d0, d1]) rfl ?_
  exact ⟨by rw [HV.out], below_set2 hb (Nat.le_refl _) _ _⟩
set_option maxHeartbeats 2000000 in
set_option maxRecDepth 100000 in
theorem twFactors {w : World} {A : Option Addr} {ts : List Pnt} {n : Nat} (hG : Glob w) (h : QL w A ts n) (c : Nat) :
    Calls Tryz.prog 24 #[.slice A n c] w fun e w' => ∃ v qs, e = .returned (.tuple #[v, .int .i64 (if pntE ts = 0 then 0 else 1)]) ∧ qs = (if pntE ts = 0 then facs (pts ts) else []) ∧ w'.ownsRow w.heap.size 32 2 v qs.length (rowsF (frs qs)) ∧ Below w.heap.size w w' := by
  have C1 := Lib.hid (twCheckB hG h c)
  have hb := Below.refl w.heap.size w
  by_cases g : pntE ts = 0
  rotate_left
  · have e1 : (pntE ts != 0) = true := bneq' (intbne g)
    rw [if_neg g, if_neg g]
    generalize pntE ts = E at *
    clear g h
    go_enter Tryz.func24, Tryz.ntmps24
    go_wp2_with fail
    ((with_reducible refine (C1.out.of hG hb).mono ?_); rintro e w1 ⟨rfl, hb1⟩)
    replace hb := bto hb hb1
    go_wp2
    refine bodyPost_ret (v := .tuple #[.slice none 0 0, .int .i64 1]) (by simp [results, Tryz.results24, go_sem]) rfl ?_
    exact ⟨_, _, rfl, rfl, World.ownsRow_nil _ _ _ 2, hb⟩
  obtain ⟨h1, h12, hp, -, hok⟩ := h.ok g
  rw [if_pos g, if_pos g]
  rw [g] at C1
  have hfl : (facs (pts ts)).length ≤ 12 := by rw [facs_len, pts_len, h.len]; omega
  have CI : Hid (∀ w1, Below w.heap.size w w1 → IterOk (w1.alloc (.cells #[.slice A n c] 39)) 143 #[.pointer (some ⟨w1.heap.size, 0, none⟩)] (facs (pts ts)) 42) := fun w1 hb1 =>
    facs1_in w1.heap.size A ts n c _ (hG.below (bto hb1 (below_alloc _ _))) h.len h1 (by omega) hok hp (h.mem.below (bto hb1 (below_alloc _ _))) (Blk.new _ _ _)
  generalize facs (pts ts) = qs at *
  clear g h h12 hok hp
  go_enter Tryz.func24, Tryz.ntmps24
  go_wp2_with fail
  ((with_reducible refine (C1.out.of hG hb).mono ?_); rintro e w1 ⟨rfl, hb1⟩)
  replace hb := bto hb hb1
  clear hb1
  go_wp2_with fail
  refine (facs_any A n c _).mono ?_
  rintro e w2 ⟨rfl, rfl⟩
  have C2 := Lib.hid (collect_any 143 #[.pointer (some ⟨w1.heap.size, 0, none⟩)] qs 42 (w1.alloc (.cells #[.slice A n c] 39)) enter_f1 (CI.out w1 hb) (by omega))
  replace hb := bto hb (below_alloc _ (.cells #[.slice A n c] 39))
  have hsz := hb.size
  go_wp2_with fail
  refine C2.out.mono ?_
  rintro e w3 ⟨v, rfl, ho, hb3⟩
  replace hb := bto hb hb3
  have HO := Lib.hid (own_baseN ho hsz)
  clear hb3 C2 CI ho
  go_wp2
  refine bodyPost_ret (v := .tuple #[v, .int .i64 0]) (by simp [results, Tryz.results24, go_sem]) rfl ?_
  exact ⟨_, _, rfl, rfl, HO.out, hb⟩
/-- what Dietz returns -/
def dtzV (ts : List Pnt) : Value := if ¬ pntE ts = 0 then .tuple #[.agg #[.string ⟨#[]⟩, .string ⟨#[]⟩], .int .i64 1] else if ts.length = 1 then .tuple #[.agg #[.string ⟨#[]⟩, .string ⟨#[]⟩], .int .i64 11] else if capP (pts ts) = 0 then .tuple #[.agg #[.string ⟨#[]⟩, .string ⟨#[]⟩], .int .i64 10] else .tuple #[(Value.agg #[Value.string ⟨List.toArray (fN ((gainP (pts ts) : Rat) / capP (pts ts)))⟩, Value.string ⟨List.toArray (fD ((gainP (pts ts) : Rat) / capP (pts ts)))⟩]), .int .i64 0]
theorem day_canon {d : Int} (h : d.natAbs < 10 ^ 6) : (canon d).length ≤ 7 := canon_len_le _ 6 h
theorem Blk.setNe2 {w : World} {b c : Nat} {cs : Array Value} (h : Blk w b cs) (hn : b ≠ c) (x y : Value) : Blk ((w.setCell ⟨c, 0, none⟩ x).setCell ⟨c, 1, none⟩ y) b cs := (h.setO hn).setO hn
set_option maxHeartbeats 8000000 in
set_option maxRecDepth 100000 in
theorem twDietz {w : World} {A : Option Addr} {ts : List Pnt} {n : Nat} (hG : Glob w) (h : QL w A ts n) (c : Nat) (hnc : n ≤ c) : RetB w 28 #[.slice A n c] (dtzV ts) := fun w' hbw => by
  replace hG := hG.below hbw
  replace h := h.below hbw
  clear hbw
  have C1 := Lib.hid (twCheckB hG h c)
  have x2 := FBox.new w' (.string ⟨#[]⟩) (.string ⟨#[]⟩) 32
  have hb := below_alloc w' (.cells #[.string ⟨#[]⟩, .string ⟨#[]⟩] 32)
  by_cases g : pntE ts = 0
  rotate_left
  · have HV : Hid (dtzV ts = .tuple #[.agg #[.string ⟨#[]⟩, .string ⟨#[]⟩], .int .i64 1]) := if_pos g
    have e1 : (pntE ts != 0) = true := bneq' (intbne g)
    generalize pntE ts = E at *
    clear g h
    go_enter Tryz.func28, Tryz.ntmps28
    go_wp2_with fail
    ((with_reducible refine (C1.out.of hG hb).mono ?_); rintro e w1 ⟨rfl, hb1⟩)
    replace x2 := x2.below hb1
    replace hb := bto hb hb1
    clear hb1
    have g0 := x2.c0
    have g1 := x2.c1
    have g2 := x2.f0
    have g3 := x2.f1
    go_wp2
    have hy := x2.set (.string ⟨#[]⟩) (.string ⟨#[]⟩)
    have d0 := hy.c0
    have d1 := hy.c1
    refine bodyPost_ret (v := .tuple #[.agg #[.string ⟨#[]⟩, .string ⟨#[]⟩], .int .i64 1]) (by simp [results, Tryz.results28, go_sem, d0, d1]) rfl ?_
    exact ⟨by rw [HV.out], below_set2 hb (Nat.le_refl _) _ _⟩
  obtain ⟨h1, h12, hp, hup, hok⟩ := h.ok g
  rw [g] at C1
  by_cases gn : n = 1
  · have HV : Hid (dtzV ts = .tuple #[.agg #[.string ⟨#[]⟩, .string ⟨#[]⟩], .int .i64 11]) := by show _ = _; unfold dtzV; rw [if_neg (fun h => h g), if_pos (h.len.trans gn)]
    subst gn
    clear g h hp hup hok h1 h12
    go_enter Tryz.func28, Tryz.ntmps28
    go_wp2_with fail
    ((with_reducible refine (C1.out.of hG hb).mono ?_); rintro e w1 ⟨rfl, hb1⟩)
    replace x2 := x2.below hb1
    replace hb := bto hb hb1
    clear hb1
    have g0 := x2.c0
    have g1 := x2.c1
    have g2 := x2.f0
    have g3 := x2.f1
    go_wp2
    have hy := x2.set (.string ⟨#[]⟩) (.string ⟨#[]⟩)
    have d0 := hy.c0
    have d1 := hy.c1
    refine bodyPost_ret (v := .tuple #[.agg #[.string ⟨#[]⟩, .string ⟨#[]⟩], .int .i64 11]) (by simp [results, Tryz.results28, go_sem, d0, d1]) rfl ?_
    exact ⟨by rw [HV.out], below_set2 hb (Nat.le_refl _) _ _⟩
  have HV0 : Hid (dtzV ts = if capP (pts ts) = 0 then .tuple #[.agg #[.string ⟨#[]⟩, .string ⟨#[]⟩], .int .i64 10] else .tuple #[(Value.agg #[Value.string ⟨List.toArray (fN ((gainP (pts ts) : Rat) / capP (pts ts)))⟩, Value.string ⟨List.toArray (fD ((gainP (pts ts) : Rat) / capP (pts ts)))⟩]), .int .i64 0]) := by show _ = _; unfold dtzV; rw [if_neg (fun h => h g), if_neg (by rw [h.len]; exact gn)]
  obtain ⟨m, rfl⟩ : ∃ m, n = m + 1 := ⟨n - 1, by omega⟩
  have hm : 1 ≤ m := by omega
  obtain ⟨a, ha⟩ : ∃ a, ts[0]? = some a := ⟨_, List.getElem?_eq_getElem (by rw [h.len]; omega)⟩
  obtain ⟨z, hz⟩ : ∃ z, ts[m]? = some z := ⟨_, List.getElem?_eq_getElem (by rw [h.len]; omega)⟩
  obtain ⟨eg, ec⟩ := gainP_at h.len ha hz
  rw [eg, ec] at HV0
  have oa := hok a (List.mem_of_getElem? ha)
  have oz := hok z (List.mem_of_getElem? hz)
  have hdd := upD_days hup ha hz hm
  have hda := oa.day
  have hdz := oz.day
  have la := oa.lv
  have lz := oz.lv
  obtain ⟨b, o, rfl, hbs', p0, p1, p2⟩ := h.mem 0 a ha
  obtain ⟨b', o', hA', -, r0, r1, r2⟩ := h.mem m z hz
  obtain ⟨rfl, rfl⟩ : b = b' ∧ o = o' := by injection hA' with hA'; injection hA' with h1 h2; exact ⟨h1, h2⟩
  rw [Nat.zero_mul, Nat.add_zero] at p0 p1 p2
  have hg42 : (val z.vl - val a.vl).natAbs < 10 ^ 42 := by
    have a1 := val_lt_of la
    have a2 := val_lt_of lz
    have a4 : (10 : Nat) ^ 41 + 10 ^ 41 ≤ 10 ^ 42 := by decide
    omega
  have hd6 : (z.day - a.day).natAbs < 10 ^ 6 := by omega
  have hd0 : z.day - a.day ≠ 0 := by omega
  have hc42 : Bd 42 ((val a.vl : Int) : Rat) := bd_int (Nat.lt_of_lt_of_le (val_lt_of la) (by decide)) (by decide)
  have HGB : Hid (∀ k, k ≤ m → (gainK ts (val z.vl - val a.vl) k).natAbs < 10 ^ (42 + k)) := fun k hk => gainK_bd hok hg42 k (by rw [h.len]; omega)
  have HGL : Hid (∀ k, k ≤ m → (canon (gainK ts (val z.vl - val a.vl) k)).length ≤ 60) := fun k hk => Nat.le_trans (canon_len_le _ _ (HGB.out k hk)) (by omega)
  have HCB : Hid (∀ k, k ≤ m → Bd 700 (capK ts z.day (z.day - a.day) ((val a.vl : Int) : Rat) k)) := fun k hk => bd_mono (capK_bd hok hc42 (by omega) hd6 hd0 k (by rw [h.len]; omega)) (by omega)
  have HGS : Hid (∀ (k : Nat) (t : Pnt), ts[k]? = some t → gainK ts (val z.vl - val a.vl) (k + 1) = gainK ts (val z.vl - val a.vl) k - val t.fl) := fun k t ht => gainK_step ht _
  have HCS : Hid (∀ (k : Nat) (t : Pnt), ts[k]? = some t → capK ts z.day (z.day - a.day) ((val a.vl : Int) : Rat) (k + 1) = capK ts z.day (z.day - a.day) ((val a.vl : Int) : Rat) k + Rat.divInt (val t.fl * (z.day - t.day)) (z.day - a.day)) := fun k t ht => capK_step ht _ _ _
  have HPB : Hid (∀ (k : Nat) (t : Pnt), ts[k]? = some t → Bd 47 (Rat.divInt (val t.fl * (z.day - t.day)) (z.day - a.day)) ∧ (z.day - t.day).natAbs < 10 ^ 6 ∧ -25567 ≤ t.day ∧ t.day ≤ 84005 ∧ t.fl.length ≤ 41) := fun k t ht => by
    have ho := hok t (List.mem_of_getElem? ht)
    have := ho.day
    exact ⟨part_bd (val_lt_of ho.lf) (by omega) hd6 hd0, by omega, by omega, by omega, ho.lf⟩
  have HQ := Lib.hid h
  have HPBD : Hid (∀ t ∈ ts, -25567 ≤ t.day ∧ t.day ≤ 84005) := fun t ht => (hok t ht).day
  have C2 := Lib.hid (riOf (z.day - a.day) (by omega) (by omega))
  have hdl := day_canon hd6
  have C3 := Lib.hid (niSub46 (l := z.vl) (l' := a.vl) (by omega) (by omega) (show _ = gainK ts (val z.vl - val a.vl) 0 from rfl))
  have C4 := Lib.hid (rOf (l := a.vl) (by omega) rfl)
  have HGK : Hid (∀ (k : Nat) (t : Pnt), ts[k]? = some t → k < m → Ret 81 #[.string ⟨(canon (gainK ts (val z.vl - val a.vl) k)).toArray⟩, .string ⟨t.fl.toArray⟩] (.string ⟨(canon (gainK ts (val z.vl - val a.vl) (k + 1))).toArray⟩)) := fun k t ht hk => niSub46 (by have := HGL.out k (by omega); omega) (by have := (HPB.out k t ht).2.2.2.2; omega) (by rw [val_canon, HGS.out k t ht])
  have HMul : Hid (∀ (k : Nat) (t : Pnt), ts[k]? = some t → Ret 80 #[.int .i64 (z.day - t.day)] (.string ⟨(canon (z.day - t.day)).toArray⟩) ∧ Ret 41 #[.string ⟨t.fl.toArray⟩, .string ⟨(canon (z.day - t.day)).toArray⟩] (.string ⟨(canon (val t.fl * (z.day - t.day))).toArray⟩) ∧ Ret 83 #[.string ⟨(canon (val t.fl * (z.day - t.day))).toArray⟩, .string ⟨(canon (z.day - a.day)).toArray⟩] (Value.agg #[Value.string ⟨List.toArray (fN (Rat.divInt (val t.fl * (z.day - t.day)) (z.day - a.day)))⟩, Value.string ⟨List.toArray (fD (Rat.divInt (val t.fl * (z.day - t.day)) (z.day - a.day)))⟩])) := fun k t ht => by
    obtain ⟨-, k2, k3, k4, k5⟩ := HPB.out k t ht
    have k6 := day_canon k2
    refine ⟨riOf _ (by omega) (by omega), niMul46 (by omega) (by omega) (by rw [val_canon]), twRatio ?_ (by omega) (by rw [val_canon]; exact hd0) (by rw [val_canon, val_canon])⟩
    refine Nat.le_trans (canon_len_le _ 47 ?_) (by decide)
    rw [Int.natAbs_mul, show (10 : Nat) ^ 47 = 10 ^ 41 * 10 ^ 6 by decide]
    exact Nat.mul_lt_mul'' (val_lt_of k5) k2
  have HAdd : Hid (∀ (k : Nat) (t : Pnt), ts[k]? = some t → k < m → Ret 82 #[(Value.agg #[Value.string ⟨List.toArray (fN (capK ts z.day (z.day - a.day) ((val a.vl : Int) : Rat) k))⟩, Value.string ⟨List.toArray (fD (capK ts z.day (z.day - a.day) ((val a.vl : Int) : Rat) k))⟩]), (Value.agg #[Value.string ⟨List.toArray (fN (Rat.divInt (val t.fl * (z.day - t.day)) (z.day - a.day)))⟩, Value.string ⟨List.toArray (fD (Rat.divInt (val t.fl * (z.day - t.day)) (z.day - a.day)))⟩])] (Value.agg #[Value.string ⟨List.toArray (fN (capK ts z.day (z.day - a.day) ((val a.vl : Int) : Rat) (k + 1)))⟩, Value.string ⟨List.toArray (fD (capK ts z.day (z.day - a.day) ((val a.vl : Int) : Rat) (k + 1)))⟩])) := fun k t ht hk => rAdd (isq_fr (HCB.out k (by omega)) (by decide)) (isq_fr (HPB.out k t ht).1 (by decide)) (HCS.out k t ht).symm
  have C6 := Lib.hid (rOf (l := canon (gainK ts (val z.vl - val a.vl) m)) (by have := HGL.out m (Nat.le_refl _); omega) (val_canon _))
  have hgq : Bd 60 ((gainK ts (val z.vl - val a.vl) m : Int) : Rat) := bd_int (Nat.lt_of_lt_of_le (HGB.out m (Nat.le_refl _)) (Nat.pow_le_pow_right (by decide) (by omega))) (by decide)
  have C7a : Hid (capK ts z.day (z.day - a.day) ((val a.vl : Int) : Rat) m ≠ 0 → Ret 49 #[(Value.agg #[Value.string ⟨List.toArray (fN (((gainK ts (val z.vl - val a.vl) m : Int) : Rat)))⟩, Value.string ⟨List.toArray (fD (((gainK ts (val z.vl - val a.vl) m : Int) : Rat)))⟩]), (Value.agg #[Value.string ⟨List.toArray (fN (capK ts z.day (z.day - a.day) ((val a.vl : Int) : Rat) m))⟩, Value.string ⟨List.toArray (fD (capK ts z.day (z.day - a.day) ((val a.vl : Int) : Rat) m))⟩])] (.tuple #[(Value.agg #[Value.string ⟨List.toArray (fN (((gainK ts (val z.vl - val a.vl) m : Int) : Rat) / capK ts z.day (z.day - a.day) ((val a.vl : Int) : Rat) m))⟩, Value.string ⟨List.toArray (fD (((gainK ts (val z.vl - val a.vl) m : Int) : Rat) / capK ts z.day (z.day - a.day) ((val a.vl : Int) : Rat) m))⟩]), .int .i64 0])) := fun h0 => rQuo (isq_fr hgq (by decide)) (isq_fr (HCB.out m (Nat.le_refl _)) (by decide)) h0 rfl
  have C7b : Hid (capK ts z.day (z.day - a.day) ((val a.vl : Int) : Rat) m = 0 → Ret 49 #[(Value.agg #[Value.string ⟨List.toArray (fN (((gainK ts (val z.vl - val a.vl) m : Int) : Rat)))⟩, Value.string ⟨List.toArray (fD (((gainK ts (val z.vl - val a.vl) m : Int) : Rat)))⟩]), (Value.agg #[Value.string ⟨List.toArray (fN (capK ts z.day (z.day - a.day) ((val a.vl : Int) : Rat) m))⟩, Value.string ⟨List.toArray (fD (capK ts z.day (z.day - a.day) ((val a.vl : Int) : Rat) m))⟩])] (.tuple #[.agg #[.string ⟨#[]⟩, .string ⟨#[]⟩], .int .i64 10])) := fun h0 => rQuo0 (isq_fr (HCB.out m (Nat.le_refl _)) (by decide)) h0
  have HC0 : Hid (capK ts z.day (z.day - a.day) ((val a.vl : Int) : Rat) 0 = ((val a.vl : Int) : Rat)) := rfl
  have hwz : IntKind.i64.wrap (z.day - a.day) = z.day - a.day := Go.IntWalk.i64_in _ (by omega)
  have hbs : b < w'.heap.size := hbs'
  rw [← HC0.out] at C4
  generalize capK ts z.day (z.day - a.day) ((val a.vl : Int) : Rat) = ck at *
  generalize gainK ts (val z.vl - val a.vl) = gk at *
  have hmn : m < m + 1 := by omega
  have hwm : IntKind.i64.wrap (m : Int) = (m : Int) := Go.IntWalk.i64_in _ (by omega)
  have hlm : (m : Int) < (m : Int) + 1 := by omega
  have hlm2 : m < m + 1 := by omega
  have hmc : m ≤ c := by omega
  have hmc2 : (m : Int) ≤ (c : Int) := by omega
  have hm0 : 0 ≤ (m : Int) := by omega
  have hwm2 : IntKind.i64.wrap ((m : Int) + 1 - 1) = (m : Int) := by rw [Go.IntWalk.i64_in _ (by omega)]; omega
  have e2 : (((m + 1 : Nat) : Int) == 1) = false := intbne (by omega)
  have e3 : ((m : Int) + 1 == 1) = false := intbne (by omega)
  clear g h hp hup hok h1 gn ha hz eg ec oa oz hA' hbs' hg42 hc42 hd6 hd0 hgq HGB HGL HCB HGS HCS HPB HC0 la lz hdl hdd
  go_enter Tryz.func28, Tryz.ntmps28
  go_wp2_with fail
  ((with_reducible refine (C1.out.of hG hb).mono ?_); rintro e w1 ⟨rfl, hb1⟩)
  have hbs1 : b < w1.heap.size := Nat.lt_of_lt_of_le hbs (bto hb hb1).size
  replace p0 := ((bto hb hb1).cell (p := ⟨b, o, none⟩) hbs).trans p0
  replace p1 := ((bto hb hb1).cell (p := ⟨b, o + 1, none⟩) hbs).trans p1
  replace p2 := ((bto hb hb1).cell (p := ⟨b, o + 2, none⟩) hbs).trans p2
  replace r0 := ((bto hb hb1).cell (p := ⟨b, o + m * 3, none⟩) hbs).trans r0
  replace r1 := ((bto hb hb1).cell (p := ⟨b, o + m * 3 + 1, none⟩) hbs).trans r1
  replace r2 := ((bto hb hb1).cell (p := ⟨b, o + m * 3 + 2, none⟩) hbs).trans r2
  replace hbs := hbs1
  replace x2 := x2.below hb1
  replace hb := bto hb hb1
  clear hb1 hbs1 C1
  go_wp2_with fail
  refine wp_region_kept (by kernel_rfl) (by kernel_rfl) ?_
  refine kept_val _ (fun _ => rfl) (fun ρ wz hw => by go_simp; first | done | with_reducible rfl) ?_
  simp only [Act.put, List.setIfInBounds_toArray, List.set_cons_zero, List.set_cons_succ, Nat.reduceAdd]
  refine kept_val _ (fun _ => rfl) (fun ρ wz hw => by go_simp; first | done | with_reducible rfl) ?_
  simp only [Act.put, List.setIfInBounds_toArray, List.set_cons_zero, List.set_cons_succ, Nat.reduceAdd]
  refine kept_val _ (fun _ => rfl) (fun ρ wz hw => by have q0 := (hw.cell (p := ⟨b, o, none⟩) hbs).trans p0; have q1 := (hw.cell (p := ⟨b, o + 1, none⟩) hbs).trans p1; have q2 := (hw.cell (p := ⟨b, o + 2, none⟩) hbs).trans p2; go_simp; first | done | with_reducible rfl) ?_
  simp only [Act.put, List.setIfInBounds_toArray, List.set_cons_zero, List.set_cons_succ, Nat.reduceAdd]
  refine kept_val _ (fun _ => rfl) (fun ρ wz hw => by go_simp; first | done | with_reducible rfl) ?_
  simp only [Act.put, List.setIfInBounds_toArray, List.set_cons_zero, List.set_cons_succ, Nat.reduceAdd]
  refine kept_val _ (fun _ => rfl) (fun ρ wz hw => by go_simp; first | done | with_reducible rfl) ?_
  simp only [Act.put, List.setIfInBounds_toArray, List.set_cons_zero, List.set_cons_succ, Nat.reduceAdd]
  refine kept_val _ (fun _ => rfl) (fun ρ wz hw => by go_simp; first | done | with_reducible rfl) ?_
  simp only [Act.put, List.setIfInBounds_toArray, List.set_cons_zero, List.set_cons_succ, Nat.reduceAdd]
  refine kept_val _ (fun _ => rfl) (fun ρ wz hw => by go_simp; first | done | with_reducible rfl) ?_
  simp only [Act.put, List.setIfInBounds_toArray, List.set_cons_zero, List.set_cons_succ, Nat.reduceAdd]
  refine kept_val _ (fun _ => rfl) (fun ρ wz hw => by go_simp; first | done | with_reducible rfl) ?_
  simp only [Act.put, List.setIfInBounds_toArray, List.set_cons_zero, List.set_cons_succ, Nat.reduceAdd]
  refine kept_val _ (fun _ => rfl) (fun ρ wz hw => by have q0 := (hw.cell (p := ⟨b, o + m * 3, none⟩) hbs).trans r0; have q1 := (hw.cell (p := ⟨b, o + m * 3 + 1, none⟩) hbs).trans r1; have q2 := (hw.cell (p := ⟨b, o + m * 3 + 2, none⟩) hbs).trans r2; go_simp; first | done | with_reducible rfl) ?_
  simp only [Act.put, List.setIfInBounds_toArray, List.set_cons_zero, List.set_cons_succ, Nat.reduceAdd]
  refine kept_box (fun b => .pointer (some ⟨b, 0, none⟩)) _ rfl (fun _ => rfl) (fun ρ wz hw => by go_simp; first | done | with_reducible rfl) ?_
  simp only [Act.put, List.setIfInBounds_toArray, List.set_cons_zero, List.set_cons_succ, Nat.reduceAdd]
  refine kept_box (fun b => .pointer (some ⟨b, 0, none⟩)) _ rfl (fun _ => rfl) (fun ρ wz hw => by go_simp; first | done | with_reducible rfl) ?_
  simp only [Act.put, List.setIfInBounds_toArray, List.set_cons_zero, List.set_cons_succ, Nat.reduceAdd]
  refine kept_put3 9 _ 4 _ _ _ _ _ _ _ rfl rfl rfl (by decide) (fun _ => rfl) (fun ρ wz hw q0 q1 q2 q3 q4 q5 => by go_simp; first | done | with_reducible rfl) ?_
  simp only [Act.put, Nat.reduceAdd]
  refine kept_put3 10 _ 5 _ _ _ _ _ _ _ rfl rfl rfl (by decide) (fun _ => rfl) (fun ρ wz hw q0 q1 q2 q3 q4 q5 => by go_simp; first | done | with_reducible rfl) ?_
  simp only [Act.put, Nat.reduceAdd]
  refine kept_end (fun ρ w5 hF => ?_)
  have x4 : Blk w5 (ρ 9) #[.int .i64 a.day, .string ⟨a.vl.toArray⟩, .string ⟨a.fl.toArray⟩] := ⟨_, (hF.box 9 _ _ rfl).2⟩
  have x5 : Blk w5 (ρ 10) #[.int .i64 z.day, .string ⟨z.vl.toArray⟩, .string ⟨z.fl.toArray⟩] := ⟨_, (hF.box 10 _ _ rfl).2⟩
  have hb5 := hF.below
  have hg4 := (hF.box 9 _ _ rfl).1
  have hg5 := (hF.box 10 _ _ rfl).1
  have hs1 := hb.size
  (try dsimp only)
  generalize ρ 9 = b4 at *
  generalize ρ 10 = b5 at *
  replace x2 := x2.below hb5
  replace hb := bto hb hb5
  clear hF hb5 p0 p1 p2 r0 r1 r2 hbs
  have q40 := x4.c 0
  have q50 := x5.c 0
  go_wp2_with fail
  ((with_reducible refine (C2.out.of hG hb).mono ?_); rintro e w6 ⟨rfl, hb6⟩)
  replace x2 := x2.below hb6
  replace x4 := x4.below hb6
  replace x5 := x5.below hb6
  replace hb := bto hb hb6
  clear hb6 q40 q50 C2
  go_wp2_with fail
  refine wp_region_kept (by kernel_rfl) (by kernel_rfl) ?_
  refine kept_val _ (fun _ => rfl) (fun ρ wz hw => by go_simp; first | done | with_reducible rfl) ?_
  simp only [Act.put, List.setIfInBounds_toArray, List.set_cons_zero, List.set_cons_succ, Nat.reduceAdd]
  refine kept_val _ (fun _ => rfl) (fun ρ wz hw => by have q0 := (x5.below hw).c 1; go_simp; first | done | with_reducible rfl) ?_
  simp only [Act.put, List.setIfInBounds_toArray, List.set_cons_zero, List.set_cons_succ, Nat.reduceAdd]
  refine kept_val _ (fun _ => rfl) (fun ρ wz hw => by go_simp; first | done | with_reducible rfl) ?_
  simp only [Act.put, List.setIfInBounds_toArray, List.set_cons_zero, List.set_cons_succ, Nat.reduceAdd]
  refine kept_val _ (fun _ => rfl) (fun ρ wz hw => by have q0 := (x4.below hw).c 1; go_simp; first | done | with_reducible rfl) ?_
  simp only [Act.put, List.setIfInBounds_toArray, List.set_cons_zero, List.set_cons_succ, Nat.reduceAdd]
  refine kept_call _ _ _ (fun _ => rfl) (fun ρ wz hw => by go_simp; first | done | with_reducible rfl) (fun wz hw => C3.out.of hG (bto hb hw)) ?_
  simp only [Act.put, List.setIfInBounds_toArray, List.set_cons_zero, List.set_cons_succ, Nat.reduceAdd]
  refine kept_val _ (fun _ => rfl) (fun ρ wz hw => by go_simp; first | done | with_reducible rfl) ?_
  simp only [Act.put, List.setIfInBounds_toArray, List.set_cons_zero, List.set_cons_succ, Nat.reduceAdd]
  refine kept_val _ (fun _ => rfl) (fun ρ wz hw => by have q0 := (x4.below hw).c 1; go_simp; first | done | with_reducible rfl) ?_
  simp only [Act.put, List.setIfInBounds_toArray, List.set_cons_zero, List.set_cons_succ, Nat.reduceAdd]
  refine kept_call _ _ _ (fun _ => rfl) (fun ρ wz hw => by go_simp; first | done | with_reducible rfl) (fun wz hw => C4.out.of hG (bto hb hw)) ?_
  simp only [Act.put, List.setIfInBounds_toArray, List.set_cons_zero, List.set_cons_succ, Nat.reduceAdd]
  refine kept_box (fun b => .pointer (some ⟨b, 0, none⟩)) _ rfl (fun _ => rfl) (fun ρ wz hw => by go_simp; first | done | with_reducible rfl) ?_
  simp only [Act.put, List.setIfInBounds_toArray, List.set_cons_zero, List.set_cons_succ, Nat.reduceAdd]
  refine kept_val _ (fun _ => rfl) (fun ρ wz hw => by go_simp; first | done | with_reducible rfl) ?_
  simp only [Act.put, List.setIfInBounds_toArray, List.set_cons_zero, List.set_cons_succ, Nat.reduceAdd]
  refine kept_put2 8 _ 8 _ _ _ _ _ rfl rfl rfl (by decide) (fun _ => rfl) (fun ρ wz hw q0 q1 q2 q3 => by go_simp; first | done | with_reducible rfl) ?_
  simp only [Act.put, Nat.reduceAdd]
  refine kept_end (fun ρ w7 hF => ?_)
  have x8 := FBox.ofB (hF.box 8 _ _ rfl).2
  have hb7 := hF.below
  have hg8 := (hF.box 8 _ _ rfl).1
  have hl4 := x4.lt
  have hl5 := x5.lt
  have hl2 := x2.lt
  have hs6 := hb.size
  (try dsimp only)
  generalize ρ 8 = b8 at *
  have n2 : w'.heap.size ≠ b8 := by omega
  have n4 : b4 ≠ b8 := by omega
  have n5 : b5 ≠ b8 := by omega
  have n8 : w'.heap.size ≤ b8 := by omega
  replace x2 := x2.below hb7
  replace x4 := x4.below hb7
  replace x5 := x5.below hb7
  replace hb := bto hb hb7
  clear hF hb7 C3 C4 hg4 hg5 hg8 hl4 hl5 hl2 hs6 hs1
  go_wp2_with fail
  go_loopw [7, 50] (fun gv iv wr => ∃ k : Nat, k ≤ m ∧ iv = .int .i64 (k : Int) ∧ gv = .string ⟨(canon (gk k)).toArray⟩ ∧ FBox wr b8 (.string ⟨(fN (ck k)).toArray⟩) (.string ⟨(fD (ck k)).toArray⟩) ∧ FBox wr w'.heap.size (.string ⟨#[]⟩) (.string ⟨#[]⟩) ∧ Blk wr b4 #[.int .i64 a.day, .string ⟨a.vl.toArray⟩, .string ⟨a.fl.toArray⟩] ∧ Blk wr b5 #[.int .i64 z.day, .string ⟨z.vl.toArray⟩, .string ⟨z.fl.toArray⟩] ∧ Below w'.heap.size w' wr) (fun _ iv _ => m - (intOf iv).toNat)
  case atStart => exact ⟨0, Nat.zero_le _, rfl, rfl, x8, x2, x4, x5, hb⟩
  case round =>
    clear hb x2 x4 x5 x8
    obtain ⟨k, hk, rfl, rfl, x8, x2, x4, x5, hb⟩ := hrel
    by_cases hlk : k < m
    · obtain ⟨t, ht⟩ : ∃ t, ts[k]? = some t := ⟨_, List.getElem?_eq_getElem (by rw [HQ.out.len]; omega)⟩
      obtain ⟨b', o', hA', hbs, p0, p1, p2⟩ := (HQ.out.mem.below hb) k t ht
      obtain ⟨rfl, rfl⟩ : b = b' ∧ o = o' := by injection hA' with hA'; injection hA' with h1 h2; exact ⟨h1, h2⟩
      have D1 := Lib.hid (HGK.out k t ht hlk)
      have D2 := Lib.hid (HMul.out k t ht).1
      have D3 := Lib.hid (HMul.out k t ht).2.1
      have D4 := Lib.hid (HMul.out k t ht).2.2
      have D5 := Lib.hid (HAdd.out k t ht hlk)
      have hot := HPBD.out t (List.mem_of_getElem? ht)
      have hwt : IntKind.i64.wrap (z.day - t.day) = z.day - t.day := Go.IntWalk.i64_in _ (by omega)
      have x10 := Blk.new wr #[.int .i64 t.day, .string ⟨t.vl.toArray⟩, .string ⟨t.fl.toArray⟩] 50
      have hbA := below_alloc wr (.cells #[.int .i64 t.day, .string ⟨t.vl.toArray⟩, .string ⟨t.fl.toArray⟩] 50)
      have q10 := x10.c 2
      replace x2 := x2.below hbA
      replace x4 := x4.below hbA
      replace x5 := x5.below hbA
      replace x8 := x8.below hbA
      replace hb := bto hb hbA
      clear hbA hA' ht
      go_wp2_with fail
      ((with_reducible refine (D1.out.of hG hb).mono ?_); rintro e w11 ⟨rfl, hb11⟩)
      replace x2 := x2.below hb11
      replace x4 := x4.below hb11
      replace x5 := x5.below hb11
      replace x8 := x8.below hb11
      replace x10 := x10.below hb11
      replace hb := bto hb hb11
      clear hb11 q10 p0 p1 p2 D1
      generalize canon (val t.fl * (z.day - t.day)) = mu at *
      generalize Rat.divInt (val t.fl * (z.day - t.day)) (z.day - a.day) = pr at *
      generalize canon (z.day - t.day) = dt at *
      go_wp2_with fail
      refine wp_region_lastD (by simp) (by kernel_rfl) (by kernel_rfl) (by kernel_rfl) rfl rfl ?_
      simp only [List.dropLast_cons_cons, List.dropLast_singleton, List.getLast_cons_cons, List.getLast_singleton]
      refine kept_val _ (fun _ => rfl) (fun ρ wz hw => by have q0 := (x8.below hw).c0; have q1 := (x8.below hw).c1; go_simp; first | done | with_reducible rfl) ?_
      simp only [Act.put, List.setIfInBounds_toArray, List.set_cons_zero, List.set_cons_succ, Nat.reduceAdd]
      refine kept_val _ (fun _ => rfl) (fun ρ wz hw => by go_simp; first | done | with_reducible rfl) ?_
      simp only [Act.put, List.setIfInBounds_toArray, List.set_cons_zero, List.set_cons_succ, Nat.reduceAdd]
      refine kept_val _ (fun _ => rfl) (fun ρ wz hw => by have q0 := (x10.below hw).c 2; go_simp; first | done | with_reducible rfl) ?_
      simp only [Act.put, List.setIfInBounds_toArray, List.set_cons_zero, List.set_cons_succ, Nat.reduceAdd]
      refine kept_val _ (fun _ => rfl) (fun ρ wz hw => by go_simp; first | done | with_reducible rfl) ?_
      simp only [Act.put, List.setIfInBounds_toArray, List.set_cons_zero, List.set_cons_succ, Nat.reduceAdd]
      refine kept_val _ (fun _ => rfl) (fun ρ wz hw => by have q0 := (x5.below hw).c 0; go_simp; first | done | with_reducible rfl) ?_
      simp only [Act.put, List.setIfInBounds_toArray, List.set_cons_zero, List.set_cons_succ, Nat.reduceAdd]
      refine kept_val _ (fun _ => rfl) (fun ρ wz hw => by go_simp; first | done | with_reducible rfl) ?_
      simp only [Act.put, List.setIfInBounds_toArray, List.set_cons_zero, List.set_cons_succ, Nat.reduceAdd]
      refine kept_val _ (fun _ => rfl) (fun ρ wz hw => by have q0 := (x10.below hw).c 0; go_simp; first | done | with_reducible rfl) ?_
      simp only [Act.put, List.setIfInBounds_toArray, List.set_cons_zero, List.set_cons_succ, Nat.reduceAdd]
      refine kept_val _ (fun _ => rfl) (fun ρ wz hw => by go_simp; first | done | with_reducible rfl) ?_
      simp only [Act.put, List.setIfInBounds_toArray, List.set_cons_zero, List.set_cons_succ, Nat.reduceAdd]
      refine kept_call _ _ _ (fun _ => rfl) (fun ρ wz hw => by go_simp; first | done | with_reducible rfl) (fun wz hw => D2.out.of hG (bto hb hw)) ?_
      simp only [Act.put, List.setIfInBounds_toArray, List.set_cons_zero, List.set_cons_succ, Nat.reduceAdd]
      refine kept_call _ _ _ (fun _ => rfl) (fun ρ wz hw => by go_simp; first | done | with_reducible rfl) (fun wz hw => D3.out.of hG (bto hb hw)) ?_
      simp only [Act.put, List.setIfInBounds_toArray, List.set_cons_zero, List.set_cons_succ, Nat.reduceAdd]
      refine kept_val _ (fun _ => rfl) (fun ρ wz hw => by go_simp; first | done | with_reducible rfl) ?_
      simp only [Act.put, List.setIfInBounds_toArray, List.set_cons_zero, List.set_cons_succ, Nat.reduceAdd]
      refine kept_call _ _ _ (fun _ => rfl) (fun ρ wz hw => by go_simp; first | done | with_reducible rfl) (fun wz hw => D4.out.of hG (bto hb hw)) ?_
      simp only [Act.put, List.setIfInBounds_toArray, List.set_cons_zero, List.set_cons_succ, Nat.reduceAdd]
      refine kept_call _ _ _ (fun _ => rfl) (fun ρ wz hw => by go_simp; first | done | with_reducible rfl) (fun wz hw => D5.out.of hG (bto hb hw)) ?_
      simp only [Act.put, List.setIfInBounds_toArray, List.set_cons_zero, List.set_cons_succ, Nat.reduceAdd]
      refine last_put2 b8 _ _ (.string ⟨(fN (ck (k + 1))).toArray⟩) (.string ⟨(fD (ck (k + 1))).toArray⟩) x8 (fun ρ w'' q0 q1 q2 q3 => by go_simp; first | done | with_reducible rfl) (fun ρ w12 hF y8 => ?_)
      have hbF := hF.below
      replace x2 := (x2.below hbF).setNe n2 (.string ⟨(fN (ck (k + 1))).toArray⟩) (.string ⟨(fD (ck (k + 1))).toArray⟩)
      replace x4 := (x4.below hbF).setNe2 n4 (.string ⟨(fN (ck (k + 1))).toArray⟩) (.string ⟨(fD (ck (k + 1))).toArray⟩)
      replace x5 := (x5.below hbF).setNe2 n5 (.string ⟨(fN (ck (k + 1))).toArray⟩) (.string ⟨(fD (ck (k + 1))).toArray⟩)
      replace x8 := y8.set (.string ⟨(fN (ck (k + 1))).toArray⟩) (.string ⟨(fD (ck (k + 1))).toArray⟩)
      replace hb := below_set2 (b := b8) (bto hb hbF) n8 (.string ⟨(fN (ck (k + 1))).toArray⟩) (.string ⟨(fD (ck (k + 1))).toArray⟩)
      clear hF hbF y8 x10 D2 D3 D4 D5
      go_wp2
      go_roundw
      case rel => exact ⟨k + 1, by omega, by go_num, rfl, x8, x2, x4, x5, hb⟩
      case measure => simp [intOf]; omega
    obtain rfl : k = m := by omega
    by_cases g0 : ck k = 0
    · have C7 := Lib.hid (C7b.out g0)
      have HV : Hid (dtzV ts = .tuple #[.agg #[.string ⟨#[]⟩, .string ⟨#[]⟩], .int .i64 10]) := by show _ = _; rw [HV0.out, if_pos g0]
      clear g0 HV0 C7a C7b
      go_wp2_with fail
      refine wp_region_kept (by kernel_rfl) (by kernel_rfl) ?_
      refine kept_val _ (fun _ => rfl) (fun ρ wz hw => by go_simp; first | done | with_reducible rfl) ?_
      simp only [Act.put, List.setIfInBounds_toArray, List.set_cons_zero, List.set_cons_succ, Nat.reduceAdd]
      refine kept_call _ _ _ (fun _ => rfl) (fun ρ wz hw => by go_simp; first | done | with_reducible rfl) (fun wz hw => C6.out.of hG (bto hb hw)) ?_
      simp only [Act.put, List.setIfInBounds_toArray, List.set_cons_zero, List.set_cons_succ, Nat.reduceAdd]
      refine kept_val _ (fun _ => rfl) (fun ρ wz hw => by have q0 := (x8.below hw).c0; have q1 := (x8.below hw).c1; go_simp; first | done | with_reducible rfl) ?_
      simp only [Act.put, List.setIfInBounds_toArray, List.set_cons_zero, List.set_cons_succ, Nat.reduceAdd]
      refine kept_call _ _ _ (fun _ => rfl) (fun ρ wz hw => by go_simp; first | done | with_reducible rfl) (fun wz hw => C7.out.of hG (bto hb hw)) ?_
      simp only [Act.put, List.setIfInBounds_toArray, List.set_cons_zero, List.set_cons_succ, Nat.reduceAdd]
      refine kept_val _ (fun _ => rfl) (fun ρ wz hw => by go_simp; first | done | with_reducible rfl) ?_
      simp only [Act.put, List.setIfInBounds_toArray, List.set_cons_zero, List.set_cons_succ, Nat.reduceAdd]
      refine kept_val _ (fun _ => rfl) (fun ρ wz hw => by go_simp; first | done | with_reducible rfl) ?_
      simp only [Act.put, List.setIfInBounds_toArray, List.set_cons_zero, List.set_cons_succ, Nat.reduceAdd]
      refine kept_val _ (fun _ => rfl) (fun ρ wz hw => by go_simp; first | done | with_reducible rfl) ?_
      simp only [Act.put, List.setIfInBounds_toArray, List.set_cons_zero, List.set_cons_succ, Nat.reduceAdd]
      refine kept_box (fun b => .pointer (some ⟨b, 0, none⟩)) _ rfl (fun _ => rfl) (fun ρ wz hw => by go_simp; first | done | with_reducible rfl) ?_
      simp only [Act.put, List.setIfInBounds_toArray, List.set_cons_zero, List.set_cons_succ, Nat.reduceAdd]
      refine kept_put2 7 _ 11 _ _ _ _ _ rfl rfl rfl (by decide) (fun _ => rfl) (fun ρ wz hw q0 q1 q2 q3 => by go_simp; first | done | with_reducible rfl) ?_
      simp only [Act.put, Nat.reduceAdd]
      refine kept_val _ (fun _ => rfl) (fun ρ wz hw => by go_simp; first | done | with_reducible rfl) ?_
      simp only [Act.put, List.setIfInBounds_toArray, List.set_cons_zero, List.set_cons_succ, Nat.reduceAdd]
      refine kept_end (fun ρ w14 hF => ?_)
      have hb14 := hF.below
      (try dsimp only)
      generalize ρ 7 = b11 at *
      replace x2 := x2.below hb14
      replace hb := bto hb hb14
      clear hF hb14
      have g0 := x2.c0
      have g1 := x2.c1
      have g2 := x2.f0
      have g3 := x2.f1
      go_wp2
      have hy := x2.set (.string ⟨#[]⟩) (.string ⟨#[]⟩)
      have d0 := hy.c0
      have d1 := hy.c1
      refine bodyPost_ret (v := .tuple #[.agg #[.string ⟨#[]⟩, .string ⟨#[]⟩], .int .i64 10]) (by simp [results, Tryz.results28, go_sem, d0, d1]) rfl ?_
      exact ⟨by rw [HV.out], below_set2 hb (Nat.le_refl _) _ _⟩
    · have C7 := Lib.hid (C7a.out g0)
      have HV : Hid (dtzV ts = .tuple #[(Value.agg #[Value.string ⟨List.toArray (fN (((gk k : Int) : Rat) / ck k))⟩, Value.string ⟨List.toArray (fD (((gk k : Int) : Rat) / ck k))⟩]), .int .i64 0]) := by show _ = _; rw [HV0.out, if_neg g0]
      clear g0 HV0 C7a C7b
      generalize ((gk k : Int) : Rat) / ck k = fq at *
      go_wp2_with fail
      refine wp_region_kept (by kernel_rfl) (by kernel_rfl) ?_
      refine kept_val _ (fun _ => rfl) (fun ρ wz hw => by go_simp; first | done | with_reducible rfl) ?_
      simp only [Act.put, List.setIfInBounds_toArray, List.set_cons_zero, List.set_cons_succ, Nat.reduceAdd]
      refine kept_call _ _ _ (fun _ => rfl) (fun ρ wz hw => by go_simp; first | done | with_reducible rfl) (fun wz hw => C6.out.of hG (bto hb hw)) ?_
      simp only [Act.put, List.setIfInBounds_toArray, List.set_cons_zero, List.set_cons_succ, Nat.reduceAdd]
      refine kept_val _ (fun _ => rfl) (fun ρ wz hw => by have q0 := (x8.below hw).c0; have q1 := (x8.below hw).c1; go_simp; first | done | with_reducible rfl) ?_
      simp only [Act.put, List.setIfInBounds_toArray, List.set_cons_zero, List.set_cons_succ, Nat.reduceAdd]
      refine kept_call _ _ _ (fun _ => rfl) (fun ρ wz hw => by go_simp; first | done | with_reducible rfl) (fun wz hw => C7.out.of hG (bto hb hw)) ?_
      simp only [Act.put, List.setIfInBounds_toArray, List.set_cons_zero, List.set_cons_succ, Nat.reduceAdd]
      refine kept_val _ (fun _ => rfl) (fun ρ wz hw => by go_simp; first | done | with_reducible rfl) ?_
      simp only [Act.put, List.setIfInBounds_toArray, List.set_cons_zero, List.set_cons_succ, Nat.reduceAdd]
      refine kept_val _ (fun _ => rfl) (fun ρ wz hw => by go_simp; first | done | with_reducible rfl) ?_
      simp only [Act.put, List.setIfInBounds_toArray, List.set_cons_zero, List.set_cons_succ, Nat.reduceAdd]
      refine kept_val _ (fun _ => rfl) (fun ρ wz hw => by go_simp; first | done | with_reducible rfl) ?_
      simp only [Act.put, List.setIfInBounds_toArray, List.set_cons_zero, List.set_cons_succ, Nat.reduceAdd]
      refine kept_box (fun b => .pointer (some ⟨b, 0, none⟩)) _ rfl (fun _ => rfl) (fun ρ wz hw => by go_simp; first | done | with_reducible rfl) ?_
      simp only [Act.put, List.setIfInBounds_toArray, List.set_cons_zero, List.set_cons_succ, Nat.reduceAdd]
      refine kept_put2 7 _ 11 _ _ _ _ _ rfl rfl rfl (by decide) (fun _ => rfl) (fun ρ wz hw q0 q1 q2 q3 => by go_simp; first | done | with_reducible rfl) ?_
      simp only [Act.put, Nat.reduceAdd]
      refine kept_val _ (fun _ => rfl) (fun ρ wz hw => by go_simp; first | done | with_reducible rfl) ?_
      simp only [Act.put, List.setIfInBounds_toArray, List.set_cons_zero, List.set_cons_succ, Nat.reduceAdd]
      refine kept_end (fun ρ w14 hF => ?_)
      have x11 := FBox.ofB (hF.box 7 _ _ rfl).2
      have hb14 := hF.below
      (try dsimp only)
      generalize ρ 7 = b11 at *
      replace x2 := x2.below hb14
      replace hb := bto hb hb14
      have p0 := x11.c0
      have p1 := x11.c1
      have g0 := x2.c0
      have g1 := x2.c1
      have g2 := x2.f0
      have g3 := x2.f1
      clear hF hb14
      go_wp2
      have hy := x2.set (.string ⟨(fN (fq)).toArray⟩) (.string ⟨(fD (fq)).toArray⟩)
      have d0 := hy.c0
      have d1 := hy.c1
      refine bodyPost_ret (v := .tuple #[(Value.agg #[Value.string ⟨List.toArray (fN fq)⟩, Value.string ⟨List.toArray (fD fq)⟩]), .int .i64 0]) (by simp [results, Tryz.results28, go_sem, d0, d1]) rfl ?_
      exact ⟨by rw [HV.out], below_set2 hb (Nat.le_refl _) _ _⟩
end Go.Proofs.YtmjglcgdcclinaaGreatDoor
