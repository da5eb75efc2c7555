/- tranchelaw46: Great, fine, grown; points written in place. -/
import Derived.Test.YtmjglcgdcclinaaGreatDoorTi
namespace Go.Proofs.YtmjglcgdcclinaaGreatDoor
open Go.RowKit Num
theorem qGreatB {l : List UInt8} : Ret 57 #[.string ⟨l.toArray⟩] (.bool (decide (60 < l.length))) := qGreat rfl
/-- what Great and fine say -/
def GEnd (G : Bool → Prop) (w : World) (e : Ending) (w' : World) : Prop := ∃ b, e = .returned (.bool b) ∧ G b ∧ Below w.heap.size w w'
theorem gend {G : Bool → Prop} {w w' : World} {b : Bool} (h : G b) (hb : Below w.heap.size w w') : GEnd G w (.returned (.bool b)) w' := ⟨b, rfl, h, hb⟩
set_option maxHeartbeats 4000000 in
set_option maxRecDepth 100000 in
theorem rGreat46 (A : Option Addr) (ts : List Pnt) (n c : Nat) (w : World) (hG : Glob w) (hn : ts.length = n) (hn2 : n ≤ 9223372036854775807) (h : PntAt w A ts) :
    Calls Tryz.prog 22 #[.slice A n c] w (GEnd (fun b => b = false → QL w A ts n) w) := by
  have HI := Lib.hid h
  have hn1 : ts.length ≤ n := by omega
  have hn3 : n ≤ ts.length := by omega
  have HN := Lib.hid hn
  clear h hn
  go_enter Tryz.func22, Tryz.ntmps22
  go_wp2_with fail
  go_loopw [3] (fun iv wr => ∃ k : Nat, k ≤ n ∧ iv = .int .i64 (k : Int) ∧ Hid (∀ i t, i < k → ts[i]? = some t → t.vl.length ≤ 60 ∧ t.fl.length ≤ 60) ∧ Below w.heap.size w wr) (fun iv _ => n - (intOf iv).toNat)
  case atStart => exact ⟨0, Nat.zero_le _, rfl, fun i t hi => absurd hi (Nat.not_lt_zero _), Below.refl _ _⟩
  case round =>
    obtain ⟨k, hk, rfl, HK, hb⟩ := hrel
    by_cases hlt : k < n
    · obtain ⟨t, ht⟩ : ∃ t, ts[k]? = some t := ⟨_, List.getElem?_eq_getElem (by omega)⟩
      obtain ⟨b, o, rfl, hbs, p0, p1, p2⟩ := (HI.out.below hb) k t ht
      have HT := Lib.hid ht
      have C1 := Lib.hid (qGreatB (l := t.vl))
      have C2 := Lib.hid (qGreatB (l := t.fl))
      clear ht p0
      by_cases g1 : 60 < t.vl.length
      · have e1 : decide (60 < t.vl.length) = true := decide_eq_true g1
        rw [e1] at C1
        clear g1 e1
        go_wp2_with fail
        ((with_reducible refine (C1.out.of hG hb).mono ?_); rintro e w2 ⟨rfl, hb2⟩)
        replace hb := bto hb hb2
        clear hb2 p1 p2 C2
        go_wp2
        go_ret
        exact gend (fun h => by cases h) hb
      have e1 : decide (60 < t.vl.length) = false := decide_eq_false g1
      rw [e1] at C1
      by_cases g2 : 60 < t.fl.length
      · have e2 : decide (60 < t.fl.length) = true := decide_eq_true g2
        rw [e2] at C2
        clear g1 g2 e1 e2
        go_wp2_with fail
        ((with_reducible refine (C1.out.of hG hb).mono ?_); rintro e w2 ⟨rfl, hb2⟩)
        replace p2 := (hb2.cell (p := ⟨b, o + k * 3 + 2, none⟩) hbs).trans p2
        replace hb := bto hb hb2
        clear hb2 p1
        go_wp2_with fail
        ((with_reducible refine (C2.out.of hG hb).mono ?_); rintro e w3 ⟨rfl, hb3⟩)
        replace hb := bto hb hb3
        clear hb3 p2
        go_wp2
        go_ret
        exact gend (fun h => by cases h) hb
      have e2 : decide (60 < t.fl.length) = false := decide_eq_false g2
      rw [e2] at C2
      have HK2 : Hid (∀ i t, i < k + 1 → ts[i]? = some t → t.vl.length ≤ 60 ∧ t.fl.length ≤ 60) := fun i x hi hx => by
        by_cases hik : i < k
        · exact HK.out i x hik hx
        · obtain rfl : i = k := by omega
          have := HT.out
          rw [hx] at this
          injection this with this
          subst this
          omega
      clear g1 g2 e1 e2 HK HT
      go_wp2_with fail
      ((with_reducible refine (C1.out.of hG hb).mono ?_); rintro e w2 ⟨rfl, hb2⟩)
      replace p2 := (hb2.cell (p := ⟨b, o + k * 3 + 2, none⟩) hbs).trans p2
      replace hb := bto hb hb2
      clear hb2 p1
      go_wp2_with fail
      ((with_reducible refine (C2.out.of hG hb).mono ?_); rintro e w3 ⟨rfl, hb3⟩)
      replace hb := bto hb hb3
      clear hb3 p2
      go_wp2
      go_roundw
      case rel => exact ⟨k + 1, by omega, by go_num, HK2.out, hb⟩
      case measure => simp [intOf]; omega
    · have HS : Hid (∀ t ∈ ts, t.vl.length ≤ 60 ∧ t.fl.length ≤ 60) := fun t ht => by
        obtain ⟨i, hi⟩ := List.mem_iff_getElem?.1 ht
        exact HK.out i t (by have := (List.getElem?_eq_some_iff.1 hi).1; omega) hi
      clear HK
      by_cases h12 : 12 < n
      · have e1 : decide (12 < n) = true := decide_eq_true h12
        by_cases h400 : n ≤ 400
        · have e2 : decide (n ≤ 400) = true := decide_eq_true h400
          go_wp2
          go_ret
          exact gend (fun h => by first | cases h | (simp at h; omega)) hb
        · have e2 : decide (n ≤ 400) = false := decide_eq_false h400
          by_cases h403 : 403 < n
          · have e3 : decide (403 < n) = true := decide_eq_true h403
            go_wp2
            go_ret
            exact gend (fun h => by first | cases h | (simp at h; omega)) hb
          · have e3 : decide (403 < n) = false := decide_eq_false h403
            go_wp2
            go_ret
            exact gend (fun _ => ⟨HN.out, by omega, by omega, HS.out, HI.out⟩) hb
      · have e1 : decide (12 < n) = false := decide_eq_false h12
        have e3 : decide (403 < n) = false := decide_eq_false (by omega)
        go_wp2
        go_ret
        exact gend (fun _ => ⟨HN.out, by omega, by omega, HS.out, HI.out⟩) hb
set_option maxHeartbeats 1000000 in
set_option maxRecDepth 100000 in
theorem rFine (A : Option Addr) (ts : List Pnt) (n c : Nat) (w : World) (hG : Glob w) (hn : ts.length = n) (hn2 : n ≤ 9223372036854775807) (h : PntAt w A ts) :
    Calls Tryz.prog 34 #[.slice A n c] w (GEnd (fun b => b = true → QL w A ts n ∧ pntE ts = 0) w) := by
  have C1 := Lib.hid (rGreat46 A ts n c w hG hn hn2 h)
  clear hn h
  go_enter Tryz.func34, Tryz.ntmps34
  go_wp2_with fail
  refine C1.out.mono ?_
  rintro e w2 ⟨b, rfl, hq, hb⟩
  cases b
  rotate_left
  · clear hq
    go_wp2
    go_ret
    exact gend (fun h => by cases h) hb
  have h := hq rfl
  have HQ := Lib.hid h
  have C2 := Lib.hid (rwCheckB hG h c)
  clear hq h
  by_cases g : pntE ts = 0
  · rw [g] at C2
    have HG := Lib.hid g
    clear g
    go_wp2_with fail
    ((with_reducible refine (C2.out.of hG hb).mono ?_); rintro e w3 ⟨rfl, hb3⟩)
    replace hb := bto hb hb3
    go_wp2
    go_ret
    exact gend (fun _ => ⟨HQ.out, HG.out⟩) hb
  · have e1 : (pntE ts == 0) = false := intbne g
    generalize pntE ts = E at *
    clear g
    go_wp2_with fail
    ((with_reducible refine (C2.out.of hG hb).mono ?_); rintro e w3 ⟨rfl, hb3⟩)
    replace hb := bto hb hb3
    go_wp2
    go_ret
    exact gend (fun h => by first | cases h | simp_all) hb
set_option maxHeartbeats 1000000 in
set_option maxRecDepth 100000 in
theorem twGrown {q r : Rat} {k : Nat} (hq : Bd k q) (hk : k ≤ 90000) (er : q + 1 = r) : Ret 47 #[(Value.agg #[Value.string ⟨List.toArray (fN q)⟩, Value.string ⟨List.toArray (fD q)⟩])] (Value.agg #[Value.string ⟨List.toArray (fN r)⟩, Value.string ⟨List.toArray (fD r)⟩]) := fun w hG => by
  have c0 : Ret 37 #[.string ⟨[49].toArray⟩] (Value.agg #[Value.string ⟨List.toArray (fN ((1 : Rat)))⟩, Value.string ⟨List.toArray (fD ((1 : Rat)))⟩]) := by have h := rOf (l := [49]) (by decide) (z := 1) (by decide); exact h
  have C1 := Lib.hid c0
  have C2 := Lib.hid (rAdd (isq_fr hq (by omega)) (isq_fr bd_one (by decide)) er)
  obtain ⟨W, hW⟩ : ∃ W, W = (w.alloc (.cells #[.string ⟨(fN (q)).toArray⟩, .string ⟨(fD (q)).toArray⟩] 32)).alloc (.cells #[.string ⟨#[]⟩, .string ⟨#[]⟩] 32) := ⟨_, rfl⟩
  have x1 : FBox W w.heap.size (.string ⟨(fN (q)).toArray⟩) (.string ⟨(fD (q)).toArray⟩) := by rw [hW]; exact (FBox.new w (.string ⟨(fN (q)).toArray⟩) (.string ⟨(fD (q)).toArray⟩) 32).below (below_alloc _ _)
  have x2 : FBox W (w.heap.size + 1) (.string ⟨#[]⟩) (.string ⟨#[]⟩) := by rw [hW]; have h := FBox.new (w.alloc (.cells #[.string ⟨(fN (q)).toArray⟩, .string ⟨(fD (q)).toArray⟩] 32)) (.string ⟨#[]⟩) (.string ⟨#[]⟩) 32; rw [World.size_alloc] at h; exact h
  have hb : Below w.heap.size w W := by rw [hW]; exact bto (below_alloc _ _) (below_alloc _ _)
  have HW := Lib.hid hW
  generalize (1 : Rat) = one at *
  clear c0 hq hk er hW
  go_enter Tryz.func47, Tryz.ntmps47
  go_wp2_with fail
  rw [← HW.out]
  refine wp_region_lastD (by simp) (by kernel_rfl) (by kernel_rfl) (by kernel_rfl) rfl rfl ?_
  simp only [List.dropLast_cons_cons, List.dropLast_singleton, List.getLast_cons_cons, List.getLast_singleton]
  refine kept_val _ (fun _ => rfl) (fun ρ w hw => by have q0 := (x1.below hw).c0; have q1 := (x1.below hw).c1; go_simp; first | done | with_reducible rfl) ?_
  simp only [Act.put, List.setIfInBounds_toArray, List.set_cons_zero, List.set_cons_succ, Nat.reduceAdd]
  refine kept_call _ _ _ (fun _ => rfl) (fun ρ w hw => by go_simp; first | done | with_reducible rfl) (fun w hw => C1.out.of hG (bto hb hw)) ?_
  simp only [Act.put, List.setIfInBounds_toArray, List.set_cons_zero, List.set_cons_succ, Nat.reduceAdd]
  refine kept_call _ _ _ (fun _ => rfl) (fun ρ w hw => by go_simp; first | done | with_reducible rfl) (fun w hw => C2.out.of hG (bto hb hw)) ?_
  simp only [Act.put, List.setIfInBounds_toArray, List.set_cons_zero, List.set_cons_succ, Nat.reduceAdd]
  refine last_put2 (w.heap.size + 1) _ _ (.string ⟨(fN (r)).toArray⟩) (.string ⟨(fD (r)).toArray⟩) x2 (fun ρ w'' q0 q1 q2 q3 => by go_simp; first | done | with_reducible rfl) (fun ρ w12 hF y8 => ?_)
  have hbF := hF.below
  have hy := y8.set (.string ⟨(fN (r)).toArray⟩) (.string ⟨(fD (r)).toArray⟩)
  have d0 := hy.c0
  have d1 := hy.c1
  go_wp2
  refine bodyPost_ret (v := (Value.agg #[Value.string ⟨List.toArray (fN r)⟩, Value.string ⟨List.toArray (fD r)⟩])) (by simp [results, Tryz.results47, go_sem, d0, d1]) rfl ?_
  exact ⟨rfl, below_set2 (bto hb hbF) (by omega) _ _⟩
/-! rows written in place -/
theorem rowsQ_setF : ∀ {xs : List Pnt} {i : Nat} {x : Pnt} (a : List UInt8), xs[i]? = some x → (rowsQ xs).set (i * 3 + 2) (.string ⟨a.toArray⟩) = rowsQ (xs.set i ⟨x.day, x.vl, a⟩)
  | [], i, x, a, h => by simp at h
  | y :: xs, 0, x, a, h => by
    have : y = x := by simpa using h
    subst this; rfl
  | y :: xs, i + 1, x, a, h => by
    have h1 := rowsQ_setF (xs := xs) (i := i) (x := x) a (by simpa using h)
    rw [rowsQ_cons, show (i + 1) * 3 + 2 = (i * 3 + 2) + 1 + 1 + 1 by omega, List.set_cons_succ, List.set_cons_succ, List.set_cons_succ, h1]; rfl
theorem rowsQ_setV : ∀ {xs : List Pnt} {i : Nat} {x : Pnt} (a : List UInt8), xs[i]? = some x → (rowsQ xs).set (i * 3 + 1) (.string ⟨a.toArray⟩) = rowsQ (xs.set i ⟨x.day, a, x.fl⟩)
  | [], i, x, a, h => by simp at h
  | y :: xs, 0, x, a, h => by
    have : y = x := by simpa using h
    subst this; rfl
  | y :: xs, i + 1, x, a, h => by
    have h1 := rowsQ_setV (xs := xs) (i := i) (x := x) a (by simpa using h)
    rw [rowsQ_cons, show (i + 1) * 3 + 1 = (i * 3 + 1) + 1 + 1 + 1 by omega, List.set_cons_succ, List.set_cons_succ, List.set_cons_succ, h1]; rfl
/-- the first k are turned -/
def mixF (f : Pnt → Pnt) (ts : List Pnt) (k : Nat) : List Pnt := (ts.take k).map f ++ ts.drop k
theorem mix_zero (f : Pnt → Pnt) (ts : List Pnt) : mixF f ts 0 = ts := rfl
theorem mix_all {f : Pnt → Pnt} {ts : List Pnt} {k : Nat} (h : ts.length ≤ k) : mixF f ts k = ts.map f := by
  unfold mixF; rw [List.take_of_length_le h, List.drop_of_length_le h, List.append_nil]
theorem mix_len (f : Pnt → Pnt) (ts : List Pnt) (k : Nat) : (mixF f ts k).length = ts.length := by
  unfold mixF; simp; omega
theorem mix_at {f : Pnt → Pnt} {ts : List Pnt} {k : Nat} {t : Pnt} (h : ts[k]? = some t) : (mixF f ts k)[k]? = some t := by
  obtain ⟨hk, rfl⟩ := List.getElem?_eq_some_iff.1 h
  unfold mixF
  rw [List.getElem?_append_right (by simp; omega), List.length_map, List.length_take, Nat.min_eq_left (Nat.le_of_lt hk), Nat.sub_self, List.getElem?_drop, Nat.add_zero]
  exact h
theorem mix_set {f : Pnt → Pnt} {ts : List Pnt} {k : Nat} {t : Pnt} (h : ts[k]? = some t) : (mixF f ts k).set k (f t) = mixF f ts (k + 1) := by
  obtain ⟨hk, rfl⟩ := List.getElem?_eq_some_iff.1 h
  unfold mixF
  rw [List.set_append_right _ _ (by simp; omega), List.length_map, List.length_take, Nat.min_eq_left (Nat.le_of_lt hk), Nat.sub_self, List.drop_eq_getElem_cons hk, List.set_cons_zero, take_snoc h, List.map_append, List.append_assoc]
  rfl
set_option maxHeartbeats 1000000 in
set_option maxRecDepth 100000 in
theorem cloneQ0 (A : Option Addr) (c : Nat) (w : World) :
    Calls Tryz.prog 33 #[.slice A 0 c] w fun e w' => ∃ B cp, e = .returned (.slice B 0 cp) ∧ Below w.heap.size w w' := by
  cases A with
  | none =>
    refine (AnyE.slices_Clone_nil Tryz.clonePnt 0 c w).mono ?_
    rintro e w' ⟨rfl, rfl⟩
    exact ⟨none, 0, rfl, Below.refl _ _⟩
  | some a =>
    obtain ⟨i0, hi, hz0, hz1, hz2⟩ := info_parts info_pnt
    have q22 : ∀ w, (binOp .eql 39 (.slice (some a) 0 c) (.slice none 0 0)).run Tryz.prog w = .ok (.bool false) w := fun w => Lib.run_eql_slice_nil w _ _ (some a) 0 c 0 0 Tryz.underlying39
    go_enter Tryz.func33, Tryz.ntmps33
    go_wp2_with (at_builtin; refine wpList_append_own _ rfl _ _ 39 rfl w.heap.size 50 i0 (.agg #[.int .i64 0, .string ⟨#[]⟩, .string ⟨#[]⟩]) 3 40 Tryz.underlying39 hi hz0 hz1 hz2 rfl (by decide) _ _ _ rfl (World.ownsRow_made w #[] 0 (Nat.le_refl _) (Nat.zero_le _) (by simp)) a 0 c [] rfl ?qc1 ?qc2 ?qc3 ?qc4 ?qc5 ?qc6 ?_)
    case qc1 => rfl
    case qc2 => intro j u hu; simp at hu
    case qc3 => intro u hu; simp at hu
    case qc4 => unfold maxLen; omega
    case qc5 => omega
    case qc6 => simp
    intro v' w' hown hgrow _
    obtain ⟨B, cp, rfl⟩ : ∃ B cp, v' = .slice B 0 cp := by
      rcases hown.2 with ⟨rfl, -⟩ | ⟨g, cap, cur, rfl, -⟩
      · exact ⟨_, _, rfl⟩
      · exact ⟨_, _, rfl⟩
    have hb := Below.grown (below_alloc w (.cells #[] 50)) hgrow (by simp) (fun k hk => by simp [Value.ownBlock] at hk; omega)
    go_wp2
    go_ret
    exact ⟨_, _, rfl, hb⟩
end Go.Proofs.YtmjglcgdcclinaaGreatDoor
