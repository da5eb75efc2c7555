/- CheckAll of package instrument and of trancheref10. -/
import Derived.Test.YtmjglcgdcclinaaGreatDoorIo
namespace Go.Proofs.YtmjglcgdcclinaaGreatDoor
open Go.RowKit Num
theorem InsAt.take {w : World} {A : Option Addr} {xs : List Ins} (h : InsAt w A xs) (k : Nat) : InsAt w A (xs.take k) := fun i t ht => by
  rw [List.getElem?_take] at ht
  split at ht
  · exact h i t ht
  · cases ht
theorem idxB_app (p : Ins → Bool) (x : Ins) (hx : p x = true) (r : List Ins) : ∀ (a : List Ins) (j : Nat), idxB p (a ++ x :: r) j = if a.any p = true then idxB p a j else ((j + a.length : Nat) : Int)
  | [], j => by simp [idxB, hx]
  | b :: a, j => by
    have ih := idxB_app p x hx r a (j + 1)
    rw [List.cons_append]
    unfold idxB
    by_cases hb : p b = true
    · simp [hb]
    · rw [if_neg hb, if_neg hb, ih]
      simp only [List.any_cons, not_true_b hb, Bool.false_or, List.length_cons]
      split
      · rfl
      · congr 1; omega
theorem idx_take {p : Ins → Bool} {xs : List Ins} {k : Nat} {x : Ins} (h : xs[k]? = some x) (hx : p x = true) : decide (max (idxB p xs 0) 0 < (k : Int)) = (xs.take k).any p := by
  obtain ⟨hk, rfl⟩ := List.getElem?_eq_some_iff.1 h
  have e : xs = xs.take k ++ xs[k] :: xs.drop (k + 1) := by rw [← List.drop_eq_getElem_cons hk, List.take_append_drop]
  have hl : (xs.take k).length = k := by rw [List.length_take]; omega
  have h1 := idxB_app p xs[k] hx (xs.drop (k + 1)) (xs.take k) 0
  rw [← e, hl] at h1
  have h2 := idxB_lt p (xs.take k) 0
  have h3 := idxB_any p (xs.take k) 0
  rw [hl] at h2
  by_cases ha : (xs.take k).any p = true
  · rw [ha, h1, if_pos ha]; exact decide_eq_true (by have := h3.2 ha; omega)
  · rw [not_true_b ha, h1, if_neg ha]; exact decide_eq_false (by omega)
theorem iFindB (A : Option Addr) (xs : List Ins) (n c : Nat) (id : List UInt8) (w : World) (hn : xs.length = n) (hn2 : n ≤ 1000000000) (h : InsAt w A xs) :
    Calls Tryz.prog 67 #[.slice A n c, .string ⟨id.toArray⟩] w fun e w' => e = .returned (.tuple #[.int .i64 (max (idxB (isId id) xs 0) 0), .bool (xs.any (isId id))]) ∧ Below w.heap.size w w' := by
  have := iFind A xs n c id w hn hn2 h
  have e : decide (0 ≤ idxB (isId id) xs 0) = xs.any (isId id) := by
    have h3 := idxB_any (isId id) xs 0
    by_cases ha : xs.any (isId id) = true
    · rw [ha]; exact decide_eq_true (h3.2 ha)
    · rw [not_true_b ha]; exact decide_eq_false (fun g => ha (h3.1 g))
  unfold findV at this
  rwa [e] at this
/-- what CheckAll returns -/
def allL (ts : List Cur) (seen : List Ins) : List Ins → Int
  | [] => 0
  | x :: r => if ¬ chkE x = 0 then chkE x else if seen.any (isId x.id) = true then 5 else if ¬ knownE x ts = 0 then 12 else allL ts (seen ++ [x]) r
def allE (xs : List Ins) (ts : List Cur) : Int := if ¬ tabE ts = 0 then 1 else if 64 < xs.length then 4 else allL ts [] xs
theorem allL_step {ts : List Cur} {xs : List Ins} {k : Nat} {x : Ins} (h : xs[k]? = some x) : allL ts (xs.take k) (xs.drop k) = if ¬ chkE x = 0 then chkE x else if (xs.take k).any (isId x.id) = true then 5 else if ¬ knownE x ts = 0 then 12 else allL ts (xs.take (k + 1)) (xs.drop (k + 1)) := by
  obtain ⟨hk, rfl⟩ := List.getElem?_eq_some_iff.1 h
  rw [List.drop_eq_getElem_cons hk, List.take_succ_eq_append_getElem hk]; rfl
theorem known_codes (x : Ins) (ts : List Cur) : knownE x ts = 0 ∨ knownE x ts = 12 := by
  unfold knownE
  split
  · exact .inl rfl
  · exact .inr rfl

set_option maxHeartbeats 4000000 in
set_option maxRecDepth 100000 in
theorem iCheckAll (A : Option Addr) (xs : List Ins) (n c : Nat) (A2 : Option Addr) (ts : List Cur) (m c2 : Nat) (w : World) (hG : Glob w) (hn : xs.length = n) (hc : n ≤ c) (hx : ∀ x ∈ xs, x.Small) (h : InsAt w A xs) (hm : ts.length = m) (hc2 : m ≤ c2) (hs : ShortC ts) (h2 : CurAt w A2 ts) (hm2 : m ≤ 1000000000) :
    Calls Tryz.prog 16 #[.slice A n c, .slice A2 m c2] w fun e w' => e = .returned (.int .i64 (allE xs ts)) ∧ Below w.heap.size w w' := by
  have CT := Lib.hid (mTable A2 ts m c2 w hG hm hc2 hs h2)
  have HI := Lib.hid h
  have HX := Lib.hid hx
  have H2 := Lib.hid h2
  have hn1 : xs.length ≤ n := by omega
  have hn2 : n ≤ xs.length := by omega
  have HM := Lib.hid hm
  clear h hx h2 hn hm hs
  by_cases g0 : tabE ts = 0
  rotate_left
  · have e1 : (tabE ts == 0) = false := by rw [beq_eq_false_iff_ne]; exact g0
    have e2 := bneq' e1
    have HV : Hid (allE xs ts = 1) := if_pos g0
    clear g0
    go_enter Tryz.func16, Tryz.ntmps16
    go_wp2_with fail
    ((with_reducible refine CT.out.mono ?_); rintro e w1 ⟨rfl, hb⟩)
    go_wp2
    go_ret
    exact ⟨reti HV.out.symm, hb⟩
  have HV0 : Hid (allE xs ts = if 64 < xs.length then 4 else allL ts [] xs) := if_neg (fun h => h g0)
  rw [g0] at CT
  clear g0
  by_cases g1 : 64 < n
  · have e1 : decide (64 < n) = true := decide_eq_true g1
    have HV : Hid (allE xs ts = 4) := by show _ = _; rw [HV0.out, if_pos (by omega)]
    go_enter Tryz.func16, Tryz.ntmps16
    go_wp2_with fail
    ((with_reducible refine CT.out.mono ?_); rintro e w1 ⟨rfl, hb⟩)
    go_wp2
    go_ret
    exact ⟨reti HV.out.symm, hb⟩
  have e1 : decide (64 < n) = false := decide_eq_false g1
  have HV : Hid (allE xs ts = allL ts [] xs) := by show _ = _; rw [HV0.out, if_neg (by omega)]
  clear HV0
  go_enter Tryz.func16, Tryz.ntmps16
  go_wp2_with fail
  ((with_reducible refine CT.out.mono ?_); rintro e w1 ⟨rfl, hb1⟩)
  go_wp2_with fail
  clear e1 CT
  go_loopw [19] (fun iv wr => ∃ k : Nat, k ≤ n ∧ iv = .int .i64 (k : Int) ∧ Hid (allL ts [] xs = allL ts (xs.take k) (xs.drop k)) ∧ Below w.heap.size w wr) (fun iv _ => n - (intOf iv).toNat)
  case atStart => exact ⟨0, Nat.zero_le _, rfl, rfl, hb1⟩
  case round =>
    obtain ⟨k, hk, rfl, HK, hb⟩ := hrel
    by_cases hlk : k < n
    rotate_left
    · have HQ : Hid (allL ts [] xs = 0) := by show _ = _; rw [HK.out, List.drop_of_length_le (by omega)]; rfl
      go_wp2
      go_ret
      exact ⟨reti (HV.out.trans HQ.out).symm, hb⟩
    obtain ⟨x, hxk⟩ : ∃ x, xs[k]? = some x := ⟨_, List.getElem?_eq_getElem (by omega)⟩
    obtain ⟨b, o, rfl, hbs, hc0⟩ := (HI.out.below hb) k x hxk
    have HD := Lib.hid (allL_step (ts := ts) hxk)
    have hsm := HX.out x (List.mem_of_getElem? hxk)
    clear hxk
    have p0 := hc0.c0
    have p1 := hc0.c1
    have p2 := hc0.c2
    have p3 := hc0.c3
    have p4 := hc0.c4
    have p5 := hc0.c5
    have p6 := hc0.c6
    have p7 := hc0.c7
    have p8 := hc0.c8
    have p9 := hc0.c9
    have p10 := hc0.c10
    have p11 := hc0.c11
    have p12 := hc0.c12
    have p13 := hc0.c13
    have p14 := hc0.c14
    have hbA := below_alloc wr (.cells #[Value.string ⟨List.toArray x.id⟩, Value.int .i64 x.kind, Value.string ⟨List.toArray x.cur⟩, Value.int .i64 x.places, Value.int .i64 x.issued, Value.int .i64 x.matures, Value.string ⟨List.toArray x.fn⟩, Value.string ⟨List.toArray x.fd⟩, Value.string ⟨List.toArray x.cn⟩, Value.string ⟨List.toArray x.cd⟩, Value.int .i64 x.months, Value.int .i64 x.count, Value.string ⟨List.toArray x.other⟩, Value.string ⟨List.toArray x.sn⟩, Value.string ⟨List.toArray x.sd⟩] 34)
    have x6 := IBox.new wr x 34
    replace hb := bto hb hbA
    have C1 := Lib.hid (iCheck x hsm)
    go_wp2_with fail
    ((with_reducible refine (C1.out.of hG hb).mono ?_); rintro e w2 ⟨rfl, hb2⟩)
    replace hb := bto hb hb2
    replace x6 := x6.below hb2
    clear hb2 hbA C1 hc0 p0 p1 p2 p3 p4 p5 p6 p7 p8 p9 p10 p11 p12 p13 p14
    by_cases g2 : chkE x = 0
    rotate_left
    · have e1 : (chkE x == 0) = false := by rw [beq_eq_false_iff_ne]; exact g2
      have e2 := bneq' e1
      have HQ : Hid (allL ts [] xs = chkE x) := by show _ = _; rw [HK.out, HD.out, if_pos g2]
      clear g2 HK HD
      go_wp2
      go_ret
      exact ⟨reti (HV.out.trans HQ.out).symm, hb⟩
    have e1 : (chkE x == 0) = true := by rw [beq_iff_eq]; exact g2
    have e2 := bneq e1
    have HQ : Hid (allL ts [] xs = if (xs.take k).any (isId x.id) = true then 5 else if ¬ knownE x ts = 0 then 12 else allL ts (xs.take (k + 1)) (xs.drop (k + 1))) := by show _ = _; rw [HK.out, HD.out, if_neg (fun h => h g2)]
    clear g2 HK HD
    have CF : ∀ w', Below w.heap.size w w' → Calls Tryz.prog 67 #[.slice (some ⟨b, o, none⟩) k c, .string ⟨x.id.toArray⟩] w' _ := fun w' hb' => iFindB _ (xs.take k) k c x.id w' (by rw [List.length_take]; omega) (by omega) ((HI.out.below hb').take k)
    have CK : ∀ w', Below w.heap.size w w' → Calls Tryz.prog 68 #[(Value.agg #[Value.string ⟨List.toArray x.id⟩, Value.int .i64 x.kind, Value.string ⟨List.toArray x.cur⟩, Value.int .i64 x.places, Value.int .i64 x.issued, Value.int .i64 x.matures, Value.string ⟨List.toArray x.fn⟩, Value.string ⟨List.toArray x.fd⟩, Value.string ⟨List.toArray x.cn⟩, Value.string ⟨List.toArray x.cd⟩, Value.int .i64 x.months, Value.int .i64 x.count, Value.string ⟨List.toArray x.other⟩, Value.string ⟨List.toArray x.sn⟩, Value.string ⟨List.toArray x.sd⟩]), .slice A2 m c2] w' _ := fun w' hb' => iKnown x A2 ts m c2 w' HM.out hm2 (H2.out.below hb')
    have kc : k ≤ c := by omega
    generalize max (idxB (isId x.id) (xs.take k) 0) 0 = fi at CF
    generalize (xs.take k).any (isId x.id) = fb at CF HQ
    have hke := known_codes x ts
    generalize knownE x ts = ke at CK HQ hke
    cases fb with
    | true =>
      go_wp2_with fail
      refine wp_region_kept (by kernel_rfl) (by kernel_rfl) ?_
      refine kept_val _ (fun _ => rfl) (fun ρ w hw => by go_simp; first | done | with_reducible rfl) ?_
      simp only [Act.put, List.setIfInBounds_toArray, List.set_cons_zero, List.set_cons_succ, Nat.reduceAdd]
      refine kept_val _ (fun _ => rfl) (fun ρ w hw => by go_simp; first | done | with_reducible rfl) ?_
      simp only [Act.put, List.setIfInBounds_toArray, List.set_cons_zero, List.set_cons_succ, Nat.reduceAdd]
      refine kept_val _ (fun _ => rfl) (fun ρ w hw => by go_simp; first | done | with_reducible rfl) ?_
      simp only [Act.put, List.setIfInBounds_toArray, List.set_cons_zero, List.set_cons_succ, Nat.reduceAdd]
      refine kept_val _ (fun _ => rfl) (fun ρ w hw => by go_simp; first | done | with_reducible rfl) ?_
      simp only [Act.put, List.setIfInBounds_toArray, List.set_cons_zero, List.set_cons_succ, Nat.reduceAdd]
      refine kept_val _ (fun _ => rfl) (fun ρ w hw => by have q0 := (x6.below hw).c0; go_simp; first | done | with_reducible rfl) ?_
      simp only [Act.put, List.setIfInBounds_toArray, List.set_cons_zero, List.set_cons_succ, Nat.reduceAdd]
      refine kept_call _ _ _ (fun _ => rfl) (fun ρ w hw => by go_simp; first | done | with_reducible rfl) (fun w hw => (CF _ (bto hb hw))) ?_
      simp only [Act.put, List.setIfInBounds_toArray, List.set_cons_zero, List.set_cons_succ, Nat.reduceAdd]
      refine kept_val _ (fun _ => rfl) (fun ρ w hw => by go_simp; first | done | with_reducible rfl) ?_
      simp only [Act.put, List.setIfInBounds_toArray, List.set_cons_zero, List.set_cons_succ, Nat.reduceAdd]
      refine kept_val _ (fun _ => rfl) (fun ρ w hw => by go_simp; first | done | with_reducible rfl) ?_
      simp only [Act.put, List.setIfInBounds_toArray, List.set_cons_zero, List.set_cons_succ, Nat.reduceAdd]
      refine kept_val _ (fun _ => rfl) (fun ρ w hw => by go_simp; first | done | with_reducible rfl) ?_
      simp only [Act.put, List.setIfInBounds_toArray, List.set_cons_zero, List.set_cons_succ, Nat.reduceAdd]
      refine kept_val _ (fun _ => rfl) (fun ρ w hw => by go_simp; first | done | with_reducible rfl) ?_
      simp only [Act.put, List.setIfInBounds_toArray, List.set_cons_zero, List.set_cons_succ, Nat.reduceAdd]
      refine kept_val _ (fun _ => rfl) (fun ρ w hw => by go_simp; first | done | with_reducible rfl) ?_
      simp only [Act.put, List.setIfInBounds_toArray, List.set_cons_zero, List.set_cons_succ, Nat.reduceAdd]
      refine kept_end (fun ρ w21 hF => ?_)
      replace x6 := x6.below hF.below
      replace hb := bto hb hF.below
      clear hF
      clear CF CK
      go_wp2
      go_ret
      exact ⟨reti (HV.out.trans HQ.out).symm, hb⟩
    | false =>
      go_wp2_with fail
      refine wp_region_kept (by kernel_rfl) (by kernel_rfl) ?_
      refine kept_val _ (fun _ => rfl) (fun ρ w hw => by go_simp; first | done | with_reducible rfl) ?_
      simp only [Act.put, List.setIfInBounds_toArray, List.set_cons_zero, List.set_cons_succ, Nat.reduceAdd]
      refine kept_val _ (fun _ => rfl) (fun ρ w hw => by go_simp; first | done | with_reducible rfl) ?_
      simp only [Act.put, List.setIfInBounds_toArray, List.set_cons_zero, List.set_cons_succ, Nat.reduceAdd]
      refine kept_val _ (fun _ => rfl) (fun ρ w hw => by go_simp; first | done | with_reducible rfl) ?_
      simp only [Act.put, List.setIfInBounds_toArray, List.set_cons_zero, List.set_cons_succ, Nat.reduceAdd]
      refine kept_val _ (fun _ => rfl) (fun ρ w hw => by go_simp; first | done | with_reducible rfl) ?_
      simp only [Act.put, List.setIfInBounds_toArray, List.set_cons_zero, List.set_cons_succ, Nat.reduceAdd]
      refine kept_val _ (fun _ => rfl) (fun ρ w hw => by have q0 := (x6.below hw).c0; go_simp; first | done | with_reducible rfl) ?_
      simp only [Act.put, List.setIfInBounds_toArray, List.set_cons_zero, List.set_cons_succ, Nat.reduceAdd]
      refine kept_call _ _ _ (fun _ => rfl) (fun ρ w hw => by go_simp; first | done | with_reducible rfl) (fun w hw => (CF _ (bto hb hw))) ?_
      simp only [Act.put, List.setIfInBounds_toArray, List.set_cons_zero, List.set_cons_succ, Nat.reduceAdd]
      refine kept_val _ (fun _ => rfl) (fun ρ w hw => by go_simp; first | done | with_reducible rfl) ?_
      simp only [Act.put, List.setIfInBounds_toArray, List.set_cons_zero, List.set_cons_succ, Nat.reduceAdd]
      refine kept_val _ (fun _ => rfl) (fun ρ w hw => by go_simp; first | done | with_reducible rfl) ?_
      simp only [Act.put, List.setIfInBounds_toArray, List.set_cons_zero, List.set_cons_succ, Nat.reduceAdd]
      refine kept_val _ (fun _ => rfl) (fun ρ w hw => by go_simp; first | done | with_reducible rfl) ?_
      simp only [Act.put, List.setIfInBounds_toArray, List.set_cons_zero, List.set_cons_succ, Nat.reduceAdd]
      refine kept_val _ (fun _ => rfl) (fun ρ w hw => by go_simp; first | done | with_reducible rfl) ?_
      simp only [Act.put, List.setIfInBounds_toArray, List.set_cons_zero, List.set_cons_succ, Nat.reduceAdd]
      refine kept_val _ (fun _ => rfl) (fun ρ w hw => by go_simp; first | done | with_reducible rfl) ?_
      simp only [Act.put, List.setIfInBounds_toArray, List.set_cons_zero, List.set_cons_succ, Nat.reduceAdd]
      refine kept_end (fun ρ w21 hF => ?_)
      replace x6 := x6.below hF.below
      replace hb := bto hb hF.below
      clear hF
      clear CF
      have r0 := x6.c0
      have r1 := x6.c1
      have r2 := x6.c2
      have r3 := x6.c3
      have r4 := x6.c4
      have r5 := x6.c5
      have r6 := x6.c6
      have r7 := x6.c7
      have r8 := x6.c8
      have r9 := x6.c9
      have r10 := x6.c10
      have r11 := x6.c11
      have r12 := x6.c12
      have r13 := x6.c13
      have r14 := x6.c14
      have HC := Lib.hid (CK _ hb)
      clear CK
      go_wp2_with fail
      ((with_reducible refine HC.out.mono ?_); rintro e w9 ⟨rfl, hb9⟩)
      replace hb := bto hb hb9
      clear hb9 HC x6 r0 r1 r2 r3 r4 r5 r6 r7 r8 r9 r10 r11 r12 r13 r14
      rcases hke with hke | hke
      · subst hke
        go_wp2
        go_roundw
        case rel => exact ⟨k + 1, by omega, by go_num, HQ.out, hb⟩
        case measure => simp [intOf]; omega
      · subst hke
        go_wp2
        go_ret
        exact ⟨reti (HV.out.trans HQ.out).symm, hb⟩

end Go.Proofs.YtmjglcgdcclinaaGreatDoor
