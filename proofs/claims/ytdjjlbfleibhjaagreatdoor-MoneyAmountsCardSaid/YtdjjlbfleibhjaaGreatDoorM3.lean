/- Texts put together: Mq Mt Dp Da Mu. -/
import Derived.Test.YtdjjlbfleibhjaaGreatDoorM2
import Derived.Test.YtdjjlbfleibhjaaGreatDoorCc
import Derived.Test.YtdjjlbfleibhjaaGreatDoorBe
namespace Go.Proofs.YtdjjlbfleibhjaaGreatDoor
open Go.RowKit Num
open Go.Op (bytesLess)
def ordM : Option (List UInt8) → List UInt8 → Bool
  | none, _ => false
  | some p, c => !bytesLess p c
/-- why amounts are no bag -/
def bagL : Option (List UInt8) → List Mon → Int
  | _, [] => 0
  | o, x :: r => if ¬ codeB x.cur = true then 23 else if ¬ x.amt = canon (val x.amt) then 1 else if x.amt = [] then 11 else if ordM o x.cur = true then 8 else bagL (some x.cur) r
def bagE (ts : List Mon) : Int := if 16 < ts.length then 4 else bagL none ts
def prevC (ts : List Mon) : Nat → Option (List UInt8)
  | 0 => none
  | k + 1 => (ts[k]?).map (·.cur)
theorem bagL_step {ts : List Mon} {k : Nat} {x : Mon} (h : ts[k]? = some x) : bagL (prevC ts k) (ts.drop k) = if ¬ codeB x.cur = true then 23 else if ¬ x.amt = canon (val x.amt) then 1 else if x.amt = [] then 11 else if ordM (prevC ts k) x.cur = true then 8 else bagL (prevC ts (k + 1)) (ts.drop (k + 1)) := by
  obtain ⟨hk, rfl⟩ := List.getElem?_eq_some_iff.1 h
  have e : prevC ts (k + 1) = some ts[k].cur := by show (ts[k]?).map (·.cur) = _; rw [h]; rfl
  rw [List.drop_eq_getElem_cons hk, e]; rfl
theorem bagL_end {ts : List Mon} {k : Nat} (h : ts.length ≤ k) : bagL (prevC ts k) (ts.drop k) = 0 := by rw [List.drop_of_length_le h]; cases prevC ts k <;> rfl
/-- the codes of a bag -/
def Codes (xs : List Mon) : Prop := ∀ x ∈ xs, codeB x.cur = true
theorem bagL_ok : ∀ (xs : List Mon) (o : Option (List UInt8)), bagL o xs = 0 → (∀ p, o = some p → ∀ x ∈ xs, bytesLess p x.cur = true) ∧ Srt xs ∧ Can xs ∧ Codes xs
  | [], _, _ => ⟨fun _ _ x hx => (by cases hx), List.Pairwise.nil, fun x hx => (by cases hx), fun x hx => (by cases hx)⟩
  | x :: r, o, h => by
    have h : (if ¬ codeB x.cur = true then (23 : Int) else if ¬ x.amt = canon (val x.amt) then 1 else if x.amt = [] then 11 else if ordM o x.cur = true then 8 else bagL (some x.cur) r) = 0 := h
    by_cases g1 : codeB x.cur = true
    rotate_left
    · rw [if_pos g1] at h; cases h
    by_cases g2 : x.amt = canon (val x.amt)
    rotate_left
    · rw [if_neg (fun h => h g1), if_pos g2] at h; cases h
    by_cases g3 : x.amt = []
    · rw [if_neg (fun h => h g1), if_neg (fun h => h g2), if_pos g3] at h; cases h
    by_cases g4 : ordM o x.cur = true
    · rw [if_neg (fun h => h g1), if_neg (fun h => h g2), if_neg g3, if_pos g4] at h; cases h
    rw [if_neg (fun h => h g1), if_neg (fun h => h g2), if_neg g3, if_neg g4] at h
    obtain ⟨i1, i2, i3, i4⟩ := bagL_ok r (some x.cur) h
    have hx : ∀ p, o = some p → bytesLess p x.cur = true := fun p hp => by
      subst hp
      have g5 : ¬ (!bytesLess p x.cur) = true := g4
      cases hb : bytesLess p x.cur with
      | true => rfl
      | false => rw [hb] at g5; exact absurd rfl g5
    refine ⟨fun p hp y hy => ?_, List.pairwise_cons.2 ⟨fun y hy => i1 _ rfl y hy, i2⟩, can_cons ⟨g2, g3⟩ i3, fun y hy => ?_⟩
    · rcases List.mem_cons.1 hy with rfl | hy
      · exact hx p hp
      · exact ltS_trans (hx p hp) (i1 _ rfl y hy)
    · rcases List.mem_cons.1 hy with rfl | hy
      · exact g1
      · exact i4 y hy
theorem bagL_mk : ∀ (xs : List Mon) (o : Option (List UInt8)), (∀ p, o = some p → ∀ x ∈ xs, bytesLess p x.cur = true) → Srt xs → Can xs → Codes xs → bagL o xs = 0
  | [], o, _, _, _, _ => by cases o <;> rfl
  | x :: r, o, h1, h2, h3, h4 => by
    have hx := h3 x (List.mem_cons_self ..)
    have ho : ¬ ordM o x.cur = true := by
      cases o with
      | none => exact fun h => by cases h
      | some p =>
        show ¬ (!bytesLess p x.cur) = true
        rw [h1 p rfl x (List.mem_cons_self ..)]; decide
    show (if ¬ codeB x.cur = true then (23 : Int) else if ¬ x.amt = canon (val x.amt) then 1 else if x.amt = [] then 11 else if ordM o x.cur = true then 8 else bagL (some x.cur) r) = 0
    rw [if_neg (fun h => h (h4 x (List.mem_cons_self ..))), if_neg (fun h => h hx.1), if_neg hx.2, if_neg ho]
    exact bagL_mk r (some x.cur) (fun p hp y hy => by injection hp with hp; subst hp; exact srt_head h2 y hy) (srt_tail h2) (can_tail h3) (fun y hy => h4 y (List.mem_cons_of_mem _ hy))
theorem bagE_ok {xs : List Mon} (h : bagE xs = 0) : Bag xs ∧ Codes xs ∧ xs.length ≤ 16 := by
  unfold bagE at h
  by_cases h0 : 16 < xs.length
  · rw [if_pos h0] at h; cases h
  rw [if_neg h0] at h
  obtain ⟨-, h1, h2, h3⟩ := bagL_ok xs none h
  exact ⟨⟨h1, h2⟩, h3, by omega⟩
theorem bagE_mk {xs : List Mon} (h : Bag xs) (h2 : Codes xs) (h3 : xs.length ≤ 16) : bagE xs = 0 := by
  unfold bagE
  rw [if_neg (by omega)]
  exact bagL_mk xs none (fun p hp => by cases hp) h.srt h.can h2
/-- amounts within the statements' sizes, in memory -/
structure ML (w : World) (A : Option Addr) (ts : List Mon) (n : Nat) : Prop where
  len : ts.length = n
  sm : n ≤ 1000
  str : ∀ t ∈ ts, t.cur.length ≤ 1000 ∧ t.amt.length ≤ 1000
  mem : MonAt w A ts
theorem ML.below {w w' : World} {A : Option Addr} {ts : List Mon} {n : Nat} (h : ML w A ts n) (hb : Below w.heap.size w w') : ML w' A ts n := ⟨h.len, h.sm, h.str, h.mem.below hb⟩
set_option maxHeartbeats 8000000 in
set_option maxRecDepth 100000 in
theorem mCheck (A : Option Addr) (ts : List Mon) (n c : Nat) (w : World) (hG : Glob w) (h : ML w A ts n) :
    Calls Tryz.prog 34 #[.slice A n c] w fun e w' => e = .returned (.int .i64 (bagE ts)) ∧ Below w.heap.size w w' := by
  obtain ⟨hn, hn67, hs, h⟩ := h
  by_cases h4 : 16 < n
  · have HV : Hid (bagE ts = 4) := by show _ = _; unfold bagE; rw [if_pos (by omega)]
    have e1 : decide (16 < n) = true := decide_eq_true h4
    clear hn hs h
    go_enter Tryz.func34, Tryz.ntmps34
    go_wp2
    go_ret
    exact ⟨reti HV.out.symm, Below.refl _ _⟩
  have e1 : decide (16 < n) = false := decide_eq_false h4
  have HE : Hid (bagE ts = bagL none ts) := by show _ = _; unfold bagE; rw [if_neg (by omega)]
  have HI := Lib.hid h
  have HS := Lib.hid hs
  have HNn := Lib.hid hn
  clear h hn hs
  go_enter Tryz.func34, Tryz.ntmps34
  go_wp2_with fail
  clear e1
  go_loopw [10] (fun iv wr => ∃ k : Nat, k ≤ n ∧ iv = .int .i64 (k : Int) ∧ Hid (bagL none ts = bagL (prevC ts k) (ts.drop k)) ∧ Below w.heap.size w wr) (fun iv _ => n - (intOf iv).toNat)
  case atStart => exact ⟨0, Nat.zero_le _, rfl, rfl, Below.refl _ _⟩
  case round =>
    obtain ⟨k, hk, rfl, HK, hb⟩ := hrel
    have hnl := HNn.out
    by_cases hlk : k < n
    rotate_left
    · have HV : Hid (bagE ts = 0) := by show _ = _; rw [HE.out, HK.out, bagL_end (by omega)]
      clear HK HE HI HS
      go_wp2
      go_ret
      exact ⟨reti HV.out.symm, hb⟩
    obtain ⟨t, ht⟩ : ∃ t, ts[k]? = some t := ⟨_, List.getElem?_eq_getElem (by omega)⟩
    obtain ⟨b, o, hA, hbs, p0, p1⟩ := (HI.out.below hb) k t ht
    subst hA
    obtain ⟨hv40, hf40⟩ := HS.out t (List.mem_of_getElem? ht)
    have HN := Lib.hid (bagL_step ht)
    have CD := Lib.hid (mCode (l := t.cur) (by omega))
    have hbA := below_alloc wr (.cells #[.string ⟨t.cur.toArray⟩, .string ⟨t.amt.toArray⟩] 25)
    have x4 := FBox.new wr (.string ⟨t.cur.toArray⟩) (.string ⟨t.amt.toArray⟩) 25
    replace hb := bto hb hbA
    have hbs := Nat.lt_of_lt_of_le hbs hbA.size
    clear hbA
    clear ht
    by_cases gd : codeB t.cur = true
    rotate_left
    · have HG := Lib.hid gd
      have e1 := not_true_b gd
      rw [e1] at CD
      clear gd e1
      skip
      have q0 := x4.c0
      have q1 := x4.c1
      go_wp2_with fail
      ((with_reducible refine (CD.out.of hG hb).mono ?_); rintro e w10 ⟨rfl, hb10⟩)
      clear q0 q1
      replace x4 := x4.below hb10
      replace hbs := Nat.lt_of_lt_of_le hbs hb10.size
      replace hb := bto hb hb10
      clear hb10
      have HV : Hid (bagE ts = 23) := by show _ = _; rw [HE.out, HK.out, HN.out, if_pos HG.out]
      clear HK HN HE HI HS
      have q0 := x4.c0
      have q1 := x4.c1
      go_wp2
      go_ret
      exact ⟨reti HV.out.symm, hb⟩
    have HGd := Lib.hid (fun (h : ¬ codeB t.cur = true) => h gd)
    rw [gd] at CD
    clear gd
    have q0 := x4.c0
    have q1 := x4.c1
    go_wp2_with fail
    ((with_reducible refine (CD.out.of hG hb).mono ?_); rintro e w11 ⟨rfl, hb11⟩)
    clear q0 q1
    replace x4 := x4.below hb11
    replace hbs := Nat.lt_of_lt_of_le hbs hb11.size
    replace hb := bto hb hb11
    clear hb11
    clear CD
    clear p0 p1
    by_cases gv : t.amt = canon (val t.amt)
    rotate_left
    · have CC := Lib.hid (riCheck (l := t.amt) (c := 1) (by omega) (if_neg gv))
      have HB := Lib.hid gv
      clear gv
      have q0 := x4.c0
      have q1 := x4.c1
      go_wp2_with fail
      ((with_reducible refine (CC.out.of hG hb).mono ?_); rintro e w12 ⟨rfl, hb12⟩)
      clear q0 q1
      replace x4 := x4.below hb12
      replace hbs := Nat.lt_of_lt_of_le hbs hb12.size
      replace hb := bto hb hb12
      clear hb12
      have HV : Hid (bagE ts = 1) := by show _ = _; rw [HE.out, HK.out, HN.out, if_neg HGd.out, if_pos HB.out]
      clear HK HN HE HI HS
      have q0 := x4.c0
      have q1 := x4.c1
      go_wp2
      go_ret
      exact ⟨reti HV.out.symm, hb⟩
    have CC := Lib.hid (riCheck (l := t.amt) (c := 0) (by omega) (if_pos gv))
    have HGv := Lib.hid (fun (h : ¬ t.amt = canon (val t.amt)) => h gv)
    clear gv
    have q0 := x4.c0
    have q1 := x4.c1
    go_wp2_with fail
    ((with_reducible refine (CC.out.of hG hb).mono ?_); rintro e w13 ⟨rfl, hb13⟩)
    clear q0 q1
    replace x4 := x4.below hb13
    replace hbs := Nat.lt_of_lt_of_le hbs hb13.size
    replace hb := bto hb hb13
    clear hb13
    clear CC
    by_cases ge : t.amt = []
    · have HC := Lib.hid ge
      have e1 : (t.amt == []) = true := by rw [beq_iff_eq]; exact ge
      have e2 : (t.amt).isEmpty = true := by rw [List.isEmpty_iff]; exact ge
      clear ge
      have HV : Hid (bagE ts = 11) := by show _ = _; rw [HE.out, HK.out, HN.out, if_neg HGd.out, if_neg HGv.out, if_pos HC.out]
      clear HK HN HE HI HS
      have q0 := x4.c0
      have q1 := x4.c1
      go_wp2
      go_ret
      exact ⟨reti HV.out.symm, hb⟩
    have HC := Lib.hid ge
    have e1 : (t.amt == []) = false := by rw [beq_eq_false_iff_ne]; exact ge
    have e2 : (t.amt).isEmpty = false := by rw [List.isEmpty_eq_false_iff]; exact ge
    clear ge
    have q0 := x4.c0
    have q1 := x4.c1
    go_wp2_with fail
    clear q0 q1
    clear e1 e2
    cases k with
    | zero =>
      have HV : Hid (bagL none ts = bagL (prevC ts (0 + 1)) (ts.drop (0 + 1))) := by show _ = _; rw [HK.out, HN.out, if_neg HGd.out, if_neg HGv.out, if_neg HC.out, if_neg (show ¬ ordM (prevC ts 0) t.cur = true from fun h => by cases h)]
      clear HK HN
      refine wp_region_kept (by kernel_rfl) (by kernel_rfl) ?_
      refine kept_val _ (fun _ => rfl) (fun ρ w hw => by go_simp; first | done | with_reducible rfl) ?_
      simp only [Act.put, List.setIfInBounds_toArray, List.set_cons_zero, List.set_cons_succ, Nat.reduceAdd]
      refine kept_val _ (fun _ => rfl) (fun ρ w hw => by go_simp; first | done | with_reducible rfl) ?_
      simp only [Act.put, List.setIfInBounds_toArray, List.set_cons_zero, List.set_cons_succ, Nat.reduceAdd]
      refine kept_val _ (fun _ => rfl) (fun ρ w hw => by go_simp; first | done | with_reducible rfl) ?_
      simp only [Act.put, List.setIfInBounds_toArray, List.set_cons_zero, List.set_cons_succ, Nat.reduceAdd]
      refine kept_off (fun _ => rfl) ?_
      simp only [Act.put, List.setIfInBounds_toArray, List.set_cons_zero, List.set_cons_succ, Nat.reduceAdd]
      refine kept_off (fun _ => rfl) ?_
      simp only [Act.put, List.setIfInBounds_toArray, List.set_cons_zero, List.set_cons_succ, Nat.reduceAdd]
      refine kept_off (fun _ => rfl) ?_
      simp only [Act.put, List.setIfInBounds_toArray, List.set_cons_zero, List.set_cons_succ, Nat.reduceAdd]
      refine kept_off (fun _ => rfl) ?_
      simp only [Act.put, List.setIfInBounds_toArray, List.set_cons_zero, List.set_cons_succ, Nat.reduceAdd]
      refine kept_off (fun _ => rfl) ?_
      simp only [Act.put, List.setIfInBounds_toArray, List.set_cons_zero, List.set_cons_succ, Nat.reduceAdd]
      refine kept_off (fun _ => rfl) ?_
      simp only [Act.put, List.setIfInBounds_toArray, List.set_cons_zero, List.set_cons_succ, Nat.reduceAdd]
      refine kept_off (fun _ => rfl) ?_
      simp only [Act.put, List.setIfInBounds_toArray, List.set_cons_zero, List.set_cons_succ, Nat.reduceAdd]
      refine kept_off (fun _ => rfl) ?_
      simp only [Act.put, List.setIfInBounds_toArray, List.set_cons_zero, List.set_cons_succ, Nat.reduceAdd]
      refine kept_off (fun _ => rfl) ?_
      simp only [Act.put, List.setIfInBounds_toArray, List.set_cons_zero, List.set_cons_succ, Nat.reduceAdd]
      refine kept_val _ (fun _ => rfl) (fun ρ w hw => by go_simp; first | done | with_reducible rfl) ?_
      simp only [Act.put, List.setIfInBounds_toArray, List.set_cons_zero, List.set_cons_succ, Nat.reduceAdd]
      refine kept_val _ (fun _ => rfl) (fun ρ w hw => by go_simp; first | done | with_reducible rfl) ?_
      simp only [Act.put, List.setIfInBounds_toArray, List.set_cons_zero, List.set_cons_succ, Nat.reduceAdd]
      refine kept_end (fun ρ w20 hF => ?_)
      have hbF := hF.below
      clear hF
      replace x4 := x4.below hbF
      replace hb := bto hb hbF
      clear hbF
      go_wp2
      go_roundw
      case rel => exact ⟨0 + 1, by omega, by go_num, HV.out, hb⟩
      case measure => simp [intOf]; omega
    | succ k' =>
      obtain ⟨u, hu⟩ : ∃ u, ts[k']? = some u := ⟨_, List.getElem?_eq_getElem (by omega)⟩
      obtain ⟨b', o', hA', hbs', r0, -⟩ := (HI.out.below hb) k' u hu
      obtain ⟨rfl, rfl⟩ : b = b' ∧ o = o' := by injection hA' with hA'; injection hA' with h1 h2; exact ⟨h1, h2⟩
      have hpd : prevC ts (k' + 1) = some u.cur := by show (ts[k']?).map (·.cur) = _; rw [hu]; rfl
      have HPd := Lib.hid hpd
      have hwr : IntKind.i64.wrap (k' : Int) = (k' : Int) := Go.IntWalk.i64_in _ (by omega)
      have hkn : k' < n := by omega
      have kk1 : (0 : Int) ≤ (k' : Int) + 1 := by omega
      have kk2 : (k' : Int) + 1 < (n : Int) := by omega
      clear hu hA' hpd hbs'
      cases hlt : bytesLess u.cur t.cur
      · have HB : Hid (ordM (prevC ts (k' + 1)) t.cur = true) := by show _ = _; rw [HPd.out]; show (!bytesLess u.cur t.cur) = true; rw [hlt]; rfl
        refine wp_region_kept (by kernel_rfl) (by kernel_rfl) ?_
        refine kept_val _ (fun _ => rfl) (fun ρ w hw => by go_simp; first | done | with_reducible rfl) ?_
        simp only [Act.put, List.setIfInBounds_toArray, List.set_cons_zero, List.set_cons_succ, Nat.reduceAdd]
        refine kept_val (.bool true) (fun _ => rfl) (fun ρ w hw => by go_simp; first | done | omega | (simp; omega)) ?_
        simp only [Act.put, List.setIfInBounds_toArray, List.set_cons_zero, List.set_cons_succ, Nat.reduceAdd]
        refine kept_val _ (fun _ => rfl) (fun ρ w hw => by go_simp; first | done | with_reducible rfl) ?_
        simp only [Act.put, List.setIfInBounds_toArray, List.set_cons_zero, List.set_cons_succ, Nat.reduceAdd]
        refine kept_val _ (fun _ => rfl) (fun ρ w hw => by go_simp; first | done | with_reducible rfl) ?_
        simp only [Act.put, List.setIfInBounds_toArray, List.set_cons_zero, List.set_cons_succ, Nat.reduceAdd]
        refine kept_val _ (fun _ => rfl) (fun ρ w hw => by go_simp; first | done | with_reducible rfl) ?_
        simp only [Act.put, List.setIfInBounds_toArray, List.set_cons_zero, List.set_cons_succ, Nat.reduceAdd]
        refine kept_val _ (fun _ => rfl) (fun ρ w hw => by go_simp; first | done | with_reducible rfl) ?_
        simp only [Act.put, List.setIfInBounds_toArray, List.set_cons_zero, List.set_cons_succ, Nat.reduceAdd]
        refine kept_val _ (fun _ => rfl) (fun ρ w hw => by go_simp; first | done | with_reducible rfl) ?_
        simp only [Act.put, List.setIfInBounds_toArray, List.set_cons_zero, List.set_cons_succ, Nat.reduceAdd]
        refine kept_val _ (fun _ => rfl) (fun ρ w hw => by go_simp; first | done | with_reducible rfl) ?_
        simp only [Act.put, List.setIfInBounds_toArray, List.set_cons_zero, List.set_cons_succ, Nat.reduceAdd]
        refine kept_val _ (fun _ => rfl) (fun ρ w hw => by have q0 := (hw.cell (p := ⟨b, o + k' * 2, none⟩) hbs).trans r0; go_simp; first | done | with_reducible rfl) ?_
        simp only [Act.put, List.setIfInBounds_toArray, List.set_cons_zero, List.set_cons_succ, Nat.reduceAdd]
        refine kept_val _ (fun _ => rfl) (fun ρ w hw => by go_simp; first | done | with_reducible rfl) ?_
        simp only [Act.put, List.setIfInBounds_toArray, List.set_cons_zero, List.set_cons_succ, Nat.reduceAdd]
        refine kept_val _ (fun _ => rfl) (fun ρ w hw => by have q0 := (x4.below hw).c0; go_simp; first | done | with_reducible rfl) ?_
        simp only [Act.put, List.setIfInBounds_toArray, List.set_cons_zero, List.set_cons_succ, Nat.reduceAdd]
        refine kept_val _ (fun _ => rfl) (fun ρ w hw => by go_simp; first | done | with_reducible rfl) ?_
        simp only [Act.put, List.setIfInBounds_toArray, List.set_cons_zero, List.set_cons_succ, Nat.reduceAdd]
        refine kept_val _ (fun _ => rfl) (fun ρ w hw => by go_simp; first | done | with_reducible rfl) ?_
        simp only [Act.put, List.setIfInBounds_toArray, List.set_cons_zero, List.set_cons_succ, Nat.reduceAdd]
        refine kept_val _ (fun _ => rfl) (fun ρ w hw => by go_simp; first | done | with_reducible rfl) ?_
        simp only [Act.put, List.setIfInBounds_toArray, List.set_cons_zero, List.set_cons_succ, Nat.reduceAdd]
        refine kept_end (fun ρ w20 hF => ?_)
        have hbF := hF.below
        clear hF
        replace x4 := x4.below hbF
        replace hb := bto hb hbF
        clear hbF
        clear r0
        have HV : Hid (bagE ts = 8) := by show _ = _; rw [HE.out, HK.out, HN.out, if_neg HGd.out, if_neg HGv.out, if_neg HC.out, if_pos HB.out]
        clear HK HN HE HI HS
        have q0 := x4.c0
        have q1 := x4.c1
        go_wp2
        go_ret
        exact ⟨reti HV.out.symm, hb⟩
      · have HB : Hid (¬ ordM (prevC ts (k' + 1)) t.cur = true) := by show ¬ _; rw [HPd.out]; show ¬ (!bytesLess u.cur t.cur) = true; rw [hlt]; decide
        have HV : Hid (bagL none ts = bagL (prevC ts ((k' + 1) + 1)) (ts.drop ((k' + 1) + 1))) := by show _ = _; rw [HK.out, HN.out, if_neg HGd.out, if_neg HGv.out, if_neg HC.out, if_neg HB.out]
        clear HK HN
        refine wp_region_kept (by kernel_rfl) (by kernel_rfl) ?_
        refine kept_val _ (fun _ => rfl) (fun ρ w hw => by go_simp; first | done | with_reducible rfl) ?_
        simp only [Act.put, List.setIfInBounds_toArray, List.set_cons_zero, List.set_cons_succ, Nat.reduceAdd]
        refine kept_val (.bool true) (fun _ => rfl) (fun ρ w hw => by go_simp; first | done | omega | (simp; omega)) ?_
        simp only [Act.put, List.setIfInBounds_toArray, List.set_cons_zero, List.set_cons_succ, Nat.reduceAdd]
        refine kept_val _ (fun _ => rfl) (fun ρ w hw => by go_simp; first | done | with_reducible rfl) ?_
        simp only [Act.put, List.setIfInBounds_toArray, List.set_cons_zero, List.set_cons_succ, Nat.reduceAdd]
        refine kept_val _ (fun _ => rfl) (fun ρ w hw => by go_simp; first | done | with_reducible rfl) ?_
        simp only [Act.put, List.setIfInBounds_toArray, List.set_cons_zero, List.set_cons_succ, Nat.reduceAdd]
        refine kept_val _ (fun _ => rfl) (fun ρ w hw => by go_simp; first | done | with_reducible rfl) ?_
        simp only [Act.put, List.setIfInBounds_toArray, List.set_cons_zero, List.set_cons_succ, Nat.reduceAdd]
        refine kept_val _ (fun _ => rfl) (fun ρ w hw => by go_simp; first | done | with_reducible rfl) ?_
        simp only [Act.put, List.setIfInBounds_toArray, List.set_cons_zero, List.set_cons_succ, Nat.reduceAdd]
        refine kept_val _ (fun _ => rfl) (fun ρ w hw => by go_simp; first | done | with_reducible rfl) ?_
        simp only [Act.put, List.setIfInBounds_toArray, List.set_cons_zero, List.set_cons_succ, Nat.reduceAdd]
        refine kept_val _ (fun _ => rfl) (fun ρ w hw => by go_simp; first | done | with_reducible rfl) ?_
        simp only [Act.put, List.setIfInBounds_toArray, List.set_cons_zero, List.set_cons_succ, Nat.reduceAdd]
        refine kept_val _ (fun _ => rfl) (fun ρ w hw => by have q0 := (hw.cell (p := ⟨b, o + k' * 2, none⟩) hbs).trans r0; go_simp; first | done | with_reducible rfl) ?_
        simp only [Act.put, List.setIfInBounds_toArray, List.set_cons_zero, List.set_cons_succ, Nat.reduceAdd]
        refine kept_val _ (fun _ => rfl) (fun ρ w hw => by go_simp; first | done | with_reducible rfl) ?_
        simp only [Act.put, List.setIfInBounds_toArray, List.set_cons_zero, List.set_cons_succ, Nat.reduceAdd]
        refine kept_val _ (fun _ => rfl) (fun ρ w hw => by have q0 := (x4.below hw).c0; go_simp; first | done | with_reducible rfl) ?_
        simp only [Act.put, List.setIfInBounds_toArray, List.set_cons_zero, List.set_cons_succ, Nat.reduceAdd]
        refine kept_val _ (fun _ => rfl) (fun ρ w hw => by go_simp; first | done | with_reducible rfl) ?_
        simp only [Act.put, List.setIfInBounds_toArray, List.set_cons_zero, List.set_cons_succ, Nat.reduceAdd]
        refine kept_val _ (fun _ => rfl) (fun ρ w hw => by go_simp; first | done | with_reducible rfl) ?_
        simp only [Act.put, List.setIfInBounds_toArray, List.set_cons_zero, List.set_cons_succ, Nat.reduceAdd]
        refine kept_val _ (fun _ => rfl) (fun ρ w hw => by go_simp; first | done | with_reducible rfl) ?_
        simp only [Act.put, List.setIfInBounds_toArray, List.set_cons_zero, List.set_cons_succ, Nat.reduceAdd]
        refine kept_end (fun ρ w20 hF => ?_)
        have hbF := hF.below
        clear hF
        replace x4 := x4.below hbF
        replace hb := bto hb hbF
        clear hbF
        clear r0
        go_wp2
        go_roundw
        case rel => exact ⟨(k' + 1) + 1, by omega, by go_num, HV.out, hb⟩
        case measure => simp [intOf]; omega
set_option maxHeartbeats 8000000 in
set_option maxRecDepth 100000 in
theorem jBag (A : Option Addr) (ts : List Mon) (n c : Nat) (w : World) (hG : Glob w) (h : ML w A ts n) :
    Calls Tryz.prog 42 #[.slice A n c] w fun e w' => e = .returned (.int .i64 (bagE ts)) ∧ Below w.heap.size w w' := by
  obtain ⟨hn, hn67, hs, h⟩ := h
  by_cases h4 : 16 < n
  · have HV : Hid (bagE ts = 4) := by show _ = _; unfold bagE; rw [if_pos (by omega)]
    have e1 : decide (16 < n) = true := decide_eq_true h4
    clear hn hs h
    go_enter Tryz.func42, Tryz.ntmps42
    go_wp2
    go_ret
    exact ⟨reti HV.out.symm, Below.refl _ _⟩
  have e1 : decide (16 < n) = false := decide_eq_false h4
  have HE : Hid (bagE ts = bagL none ts) := by show _ = _; unfold bagE; rw [if_neg (by omega)]
  have HI := Lib.hid h
  have HS := Lib.hid hs
  have HNn := Lib.hid hn
  clear h hn hs
  go_enter Tryz.func42, Tryz.ntmps42
  go_wp2_with fail
  clear e1
  go_loopw [3] (fun iv wr => ∃ k : Nat, k ≤ n ∧ iv = .int .i64 (k : Int) ∧ Hid (bagL none ts = bagL (prevC ts k) (ts.drop k)) ∧ Below w.heap.size w wr) (fun iv _ => n - (intOf iv).toNat)
  case atStart => exact ⟨0, Nat.zero_le _, rfl, rfl, Below.refl _ _⟩
  case round =>
    obtain ⟨k, hk, rfl, HK, hb⟩ := hrel
    have hnl := HNn.out
    by_cases hlk : k < n
    rotate_left
    · have HV : Hid (bagE ts = 0) := by show _ = _; rw [HE.out, HK.out, bagL_end (by omega)]
      clear HK HE HI HS
      go_wp2
      go_ret
      exact ⟨reti HV.out.symm, hb⟩
    obtain ⟨t, ht⟩ : ∃ t, ts[k]? = some t := ⟨_, List.getElem?_eq_getElem (by omega)⟩
    obtain ⟨b, o, hA, hbs, p0, p1⟩ := (HI.out.below hb) k t ht
    subst hA
    obtain ⟨hv40, hf40⟩ := HS.out t (List.mem_of_getElem? ht)
    have HN := Lib.hid (bagL_step ht)
    have CD := Lib.hid (jCode5L (l := t.cur) (by omega))
    clear ht
    by_cases gd : codeB t.cur = true
    rotate_left
    · have HG := Lib.hid gd
      have e1 := not_true_b gd
      rw [e1] at CD
      clear gd e1
      go_wp2_with fail
      ((with_reducible refine (CD.out.of hG hb).mono ?_); rintro e w10 ⟨rfl, hb10⟩)
      replace p0 := (hb10.cell (p := ⟨b, o + k * 2, none⟩) hbs).trans p0
      replace p1 := (hb10.cell (p := ⟨b, o + k * 2 + 1, none⟩) hbs).trans p1
      replace hbs := Nat.lt_of_lt_of_le hbs hb10.size
      replace hb := bto hb hb10
      clear hb10
      have HV : Hid (bagE ts = 23) := by show _ = _; rw [HE.out, HK.out, HN.out, if_pos HG.out]
      clear HK HN HE HI HS
      go_wp2
      go_ret
      exact ⟨reti HV.out.symm, hb⟩
    have HGd := Lib.hid (fun (h : ¬ codeB t.cur = true) => h gd)
    rw [gd] at CD
    clear gd
    go_wp2_with fail
    ((with_reducible refine (CD.out.of hG hb).mono ?_); rintro e w11 ⟨rfl, hb11⟩)
    replace p0 := (hb11.cell (p := ⟨b, o + k * 2, none⟩) hbs).trans p0
    replace p1 := (hb11.cell (p := ⟨b, o + k * 2 + 1, none⟩) hbs).trans p1
    replace hbs := Nat.lt_of_lt_of_le hbs hb11.size
    replace hb := bto hb hb11
    clear hb11
    clear CD
    by_cases gv : t.amt = canon (val t.amt)
    rotate_left
    · have CC := Lib.hid (qCheck (l := t.amt) (c := 1) (by omega) (if_neg gv))
      have HB := Lib.hid gv
      clear gv
      go_wp2_with fail
      ((with_reducible refine (CC.out.of hG hb).mono ?_); rintro e w12 ⟨rfl, hb12⟩)
      replace p0 := (hb12.cell (p := ⟨b, o + k * 2, none⟩) hbs).trans p0
      replace p1 := (hb12.cell (p := ⟨b, o + k * 2 + 1, none⟩) hbs).trans p1
      replace hbs := Nat.lt_of_lt_of_le hbs hb12.size
      replace hb := bto hb hb12
      clear hb12
      have HV : Hid (bagE ts = 1) := by show _ = _; rw [HE.out, HK.out, HN.out, if_neg HGd.out, if_pos HB.out]
      clear HK HN HE HI HS
      go_wp2
      go_ret
      exact ⟨reti HV.out.symm, hb⟩
    have CC := Lib.hid (qCheck (l := t.amt) (c := 0) (by omega) (if_pos gv))
    have HGv := Lib.hid (fun (h : ¬ t.amt = canon (val t.amt)) => h gv)
    clear gv
    go_wp2_with fail
    ((with_reducible refine (CC.out.of hG hb).mono ?_); rintro e w13 ⟨rfl, hb13⟩)
    replace p0 := (hb13.cell (p := ⟨b, o + k * 2, none⟩) hbs).trans p0
    replace p1 := (hb13.cell (p := ⟨b, o + k * 2 + 1, none⟩) hbs).trans p1
    replace hbs := Nat.lt_of_lt_of_le hbs hb13.size
    replace hb := bto hb hb13
    clear hb13
    clear CC
    by_cases ge : t.amt = []
    · have HC := Lib.hid ge
      have e1 : (t.amt == []) = true := by rw [beq_iff_eq]; exact ge
      have e2 : (t.amt).isEmpty = true := by rw [List.isEmpty_iff]; exact ge
      clear ge
      have HV : Hid (bagE ts = 11) := by show _ = _; rw [HE.out, HK.out, HN.out, if_neg HGd.out, if_neg HGv.out, if_pos HC.out]
      clear HK HN HE HI HS
      go_wp2
      go_ret
      exact ⟨reti HV.out.symm, hb⟩
    have HC := Lib.hid ge
    have e1 : (t.amt == []) = false := by rw [beq_eq_false_iff_ne]; exact ge
    have e2 : (t.amt).isEmpty = false := by rw [List.isEmpty_eq_false_iff]; exact ge
    clear ge
    go_wp2_with fail
    clear e1 e2
    cases k with
    | zero =>
      have HV : Hid (bagL none ts = bagL (prevC ts (0 + 1)) (ts.drop (0 + 1))) := by show _ = _; rw [HK.out, HN.out, if_neg HGd.out, if_neg HGv.out, if_neg HC.out, if_neg (show ¬ ordM (prevC ts 0) t.cur = true from fun h => by cases h)]
      clear HK HN
      refine wp_region_kept (by kernel_rfl) (by kernel_rfl) ?_
      refine kept_val _ (fun _ => rfl) (fun ρ w hw => by go_simp; first | done | with_reducible rfl) ?_
      simp only [Act.put, List.setIfInBounds_toArray, List.set_cons_zero, List.set_cons_succ, Nat.reduceAdd]
      refine kept_val _ (fun _ => rfl) (fun ρ w hw => by go_simp; first | done | with_reducible rfl) ?_
      simp only [Act.put, List.setIfInBounds_toArray, List.set_cons_zero, List.set_cons_succ, Nat.reduceAdd]
      refine kept_val _ (fun _ => rfl) (fun ρ w hw => by go_simp; first | done | with_reducible rfl) ?_
      simp only [Act.put, List.setIfInBounds_toArray, List.set_cons_zero, List.set_cons_succ, Nat.reduceAdd]
      refine kept_off (fun _ => rfl) ?_
      simp only [Act.put, List.setIfInBounds_toArray, List.set_cons_zero, List.set_cons_succ, Nat.reduceAdd]
      refine kept_off (fun _ => rfl) ?_
      simp only [Act.put, List.setIfInBounds_toArray, List.set_cons_zero, List.set_cons_succ, Nat.reduceAdd]
      refine kept_off (fun _ => rfl) ?_
      simp only [Act.put, List.setIfInBounds_toArray, List.set_cons_zero, List.set_cons_succ, Nat.reduceAdd]
      refine kept_off (fun _ => rfl) ?_
      simp only [Act.put, List.setIfInBounds_toArray, List.set_cons_zero, List.set_cons_succ, Nat.reduceAdd]
      refine kept_off (fun _ => rfl) ?_
      simp only [Act.put, List.setIfInBounds_toArray, List.set_cons_zero, List.set_cons_succ, Nat.reduceAdd]
      refine kept_off (fun _ => rfl) ?_
      simp only [Act.put, List.setIfInBounds_toArray, List.set_cons_zero, List.set_cons_succ, Nat.reduceAdd]
      refine kept_off (fun _ => rfl) ?_
      simp only [Act.put, List.setIfInBounds_toArray, List.set_cons_zero, List.set_cons_succ, Nat.reduceAdd]
      refine kept_off (fun _ => rfl) ?_
      simp only [Act.put, List.setIfInBounds_toArray, List.set_cons_zero, List.set_cons_succ, Nat.reduceAdd]
      refine kept_off (fun _ => rfl) ?_
      simp only [Act.put, List.setIfInBounds_toArray, List.set_cons_zero, List.set_cons_succ, Nat.reduceAdd]
      refine kept_off (fun _ => rfl) ?_
      simp only [Act.put, List.setIfInBounds_toArray, List.set_cons_zero, List.set_cons_succ, Nat.reduceAdd]
      refine kept_off (fun _ => rfl) ?_
      simp only [Act.put, List.setIfInBounds_toArray, List.set_cons_zero, List.set_cons_succ, Nat.reduceAdd]
      refine kept_off (fun _ => rfl) ?_
      simp only [Act.put, List.setIfInBounds_toArray, List.set_cons_zero, List.set_cons_succ, Nat.reduceAdd]
      refine kept_val _ (fun _ => rfl) (fun ρ w hw => by go_simp; first | done | with_reducible rfl) ?_
      simp only [Act.put, List.setIfInBounds_toArray, List.set_cons_zero, List.set_cons_succ, Nat.reduceAdd]
      refine kept_end (fun ρ w20 hF => ?_)
      have hbF := hF.below
      clear hF
      replace hb := bto hb hbF
      clear hbF
      go_wp2
      go_roundw
      case rel => exact ⟨0 + 1, by omega, by go_num, HV.out, hb⟩
      case measure => simp [intOf]; omega
    | succ k' =>
      obtain ⟨u, hu⟩ : ∃ u, ts[k']? = some u := ⟨_, List.getElem?_eq_getElem (by omega)⟩
      obtain ⟨b', o', hA', hbs', r0, -⟩ := (HI.out.below hb) k' u hu
      obtain ⟨rfl, rfl⟩ : b = b' ∧ o = o' := by injection hA' with hA'; injection hA' with h1 h2; exact ⟨h1, h2⟩
      have hpd : prevC ts (k' + 1) = some u.cur := by show (ts[k']?).map (·.cur) = _; rw [hu]; rfl
      have HPd := Lib.hid hpd
      have hwr : IntKind.i64.wrap (k' : Int) = (k' : Int) := Go.IntWalk.i64_in _ (by omega)
      have hkn : k' < n := by omega
      have kk1 : (0 : Int) ≤ (k' : Int) + 1 := by omega
      have kk2 : (k' : Int) + 1 < (n : Int) := by omega
      clear hu hA' hpd hbs'
      cases hlt : bytesLess u.cur t.cur
      · have HB : Hid (ordM (prevC ts (k' + 1)) t.cur = true) := by show _ = _; rw [HPd.out]; show (!bytesLess u.cur t.cur) = true; rw [hlt]; rfl
        have hge1 : bytesLess t.cur u.cur = true ∨ t.cur = u.cur := by
          rcases ltS_tri t.cur u.cur with h | h | h
          · exact .inl h
          · exact .inr h
          · rw [h] at hlt; cases hlt
        clear hlt
        rcases hge1 with hge1 | hge1
        · refine wp_region_kept (by kernel_rfl) (by kernel_rfl) ?_
          refine kept_val _ (fun _ => rfl) (fun ρ w hw => by go_simp; first | done | with_reducible rfl) ?_
          simp only [Act.put, List.setIfInBounds_toArray, List.set_cons_zero, List.set_cons_succ, Nat.reduceAdd]
          refine kept_val (.bool true) (fun _ => rfl) (fun ρ w hw => by go_simp; first | done | omega | (simp; omega)) ?_
          simp only [Act.put, List.setIfInBounds_toArray, List.set_cons_zero, List.set_cons_succ, Nat.reduceAdd]
          refine kept_val _ (fun _ => rfl) (fun ρ w hw => by go_simp; first | done | with_reducible rfl) ?_
          simp only [Act.put, List.setIfInBounds_toArray, List.set_cons_zero, List.set_cons_succ, Nat.reduceAdd]
          refine kept_val _ (fun _ => rfl) (fun ρ w hw => by go_simp; first | done | with_reducible rfl) ?_
          simp only [Act.put, List.setIfInBounds_toArray, List.set_cons_zero, List.set_cons_succ, Nat.reduceAdd]
          refine kept_val _ (fun _ => rfl) (fun ρ w hw => by go_simp; first | done | with_reducible rfl) ?_
          simp only [Act.put, List.setIfInBounds_toArray, List.set_cons_zero, List.set_cons_succ, Nat.reduceAdd]
          refine kept_val _ (fun _ => rfl) (fun ρ w hw => by go_simp; first | done | with_reducible rfl) ?_
          simp only [Act.put, List.setIfInBounds_toArray, List.set_cons_zero, List.set_cons_succ, Nat.reduceAdd]
          refine kept_val _ (fun _ => rfl) (fun ρ w hw => by go_simp; first | done | with_reducible rfl) ?_
          simp only [Act.put, List.setIfInBounds_toArray, List.set_cons_zero, List.set_cons_succ, Nat.reduceAdd]
          refine kept_val _ (fun _ => rfl) (fun ρ w hw => by have q0 := (hw.cell (p := ⟨b, o + (k' + 1) * 2, none⟩) hbs).trans p0; go_simp; first | done | with_reducible rfl) ?_
          simp only [Act.put, List.setIfInBounds_toArray, List.set_cons_zero, List.set_cons_succ, Nat.reduceAdd]
          refine kept_val _ (fun _ => rfl) (fun ρ w hw => by go_simp; first | done | with_reducible rfl) ?_
          simp only [Act.put, List.setIfInBounds_toArray, List.set_cons_zero, List.set_cons_succ, Nat.reduceAdd]
          refine kept_val _ (fun _ => rfl) (fun ρ w hw => by go_simp; first | done | with_reducible rfl) ?_
          simp only [Act.put, List.setIfInBounds_toArray, List.set_cons_zero, List.set_cons_succ, Nat.reduceAdd]
          refine kept_val _ (fun _ => rfl) (fun ρ w hw => by go_simp; first | done | with_reducible rfl) ?_
          simp only [Act.put, List.setIfInBounds_toArray, List.set_cons_zero, List.set_cons_succ, Nat.reduceAdd]
          refine kept_val _ (fun _ => rfl) (fun ρ w hw => by go_simp; first | done | with_reducible rfl) ?_
          simp only [Act.put, List.setIfInBounds_toArray, List.set_cons_zero, List.set_cons_succ, Nat.reduceAdd]
          refine kept_val _ (fun _ => rfl) (fun ρ w hw => by go_simp; first | done | with_reducible rfl) ?_
          simp only [Act.put, List.setIfInBounds_toArray, List.set_cons_zero, List.set_cons_succ, Nat.reduceAdd]
          refine kept_val _ (fun _ => rfl) (fun ρ w hw => by have q0 := (hw.cell (p := ⟨b, o + k' * 2, none⟩) hbs).trans r0; go_simp; first | done | with_reducible rfl) ?_
          simp only [Act.put, List.setIfInBounds_toArray, List.set_cons_zero, List.set_cons_succ, Nat.reduceAdd]
          refine kept_val _ (fun _ => rfl) (fun ρ w hw => by go_simp; first | done | with_reducible rfl) ?_
          simp only [Act.put, List.setIfInBounds_toArray, List.set_cons_zero, List.set_cons_succ, Nat.reduceAdd]
          refine kept_val _ (fun _ => rfl) (fun ρ w hw => by go_simp; first | done | with_reducible rfl) ?_
          simp only [Act.put, List.setIfInBounds_toArray, List.set_cons_zero, List.set_cons_succ, Nat.reduceAdd]
          refine kept_end (fun ρ w20 hF => ?_)
          have hbF := hF.below
          clear hF
          replace hb := bto hb hbF
          clear hbF
          clear r0
          have HV : Hid (bagE ts = 8) := by show _ = _; rw [HE.out, HK.out, HN.out, if_neg HGd.out, if_neg HGv.out, if_neg HC.out, if_pos HB.out]
          clear HK HN HE HI HS
          go_wp2
          go_ret
          exact ⟨reti HV.out.symm, hb⟩
        · have hge2 : bytesLess t.cur u.cur = false := by rw [hge1]; exact ltS_irr _
          have hge3 : (t.cur == u.cur) = true := by rw [beq_iff_eq]; exact hge1
          clear hge1
          refine wp_region_kept (by kernel_rfl) (by kernel_rfl) ?_
          refine kept_val _ (fun _ => rfl) (fun ρ w hw => by go_simp; first | done | with_reducible rfl) ?_
          simp only [Act.put, List.setIfInBounds_toArray, List.set_cons_zero, List.set_cons_succ, Nat.reduceAdd]
          refine kept_val (.bool true) (fun _ => rfl) (fun ρ w hw => by go_simp; first | done | omega | (simp; omega)) ?_
          simp only [Act.put, List.setIfInBounds_toArray, List.set_cons_zero, List.set_cons_succ, Nat.reduceAdd]
          refine kept_val _ (fun _ => rfl) (fun ρ w hw => by go_simp; first | done | with_reducible rfl) ?_
          simp only [Act.put, List.setIfInBounds_toArray, List.set_cons_zero, List.set_cons_succ, Nat.reduceAdd]
          refine kept_val _ (fun _ => rfl) (fun ρ w hw => by go_simp; first | done | with_reducible rfl) ?_
          simp only [Act.put, List.setIfInBounds_toArray, List.set_cons_zero, List.set_cons_succ, Nat.reduceAdd]
          refine kept_val _ (fun _ => rfl) (fun ρ w hw => by go_simp; first | done | with_reducible rfl) ?_
          simp only [Act.put, List.setIfInBounds_toArray, List.set_cons_zero, List.set_cons_succ, Nat.reduceAdd]
          refine kept_val _ (fun _ => rfl) (fun ρ w hw => by go_simp; first | done | with_reducible rfl) ?_
          simp only [Act.put, List.setIfInBounds_toArray, List.set_cons_zero, List.set_cons_succ, Nat.reduceAdd]
          refine kept_val _ (fun _ => rfl) (fun ρ w hw => by go_simp; first | done | with_reducible rfl) ?_
          simp only [Act.put, List.setIfInBounds_toArray, List.set_cons_zero, List.set_cons_succ, Nat.reduceAdd]
          refine kept_val _ (fun _ => rfl) (fun ρ w hw => by have q0 := (hw.cell (p := ⟨b, o + (k' + 1) * 2, none⟩) hbs).trans p0; go_simp; first | done | with_reducible rfl) ?_
          simp only [Act.put, List.setIfInBounds_toArray, List.set_cons_zero, List.set_cons_succ, Nat.reduceAdd]
          refine kept_val _ (fun _ => rfl) (fun ρ w hw => by go_simp; first | done | with_reducible rfl) ?_
          simp only [Act.put, List.setIfInBounds_toArray, List.set_cons_zero, List.set_cons_succ, Nat.reduceAdd]
          refine kept_val _ (fun _ => rfl) (fun ρ w hw => by go_simp; first | done | with_reducible rfl) ?_
          simp only [Act.put, List.setIfInBounds_toArray, List.set_cons_zero, List.set_cons_succ, Nat.reduceAdd]
          refine kept_val _ (fun _ => rfl) (fun ρ w hw => by go_simp; first | done | with_reducible rfl) ?_
          simp only [Act.put, List.setIfInBounds_toArray, List.set_cons_zero, List.set_cons_succ, Nat.reduceAdd]
          refine kept_val _ (fun _ => rfl) (fun ρ w hw => by go_simp; first | done | with_reducible rfl) ?_
          simp only [Act.put, List.setIfInBounds_toArray, List.set_cons_zero, List.set_cons_succ, Nat.reduceAdd]
          refine kept_val _ (fun _ => rfl) (fun ρ w hw => by go_simp; first | done | with_reducible rfl) ?_
          simp only [Act.put, List.setIfInBounds_toArray, List.set_cons_zero, List.set_cons_succ, Nat.reduceAdd]
          refine kept_val _ (fun _ => rfl) (fun ρ w hw => by have q0 := (hw.cell (p := ⟨b, o + k' * 2, none⟩) hbs).trans r0; go_simp; first | done | with_reducible rfl) ?_
          simp only [Act.put, List.setIfInBounds_toArray, List.set_cons_zero, List.set_cons_succ, Nat.reduceAdd]
          refine kept_val _ (fun _ => rfl) (fun ρ w hw => by go_simp; first | done | with_reducible rfl) ?_
          simp only [Act.put, List.setIfInBounds_toArray, List.set_cons_zero, List.set_cons_succ, Nat.reduceAdd]
          refine kept_val _ (fun _ => rfl) (fun ρ w hw => by go_simp; first | done | with_reducible rfl) ?_
          simp only [Act.put, List.setIfInBounds_toArray, List.set_cons_zero, List.set_cons_succ, Nat.reduceAdd]
          refine kept_end (fun ρ w20 hF => ?_)
          have hbF := hF.below
          clear hF
          replace hb := bto hb hbF
          clear hbF
          clear r0
          have HV : Hid (bagE ts = 8) := by show _ = _; rw [HE.out, HK.out, HN.out, if_neg HGd.out, if_neg HGv.out, if_neg HC.out, if_pos HB.out]
          clear HK HN HE HI HS
          go_wp2
          go_ret
          exact ⟨reti HV.out.symm, hb⟩
      · have HB : Hid (¬ ordM (prevC ts (k' + 1)) t.cur = true) := by show ¬ _; rw [HPd.out]; show ¬ (!bytesLess u.cur t.cur) = true; rw [hlt]; decide
        have hge1 := ltS_asym hlt
        have hge2 : (t.cur == u.cur) = false := by rw [beq_eq_false_iff_ne]; exact (ltS_ne hlt).symm
        have HV : Hid (bagL none ts = bagL (prevC ts ((k' + 1) + 1)) (ts.drop ((k' + 1) + 1))) := by show _ = _; rw [HK.out, HN.out, if_neg HGd.out, if_neg HGv.out, if_neg HC.out, if_neg HB.out]
        clear HK HN
        refine wp_region_kept (by kernel_rfl) (by kernel_rfl) ?_
        refine kept_val _ (fun _ => rfl) (fun ρ w hw => by go_simp; first | done | with_reducible rfl) ?_
        simp only [Act.put, List.setIfInBounds_toArray, List.set_cons_zero, List.set_cons_succ, Nat.reduceAdd]
        refine kept_val (.bool true) (fun _ => rfl) (fun ρ w hw => by go_simp; first | done | omega | (simp; omega)) ?_
        simp only [Act.put, List.setIfInBounds_toArray, List.set_cons_zero, List.set_cons_succ, Nat.reduceAdd]
        refine kept_val _ (fun _ => rfl) (fun ρ w hw => by go_simp; first | done | with_reducible rfl) ?_
        simp only [Act.put, List.setIfInBounds_toArray, List.set_cons_zero, List.set_cons_succ, Nat.reduceAdd]
        refine kept_val _ (fun _ => rfl) (fun ρ w hw => by go_simp; first | done | with_reducible rfl) ?_
        simp only [Act.put, List.setIfInBounds_toArray, List.set_cons_zero, List.set_cons_succ, Nat.reduceAdd]
        refine kept_val _ (fun _ => rfl) (fun ρ w hw => by go_simp; first | done | with_reducible rfl) ?_
        simp only [Act.put, List.setIfInBounds_toArray, List.set_cons_zero, List.set_cons_succ, Nat.reduceAdd]
        refine kept_val _ (fun _ => rfl) (fun ρ w hw => by go_simp; first | done | with_reducible rfl) ?_
        simp only [Act.put, List.setIfInBounds_toArray, List.set_cons_zero, List.set_cons_succ, Nat.reduceAdd]
        refine kept_val _ (fun _ => rfl) (fun ρ w hw => by go_simp; first | done | with_reducible rfl) ?_
        simp only [Act.put, List.setIfInBounds_toArray, List.set_cons_zero, List.set_cons_succ, Nat.reduceAdd]
        refine kept_val _ (fun _ => rfl) (fun ρ w hw => by have q0 := (hw.cell (p := ⟨b, o + (k' + 1) * 2, none⟩) hbs).trans p0; go_simp; first | done | with_reducible rfl) ?_
        simp only [Act.put, List.setIfInBounds_toArray, List.set_cons_zero, List.set_cons_succ, Nat.reduceAdd]
        refine kept_val _ (fun _ => rfl) (fun ρ w hw => by go_simp; first | done | with_reducible rfl) ?_
        simp only [Act.put, List.setIfInBounds_toArray, List.set_cons_zero, List.set_cons_succ, Nat.reduceAdd]
        refine kept_val _ (fun _ => rfl) (fun ρ w hw => by go_simp; first | done | with_reducible rfl) ?_
        simp only [Act.put, List.setIfInBounds_toArray, List.set_cons_zero, List.set_cons_succ, Nat.reduceAdd]
        refine kept_val _ (fun _ => rfl) (fun ρ w hw => by go_simp; first | done | with_reducible rfl) ?_
        simp only [Act.put, List.setIfInBounds_toArray, List.set_cons_zero, List.set_cons_succ, Nat.reduceAdd]
        refine kept_val _ (fun _ => rfl) (fun ρ w hw => by go_simp; first | done | with_reducible rfl) ?_
        simp only [Act.put, List.setIfInBounds_toArray, List.set_cons_zero, List.set_cons_succ, Nat.reduceAdd]
        refine kept_val _ (fun _ => rfl) (fun ρ w hw => by go_simp; first | done | with_reducible rfl) ?_
        simp only [Act.put, List.setIfInBounds_toArray, List.set_cons_zero, List.set_cons_succ, Nat.reduceAdd]
        refine kept_val _ (fun _ => rfl) (fun ρ w hw => by have q0 := (hw.cell (p := ⟨b, o + k' * 2, none⟩) hbs).trans r0; go_simp; first | done | with_reducible rfl) ?_
        simp only [Act.put, List.setIfInBounds_toArray, List.set_cons_zero, List.set_cons_succ, Nat.reduceAdd]
        refine kept_val _ (fun _ => rfl) (fun ρ w hw => by go_simp; first | done | with_reducible rfl) ?_
        simp only [Act.put, List.setIfInBounds_toArray, List.set_cons_zero, List.set_cons_succ, Nat.reduceAdd]
        refine kept_val _ (fun _ => rfl) (fun ρ w hw => by go_simp; first | done | with_reducible rfl) ?_
        simp only [Act.put, List.setIfInBounds_toArray, List.set_cons_zero, List.set_cons_succ, Nat.reduceAdd]
        refine kept_end (fun ρ w20 hF => ?_)
        have hbF := hF.below
        clear hF
        replace hb := bto hb hbF
        clear hbF
        clear r0
        go_wp2
        go_roundw
        case rel => exact ⟨(k' + 1) + 1, by omega, by go_num, HV.out, hb⟩
        case measure => simp [intOf]; omega
/-- the first currency with a code -/
def findM (ts : List Mon) (code : List UInt8) : Option Mon := ts.find? (fun t => t.cur == code)
theorem findM_drop {ts : List Mon} {code : List UInt8} {k : Nat} {t : Mon} (h : ts[k]? = some t) : findM (ts.drop k) code = if t.cur = code then some t else findM (ts.drop (k + 1)) code := by
  obtain ⟨hk, rfl⟩ := List.getElem?_eq_some_iff.1 h
  unfold findM
  rw [List.drop_eq_getElem_cons hk, List.find?_cons]
  by_cases h1 : ts[k].cur = code
  · rw [if_pos h1]; simp [h1]
  · rw [if_neg h1]
    have : (ts[k].cur == code) = false := by rw [beq_eq_false_iff_ne]; exact h1
    rw [this]
def monV : Option Mon → Value
  | some t => .tuple #[.agg #[.string ⟨t.cur.toArray⟩, .string ⟨t.amt.toArray⟩], .bool true]
  | none => .tuple #[.agg #[.string ⟨#[]⟩, .string ⟨#[]⟩], .bool false]
theorem mAmtClo (t : Mon) (code : List UInt8) (bc : Nat) (w : World) (hc : w.cell? ⟨bc, 0, none⟩ = some (.string ⟨code.toArray⟩)) (hlt : bc < w.heap.size) {r : Bool} (hr : (t.cur == code) = r) :
    Calls Tryz.prog 101 #[.agg #[.string ⟨t.cur.toArray⟩, .string ⟨t.amt.toArray⟩], .pointer (some ⟨bc, 0, none⟩)] w fun e w' => e = .returned (.bool r) ∧ Below w.heap.size w w' := by
  have hb := below_alloc w (.cells #[.string ⟨t.cur.toArray⟩, .string ⟨t.amt.toArray⟩] 25)
  have q0 := (hb.cell (p := ⟨bc, 0, none⟩) hlt).trans hc
  go_enter Tryz.func101, Tryz.ntmps101
  go_wp2
  go_ret
  exact ⟨rfl, hb⟩
set_option maxHeartbeats 2000000 in
set_option maxRecDepth 100000 in
theorem mfindM (A : Option Addr) (ts : List Mon) (c : Nat) (code : List UInt8) (bc : Nat) (w : World) (hn : ts.length ≤ 1000000000) (h : MonAt w A ts) (hc : w.cell? ⟨bc, 0, none⟩ = some (.string ⟨code.toArray⟩)) (hlt : bc < w.heap.size) :
    Calls Tryz.prog 100 #[.slice A ts.length c, .func (Fn.func 101) #[] #[.pointer (some ⟨bc, 0, none⟩)]] w fun e w' => e = .returned (monV (findM ts code)) ∧ Below w.heap.size w w' := by
  have HI := Lib.hid h
  have HC := Lib.hid hc
  have x4 := FBox.new w (.string ⟨#[]⟩) (.string ⟨#[]⟩) 25
  have hb0 := below_alloc w (.cells #[.string ⟨#[]⟩, .string ⟨#[]⟩] 25)
  clear h hc
  go_enter Tryz.func100, Tryz.ntmps100
  go_wp2_with fail
  go_loopw [11] (fun iv wr => ∃ k : Nat, k ≤ ts.length ∧ iv = .int .i64 (k : Int) ∧ Hid (findM ts code = findM (ts.drop k) code) ∧ FBox wr w.heap.size (.string ⟨#[]⟩) (.string ⟨#[]⟩) ∧ Below w.heap.size w wr) (fun iv _ => ts.length - (intOf iv).toNat)
  case atStart => exact ⟨0, Nat.zero_le _, rfl, rfl, x4, hb0⟩
  case round =>
    obtain ⟨k, hk, rfl, HK, y4, hb⟩ := hrel
    by_cases hlk : k < ts.length
    · obtain ⟨t, ht⟩ : ∃ t, ts[k]? = some t := ⟨_, List.getElem?_eq_getElem hlk⟩
      obtain ⟨b, o, rfl, hbs, p0, p1⟩ := (HI.out.below hb) k t ht
      have HD := Lib.hid (findM_drop (code := code) ht)
      have hbA := below_alloc wr (.cells #[.string ⟨t.cur.toArray⟩, .string ⟨t.amt.toArray⟩] 25)
      have x7 := FBox.new wr (.string ⟨t.cur.toArray⟩) (.string ⟨t.amt.toArray⟩) 25
      have qc := ((bto hb hbA).cell (p := ⟨bc, 0, none⟩) hlt).trans HC.out
      have hlt2 : bc < (wr.alloc (.cells #[.string ⟨t.cur.toArray⟩, .string ⟨t.amt.toArray⟩] 25)).heap.size := Nat.lt_of_lt_of_le hlt (bto hb hbA).size
      have CF := Lib.hid (fun r hr => mAmtClo t code bc _ qc hlt2 (r := r) hr)
      replace y4 := y4.below hbA
      replace hb := bto hb hbA
      clear ht hbA qc hlt2
      by_cases he : t.cur = code
      · have e1 : (t.cur == code) = true := by rw [beq_iff_eq]; exact he
        have H1 := Lib.hid (CF.out true e1)
        have HV : Hid (monV (findM ts code) = monV (some t)) := by show _ = _; rw [HK.out, HD.out, if_pos he]
        clear CF e1 he HD HK
        go_wp2_with fail
        ((with_reducible refine H1.out.mono ?_); rintro e w2 ⟨rfl, hb2⟩)
        replace y4 := y4.below hb2
        replace x7 := x7.below hb2
        replace hb := bto hb hb2
        have q0 := y4.c0
        have q1 := y4.c1
        have q2 := y4.f0
        have q3 := y4.f1
        have q4 := x7.c0
        have q5 := x7.c1
        go_wp2
        have hy := y4.set (.string ⟨t.cur.toArray⟩) (.string ⟨t.amt.toArray⟩)
        have d0 := hy.c0
        have d1 := hy.c1
        refine bodyPost_ret (v := .tuple #[.agg #[.string ⟨t.cur.toArray⟩, .string ⟨t.amt.toArray⟩], .bool true]) (by simp [results, Tryz.results100, go_sem, d0, d1]) rfl ?_
        exact ⟨by rw [HV.out]; rfl, below_set2 hb (Nat.le_refl _) _ _⟩
      · have e1 : (t.cur == code) = false := by rw [beq_eq_false_iff_ne]; exact he
        have H1 := Lib.hid (CF.out false e1)
        have HV : Hid (findM ts code = findM (ts.drop (k + 1)) code) := by show _ = _; rw [HK.out, HD.out, if_neg he]
        clear CF e1 he HD HK
        go_wp2_with fail
        ((with_reducible refine H1.out.mono ?_); rintro e w2 ⟨rfl, hb2⟩)
        replace y4 := y4.below hb2
        replace hb := bto hb hb2
        clear hb2 x7 H1
        go_wp2
        go_roundw
        case rel => exact ⟨k + 1, by omega, by go_num, HV, y4, hb⟩
        case measure => simp [intOf]; omega
    · have HV : Hid (monV (findM ts code) = monV none) := by show _ = _; rw [HK.out, List.drop_of_length_le (by omega)]; rfl
      have hbA := below_alloc wr (.cells #[.string ⟨#[]⟩, .string ⟨#[]⟩] 25)
      replace y4 := y4.below hbA
      replace hb := bto hb hbA
      have q0 := y4.c0
      have q1 := y4.c1
      have q2 := y4.f0
      have q3 := y4.f1
      clear hbA
      go_wp2
      have hy := y4.set (.string ⟨#[]⟩) (.string ⟨#[]⟩)
      have d0 := hy.c0
      have d1 := hy.c1
      refine bodyPost_ret (v := .tuple #[.agg #[.string ⟨#[]⟩, .string ⟨#[]⟩], .bool false]) (by simp [results, Tryz.results100, go_sem, d0, d1]) rfl ?_
      exact ⟨by rw [HV.out]; rfl, below_set2 hb (Nat.le_refl _) _ _⟩
theorem amt_find (ts : List Mon) (c : List UInt8) : amtL ts c = match findM ts c with | some t => t.amt | none => [] := by
  induction ts with
  | nil => rfl
  | cons x r ih =>
    unfold findM at ih ⊢
    show (if x.cur = c then x.amt else amtL r c) = _
    rw [List.find?_cons]
    by_cases h : x.cur = c
    · rw [if_pos h]
      have : (x.cur == c) = true := by rw [beq_iff_eq]; exact h
      rw [this]
    · rw [if_neg h]
      have : (x.cur == c) = false := by rw [beq_eq_false_iff_ne]; exact h
      rw [this]; exact ih

set_option maxHeartbeats 1000000 in
set_option maxRecDepth 100000 in
theorem mAmount (A : Option Addr) (ts : List Mon) (n c : Nat) (code : List UInt8) (w : World) (h : ML w A ts n) :
    Calls Tryz.prog 43 #[.slice A n c, .string ⟨code.toArray⟩] w fun e w' => e = .returned (.string ⟨(amtL ts code).toArray⟩) ∧ Below w.heap.size w w' := by
  obtain ⟨hn, hn67, hs, h⟩ := h
  subst hn
  have hb := below_alloc w (.cells #[.string ⟨code.toArray⟩] 9)
  have x3 : Blk _ w.heap.size #[.string ⟨code.toArray⟩] := Blk.new w #[.string ⟨code.toArray⟩] 9
  have CF := Lib.hid (mfindM A ts c code w.heap.size _ (by omega) (h.below hb) (x3.c 0) x3.lt)
  have hv := amt_find ts code
  clear x3 h hs
  generalize findM ts code = fo at CF hv
  cases fo with
  | none =>
    have HV : Hid (amtL ts code = []) := hv
    clear hv
    unfold monV at CF
    go_enter Tryz.func43, Tryz.ntmps43
    go_wp2_with fail
    ((with_reducible refine CF.out.mono ?_); rintro e w2 ⟨rfl, hb2⟩)
    clear CF
    go_wp2
    go_ret
    exact ⟨by rw [HV.out]; rfl, bto (bto hb hb2) (below_alloc _ _)⟩
  | some t =>
    have HV : Hid (amtL ts code = t.amt) := hv
    clear hv
    unfold monV at CF
    go_enter Tryz.func43, Tryz.ntmps43
    go_wp2_with fail
    ((with_reducible refine CF.out.mono ?_); rintro e w2 ⟨rfl, hb2⟩)
    clear CF
    go_wp2
    go_ret
    exact ⟨by rw [HV.out]; rfl, bto (bto hb hb2) (below_alloc _ _)⟩
theorem amtL_drop {ts : List Mon} {code : List UInt8} {k : Nat} {t : Mon} (h : ts[k]? = some t) : amtL (ts.drop k) code = if t.cur = code then t.amt else amtL (ts.drop (k + 1)) code := by
  obtain ⟨hk, rfl⟩ := List.getElem?_eq_some_iff.1 h
  rw [List.drop_eq_getElem_cons hk]; rfl
set_option maxHeartbeats 1000000 in
set_option maxRecDepth 100000 in
theorem jAmount (A : Option Addr) (ts : List Mon) (n c : Nat) (code : List UInt8) (w : World) (h : ML w A ts n) :
    Calls Tryz.prog 44 #[.slice A n c, .string ⟨code.toArray⟩] w fun e w' => e = .returned (.string ⟨(amtL ts code).toArray⟩) ∧ w = w' := by
  obtain ⟨hn, hn67, hs, h⟩ := h
  have HI := Lib.hid h
  have hn1 : ts.length ≤ n := by omega
  have hn3 : n ≤ ts.length := by omega
  clear h hn hs
  go_enter Tryz.func44, Tryz.ntmps44
  go_wp2_with fail
  go_loop [5] (fun iv => ∃ k : Nat, k ≤ n ∧ iv = .int .i64 (k : Int) ∧ Hid (amtL ts code = amtL (ts.drop k) code)) (fun iv => n - (intOf iv).toNat)
  case atStart => exact ⟨0, Nat.zero_le _, rfl, rfl⟩
  case round =>
    obtain ⟨k, hk, rfl, HK⟩ := hrel
    by_cases hlk : k < n
    · obtain ⟨t, ht⟩ : ∃ t, ts[k]? = some t := ⟨_, List.getElem?_eq_getElem (by omega)⟩
      obtain ⟨b, o, rfl, hbs, p0, p1⟩ := HI.out k t ht
      have HD := Lib.hid (amtL_drop (code := code) ht)
      clear ht
      by_cases he : t.cur = code
      · have e1 : (t.cur == code) = true := by rw [beq_iff_eq]; exact he
        have HV : Hid (amtL ts code = t.amt) := by show _ = _; rw [HK.out, HD.out, if_pos he]
        clear he
        go_wp2
        go_ret
        exact ⟨by rw [HV.out]; rfl, rfl⟩
      · have e1 : (t.cur == code) = false := by rw [beq_eq_false_iff_ne]; exact he
        have HV : Hid (amtL ts code = amtL (ts.drop (k + 1)) code) := by show _ = _; rw [HK.out, HD.out, if_neg he]
        clear he
        go_wp2
        go_round
        case rel => exact ⟨k + 1, by omega, by go_num, HV⟩
        case measure => simp [intOf]; omega
    · have HV : Hid (amtL ts code = []) := by show _ = _; rw [HK.out, List.drop_of_length_le (by omega)]; rfl
      go_wp2
      go_ret
      exact ⟨by rw [HV.out]; rfl, rfl⟩
end Go.Proofs.YtdjjlbfleibhjaaGreatDoor
namespace Go.Proofs.YtdjjlbfleibhjaaGreatDoor
open Go.RowKit Go.Shelf Num
attribute [local go_sem] Oper.semAt_some
theorem both_any (A B : Option Addr) (n c m d : Nat) (w : World) :
    Calls Tryz.prog 152 #[.slice A n c, .slice B m d] w fun e w' => e = .returned (.func (.func 204) #[] #[.pointer (some ⟨w.heap.size, 0, none⟩), .pointer (some ⟨w.heap.size + 1, 0, none⟩)]) ∧ w' = (w.alloc (.cells #[.slice A n c] 35)).alloc (.cells #[.slice B m d] 35) := by
  go_enter Tryz.func152, Tryz.ntmps152
  go_wp2_with fail
  go_ret
  exact ⟨rfl, rfl⟩
theorem enter_b1 (args : Array Value) (w : World) : (callFunc 204 args).run Tryz.prog w = .ok (.enter 204 args) w := by kernel_rfl
theorem keep_snoc (zs : List Yl) (y : Yl) : keepL (zs ++ [y]) = keepL zs ++ keepL [y] := by
  induction zs with
  | nil => rfl
  | cons z r ih =>
    show (if _ = 0 then keepL (r ++ [y]) else _ :: keepL (r ++ [y])) = (if _ = 0 then keepL r else _ :: keepL r) ++ _
    rw [ih]
    split <;> simp
/-- the state of sum behind what both has yielded -/
structure SmAt (w : World) (R : Loop) (d l : Nat) (zs : List Yl) (W : World) : Prop where
  below : Below w.heap.size w W
  loop : W.heap[l]? = some (.loop R)
  dfr : W.heap[d]? = some (.deferred (some []))
  row : ∃ v, Boxed W w.heap.size 35 v ∧ W.ownsRow w.heap.size 25 2 v (keepL zs).length (rowsM (keepL zs))
theorem own_belowM {w w' : World} {B k sz : Nat} {ty : TypeId} {v : Value} {cs : List Value} (h : w.ownsRow B ty sz v k cs) (hb : Below w.heap.size w w') : w'.ownsRow B ty sz v k cs := by
  refine ⟨h.1, ?_⟩
  rcases h.2 with h2 | ⟨g, cap, cur, e, hB, hg, r⟩
  · exact .inl h2
  · exact .inr ⟨g, cap, cur, e, hB, (hb.block g (Array.getElem?_eq_some_iff.1 hg).1).trans hg, r⟩
theorem below_putM {w W : World} {l : Nat} {ob : Obj} (h : Below w.heap.size w W) (hl : w.heap.size ≤ l) : Below w.heap.size w (W.putObj l ob) :=
  h.trans ⟨rfl, rfl, rfl, by simp, fun k hk => World.putObj_heap_other (by omega)⟩
section
variable {w W W' : World} {R : Loop} {d l : Nat} {zs : List Yl}
theorem SmAt.mono (h : SmAt w R d l zs W) (hb : Below W.heap.size W W') : SmAt w R d l zs W' :=
  ⟨bto h.below hb, (hb.block _ (Array.getElem?_eq_some_iff.1 h.loop).1).trans h.loop, (hb.block _ (Array.getElem?_eq_some_iff.1 h.dfr).1).trans h.dfr, by
    obtain ⟨v, h1, h2⟩ := h.row
    exact ⟨v, (hb.block _ h1.lt).trans h1, own_belowM h2 hb⟩⟩
theorem SmAt.done {R1 R2 : Loop} (hR : R2 = R) (hl : l ≠ d ∧ l ≠ w.heap.size ∧ w.heap.size ≤ l) (h : SmAt w R1 d l zs W) : SmAt w R d l zs (W.putObj l (.loop R2)) := by
  subst hR
  refine ⟨below_putM h.below hl.2.2, World.putObj_heap_same (Array.getElem?_eq_some_iff.1 h.loop).1, (World.putObj_heap_other (by omega)).trans h.dfr, ?_⟩
  obtain ⟨v, h1, h2⟩ := h.row
  exact ⟨v, (World.putObj_heap_other (Ne.symm hl.2.1)).trans h1, ownsRow_putObj h2 _ h.loop rfl⟩
theorem SmAt.grown (h : SmAt w R d l zs W) {b : Nat} {cs : Array Value} {t : TypeId} (hb : W.heap[b]? = some (.cells cs t (0, 0))) (ht : t ≠ 25) (hn : b ≠ w.heap.size) (hw : w.heap.size ≤ b) (hg : W.grownBy W' (some b)) : SmAt w R d l zs W' := by
  have hne : ∀ {k : Nat} {ob : Obj}, W.heap[k]? = some ob → ob.isCells = false → some k ≠ some b := fun hk hc e => by
    injection e with e
    rw [e, hb] at hk
    injection hk with hk
    rw [← hk] at hc; cases hc
  obtain ⟨v, h1, h2⟩ := h.row
  refine ⟨h.below.grown hg h.below.size (fun j ej => by injection ej with ej; omega), (hg.block l (Array.getElem?_eq_some_iff.1 h.loop).1 (hne h.loop rfl)).trans h.loop, (hg.block d (Array.getElem?_eq_some_iff.1 h.dfr).1 (hne h.dfr rfl)).trans h.dfr, v, h1.kept hg (fun e => hn (by injection e with e; exact e.symm)), h2.kept hg ?_⟩
  rcases h2.2 with ⟨rfl, -⟩ | ⟨g, cap, cur, rfl, -, hgb, -⟩
  · exact .inl rfl
  · refine .inr fun e' => ?_
    obtain rfl : g = b := by simpa [Value.ownBlock] using e'
    rw [hgb] at hb
    injection hb with hb
    injection hb with _ hb2
    exact ht hb2.symm
end
/-- what a call returns that makes amounts -/
def MonEnd (xs : List Mon) (code : Int) (w : World) (e : Ending) (w' : World) : Prop := ∃ B m cp, e = .returned (.tuple #[.slice B m cp, .int .i64 code]) ∧ xs.length = m ∧ m ≤ cp ∧ MonAt w' B xs ∧ Below w.heap.size w w'
def smR (a b : List Mon) : List Mon := if 16 < (smL a b).length then [] else smL a b
def smE (a b : List Mon) : Int := if 16 < (smL a b).length then 4 else 0
theorem mon_nil (w : World) (A : Option Addr) : MonAt w A [] := fun i t ht => by simp at ht
theorem own_mon {w : World} {base k : Nat} {v : Value} {xs : List Mon} (h : w.ownsRow base 25 2 v k (rowsM xs)) (hk : xs.length = k) : ∃ B cp, v = .slice B k cp ∧ k ≤ cp ∧ MonAt w B xs := by
  subst hk
  rcases h.2 with ⟨rfl, h0⟩ | ⟨g, cap, cur, rfl, hB, hg, hcap, _, hsz, htk⟩
  · have : xs = [] := List.eq_nil_of_length_eq_zero h0
    subst this
    exact ⟨none, 0, rfl, Nat.le_refl _, mon_nil w none⟩
  · refine ⟨_, _, rfl, hcap, crow_mon ⟨cur, hg, ?_, ?_⟩⟩
    · rw [rowsM_len]; exact htk
    · rw [rowsM_len, hsz]; exact Nat.mul_le_mul_right 2 hcap

set_option maxHeartbeats 8000000 in
set_option maxRecDepth 100000 in
theorem msum (A B : Option Addr) (xs ys : List Mon) (n c n' c' : Nat) (w : World) (hG : Glob w) (hX : ML w A xs n) (hc : n ≤ c) (hY : ML w B ys n') (hc' : n' ≤ c') :
    Calls Tryz.prog 85 #[.slice A n c, .slice B n' c'] w (MonEnd (smR xs ys) (smE xs ys) w) := by
  obtain ⟨i0, hi, hz0, hz1, hz2⟩ := info_parts info_mon
  have hn63 : n ≤ 1000000 ∧ n' ≤ 1000000 := ⟨Nat.le_trans hX.sm (by decide), Nat.le_trans hY.sm (by decide)⟩
  have hNs : xs.length + ys.length ≤ 2000 := by have := hX.len; have := hY.len; have := hX.sm; have := hY.sm; omega
  have HX := Lib.hid hX
  have HYs := Lib.hid hY
  have HNs := Lib.hid hNs
  clear hX hY hNs
  refine (callsIn_wide (n := 5)).1 ?_
  refine callsIn_of_wp_marks Tryz.func85 rfl trivial ?_ rfl
  simp only [Tryz.ntmps85, List.size_toArray, List.length_cons, List.length_nil, Nat.reduceAdd, Nat.reduceSub, Array.replicate_succ, Array.replicate_zero, List.push_toArray, List.append_toArray, List.nil_append, List.cons_append]
  gi_wp2_with (refine ⟨trivial, ?_⟩; gi_at_call 152; refine (callsIn_wide.2 (both_any A B n c n' c' _)).mono ?_; rintro e w1 ⟨rfl, rfl⟩)
  refine range_goes (gf := 204) (lb := #[.pointer (some ⟨w.heap.size + 1, 0, none⟩), .pointer (some ⟨w.heap.size + 1 + 1, 0, none⟩)]) rfl enter_b1 ?_
  intro fn R hR
  obtain ⟨Wo, hWo⟩ : ∃ Wo, Wo = w.alloc (.cells #[.slice none 0 0] 35) := ⟨_, rfl⟩
  obtain ⟨W0, hW0⟩ : ∃ W0, W0 = (Wo.alloc (.cells #[.slice A n c] 35)).alloc (.cells #[.slice B n' c'] 35) := ⟨_, rfl⟩
  have hso : Wo.heap.size = w.heap.size + 1 := by rw [hWo]; simp only [World.size_alloc]
  have hsz : W0.heap.size = w.heap.size + 3 := by rw [hW0, World.size_alloc, World.size_alloc, hso]
  have hb0 : Below w.heap.size w Wo := by rw [hWo]; exact below_alloc _ _
  have hbo : Below Wo.heap.size Wo W0 := by rw [hW0]; exact bto (below_alloc _ _) (below_alloc _ _)
  have x6 : Boxed W0 w.heap.size 35 (.slice none 0 0) := bx_below (by rw [hWo]; exact Boxed.new _ _ _) hbo
  have xa : Boxed W0 (w.heap.size + 1) 35 (.slice A n c) := by
    rw [hW0, ← hso]
    exact bx_below (Boxed.new Wo _ _) (below_alloc _ _)
  have xb : Boxed W0 (w.heap.size + 1 + 1) 35 (.slice B n' c') := by
    rw [hW0, ← hso]
    have := Boxed.new (Wo.alloc (.cells #[.slice A n c] 35)) 35 (.slice B n' c')
    rwa [World.size_alloc] at this
  replace hb0 := bto hb0 hbo
  rw [← hWo, ← hW0] at hR ⊢
  clear hW0 hWo hso hbo
  obtain ⟨W1, hW1⟩ : ∃ W1, W1 = (W0.alloc (.deferred (some []))).alloc (.loop R) := ⟨_, rfl⟩
  have hbB : Below W0.heap.size W0 W1 := by rw [hW1]; exact bto (below_alloc _ _) (below_alloc _ _)
  have hD : W1.heap[W0.heap.size]? = some (.deferred (some [])) := by rw [hW1]; exact (Below.heap_alloc _ _ _ (by simp)).trans (World.alloc_heap_new _ _)
  have hL : W1.heap[W0.heap.size + 1]? = some (.loop R) := by
    rw [hW1]
    have := World.alloc_heap_new (W0.alloc (.deferred (some []))) (.loop R)
    rwa [World.size_alloc] at this
  rw [← hW1]
  obtain ⟨l, hl⟩ : ∃ l, l = W0.heap.size + 1 := ⟨_, rfl⟩
  obtain ⟨d, hd⟩ : ∃ d, d = W0.heap.size := ⟨_, rfl⟩
  rw [← hl] at hL ⊢
  rw [← hd] at hD hR ⊢
  have hS0 : SmAt w R d l [] W1 := ⟨bto hb0 hbB, hL, hD, ⟨_, bx_below x6 hbB, World.ownsRow_nil _ _ _ 2⟩⟩
  replace xa := bx_below xa hbB
  replace xb := bx_below xb hbB
  obtain ⟨ab, hab⟩ : ∃ ab, ab = w.heap.size + 1 := ⟨_, rfl⟩
  obtain ⟨bb, hbb⟩ : ∃ bb, bb = w.heap.size + 1 + 1 := ⟨_, rfl⟩
  rw [← hbb] at xb ⊢
  rw [← hab] at xa ⊢
  have n1 : l ≠ d ∧ l ≠ w.heap.size ∧ w.heap.size ≤ l := by omega
  have n3 : w.heap.size ≤ d ∧ d ≠ w.heap.size := by omega
  have n4 : ab ≠ bb ∧ ab ≠ w.heap.size ∧ bb ≠ w.heap.size ∧ w.heap.size ≤ ab ∧ w.heap.size ≤ bb ∧ ab ≠ l ∧ bb ≠ l := by omega
  clear hW1 hbB hD hL x6 hb0 hsz hl hd hab hbb
  have hY : ∀ zs (y : Yl) W u v, SmAt w R d l zs W → y.1.length ≤ 1000 → y.2.1.length ≤ 1000 → y.2.2.length ≤ 1000 → zs.length < 2000 → Boxed W ab 35 u → Boxed W bb 35 v →
      YieldAt Fence.wide (5 - 1 - 1) Tryz.prog l #[.string ⟨y.1.toArray⟩, .agg #[.string ⟨y.2.1.toArray⟩, .string ⟨y.2.2.toArray⟩]] W fun e W' => e = .returned (.bool true) ∧ SmAt w R d l (zs ++ [y]) W' ∧ Boxed W' ab 35 u ∧ Boxed W' bb 35 v := by
    intro zs y W u v hS l1 l2 l3 hlen hA hB
    have hy := run_yield (P := Tryz.prog) (args := #[.string ⟨y.1.toArray⟩, .agg #[.string ⟨y.2.1.toArray⟩, .string ⟨y.2.2.toArray⟩]]) hS.loop (by rw [hR]; rfl)
    refine ⟨R.fn, _, R.assign, R.body, hy, roundIn_of_wpIn trivial ?_⟩
    have hlW := (Array.getElem?_eq_some_iff.1 hS.loop).1
    have hbA := below_alloc W (.cells #[.string ⟨y.2.1.toArray⟩, .string ⟨y.2.2.toArray⟩] 160)
    have hSa := hS.mono hbA
    have hbr := run_beginRound (P := Tryz.prog) hSa.loop (by rw [hR])
    have hS1 : SmAt w { R with state := .busy } d l zs ((W.alloc (.cells #[.string ⟨y.2.1.toArray⟩, .string ⟨y.2.2.toArray⟩] 160)).putObj l (.loop { R with state := .busy })) := SmAt.done rfl n1 hSa
    have x8 : Blk ((W.alloc (.cells #[.string ⟨y.2.1.toArray⟩, .string ⟨y.2.2.toArray⟩] 160)).putObj l (.loop { R with state := .busy })) W.heap.size #[.string ⟨y.2.1.toArray⟩, .string ⟨y.2.2.toArray⟩] := by
      obtain ⟨t, h⟩ := Blk.new W #[.string ⟨y.2.1.toArray⟩, .string ⟨y.2.2.toArray⟩] 160
      exact ⟨t, (World.putObj_heap_other (by omega)).trans h⟩
    have hA1 : Boxed ((W.alloc (.cells #[.string ⟨y.2.1.toArray⟩, .string ⟨y.2.2.toArray⟩] 160)).putObj l (.loop { R with state := .busy })) ab 35 u := (World.putObj_heap_other n4.2.2.2.2.2.1).trans (bx_below hA hbA)
    have hB1 : Boxed ((W.alloc (.cells #[.string ⟨y.2.1.toArray⟩, .string ⟨y.2.2.toArray⟩] 160)).putObj l (.loop { R with state := .busy })) bb 35 v := (World.putObj_heap_other n4.2.2.2.2.2.2).trans (bx_below hB hbA)
    obtain ⟨Wc, hWc⟩ : ∃ Wc, Wc = (W.alloc (.cells #[.string ⟨y.2.1.toArray⟩, .string ⟨y.2.2.toArray⟩] 160)).putObj l (.loop { R with state := .busy }) := ⟨_, rfl⟩
    rw [← hWc] at hbr hS1 x8 hA1 hB1
    have hRe : ({ { R with state := .busy } with state := .ready, pending := none } : Loop) = R := by rw [hR]
    obtain ⟨R1, hR1⟩ : ∃ R1, R1 = { R with state := .busy } := ⟨_, rfl⟩
    rw [← hR1] at hS1 hRe
    have hbc := hS1.below
    have p0 : Wc.cell? ⟨W.heap.size, 0, none⟩ = some (.string ⟨y.2.1.toArray⟩) := x8.c 0
    have p1 : Wc.cell? ⟨W.heap.size, 1, none⟩ = some (.string ⟨y.2.2.toArray⟩) := x8.c 1
    have HBr := Lib.hid hbr
    have HRe := Lib.hid hRe
    have HS1 := Lib.hid hS1
    have HA1 := Lib.hid hA1
    have HB1 := Lib.hid hB1
    obtain ⟨Z, hZ⟩ : ∃ Z, Z = val y.2.1 + val y.2.2 := ⟨_, rfl⟩
    have C1 := Lib.hid (riAdd (l := y.2.1) (l' := y.2.2) (by omega) (by omega) hZ.symm)
    have HZ := Lib.hid hZ
    have HHR := Lib.hid hR
    clear hWc hbr hy hS hSa hlW hS1 hRe hR1 hS0 hA hB hA1 hB1 hbA x8 hZ xa xb
    rw [hR]
    gi_wp2
    refine ⟨_, HBr.out, ?_⟩
    gi_wp2_with fail
    refine ⟨trivial, ?_⟩
    refine (CallsIn.inRound l (callsIn_wide.2 (C1.out.of hG hbc))).mono ?_
    rintro e w4 ⟨rfl, hb4⟩
    have HS2 := Lib.hid (HS1.out.mono hb4)
    have HA2 := Lib.hid (bx_below HA1.out hb4)
    have HB2 := Lib.hid (bx_below HB1.out hb4)
    replace hbc := bto hbc hb4
    clear hb4 p0 p1 C1 HS1 HA1 HB1 HBr hR
    by_cases hz : Z = 0
    · have e3 : (canon Z == []) = true := by rw [hz]; rfl
      have e4 : (canon Z).isEmpty = true := by rw [hz]; rfl
      have HK : Hid (keepL (zs ++ [y]) = keepL zs) := by
        show _ = _
        rw [keep_snoc]
        show _ ++ (if val y.2.1 + val y.2.2 = 0 then keepL [] else _) = _
        rw [← HZ.out, if_pos hz]; exact List.append_nil _
      have HGO : Hid (SmAt w R1 d l (zs ++ [y]) w4) := by
        obtain ⟨g1, g2, g3, v, g4, g5⟩ := HS2.out
        exact ⟨g1, g2, g3, v, g4, by rw [HK.out]; exact g5⟩
      clear hz
      gi_wp2
      exact ⟨_, _, run_endRound (P := Tryz.prog) none HGO.out.loop, rfl, SmAt.done (HRe.out.trans HHR.out) n1 HGO.out, (World.putObj_heap_other n4.2.2.2.2.2.1).trans HA2.out, (World.putObj_heap_other n4.2.2.2.2.2.2).trans HB2.out⟩
    have e3 : (canon Z == []) = false := by rw [beq_eq_false_iff_ne]; exact fun h => hz ((canon_eq_nil _).1 h)
    have e4 : (canon Z).isEmpty = false := by rw [List.isEmpty_eq_false_iff]; exact fun h => hz ((canon_eq_nil _).1 h)
    have HK : Hid (keepL (zs ++ [y]) = keepL zs ++ [⟨y.1, canon Z⟩]) := by
      show _ = _
      rw [keep_snoc]
      show _ ++ (if val y.2.1 + val y.2.2 = 0 then keepL [] else _) = _
      rw [← HZ.out, if_neg hz]; rfl
    have hkl := keep_len zs
    obtain ⟨v0, hv, hrow⟩ := HS2.out.row
    have hc := hv.cell
    generalize canon Z = C at *
    clear hz HZ
    gi_wp2_with (gi_at_builtin; refine wpListIn_append_own _ rfl _ _ 35 rfl w.heap.size 25 i0 (.agg #[.string ⟨#[]⟩, .string ⟨#[]⟩]) 2 32 Tryz.underlying35 hi hz0 hz1 hz2 rfl (by decide) _ _ _ rfl (own_belowM hrow (below_alloc _ _)) ⟨w4.heap.size, 0, none⟩ 1 1 [.string ⟨y.1.toArray⟩, .string ⟨C.toArray⟩] rfl rfl ?c1 ?c2 ?c3 ?c4 ?c5 ?_)
    case c1 =>
      intro j u hu
      match j with
      | 0 => simp at hu; subst hu; rw [Lib.add_plain]; simp [go_sem]
      | 1 => simp at hu; subst hu; rw [Lib.add_plain]; simp [go_sem]
      | j + 2 => simp at hu
    case c2 =>
      intro u hu
      simp at hu
      rcases hu with rfl | rfl <;> rfl
    case c3 => unfold maxLen; omega
    case c4 => omega
    case c5 => have := hbc.size; simp; omega
    intro v' w5 hown' hgrow _
    obtain ⟨g', cap', rfl⟩ := ownsRow_succ hown'
    obtain ⟨hv1, hv2, hr2, hk2, hb2⟩ := hv.appended (by decide) hrow hbc.size (Nat.le_refl _) hown' hgrow
    have hc1 := hv1.cell
    have hf1 := hv1.frozen
    have hA3 := bx_far (i := 0) (u := .slice (some ⟨g', 0, none⟩) ((keepL zs).length + 1) cap') ((Boxed.alloc HA2.out _).kept hgrow (HA2.out.not_row (by decide) hrow)) n4.2.1
    have hB3 := bx_far (i := 0) (u := .slice (some ⟨g', 0, none⟩) ((keepL zs).length + 1) cap') ((Boxed.alloc HB2.out _).kept hgrow (HB2.out.not_row (by decide) hrow)) n4.2.2.1
    have HA3 := Lib.hid hA3
    have HB3 := Lib.hid hB3
    have HGO : Hid (SmAt w R1 d l (zs ++ [y]) (w5.setCell ⟨w.heap.size, 0, none⟩ (.slice (some ⟨g', 0, none⟩) ((keepL zs).length + 1) cap'))) := by
      refine ⟨hbc.trans hb2, hk2.same _ _ HS2.out.loop rfl, hk2.same _ _ HS2.out.dfr rfl, _, hv2, ?_⟩
      have e1 : (keepL (zs ++ [y])).length = (keepL zs).length + 1 := by rw [HK.out, List.length_append]; rfl
      have e2 : rowsM (keepL (zs ++ [y])) = rowsM (keepL zs) ++ [.string ⟨y.1.toArray⟩, .string ⟨C.toArray⟩] := by rw [HK.out, rowsM_app]; rfl
      rw [e1, e2]; exact hr2
    clear hown' hgrow hv1 hv2 hr2 hk2 hb2 hv hrow hc HS2 HA2 HB2 hA3 hB3 HK
    gi_wp2
    exact ⟨_, _, run_endRound (P := Tryz.prog) none HGO.out.loop, rfl, SmAt.done (HRe.out.trans HHR.out) n1 HGO.out, (World.putObj_heap_other n4.2.2.2.2.2.1).trans HA3.out, (World.putObj_heap_other n4.2.2.2.2.2.2).trans HB3.out⟩
  have key := both1_in (5 - 1) l ab bb w.heap.size xs ys 2000 w (SmAt w R d l) (fun zs W h => h.below) (fun zs W W' h hb => h.mono hb) (fun zs W W' b cs t h hb ht hn hw hg => h.grown hb ht hn hw hg) (fun zs W h => by obtain ⟨v, h1, -⟩ := h.row; exact h1.lt) n4.2.1 n4.2.2.1 n4.2.2.2.1 n4.2.2.2.2.1 hY n4.1 HNs.out A B n c n' c' ⟨HX.out.len, HX.out.str, HX.out.mem⟩ ⟨HYs.out.len, HYs.out.str, HYs.out.mem⟩ hc hc' hn63 W1 hS0 xa xb
  refine key.mono ?_
  rintro e W2 ⟨hv, hS2⟩
  refine ⟨hv, hS2.loop, ?_⟩
  have hS3 : SmAt w { R with state := .exhausted } d l (bothL xs ys) (W2.putObj l (.loop { R with state := .exhausted })) := SmAt.done rfl n1 hS2
  obtain ⟨W3, hW3⟩ : ∃ W3, W3 = W2.putObj l (.loop { R with state := .exhausted }) := ⟨_, rfl⟩
  rw [← hW3] at hS3 ⊢
  obtain ⟨v, hv, hrow⟩ := hS3.row
  have q0 := hv.cell
  have hD5 := hS3.dfr
  have hb5 := hS3.below
  have hrow2 : W3.ownsRow w.heap.size 25 2 v (smL xs ys).length (rowsM (smL xs ys)) := hrow
  obtain ⟨Bv, cv, rfl, hcv, -⟩ := own_mon hrow2 rfl
  have HR := Lib.hid (ownsRow_putObj hrow2 (.deferred none) hD5 rfl)
  have hsl : (smL xs ys).length ≤ 2000 := Nat.le_trans (smL_len xs ys) HNs.out
  clear hW3 hS3 key hY hS2 hS0 hrow hrow2 HX HYs xa xb
  have HVV := Lib.hid (show (16 < (smL xs ys).length → smR xs ys = [] ∧ smE xs ys = 4) ∧ (¬ 16 < (smL xs ys).length → smR xs ys = smL xs ys ∧ smE xs ys = 0) from ⟨fun g => ⟨if_pos g, if_pos g⟩, fun g => ⟨if_neg g, if_neg g⟩⟩)
  obtain ⟨M, hM⟩ : ∃ M, M = (smL xs ys).length := ⟨_, rfl⟩
  rw [← hM] at HVV hsl HR q0 hcv
  have HMM := Lib.hid hM.symm
  clear hM
  by_cases g16 : 16 < M
  · have e1 : decide (16 < M) = true := decide_eq_true g16
    have e2 : decide ((16 : Int) < (M : Int)) = true := decide_eq_true (by omega)
    have HV : Hid (smR xs ys = [] ∧ smE xs ys = 4) := HVV.out.1 g16
    clear g16
    gi_wp2
    refine ⟨by simp, .inl ⟨_, _, rfl, run_takeDeferred hD5, ?_⟩⟩
    refine ⟨_, results_tmp2 rfl _ _ _, none, 0, 0, ?_, ?_, Nat.le_refl _, ?_, below_putM hb5 n3.1⟩
    · rw [HV.out.2]; rfl
    · rw [HV.out.1]; rfl
    · rw [HV.out.1]; exact mon_nil _ _
  · have e1 : decide (16 < M) = false := decide_eq_false g16
    have e2 : decide ((16 : Int) < (M : Int)) = false := decide_eq_false (by omega)
    have HV : Hid (smR xs ys = smL xs ys ∧ smE xs ys = 0) := HVV.out.2 g16
    obtain ⟨Bw, cw, hBw, hcw, hmw⟩ := own_mon HR.out HMM.out
    injection hBw with b1 b2 b3
    subst b1 b3
    have HM := Lib.hid hmw
    clear g16 hmw HR
    gi_wp2
    refine ⟨by simp, .inl ⟨_, _, rfl, run_takeDeferred hD5, ?_⟩⟩
    refine ⟨_, results_tmp2 rfl _ _ _, Bv, _, cv, ?_, ?_, hcw, ?_, below_putM hb5 n3.1⟩
    · rw [HV.out.2]; rfl
    · rw [HV.out.1]; exact HMM.out
    · rw [HV.out.1]; exact HM.out

end Go.Proofs.YtdjjlbfleibhjaaGreatDoor
namespace Go.Proofs.YtdjjlbfleibhjaaGreatDoor
open Num
/-! Decimal texts. -/
theorem index46_none : ∀ a : List UInt8, 46 ∉ a → Lib.index a [46] = -1
  | [], _ => rfl
  | x :: a, h => by
    have h1 : ¬ (46 = x) := fun e => h (by rw [e]; exact List.mem_cons_self)
    have ih := index46_none a (fun e => h (List.mem_cons_of_mem _ e))
    unfold Lib.index
    simp [h1, ih]
theorem index46_at : ∀ a b : List UInt8, 46 ∉ a → Lib.index (a ++ 46 :: b) [46] = (a.length : Int)
  | [], b, _ => by unfold Lib.index; simp
  | x :: a, b, h => by
    have h1 : ¬ (46 = x) := fun e => h (by rw [e]; exact List.mem_cons_self)
    have ih := index46_at a b (fun e => h (List.mem_cons_of_mem _ e))
    rw [List.cons_append]
    unfold Lib.index
    rw [ih]
    have h2 : ((a.length : Int) == -1) = false := by rw [beq_eq_false_iff_ne]; omega
    simp [h1, h2]
theorem cut46_none {a : List UInt8} (h : 46 ∉ a) : Lib.cut a [46] = (a, [], false) := by
  unfold Lib.cut; rw [index46_none a h, if_neg (by decide)]
theorem cut46_at {a : List UInt8} (b : List UInt8) (h : 46 ∉ a) : Lib.cut (a ++ 46 :: b) [46] = (a, b, true) := by
  unfold Lib.cut; rw [index46_at a b h, if_pos (by omega), Int.toNat_natCast]
  simp
theorem point_cases : ∀ s : List UInt8, 46 ∉ s ∨ ∃ a b, 46 ∉ a ∧ s = a ++ 46 :: b
  | [] => .inl (by simp)
  | x :: s => by
    by_cases h : x = 46
    · exact .inr ⟨[], s, by simp, by rw [h]; rfl⟩
    · rcases point_cases s with h1 | ⟨a, b, h1, h2⟩
      · exact .inl (by simp; exact ⟨fun e => h e.symm, h1⟩)
      · exact .inr ⟨x :: a, b, by simp; exact ⟨fun e => h e.symm, h1⟩, by rw [h2]; rfl⟩
/-- a text without a point, or with one -/
theorem cut46_cases (s : List UInt8) : (46 ∉ s ∧ Lib.cut s [46] = (s, [], false)) ∨ ∃ a b, 46 ∉ a ∧ s = a ++ 46 :: b ∧ Lib.cut s [46] = (a, b, true) := by
  rcases point_cases s with h | ⟨a, b, h, rfl⟩
  · exact .inl ⟨h, cut46_none h⟩
  · exact .inr ⟨a, b, h, rfl, cut46_at b h⟩
def isD (l : List UInt8) : Bool := !l.isEmpty && l.all isDig
def okW (l : List UInt8) : Bool := isD l && !(decide (1 < l.length) && (l.head? == some 48))
def decW (s : List UInt8) : List UInt8 := (Lib.cut (rest s) [46]).1
def decP (s : List UInt8) : List UInt8 := (Lib.cut (rest s) [46]).2.1
def decB (s : List UInt8) : Bool := (Lib.cut (rest s) [46]).2.2
def decN' (s : List UInt8) : Nat := nat (decW s ++ decP s)
def decZ (s : List UInt8) : Int := if isNeg s then -(decN' s : Int) else (decN' s : Int)
def decOk (s : List UInt8) : Bool := okW (decW s) && (!decB s || isD (decP s)) && !(isNeg s && decN' s == 0)
theorem isD_iff (l : List UInt8) : isD l = true ↔ l ≠ [] ∧ l.all isDig = true := by
  unfold isD; cases l <;> simp
theorem no46 {l : List UInt8} (h : l.all isDig = true) : 46 ∉ l := fun hm => by
  have := List.all_eq_true.1 h 46 hm
  exact absurd this (by decide)
theorem no45_head {l : List UInt8} (h : l.all isDig = true) : isNeg l = false := by
  cases l with
  | nil => rfl
  | cons a t =>
    have : isDig a = true := by simp at h; exact h.1
    unfold isNeg
    rw [beq_eq_false_iff_ne]
    intro e
    simp at e
    rw [e] at this
    exact absurd this (by decide)
theorem head48_sig {l : List UInt8} (h : l.head? ≠ some 48) : sig l = l := by
  cases l with
  | nil => rfl
  | cons a t =>
    unfold sig
    rw [List.dropWhile_cons_of_neg]
    simp at h ⊢; exact h
/-- the whole part is the text of its number -/
theorem okW_fmt {l : List UInt8} (h : okW l = true) : l = fmt (nat l) ∧ l ≠ [] ∧ l.all isDig = true := by
  unfold okW at h
  simp only [Bool.and_eq_true, Bool.not_eq_true'] at h
  obtain ⟨h1, h2⟩ := h
  obtain ⟨hn, hd⟩ := (isD_iff l).1 h1
  refine ⟨?_, hn, hd⟩
  cases l with
  | nil => exact absurd rfl hn
  | cons a t =>
    by_cases ha : a = 48
    · subst ha
      cases t with
      | nil => decide
      | cons b u => simp at h2
    · have hs : sig (a :: t) = a :: t := head48_sig (by simpa using ha)
      have := dec_nat (a :: t) hd
      unfold fmt
      rw [if_neg, this, hs]
      intro h0
      rw [h0, dec_zero, hs] at this
      exact absurd this (by simp)
def zpad (k : Nat) (l : List UInt8) : List UInt8 := List.replicate (k - l.length) 48 ++ l
theorem zpad_len (k : Nat) (l : List UInt8) : (zpad k l).length = max k l.length := by unfold zpad; simp; omega
theorem nat_zeros : ∀ k, nat (List.replicate k 48) = 0
  | 0 => rfl
  | k + 1 => by rw [List.replicate_succ, nat_cons, nat_zeros k]; simp
theorem zpad_nat (k : Nat) (l : List UInt8) : nat (zpad k l) = nat l := by unfold zpad; rw [nat_append, nat_zeros]; simp
theorem zpad_dig (k : Nat) {l : List UInt8} (h : l.all isDig = true) : (zpad k l).all isDig = true := by
  unfold zpad; rw [List.all_append, h, Bool.and_true, List.all_eq_true]
  intro x hx
  rw [List.eq_of_mem_replicate hx]; decide
def tW (a p : Nat) : List UInt8 := (zpad (p + 1) (dec a)).take ((zpad (p + 1) (dec a)).length - p)
def tP (a p : Nat) : List UInt8 := (zpad (p + 1) (dec a)).drop ((zpad (p + 1) (dec a)).length - p)
def sgnT (z : Int) : List UInt8 := if z < 0 then [45] else []
def textD (z : Int) (p : Nat) : List UInt8 := sgnT z ++ (tW z.natAbs p ++ if p = 0 then [] else 46 :: tP z.natAbs p)
theorem tWP (a p : Nat) : tW a p ++ tP a p = zpad (p + 1) (dec a) := List.take_append_drop _ _
theorem tP_len (a p : Nat) : (tP a p).length = p := by unfold tP; rw [List.length_drop, zpad_len]; omega
theorem tW_len (a p : Nat) : (tW a p).length = max (p + 1) (dec a).length - p := by unfold tW; rw [List.length_take, zpad_len]; omega
theorem tWP_nat (a p : Nat) : nat (tW a p ++ tP a p) = a := by rw [tWP, zpad_nat, nat_dec]
theorem all_take {l : List UInt8} (h : l.all isDig = true) (k : Nat) : (l.take k).all isDig = true := by
  rw [List.all_eq_true] at h ⊢; exact fun x hx => h x (List.mem_of_mem_take hx)
theorem all_drop {l : List UInt8} (h : l.all isDig = true) (k : Nat) : (l.drop k).all isDig = true := by
  rw [List.all_eq_true] at h ⊢; exact fun x hx => h x (List.mem_of_mem_drop hx)
theorem tW_dig (a p : Nat) : (tW a p).all isDig = true := all_take (zpad_dig _ (dec_digs a)) _
theorem tP_dig (a p : Nat) : (tP a p).all isDig = true := all_drop (zpad_dig _ (dec_digs a)) _
theorem tW_ok (a p : Nat) : okW (tW a p) = true := by
  have hd := tW_dig a p
  have hl := tW_len a p
  have hne : tW a p ≠ [] := fun e => by rw [e] at hl; simp at hl; omega
  unfold okW
  rw [(isD_iff _).2 ⟨hne, hd⟩, Bool.true_and, Bool.not_eq_true', Bool.and_eq_false_iff]
  by_cases h1 : 1 < (tW a p).length
  · right
    have h2 : p + 1 < (dec a).length := by omega
    have h3 : zpad (p + 1) (dec a) = dec a := by unfold zpad; rw [Nat.sub_eq_zero_of_le (by omega)]; rfl
    rw [beq_eq_false_iff_ne]
    have h4 := dec_head a
    unfold tW
    rw [h3]
    rw [List.head?_take]
    split
    · simp
    · exact h4
  · left; exact decide_eq_false h1
theorem textD_neg (z : Int) (p : Nat) : isNeg (textD z p) = decide (z < 0) := by
  unfold textD sgnT
  by_cases h : z < 0
  · rw [if_pos h, decide_eq_true h]; rfl
  · rw [if_neg h, decide_eq_false h, List.nil_append]
    have hd := tW_dig z.natAbs p
    have hl := tW_len z.natAbs p
    cases hw : tW z.natAbs p with
    | nil => rw [hw] at hl; simp at hl; omega
    | cons a t =>
      rw [hw] at hd
      have h1 : isDig a = true := by simp at hd; exact hd.1
      unfold isNeg
      rw [beq_eq_false_iff_ne, List.cons_append]
      intro e
      simp at e
      rw [e] at h1
      exact absurd h1 (by decide)
theorem textD_rest (z : Int) (p : Nat) : rest (textD z p) = tW z.natAbs p ++ if p = 0 then [] else 46 :: tP z.natAbs p := by
  unfold rest
  rw [textD_neg]
  unfold textD sgnT
  by_cases h : z < 0
  · rw [decide_eq_true h, if_pos rfl, if_pos h]; rfl
  · rw [decide_eq_false h, if_neg (by decide), if_neg h]; rfl
theorem textD_cut (z : Int) (p : Nat) : Lib.cut (rest (textD z p)) [46] = (tW z.natAbs p, tP z.natAbs p, decide (0 < p)) := by
  rw [textD_rest]
  by_cases h : p = 0
  · have e : tP z.natAbs p = [] := List.eq_nil_of_length_eq_zero (by rw [tP_len, h])
    rw [if_pos h, List.append_nil, cut46_none (no46 (tW_dig _ _)), e, h]; rfl
  · rw [if_neg h, cut46_at _ (no46 (tW_dig _ _)), decide_eq_true (by omega)]
theorem textD_W (z : Int) (p : Nat) : decW (textD z p) = tW z.natAbs p := by unfold decW; rw [textD_cut]
theorem textD_P (z : Int) (p : Nat) : decP (textD z p) = tP z.natAbs p := by unfold decP; rw [textD_cut]
theorem textD_B (z : Int) (p : Nat) : decB (textD z p) = decide (0 < p) := by unfold decB; rw [textD_cut]
theorem textD_N (z : Int) (p : Nat) : decN' (textD z p) = z.natAbs := by unfold decN'; rw [textD_W, textD_P, tWP_nat]
theorem textD_Z (z : Int) (p : Nat) : decZ (textD z p) = z := by
  unfold decZ; rw [textD_neg, textD_N]
  by_cases h : z < 0
  · rw [decide_eq_true h, if_pos rfl]; omega
  · rw [decide_eq_false h, if_neg (by decide)]; omega
theorem textD_ok (z : Int) (p : Nat) : decOk (textD z p) = true := by
  unfold decOk
  rw [textD_W, textD_B, textD_P, textD_neg, textD_N, tW_ok, Bool.true_and]
  have h1 : (!decide (0 < p) || isD (tP z.natAbs p)) = true := by
    by_cases h : 0 < p
    · rw [decide_eq_true h, Bool.not_true, Bool.false_or]
      exact (isD_iff _).2 ⟨fun e => by have := tP_len z.natAbs p; rw [e] at this; simp at this; omega, tP_dig _ _⟩
    · rw [decide_eq_false h]; rfl
  rw [h1, Bool.true_and, Bool.not_eq_true', Bool.and_eq_false_iff]
  by_cases h : z < 0
  · right; rw [beq_eq_false_iff_ne]; omega
  · left; exact decide_eq_false h
theorem textD_len (z : Int) (p : Nat) : (textD z p).length ≤ (dec z.natAbs).length + p + 3 := by
  have h1 := tW_len z.natAbs p
  have h2 := tP_len z.natAbs p
  unfold textD sgnT
  split <;> split <;> simp <;> omega
/-! Without the zeros at the end. -/
def strip (l : List UInt8) : List UInt8 := (l.reverse.dropWhile (· == 48)).reverse
/-! The text without zeros behind the point. -/
def trimT (s : List UInt8) : List UInt8 := if 46 ∈ s then (if (strip s).getLast? = some 46 then (strip s).dropLast else strip s) else s
def tail0 (P : List UInt8) : List UInt8 := if strip P = [] then [] else 46 :: strip P
theorem strip_app (a : List UInt8) {b : List UInt8} (h : strip b ≠ []) : strip (a ++ b) = a ++ strip b := by
  have e : ∀ (x y : List UInt8), x.dropWhile (· == 48) ≠ [] → (x ++ y).dropWhile (· == 48) = x.dropWhile (· == 48) ++ y := by
    intro x y hx
    induction x with
    | nil => exact absurd rfl hx
    | cons c x ih =>
      by_cases hc : (c == 48) = true
      · rw [List.cons_append, List.dropWhile_cons_of_pos (p := fun x : UInt8 => x == 48) hc, List.dropWhile_cons_of_pos (p := fun x : UInt8 => x == 48) hc]
        rw [List.dropWhile_cons_of_pos (p := fun x : UInt8 => x == 48) hc] at hx
        exact ih hx
      · rw [List.cons_append, List.dropWhile_cons_of_neg (p := fun x : UInt8 => x == 48) hc, List.dropWhile_cons_of_neg (p := fun x : UInt8 => x == 48) hc]; rfl
  unfold strip at *
  rw [List.reverse_append, e _ _ (fun h0 => h (by rw [h0]; rfl)), List.reverse_append, List.reverse_reverse]
theorem strip_nil_app (a : List UInt8) {b : List UInt8} (h : strip b = []) : strip (a ++ b) = strip a := by
  have e : ∀ (x y : List UInt8), x.dropWhile (· == 48) = [] → (x ++ y).dropWhile (· == 48) = y.dropWhile (· == 48) := by
    intro x y hx
    induction x with
    | nil => rfl
    | cons c x ih =>
      by_cases hc : (c == 48) = true
      · rw [List.cons_append, List.dropWhile_cons_of_pos (p := fun x : UInt8 => x == 48) hc]
        rw [List.dropWhile_cons_of_pos (p := fun x : UInt8 => x == 48) hc] at hx
        exact ih hx
      · rw [List.dropWhile_cons_of_neg (p := fun x : UInt8 => x == 48) hc] at hx; cases hx
  unfold strip at *
  rw [List.reverse_append, e _ _ (by simpa using h)]
theorem strip_last {l : List UInt8} (hd : l.all isDig = true) : (strip l).getLast? ≠ some 46 := by
  intro e
  have h1 : 46 ∈ strip l := List.mem_of_getLast? e
  have h2 : 46 ∈ l := by
    unfold strip at h1
    rw [List.mem_reverse] at h1
    have := (List.dropWhile_sublist _).subset h1
    rwa [List.mem_reverse] at this
  exact no46 hd h2
theorem trimT_point (a : List UInt8) {P : List UInt8} (hP : P.all isDig = true) : trimT (a ++ 46 :: P) = a ++ tail0 P := by
  unfold trimT tail0
  rw [if_pos (by simp)]
  by_cases h : strip P = []
  · have e : strip (a ++ 46 :: P) = a ++ [46] := by
      rw [show a ++ 46 :: P = (a ++ [46]) ++ P by simp, strip_nil_app _ h, strip_app a (b := [46]) (by decide)]; rfl
    rw [e, if_pos h, if_pos (by simp)]
    simp
  · have e : strip (a ++ 46 :: P) = a ++ 46 :: strip P := by
      rw [show a ++ 46 :: P = (a ++ [46]) ++ P by simp, strip_app _ h]; simp
    rw [e, if_neg h, if_neg]
    have := strip_last hP
    rw [List.getLast?_append, List.getLast?_cons]
    cases hl : (strip P).getLast? with
    | none => rw [List.getLast?_eq_none_iff] at hl; exact absurd hl h
    | some y => rw [hl] at this; simpa using this
theorem trimT_plain {a : List UInt8} (h : 46 ∉ a) : trimT a = a := by unfold trimT; rw [if_neg h]
theorem sgn_rest (s : List UInt8) : s = (if isNeg s then [45] else []) ++ rest s := by
  unfold rest
  by_cases h : isNeg s = true
  · rw [if_pos h, if_pos h]
    cases s with
    | nil => exact absurd h (by decide)
    | cons a t =>
      unfold isNeg at h
      have : a = 45 := by simpa using h
      rw [this]; rfl
  · rw [if_neg h, if_neg h]; rfl
theorem decOk_parts {s : List UInt8} (h : decOk s = true) : okW (decW s) = true ∧ (decP s).all isDig = true ∧ (isNeg s = true → decN' s ≠ 0) ∧ trimT s = (if isNeg s then [45] else []) ++ (decW s ++ tail0 (decP s)) := by
  unfold decOk at h
  simp only [Bool.and_eq_true, Bool.not_eq_true', Bool.or_eq_true] at h
  obtain ⟨⟨h1, h2⟩, h3⟩ := h
  have hs := sgn_rest s
  have hsg : 46 ∉ (if isNeg s then [45] else [] : List UInt8) := by split <;> decide
  have hn : isNeg s = true → decN' s ≠ 0 := by
    intro hg h0
    rw [hg, h0] at h3
    exact absurd h3 (by decide)
  have hWd := (okW_fmt h1).2.2
  rcases cut46_cases (rest s) with ⟨hno, hc⟩ | ⟨a, b, hno, he, hc⟩
  · have eW : decW s = rest s := by unfold decW; rw [hc]
    have eP : decP s = [] := by unfold decP; rw [hc]
    refine ⟨h1, by rw [eP]; rfl, hn, ?_⟩
    rw [eP, eW]
    have : trimT s = s := trimT_plain (by rw [hs]; simp only [List.mem_append, not_or]; exact ⟨hsg, hno⟩)
    rw [this]
    conv => lhs; rw [hs]
    simp [tail0, strip]
  · have eW : decW s = a := by unfold decW; rw [hc]
    have eP : decP s = b := by unfold decP; rw [hc]
    have eB : decB s = true := by unfold decB; rw [hc]
    have hb : b.all isDig = true := by
      rw [eP, eB] at h2
      rcases h2 with h2 | h2
      · cases h2
      · exact ((isD_iff b).1 h2).2
    refine ⟨h1, by rw [eP]; exact hb, hn, ?_⟩
    rw [eP, eW]
    conv => lhs; rw [hs, he, ← List.append_assoc]
    rw [trimT_point _ hb, List.append_assoc]
/-! How often 2 and 5 divide. -/
def tenQ (p : Nat) : Rat := ((10 ^ p : Nat) : Int)
end Go.Proofs.YtdjjlbfleibhjaaGreatDoor
namespace Go.Proofs.YtdjjlbfleibhjaaGreatDoor
open Go.RowKit Num
section
variable {l l' : List UInt8}
theorem riNeg (hl : l.length ≤ 100000000) {z : Int} (e : -val l = z) : Ret 55 #[.string ⟨l.toArray⟩] (.string ⟨(canon z).toArray⟩) := fun w hG => by
  subst e; exact neg_any l w hl hG
theorem riCanonical (hl : l.length ≤ 1000000) {z : Int} (e : val l = z) : Ret 90 #[.string ⟨l.toArray⟩] (.string ⟨(canon z).toArray⟩) := fun w _ => by
  subst e; exact canonical_any l w hl
theorem riPower (hl : l.length ≤ 100000) {n : Nat} (hn : n ≤ 400) {z : Int} (e : val l ^ n = z) : Ret 202 #[.string ⟨l.toArray⟩, .int .i64 (n : Int)] (.tuple #[.string ⟨(canon z).toArray⟩, .int .i64 0]) := fun w hG => by
  subst e; exact ipower_any l n w hl hn hG
end
theorem str_nil {z : Int} (h : z = 0) : (canon z == []) = true ∧ (canon z).isEmpty = true := by rw [h]; decide
theorem str_ne {z : Int} (h : z ≠ 0) : (canon z == []) = false ∧ (canon z).isEmpty = false := by
  have : canon z ≠ [] := fun e => h ((canon_eq_nil z).1 e)
  exact ⟨by rw [beq_eq_false_iff_ne]; exact this, by rw [List.isEmpty_eq_false_iff]; exact this⟩
theorem canon_len_of {z : Int} {k : Nat} (h : z.natAbs < 10 ^ k) {n : Nat} (hn : k + 1 ≤ n) : (canon z).length ≤ n := Nat.le_trans (canon_len_le _ _ h) hn
end Go.Proofs.YtdjjlbfleibhjaaGreatDoor
namespace Go.Proofs.YtdjjlbfleibhjaaGreatDoor
open Go.RowKit Num
def putV (xs : List Mon) (m : Mon) : List Mon × Int := if ¬ bagE xs = 0 then ([], 1) else if ¬ codeB m.cur = true then ([], 23) else if ¬ m.amt = canon (val m.amt) then ([], 1) else (smR xs [m], smE xs [m])
def sumV (xs ys : List Mon) : List Mon × Int := if ¬ bagE xs = 0 then ([], 1) else if ¬ bagE ys = 0 then ([], 1) else (smR xs ys, smE xs ys)
def negV (xs : List Mon) : List Mon × Int := if ¬ bagE xs = 0 then ([], 1) else (xs.map negM, 0)
theorem mCheckB {w : World} {A : Option Addr} {xs : List Mon} {n : Nat} (hG : Glob w) (h : ML w A xs n) (c : Nat) : RetB w 34 #[.slice A n c] (.int .i64 (bagE xs)) := fun w' hb => mCheck A xs n c w' (hG.below hb) (h.below hb)
theorem monEnd_no {V : List Mon × Int} {z : Int} {w w' : World} (h : V = ([], z)) (hb : Below w.heap.size w w') : MonEnd V.1 V.2 w (.returned (.tuple #[.slice none 0 0, .int .i64 z])) w' :=
  ⟨none, 0, 0, by rw [h], by rw [h]; rfl, Nat.le_refl _, by rw [h]; exact mon_nil _ _, hb⟩
theorem ml_one {w : World} {b : Nat} {m : Mon} {t : TypeId} (h : w.heap[b]? = some (.cells #[.string ⟨m.cur.toArray⟩, .string ⟨m.amt.toArray⟩] t (0, 0))) (h1 : m.cur.length ≤ 1000) (h2 : m.amt.length ≤ 1000) : ML w (some ⟨b, 0, none⟩) [m] 1 := by
  refine ⟨rfl, by decide, fun t ht => ?_, fun i t ht => ?_⟩
  · rw [List.mem_singleton.1 ht]; exact ⟨h1, h2⟩
  · cases i with
    | zero =>
      have : m = t := by simpa using ht
      subst this
      exact ⟨b, 0, rfl, (Array.getElem?_eq_some_iff.1 h).1, by rw [blk_cell h]; rfl, by rw [blk_cell h]; rfl⟩
    | succ i => simp at ht

set_option maxHeartbeats 4000000 in
set_option maxRecDepth 100000 in
theorem mPut (A : Option Addr) (xs : List Mon) (n c : Nat) (m : Mon) (w : World) (hG : Glob w) (hX : ML w A xs n) (hc : n ≤ c) (h1 : m.cur.length ≤ 1000) (h2 : m.amt.length ≤ 1000) :
    Calls Tryz.prog 39 #[.slice A n c, (.agg #[.string ⟨m.cur.toArray⟩, .string ⟨m.amt.toArray⟩])] w (MonEnd (putV xs m).1 (putV xs m).2 w) := by
  have CB := Lib.hid (mCheckB hG hX c)
  have HX := Lib.hid hX
  have hb := below_alloc w (.cells #[.string ⟨m.cur.toArray⟩, .string ⟨m.amt.toArray⟩] 25)
  have x3 := FBox.new w (.string ⟨m.cur.toArray⟩) (.string ⟨m.amt.toArray⟩) 25
  clear hX
  by_cases g0 : bagE xs = 0
  rotate_left
  · have HV : Hid (putV xs m = ([], 1)) := if_pos g0
    have e1 : (bagE xs != 0) = true := bneq' (intbne g0)
    generalize bagE xs = E at *
    clear g0
    go_enter Tryz.func39, Tryz.ntmps39
    go_wp2_with fail
    ((with_reducible refine (CB.out.of hG hb).mono ?_); rintro e w2 ⟨rfl, hb2⟩)
    replace x3 := x3.below hb2
    replace hb := bto hb hb2
    clear hb2
    clear CB x3
    go_wp2
    go_ret2
    exact monEnd_no HV.out hb
  have HV0 : Hid (putV xs m = if ¬ codeB m.cur = true then ([], 23) else if ¬ m.amt = canon (val m.amt) then ([], 1) else (smR xs [m], smE xs [m])) := if_neg (fun h => h g0)
  rw [g0] at CB
  clear g0
  have CD := Lib.hid (mCode (l := m.cur) (by omega))
  by_cases gd : codeB m.cur = true
  rotate_left
  · have HV : Hid (putV xs m = ([], 23)) := HV0.out.trans (if_pos gd)
    have e1 := not_true_b gd
    rw [e1] at CD
    clear gd e1 HV0
    go_enter Tryz.func39, Tryz.ntmps39
    go_wp2_with fail
    ((with_reducible refine (CB.out.of hG hb).mono ?_); rintro e w2 ⟨rfl, hb2⟩)
    replace x3 := x3.below hb2
    replace hb := bto hb hb2
    clear hb2
    have q0 := x3.c0
    clear CB
    go_wp2_with fail
    ((with_reducible refine (CD.out.of hG hb).mono ?_); rintro e w3 ⟨rfl, hb3⟩)
    replace x3 := x3.below hb3
    replace hb := bto hb hb3
    clear hb3
    clear CD q0 x3
    go_wp2
    go_ret2
    exact monEnd_no HV.out hb
  have HV1 : Hid (putV xs m = if ¬ m.amt = canon (val m.amt) then ([], 1) else (smR xs [m], smE xs [m])) := HV0.out.trans (if_neg (fun h => h gd))
  rw [gd] at CD
  clear gd HV0
  by_cases gv : m.amt = canon (val m.amt)
  rotate_left
  · have HV : Hid (putV xs m = ([], 1)) := HV1.out.trans (if_pos gv)
    have CC := Lib.hid (riCheck (l := m.amt) (c := 1) (by omega) (if_neg gv))
    clear gv HV1
    go_enter Tryz.func39, Tryz.ntmps39
    go_wp2_with fail
    ((with_reducible refine (CB.out.of hG hb).mono ?_); rintro e w2 ⟨rfl, hb2⟩)
    replace x3 := x3.below hb2
    replace hb := bto hb hb2
    clear hb2
    have q0 := x3.c0
    clear CB
    go_wp2_with fail
    ((with_reducible refine (CD.out.of hG hb).mono ?_); rintro e w3 ⟨rfl, hb3⟩)
    replace x3 := x3.below hb3
    replace hb := bto hb hb3
    clear hb3
    clear CD q0
    have q1 := x3.c1
    go_wp2_with fail
    ((with_reducible refine (CC.out.of hG hb).mono ?_); rintro e w4 ⟨rfl, hb4⟩)
    replace x3 := x3.below hb4
    replace hb := bto hb hb4
    clear hb4
    clear CC q1 x3
    go_wp2
    go_ret2
    exact monEnd_no HV.out hb
  have HV : Hid (putV xs m = (smR xs [m], smE xs [m])) := HV1.out.trans (if_neg (fun h => h gv))
  have CC := Lib.hid (riCheck (l := m.amt) (c := 0) (by omega) (if_pos gv))
  clear gv HV1
  go_enter Tryz.func39, Tryz.ntmps39
  go_wp2_with fail
  ((with_reducible refine (CB.out.of hG hb).mono ?_); rintro e w2 ⟨rfl, hb2⟩)
  replace x3 := x3.below hb2
  replace hb := bto hb hb2
  clear hb2
  have q0 := x3.c0
  clear CB
  go_wp2_with fail
  ((with_reducible refine (CD.out.of hG hb).mono ?_); rintro e w3 ⟨rfl, hb3⟩)
  replace x3 := x3.below hb3
  replace hb := bto hb hb3
  clear hb3
  clear CD q0
  have q1 := x3.c1
  go_wp2_with fail
  ((with_reducible refine (CC.out.of hG hb).mono ?_); rintro e w4 ⟨rfl, hb4⟩)
  replace x3 := x3.below hb4
  replace hb := bto hb hb4
  clear hb4
  clear CC q1
  have q0 := x3.c0
  have q1 := x3.c1
  have hbA := below_alloc w4 (.cells #[.string ⟨m.cur.toArray⟩, .string ⟨m.amt.toArray⟩] 25)
  have CS := Lib.hid (msum A (some ⟨w4.heap.size, 0, none⟩) xs [m] n c 1 1 (w4.alloc (.cells #[.string ⟨m.cur.toArray⟩, .string ⟨m.amt.toArray⟩] 25)) (hG.below (bto hb hbA)) (HX.out.below (bto hb hbA)) hc (ml_one (heap_alloc_new w4 _) h1 h2) (Nat.le_refl _))
  replace hb := bto hb hbA
  clear hbA
  go_wp2_with fail
  refine CS.out.mono ?_
  rintro e w5 ⟨B, k, cp, rfl, k1, k2, k3, hb5⟩
  have HK1 := Lib.hid k1
  have HK3 := Lib.hid k3
  clear CS q0 q1 x3 k1 k3
  go_wp2
  go_ret2
  exact ⟨B, k, cp, by rw [HV.out]; rfl, by rw [HV.out]; exact HK1.out, k2, by rw [HV.out]; exact HK3.out, bto hb hb5⟩

set_option maxHeartbeats 4000000 in
set_option maxRecDepth 100000 in
theorem mSum (A B : Option Addr) (xs ys : List Mon) (n c n' c' : Nat) (w : World) (hG : Glob w) (hX : ML w A xs n) (hc : n ≤ c) (hY : ML w B ys n') (hc' : n' ≤ c') :
    Calls Tryz.prog 26 #[.slice A n c, .slice B n' c'] w (MonEnd (sumV xs ys).1 (sumV xs ys).2 w) := by
  have CB := Lib.hid (mCheckB hG hX c)
  have CC := Lib.hid (mCheckB hG hY c')
  have HX := Lib.hid hX
  have HY := Lib.hid hY
  have hb := Below.refl w.heap.size w
  clear hX hY
  by_cases g0 : bagE xs = 0
  rotate_left
  · have HV : Hid (sumV xs ys = ([], 1)) := if_pos g0
    have e1 : (bagE xs != 0) = true := bneq' (intbne g0)
    generalize bagE xs = E at *
    clear g0 CC
    go_enter Tryz.func26, Tryz.ntmps26
    go_wp2_with fail
    ((with_reducible refine (CB.out.of hG hb).mono ?_); rintro e w2 ⟨rfl, hb2⟩)
    replace hb := bto hb hb2
    clear hb2
    clear CB
    go_wp2
    go_ret2
    exact monEnd_no HV.out hb
  have HV0 : Hid (sumV xs ys = if ¬ bagE ys = 0 then ([], 1) else (smR xs ys, smE xs ys)) := if_neg (fun h => h g0)
  rw [g0] at CB
  clear g0
  by_cases g1 : bagE ys = 0
  rotate_left
  · have HV : Hid (sumV xs ys = ([], 1)) := HV0.out.trans (if_pos g1)
    have e1 : (bagE ys != 0) = true := bneq' (intbne g1)
    generalize bagE ys = E at *
    clear g1 HV0
    go_enter Tryz.func26, Tryz.ntmps26
    go_wp2_with fail
    ((with_reducible refine (CB.out.of hG hb).mono ?_); rintro e w2 ⟨rfl, hb2⟩)
    replace hb := bto hb hb2
    clear hb2
    clear CB
    go_wp2_with fail
    ((with_reducible refine (CC.out.of hG hb).mono ?_); rintro e w3 ⟨rfl, hb3⟩)
    replace hb := bto hb hb3
    clear hb3
    clear CC
    go_wp2
    go_ret2
    exact monEnd_no HV.out hb
  have HV : Hid (sumV xs ys = (smR xs ys, smE xs ys)) := HV0.out.trans (if_neg (fun h => h g1))
  rw [g1] at CC
  clear g1 HV0
  go_enter Tryz.func26, Tryz.ntmps26
  go_wp2_with fail
  ((with_reducible refine (CB.out.of hG hb).mono ?_); rintro e w2 ⟨rfl, hb2⟩)
  replace hb := bto hb hb2
  clear hb2
  clear CB
  go_wp2_with fail
  ((with_reducible refine (CC.out.of hG hb).mono ?_); rintro e w3 ⟨rfl, hb3⟩)
  replace hb := bto hb hb3
  clear hb3
  clear CC
  have CS := Lib.hid (msum A B xs ys n c n' c' w3 (hG.below hb) (HX.out.below hb) hc (HY.out.below hb) hc')
  go_wp2_with fail
  refine CS.out.mono ?_
  rintro e w5 ⟨B', k, cp, rfl, k1, k2, k3, hb5⟩
  have HK1 := Lib.hid k1
  have HK3 := Lib.hid k3
  clear CS k1 k3
  go_wp2
  go_ret2
  exact ⟨B', k, cp, by rw [HV.out]; rfl, by rw [HV.out]; exact HK1.out, k2, by rw [HV.out]; exact HK3.out, bto hb hb5⟩

theorem rowsM_set {xs : List Mon} {i : Nat} {x : Mon} (a : List UInt8) (h : xs[i]? = some x) : (rowsM xs).set (i * 2 + 1) (.string ⟨a.toArray⟩) = rowsM (xs.set i ⟨x.cur, a⟩) := by
  induction xs generalizing i with
  | nil => simp at h
  | cons y r ih =>
    cases i with
    | zero =>
      have : y = x := by simpa using h
      subst this; rfl
    | succ i =>
      have h2 := ih (i := i) (by simpa using h)
      rw [rowsM_cons, show (i + 1) * 2 + 1 = (i * 2 + 1) + 1 + 1 by omega]
      simp only [List.set_cons_succ]
      rw [h2]; rfl
def mixM (f : Mon → Mon) (ts : List Mon) (k : Nat) : List Mon := (ts.take k).map f ++ ts.drop k
theorem mixM_all {f : Mon → Mon} {ts : List Mon} {k : Nat} (h : ts.length ≤ k) : mixM f ts k = ts.map f := by
  unfold mixM; rw [List.take_of_length_le h, List.drop_of_length_le h, List.append_nil]
theorem mixM_at {f : Mon → Mon} {ts : List Mon} {k : Nat} {t : Mon} (h : ts[k]? = some t) : (mixM f ts k)[k]? = some t := by
  have hk := (List.getElem?_eq_some_iff.1 h).1
  unfold mixM
  rw [List.getElem?_append_right (by rw [List.length_map, List.length_take]; omega), List.length_map, List.length_take, Nat.min_eq_left (by omega), Nat.sub_self, List.getElem?_drop]
  exact h
theorem mixM_set {f : Mon → Mon} {ts : List Mon} {k : Nat} {t : Mon} (h : ts[k]? = some t) : (mixM f ts k).set k (f t) = mixM f ts (k + 1) := by
  obtain ⟨hk, rfl⟩ := List.getElem?_eq_some_iff.1 h
  unfold mixM
  have hl : ((ts.take k).map f).length = k := by rw [List.length_map, List.length_take]; omega
  rw [List.set_append_right _ _ (by rw [hl]; exact Nat.le_refl _), hl, Nat.sub_self, List.drop_eq_getElem_cons hk, List.set_cons_zero, List.take_succ_eq_append_getElem hk, List.map_append, List.append_assoc]
  rfl

set_option maxHeartbeats 4000000 in
set_option maxRecDepth 100000 in
theorem mNeg (A : Option Addr) (xs : List Mon) (n c : Nat) (w : World) (hG : Glob w) (hX : ML w A xs n) :
    Calls Tryz.prog 35 #[.slice A n c] w (MonEnd (negV xs).1 (negV xs).2 w) := by
  have CB := Lib.hid (mCheckB hG hX c)
  have HX := Lib.hid hX
  have hb := Below.refl w.heap.size w
  have hn1 := hX.sm
  clear hX
  by_cases g0 : bagE xs = 0
  rotate_left
  · have HV : Hid (negV xs = ([], 1)) := if_pos g0
    have e1 : (bagE xs != 0) = true := bneq' (intbne g0)
    generalize bagE xs = E at *
    clear g0
    go_enter Tryz.func35, Tryz.ntmps35
    go_wp2_with fail
    ((with_reducible refine (CB.out.of hG hb).mono ?_); rintro e w2 ⟨rfl, hb2⟩)
    replace hb := bto hb hb2
    clear hb2
    clear CB
    go_wp2
    go_ret2
    exact monEnd_no HV.out hb
  have HV : Hid (negV xs = (xs.map negM, 0)) := if_neg (fun h => h g0)
  rw [g0] at CB
  clear g0
  by_cases h0 : n = 0
  · subst h0
    have hx0 : xs = [] := List.eq_nil_of_length_eq_zero HX.out.len
    have HV2 : Hid (negV xs = ([], 0)) := by show _ = _; rw [HV.out, hx0]; rfl
    clear hx0 HV
    go_enter Tryz.func35, Tryz.ntmps35
    go_wp2_with fail
    ((with_reducible refine (CB.out.of hG hb).mono ?_); rintro e w2 ⟨rfl, hb2⟩)
    replace hb := bto hb hb2
    clear hb2
    have CK := Lib.hid (cloneM0 A c w2)
    clear CB
    go_wp2_with fail
    refine CK.out.mono ?_
    rintro e w3 ⟨B, cp, rfl, hb3⟩
    replace hb := bto hb hb3
    clear CK hb3
    go_wp2_with fail
    go_loopw [13] (fun iv wr => iv = .int .i64 0 ∧ wr = w3) (fun _ _ => 0)
    case atStart => exact ⟨rfl, rfl⟩
    case round =>
      obtain ⟨rfl, rfl⟩ := hrel
      go_wp2
      go_ret2
      exact ⟨B, 0, cp, by rw [HV2.out]; rfl, by rw [HV2.out]; rfl, Nat.zero_le _, by rw [HV2.out]; exact mon_nil _ _, hb⟩
  have CKn := Lib.hid (fun (w' : World) (hb : Below w.heap.size w w') => cloneM A xs n c w' HX.out.len (by omega) (by omega) (HX.out.below hb).mem)
  go_enter Tryz.func35, Tryz.ntmps35
  go_wp2_with fail
  ((with_reducible refine (CB.out.of hG hb).mono ?_); rintro e w2 ⟨rfl, hb2⟩)
  replace hb := bto hb hb2
  clear hb2
  clear CB
  go_wp2_with fail
  refine (CKn.out _ hb).mono ?_
  rintro e w3 ⟨g, cp, rfl, hcp, -, hwg, -, hrow, hb3⟩
  have hsz := hb.size
  have hgw : w.heap.size ≤ g := Nat.le_trans hsz hwg
  replace hb := bto hb hb3
  clear CKn hb3 hwg hsz
  go_wp2_with fail
  go_loopw [5, 13] (fun _ iv wr => ∃ k : Nat, k ≤ n ∧ iv = .int .i64 (k : Int) ∧ CRow wr g 25 (rowsM (mixM negM xs k)) ∧ Below w.heap.size w wr) (fun _ iv _ => n - (intOf iv).toNat)
  case atStart => exact ⟨0, Nat.zero_le _, rfl, hrow, hb⟩
  case round =>
    clear hrow hb
    obtain ⟨k, hk, rfl, hrow, hb⟩ := hrel
    by_cases hlt : k < n
    · obtain ⟨t, ht⟩ : ∃ t, xs[k]? = some t := ⟨_, List.getElem?_eq_getElem (by rw [HX.out.len]; omega)⟩
      have hs := (HX.out.str t (List.mem_of_getElem? ht)).2
      have CN := Lib.hid (riNeg (l := t.amt) (by omega) rfl)
      have hmx := mixM_at (f := negM) ht
      obtain ⟨-, hr1⟩ := rowsM_at hmx
      have q0 := hrow.cell hr1
      have HS2 := Lib.hid (show (rowsM (mixM negM xs k)).set (k * 2 + 1) (.string ⟨(canon (- val t.amt)).toArray⟩) = rowsM (mixM negM xs (k + 1)) from by rw [rowsM_set _ hmx]; exact congrArg rowsM (mixM_set ht))
      have HR := Lib.hid hrow
      generalize canon (- val t.amt) = C at *
      clear ht hmx hr1 hrow
      go_wp2_with fail
      ((with_reducible refine (CN.out.of hG hb).mono ?_); rintro e w4 ⟨rfl, hb4⟩)
      have hrow := HR.out.below hb4
      replace hb := bto hb hb4
      have HR2 := hrow.set (k * 2 + 1) (.string ⟨C.toArray⟩)
      rw [HS2.out] at HR2
      have q1 := hrow.free (k * 2 + 1)
      have q2 := hb4.cell (p := ⟨g, k * 2 + 1, none⟩) HR.out.lt
      rw [q0] at q2
      have HR3 := Lib.hid HR2
      have hb6 := Lib.hid (hb.setCell (p := ⟨g, k * 2 + 1, none⟩) hgw (.string ⟨C.toArray⟩))
      clear HR2 hrow HR hb4 CN q0 hb HS2
      go_wp2
      go_roundw
      case rel => exact ⟨k + 1, by omega, by go_num, HR3.out, hb6.out⟩
      case measure => simp [intOf]; omega
    · have HM := Lib.hid (mixM_all (f := negM) (ts := xs) (k := k) (by rw [HX.out.len]; omega))
      rw [HM.out] at hrow
      have HR := Lib.hid (crow_mon hrow)
      clear hrow
      go_wp2
      go_ret2
      exact ⟨_, n, cp, by rw [HV.out]; rfl, by rw [HV.out]; exact (List.length_map _).trans HX.out.len, hcp, by rw [HV.out]; exact HR.out, hb⟩

end Go.Proofs.YtdjjlbfleibhjaaGreatDoor
