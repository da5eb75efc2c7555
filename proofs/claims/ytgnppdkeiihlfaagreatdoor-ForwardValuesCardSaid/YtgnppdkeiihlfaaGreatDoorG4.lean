/- Texts put together: Mq Mt Mu Mv My Db Dc Dd De Bs Df Dg. -/
import Derived.Test.YtgnppdkeiihlfaaGreatDoorG3
import Derived.Test.YtgnppdkeiihlfaaGreatDoorGCc
import Derived.Test.YtgnppdkeiihlfaaGreatDoorGBe
import Derived.Shelf.Strings.Trim
import Derived.Shelf.Strconv.Itoa3
import Derived.Shelf.Strings.Search3
import Derived.Shelf.Strings.Prefix
import Derived.Lib.AppendIntMem
namespace Go.Proofs.YtgnppdkeiihlfaaGreatDoor
open Go.RowKit Num
open Go.Op (bytesLess)
def ordM : Option (List UInt8) → List UInt8 → Bool
  | none, _ => false
  | some p, c => !bytesLess p c
def bagL : Option (List UInt8) → List Mon → Int
  | _, [] => 0
  | o, x :: r => if ¬ codeB x.cur = true then 23 else if ¬ x.amt = canon (val x.amt) then 1 else if x.amt = [] then 11 else if ordM o x.cur = true then 8 else bagL (some x.cur) r
def bagE (ts : List Mon) : Int := if 16 < ts.length then 4 else bagL none ts
def prevC (ts : List Mon) : Nat → Option (List UInt8)
  | 0 => none
  | k + 1 => (ts[k]?).map (·.cur)
theorem bagL_step {ts : List Mon} {k : Nat} {x : Mon} (h : ts[k]? = some x) : bagL (prevC ts k) (ts.drop k) = if ¬ codeB x.cur = true then 23 else if ¬ x.amt = canon (val x.amt) then 1 else if x.amt = [] then 11 else if ordM (prevC ts k) x.cur = true then 8 else bagL (prevC ts (k + 1)) (ts.drop (k + 1)) := by
  obtain ⟨hk, rfl⟩ := List.getElem?_eq_some_iff.1 h
  have e : prevC ts (k + 1) = some ts[k].cur := by show (ts[k]?).map (·.cur) = _; rw [h]; rfl
  rw [List.drop_eq_getElem_cons hk, e]; rfl
theorem bagL_end {ts : List Mon} {k : Nat} (h : ts.length ≤ k) : bagL (prevC ts k) (ts.drop k) = 0 := by rw [List.drop_of_length_le h]; cases prevC ts k <;> rfl
def Codes (xs : List Mon) : Prop := ∀ x ∈ xs, codeB x.cur = true
theorem bagL_ok : ∀ (xs : List Mon) (o : Option (List UInt8)), bagL o xs = 0 → (∀ p, o = some p → ∀ x ∈ xs, bytesLess p x.cur = true) ∧ Srt xs ∧ Can xs ∧ Codes xs
  | [], _, _ => ⟨fun _ _ x hx => (by cases hx), List.Pairwise.nil, fun x hx => (by cases hx), fun x hx => (by cases hx)⟩
  | x :: r, o, h => by
    have h : (if ¬ codeB x.cur = true then (23 : Int) else if ¬ x.amt = canon (val x.amt) then 1 else if x.amt = [] then 11 else if ordM o x.cur = true then 8 else bagL (some x.cur) r) = 0 := h
    by_cases g1 : codeB x.cur = true
    rotate_left
    · rw [if_pos g1] at h; cases h
    by_cases g2 : x.amt = canon (val x.amt)
    rotate_left
    · rw [if_neg (fun h => h g1), if_pos g2] at h; cases h
    by_cases g3 : x.amt = []
    · rw [if_neg (fun h => h g1), if_neg (fun h => h g2), if_pos g3] at h; cases h
    by_cases g4 : ordM o x.cur = true
    · rw [if_neg (fun h => h g1), if_neg (fun h => h g2), if_neg g3, if_pos g4] at h; cases h
    rw [if_neg (fun h => h g1), if_neg (fun h => h g2), if_neg g3, if_neg g4] at h
    obtain ⟨i1, i2, i3, i4⟩ := bagL_ok r (some x.cur) h
    have hx : ∀ p, o = some p → bytesLess p x.cur = true := fun p hp => by
      subst hp
      have g5 : ¬ (!bytesLess p x.cur) = true := g4
      cases hb : bytesLess p x.cur with
      | true => rfl
      | false => rw [hb] at g5; exact absurd rfl g5
    refine ⟨fun p hp y hy => ?_, List.pairwise_cons.2 ⟨fun y hy => i1 _ rfl y hy, i2⟩, can_cons ⟨g2, g3⟩ i3, fun y hy => ?_⟩
    · rcases List.mem_cons.1 hy with rfl | hy
      · exact hx p hp
      · exact ltS_trans (hx p hp) (i1 _ rfl y hy)
    · rcases List.mem_cons.1 hy with rfl | hy
      · exact g1
      · exact i4 y hy
theorem bagL_mk : ∀ (xs : List Mon) (o : Option (List UInt8)), (∀ p, o = some p → ∀ x ∈ xs, bytesLess p x.cur = true) → Srt xs → Can xs → Codes xs → bagL o xs = 0
  | [], o, _, _, _, _ => by cases o <;> rfl
  | x :: r, o, h1, h2, h3, h4 => by
    have hx := h3 x (List.mem_cons_self ..)
    have ho : ¬ ordM o x.cur = true := by
      cases o with
      | none => exact fun h => by cases h
      | some p =>
        show ¬ (!bytesLess p x.cur) = true
        rw [h1 p rfl x (List.mem_cons_self ..)]; decide
    show (if ¬ codeB x.cur = true then (23 : Int) else if ¬ x.amt = canon (val x.amt) then 1 else if x.amt = [] then 11 else if ordM o x.cur = true then 8 else bagL (some x.cur) r) = 0
    rw [if_neg (fun h => h (h4 x (List.mem_cons_self ..))), if_neg (fun h => h hx.1), if_neg hx.2, if_neg ho]
    exact bagL_mk r (some x.cur) (fun p hp y hy => by injection hp with hp; subst hp; exact srt_head h2 y hy) (srt_tail h2) (can_tail h3) (fun y hy => h4 y (List.mem_cons_of_mem _ hy))
theorem bagE_ok {xs : List Mon} (h : bagE xs = 0) : Bag xs ∧ Codes xs ∧ xs.length ≤ 16 := by
  unfold bagE at h
  by_cases h0 : 16 < xs.length
  · rw [if_pos h0] at h; cases h
  rw [if_neg h0] at h
  obtain ⟨-, h1, h2, h3⟩ := bagL_ok xs none h
  exact ⟨⟨h1, h2⟩, h3, by omega⟩
theorem bagE_mk {xs : List Mon} (h : Bag xs) (h2 : Codes xs) (h3 : xs.length ≤ 16) : bagE xs = 0 := by
  unfold bagE
  rw [if_neg (by omega)]
  exact bagL_mk xs none (fun p hp => by cases hp) h.srt h.can h2
structure ML (w : World) (A : Option Addr) (ts : List Mon) (n : Nat) : Prop where
  len : ts.length = n
  sm : n ≤ 1000
  str : ∀ t ∈ ts, t.cur.length ≤ 1000 ∧ t.amt.length ≤ 1000
  mem : MonAt w A ts
theorem ML.below {w w' : World} {A : Option Addr} {ts : List Mon} {n : Nat} (h : ML w A ts n) (hb : Below w.heap.size w w') : ML w' A ts n := ⟨h.len, h.sm, h.str, h.mem.below hb⟩
set_option maxHeartbeats 8000000 in
set_option maxRecDepth 100000 in
theorem mCheck (A : Option Addr) (ts : List Mon) (n c : Nat) (w : World) (hG : Glob w) (h : ML w A ts n) :
    Calls Tryz.prog 79 #[.slice A n c] w fun e w' => e = .returned (.int .i64 (bagE ts)) ∧ Below w.heap.size w w' := by
  obtain ⟨hn, hn67, hs, h⟩ := h
  by_cases h4 : 16 < n
  · have HV : Hid (bagE ts = 4) := by show _ = _; unfold bagE; rw [if_pos (by omega)]
    have e1 : decide (16 < n) = true := decide_eq_true h4
    clear hn hs h
    go_enter Tryz.func79, Tryz.ntmps79
    go_wp2
    go_ret
    exact ⟨reti HV.out.symm, Below.refl _ _⟩
  have e1 : decide (16 < n) = false := decide_eq_false h4
  have HE : Hid (bagE ts = bagL none ts) := by show _ = _; unfold bagE; rw [if_neg (by omega)]
  have HI := Lib.hid h
  have HS := Lib.hid hs
  have HNn := Lib.hid hn
  clear h hn hs
  go_enter Tryz.func79, Tryz.ntmps79
  go_wp2_with fail
  clear e1
  go_loopw [10] (fun iv wr => ∃ k : Nat, k ≤ n ∧ iv = .int .i64 (k : Int) ∧ Hid (bagL none ts = bagL (prevC ts k) (ts.drop k)) ∧ Below w.heap.size w wr) (fun iv _ => n - (intOf iv).toNat)
  case atStart => exact ⟨0, Nat.zero_le _, rfl, rfl, Below.refl _ _⟩
  case round =>
    obtain ⟨k, hk, rfl, HK, hb⟩ := hrel
    have hnl := HNn.out
    by_cases hlk : k < n
    rotate_left
    · have HV : Hid (bagE ts = 0) := by show _ = _; rw [HE.out, HK.out, bagL_end (by omega)]
      clear HK HE HI HS
      go_wp2
      go_ret
      exact ⟨reti HV.out.symm, hb⟩
    obtain ⟨t, ht⟩ : ∃ t, ts[k]? = some t := ⟨_, List.getElem?_eq_getElem (by omega)⟩
    obtain ⟨b, o, hA, hbs, p0, p1⟩ := (HI.out.below hb) k t ht
    subst hA
    obtain ⟨hv40, hf40⟩ := HS.out t (List.mem_of_getElem? ht)
    have HN := Lib.hid (bagL_step ht)
    have CD := Lib.hid (mCode (l := t.cur) (by omega))
    have hbA := below_alloc wr (.cells #[.string ⟨t.cur.toArray⟩, .string ⟨t.amt.toArray⟩] 48)
    have x4 := FBox.new wr (.string ⟨t.cur.toArray⟩) (.string ⟨t.amt.toArray⟩) 48
    replace hb := bto hb hbA
    have hbs := Nat.lt_of_lt_of_le hbs hbA.size
    clear hbA
    clear ht
    by_cases gd : codeB t.cur = true
    rotate_left
    · have HG := Lib.hid gd
      have e1 := not_true_b gd
      rw [e1] at CD
      clear gd e1
      skip
      have q0 := x4.c0
      have q1 := x4.c1
      go_wp2_with fail
      ((with_reducible refine (CD.out.of hG hb).mono ?_); rintro e w10 ⟨rfl, hb10⟩)
      clear q0 q1
      replace x4 := x4.below hb10
      replace hbs := Nat.lt_of_lt_of_le hbs hb10.size
      replace hb := bto hb hb10
      clear hb10
      have HV : Hid (bagE ts = 23) := by show _ = _; rw [HE.out, HK.out, HN.out, if_pos HG.out]
      clear HK HN HE HI HS
      have q0 := x4.c0
      have q1 := x4.c1
      go_wp2
      go_ret
      exact ⟨reti HV.out.symm, hb⟩
    have HGd := Lib.hid (fun (h : ¬ codeB t.cur = true) => h gd)
    rw [gd] at CD
    clear gd
    have q0 := x4.c0
    have q1 := x4.c1
    go_wp2_with fail
    ((with_reducible refine (CD.out.of hG hb).mono ?_); rintro e w11 ⟨rfl, hb11⟩)
    clear q0 q1
    replace x4 := x4.below hb11
    replace hbs := Nat.lt_of_lt_of_le hbs hb11.size
    replace hb := bto hb hb11
    clear hb11
    clear CD
    clear p0 p1
    by_cases gv : t.amt = canon (val t.amt)
    rotate_left
    · have CC := Lib.hid (riCheck (l := t.amt) (c := 1) (by omega) (if_neg gv))
      have HB := Lib.hid gv
      clear gv
      have q0 := x4.c0
      have q1 := x4.c1
      go_wp2_with fail
      ((with_reducible refine (CC.out.of hG hb).mono ?_); rintro e w12 ⟨rfl, hb12⟩)
      clear q0 q1
      replace x4 := x4.below hb12
      replace hbs := Nat.lt_of_lt_of_le hbs hb12.size
      replace hb := bto hb hb12
      clear hb12
      have HV : Hid (bagE ts = 1) := by show _ = _; rw [HE.out, HK.out, HN.out, if_neg HGd.out, if_pos HB.out]
      clear HK HN HE HI HS
      have q0 := x4.c0
      have q1 := x4.c1
      go_wp2
      go_ret
      exact ⟨reti HV.out.symm, hb⟩
    have CC := Lib.hid (riCheck (l := t.amt) (c := 0) (by omega) (if_pos gv))
    have HGv := Lib.hid (fun (h : ¬ t.amt = canon (val t.amt)) => h gv)
    clear gv
    have q0 := x4.c0
    have q1 := x4.c1
    go_wp2_with fail
    ((with_reducible refine (CC.out.of hG hb).mono ?_); rintro e w13 ⟨rfl, hb13⟩)
    clear q0 q1
    replace x4 := x4.below hb13
    replace hbs := Nat.lt_of_lt_of_le hbs hb13.size
    replace hb := bto hb hb13
    clear hb13
    clear CC
    by_cases ge : t.amt = []
    · have HC := Lib.hid ge
      have e1 : (t.amt == []) = true := by rw [beq_iff_eq]; exact ge
      have e2 : (t.amt).isEmpty = true := by rw [List.isEmpty_iff]; exact ge
      clear ge
      have HV : Hid (bagE ts = 11) := by show _ = _; rw [HE.out, HK.out, HN.out, if_neg HGd.out, if_neg HGv.out, if_pos HC.out]
      clear HK HN HE HI HS
      have q0 := x4.c0
      have q1 := x4.c1
      go_wp2
      go_ret
      exact ⟨reti HV.out.symm, hb⟩
    have HC := Lib.hid ge
    have e1 : (t.amt == []) = false := by rw [beq_eq_false_iff_ne]; exact ge
    have e2 : (t.amt).isEmpty = false := by rw [List.isEmpty_eq_false_iff]; exact ge
    clear ge
    have q0 := x4.c0
    have q1 := x4.c1
    go_wp2_with fail
    clear q0 q1
    clear e1 e2
    cases k with
    | zero =>
      have HV : Hid (bagL none ts = bagL (prevC ts (0 + 1)) (ts.drop (0 + 1))) := by show _ = _; rw [HK.out, HN.out, if_neg HGd.out, if_neg HGv.out, if_neg HC.out, if_neg (show ¬ ordM (prevC ts 0) t.cur = true from fun h => by cases h)]
      clear HK HN
      refine wp_region_kept (by kernel_rfl) (by kernel_rfl) ?_
      iterate 3
        refine kept_val _ (fun _ => rfl) (fun ρ w hw => by go_simp; first | done | with_reducible rfl) ?_
        simp only [Act.put, StT, StZ, StS, Nat.reduceAdd]
      iterate 9
        refine kept_off (fun _ => rfl) ?_
        simp only [Act.put, StT, StZ, StS, Nat.reduceAdd]
      iterate 2
        refine kept_val _ (fun _ => rfl) (fun ρ w hw => by go_simp; first | done | with_reducible rfl) ?_
        simp only [Act.put, StT, StZ, StS, Nat.reduceAdd]
      refine kept_end (fun ρ w20 hF => ?_)
      have hbF := hF.below
      clear hF
      replace x4 := x4.below hbF
      replace hb := bto hb hbF
      clear hbF
      go_wp2
      go_roundw
      case rel => exact ⟨0 + 1, by omega, by go_num, HV.out, hb⟩
      case measure => simp [intOf]; omega
    | succ k' =>
      obtain ⟨u, hu⟩ : ∃ u, ts[k']? = some u := ⟨_, List.getElem?_eq_getElem (by omega)⟩
      obtain ⟨b', o', hA', hbs', r0, -⟩ := (HI.out.below hb) k' u hu
      obtain ⟨rfl, rfl⟩ : b = b' ∧ o = o' := by injection hA' with hA'; injection hA' with h1 h2; exact ⟨h1, h2⟩
      have hpd : prevC ts (k' + 1) = some u.cur := by show (ts[k']?).map (·.cur) = _; rw [hu]; rfl
      have HPd := Lib.hid hpd
      have hwr : IntKind.i64.wrap (k' : Int) = (k' : Int) := Go.IntWalk.i64_in _ (by omega)
      have hkn : k' < n := by omega
      have kk1 : (0 : Int) ≤ (k' : Int) + 1 := by omega
      have kk2 : (k' : Int) + 1 < (n : Int) := by omega
      clear hu hA' hpd hbs'
      cases hlt : bytesLess u.cur t.cur
      · have HB : Hid (ordM (prevC ts (k' + 1)) t.cur = true) := by show _ = _; rw [HPd.out]; show (!bytesLess u.cur t.cur) = true; rw [hlt]; rfl
        refine wp_region_kept (by kernel_rfl) (by kernel_rfl) ?_
        refine kept_val _ (fun _ => rfl) (fun ρ w hw => by go_simp; first | done | with_reducible rfl) ?_
        simp only [Act.put, StT, StZ, StS, Nat.reduceAdd]
        refine kept_val (.bool true) (fun _ => rfl) (fun ρ w hw => by go_simp; first | done | omega | (simp; omega)) ?_
        iterate 6
          simp only [Act.put, StT, StZ, StS, Nat.reduceAdd]
          refine kept_val _ (fun _ => rfl) (fun ρ w hw => by go_simp; first | done | with_reducible rfl) ?_
        simp only [Act.put, StT, StZ, StS, Nat.reduceAdd]
        refine kept_val _ (fun _ => rfl) (fun ρ w hw => by have q0 := (hw.cell (p := ⟨b, o + k' * 2, none⟩) hbs).trans r0; go_simp; first | done | with_reducible rfl) ?_
        simp only [Act.put, StT, StZ, StS, Nat.reduceAdd]
        refine kept_val _ (fun _ => rfl) (fun ρ w hw => by go_simp; first | done | with_reducible rfl) ?_
        simp only [Act.put, StT, StZ, StS, Nat.reduceAdd]
        refine kept_val _ (fun _ => rfl) (fun ρ w hw => by have q0 := (x4.below hw).c0; go_simp; first | done | with_reducible rfl) ?_
        iterate 3
          simp only [Act.put, StT, StZ, StS, Nat.reduceAdd]
          refine kept_val _ (fun _ => rfl) (fun ρ w hw => by go_simp; first | done | with_reducible rfl) ?_
        simp only [Act.put, StT, StZ, StS, Nat.reduceAdd]
        refine kept_end (fun ρ w20 hF => ?_)
        have hbF := hF.below
        clear hF
        replace x4 := x4.below hbF
        replace hb := bto hb hbF
        clear hbF
        clear r0
        have HV : Hid (bagE ts = 8) := by show _ = _; rw [HE.out, HK.out, HN.out, if_neg HGd.out, if_neg HGv.out, if_neg HC.out, if_pos HB.out]
        clear HK HN HE HI HS
        have q0 := x4.c0
        have q1 := x4.c1
        go_wp2
        go_ret
        exact ⟨reti HV.out.symm, hb⟩
      · have HB : Hid (¬ ordM (prevC ts (k' + 1)) t.cur = true) := by show ¬ _; rw [HPd.out]; show ¬ (!bytesLess u.cur t.cur) = true; rw [hlt]; decide
        have HV : Hid (bagL none ts = bagL (prevC ts ((k' + 1) + 1)) (ts.drop ((k' + 1) + 1))) := by show _ = _; rw [HK.out, HN.out, if_neg HGd.out, if_neg HGv.out, if_neg HC.out, if_neg HB.out]
        clear HK HN
        refine wp_region_kept (by kernel_rfl) (by kernel_rfl) ?_
        refine kept_val _ (fun _ => rfl) (fun ρ w hw => by go_simp; first | done | with_reducible rfl) ?_
        simp only [Act.put, StT, StZ, StS, Nat.reduceAdd]
        refine kept_val (.bool true) (fun _ => rfl) (fun ρ w hw => by go_simp; first | done | omega | (simp; omega)) ?_
        iterate 6
          simp only [Act.put, StT, StZ, StS, Nat.reduceAdd]
          refine kept_val _ (fun _ => rfl) (fun ρ w hw => by go_simp; first | done | with_reducible rfl) ?_
        simp only [Act.put, StT, StZ, StS, Nat.reduceAdd]
        refine kept_val _ (fun _ => rfl) (fun ρ w hw => by have q0 := (hw.cell (p := ⟨b, o + k' * 2, none⟩) hbs).trans r0; go_simp; first | done | with_reducible rfl) ?_
        simp only [Act.put, StT, StZ, StS, Nat.reduceAdd]
        refine kept_val _ (fun _ => rfl) (fun ρ w hw => by go_simp; first | done | with_reducible rfl) ?_
        simp only [Act.put, StT, StZ, StS, Nat.reduceAdd]
        refine kept_val _ (fun _ => rfl) (fun ρ w hw => by have q0 := (x4.below hw).c0; go_simp; first | done | with_reducible rfl) ?_
        iterate 3
          simp only [Act.put, StT, StZ, StS, Nat.reduceAdd]
          refine kept_val _ (fun _ => rfl) (fun ρ w hw => by go_simp; first | done | with_reducible rfl) ?_
        simp only [Act.put, StT, StZ, StS, Nat.reduceAdd]
        refine kept_end (fun ρ w20 hF => ?_)
        have hbF := hF.below
        clear hF
        replace x4 := x4.below hbF
        replace hb := bto hb hbF
        clear hbF
        clear r0
        go_wp2
        go_roundw
        case rel => exact ⟨(k' + 1) + 1, by omega, by go_num, HV.out, hb⟩
        case measure => simp [intOf]; omega
set_option maxHeartbeats 8000000 in
set_option maxRecDepth 100000 in
theorem jBag (A : Option Addr) (ts : List Mon) (n c : Nat) (w : World) (hG : Glob w) (h : ML w A ts n) :
    Calls Tryz.prog 155 #[.slice A n c] w fun e w' => e = .returned (.int .i64 (bagE ts)) ∧ Below w.heap.size w w' := by
  obtain ⟨hn, hn67, hs, h⟩ := h
  by_cases h4 : 16 < n
  · have HV : Hid (bagE ts = 4) := by show _ = _; unfold bagE; rw [if_pos (by omega)]
    have e1 : decide (16 < n) = true := decide_eq_true h4
    clear hn hs h
    go_enter Tryz.func155, Tryz.ntmps155
    go_wp2
    go_ret
    exact ⟨reti HV.out.symm, Below.refl _ _⟩
  have e1 : decide (16 < n) = false := decide_eq_false h4
  have HE : Hid (bagE ts = bagL none ts) := by show _ = _; unfold bagE; rw [if_neg (by omega)]
  have HI := Lib.hid h
  have HS := Lib.hid hs
  have HNn := Lib.hid hn
  clear h hn hs
  go_enter Tryz.func155, Tryz.ntmps155
  go_wp2_with fail
  clear e1
  go_loopw [3] (fun iv wr => ∃ k : Nat, k ≤ n ∧ iv = .int .i64 (k : Int) ∧ Hid (bagL none ts = bagL (prevC ts k) (ts.drop k)) ∧ Below w.heap.size w wr) (fun iv _ => n - (intOf iv).toNat)
  case atStart => exact ⟨0, Nat.zero_le _, rfl, rfl, Below.refl _ _⟩
  case round =>
    obtain ⟨k, hk, rfl, HK, hb⟩ := hrel
    have hnl := HNn.out
    by_cases hlk : k < n
    rotate_left
    · have HV : Hid (bagE ts = 0) := by show _ = _; rw [HE.out, HK.out, bagL_end (by omega)]
      clear HK HE HI HS
      go_wp2
      go_ret
      exact ⟨reti HV.out.symm, hb⟩
    obtain ⟨t, ht⟩ : ∃ t, ts[k]? = some t := ⟨_, List.getElem?_eq_getElem (by omega)⟩
    obtain ⟨b, o, hA, hbs, p0, p1⟩ := (HI.out.below hb) k t ht
    subst hA
    obtain ⟨hv40, hf40⟩ := HS.out t (List.mem_of_getElem? ht)
    have HN := Lib.hid (bagL_step ht)
    have CD := Lib.hid (jCode5L (l := t.cur) (by omega))
    clear ht
    by_cases gd : codeB t.cur = true
    rotate_left
    · have HG := Lib.hid gd
      have e1 := not_true_b gd
      rw [e1] at CD
      clear gd e1
      go_wp2_with fail
      ((with_reducible refine (CD.out.of hG hb).mono ?_); rintro e w10 ⟨rfl, hb10⟩)
      replace p0 := (hb10.cell (p := ⟨b, o + k * 2, none⟩) hbs).trans p0
      replace p1 := (hb10.cell (p := ⟨b, o + k * 2 + 1, none⟩) hbs).trans p1
      replace hbs := Nat.lt_of_lt_of_le hbs hb10.size
      replace hb := bto hb hb10
      clear hb10
      have HV : Hid (bagE ts = 23) := by show _ = _; rw [HE.out, HK.out, HN.out, if_pos HG.out]
      clear HK HN HE HI HS
      go_wp2
      go_ret
      exact ⟨reti HV.out.symm, hb⟩
    have HGd := Lib.hid (fun (h : ¬ codeB t.cur = true) => h gd)
    rw [gd] at CD
    clear gd
    go_wp2_with fail
    ((with_reducible refine (CD.out.of hG hb).mono ?_); rintro e w11 ⟨rfl, hb11⟩)
    replace p0 := (hb11.cell (p := ⟨b, o + k * 2, none⟩) hbs).trans p0
    replace p1 := (hb11.cell (p := ⟨b, o + k * 2 + 1, none⟩) hbs).trans p1
    replace hbs := Nat.lt_of_lt_of_le hbs hb11.size
    replace hb := bto hb hb11
    clear hb11
    clear CD
    by_cases gv : t.amt = canon (val t.amt)
    rotate_left
    · have CC := Lib.hid (qCheck (l := t.amt) (c := 1) (by omega) (if_neg gv))
      have HB := Lib.hid gv
      clear gv
      go_wp2_with fail
      ((with_reducible refine (CC.out.of hG hb).mono ?_); rintro e w12 ⟨rfl, hb12⟩)
      replace p0 := (hb12.cell (p := ⟨b, o + k * 2, none⟩) hbs).trans p0
      replace p1 := (hb12.cell (p := ⟨b, o + k * 2 + 1, none⟩) hbs).trans p1
      replace hbs := Nat.lt_of_lt_of_le hbs hb12.size
      replace hb := bto hb hb12
      clear hb12
      have HV : Hid (bagE ts = 1) := by show _ = _; rw [HE.out, HK.out, HN.out, if_neg HGd.out, if_pos HB.out]
      clear HK HN HE HI HS
      go_wp2
      go_ret
      exact ⟨reti HV.out.symm, hb⟩
    have CC := Lib.hid (qCheck (l := t.amt) (c := 0) (by omega) (if_pos gv))
    have HGv := Lib.hid (fun (h : ¬ t.amt = canon (val t.amt)) => h gv)
    clear gv
    go_wp2_with fail
    ((with_reducible refine (CC.out.of hG hb).mono ?_); rintro e w13 ⟨rfl, hb13⟩)
    replace p0 := (hb13.cell (p := ⟨b, o + k * 2, none⟩) hbs).trans p0
    replace p1 := (hb13.cell (p := ⟨b, o + k * 2 + 1, none⟩) hbs).trans p1
    replace hbs := Nat.lt_of_lt_of_le hbs hb13.size
    replace hb := bto hb hb13
    clear hb13
    clear CC
    by_cases ge : t.amt = []
    · have HC := Lib.hid ge
      have e1 : (t.amt == []) = true := by rw [beq_iff_eq]; exact ge
      have e2 : (t.amt).isEmpty = true := by rw [List.isEmpty_iff]; exact ge
      clear ge
      have HV : Hid (bagE ts = 11) := by show _ = _; rw [HE.out, HK.out, HN.out, if_neg HGd.out, if_neg HGv.out, if_pos HC.out]
      clear HK HN HE HI HS
      go_wp2
      go_ret
      exact ⟨reti HV.out.symm, hb⟩
    have HC := Lib.hid ge
    have e1 : (t.amt == []) = false := by rw [beq_eq_false_iff_ne]; exact ge
    have e2 : (t.amt).isEmpty = false := by rw [List.isEmpty_eq_false_iff]; exact ge
    clear ge
    go_wp2_with fail
    clear e1 e2
    cases k with
    | zero =>
      have HV : Hid (bagL none ts = bagL (prevC ts (0 + 1)) (ts.drop (0 + 1))) := by show _ = _; rw [HK.out, HN.out, if_neg HGd.out, if_neg HGv.out, if_neg HC.out, if_neg (show ¬ ordM (prevC ts 0) t.cur = true from fun h => by cases h)]
      clear HK HN
      refine wp_region_kept (by kernel_rfl) (by kernel_rfl) ?_
      iterate 3
        refine kept_val _ (fun _ => rfl) (fun ρ w hw => by go_simp; first | done | with_reducible rfl) ?_
        simp only [Act.put, StT, StZ, StS, Nat.reduceAdd]
      iterate 12
        refine kept_off (fun _ => rfl) ?_
        simp only [Act.put, StT, StZ, StS, Nat.reduceAdd]
      refine kept_val _ (fun _ => rfl) (fun ρ w hw => by go_simp; first | done | with_reducible rfl) ?_
      simp only [Act.put, StT, StZ, StS, Nat.reduceAdd]
      refine kept_end (fun ρ w20 hF => ?_)
      have hbF := hF.below
      clear hF
      replace hb := bto hb hbF
      clear hbF
      go_wp2
      go_roundw
      case rel => exact ⟨0 + 1, by omega, by go_num, HV.out, hb⟩
      case measure => simp [intOf]; omega
    | succ k' =>
      obtain ⟨u, hu⟩ : ∃ u, ts[k']? = some u := ⟨_, List.getElem?_eq_getElem (by omega)⟩
      obtain ⟨b', o', hA', hbs', r0, -⟩ := (HI.out.below hb) k' u hu
      obtain ⟨rfl, rfl⟩ : b = b' ∧ o = o' := by injection hA' with hA'; injection hA' with h1 h2; exact ⟨h1, h2⟩
      have hpd : prevC ts (k' + 1) = some u.cur := by show (ts[k']?).map (·.cur) = _; rw [hu]; rfl
      have HPd := Lib.hid hpd
      have hwr : IntKind.i64.wrap (k' : Int) = (k' : Int) := Go.IntWalk.i64_in _ (by omega)
      have hkn : k' < n := by omega
      have kk1 : (0 : Int) ≤ (k' : Int) + 1 := by omega
      have kk2 : (k' : Int) + 1 < (n : Int) := by omega
      clear hu hA' hpd hbs'
      cases hlt : bytesLess u.cur t.cur
      · have HB : Hid (ordM (prevC ts (k' + 1)) t.cur = true) := by show _ = _; rw [HPd.out]; show (!bytesLess u.cur t.cur) = true; rw [hlt]; rfl
        have hge1 : bytesLess t.cur u.cur = true ∨ t.cur = u.cur := by
          rcases ltS_tri t.cur u.cur with h | h | h
          · exact .inl h
          · exact .inr h
          · rw [h] at hlt; cases hlt
        clear hlt
        rcases hge1 with hge1 | hge1
        · refine wp_region_kept (by kernel_rfl) (by kernel_rfl) ?_
          refine kept_val _ (fun _ => rfl) (fun ρ w hw => by go_simp; first | done | with_reducible rfl) ?_
          simp only [Act.put, StT, StZ, StS, Nat.reduceAdd]
          refine kept_val (.bool true) (fun _ => rfl) (fun ρ w hw => by go_simp; first | done | omega | (simp; omega)) ?_
          iterate 5
            simp only [Act.put, StT, StZ, StS, Nat.reduceAdd]
            refine kept_val _ (fun _ => rfl) (fun ρ w hw => by go_simp; first | done | with_reducible rfl) ?_
          simp only [Act.put, StT, StZ, StS, Nat.reduceAdd]
          refine kept_val _ (fun _ => rfl) (fun ρ w hw => by have q0 := (hw.cell (p := ⟨b, o + (k' + 1) * 2, none⟩) hbs).trans p0; go_simp; first | done | with_reducible rfl) ?_
          iterate 5
            simp only [Act.put, StT, StZ, StS, Nat.reduceAdd]
            refine kept_val _ (fun _ => rfl) (fun ρ w hw => by go_simp; first | done | with_reducible rfl) ?_
          simp only [Act.put, StT, StZ, StS, Nat.reduceAdd]
          refine kept_val _ (fun _ => rfl) (fun ρ w hw => by have q0 := (hw.cell (p := ⟨b, o + k' * 2, none⟩) hbs).trans r0; go_simp; first | done | with_reducible rfl) ?_
          iterate 2
            simp only [Act.put, StT, StZ, StS, Nat.reduceAdd]
            refine kept_val _ (fun _ => rfl) (fun ρ w hw => by go_simp; first | done | with_reducible rfl) ?_
          simp only [Act.put, StT, StZ, StS, Nat.reduceAdd]
          refine kept_end (fun ρ w20 hF => ?_)
          have hbF := hF.below
          clear hF
          replace hb := bto hb hbF
          clear hbF
          clear r0
          have HV : Hid (bagE ts = 8) := by show _ = _; rw [HE.out, HK.out, HN.out, if_neg HGd.out, if_neg HGv.out, if_neg HC.out, if_pos HB.out]
          clear HK HN HE HI HS
          go_wp2
          go_ret
          exact ⟨reti HV.out.symm, hb⟩
        · have hge2 : bytesLess t.cur u.cur = false := by rw [hge1]; exact ltS_irr _
          have hge3 : (t.cur == u.cur) = true := by rw [beq_iff_eq]; exact hge1
          clear hge1
          refine wp_region_kept (by kernel_rfl) (by kernel_rfl) ?_
          refine kept_val _ (fun _ => rfl) (fun ρ w hw => by go_simp; first | done | with_reducible rfl) ?_
          simp only [Act.put, StT, StZ, StS, Nat.reduceAdd]
          refine kept_val (.bool true) (fun _ => rfl) (fun ρ w hw => by go_simp; first | done | omega | (simp; omega)) ?_
          iterate 5
            simp only [Act.put, StT, StZ, StS, Nat.reduceAdd]
            refine kept_val _ (fun _ => rfl) (fun ρ w hw => by go_simp; first | done | with_reducible rfl) ?_
          simp only [Act.put, StT, StZ, StS, Nat.reduceAdd]
          refine kept_val _ (fun _ => rfl) (fun ρ w hw => by have q0 := (hw.cell (p := ⟨b, o + (k' + 1) * 2, none⟩) hbs).trans p0; go_simp; first | done | with_reducible rfl) ?_
          iterate 5
            simp only [Act.put, StT, StZ, StS, Nat.reduceAdd]
            refine kept_val _ (fun _ => rfl) (fun ρ w hw => by go_simp; first | done | with_reducible rfl) ?_
          simp only [Act.put, StT, StZ, StS, Nat.reduceAdd]
          refine kept_val _ (fun _ => rfl) (fun ρ w hw => by have q0 := (hw.cell (p := ⟨b, o + k' * 2, none⟩) hbs).trans r0; go_simp; first | done | with_reducible rfl) ?_
          iterate 2
            simp only [Act.put, StT, StZ, StS, Nat.reduceAdd]
            refine kept_val _ (fun _ => rfl) (fun ρ w hw => by go_simp; first | done | with_reducible rfl) ?_
          simp only [Act.put, StT, StZ, StS, Nat.reduceAdd]
          refine kept_end (fun ρ w20 hF => ?_)
          have hbF := hF.below
          clear hF
          replace hb := bto hb hbF
          clear hbF
          clear r0
          have HV : Hid (bagE ts = 8) := by show _ = _; rw [HE.out, HK.out, HN.out, if_neg HGd.out, if_neg HGv.out, if_neg HC.out, if_pos HB.out]
          clear HK HN HE HI HS
          go_wp2
          go_ret
          exact ⟨reti HV.out.symm, hb⟩
      · have HB : Hid (¬ ordM (prevC ts (k' + 1)) t.cur = true) := by show ¬ _; rw [HPd.out]; show ¬ (!bytesLess u.cur t.cur) = true; rw [hlt]; decide
        have hge1 := ltS_asym hlt
        have hge2 : (t.cur == u.cur) = false := by rw [beq_eq_false_iff_ne]; exact (ltS_ne hlt).symm
        have HV : Hid (bagL none ts = bagL (prevC ts ((k' + 1) + 1)) (ts.drop ((k' + 1) + 1))) := by show _ = _; rw [HK.out, HN.out, if_neg HGd.out, if_neg HGv.out, if_neg HC.out, if_neg HB.out]
        clear HK HN
        refine wp_region_kept (by kernel_rfl) (by kernel_rfl) ?_
        refine kept_val _ (fun _ => rfl) (fun ρ w hw => by go_simp; first | done | with_reducible rfl) ?_
        simp only [Act.put, StT, StZ, StS, Nat.reduceAdd]
        refine kept_val (.bool true) (fun _ => rfl) (fun ρ w hw => by go_simp; first | done | omega | (simp; omega)) ?_
        iterate 5
          simp only [Act.put, StT, StZ, StS, Nat.reduceAdd]
          refine kept_val _ (fun _ => rfl) (fun ρ w hw => by go_simp; first | done | with_reducible rfl) ?_
        simp only [Act.put, StT, StZ, StS, Nat.reduceAdd]
        refine kept_val _ (fun _ => rfl) (fun ρ w hw => by have q0 := (hw.cell (p := ⟨b, o + (k' + 1) * 2, none⟩) hbs).trans p0; go_simp; first | done | with_reducible rfl) ?_
        iterate 5
          simp only [Act.put, StT, StZ, StS, Nat.reduceAdd]
          refine kept_val _ (fun _ => rfl) (fun ρ w hw => by go_simp; first | done | with_reducible rfl) ?_
        simp only [Act.put, StT, StZ, StS, Nat.reduceAdd]
        refine kept_val _ (fun _ => rfl) (fun ρ w hw => by have q0 := (hw.cell (p := ⟨b, o + k' * 2, none⟩) hbs).trans r0; go_simp; first | done | with_reducible rfl) ?_
        iterate 2
          simp only [Act.put, StT, StZ, StS, Nat.reduceAdd]
          refine kept_val _ (fun _ => rfl) (fun ρ w hw => by go_simp; first | done | with_reducible rfl) ?_
        simp only [Act.put, StT, StZ, StS, Nat.reduceAdd]
        refine kept_end (fun ρ w20 hF => ?_)
        have hbF := hF.below
        clear hF
        replace hb := bto hb hbF
        clear hbF
        clear r0
        go_wp2
        go_roundw
        case rel => exact ⟨(k' + 1) + 1, by omega, by go_num, HV.out, hb⟩
        case measure => simp [intOf]; omega
end Go.Proofs.YtgnppdkeiihlfaaGreatDoor
namespace Go.Proofs.YtgnppdkeiihlfaaGreatDoor
open Go.RowKit Go.Shelf Num
attribute [local go_sem] Oper.semAt_some
theorem both_any (A B : Option Addr) (n c m d : Nat) (w : World) :
    Calls Tryz.prog 209 #[.slice A n c, .slice B m d] w fun e w' => e = .returned (.func (.func 255) #[] #[.pointer (some ⟨w.heap.size, 0, none⟩), .pointer (some ⟨w.heap.size + 1, 0, none⟩)]) ∧ w' = (w.alloc (.cells #[.slice A n c] 42)).alloc (.cells #[.slice B m d] 42) := by
  go_enter Tryz.func209, Tryz.ntmps209
  go_wp2_with fail
  go_ret
  exact ⟨rfl, rfl⟩
theorem enter_b1 (args : Array Value) (w : World) : (callFunc 255 args).run Tryz.prog w = .ok (.enter 255 args) w := by kernel_rfl
theorem keep_snoc (zs : List Yl) (y : Yl) : keepL (zs ++ [y]) = keepL zs ++ keepL [y] := by
  induction zs with
  | nil => rfl
  | cons z r ih =>
    show (if _ = 0 then keepL (r ++ [y]) else _ :: keepL (r ++ [y])) = (if _ = 0 then keepL r else _ :: keepL r) ++ _
    rw [ih]
    split <;> simp
structure SmAt (w : World) (R : Loop) (d l : Nat) (zs : List Yl) (W : World) : Prop where
  below : Below w.heap.size w W
  loop : W.heap[l]? = some (.loop R)
  dfr : W.heap[d]? = some (.deferred (some []))
  row : ∃ v, Boxed W w.heap.size 42 v ∧ W.ownsRow w.heap.size 48 2 v (keepL zs).length (rowsM (keepL zs))
theorem own_belowM {w w' : World} {B k sz : Nat} {ty : TypeId} {v : Value} {cs : List Value} (h : w.ownsRow B ty sz v k cs) (hb : Below w.heap.size w w') : w'.ownsRow B ty sz v k cs := by
  refine ⟨h.1, ?_⟩
  rcases h.2 with h2 | ⟨g, cap, cur, e, hB, hg, r⟩
  · exact .inl h2
  · exact .inr ⟨g, cap, cur, e, hB, (hb.block g (Array.getElem?_eq_some_iff.1 hg).1).trans hg, r⟩
theorem below_putM {w W : World} {l : Nat} {ob : Obj} (h : Below w.heap.size w W) (hl : w.heap.size ≤ l) : Below w.heap.size w (W.putObj l ob) :=
  h.trans ⟨rfl, rfl, rfl, by simp, fun k hk => World.putObj_heap_other (by omega)⟩
section
variable {w W W' : World} {R : Loop} {d l : Nat} {zs : List Yl}
theorem SmAt.mono (h : SmAt w R d l zs W) (hb : Below W.heap.size W W') : SmAt w R d l zs W' :=
  ⟨bto h.below hb, (hb.block _ (Array.getElem?_eq_some_iff.1 h.loop).1).trans h.loop, (hb.block _ (Array.getElem?_eq_some_iff.1 h.dfr).1).trans h.dfr, by
    obtain ⟨v, h1, h2⟩ := h.row
    exact ⟨v, (hb.block _ h1.lt).trans h1, own_belowM h2 hb⟩⟩
theorem SmAt.done {R1 R2 : Loop} (hR : R2 = R) (hl : l ≠ d ∧ l ≠ w.heap.size ∧ w.heap.size ≤ l) (h : SmAt w R1 d l zs W) : SmAt w R d l zs (W.putObj l (.loop R2)) := by
  subst hR
  refine ⟨below_putM h.below hl.2.2, World.putObj_heap_same (Array.getElem?_eq_some_iff.1 h.loop).1, (World.putObj_heap_other (by omega)).trans h.dfr, ?_⟩
  obtain ⟨v, h1, h2⟩ := h.row
  exact ⟨v, (World.putObj_heap_other (Ne.symm hl.2.1)).trans h1, ownsRow_putObj h2 _ h.loop rfl⟩
theorem SmAt.grown (h : SmAt w R d l zs W) {b : Nat} {cs : Array Value} {t : TypeId} (hb : W.heap[b]? = some (.cells cs t (0, 0))) (ht : t ≠ 48) (hn : b ≠ w.heap.size) (hw : w.heap.size ≤ b) (hg : W.grownBy W' (some b)) : SmAt w R d l zs W' := by
  have hne : ∀ {k : Nat} {ob : Obj}, W.heap[k]? = some ob → ob.isCells = false → some k ≠ some b := fun hk hc e => by
    injection e with e
    rw [e, hb] at hk
    injection hk with hk
    rw [← hk] at hc; cases hc
  obtain ⟨v, h1, h2⟩ := h.row
  refine ⟨h.below.grown hg h.below.size (fun j ej => by injection ej with ej; omega), (hg.block l (Array.getElem?_eq_some_iff.1 h.loop).1 (hne h.loop rfl)).trans h.loop, (hg.block d (Array.getElem?_eq_some_iff.1 h.dfr).1 (hne h.dfr rfl)).trans h.dfr, v, h1.kept hg (fun e => hn (by injection e with e; exact e.symm)), h2.kept hg ?_⟩
  rcases h2.2 with ⟨rfl, -⟩ | ⟨g, cap, cur, rfl, -, hgb, -⟩
  · exact .inl rfl
  · refine .inr fun e' => ?_
    obtain rfl : g = b := by simpa [Value.ownBlock] using e'
    rw [hgb] at hb
    injection hb with hb
    injection hb with _ hb2
    exact ht hb2.symm
end
def MonEnd (xs : List Mon) (code : Int) (w : World) (e : Ending) (w' : World) : Prop := ∃ B m cp, e = .returned (.tuple #[.slice B m cp, .int .i64 code]) ∧ xs.length = m ∧ m ≤ cp ∧ MonAt w' B xs ∧ Below w.heap.size w w'
def smR (a b : List Mon) : List Mon := if 16 < (smL a b).length then [] else smL a b
def smE (a b : List Mon) : Int := if 16 < (smL a b).length then 4 else 0
theorem mon_nil (w : World) (A : Option Addr) : MonAt w A [] := fun i t ht => by simp at ht
theorem own_mon {w : World} {base k : Nat} {v : Value} {xs : List Mon} (h : w.ownsRow base 48 2 v k (rowsM xs)) (hk : xs.length = k) : ∃ B cp, v = .slice B k cp ∧ k ≤ cp ∧ MonAt w B xs := by
  subst hk
  rcases h.2 with ⟨rfl, h0⟩ | ⟨g, cap, cur, rfl, hB, hg, hcap, _, hsz, htk⟩
  · have : xs = [] := List.eq_nil_of_length_eq_zero h0
    subst this
    exact ⟨none, 0, rfl, Nat.le_refl _, mon_nil w none⟩
  · refine ⟨_, _, rfl, hcap, crow_mon ⟨cur, hg, ?_, ?_⟩⟩
    · rw [rowsM_len]; exact htk
    · rw [rowsM_len, hsz]; exact Nat.mul_le_mul_right 2 hcap
set_option maxHeartbeats 8000000 in
set_option maxRecDepth 100000 in
theorem msum (A B : Option Addr) (xs ys : List Mon) (n c n' c' : Nat) (w : World) (hG : Glob w) (hX : ML w A xs n) (hc : n ≤ c) (hY : ML w B ys n') (hc' : n' ≤ c') :
    Calls Tryz.prog 143 #[.slice A n c, .slice B n' c'] w (MonEnd (smR xs ys) (smE xs ys) w) := by
  obtain ⟨i0, hi, hz0, hz1, hz2⟩ := info_parts info_mon
  have hn63 : n ≤ 1000000 ∧ n' ≤ 1000000 := ⟨Nat.le_trans hX.sm (by decide), Nat.le_trans hY.sm (by decide)⟩
  have hNs : xs.length + ys.length ≤ 2000 := by have := hX.len; have := hY.len; have := hX.sm; have := hY.sm; omega
  have HX := Lib.hid hX
  have HYs := Lib.hid hY
  have HNs := Lib.hid hNs
  clear hX hY hNs
  refine (callsIn_wide (n := 5)).1 ?_
  refine callsIn_of_wp_marks Tryz.func143 rfl trivial ?_ rfl
  simp only [Tryz.ntmps143, List.size_toArray, List.length_cons, List.length_nil, Nat.reduceAdd, Nat.reduceSub, Array.replicate_succ, Array.replicate_zero, List.push_toArray, List.append_toArray, List.nil_append, List.cons_append]
  gi_wp2_with (refine ⟨trivial, ?_⟩; gi_at_call 209; refine (callsIn_wide.2 (both_any A B n c n' c' _)).mono ?_; rintro e w1 ⟨rfl, rfl⟩)
  refine range_goes (gf := 255) (lb := #[.pointer (some ⟨w.heap.size + 1, 0, none⟩), .pointer (some ⟨w.heap.size + 1 + 1, 0, none⟩)]) rfl enter_b1 ?_
  intro fn R hR
  obtain ⟨Wo, hWo⟩ : ∃ Wo, Wo = w.alloc (.cells #[.slice none 0 0] 42) := ⟨_, rfl⟩
  obtain ⟨W0, hW0⟩ : ∃ W0, W0 = (Wo.alloc (.cells #[.slice A n c] 42)).alloc (.cells #[.slice B n' c'] 42) := ⟨_, rfl⟩
  have hso : Wo.heap.size = w.heap.size + 1 := by rw [hWo]; simp only [World.size_alloc]
  have hsz : W0.heap.size = w.heap.size + 3 := by rw [hW0, World.size_alloc, World.size_alloc, hso]
  have hb0 : Below w.heap.size w Wo := by rw [hWo]; exact below_alloc _ _
  have hbo : Below Wo.heap.size Wo W0 := by rw [hW0]; exact bto (below_alloc _ _) (below_alloc _ _)
  have x6 : Boxed W0 w.heap.size 42 (.slice none 0 0) := bx_below (by rw [hWo]; exact Boxed.new _ _ _) hbo
  have xa : Boxed W0 (w.heap.size + 1) 42 (.slice A n c) := by
    rw [hW0, ← hso]
    exact bx_below (Boxed.new Wo _ _) (below_alloc _ _)
  have xb : Boxed W0 (w.heap.size + 1 + 1) 42 (.slice B n' c') := by
    rw [hW0, ← hso]
    have := Boxed.new (Wo.alloc (.cells #[.slice A n c] 42)) 42 (.slice B n' c')
    rwa [World.size_alloc] at this
  replace hb0 := bto hb0 hbo
  rw [← hWo, ← hW0] at hR ⊢
  clear hW0 hWo hso hbo
  obtain ⟨W1, hW1⟩ : ∃ W1, W1 = (W0.alloc (.deferred (some []))).alloc (.loop R) := ⟨_, rfl⟩
  have hbB : Below W0.heap.size W0 W1 := by rw [hW1]; exact bto (below_alloc _ _) (below_alloc _ _)
  have hD : W1.heap[W0.heap.size]? = some (.deferred (some [])) := by rw [hW1]; exact (Below.heap_alloc _ _ _ (by simp)).trans (World.alloc_heap_new _ _)
  have hL : W1.heap[W0.heap.size + 1]? = some (.loop R) := by
    rw [hW1]
    have := World.alloc_heap_new (W0.alloc (.deferred (some []))) (.loop R)
    rwa [World.size_alloc] at this
  rw [← hW1]
  obtain ⟨l, hl⟩ : ∃ l, l = W0.heap.size + 1 := ⟨_, rfl⟩
  obtain ⟨d, hd⟩ : ∃ d, d = W0.heap.size := ⟨_, rfl⟩
  rw [← hl] at hL ⊢
  rw [← hd] at hD hR ⊢
  have hS0 : SmAt w R d l [] W1 := ⟨bto hb0 hbB, hL, hD, ⟨_, bx_below x6 hbB, World.ownsRow_nil _ _ _ 2⟩⟩
  replace xa := bx_below xa hbB
  replace xb := bx_below xb hbB
  obtain ⟨ab, hab⟩ : ∃ ab, ab = w.heap.size + 1 := ⟨_, rfl⟩
  obtain ⟨bb, hbb⟩ : ∃ bb, bb = w.heap.size + 1 + 1 := ⟨_, rfl⟩
  rw [← hbb] at xb ⊢
  rw [← hab] at xa ⊢
  have n1 : l ≠ d ∧ l ≠ w.heap.size ∧ w.heap.size ≤ l := by omega
  have n3 : w.heap.size ≤ d ∧ d ≠ w.heap.size := by omega
  have n4 : ab ≠ bb ∧ ab ≠ w.heap.size ∧ bb ≠ w.heap.size ∧ w.heap.size ≤ ab ∧ w.heap.size ≤ bb ∧ ab ≠ l ∧ bb ≠ l := by omega
  clear hW1 hbB hD hL x6 hb0 hsz hl hd hab hbb
  have hY : ∀ zs (y : Yl) W u v, SmAt w R d l zs W → y.1.length ≤ 1000 → y.2.1.length ≤ 1000 → y.2.2.length ≤ 1000 → zs.length < 2000 → Boxed W ab 42 u → Boxed W bb 42 v →
      YieldAt Fence.wide (5 - 1 - 1) Tryz.prog l #[.string ⟨y.1.toArray⟩, .agg #[.string ⟨y.2.1.toArray⟩, .string ⟨y.2.2.toArray⟩]] W fun e W' => e = .returned (.bool true) ∧ SmAt w R d l (zs ++ [y]) W' ∧ Boxed W' ab 42 u ∧ Boxed W' bb 42 v := by
    intro zs y W u v hS l1 l2 l3 hlen hA hB
    have hy := run_yield (P := Tryz.prog) (args := #[.string ⟨y.1.toArray⟩, .agg #[.string ⟨y.2.1.toArray⟩, .string ⟨y.2.2.toArray⟩]]) hS.loop (by rw [hR]; rfl)
    refine ⟨R.fn, _, R.assign, R.body, hy, roundIn_of_wpIn trivial ?_⟩
    have hlW := (Array.getElem?_eq_some_iff.1 hS.loop).1
    have hbA := below_alloc W (.cells #[.string ⟨y.2.1.toArray⟩, .string ⟨y.2.2.toArray⟩] 201)
    have hSa := hS.mono hbA
    have hbr := run_beginRound (P := Tryz.prog) hSa.loop (by rw [hR])
    have hS1 : SmAt w { R with state := .busy } d l zs ((W.alloc (.cells #[.string ⟨y.2.1.toArray⟩, .string ⟨y.2.2.toArray⟩] 201)).putObj l (.loop { R with state := .busy })) := SmAt.done rfl n1 hSa
    have x8 : Blk ((W.alloc (.cells #[.string ⟨y.2.1.toArray⟩, .string ⟨y.2.2.toArray⟩] 201)).putObj l (.loop { R with state := .busy })) W.heap.size #[.string ⟨y.2.1.toArray⟩, .string ⟨y.2.2.toArray⟩] := by
      obtain ⟨t, h⟩ := Blk.new W #[.string ⟨y.2.1.toArray⟩, .string ⟨y.2.2.toArray⟩] 201
      exact ⟨t, (World.putObj_heap_other (by omega)).trans h⟩
    have hA1 : Boxed ((W.alloc (.cells #[.string ⟨y.2.1.toArray⟩, .string ⟨y.2.2.toArray⟩] 201)).putObj l (.loop { R with state := .busy })) ab 42 u := (World.putObj_heap_other n4.2.2.2.2.2.1).trans (bx_below hA hbA)
    have hB1 : Boxed ((W.alloc (.cells #[.string ⟨y.2.1.toArray⟩, .string ⟨y.2.2.toArray⟩] 201)).putObj l (.loop { R with state := .busy })) bb 42 v := (World.putObj_heap_other n4.2.2.2.2.2.2).trans (bx_below hB hbA)
    obtain ⟨Wc, hWc⟩ : ∃ Wc, Wc = (W.alloc (.cells #[.string ⟨y.2.1.toArray⟩, .string ⟨y.2.2.toArray⟩] 201)).putObj l (.loop { R with state := .busy }) := ⟨_, rfl⟩
    rw [← hWc] at hbr hS1 x8 hA1 hB1
    have hRe : ({ { R with state := .busy } with state := .ready, pending := none } : Loop) = R := by rw [hR]
    obtain ⟨R1, hR1⟩ : ∃ R1, R1 = { R with state := .busy } := ⟨_, rfl⟩
    rw [← hR1] at hS1 hRe
    have hbc := hS1.below
    have p0 : Wc.cell? ⟨W.heap.size, 0, none⟩ = some (.string ⟨y.2.1.toArray⟩) := x8.c 0
    have p1 : Wc.cell? ⟨W.heap.size, 1, none⟩ = some (.string ⟨y.2.2.toArray⟩) := x8.c 1
    have HBr := Lib.hid hbr
    have HRe := Lib.hid hRe
    have HS1 := Lib.hid hS1
    have HA1 := Lib.hid hA1
    have HB1 := Lib.hid hB1
    obtain ⟨Z, hZ⟩ : ∃ Z, Z = val y.2.1 + val y.2.2 := ⟨_, rfl⟩
    have C1 := Lib.hid (riAdd (l := y.2.1) (l' := y.2.2) (by omega) (by omega) hZ.symm)
    have HZ := Lib.hid hZ
    have HHR := Lib.hid hR
    clear hWc hbr hy hS hSa hlW hS1 hRe hR1 hS0 hA hB hA1 hB1 hbA x8 hZ xa xb
    rw [hR]
    gi_wp2
    refine ⟨_, HBr.out, ?_⟩
    gi_wp2_with fail
    refine ⟨trivial, ?_⟩
    refine (CallsIn.inRound l (callsIn_wide.2 (C1.out.of hG hbc))).mono ?_
    rintro e w4 ⟨rfl, hb4⟩
    have HS2 := Lib.hid (HS1.out.mono hb4)
    have HA2 := Lib.hid (bx_below HA1.out hb4)
    have HB2 := Lib.hid (bx_below HB1.out hb4)
    replace hbc := bto hbc hb4
    clear hb4 p0 p1 C1 HS1 HA1 HB1 HBr hR
    by_cases hz : Z = 0
    · have e3 : (canon Z == []) = true := by rw [hz]; rfl
      have e4 : (canon Z).isEmpty = true := by rw [hz]; rfl
      have HK : Hid (keepL (zs ++ [y]) = keepL zs) := by
        show _ = _
        rw [keep_snoc]
        show _ ++ (if val y.2.1 + val y.2.2 = 0 then keepL [] else _) = _
        rw [← HZ.out, if_pos hz]; exact List.append_nil _
      have HGO : Hid (SmAt w R1 d l (zs ++ [y]) w4) := by
        obtain ⟨g1, g2, g3, v, g4, g5⟩ := HS2.out
        exact ⟨g1, g2, g3, v, g4, by rw [HK.out]; exact g5⟩
      clear hz
      gi_wp2
      exact ⟨_, _, run_endRound (P := Tryz.prog) none HGO.out.loop, rfl, SmAt.done (HRe.out.trans HHR.out) n1 HGO.out, (World.putObj_heap_other n4.2.2.2.2.2.1).trans HA2.out, (World.putObj_heap_other n4.2.2.2.2.2.2).trans HB2.out⟩
    have e3 : (canon Z == []) = false := by rw [beq_eq_false_iff_ne]; exact fun h => hz ((canon_eq_nil _).1 h)
    have e4 : (canon Z).isEmpty = false := by rw [List.isEmpty_eq_false_iff]; exact fun h => hz ((canon_eq_nil _).1 h)
    have HK : Hid (keepL (zs ++ [y]) = keepL zs ++ [⟨y.1, canon Z⟩]) := by
      show _ = _
      rw [keep_snoc]
      show _ ++ (if val y.2.1 + val y.2.2 = 0 then keepL [] else _) = _
      rw [← HZ.out, if_neg hz]; rfl
    have hkl := keep_len zs
    obtain ⟨v0, hv, hrow⟩ := HS2.out.row
    have hc := hv.cell
    generalize canon Z = C at *
    clear hz HZ
    gi_wp2_with (gi_at_builtin; refine wpListIn_append_own _ rfl _ _ 42 rfl w.heap.size 48 i0 (.agg #[.string ⟨#[]⟩, .string ⟨#[]⟩]) 2 32 Tryz.underlying42 hi hz0 hz1 hz2 rfl (by decide) _ _ _ rfl (own_belowM hrow (below_alloc _ _)) ⟨w4.heap.size, 0, none⟩ 1 1 [.string ⟨y.1.toArray⟩, .string ⟨C.toArray⟩] rfl rfl ?c1 ?c2 ?c3 ?c4 ?c5 ?_)
    case c1 =>
      intro j u hu
      match j with
      | 0 => simp at hu; subst hu; rw [Lib.add_plain]; simp [go_sem]
      | 1 => simp at hu; subst hu; rw [Lib.add_plain]; simp [go_sem]
      | j + 2 => simp at hu
    case c2 =>
      intro u hu
      simp at hu
      rcases hu with rfl | rfl <;> rfl
    case c3 => unfold maxLen; omega
    case c4 => omega
    case c5 => have := hbc.size; simp; omega
    intro v' w5 hown' hgrow _
    obtain ⟨g', cap', rfl⟩ := ownsRow_succ hown'
    obtain ⟨hv1, hv2, hr2, hk2, hb2⟩ := hv.appended (by decide) hrow hbc.size (Nat.le_refl _) hown' hgrow
    have hc1 := hv1.cell
    have hf1 := hv1.frozen
    have hA3 := bx_far (i := 0) (u := .slice (some ⟨g', 0, none⟩) ((keepL zs).length + 1) cap') ((Boxed.alloc HA2.out _).kept hgrow (HA2.out.not_row (by decide) hrow)) n4.2.1
    have hB3 := bx_far (i := 0) (u := .slice (some ⟨g', 0, none⟩) ((keepL zs).length + 1) cap') ((Boxed.alloc HB2.out _).kept hgrow (HB2.out.not_row (by decide) hrow)) n4.2.2.1
    have HA3 := Lib.hid hA3
    have HB3 := Lib.hid hB3
    have HGO : Hid (SmAt w R1 d l (zs ++ [y]) (w5.setCell ⟨w.heap.size, 0, none⟩ (.slice (some ⟨g', 0, none⟩) ((keepL zs).length + 1) cap'))) := by
      refine ⟨hbc.trans hb2, hk2.same _ _ HS2.out.loop rfl, hk2.same _ _ HS2.out.dfr rfl, _, hv2, ?_⟩
      have e1 : (keepL (zs ++ [y])).length = (keepL zs).length + 1 := by rw [HK.out, List.length_append]; rfl
      have e2 : rowsM (keepL (zs ++ [y])) = rowsM (keepL zs) ++ [.string ⟨y.1.toArray⟩, .string ⟨C.toArray⟩] := by rw [HK.out, rowsM_app]; rfl
      rw [e1, e2]; exact hr2
    clear hown' hgrow hv1 hv2 hr2 hk2 hb2 hv hrow hc HS2 HA2 HB2 hA3 hB3 HK
    gi_wp2
    exact ⟨_, _, run_endRound (P := Tryz.prog) none HGO.out.loop, rfl, SmAt.done (HRe.out.trans HHR.out) n1 HGO.out, (World.putObj_heap_other n4.2.2.2.2.2.1).trans HA3.out, (World.putObj_heap_other n4.2.2.2.2.2.2).trans HB3.out⟩
  have key := both1_in (5 - 1) l ab bb w.heap.size xs ys 2000 w (SmAt w R d l) (fun zs W h => h.below) (fun zs W W' h hb => h.mono hb) (fun zs W W' b cs t h hb ht hn hw hg => h.grown hb ht hn hw hg) (fun zs W h => by obtain ⟨v, h1, -⟩ := h.row; exact h1.lt) n4.2.1 n4.2.2.1 n4.2.2.2.1 n4.2.2.2.2.1 hY n4.1 HNs.out A B n c n' c' ⟨HX.out.len, HX.out.str, HX.out.mem⟩ ⟨HYs.out.len, HYs.out.str, HYs.out.mem⟩ hc hc' hn63 W1 hS0 xa xb
  refine key.mono ?_
  rintro e W2 ⟨hv, hS2⟩
  refine ⟨hv, hS2.loop, ?_⟩
  have hS3 : SmAt w { R with state := .exhausted } d l (bothL xs ys) (W2.putObj l (.loop { R with state := .exhausted })) := SmAt.done rfl n1 hS2
  obtain ⟨W3, hW3⟩ : ∃ W3, W3 = W2.putObj l (.loop { R with state := .exhausted }) := ⟨_, rfl⟩
  rw [← hW3] at hS3 ⊢
  obtain ⟨v, hv, hrow⟩ := hS3.row
  have q0 := hv.cell
  have hD5 := hS3.dfr
  have hb5 := hS3.below
  have hrow2 : W3.ownsRow w.heap.size 48 2 v (smL xs ys).length (rowsM (smL xs ys)) := hrow
  obtain ⟨Bv, cv, rfl, hcv, -⟩ := own_mon hrow2 rfl
  have HR := Lib.hid (ownsRow_putObj hrow2 (.deferred none) hD5 rfl)
  have hsl : (smL xs ys).length ≤ 2000 := Nat.le_trans (smL_len xs ys) HNs.out
  clear hW3 hS3 key hY hS2 hS0 hrow hrow2 HX HYs xa xb
  have HVV := Lib.hid (show (16 < (smL xs ys).length → smR xs ys = [] ∧ smE xs ys = 4) ∧ (¬ 16 < (smL xs ys).length → smR xs ys = smL xs ys ∧ smE xs ys = 0) from ⟨fun g => ⟨if_pos g, if_pos g⟩, fun g => ⟨if_neg g, if_neg g⟩⟩)
  obtain ⟨M, hM⟩ : ∃ M, M = (smL xs ys).length := ⟨_, rfl⟩
  rw [← hM] at HVV hsl HR q0 hcv
  have HMM := Lib.hid hM.symm
  clear hM
  by_cases g16 : 16 < M
  · have e1 : decide (16 < M) = true := decide_eq_true g16
    have e2 : decide ((16 : Int) < (M : Int)) = true := decide_eq_true (by omega)
    have HV : Hid (smR xs ys = [] ∧ smE xs ys = 4) := HVV.out.1 g16
    clear g16
    gi_wp2
    refine ⟨by simp, .inl ⟨_, _, rfl, run_takeDeferred hD5, ?_⟩⟩
    refine ⟨_, results_tmp2 rfl _ _ _, none, 0, 0, ?_, ?_, Nat.le_refl _, ?_, below_putM hb5 n3.1⟩
    · rw [HV.out.2]; rfl
    · rw [HV.out.1]; rfl
    · rw [HV.out.1]; exact mon_nil _ _
  · have e1 : decide (16 < M) = false := decide_eq_false g16
    have e2 : decide ((16 : Int) < (M : Int)) = false := decide_eq_false (by omega)
    have HV : Hid (smR xs ys = smL xs ys ∧ smE xs ys = 0) := HVV.out.2 g16
    obtain ⟨Bw, cw, hBw, hcw, hmw⟩ := own_mon HR.out HMM.out
    injection hBw with b1 b2 b3
    subst b1 b3
    have HM := Lib.hid hmw
    clear g16 hmw HR
    gi_wp2
    refine ⟨by simp, .inl ⟨_, _, rfl, run_takeDeferred hD5, ?_⟩⟩
    refine ⟨_, results_tmp2 rfl _ _ _, Bv, _, cv, ?_, ?_, hcw, ?_, below_putM hb5 n3.1⟩
    · rw [HV.out.2]; rfl
    · rw [HV.out.1]; exact HMM.out
    · rw [HV.out.1]; exact HM.out
end Go.Proofs.YtgnppdkeiihlfaaGreatDoor
namespace Go.Proofs.YtgnppdkeiihlfaaGreatDoor
open Go.RowKit Num
def putV (xs : List Mon) (m : Mon) : List Mon × Int := if ¬ bagE xs = 0 then ([], 1) else if ¬ codeB m.cur = true then ([], 23) else if ¬ m.amt = canon (val m.amt) then ([], 1) else (smR xs [m], smE xs [m])
theorem mCheckB {w : World} {A : Option Addr} {xs : List Mon} {n : Nat} (hG : Glob w) (h : ML w A xs n) (c : Nat) : RetB w 79 #[.slice A n c] (.int .i64 (bagE xs)) := fun w' hb => mCheck A xs n c w' (hG.below hb) (h.below hb)
theorem monEnd_no {V : List Mon × Int} {z : Int} {w w' : World} (h : V = ([], z)) (hb : Below w.heap.size w w') : MonEnd V.1 V.2 w (.returned (.tuple #[.slice none 0 0, .int .i64 z])) w' :=
  ⟨none, 0, 0, by rw [h], by rw [h]; rfl, Nat.le_refl _, by rw [h]; exact mon_nil _ _, hb⟩
theorem ml_one {w : World} {b : Nat} {m : Mon} {t : TypeId} (h : w.heap[b]? = some (.cells #[.string ⟨m.cur.toArray⟩, .string ⟨m.amt.toArray⟩] t (0, 0))) (h1 : m.cur.length ≤ 1000) (h2 : m.amt.length ≤ 1000) : ML w (some ⟨b, 0, none⟩) [m] 1 := by
  refine ⟨rfl, by decide, fun t ht => ?_, fun i t ht => ?_⟩
  · rw [List.mem_singleton.1 ht]; exact ⟨h1, h2⟩
  · cases i with
    | zero =>
      have : m = t := by simpa using ht
      subst this
      exact ⟨b, 0, rfl, (Array.getElem?_eq_some_iff.1 h).1, by rw [blk_cell h]; rfl, by rw [blk_cell h]; rfl⟩
    | succ i => simp at ht
set_option maxHeartbeats 4000000 in
set_option maxRecDepth 100000 in
theorem mPut (A : Option Addr) (xs : List Mon) (n c : Nat) (m : Mon) (w : World) (hG : Glob w) (hX : ML w A xs n) (hc : n ≤ c) (h1 : m.cur.length ≤ 1000) (h2 : m.amt.length ≤ 1000) :
    Calls Tryz.prog 77 #[.slice A n c, (.agg #[.string ⟨m.cur.toArray⟩, .string ⟨m.amt.toArray⟩])] w (MonEnd (putV xs m).1 (putV xs m).2 w) := by
  have CB := Lib.hid (mCheckB hG hX c)
  have HX := Lib.hid hX
  have hb := below_alloc w (.cells #[.string ⟨m.cur.toArray⟩, .string ⟨m.amt.toArray⟩] 48)
  have x3 := FBox.new w (.string ⟨m.cur.toArray⟩) (.string ⟨m.amt.toArray⟩) 48
  clear hX
  by_cases g0 : bagE xs = 0
  rotate_left
  · have HV : Hid (putV xs m = ([], 1)) := if_pos g0
    have e1 : (bagE xs != 0) = true := bneq' (intbne g0)
    generalize bagE xs = E at *
    clear g0
    go_enter Tryz.func77, Tryz.ntmps77
    go_wp2_with fail
    ((with_reducible refine (CB.out.of hG hb).mono ?_); rintro e w2 ⟨rfl, hb2⟩)
    replace x3 := x3.below hb2
    replace hb := bto hb hb2
    clear hb2
    clear CB x3
    go_wp2
    go_ret2
    exact monEnd_no HV.out hb
  have HV0 : Hid (putV xs m = if ¬ codeB m.cur = true then ([], 23) else if ¬ m.amt = canon (val m.amt) then ([], 1) else (smR xs [m], smE xs [m])) := if_neg (fun h => h g0)
  rw [g0] at CB
  clear g0
  have CD := Lib.hid (mCode (l := m.cur) (by omega))
  by_cases gd : codeB m.cur = true
  rotate_left
  · have HV : Hid (putV xs m = ([], 23)) := HV0.out.trans (if_pos gd)
    have e1 := not_true_b gd
    rw [e1] at CD
    clear gd e1 HV0
    go_enter Tryz.func77, Tryz.ntmps77
    go_wp2_with fail
    ((with_reducible refine (CB.out.of hG hb).mono ?_); rintro e w2 ⟨rfl, hb2⟩)
    replace x3 := x3.below hb2
    replace hb := bto hb hb2
    clear hb2
    have q0 := x3.c0
    clear CB
    go_wp2_with fail
    ((with_reducible refine (CD.out.of hG hb).mono ?_); rintro e w3 ⟨rfl, hb3⟩)
    replace x3 := x3.below hb3
    replace hb := bto hb hb3
    clear hb3
    clear CD q0 x3
    go_wp2
    go_ret2
    exact monEnd_no HV.out hb
  have HV1 : Hid (putV xs m = if ¬ m.amt = canon (val m.amt) then ([], 1) else (smR xs [m], smE xs [m])) := HV0.out.trans (if_neg (fun h => h gd))
  rw [gd] at CD
  clear gd HV0
  by_cases gv : m.amt = canon (val m.amt)
  rotate_left
  · have HV : Hid (putV xs m = ([], 1)) := HV1.out.trans (if_pos gv)
    have CC := Lib.hid (riCheck (l := m.amt) (c := 1) (by omega) (if_neg gv))
    clear gv HV1
    go_enter Tryz.func77, Tryz.ntmps77
    go_wp2_with fail
    ((with_reducible refine (CB.out.of hG hb).mono ?_); rintro e w2 ⟨rfl, hb2⟩)
    replace x3 := x3.below hb2
    replace hb := bto hb hb2
    clear hb2
    have q0 := x3.c0
    clear CB
    go_wp2_with fail
    ((with_reducible refine (CD.out.of hG hb).mono ?_); rintro e w3 ⟨rfl, hb3⟩)
    replace x3 := x3.below hb3
    replace hb := bto hb hb3
    clear hb3
    clear CD q0
    have q1 := x3.c1
    go_wp2_with fail
    ((with_reducible refine (CC.out.of hG hb).mono ?_); rintro e w4 ⟨rfl, hb4⟩)
    replace x3 := x3.below hb4
    replace hb := bto hb hb4
    clear hb4
    clear CC q1 x3
    go_wp2
    go_ret2
    exact monEnd_no HV.out hb
  have HV : Hid (putV xs m = (smR xs [m], smE xs [m])) := HV1.out.trans (if_neg (fun h => h gv))
  have CC := Lib.hid (riCheck (l := m.amt) (c := 0) (by omega) (if_pos gv))
  clear gv HV1
  go_enter Tryz.func77, Tryz.ntmps77
  go_wp2_with fail
  ((with_reducible refine (CB.out.of hG hb).mono ?_); rintro e w2 ⟨rfl, hb2⟩)
  replace x3 := x3.below hb2
  replace hb := bto hb hb2
  clear hb2
  have q0 := x3.c0
  clear CB
  go_wp2_with fail
  ((with_reducible refine (CD.out.of hG hb).mono ?_); rintro e w3 ⟨rfl, hb3⟩)
  replace x3 := x3.below hb3
  replace hb := bto hb hb3
  clear hb3
  clear CD q0
  have q1 := x3.c1
  go_wp2_with fail
  ((with_reducible refine (CC.out.of hG hb).mono ?_); rintro e w4 ⟨rfl, hb4⟩)
  replace x3 := x3.below hb4
  replace hb := bto hb hb4
  clear hb4
  clear CC q1
  have q0 := x3.c0
  have q1 := x3.c1
  have hbA := below_alloc w4 (.cells #[.string ⟨m.cur.toArray⟩, .string ⟨m.amt.toArray⟩] 48)
  have CS := Lib.hid (msum A (some ⟨w4.heap.size, 0, none⟩) xs [m] n c 1 1 (w4.alloc (.cells #[.string ⟨m.cur.toArray⟩, .string ⟨m.amt.toArray⟩] 48)) (hG.below (bto hb hbA)) (HX.out.below (bto hb hbA)) hc (ml_one (heap_alloc_new w4 _) h1 h2) (Nat.le_refl _))
  replace hb := bto hb hbA
  clear hbA
  go_wp2_with fail
  refine CS.out.mono ?_
  rintro e w5 ⟨B, k, cp, rfl, k1, k2, k3, hb5⟩
  have HK1 := Lib.hid k1
  have HK3 := Lib.hid k3
  clear CS q0 q1 x3 k1 k3
  go_wp2
  go_ret2
  exact ⟨B, k, cp, by rw [HV.out]; rfl, by rw [HV.out]; exact HK1.out, k2, by rw [HV.out]; exact HK3.out, bto hb hb5⟩
end Go.Proofs.YtgnppdkeiihlfaaGreatDoor
namespace Go.Proofs.YtgnppdkeiihlfaaGreatDoor
open Go.RowKit Num
open Go.Op (bytesLess)
theorem jBagB {w : World} {A : Option Addr} {xs : List Mon} {n : Nat} (hG : Glob w) (h : ML w A xs n) (c : Nat) : RetB w 155 #[.slice A n c] (.int .i64 (bagE xs)) := fun w' hb => jBag A xs n c w' (hG.below hb) (h.below hb)
def wS (m : Mon) : Bool → List Mon → List Mon → List Mon × Bool
  | d, out, [] => (out, d)
  | d, out, x :: r => if d = false ∧ bytesLess x.cur m.cur = false then (if x.cur = m.cur then wS m true (if canon (val x.amt + val m.amt) = [] then out else out ++ [⟨x.cur, canon (val x.amt + val m.amt)⟩]) r else wS m true (if x.amt = [] then out ++ [m] else out ++ [m] ++ [x]) r) else wS m d (if x.amt = [] then out else out ++ [x]) r
theorem wS_with (m : Mon) : ∀ (xs : List Mon) (d : Bool) (out : List Mon), (if (wS m d out xs).2 = true then (wS m d out xs).1 else (wS m d out xs).1 ++ [m]) = out ++ withS m d xs
  | [], d, out => by
    unfold wS withS
    cases d <;> simp
  | x :: r, d, out => by
    unfold wS withS
    by_cases h : d = false ∧ bytesLess x.cur m.cur = false
    · rw [if_pos h, if_pos h]
      by_cases hc : x.cur = m.cur
      · rw [if_pos hc, if_pos hc, wS_with m r true]
        unfold keepN
        by_cases hz : canon (val x.amt + val m.amt) = []
        · rw [if_pos hz, if_pos hz]
        · rw [if_neg hz, if_neg hz]; simp
      · rw [if_neg hc, if_neg hc, wS_with m r true]
        unfold keepN
        by_cases hz : x.amt = []
        · rw [if_pos hz, if_pos hz]; simp
        · rw [if_neg hz, if_neg hz]; simp
    · rw [if_neg h, if_neg h, wS_with m r d]
      unfold keepN
      by_cases hz : x.amt = []
      · rw [if_pos hz, if_pos hz]
      · rw [if_neg hz, if_neg hz]; simp
theorem wS_drop {m : Mon} {d : Bool} {out xs : List Mon} {k : Nat} {x : Mon} (h : xs[k]? = some x) : wS m d out (xs.drop k) = if d = false ∧ bytesLess x.cur m.cur = false then (if x.cur = m.cur then wS m true (if canon (val x.amt + val m.amt) = [] then out else out ++ [⟨x.cur, canon (val x.amt + val m.amt)⟩]) (xs.drop (k + 1)) else wS m true (if x.amt = [] then out ++ [m] else out ++ [m] ++ [x]) (xs.drop (k + 1))) else wS m d (if x.amt = [] then out else out ++ [x]) (xs.drop (k + 1)) := by
  obtain ⟨hk, rfl⟩ := List.getElem?_eq_some_iff.1 h
  rw [List.drop_eq_getElem_cons hk, wS]
theorem blk_grown {w w' : World} {b : Nat} {cs : Array Value} {row : Option Nat} (h : Blk w b cs) (hg : w.grownBy w' row) (hn : row ≠ some b) : Blk w' b cs := by
  have hl := h.lt
  obtain ⟨t, h⟩ := h
  exact ⟨t, (hg.block b hl (fun e => hn e.symm)).trans h⟩
theorem own_ge {w : World} {base n sz : Nat} {ty : TypeId} {v : Value} {cs : List Value} (h : w.ownsRow base ty sz v n cs) : ∀ j, v.ownBlock = some j → base ≤ j := fun j hj => by
  rcases h.2 with ⟨e0, -⟩ | ⟨g, cap, cur, e0, hB, -⟩
  · rw [e0] at hj; cases hj
  · rw [e0] at hj; simp [Value.ownBlock] at hj; omega
theorem own_lt {w : World} {base n sz : Nat} {ty : TypeId} {v : Value} {cs : List Value} (h : w.ownsRow base ty sz v n cs) : ∀ j, v.ownBlock = some j → j < w.heap.size := fun j hj => by
  rcases h.2 with ⟨e0, -⟩ | ⟨g, cap, cur, e0, hB, hg, -⟩
  · rw [e0] at hj; cases hj
  · rw [e0] at hj; simp [Value.ownBlock] at hj; subst hj; exact (Array.getElem?_eq_some_iff.1 hg).1
theorem own_setM {w : World} {base n sz b i : Nat} {ty : TypeId} {v u : Value} {cs : List Value} (h : w.ownsRow base ty sz v n cs) (hn : ∀ j, v.ownBlock = some j → j ≠ b) : (w.setCell ⟨b, i, none⟩ u).ownsRow base ty sz v n cs :=
  h.kept (grownBy_setCell2 w b i u) (.inr (fun e => hn b e rfl))
theorem blk_far {w : World} {b c i : Nat} {u : Value} {cs : Array Value} (h : Blk w b cs) (hn : b ≠ c) : Blk (w.setCell ⟨c, i, none⟩ u) b cs := by
  obtain ⟨t, h⟩ := h
  exact ⟨t, (Below.heap_setCell w ⟨c, i, none⟩ u b hn).trans h⟩
theorem rows_snoc (L : List Mon) (x : Mon) : rowsM (L ++ [x]) = rowsM L ++ [.string ⟨x.cur.toArray⟩, .string ⟨x.amt.toArray⟩] := by rw [rowsM_app]; rfl
set_option maxHeartbeats 16000000 in
set_option maxRecDepth 100000 in
theorem jWith (A : Option Addr) (xs : List Mon) (n c : Nat) (m : Mon) (w : World) (hG : Glob w) (hX : ML w A xs n) (hC : Can xs) (_h1 : m.cur.length ≤ 1000) (h2 : m.amt.length ≤ 1000) :
    Calls Tryz.prog 156 #[.slice A n c, (.agg #[.string ⟨m.cur.toArray⟩, .string ⟨m.amt.toArray⟩])] w fun e w' => ∃ B k cp, e = .returned (.slice B k cp) ∧ (withG xs m).length = k ∧ k ≤ cp ∧ MonAt w' B (withG xs m) ∧ Below w.heap.size w w' := by
  obtain ⟨i0, hi, hz0, hz1, hz2⟩ := info_parts info_mon
  have HW := Lib.hid (wS_with m xs (m.amt == []) [])
  have hwl : (withG xs m) = withS m (m.amt == []) xs := rfl
  rw [List.nil_append, ← hwl] at HW
  have HCn := Lib.hid hC
  have HX := Lib.hid hX
  have hn1 := hX.sm
  have hbM := below_alloc w (.cells #[.string ⟨m.cur.toArray⟩, .string ⟨m.amt.toArray⟩] 48)
  have y3 : Blk (w.alloc (.cells #[.string ⟨m.cur.toArray⟩, .string ⟨m.amt.toArray⟩] 48)) w.heap.size #[.string ⟨m.cur.toArray⟩, .string ⟨m.amt.toArray⟩] := Blk.new w #[.string ⟨m.cur.toArray⟩, .string ⟨m.amt.toArray⟩] 48
  have hbM2 := below_alloc (w.alloc (.cells #[.string ⟨m.cur.toArray⟩, .string ⟨m.amt.toArray⟩] 48)) (.cells #[] 48)
  have hown0 : ((w.alloc (.cells #[.string ⟨m.cur.toArray⟩, .string ⟨m.amt.toArray⟩] 48)).alloc (.cells #[] 48)).ownsRow (w.heap.size + 1) 48 2 (.slice (some ⟨(w.alloc (.cells #[.string ⟨m.cur.toArray⟩, .string ⟨m.amt.toArray⟩] 48)).heap.size, 0, none⟩) 0 0) 0 [] := World.ownsRow_made (w.alloc (.cells #[.string ⟨m.cur.toArray⟩, .string ⟨m.amt.toArray⟩] 48)) #[] 0 (by simp) (Nat.zero_le _) (by simp)
  rw [World.size_alloc] at hown0
  have HO0 := Lib.hid hown0
  have y4 := y3.below hbM2
  have hb0 := bto hbM hbM2
  clear hX hC hwl hown0 hbM hbM2
  have hinit : ∃ d0, d0 = (m.amt == []) := ⟨_, rfl⟩
  obtain ⟨d0, hd0⟩ := hinit
  rw [← hd0] at HW
  have f1 : (m.amt == []) = d0 := hd0.symm
  have f2 : (m.amt).isEmpty = d0 := by rw [hd0]; cases m.amt <;> rfl
  have HD0 := Lib.hid hd0
  clear hd0
  go_enter Tryz.func156, Tryz.ntmps156
  go_wp2_with fail
  clear f1 f2
  go_loopw [5, 6, 7] (fun ov dv iv wr => ∃ (k : Nat) (L : List Mon) (d : Bool) (B : Option Addr) (cp : Nat), k ≤ n ∧ iv = .int .i64 (k : Int) ∧ dv = .bool d ∧ ov = .slice B L.length cp ∧ Hid (wS m (m.amt == []) [] xs = wS m d L (xs.drop k)) ∧ L.length ≤ 2 * k ∧ Hid (wr.ownsRow (w.heap.size + 1) 48 2 (.slice B (L).length cp) (L).length (rowsM (L))) ∧ Blk wr w.heap.size #[.string ⟨m.cur.toArray⟩, .string ⟨m.amt.toArray⟩] ∧ Below w.heap.size w wr) (fun _ _ iv _ => n - (intOf iv).toNat)
  case atStart => exact ⟨0, [], d0, _, 0, Nat.zero_le _, rfl, rfl, rfl, by rw [HD0.out]; exact rfl, Nat.zero_le _, HO0.out, y4, hb0⟩
  case round =>
    clear y3 y4 hb0 HO0
    obtain ⟨k, L, d, B, cp, hk, rfl, rfl, rfl, HQ, hll, HO, x3, hb⟩ := hrel
    by_cases hlt : k < n
    rotate_left
    · have hw0 : wS m d L (xs.drop k) = (L, d) := by rw [List.drop_of_length_le (by rw [HX.out.len]; omega)]; rfl
      have hz := HQ.out.trans hw0
      have HWW := HW.out
      rw [HD0.out, hz] at HWW
      have HV : Hid ((if d = true then L else L ++ [m]) = withG xs m) := HWW
      have hsz0 := hb.size
      have hown := HO.out
      have m0 := x3.c 0
      have m1 := x3.c 1
      clear hw0 hz HWW HW HQ HO
      cases d with
      | true =>
        have HV2 : Hid (L = withG xs m) := HV.out
        obtain ⟨Bz, cz, hBz, hcz, hmz⟩ := own_mon hown rfl
        injection hBz with b1 b2 b3
        subst b1 b3
        have HM := Lib.hid hmz
        clear hmz hown HV
        go_wp2
        go_ret
        exact ⟨B, _, cp, rfl, by rw [← HV2.out], hcz, by rw [← HV2.out]; exact HM.out, hb⟩
      | false =>
        have HV2 : Hid (L ++ [m] = withG xs m) := HV.out
        clear HV
        go_wp2_with (at_builtin; refine wpList_append_own _ rfl _ _ 42 rfl (w.heap.size + 1) 48 i0 (.agg #[.string ⟨#[]⟩, .string ⟨#[]⟩]) 2 32 Tryz.underlying42 hi hz0 hz1 hz2 rfl (by decide) _ _ _ rfl (own_belowM hown (below_alloc _ _)) ⟨wr.heap.size, 0, none⟩ 1 1 [.string ⟨(m.cur).toArray⟩, .string ⟨(m.amt).toArray⟩] rfl rfl ?c1x1 ?c2x1 ?c3x1 ?c4x1 ?c5x1 ?_)
        try (case c1x1 =>
          intro j u hu
          match j with
          | 0 => simp at hu; subst hu; rw [Lib.add_plain]; simp [go_sem]
          | 1 => simp at hu; subst hu; rw [Lib.add_plain]; simp [go_sem]
          | j + 2 => simp at hu)
        try (case c2x1 => first | exact ⟨rfl, rfl⟩ | (intro u hu; simp at hu; rcases hu with rfl | rfl <;> rfl))
        try (case c3x1 => unfold maxLen; omega)
        try (case c4x1 => omega)
        try (case c5x1 => first | omega | (simp; omega) | (simp; have := hb.size; omega) | (simp; have := hbA.size; simp at this; omega))
        intro v7 w7 hown7 hgrow7 _
        obtain ⟨g7, cp7, rfl⟩ := ownsRow_succ hown7
        have x3 := blk_grown (x3.below (below_alloc _ _)) hgrow7 (fun e => by have := own_ge hown _ e; omega)
        have hb7 := Below.grown (hb.alloc (by first | omega | (simp; omega)) _) hgrow7 (by first | omega | (simp; omega)) (fun j ej => by have := own_ge hown j ej; omega)
        have hsz7 := hb7.size
        clear hgrow7
        obtain ⟨Bz, cz, hBz, hcz, hmz⟩ := own_mon (xs := L ++ [m]) (by rw [rows_snoc]; exact hown7) (by simp)
        injection hBz with b1 b2 b3
        subst b1 b3
        have HM := Lib.hid hmz
        clear hmz hown7 hown
        go_wp2
        go_ret
        exact ⟨_, _, cp7, rfl, by rw [← HV2.out]; simp, hcz, by rw [← HV2.out]; exact HM.out, hb7⟩
    obtain ⟨t, ht⟩ : ∃ t, xs[k]? = some t := ⟨_, List.getElem?_eq_getElem (by rw [HX.out.len]; omega)⟩
    obtain ⟨b, o, rfl, hbs, p0, p1⟩ := (HX.out.below hb).mem k t ht
    obtain ⟨hl1, hl2⟩ := HX.out.str t (List.mem_of_getElem? ht)
    have HTa := Lib.hid (HCn.out t (List.mem_of_getElem? ht)).2
    have HD := Lib.hid (wS_drop (m := m) (d := d) (out := L) ht)
    have hbA1 := below_alloc wr (.cells #[.string ⟨t.cur.toArray⟩, .string ⟨t.amt.toArray⟩] 48)
    have x8 : Blk (wr.alloc (.cells #[.string ⟨t.cur.toArray⟩, .string ⟨t.amt.toArray⟩] 48)) wr.heap.size #[.string ⟨t.cur.toArray⟩, .string ⟨t.amt.toArray⟩] := Blk.new wr #[.string ⟨t.cur.toArray⟩, .string ⟨t.amt.toArray⟩] 48
    have hbA := bto hb hbA1
    have hsz0 := hb.size
    have hownA := own_belowM HO.out hbA1
    have hw30 := x3.lt
    replace x3 := x3.below hbA1
    have a1 : (t.amt == []) = false := by rw [beq_eq_false_iff_ne]; exact HTa.out
    have a2 : (t.amt).isEmpty = false := by rw [List.isEmpty_eq_false_iff]; exact HTa.out
    have m0 := x3.c 0
    have m1 := x3.c 1
    have u0 := x8.c 0
    have u1 := x8.c 1
    have hol := own_lt HO.out
    clear ht hb hbA1 HO
    cases d with
    | true =>
      have HQ2 : Hid (wS m (m.amt == []) [] xs = wS m true (L ++ [t]) (xs.drop (k + 1))) := by
        show _ = _
        rw [HQ.out, HD.out, if_neg (fun h => by cases h.1), if_neg HTa.out]
      go_wp2_with (at_builtin; refine wpList_append_own _ rfl _ _ 42 rfl (w.heap.size + 1) 48 i0 (.agg #[.string ⟨#[]⟩, .string ⟨#[]⟩]) 2 32 Tryz.underlying42 hi hz0 hz1 hz2 rfl (by decide) _ _ _ rfl (own_belowM hownA (below_alloc _ _)) ⟨wr.heap.size + 1, 0, none⟩ 1 1 [.string ⟨(t.cur).toArray⟩, .string ⟨(t.amt).toArray⟩] rfl rfl ?c1x6 ?c2x6 ?c3x6 ?c4x6 ?c5x6 ?_)
      try (case c1x6 =>
        intro j u hu
        match j with
        | 0 => simp at hu; subst hu; rw [Lib.add_plain]; simp [go_sem]
        | 1 => simp at hu; subst hu; rw [Lib.add_plain]; simp [go_sem]
        | j + 2 => simp at hu)
      try (case c2x6 => first | exact ⟨rfl, rfl⟩ | (intro u hu; simp at hu; rcases hu with rfl | rfl <;> rfl))
      try (case c3x6 => unfold maxLen; omega)
      try (case c4x6 => omega)
      try (case c5x6 => first | omega | (simp; omega) | (simp; have := hb.size; omega) | (simp; have := hbA.size; simp at this; omega))
      intro v6 w6 hown6 hgrow6 _
      obtain ⟨g6, cp6, rfl⟩ := ownsRow_succ hown6
      have x3 := blk_grown (x3.below (below_alloc _ _)) hgrow6 (fun e => by have := own_ge hownA _ e; omega)
      have hb6 := Below.grown (hbA.alloc (by first | omega | (simp; omega)) _) hgrow6 (by first | omega | (simp; omega)) (fun j ej => by have := own_ge hownA j ej; omega)
      have hsz6 := hb6.size
      clear hgrow6
      have HO6 : Hid (w6.ownsRow (w.heap.size + 1) 48 2 (.slice (some ⟨g6, 0, none⟩) (L ++ [t]).length cp6) (L ++ [t]).length (rowsM (L ++ [t]))) := by
        have := hown6
        show World.ownsRow _ _ _ _ _ _ _
        rw [List.length_append, rows_snoc]; exact this
      clear hown6 hownA
      go_wp2
      go_roundw
      case rel => exact ⟨k + 1, L ++ [t], true, some ⟨g6, 0, none⟩, cp6, by omega, by go_num, rfl, by first | rfl | (rw [List.length_append]; rfl) | simp, HQ2.out, by simp; omega, HO6.out, x3, hb6⟩
      case measure => simp [intOf]; omega
    | false =>
      rcases ltS_tri t.cur m.cur with hlt2 | heq | hgt
      · have HG := Lib.hid hlt2
        have g1 := hlt2
        clear hlt2
        have HQ2 : Hid (wS m (m.amt == []) [] xs = wS m false (L ++ [t]) (xs.drop (k + 1))) := by
          show _ = _
          rw [HQ.out, HD.out, if_neg (fun h => by have := h.2; rw [HG.out] at this; cases this), if_neg HTa.out]
        go_wp2_with (at_builtin; refine wpList_append_own _ rfl _ _ 42 rfl (w.heap.size + 1) 48 i0 (.agg #[.string ⟨#[]⟩, .string ⟨#[]⟩]) 2 32 Tryz.underlying42 hi hz0 hz1 hz2 rfl (by decide) _ _ _ rfl (own_belowM hownA (below_alloc _ _)) ⟨wr.heap.size + 1, 0, none⟩ 1 1 [.string ⟨(t.cur).toArray⟩, .string ⟨(t.amt).toArray⟩] rfl rfl ?c1x2 ?c2x2 ?c3x2 ?c4x2 ?c5x2 ?_)
        try (case c1x2 =>
          intro j u hu
          match j with
          | 0 => simp at hu; subst hu; rw [Lib.add_plain]; simp [go_sem]
          | 1 => simp at hu; subst hu; rw [Lib.add_plain]; simp [go_sem]
          | j + 2 => simp at hu)
        try (case c2x2 => first | exact ⟨rfl, rfl⟩ | (intro u hu; simp at hu; rcases hu with rfl | rfl <;> rfl))
        try (case c3x2 => unfold maxLen; omega)
        try (case c4x2 => omega)
        try (case c5x2 => first | omega | (simp; omega) | (simp; have := hb.size; omega) | (simp; have := hbA.size; simp at this; omega))
        intro v6 w6 hown6 hgrow6 _
        obtain ⟨g6, cp6, rfl⟩ := ownsRow_succ hown6
        have x3 := blk_grown (x3.below (below_alloc _ _)) hgrow6 (fun e => by have := own_ge hownA _ e; omega)
        have hb6 := Below.grown (hbA.alloc (by first | omega | (simp; omega)) _) hgrow6 (by first | omega | (simp; omega)) (fun j ej => by have := own_ge hownA j ej; omega)
        have hsz6 := hb6.size
        clear hgrow6
        have HO6 : Hid (w6.ownsRow (w.heap.size + 1) 48 2 (.slice (some ⟨g6, 0, none⟩) (L ++ [t]).length cp6) (L ++ [t]).length (rowsM (L ++ [t]))) := by
          have := hown6
          show World.ownsRow _ _ _ _ _ _ _
          rw [List.length_append, rows_snoc]; exact this
        clear hown6 hownA
        go_wp2
        go_roundw
        case rel => exact ⟨k + 1, L ++ [t], false, some ⟨g6, 0, none⟩, cp6, by omega, by go_num, rfl, by first | rfl | (rw [List.length_append]; rfl) | simp, HQ2.out, by simp; omega, HO6.out, x3, hb6⟩
        case measure => simp [intOf]; omega
      · have g1 : bytesLess t.cur m.cur = false := by rw [heq]; exact ltS_irr _
        have g2 : (t.cur == m.cur) = true := by rw [beq_iff_eq]; exact heq
        have HG := Lib.hid (And.intro g1 heq)
        have CA := Lib.hid (qAdd (l := t.amt) (l' := m.amt) (by omega) (by omega) rfl)
        obtain ⟨Z, hZ⟩ : ∃ Z, Z = val t.amt + val m.amt := ⟨_, rfl⟩
        rw [← hZ] at CA
        rw [← hZ] at HD
        clear heq hZ
        go_wp2_with fail
        ((with_reducible refine (CA.out.of hG hbA).mono ?_); rintro e w4 ⟨rfl, hb4⟩)
        have x8b := x8.below hb4
        replace x3 := x3.below hb4
        have hb5 := bto hbA hb4
        have hown4 := own_belowM hownA hb4
        have hs4 := hb4.size
        simp only [World.size_alloc] at hs4
        have hown5 := own_setM (i := 1) (u := .string ⟨(canon Z).toArray⟩) hown4 (b := wr.heap.size) (fun j hj => by have := hol j hj; omega)
        have hb6 := hb5.setCell (p := ⟨wr.heap.size, 1, none⟩) hsz0 (.string ⟨(canon Z).toArray⟩)
        have x3 := blk_far (i := 1) (u := .string ⟨(canon Z).toArray⟩) x3 (show w.heap.size ≠ wr.heap.size from by omega)
        have v0 := x8b.c 0
        have v1 := x8b.c 1
        have v2 := x8b.f 1
        clear CA hb4 hbA hownA hown4 u0 u1 m0 m1 x8b hb5
        by_cases hz : Z = 0
        · have e1 : (canon Z == []) = true := by rw [hz]; rfl
          have e2 : (canon Z).isEmpty = true := by rw [hz]; rfl
          have HQ2 : Hid (wS m (m.amt == []) [] xs = wS m true L (xs.drop (k + 1))) := by
            show _ = _
            rw [HQ.out, HD.out, if_pos ⟨by first | rfl | trivial, HG.out.1⟩, if_pos HG.out.2, if_pos ((canon_eq_nil _).2 hz)]
          have HO6 := Lib.hid hown5
          clear hz hown5 HD HQ
          go_wp2
          go_roundw
          case rel => exact ⟨k + 1, L, true, B, cp, by omega, by go_num, rfl, rfl, HQ2.out, by omega, HO6.out, x3, hb6⟩
          case measure => simp [intOf]; omega
        have e1 : (canon Z == []) = false := by rw [beq_eq_false_iff_ne]; exact fun h => hz ((canon_eq_nil _).1 h)
        have e2 : (canon Z).isEmpty = false := by rw [List.isEmpty_eq_false_iff]; exact fun h => hz ((canon_eq_nil _).1 h)
        have HQ2 : Hid (wS m (m.amt == []) [] xs = wS m true (L ++ [Mon.mk t.cur (canon Z)]) (xs.drop (k + 1))) := by
          show _ = _
          rw [HQ.out, HD.out, if_pos ⟨by first | rfl | trivial, HG.out.1⟩, if_pos HG.out.2, if_neg (fun h => hz ((canon_eq_nil _).1 h))]
        generalize canon Z = C at *
        clear hz HD HQ
        go_wp2_with (at_builtin; refine wpList_append_own _ rfl _ _ 42 rfl (w.heap.size + 1) 48 i0 (.agg #[.string ⟨#[]⟩, .string ⟨#[]⟩]) 2 32 Tryz.underlying42 hi hz0 hz1 hz2 rfl (by decide) _ _ _ rfl (own_belowM hown5 (below_alloc _ _)) ⟨w4.heap.size, 0, none⟩ 1 1 [.string ⟨(t.cur).toArray⟩, .string ⟨(C).toArray⟩] rfl rfl ?c1x3 ?c2x3 ?c3x3 ?c4x3 ?c5x3 ?_)
        try (case c1x3 =>
          intro j u hu
          match j with
          | 0 => simp at hu; subst hu; rw [Lib.add_plain]; simp [go_sem]
          | 1 => simp at hu; subst hu; rw [Lib.add_plain]; simp [go_sem]
          | j + 2 => simp at hu)
        try (case c2x3 => first | exact ⟨rfl, rfl⟩ | (intro u hu; simp at hu; rcases hu with rfl | rfl <;> rfl))
        try (case c3x3 => unfold maxLen; omega)
        try (case c4x3 => omega)
        try (case c5x3 => first | omega | (simp; omega) | (simp; have := hb.size; omega) | (simp; have := hbA.size; simp at this; omega))
        intro v6 w6 hown6 hgrow6 _
        obtain ⟨g6, cp6, rfl⟩ := ownsRow_succ hown6
        have x3 := blk_grown (x3.below (below_alloc _ _)) hgrow6 (fun e => by have := own_ge hown5 _ e; omega)
        have hb6 := Below.grown (hb6.alloc (by first | omega | (simp; omega)) _) hgrow6 (by first | omega | (simp; omega)) (fun j ej => by have := own_ge hown5 j ej; omega)
        have hsz6 := hb6.size
        clear hgrow6
        have HO6 : Hid (w6.ownsRow (w.heap.size + 1) 48 2 (.slice (some ⟨g6, 0, none⟩) (L ++ [Mon.mk t.cur C]).length cp6) (L ++ [Mon.mk t.cur C]).length (rowsM (L ++ [Mon.mk t.cur C]))) := by
          have := hown6
          show World.ownsRow _ _ _ _ _ _ _
          rw [List.length_append, rows_snoc]; exact this
        clear hown6 hown5
        go_wp2
        go_roundw
        case rel => exact ⟨k + 1, L ++ [Mon.mk t.cur C], true, some ⟨g6, 0, none⟩, cp6, by omega, by go_num, rfl, by first | rfl | (rw [List.length_append]; rfl) | simp, HQ2.out, by simp; omega, HO6.out, x3, hb6⟩
        case measure => simp [intOf]; omega
      · have g1 := ltS_asym hgt
        have g2 : (t.cur == m.cur) = false := by rw [beq_eq_false_iff_ne]; exact (ltS_ne hgt).symm
        have HG := Lib.hid hgt
        clear hgt
        have HQ2 : Hid (wS m (m.amt == []) [] xs = wS m true (L ++ [m] ++ [t]) (xs.drop (k + 1))) := by
          show _ = _
          rw [HQ.out, HD.out, if_pos ⟨by first | rfl | trivial, ltS_asym HG.out⟩, if_neg (ltS_ne HG.out).symm, if_neg HTa.out]
        clear HD HQ
        go_wp2_with (at_builtin; refine wpList_append_own _ rfl _ _ 42 rfl (w.heap.size + 1) 48 i0 (.agg #[.string ⟨#[]⟩, .string ⟨#[]⟩]) 2 32 Tryz.underlying42 hi hz0 hz1 hz2 rfl (by decide) _ _ _ rfl (own_belowM hownA (below_alloc _ _)) ⟨wr.heap.size + 1, 0, none⟩ 1 1 [.string ⟨(m.cur).toArray⟩, .string ⟨(m.amt).toArray⟩] rfl rfl ?c1x4 ?c2x4 ?c3x4 ?c4x4 ?c5x4 ?_)
        try (case c1x4 =>
          intro j u hu
          match j with
          | 0 => simp at hu; subst hu; rw [Lib.add_plain]; simp [go_sem]
          | 1 => simp at hu; subst hu; rw [Lib.add_plain]; simp [go_sem]
          | j + 2 => simp at hu)
        try (case c2x4 => first | exact ⟨rfl, rfl⟩ | (intro u hu; simp at hu; rcases hu with rfl | rfl <;> rfl))
        try (case c3x4 => unfold maxLen; omega)
        try (case c4x4 => omega)
        try (case c5x4 => first | omega | (simp; omega) | (simp; have := hb.size; omega) | (simp; have := hbA.size; simp at this; omega))
        intro v5 w5 hown5 hgrow5 _
        obtain ⟨g5, cp5, rfl⟩ := ownsRow_succ hown5
        have x3 := blk_grown (x3.below (below_alloc _ _)) hgrow5 (fun e => by have := own_ge hownA _ e; omega)
        have x8 := blk_grown (x8.below (below_alloc _ _)) hgrow5 (fun e => by have := hol _ e; omega)
        have hb5 := Below.grown (hbA.alloc (by first | omega | (simp; omega)) _) hgrow5 (by first | omega | (simp; omega)) (fun j ej => by have := own_ge hownA j ej; omega)
        have hsz5 := hb5.size
        clear hgrow5
        have v0 := x8.c 0
        have v1 := x8.c 1
        clear u0 u1 m0 m1 hownA
        go_wp2_with (at_builtin; refine wpList_append_own _ rfl _ _ 42 rfl (w.heap.size + 1) 48 i0 (.agg #[.string ⟨#[]⟩, .string ⟨#[]⟩]) 2 32 Tryz.underlying42 hi hz0 hz1 hz2 rfl (by decide) _ _ _ rfl (own_belowM hown5 (below_alloc _ _)) ⟨w5.heap.size, 0, none⟩ 1 1 [.string ⟨(t.cur).toArray⟩, .string ⟨(t.amt).toArray⟩] rfl rfl ?c1x5 ?c2x5 ?c3x5 ?c4x5 ?c5x5 ?_)
        try (case c1x5 =>
          intro j u hu
          match j with
          | 0 => simp at hu; subst hu; rw [Lib.add_plain]; simp [go_sem]
          | 1 => simp at hu; subst hu; rw [Lib.add_plain]; simp [go_sem]
          | j + 2 => simp at hu)
        try (case c2x5 => first | exact ⟨rfl, rfl⟩ | (intro u hu; simp at hu; rcases hu with rfl | rfl <;> rfl))
        try (case c3x5 => unfold maxLen; omega)
        try (case c4x5 => omega)
        try (case c5x5 => first | omega | (simp; omega) | (simp; have := hb.size; omega) | (simp; have := hbA.size; simp at this; omega))
        intro v6 w6 hown6 hgrow6 _
        obtain ⟨g6, cp6, rfl⟩ := ownsRow_succ hown6
        have x3 := blk_grown (x3.below (below_alloc _ _)) hgrow6 (fun e => by have := own_ge hown5 _ e; omega)
        have hb6 := Below.grown (hb5.alloc (by first | omega | (simp; omega)) _) hgrow6 (by first | omega | (simp; omega)) (fun j ej => by have := own_ge hown5 j ej; omega)
        have hsz6 := hb6.size
        clear hgrow6
        have HO6 : Hid (w6.ownsRow (w.heap.size + 1) 48 2 (.slice (some ⟨g6, 0, none⟩) (L ++ [m] ++ [t]).length cp6) (L ++ [m] ++ [t]).length (rowsM (L ++ [m] ++ [t]))) := by
          have := hown6
          show World.ownsRow _ _ _ _ _ _ _
          rw [show (L ++ [m] ++ [t]).length = L.length + 1 + 1 by simp, rows_snoc, rows_snoc]; first | exact this | (rw [List.append_assoc] at this ⊢; exact this) | simpa using this
        clear hown6 hown5
        go_wp2
        go_roundw
        case rel => exact ⟨k + 1, L ++ [m] ++ [t], true, some ⟨g6, 0, none⟩, cp6, by omega, by go_num, rfl, by first | rfl | (rw [List.length_append]; rfl) | simp, HQ2.out, by simp; omega, HO6.out, x3, hb6⟩
        case measure => simp [intOf]; omega
end Go.Proofs.YtgnppdkeiihlfaaGreatDoor
namespace Go.Proofs.YtgnppdkeiihlfaaGreatDoor
open Go.RowKit Num
set_option maxHeartbeats 4000000 in
set_option maxRecDepth 100000 in
theorem jPut (A : Option Addr) (xs : List Mon) (n c : Nat) (m : Mon) (w : World) (hG : Glob w) (hX : ML w A xs n) (h1 : m.cur.length ≤ 1000) (h2 : m.amt.length ≤ 1000) :
    Calls Tryz.prog 92 #[.slice A n c, (.agg #[.string ⟨m.cur.toArray⟩, .string ⟨m.amt.toArray⟩])] w (MonEnd (putV xs m).1 (putV xs m).2 w) := by
  have CB := Lib.hid (jBagB hG hX c)
  have HX := Lib.hid hX
  have hb := below_alloc w (.cells #[.string ⟨m.cur.toArray⟩, .string ⟨m.amt.toArray⟩] 48)
  have x3 := FBox.new w (.string ⟨m.cur.toArray⟩) (.string ⟨m.amt.toArray⟩) 48
  clear hX
  by_cases g0 : bagE xs = 0
  rotate_left
  · have HV : Hid (putV xs m = ([], 1)) := if_pos g0
    have e1 : (bagE xs != 0) = true := bneq' (intbne g0)
    generalize bagE xs = E at *
    clear g0
    go_enter Tryz.func92, Tryz.ntmps92
    go_wp2_with fail
    ((with_reducible refine (CB.out.of hG hb).mono ?_); rintro e w2 ⟨rfl, hb2⟩)
    replace x3 := x3.below hb2
    replace hb := bto hb hb2
    clear hb2
    clear CB x3
    go_wp2
    go_ret2
    exact monEnd_no HV.out hb
  have HV0 : Hid (putV xs m = if ¬ codeB m.cur = true then ([], 23) else if ¬ m.amt = canon (val m.amt) then ([], 1) else (smR xs [m], smE xs [m])) := if_neg (fun h => h g0)
  have HBg := Lib.hid (bagE_ok g0)
  rw [g0] at CB
  clear g0
  have CD := Lib.hid (jCode5L (l := m.cur) (by omega))
  by_cases gd : codeB m.cur = true
  rotate_left
  · have HV : Hid (putV xs m = ([], 23)) := HV0.out.trans (if_pos gd)
    have e1 := not_true_b gd
    rw [e1] at CD
    clear gd e1 HV0
    go_enter Tryz.func92, Tryz.ntmps92
    go_wp2_with fail
    ((with_reducible refine (CB.out.of hG hb).mono ?_); rintro e w2 ⟨rfl, hb2⟩)
    replace x3 := x3.below hb2
    replace hb := bto hb hb2
    clear hb2
    have q0 := x3.c0
    clear CB
    go_wp2_with fail
    ((with_reducible refine (CD.out.of hG hb).mono ?_); rintro e w3 ⟨rfl, hb3⟩)
    replace x3 := x3.below hb3
    replace hb := bto hb hb3
    clear hb3
    clear CD q0 x3
    go_wp2
    go_ret2
    exact monEnd_no HV.out hb
  have HV1 : Hid (putV xs m = if ¬ m.amt = canon (val m.amt) then ([], 1) else (smR xs [m], smE xs [m])) := HV0.out.trans (if_neg (fun h => h gd))
  rw [gd] at CD
  clear gd HV0
  by_cases gv : m.amt = canon (val m.amt)
  rotate_left
  · have HV : Hid (putV xs m = ([], 1)) := HV1.out.trans (if_pos gv)
    have CC := Lib.hid (qCheck (l := m.amt) (c := 1) (by omega) (if_neg gv))
    clear gv HV1
    go_enter Tryz.func92, Tryz.ntmps92
    go_wp2_with fail
    ((with_reducible refine (CB.out.of hG hb).mono ?_); rintro e w2 ⟨rfl, hb2⟩)
    replace x3 := x3.below hb2
    replace hb := bto hb hb2
    clear hb2
    have q0 := x3.c0
    clear CB
    go_wp2_with fail
    ((with_reducible refine (CD.out.of hG hb).mono ?_); rintro e w3 ⟨rfl, hb3⟩)
    replace x3 := x3.below hb3
    replace hb := bto hb hb3
    clear hb3
    clear CD q0
    have q1 := x3.c1
    go_wp2_with fail
    ((with_reducible refine (CC.out.of hG hb).mono ?_); rintro e w4 ⟨rfl, hb4⟩)
    replace x3 := x3.below hb4
    replace hb := bto hb hb4
    clear hb4
    clear CC q1 x3
    go_wp2
    go_ret2
    exact monEnd_no HV.out hb
  have HV2 : Hid (putV xs m = (smR xs [m], smE xs [m])) := HV1.out.trans (if_neg (fun h => h gv))
  have HWs := Lib.hid (with_sum HBg.out.1.srt HBg.out.1.can gv)
  have CC := Lib.hid (qCheck (l := m.amt) (c := 0) (by omega) (if_pos gv))
  clear gv HV1
  go_enter Tryz.func92, Tryz.ntmps92
  go_wp2_with fail
  ((with_reducible refine (CB.out.of hG hb).mono ?_); rintro e w2 ⟨rfl, hb2⟩)
  replace x3 := x3.below hb2
  replace hb := bto hb hb2
  clear hb2
  have q0 := x3.c0
  clear CB
  go_wp2_with fail
  ((with_reducible refine (CD.out.of hG hb).mono ?_); rintro e w3 ⟨rfl, hb3⟩)
  replace x3 := x3.below hb3
  replace hb := bto hb hb3
  clear hb3
  clear CD q0
  have q1 := x3.c1
  go_wp2_with fail
  ((with_reducible refine (CC.out.of hG hb).mono ?_); rintro e w4 ⟨rfl, hb4⟩)
  replace x3 := x3.below hb4
  replace hb := bto hb hb4
  clear hb4
  clear CC q1
  have q0 := x3.c0
  have q1 := x3.c1
  have CS := Lib.hid (jWith A xs n c m w4 (hG.below hb) (HX.out.below hb) HBg.out.1.can h1 h2)
  go_wp2_with fail
  refine CS.out.mono ?_
  rintro e w5 ⟨B, k, cp, rfl, k1, k2, k3, hb5⟩
  rw [HWs.out] at k1 k3
  have HK1 := Lib.hid k1
  have HK3 := Lib.hid k3
  replace hb := bto hb hb5
  clear CS q0 q1 x3 k1 k3 hb5
  by_cases g16 : 16 < k
  · have e1 : decide (16 < k) = true := decide_eq_true g16
    have e2 : decide ((16 : Int) < (k : Int)) = true := decide_eq_true (by omega)
    have HV : Hid (putV xs m = ([], 4)) := by show _ = _; rw [HV2.out]; unfold smR smE; rw [if_pos (by rw [HK1.out]; exact g16), if_pos (by rw [HK1.out]; exact g16)]
    clear g16
    go_wp2
    go_ret2
    exact monEnd_no HV.out hb
  have e1 : decide (16 < k) = false := decide_eq_false g16
  have e2 : decide ((16 : Int) < (k : Int)) = false := decide_eq_false (by omega)
  have HV : Hid (putV xs m = (smL xs [m], 0)) := by show _ = _; rw [HV2.out]; unfold smR smE; rw [if_neg (by rw [HK1.out]; exact g16), if_neg (by rw [HK1.out]; exact g16)]
  clear g16
  go_wp2
  go_ret2
  exact ⟨B, k, cp, by rw [HV.out]; rfl, by rw [HV.out]; exact HK1.out, k2, by rw [HV.out]; exact HK3.out, hb⟩
end Go.Proofs.YtgnppdkeiihlfaaGreatDoor
namespace Go.Proofs.YtgnppdkeiihlfaaGreatDoor
open Go.RowKit Num
theorem cmpQ_lt {p q : Rat} (h : p < q) : cmpQ p q = -1 := by
  unfold cmpQ cmpZ
  have h1 : p - q < 0 := by grind
  have h2 : (p - q).num < 0 := by
    have := Rat.lt_iff (p - q) 0
    simpa using this.1 h1
  rw [if_pos h2]
theorem cmpQ_gt {p q : Rat} (h : q < p) : cmpQ p q = 1 := by
  unfold cmpQ cmpZ
  have h1 : 0 < p - q := by grind
  have h2 : 0 < (p - q).num := by
    have := Rat.lt_iff 0 (p - q)
    simpa using this.1 h1
  rw [if_neg (by omega), if_pos h2]
theorem cmpQ_self (p : Rat) : cmpQ p p = 0 := by unfold cmpQ; rw [Rat.sub_self]; rfl
end Go.Proofs.YtgnppdkeiihlfaaGreatDoor
