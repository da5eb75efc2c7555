/- greatPoints; Of of both; Same. -/
import Derived.Test.YtolbojchdlojnaaGreatDoorQa
import Derived.Test.YtolbojchdlojnaaGreatDoorWr
namespace Go.Proofs.YtolbojchdlojnaaGreatDoor
open Go.RowKit Num
def badQ (t : Pnt) : Bool := decide (13 < t.vl.length) || decide (13 < t.fl.length)
theorem call_gp1 (args : Array Value) (w : World) : (callFunc 106 args).run Tryz.prog w = .ok (.enter 106 args) w := by kernel_rfl
set_option maxHeartbeats 1000000 in
set_option maxRecDepth 100000 in
theorem gpClo (t : Pnt) : Ret 106 #[.agg #[.int .i64 t.day, .string ⟨t.vl.toArray⟩, .string ⟨t.fl.toArray⟩]] (.bool (badQ t)) := fun w hG => by
  have hb := below_alloc w (.cells #[.int .i64 t.day, .string ⟨t.vl.toArray⟩, .string ⟨t.fl.toArray⟩] 86)
  have x1 := Blk.new w #[.int .i64 t.day, .string ⟨t.vl.toArray⟩, .string ⟨t.fl.toArray⟩] 86
  have q0 := x1.c 0
  have q1 := x1.c 1
  have q2 := x1.c 2
  clear x1
  by_cases h : 13 < t.vl.length
  · have e1 : badQ t = true := by unfold badQ; rw [decide_eq_true h]; rfl
    rw [e1]
    clear e1
    go_enter Tryz.func106, Tryz.ntmps106
    go_wp2
    go_ret
    exact ⟨by first | done | rfl | (simp; omega) | simp_all, hb⟩
  · by_cases h2 : 13 < t.fl.length
    · have e1 : badQ t = true := by unfold badQ; rw [decide_eq_false h, decide_eq_true h2]; rfl
      rw [e1]
      clear e1
      go_enter Tryz.func106, Tryz.ntmps106
      go_wp2
      go_ret
      exact ⟨by first | done | rfl | (simp; omega) | simp_all, hb⟩
    · have e1 : badQ t = false := by unfold badQ; rw [decide_eq_false h, decide_eq_false h2]; rfl
      rw [e1]
      clear e1
      go_enter Tryz.func106, Tryz.ntmps106
      go_wp2
      go_ret
      exact ⟨by first | done | rfl | (simp; omega) | simp_all, hb⟩
def idxQ : List Pnt → Nat → Int
  | [], _ => -1
  | a :: t, k => if badQ a = true then (k : Int) else idxQ t (k + 1)
theorem idxQ_drop {zs : List Pnt} {k : Nat} {y : Pnt} (h : zs[k]? = some y) : idxQ (zs.drop k) k = if badQ y = true then (k : Int) else idxQ (zs.drop (k + 1)) (k + 1) := by
  obtain ⟨hk, rfl⟩ := List.getElem?_eq_some_iff.1 h
  rw [List.drop_eq_getElem_cons hk]; rfl
theorem idxQ_neg : ∀ (zs : List Pnt) (k : Nat), idxQ zs k < 0 → ∀ x ∈ zs, x.vl.length ≤ 13 ∧ x.fl.length ≤ 13
  | [], _, _ => fun x hx => by cases hx
  | a :: t, k, h => fun x hx => by
    unfold idxQ at h
    split at h
    · omega
    · rename_i hb
      rcases List.mem_cons.1 hx with rfl | hx
      · unfold badQ at hb
        have h2 : ¬ 13 < x.vl.length ∧ ¬ 13 < x.fl.length := by simpa using hb
        omega
      · exact idxQ_neg t (k + 1) h x hx
set_option maxHeartbeats 2000000 in
set_option maxRecDepth 100000 in
theorem idxPts (A : Option Addr) (ts : List Pnt) (n c : Nat) (w : World) (hG : Glob w) (hn : ts.length = n) (hn2 : n ≤ 9223372036854775807) (h : PntAt w A ts) :
    Calls Tryz.prog 157 #[.slice A n c, .func (Fn.func 106) #[] #[]] w fun e w' => e = .returned (.int .i64 (idxQ ts 0)) ∧ Below w.heap.size w w' := by
  have HI := Lib.hid h
  have hcall := call_gp1
  have hn1 : ts.length ≤ n := by omega
  have hn3 : n ≤ ts.length := by omega
  clear h hn
  go_enter Tryz.func157, Tryz.ntmps157
  go_wp2_with fail
  go_loopw [8] (fun iv wr => ∃ k : Nat, k ≤ n ∧ iv = .int .i64 (k : Int) ∧ Hid (idxQ ts 0 = idxQ (ts.drop k) k) ∧ Below w.heap.size w wr) (fun iv _ => n - (intOf iv).toNat)
  case atStart => exact ⟨0, Nat.zero_le _, rfl, rfl, Below.refl _ _⟩
  case round =>
    obtain ⟨k, hk, rfl, HK, hb⟩ := hrel
    by_cases hlt : k < n
    · obtain ⟨x, hx⟩ : ∃ x, ts[k]? = some x := ⟨_, List.getElem?_eq_getElem (by omega)⟩
      obtain ⟨b, o, rfl, hbs, p0, p1, p2⟩ := (HI.out.below hb) k x hx
      have HD := Lib.hid (idxQ_drop hx)
      have CP := Lib.hid (gpClo x)
      clear hx
      go_wp2_with fail
      ((with_reducible refine (CP.out.of hG hb).mono ?_); rintro e w2 ⟨rfl, hb2⟩)
      replace hb := bto hb hb2
      clear hb2 CP p0 p1 p2
      cases hq : badQ x
      rotate_left
      · have HV : Hid (idxQ ts 0 = k) := by show _ = _; rw [HK.out, HD.out, if_pos hq]
        clear hq HK HD
        go_wp2
        go_ret
        exact ⟨reti HV.out.symm, hb⟩
      · have HV : Hid (idxQ ts 0 = idxQ (ts.drop (k + 1)) (k + 1)) := by show _ = _; rw [HK.out, HD.out, if_neg (by rw [hq]; decide)]
        clear hq HK HD
        go_wp2
        go_roundw
        case rel => exact ⟨k + 1, by omega, by go_num, HV, hb⟩
        case measure => simp [intOf]; omega
    · have HV : Hid (idxQ ts 0 = -1) := by show _ = _; rw [HK.out, List.drop_of_length_le (by omega)]; rfl
      go_wp2
      go_ret
      exact ⟨reti HV.out.symm, hb⟩
set_option maxHeartbeats 1000000 in
set_option maxRecDepth 100000 in
theorem hasBadQ (A : Option Addr) (ts : List Pnt) (n c : Nat) (w : World) (hG : Glob w) (hn : ts.length = n) (hn2 : n ≤ 9223372036854775807) (h : PntAt w A ts) :
    Calls Tryz.prog 105 #[.slice A n c, .func (Fn.func 106) #[] #[]] w fun e w' => e = .returned (.bool (decide (0 ≤ idxQ ts 0))) ∧ Below w.heap.size w w' := by
  have C1 := Lib.hid (idxPts A ts n c w hG hn hn2 h)
  clear h hn
  generalize idxQ ts 0 = i at *
  go_enter Tryz.func105, Tryz.ntmps105
  go_wp2_with fail
  ((with_reducible refine C1.out.mono ?_); rintro e w2 ⟨rfl, hb2⟩)
  go_wp2
  go_ret
  exact ⟨rfl, hb2⟩
set_option maxHeartbeats 1000000 in
set_option maxRecDepth 100000 in
theorem gPoints (A : Option Addr) (ts : List Pnt) (n c : Nat) (w : World) (hG : Glob w) (hn : ts.length = n) (hn2 : n ≤ 9223372036854775807) (h : PntAt w A ts) :
    Calls Tryz.prog 55 #[.slice A n c] w fun e w' => ∃ b, e = .returned (.bool b) ∧ (b = false → (n ≤ 8 ∨ (65 ≤ n ∧ n ≤ 67)) ∧ ∀ t ∈ ts, t.vl.length ≤ 13 ∧ t.fl.length ≤ 13) ∧ Below w.heap.size w w' := by
  by_cases h1 : 8 < n ∧ n ≤ 64
  · have e1 : decide (8 < n) = true := decide_eq_true h1.1
    have e2 : decide (n ≤ 64) = true := decide_eq_true h1.2
    have h2 := h1.1
    have h3 := h1.2
    clear h1 h hn
    go_enter Tryz.func55, Tryz.ntmps55
    go_wp2
    go_ret
    exact .inr ⟨rfl, Below.refl _ _⟩
  by_cases h67 : 67 < n
  · have e1 : decide (8 < n) = true := decide_eq_true (by omega)
    have e2 : decide (n ≤ 64) = false := decide_eq_false (by omega)
    have e3 : decide (67 < n) = true := decide_eq_true h67
    have h2 : 8 < n := by omega
    have h3 : ¬ n ≤ 64 := by omega
    clear h1 h hn
    go_enter Tryz.func55, Tryz.ntmps55
    go_wp2
    go_ret
    exact .inr ⟨rfl, Below.refl _ _⟩
  have e3 : decide (67 < n) = false := decide_eq_false h67
  have C1 := Lib.hid (hasBadQ A ts n c w hG hn hn2 h)
  have HD := Lib.hid (idxQ_neg ts 0)
  clear h hn
  generalize idxQ ts 0 = i at *
  by_cases h8 : 8 < n
  · have e1 : decide (8 < n) = true := decide_eq_true h8
    have e2 : decide (n ≤ 64) = false := decide_eq_false (by omega)
    have h3 : ¬ n ≤ 64 := by omega
    clear h1
    go_enter Tryz.func55, Tryz.ntmps55
    go_wp2_with fail
    ((with_reducible refine C1.out.mono ?_); rintro e w2 ⟨rfl, hb2⟩)
    clear e1 e2 e3
    go_wp2
    go_ret
    exact ⟨_, rfl, fun h => ⟨by omega, HD.out (by simp at h; omega)⟩, hb2⟩
  · have e1 : decide (8 < n) = false := decide_eq_false h8
    clear h1
    go_enter Tryz.func55, Tryz.ntmps55
    go_wp2_with fail
    ((with_reducible refine C1.out.mono ?_); rintro e w2 ⟨rfl, hb2⟩)
    clear e1 e3
    go_wp2
    go_ret
    exact ⟨_, rfl, fun h => ⟨by omega, HD.out (by simp at h; omega)⟩, hb2⟩
/-- the payments of points -/
def ofA (n i : Nat) (t : Pnt) : List UInt8 := if i = 0 then canon (-(val t.vl + val t.fl)) else if i + 1 = n then t.vl else canon (-(val t.fl))
def ofR (n : Nat) : Nat → List Pnt → List Pay
  | _, [] => []
  | i, t :: r => ⟨(i : Int), ofA n i t⟩ :: ofR n (i + 1) r
theorem ofR_len (n : Nat) : ∀ (i : Nat) (ts : List Pnt), (ofR n i ts).length = ts.length
  | _, [] => rfl
  | i, _ :: r => congrArg (· + 1) (ofR_len n (i + 1) r)
theorem ofR_at (n : Nat) : ∀ {i : Nat} {ts : List Pnt} {k : Nat} {t : Pnt}, ts[k]? = some t → (ofR n i ts)[k]? = some ⟨((i + k : Nat) : Int), ofA n (i + k) t⟩
  | i, [], k, t, h => by simp at h
  | i, a :: r, 0, t, h => by
    have : a = t := by simpa using h
    subst this; rfl
  | i, a :: r, k + 1, t, h => by
    show (ofR n (i + 1) r)[k]? = _
    rw [ofR_at n (by simpa using h), show i + 1 + k = i + (k + 1) by omega]
def ofE (ts : List Pnt) : Int := if ¬ pntE ts = 0 then 1 else if ts.length < 2 then 11 else if 64 < ts.length then 4 else 0
def ofP (ts : List Pnt) : List Pay := if ofE ts = 0 then ofR ts.length 0 ts else []
theorem orow_zero (w : World) (B : Nat) (hB : B ≤ w.heap.size) : ORow (w.alloc (.cells #[] 27)) B (.slice (some ⟨w.heap.size, 0, none⟩) 0 0) [] := ⟨rfl, .inr ⟨w.heap.size, 0, #[], rfl, hB, heap_alloc_new w _, Nat.le_refl _, Nat.zero_le _, rfl, rfl⟩⟩
set_option maxHeartbeats 8000000 in
set_option maxRecDepth 100000 in
theorem twOf (A : Option Addr) (ts : List Pnt) (n c : Nat) (w : World) (hG : Glob w) (hn : ts.length = n) (hn67 : n ≤ 67) (hs : ∀ t ∈ ts, t.vl.length ≤ 13 ∧ t.fl.length ≤ 13) (h : PntAt w A ts) :
    Calls Tryz.prog 56 #[.slice A n c] w fun e w' => ∃ v, e = .returned (.tuple #[v, .int .i64 (ofE ts)]) ∧ ORow w' w.heap.size v (ofP ts) ∧ Below w.heap.size w w' := by
  have C1 := Lib.hid (twCheck A ts n c w hG hn hn67 (fun t ht => ⟨by have := (hs t ht).1; omega, by have := (hs t ht).2; omega⟩) h)
  obtain ⟨i0, hi, hz0, hz1, hz2⟩ := info_parts info_pay
  have HI := Lib.hid h
  have HS := Lib.hid hs
  have HNn := Lib.hid hn
  clear h hs
  by_cases g0 : pntE ts = 0
  rotate_left
  · have HV : Hid (ofE ts = 1) := if_pos g0
    have HP : Hid (ofP ts = []) := by show _ = _; unfold ofP; rw [HV.out]; rfl
    have e1 : (pntE ts != 0) = true := bneq' (intbne g0)
    generalize pntE ts = E at *
    clear g0 hn
    go_enter Tryz.func56, Tryz.ntmps56
    go_wp2_with fail
    ((with_reducible refine C1.out.mono ?_); rintro e w1 ⟨rfl, hb⟩)
    clear C1 HI HS
    go_wp2
    go_ret2
    exact ⟨.slice none 0 0, by rw [HV.out]; first | done | rfl, by rw [HP.out]; exact orow_nil _ _, hb⟩
  by_cases g2 : n < 2
  · have HV : Hid (ofE ts = 11) := by show _ = _; unfold ofE; rw [if_neg (fun h => h g0), if_pos (by omega)]
    have HP : Hid (ofP ts = []) := by show _ = _; unfold ofP; rw [HV.out]; rfl
    have e2 : decide (n < 2) = true := decide_eq_true g2
    rw [g0] at C1
    clear g0 hn
    go_enter Tryz.func56, Tryz.ntmps56
    go_wp2_with fail
    ((with_reducible refine C1.out.mono ?_); rintro e w1 ⟨rfl, hb⟩)
    clear C1 HI HS
    go_wp2
    go_ret2
    exact ⟨.slice none 0 0, by rw [HV.out]; first | done | rfl, by rw [HP.out]; exact orow_nil _ _, hb⟩
  have e2 : decide (n < 2) = false := decide_eq_false g2
  by_cases g64 : 64 < n
  · have HV : Hid (ofE ts = 4) := by show _ = _; unfold ofE; rw [if_neg (fun h => h g0), if_neg (by omega), if_pos (by omega)]
    have HP : Hid (ofP ts = []) := by show _ = _; unfold ofP; rw [HV.out]; rfl
    have e3 : decide (64 < n) = true := decide_eq_true g64
    rw [g0] at C1
    clear g0 hn
    go_enter Tryz.func56, Tryz.ntmps56
    go_wp2_with fail
    ((with_reducible refine C1.out.mono ?_); rintro e w1 ⟨rfl, hb⟩)
    clear C1 HI HS
    go_wp2
    go_ret2
    exact ⟨.slice none 0 0, by rw [HV.out]; first | done | rfl, by rw [HP.out]; exact orow_nil _ _, hb⟩
  have e3 : decide (64 < n) = false := decide_eq_false g64
  have HV : Hid (ofE ts = 0) := by show _ = _; unfold ofE; rw [if_neg (fun h => h g0), if_neg (by omega), if_neg (by omega)]
  have HP : Hid (ofP ts = ofR n 0 ts) := by show _ = _; unfold ofP; rw [HV.out, hn]; rfl
  have Tl := ofR_len n 0 ts
  rw [g0] at C1
  clear g0 hn
  go_enter Tryz.func56, Tryz.ntmps56
  go_wp2_with fail
  ((with_reducible refine C1.out.mono ?_); rintro e w1 ⟨rfl, hb⟩)
  clear C1
  go_wp2_with fail
  clear e2 e3
  go_loopw [4, 19] (fun a4 iv wr => ∃ (k : Nat) (u4 : Value), k ≤ n ∧ iv = .int .i64 (k : Int) ∧ u4 = a4 ∧ Hid (ORow wr w.heap.size a4 ((ofR n 0 ts).take k)) ∧ Below w.heap.size w wr) (fun _ iv _ => n - (intOf iv).toNat)
  case atStart => exact ⟨0, _, Nat.zero_le _, rfl, rfl, orow_nil _ _, hb⟩
  case round =>
    clear hb
    obtain ⟨k, a4, hk, rfl, rfl, HR, hb⟩ := hrel
    have hnl := HNn.out
    by_cases hlk : k < n
    rotate_left
    · have HR2 : Hid (ORow wr w.heap.size a4 (ofP ts)) := by
        have h := HR.out
        rw [List.take_of_length_le (by omega)] at h
        show ORow _ _ _ _
        rw [HP.out]; exact h
      clear HR
      go_wp2
      go_ret2
      exact ⟨_, by rw [HV.out]; first | done | rfl, HR2.out, hb⟩
    obtain ⟨t, ht⟩ : ∃ t, ts[k]? = some t := ⟨_, List.getElem?_eq_getElem (by omega)⟩
    obtain ⟨b, o, hA, hbs, p0, p1, p2⟩ := (HI.out.below hb) k t ht
    subst hA
    obtain ⟨hv13, hf13⟩ := HS.out t (List.mem_of_getElem? ht)
    have hz := ofR_at n (i := 0) ht
    rw [Nat.zero_add] at hz
    have HZ := Lib.hid hz
    have hl1 : ((ofR n 0 ts).take k).length = k := by rw [List.length_take]; omega
    have HL1 := Lib.hid hl1
    clear hz ht hl1
    have R := HR.out
    clear HR
    have x6 := Blk.new wr #[.int .i64 t.day, .string ⟨t.vl.toArray⟩, .string ⟨t.fl.toArray⟩] 86
    have hbA := below_alloc wr (.cells #[.int .i64 t.day, .string ⟨t.vl.toArray⟩, .string ⟨t.fl.toArray⟩] 86)
    replace R := R.below hbA
    replace hb := bto hb hbA
    clear hbA
    have q0 := x6.c 0
    have q1 := x6.c 1
    have q2 := x6.c 2
    have CN := Lib.hid (niNeg (l := t.fl) (by omega) rfl)
    go_wp2_with fail
    ((with_reducible refine (CN.out.of hG hb).mono ?_); rintro e w3 ⟨rfl, hb3⟩)
    clear q0 q1 q2 p0 p1 p2 CN
    replace x6 := x6.below hb3
    replace R := R.below hb3
    replace hb := bto hb hb3
    clear hb3
    have q0 := x6.c 0
    have q1 := x6.c 1
    have q2 := x6.c 2
    by_cases hk0 : k = 0
    · subst hk0
      have CA := Lib.hid (riAdd (l := t.vl) (l' := t.fl) (by omega) (by omega) rfl)
      have CM := Lib.hid (niNeg (l := canon (val t.vl + val t.fl)) (Nat.le_trans (canon_len_le _ 42 (by have h1 := val_lt_of hv13; have h2 := val_lt_of hf13; have h3 := Int.natAbs_add_le (val t.vl) (val t.fl); have h4 : (10 : Nat) ^ 13 + 10 ^ 13 ≤ 10 ^ 42 := (by decide); omega)) (by decide)) (show _ = -(val t.vl + val t.fl) by rw [val_canon]))
      go_wp2_with fail
      ((with_reducible refine (CA.out.of hG hb).mono ?_); rintro e w4 ⟨rfl, hb4⟩)
      clear q0 q1 q2
      replace R := R.below hb4
      replace hb := bto hb hb4
      clear hb4 CA
      go_wp2_with fail
      ((with_reducible refine (CM.out.of hG hb).mono ?_); rintro e w5 ⟨rfl, hb5⟩)
      replace R := R.below hb5
      replace hb := bto hb hb5
      clear hb5 CM x6
      have R' := R.below (below_alloc w5 (.cells #[.int .i64 ((0 : Nat) : Int), .string ⟨(canon (-(val t.vl + val t.fl))).toArray⟩] 27))
      have own1 : (w5.alloc (.cells #[.int .i64 ((0 : Nat) : Int), .string ⟨(canon (-(val t.vl + val t.fl))).toArray⟩] 27)).ownsRow w.heap.size 27 2 a4 0 (rowsP ((ofR n 0 ts).take 0)) := by
        have h : World.ownsRow _ w.heap.size 27 2 a4 ((ofR n 0 ts).take 0).length _ := R'
        rwa [HL1.out] at h
      have hw9 : w.heap.size ≤ w5.heap.size := hb.size
      clear R'
      go_wp2_with (at_builtin; refine wpList_append_fresh rfl _ _ 28 rfl w.heap.size 27 i0 (.agg #[.int .i64 0, .string ⟨#[]⟩]) 2 24 Tryz.underlying28 hi hz0 hz1 hz2 rfl (by decide) _ 0 _ rfl own1 ⟨w5.heap.size, 0, none⟩ 1 1 [.int .i64 ((0 : Nat) : Int), .string ⟨(canon (-(val t.vl + val t.fl))).toArray⟩] rfl rfl ?x1 ?x2 ?x3 ?x4 ?x5 ?_)
      case x1 =>
        intro j u hu
        match j with
        | 0 => simp at hu; subst hu; rw [Lib.add_plain]; simp [go_sem]
        | 1 => simp at hu; subst hu; rw [Lib.add_plain]; simp [go_sem]
        | j + 2 => simp at hu
      case x2 =>
        intro u hu
        simp at hu
        rcases hu with rfl | rfl <;> rfl
      case x3 => unfold maxLen; omega
      case x4 => omega
      case x5 => simp; omega
      intro v1 w9 hown1 hgr1 _
      have HR1 : Hid (ORow w9 w.heap.size v1 ((ofR n 0 ts).take (0 + 1))) := by
        show ORow _ _ _ _
        rw [← take_next HZ.out]
        exact ORow.app (x := ⟨((0 : Nat) : Int), _⟩) (by rw [show ofA n 0 t = canon (-(val t.vl + val t.fl)) from rfl]; exact hown1) HL1.out
      have hb9 := below_grown (bto hb (below_alloc w5 (.cells #[.int .i64 ((0 : Nat) : Int), .string ⟨(canon (-(val t.vl + val t.fl))).toArray⟩] 27))) hgr1 (fun g h => (World.ownsRow.lt own1 g h).1)
      clear hown1 hgr1 own1
      go_wp2
      go_roundw
      case rel => exact ⟨0 + 1, _, by omega, by go_num, rfl, HR1.out, hb9⟩
      case measure => simp [intOf]; omega
    have hkb : ((k : Int) == 0) = false := intbne (by omega)
    by_cases hkl : k + 1 = n
    · have hkc : ((k : Int) == (n : Int) - 1) = true := intbeq (by omega)
      have HKl := Lib.hid hkl
      clear hkl
      have R' := R.below (below_alloc w3 (.cells #[.int .i64 (k : Int), .string ⟨(t.vl).toArray⟩] 27))
      have own1 : (w3.alloc (.cells #[.int .i64 (k : Int), .string ⟨(t.vl).toArray⟩] 27)).ownsRow w.heap.size 27 2 a4 k (rowsP ((ofR n 0 ts).take k)) := by
        have h : World.ownsRow _ w.heap.size 27 2 a4 ((ofR n 0 ts).take k).length _ := R'
        rwa [HL1.out] at h
      have hw9 : w.heap.size ≤ w3.heap.size := hb.size
      clear R'
      go_wp2_with (at_builtin; refine wpList_append_fresh rfl _ _ 28 rfl w.heap.size 27 i0 (.agg #[.int .i64 0, .string ⟨#[]⟩]) 2 24 Tryz.underlying28 hi hz0 hz1 hz2 rfl (by decide) _ k _ rfl own1 ⟨w3.heap.size, 0, none⟩ 1 1 [.int .i64 (k : Int), .string ⟨(t.vl).toArray⟩] rfl rfl ?y1 ?y2 ?y3 ?y4 ?y5 ?_)
      case y1 =>
        intro j u hu
        match j with
        | 0 => simp at hu; subst hu; rw [Lib.add_plain]; simp [go_sem]
        | 1 => simp at hu; subst hu; rw [Lib.add_plain]; simp [go_sem]
        | j + 2 => simp at hu
      case y2 =>
        intro u hu
        simp at hu
        rcases hu with rfl | rfl <;> rfl
      case y3 => unfold maxLen; omega
      case y4 => omega
      case y5 => simp; omega
      intro v1 w9 hown1 hgr1 _
      have HR1 : Hid (ORow w9 w.heap.size v1 ((ofR n 0 ts).take (k + 1))) := by
        show ORow _ _ _ _
        rw [← take_next HZ.out]
        exact ORow.app (x := ⟨(k : Int), _⟩) (by rw [show ofA n k t = t.vl from by unfold ofA; rw [if_neg hk0, if_pos HKl.out]]; exact hown1) HL1.out
      have hb9 := below_grown (bto hb (below_alloc w3 (.cells #[.int .i64 (k : Int), .string ⟨(t.vl).toArray⟩] 27))) hgr1 (fun g h => (World.ownsRow.lt own1 g h).1)
      clear hown1 hgr1 own1
      go_wp2
      go_roundw
      case rel => exact ⟨k + 1, _, by omega, by go_num, rfl, HR1.out, hb9⟩
      case measure => simp [intOf]; omega
    · have hkc : ((k : Int) == (n : Int) - 1) = false := intbne (by omega)
      have R' := R.below (below_alloc w3 (.cells #[.int .i64 (k : Int), .string ⟨(canon (-(val t.fl))).toArray⟩] 27))
      have own1 : (w3.alloc (.cells #[.int .i64 (k : Int), .string ⟨(canon (-(val t.fl))).toArray⟩] 27)).ownsRow w.heap.size 27 2 a4 k (rowsP ((ofR n 0 ts).take k)) := by
        have h : World.ownsRow _ w.heap.size 27 2 a4 ((ofR n 0 ts).take k).length _ := R'
        rwa [HL1.out] at h
      have hw9 : w.heap.size ≤ w3.heap.size := hb.size
      clear R'
      go_wp2_with (at_builtin; refine wpList_append_fresh rfl _ _ 28 rfl w.heap.size 27 i0 (.agg #[.int .i64 0, .string ⟨#[]⟩]) 2 24 Tryz.underlying28 hi hz0 hz1 hz2 rfl (by decide) _ k _ rfl own1 ⟨w3.heap.size, 0, none⟩ 1 1 [.int .i64 (k : Int), .string ⟨(canon (-(val t.fl))).toArray⟩] rfl rfl ?z1 ?z2 ?z3 ?z4 ?z5 ?_)
      case z1 =>
        intro j u hu
        match j with
        | 0 => simp at hu; subst hu; rw [Lib.add_plain]; simp [go_sem]
        | 1 => simp at hu; subst hu; rw [Lib.add_plain]; simp [go_sem]
        | j + 2 => simp at hu
      case z2 =>
        intro u hu
        simp at hu
        rcases hu with rfl | rfl <;> rfl
      case z3 => unfold maxLen; omega
      case z4 => omega
      case z5 => simp; omega
      intro v1 w9 hown1 hgr1 _
      have HR1 : Hid (ORow w9 w.heap.size v1 ((ofR n 0 ts).take (k + 1))) := by
        show ORow _ _ _ _
        rw [← take_next HZ.out]
        exact ORow.app (x := ⟨(k : Int), _⟩) (by rw [show ofA n k t = canon (-(val t.fl)) from by unfold ofA; rw [if_neg hk0, if_neg hkl]]; exact hown1) HL1.out
      have hb9 := below_grown (bto hb (below_alloc w3 (.cells #[.int .i64 (k : Int), .string ⟨(canon (-(val t.fl))).toArray⟩] 27))) hgr1 (fun g h => (World.ownsRow.lt own1 g h).1)
      clear hown1 hgr1 own1
      go_wp2
      go_roundw
      case rel => exact ⟨k + 1, _, by omega, by go_num, rfl, HR1.out, hb9⟩
      case measure => simp [intOf]; omega
set_option maxHeartbeats 8000000 in
set_option maxRecDepth 100000 in
theorem rwOf (A : Option Addr) (ts : List Pnt) (n c : Nat) (w : World) (hG : Glob w) (hn : ts.length = n) (hn67 : n ≤ 67) (hs : ∀ t ∈ ts, t.vl.length ≤ 13 ∧ t.fl.length ≤ 13) (h : PntAt w A ts) :
    Calls Tryz.prog 57 #[.slice A n c] w fun e w' => ∃ v, e = .returned (.tuple #[v, .int .i64 (ofE ts)]) ∧ ORow w' w.heap.size v (ofP ts) ∧ Below w.heap.size w w' := by
  have C1 := Lib.hid (rwCheck A ts n c w hG hn hn67 (fun t ht => ⟨by have := (hs t ht).1; omega, by have := (hs t ht).2; omega⟩) h)
  obtain ⟨i0, hi, hz0, hz1, hz2⟩ := info_parts info_pay
  have HI := Lib.hid h
  have HS := Lib.hid hs
  have HNn := Lib.hid hn
  clear h hs
  by_cases g0 : pntE ts = 0
  rotate_left
  · have HV : Hid (ofE ts = 1) := if_pos g0
    have HP : Hid (ofP ts = []) := by show _ = _; unfold ofP; rw [HV.out]; rfl
    have e1 : (pntE ts != 0) = true := bneq' (intbne g0)
    generalize pntE ts = E at *
    clear g0 hn
    go_enter Tryz.func57, Tryz.ntmps57
    go_wp2_with fail
    ((with_reducible refine C1.out.mono ?_); rintro e w1 ⟨rfl, hb⟩)
    clear C1 HI HS
    go_wp2
    go_ret2
    exact ⟨_, by rw [HV.out]; first | done | rfl, by rw [HP.out]; exact orow_zero _ _ hb.size, bto hb (below_alloc _ _)⟩
  by_cases g2 : n < 2
  · have HV : Hid (ofE ts = 11) := by show _ = _; unfold ofE; rw [if_neg (fun h => h g0), if_pos (by omega)]
    have HP : Hid (ofP ts = []) := by show _ = _; unfold ofP; rw [HV.out]; rfl
    have e2 : decide (n < 2) = true := decide_eq_true g2
    rw [g0] at C1
    clear g0 hn
    go_enter Tryz.func57, Tryz.ntmps57
    go_wp2_with fail
    ((with_reducible refine C1.out.mono ?_); rintro e w1 ⟨rfl, hb⟩)
    clear C1 HI HS
    go_wp2
    go_ret2
    exact ⟨_, by rw [HV.out]; first | done | rfl, by rw [HP.out]; exact orow_zero _ _ hb.size, bto hb (below_alloc _ _)⟩
  have e2 : decide (n < 2) = false := decide_eq_false g2
  by_cases g64 : 64 < n
  · have HV : Hid (ofE ts = 4) := by show _ = _; unfold ofE; rw [if_neg (fun h => h g0), if_neg (by omega), if_pos (by omega)]
    have HP : Hid (ofP ts = []) := by show _ = _; unfold ofP; rw [HV.out]; rfl
    have e3 : decide (64 < n) = true := decide_eq_true g64
    rw [g0] at C1
    clear g0 hn
    go_enter Tryz.func57, Tryz.ntmps57
    go_wp2_with fail
    ((with_reducible refine C1.out.mono ?_); rintro e w1 ⟨rfl, hb⟩)
    clear C1 HI HS
    go_wp2
    go_ret2
    exact ⟨_, by rw [HV.out]; first | done | rfl, by rw [HP.out]; exact orow_zero _ _ hb.size, bto hb (below_alloc _ _)⟩
  have e3 : decide (64 < n) = false := decide_eq_false g64
  have HV : Hid (ofE ts = 0) := by show _ = _; unfold ofE; rw [if_neg (fun h => h g0), if_neg (by omega), if_neg (by omega)]
  have HP : Hid (ofP ts = ofR n 0 ts) := by show _ = _; unfold ofP; rw [HV.out, hn]; rfl
  have Tl := ofR_len n 0 ts
  rw [g0] at C1
  clear g0 hn
  go_enter Tryz.func57, Tryz.ntmps57
  go_wp2_with fail
  ((with_reducible refine C1.out.mono ?_); rintro e w1 ⟨rfl, hb⟩)
  clear C1
  go_wp2_with fail
  clear e2 e3
  go_loopw [4, 5] (fun a4 iv wr => ∃ (k : Nat) (u4 : Value), k ≤ n ∧ iv = .int .i64 (k : Int) ∧ u4 = a4 ∧ Hid (ORow wr w.heap.size a4 ((ofR n 0 ts).take k)) ∧ Below w.heap.size w wr) (fun _ iv _ => n - (intOf iv).toNat)
  case atStart => exact ⟨0, _, Nat.zero_le _, rfl, rfl, orow_zero _ _ hb.size, bto hb (below_alloc _ _)⟩
  case round =>
    clear hb
    obtain ⟨k, a4, hk, rfl, rfl, HR, hb⟩ := hrel
    have hnl := HNn.out
    by_cases hlk : k < n
    rotate_left
    · have HR2 : Hid (ORow wr w.heap.size a4 (ofP ts)) := by
        have h := HR.out
        rw [List.take_of_length_le (by omega)] at h
        show ORow _ _ _ _
        rw [HP.out]; exact h
      clear HR
      go_wp2
      go_ret2
      exact ⟨_, by rw [HV.out]; first | done | rfl, HR2.out, hb⟩
    obtain ⟨t, ht⟩ : ∃ t, ts[k]? = some t := ⟨_, List.getElem?_eq_getElem (by omega)⟩
    obtain ⟨b, o, hA, hbs, p0, p1, p2⟩ := (HI.out.below hb) k t ht
    subst hA
    obtain ⟨hv13, hf13⟩ := HS.out t (List.mem_of_getElem? ht)
    have hz := ofR_at n (i := 0) ht
    rw [Nat.zero_add] at hz
    have HZ := Lib.hid hz
    have hl1 : ((ofR n 0 ts).take k).length = k := by rw [List.length_take]; omega
    have HL1 := Lib.hid hl1
    have HTt := Lib.hid ht
    clear hz ht hl1
    have R := HR.out
    clear HR
    have n1 : ¬ k = 0 ∨ k = 0 := by omega
    have CN := Lib.hid (qNeg (l := t.fl) (by omega) rfl)
    go_wp2_with fail
    ((with_reducible refine (CN.out.of hG hb).mono ?_); rintro e w3 ⟨rfl, hb3⟩)
    clear p0 p1 p2 CN n1
    replace R := R.below hb3
    replace hb := bto hb hb3
    clear hb3
    obtain ⟨b', o', hA', hbs', p0, p1, p2⟩ := (HI.out.below hb) k t HTt.out
    obtain ⟨rfl, rfl⟩ : b = b' ∧ o = o' := by injection hA' with hA'; injection hA' with h1 h2; exact ⟨h1, h2⟩
    clear hA'
    by_cases hk0 : k = 0
    · subst hk0
      have CM := Lib.hid (qSub (l := canon (-(val t.fl))) (l' := t.vl) (Nat.le_trans (canon_len_le _ 42 (by have h2 := val_lt_of hf13; rw [Int.natAbs_neg]; have h4 : (10 : Nat) ^ 13 ≤ 10 ^ 42 := (by decide); omega)) (by decide)) (by omega) (show _ = -(val t.vl + val t.fl) by rw [val_canon]; omega))
      go_wp2_with fail
      ((with_reducible refine (CM.out.of hG hb).mono ?_); rintro e w5 ⟨rfl, hb5⟩)
      clear p0 p1 p2
      replace R := R.below hb5
      replace hb := bto hb hb5
      clear hb5 CM
      have R' := R.below (below_alloc w5 (.cells #[.int .i64 ((0 : Nat) : Int), .string ⟨(canon (-(val t.vl + val t.fl))).toArray⟩] 27))
      have own1 : (w5.alloc (.cells #[.int .i64 ((0 : Nat) : Int), .string ⟨(canon (-(val t.vl + val t.fl))).toArray⟩] 27)).ownsRow w.heap.size 27 2 a4 0 (rowsP ((ofR n 0 ts).take 0)) := by
        have h : World.ownsRow _ w.heap.size 27 2 a4 ((ofR n 0 ts).take 0).length _ := R'
        rwa [HL1.out] at h
      have hw9 : w.heap.size ≤ w5.heap.size := hb.size
      clear R'
      go_wp2_with (at_builtin; refine wpList_append_fresh rfl _ _ 28 rfl w.heap.size 27 i0 (.agg #[.int .i64 0, .string ⟨#[]⟩]) 2 24 Tryz.underlying28 hi hz0 hz1 hz2 rfl (by decide) _ 0 _ rfl own1 ⟨w5.heap.size, 0, none⟩ 1 1 [.int .i64 ((0 : Nat) : Int), .string ⟨(canon (-(val t.vl + val t.fl))).toArray⟩] rfl rfl ?x1 ?x2 ?x3 ?x4 ?x5 ?_)
      case x1 =>
        intro j u hu
        match j with
        | 0 => simp at hu; subst hu; rw [Lib.add_plain]; simp [go_sem]
        | 1 => simp at hu; subst hu; rw [Lib.add_plain]; simp [go_sem]
        | j + 2 => simp at hu
      case x2 =>
        intro u hu
        simp at hu
        rcases hu with rfl | rfl <;> rfl
      case x3 => unfold maxLen; omega
      case x4 => omega
      case x5 => simp; omega
      intro v1 w9 hown1 hgr1 _
      have HR1 : Hid (ORow w9 w.heap.size v1 ((ofR n 0 ts).take (0 + 1))) := by
        show ORow _ _ _ _
        rw [← take_next HZ.out]
        exact ORow.app (x := ⟨((0 : Nat) : Int), _⟩) (by rw [show ofA n 0 t = canon (-(val t.vl + val t.fl)) from rfl]; exact hown1) HL1.out
      have hb9 := below_grown (bto hb (below_alloc w5 (.cells #[.int .i64 ((0 : Nat) : Int), .string ⟨(canon (-(val t.vl + val t.fl))).toArray⟩] 27))) hgr1 (fun g h => (World.ownsRow.lt own1 g h).1)
      clear hown1 hgr1 own1
      go_wp2
      go_roundw
      case rel => exact ⟨0 + 1, _, by omega, by go_num, rfl, HR1.out, hb9⟩
      case measure => simp [intOf]; omega
    have hkb : ((k : Int) == 0) = false := intbne (by omega)
    by_cases hkl : k + 1 = n
    · have hkc : ((k : Int) == (n : Int) - 1) = true := intbeq (by omega)
      have HKl := Lib.hid hkl
      clear hkl
      have R' := R.below (below_alloc w3 (.cells #[.int .i64 (k : Int), .string ⟨(t.vl).toArray⟩] 27))
      have own1 : (w3.alloc (.cells #[.int .i64 (k : Int), .string ⟨(t.vl).toArray⟩] 27)).ownsRow w.heap.size 27 2 a4 k (rowsP ((ofR n 0 ts).take k)) := by
        have h : World.ownsRow _ w.heap.size 27 2 a4 ((ofR n 0 ts).take k).length _ := R'
        rwa [HL1.out] at h
      have hw9 : w.heap.size ≤ w3.heap.size := hb.size
      clear R'
      go_wp2_with (at_builtin; refine wpList_append_fresh rfl _ _ 28 rfl w.heap.size 27 i0 (.agg #[.int .i64 0, .string ⟨#[]⟩]) 2 24 Tryz.underlying28 hi hz0 hz1 hz2 rfl (by decide) _ k _ rfl own1 ⟨w3.heap.size, 0, none⟩ 1 1 [.int .i64 (k : Int), .string ⟨(t.vl).toArray⟩] rfl rfl ?y1 ?y2 ?y3 ?y4 ?y5 ?_)
      case y1 =>
        intro j u hu
        match j with
        | 0 => simp at hu; subst hu; rw [Lib.add_plain]; simp [go_sem]
        | 1 => simp at hu; subst hu; rw [Lib.add_plain]; simp [go_sem]
        | j + 2 => simp at hu
      case y2 =>
        intro u hu
        simp at hu
        rcases hu with rfl | rfl <;> rfl
      case y3 => unfold maxLen; omega
      case y4 => omega
      case y5 => simp; omega
      intro v1 w9 hown1 hgr1 _
      have HR1 : Hid (ORow w9 w.heap.size v1 ((ofR n 0 ts).take (k + 1))) := by
        show ORow _ _ _ _
        rw [← take_next HZ.out]
        exact ORow.app (x := ⟨(k : Int), _⟩) (by rw [show ofA n k t = t.vl from by unfold ofA; rw [if_neg hk0, if_pos HKl.out]]; exact hown1) HL1.out
      have hb9 := below_grown (bto hb (below_alloc w3 (.cells #[.int .i64 (k : Int), .string ⟨(t.vl).toArray⟩] 27))) hgr1 (fun g h => (World.ownsRow.lt own1 g h).1)
      clear hown1 hgr1 own1
      go_wp2
      go_roundw
      case rel => exact ⟨k + 1, _, by omega, by go_num, rfl, HR1.out, hb9⟩
      case measure => simp [intOf]; omega
    · have hkc : ((k : Int) == (n : Int) - 1) = false := intbne (by omega)
      have R' := R.below (below_alloc w3 (.cells #[.int .i64 (k : Int), .string ⟨(canon (-(val t.fl))).toArray⟩] 27))
      have own1 : (w3.alloc (.cells #[.int .i64 (k : Int), .string ⟨(canon (-(val t.fl))).toArray⟩] 27)).ownsRow w.heap.size 27 2 a4 k (rowsP ((ofR n 0 ts).take k)) := by
        have h : World.ownsRow _ w.heap.size 27 2 a4 ((ofR n 0 ts).take k).length _ := R'
        rwa [HL1.out] at h
      have hw9 : w.heap.size ≤ w3.heap.size := hb.size
      clear R'
      go_wp2_with (at_builtin; refine wpList_append_fresh rfl _ _ 28 rfl w.heap.size 27 i0 (.agg #[.int .i64 0, .string ⟨#[]⟩]) 2 24 Tryz.underlying28 hi hz0 hz1 hz2 rfl (by decide) _ k _ rfl own1 ⟨w3.heap.size, 0, none⟩ 1 1 [.int .i64 (k : Int), .string ⟨(canon (-(val t.fl))).toArray⟩] rfl rfl ?z1 ?z2 ?z3 ?z4 ?z5 ?_)
      case z1 =>
        intro j u hu
        match j with
        | 0 => simp at hu; subst hu; rw [Lib.add_plain]; simp [go_sem]
        | 1 => simp at hu; subst hu; rw [Lib.add_plain]; simp [go_sem]
        | j + 2 => simp at hu
      case z2 =>
        intro u hu
        simp at hu
        rcases hu with rfl | rfl <;> rfl
      case z3 => unfold maxLen; omega
      case z4 => omega
      case z5 => simp; omega
      intro v1 w9 hown1 hgr1 _
      have HR1 : Hid (ORow w9 w.heap.size v1 ((ofR n 0 ts).take (k + 1))) := by
        show ORow _ _ _ _
        rw [← take_next HZ.out]
        exact ORow.app (x := ⟨(k : Int), _⟩) (by rw [show ofA n k t = canon (-(val t.fl)) from by unfold ofA; rw [if_neg hk0, if_neg hkl]]; exact hown1) HL1.out
      have hb9 := below_grown (bto hb (below_alloc w3 (.cells #[.int .i64 (k : Int), .string ⟨(canon (-(val t.fl))).toArray⟩] 27))) hgr1 (fun g h => (World.ownsRow.lt own1 g h).1)
      clear hown1 hgr1 own1
      go_wp2
      go_roundw
      case rel => exact ⟨k + 1, _, by omega, by go_num, rfl, HR1.out, hb9⟩
      case measure => simp [intOf]; omega
set_option maxHeartbeats 4000000 in
set_option maxRecDepth 100000 in
theorem rSame (A B : Option Addr) (xs : List Pay) (n c c' : Nat) (w : World) (hn : xs.length = n) (hn2 : n ≤ 1000000) (h : PayAt w A xs) (h' : PayAt w B xs) :
    Calls Tryz.prog 58 #[.slice A n c, .slice B n c'] w fun e w' => e = .returned (.bool true) ∧ Below w.heap.size w w' := by
  have HI := Lib.hid h
  have HJ := Lib.hid h'
  have HNn := Lib.hid hn
  clear h h' hn
  go_enter Tryz.func58, Tryz.ntmps58
  go_wp2_with fail
  go_loopw [5] (fun iv wr => ∃ k : Nat, k ≤ n ∧ iv = .int .i64 (k : Int) ∧ Below w.heap.size w wr) (fun iv _ => n - (intOf iv).toNat)
  case atStart => exact ⟨0, Nat.zero_le _, rfl, Below.refl _ _⟩
  case round =>
    obtain ⟨k, hk, rfl, hb⟩ := hrel
    have hnl := HNn.out
    by_cases hlk : k < n
    · obtain ⟨t, ht⟩ : ∃ t, xs[k]? = some t := ⟨_, List.getElem?_eq_getElem (by omega)⟩
      obtain ⟨b, o, hA, hbs, p0, p1⟩ := (HI.out.below hb) k t ht
      obtain ⟨b', o', hB, hbs', r0, r1⟩ := (HJ.out.below hb) k t ht
      subst hA hB
      clear ht
      go_wp2_with fail
      refine wp_region_kept (by kernel_rfl) (by kernel_rfl) ?_
      refine kept_val _ (fun _ => rfl) (fun ρ w hw => by go_simp; first | done | with_reducible rfl) ?_
      simp only [Act.put, List.setIfInBounds_toArray, List.set_cons_zero, List.set_cons_succ, Nat.reduceAdd]
      refine kept_val _ (fun _ => rfl) (fun ρ w hw => by go_simp; first | done | with_reducible rfl) ?_
      simp only [Act.put, List.setIfInBounds_toArray, List.set_cons_zero, List.set_cons_succ, Nat.reduceAdd]
      refine kept_val _ (fun _ => rfl) (fun ρ w hw => by go_simp; first | done | with_reducible rfl) ?_
      simp only [Act.put, List.setIfInBounds_toArray, List.set_cons_zero, List.set_cons_succ, Nat.reduceAdd]
      refine kept_val _ (fun _ => rfl) (fun ρ w hw => by have q0 := (hw.cell (p := ⟨b, o + k * 2, none⟩) hbs).trans p0; have q1 := (hw.cell (p := ⟨b, o + k * 2 + 1, none⟩) hbs).trans p1; go_simp; first | done | with_reducible rfl) ?_
      simp only [Act.put, List.setIfInBounds_toArray, List.set_cons_zero, List.set_cons_succ, Nat.reduceAdd]
      refine kept_val _ (fun _ => rfl) (fun ρ w hw => by go_simp; first | done | with_reducible rfl) ?_
      simp only [Act.put, List.setIfInBounds_toArray, List.set_cons_zero, List.set_cons_succ, Nat.reduceAdd]
      refine kept_val _ (fun _ => rfl) (fun ρ w hw => by go_simp; first | done | with_reducible rfl) ?_
      simp only [Act.put, List.setIfInBounds_toArray, List.set_cons_zero, List.set_cons_succ, Nat.reduceAdd]
      refine kept_val _ (fun _ => rfl) (fun ρ w hw => by go_simp; first | done | with_reducible rfl) ?_
      simp only [Act.put, List.setIfInBounds_toArray, List.set_cons_zero, List.set_cons_succ, Nat.reduceAdd]
      refine kept_val _ (fun _ => rfl) (fun ρ w hw => by have q0 := (hw.cell (p := ⟨b', o' + k * 2, none⟩) hbs').trans r0; have q1 := (hw.cell (p := ⟨b', o' + k * 2 + 1, none⟩) hbs').trans r1; go_simp; first | done | with_reducible rfl) ?_
      simp only [Act.put, List.setIfInBounds_toArray, List.set_cons_zero, List.set_cons_succ, Nat.reduceAdd]
      refine kept_val _ (fun _ => rfl) (fun ρ w hw => by go_simp; first | done | with_reducible rfl) ?_
      simp only [Act.put, List.setIfInBounds_toArray, List.set_cons_zero, List.set_cons_succ, Nat.reduceAdd]
      refine kept_end (fun ρ w3 hF => ?_)
      have hb3 := bto hb hF.below
      clear hF p0 p1 r0 r1
      go_wp2
      go_roundw
      case rel => exact ⟨k + 1, by omega, by go_num, hb3⟩
      case measure => simp [intOf]; omega
    · go_wp2
      go_ret
      exact ⟨rfl, hb⟩
end Go.Proofs.YtolbojchdlojnaaGreatDoor
