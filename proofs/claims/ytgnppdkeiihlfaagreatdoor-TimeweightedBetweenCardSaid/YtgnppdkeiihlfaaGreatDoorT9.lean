/- Texts put together: Ta Pt Tb Tp Td Tc. -/
import Derived.Test.YtgnppdkeiihlfaaGreatDoorT8
import Derived.Shelf.SlicesE.Clone
import Derived.Laws.StructEq
namespace Go.Proofs.YtgnppdkeiihlfaaGreatDoor
open Go.RowKit Num
structure Pnt where
  day : Int
  vl : List UInt8
  fl : List UInt8
def PntAt (w : World) (A : Option Addr) (ts : List Pnt) : Prop := ∀ i t, ts[i]? = some t → ∃ b o, A = some ⟨b, o, none⟩ ∧ b < w.heap.size ∧ w.cell? ⟨b, o + i * 3, none⟩ = some (.int .i64 t.day) ∧ w.cell? ⟨b, o + i * 3 + 1, none⟩ = some (.string ⟨t.vl.toArray⟩) ∧ w.cell? ⟨b, o + i * 3 + 2, none⟩ = some (.string ⟨t.fl.toArray⟩)
theorem PntAt.below {w w' : World} {A : Option Addr} {ts : List Pnt} (h : PntAt w A ts) (hb : Below w.heap.size w w') : PntAt w' A ts := fun i t ht => by
  obtain ⟨b, o, h0, h1, h2, h3, h4⟩ := h i t ht
  exact ⟨b, o, h0, Nat.lt_of_lt_of_le h1 hb.size, (hb.cell (p := ⟨b, o + i * 3, none⟩) h1).trans h2, (hb.cell (p := ⟨b, o + i * 3 + 1, none⟩) h1).trans h3, (hb.cell (p := ⟨b, o + i * 3 + 2, none⟩) h1).trans h4⟩
def ordB : Option Int → Int → Bool
  | none, _ => false
  | some q, d => decide (d ≤ q)
/-- too many digits -/
def longB (l : List UInt8) : Bool := decide (40 < digN l)
/-- why points are no series -/
def pntL : Option Int → List Pnt → Int
  | _, [] => 0
  | o, p :: r => if dayB p.day = false then 13 else if ¬ p.vl = canon (val p.vl) then 1 else if ¬ p.fl = canon (val p.fl) then 1 else if longB p.vl = true then 4 else if longB p.fl = true then 4 else if ordB o p.day = true then 8 else if val p.vl < 0 then 2 else if r ≠ [] ∧ val p.vl + val p.fl ≤ 0 then 2 else pntL (some p.day) r
def pntE (ts : List Pnt) : Int := if ts.length = 0 then 11 else if 400 < ts.length then 4 else pntL none ts
def prevD (ts : List Pnt) : Nat → Option Int
  | 0 => none
  | k + 1 => (ts[k]?).map (·.day)
theorem pntL_step {ts : List Pnt} {k n : Nat} {p : Pnt} (h : ts[k]? = some p) (hn : ts.length = n) : pntL (prevD ts k) (ts.drop k) = if dayB p.day = false then 13 else if ¬ p.vl = canon (val p.vl) then 1 else if ¬ p.fl = canon (val p.fl) then 1 else if longB p.vl = true then 4 else if longB p.fl = true then 4 else if ordB (prevD ts k) p.day = true then 8 else if val p.vl < 0 then 2 else if k + 1 < n ∧ val p.vl + val p.fl ≤ 0 then 2 else pntL (prevD ts (k + 1)) (ts.drop (k + 1)) := by
  obtain ⟨hk, rfl⟩ := List.getElem?_eq_some_iff.1 h
  have e : prevD ts (k + 1) = some ts[k].day := by show (ts[k]?).map (·.day) = _; rw [h]; rfl
  have e2 : (ts.drop (k + 1) ≠ [] ∧ val ts[k].vl + val ts[k].fl ≤ 0) = (k + 1 < n ∧ val ts[k].vl + val ts[k].fl ≤ 0) := by
    have : (ts.drop (k + 1) ≠ []) = (k + 1 < n) := by
      rw [ne_eq, List.drop_eq_nil_iff]
      apply propext
      omega
    rw [this]
  rw [List.drop_eq_getElem_cons hk, e]
  show (if dayB ts[k].day = false then (13 : Int) else _) = _
  simp only [e2]
theorem pntL_end {ts : List Pnt} {k : Nat} (h : ts.length ≤ k) : pntL (prevD ts k) (ts.drop k) = 0 := by rw [List.drop_of_length_le h]; cases prevD ts k <;> rfl
set_option maxHeartbeats 1000000 in
set_option maxRecDepth 100000 in
theorem tValid (d : Int) : Ret 187 #[.int .i64 d] (.bool (dayB d)) := fun w hG => by
  by_cases h1 : -25567 ≤ d
  · have e1 : decide (-25567 ≤ d) = true := decide_eq_true h1
    have HV : Hid (dayB d = decide (d ≤ 84005)) := by show _ = _; unfold dayB; rw [e1]; rfl
    go_enter Tryz.func187, Tryz.ntmps187
    go_wp2
    go_ret
    exact ⟨retb HV.out.symm, Below.refl _ _⟩
  · have e1 : decide (-25567 ≤ d) = false := decide_eq_false h1
    have HV : Hid (dayB d = false) := by show _ = _; unfold dayB; rw [e1]; rfl
    go_enter Tryz.func187, Tryz.ntmps187
    go_wp2
    go_ret
    exact ⟨retb HV.out.symm, Below.refl _ _⟩
set_option maxHeartbeats 1000000 in
set_option maxRecDepth 100000 in
theorem tLong {l : List UInt8} (hl : l.length ≤ 1000000) : Ret 188 #[.string ⟨l.toArray⟩] (.bool (longB l)) := fun w hG => by
  cases l with
  | nil =>
    have k1 : decide (0 < ([] : List UInt8).length) = false := rfl
    go_enter Tryz.func188, Tryz.ntmps188
    go_wp2
    go_ret
    exact ⟨retb (by decide), Below.refl _ _⟩
  | cons c t =>
    have htl : t.length ≤ 999999 := by simp only [List.length_cons] at hl; omega
    have k1 : decide (0 < (c :: t).length) = true := decide_eq_true (by simp)
    have k3 : 0 < (c :: t).length := by simp
    by_cases hc : c.toNat = 45
    · have k2 : ∀ hp, ((((⟨(c :: t).toArray⟩ : ByteArray)[0]'hp).toNat : Int) == 45) = true := fun hp => by rw [beq_iff_eq]; show ((c.toNat : Nat) : Int) = 45; omega
      have HV : Hid (longB (c :: t) = decide (40 < (t.length : Int))) := by show _ = _; unfold longB; rw [show digN (c :: t) = t.length from if_pos hc]
      clear hc
      go_enter Tryz.func188, Tryz.ntmps188
      go_wp2
      go_ret
      exact ⟨retb (by rw [HV.out]; first | done | rfl | (simp; done) | (apply decide_eq_decide.2; simp; done) | (apply decide_eq_decide.2; omega) | simp_all), Below.refl _ _⟩
    · have k2 : ∀ hp, ((((⟨(c :: t).toArray⟩ : ByteArray)[0]'hp).toNat : Int) == 45) = false := fun hp => by rw [beq_eq_false_iff_ne]; show ¬ ((c.toNat : Nat) : Int) = 45; omega
      have HV : Hid (longB (c :: t) = decide (40 < (t.length : Int) + 1)) := by show _ = _; unfold longB; rw [show digN (c :: t) = t.length + 1 from if_neg hc]
      clear hc
      go_enter Tryz.func188, Tryz.ntmps188
      go_wp2
      go_ret
      exact ⟨retb (by rw [HV.out]; first | done | rfl | (simp; done) | (apply decide_eq_decide.2; simp; done) | (apply decide_eq_decide.2; omega) | simp_all), Below.refl _ _⟩
set_option maxHeartbeats 1000000 in
set_option maxRecDepth 100000 in
theorem tStart (t : Pnt) (h1 : t.vl.length ≤ 60) (h2 : t.fl.length ≤ 60) : Ret 189 #[.agg #[.int .i64 t.day, .string ⟨t.vl.toArray⟩, .string ⟨t.fl.toArray⟩]] (.string ⟨(canon (val t.vl + val t.fl)).toArray⟩) := fun w hG => by
  have hb := below_alloc w (.cells #[.int .i64 t.day, .string ⟨t.vl.toArray⟩, .string ⟨t.fl.toArray⟩] 74)
  have x1 := Blk.new w #[.int .i64 t.day, .string ⟨t.vl.toArray⟩, .string ⟨t.fl.toArray⟩] 74
  have C1 := Lib.hid (riAdd (l := t.vl) (l' := t.fl) (by omega) (by omega) rfl)
  have q0 := x1.c 0
  have q1 := x1.c 1
  have q2 := x1.c 2
  generalize canon (val t.vl + val t.fl) = y at *
  clear x1
  go_enter Tryz.func189, Tryz.ntmps189
  go_wp2_with fail
  ((with_reducible refine (C1.out.of hG hb).mono ?_); rintro e w2 ⟨rfl, hb2⟩)
  go_wp2
  go_ret
  exact ⟨rfl, bto hb hb2⟩
theorem cmp_neg {v : Int} : (cmpZ v 0 < 0 ↔ v < 0) ∧ (cmpZ v 0 ≤ 0 ↔ v ≤ 0) := by
  rcases cmpZ_cases v with h | h | h <;> rw [h.2] <;> constructor <;> omega
theorem Blk.ltB {w : World} {b : Nat} {cs : Array Value} (x : Blk w b cs) : b < w.heap.size := by obtain ⟨t, h⟩ := x; exact (Array.getElem?_eq_some_iff.1 h).1
theorem blk_lt {w wr : World} {b : Nat} {cs : Array Value} (h : b < wr.heap.size) (x : Blk w wr.heap.size cs) : b < w.heap.size := Nat.lt_trans h x.ltB
set_option maxHeartbeats 8000000 in
set_option maxRecDepth 100000 in
theorem twCheck (A : Option Addr) (ts : List Pnt) (n c : Nat) (w : World) (hG : Glob w) (hn : ts.length = n) (hn67 : n ≤ 1000) (hs : ∀ t ∈ ts, t.vl.length ≤ 60 ∧ t.fl.length ≤ 60) (h : PntAt w A ts) :
    Calls Tryz.prog 124 #[.slice A n c] w fun e w' => e = .returned (.int .i64 (pntE ts)) ∧ Below w.heap.size w w' := by
  by_cases h0 : n = 0
  · subst h0
    have HV : Hid (pntE ts = 11) := by show _ = _; unfold pntE; rw [if_pos hn]
    clear hn hs h
    go_enter Tryz.func124, Tryz.ntmps124
    go_wp2
    go_ret
    exact ⟨reti HV.out.symm, Below.refl _ _⟩
  have z1 : ((n : Int) == 0) = false := intbne (by omega)
  by_cases h4 : 400 < n
  · have HV : Hid (pntE ts = 4) := by show _ = _; unfold pntE; rw [if_neg (by omega), if_pos (by omega)]
    have e1 : decide (400 < n) = true := decide_eq_true h4
    clear hn hs h
    go_enter Tryz.func124, Tryz.ntmps124
    go_wp2
    go_ret
    exact ⟨reti HV.out.symm, Below.refl _ _⟩
  have e1 : decide (400 < n) = false := decide_eq_false h4
  have HE : Hid (pntE ts = pntL none ts) := by show _ = _; unfold pntE; rw [if_neg (by omega), if_neg (by omega)]
  have HI := Lib.hid h
  have HS := Lib.hid hs
  have HNn := Lib.hid hn
  clear h hn hs
  go_enter Tryz.func124, Tryz.ntmps124
  go_wp2_with fail
  clear e1 z1
  go_loopw [15] (fun iv wr => ∃ k : Nat, k ≤ n ∧ iv = .int .i64 (k : Int) ∧ Hid (pntL none ts = pntL (prevD ts k) (ts.drop k)) ∧ Below w.heap.size w wr) (fun iv _ => n - (intOf iv).toNat)
  case atStart => exact ⟨0, Nat.zero_le _, rfl, rfl, Below.refl _ _⟩
  case round =>
    obtain ⟨k, hk, rfl, HK, hb⟩ := hrel
    have hnl := HNn.out
    by_cases hlk : k < n
    rotate_left
    · have HV : Hid (pntE ts = 0) := by show _ = _; rw [HE.out, HK.out, pntL_end (by omega)]
      clear HK HE HI HS
      go_wp2
      go_ret
      exact ⟨reti HV.out.symm, hb⟩
    obtain ⟨t, ht⟩ : ∃ t, ts[k]? = some t := ⟨_, List.getElem?_eq_getElem (by omega)⟩
    obtain ⟨b, o, hA, hbs, p0, p1, p2⟩ := (HI.out.below hb) k t ht
    subst hA
    obtain ⟨hv40, hf40⟩ := HS.out t (List.mem_of_getElem? ht)
    have HN := Lib.hid (pntL_step ht hnl)
    have hbA := below_alloc wr (.cells #[.int .i64 t.day, .string ⟨t.vl.toArray⟩, .string ⟨t.fl.toArray⟩] 74)
    have x4 := Blk.new wr #[.int .i64 t.day, .string ⟨t.vl.toArray⟩, .string ⟨t.fl.toArray⟩] 74
    replace hb := bto hb hbA
    clear hbA ht
    have CD := Lib.hid (tValid t.day)
    cases gd : dayB t.day
    · have HG := Lib.hid gd
      rw [gd] at CD
      clear gd
      have q0 := x4.c 0
      have q1 := x4.c 1
      have q2 := x4.c 2
      go_wp2_with fail
      ((with_reducible refine (CD.out.of hG hb).mono ?_); rintro e w10 ⟨rfl, hb10⟩)
      clear q0 q1 q2
      replace x4 := x4.below hb10
      replace hb := bto hb hb10
      clear hb10
      clear p0 p1 p2
      have HV : Hid (pntE ts = 13) := by show _ = _; rw [HE.out, HK.out, HN.out, if_pos HG.out]
      clear HK HN HE HI HS
      have q0 := x4.c 0
      have q1 := x4.c 1
      have q2 := x4.c 2
      go_wp2
      go_ret
      exact ⟨reti HV.out.symm, hb⟩
    have HGd : Hid (¬ dayB t.day = false) := by show ¬ _; rw [gd]; decide
    rw [gd] at CD
    clear gd
    have q0 := x4.c 0
    have q1 := x4.c 1
    have q2 := x4.c 2
    go_wp2_with fail
    ((with_reducible refine (CD.out.of hG hb).mono ?_); rintro e w11 ⟨rfl, hb11⟩)
    clear q0 q1 q2
    replace x4 := x4.below hb11
    replace hb := bto hb hb11
    clear hb11
    clear p0 p1 p2 CD
    by_cases gv : t.vl = canon (val t.vl)
    rotate_left
    · have CC := Lib.hid (riCheck (l := t.vl) (c := 1) (by omega) (if_neg gv))
      have HB := Lib.hid gv
      clear gv
      have q0 := x4.c 0
      have q1 := x4.c 1
      have q2 := x4.c 2
      go_wp2_with fail
      ((with_reducible refine (CC.out.of hG hb).mono ?_); rintro e w12 ⟨rfl, hb12⟩)
      clear q0 q1 q2
      replace x4 := x4.below hb12
      replace hb := bto hb hb12
      clear hb12
      have HV : Hid (pntE ts = 1) := by show _ = _; rw [HE.out, HK.out, HN.out, if_neg HGd.out, if_pos HB.out]
      clear HK HN HE HI HS
      have q0 := x4.c 0
      have q1 := x4.c 1
      have q2 := x4.c 2
      go_wp2
      go_ret
      exact ⟨reti HV.out.symm, hb⟩
    have CC := Lib.hid (riCheck (l := t.vl) (c := 0) (by omega) (if_pos gv))
    have Hgv : Hid (¬ ¬ t.vl = canon (val t.vl)) := fun h => h gv
    clear gv
    have q0 := x4.c 0
    have q1 := x4.c 1
    have q2 := x4.c 2
    go_wp2_with fail
    ((with_reducible refine (CC.out.of hG hb).mono ?_); rintro e w13 ⟨rfl, hb13⟩)
    clear q0 q1 q2
    replace x4 := x4.below hb13
    replace hb := bto hb hb13
    clear hb13
    clear CC
    by_cases gf : t.fl = canon (val t.fl)
    rotate_left
    · have CC := Lib.hid (riCheck (l := t.fl) (c := 1) (by omega) (if_neg gf))
      have HB := Lib.hid gf
      clear gf
      have q0 := x4.c 0
      have q1 := x4.c 1
      have q2 := x4.c 2
      go_wp2_with fail
      ((with_reducible refine (CC.out.of hG hb).mono ?_); rintro e w14 ⟨rfl, hb14⟩)
      clear q0 q1 q2
      replace x4 := x4.below hb14
      replace hb := bto hb hb14
      clear hb14
      have HV : Hid (pntE ts = 1) := by show _ = _; rw [HE.out, HK.out, HN.out, if_neg HGd.out, if_neg Hgv.out, if_pos HB.out]
      clear HK HN HE HI HS
      have q0 := x4.c 0
      have q1 := x4.c 1
      have q2 := x4.c 2
      go_wp2
      go_ret
      exact ⟨reti HV.out.symm, hb⟩
    have CC := Lib.hid (riCheck (l := t.fl) (c := 0) (by omega) (if_pos gf))
    have Hgf : Hid (¬ ¬ t.fl = canon (val t.fl)) := fun h => h gf
    clear gf
    have q0 := x4.c 0
    have q1 := x4.c 1
    have q2 := x4.c 2
    go_wp2_with fail
    ((with_reducible refine (CC.out.of hG hb).mono ?_); rintro e w15 ⟨rfl, hb15⟩)
    clear q0 q1 q2
    replace x4 := x4.below hb15
    replace hb := bto hb hb15
    clear hb15
    clear CC
    cases gg : longB t.vl
    rotate_left
    · have CV := Lib.hid (tLong (l := t.vl) (by omega))
      have HC := Lib.hid gg
      rw [gg] at CV
      clear gg
      have q0 := x4.c 0
      have q1 := x4.c 1
      have q2 := x4.c 2
      go_wp2_with fail
      ((with_reducible refine (CV.out.of hG hb).mono ?_); rintro e w16 ⟨rfl, hb16⟩)
      clear q0 q1 q2
      replace x4 := x4.below hb16
      replace hb := bto hb hb16
      clear hb16
      have HV : Hid (pntE ts = 4) := by show _ = _; rw [HE.out, HK.out, HN.out, if_neg HGd.out, if_neg Hgv.out, if_neg Hgf.out, if_pos HC.out]
      clear HK HN HE HI HS
      have q0 := x4.c 0
      have q1 := x4.c 1
      have q2 := x4.c 2
      go_wp2
      go_ret
      exact ⟨reti HV.out.symm, hb⟩
    have CV := Lib.hid (tLong (l := t.vl) (by omega))
    have HLv : Hid (¬ longB t.vl = true) := by show ¬ _; rw [gg]; decide
    rw [gg] at CV
    clear gg
    have q0 := x4.c 0
    have q1 := x4.c 1
    have q2 := x4.c 2
    go_wp2_with fail
    ((with_reducible refine (CV.out.of hG hb).mono ?_); rintro e w17 ⟨rfl, hb17⟩)
    clear q0 q1 q2
    replace x4 := x4.below hb17
    replace hb := bto hb hb17
    clear hb17
    clear CV
    cases gg : longB t.fl
    rotate_left
    · have CV := Lib.hid (tLong (l := t.fl) (by omega))
      have HC := Lib.hid gg
      rw [gg] at CV
      clear gg
      have q0 := x4.c 0
      have q1 := x4.c 1
      have q2 := x4.c 2
      go_wp2_with fail
      ((with_reducible refine (CV.out.of hG hb).mono ?_); rintro e w18 ⟨rfl, hb18⟩)
      clear q0 q1 q2
      replace x4 := x4.below hb18
      replace hb := bto hb hb18
      clear hb18
      have HV : Hid (pntE ts = 4) := by show _ = _; rw [HE.out, HK.out, HN.out, if_neg HGd.out, if_neg Hgv.out, if_neg Hgf.out, if_neg HLv.out, if_pos HC.out]
      clear HK HN HE HI HS
      have q0 := x4.c 0
      have q1 := x4.c 1
      have q2 := x4.c 2
      go_wp2
      go_ret
      exact ⟨reti HV.out.symm, hb⟩
    have CV := Lib.hid (tLong (l := t.fl) (by omega))
    have HLf : Hid (¬ longB t.fl = true) := by show ¬ _; rw [gg]; decide
    rw [gg] at CV
    clear gg
    have q0 := x4.c 0
    have q1 := x4.c 1
    have q2 := x4.c 2
    go_wp2_with fail
    ((with_reducible refine (CV.out.of hG hb).mono ?_); rintro e w19 ⟨rfl, hb19⟩)
    clear q0 q1 q2
    replace x4 := x4.below hb19
    replace hb := bto hb hb19
    clear hb19
    clear CV
    cases k with
    | zero =>
      go_wp2_with fail
      refine wp_region_kept (by kernel_rfl) (by kernel_rfl) ?_
      refine kept_val _ (fun _ => rfl) (fun ρ w hw => by go_simp; first | done | with_reducible rfl) ?_
      simp only [Act.put, List.setIfInBounds_toArray, List.set_cons_zero, List.set_cons_succ, Nat.reduceAdd]
      refine kept_val _ (fun _ => rfl) (fun ρ w hw => by go_simp; first | done | with_reducible rfl) ?_
      simp only [Act.put, List.setIfInBounds_toArray, List.set_cons_zero, List.set_cons_succ, Nat.reduceAdd]
      refine kept_val _ (fun _ => rfl) (fun ρ w hw => by go_simp; first | done | with_reducible rfl) ?_
      simp only [Act.put, List.setIfInBounds_toArray, List.set_cons_zero, List.set_cons_succ, Nat.reduceAdd]
      refine kept_off (fun _ => rfl) ?_
      simp only [Act.put, List.setIfInBounds_toArray, List.set_cons_zero, List.set_cons_succ, Nat.reduceAdd]
      refine kept_off (fun _ => rfl) ?_
      simp only [Act.put, List.setIfInBounds_toArray, List.set_cons_zero, List.set_cons_succ, Nat.reduceAdd]
      refine kept_off (fun _ => rfl) ?_
      simp only [Act.put, List.setIfInBounds_toArray, List.set_cons_zero, List.set_cons_succ, Nat.reduceAdd]
      refine kept_off (fun _ => rfl) ?_
      simp only [Act.put, List.setIfInBounds_toArray, List.set_cons_zero, List.set_cons_succ, Nat.reduceAdd]
      refine kept_off (fun _ => rfl) ?_
      simp only [Act.put, List.setIfInBounds_toArray, List.set_cons_zero, List.set_cons_succ, Nat.reduceAdd]
      refine kept_off (fun _ => rfl) ?_
      simp only [Act.put, List.setIfInBounds_toArray, List.set_cons_zero, List.set_cons_succ, Nat.reduceAdd]
      refine kept_off (fun _ => rfl) ?_
      simp only [Act.put, List.setIfInBounds_toArray, List.set_cons_zero, List.set_cons_succ, Nat.reduceAdd]
      refine kept_off (fun _ => rfl) ?_
      simp only [Act.put, List.setIfInBounds_toArray, List.set_cons_zero, List.set_cons_succ, Nat.reduceAdd]
      refine kept_off (fun _ => rfl) ?_
      simp only [Act.put, List.setIfInBounds_toArray, List.set_cons_zero, List.set_cons_succ, Nat.reduceAdd]
      refine kept_val _ (fun _ => rfl) (fun ρ w hw => by go_simp; first | done | with_reducible rfl) ?_
      simp only [Act.put, List.setIfInBounds_toArray, List.set_cons_zero, List.set_cons_succ, Nat.reduceAdd]
      refine kept_val _ (fun _ => rfl) (fun ρ w hw => by go_simp; first | done | with_reducible rfl) ?_
      simp only [Act.put, List.setIfInBounds_toArray, List.set_cons_zero, List.set_cons_succ, Nat.reduceAdd]
      refine kept_end (fun ρ w20 hF => ?_)
      have hbF := hF.below
      clear hF
      replace x4 := x4.below hbF
      replace hb := bto hb hbF
      clear hbF
      have hcn := cmp_neg (v := val t.vl)
      obtain ⟨c1, hc1⟩ : ∃ c1, cmpZ (val t.vl) 0 = c1 := ⟨_, rfl⟩
      rw [hc1] at hcn
      have CA := Lib.hid (riCompare (l := t.vl) (l' := []) (by omega) (by decide) hc1)
      clear hc1
      by_cases gn : val t.vl < 0
      · have f3 : decide (c1 < 0) = true := decide_eq_true (hcn.1.2 gn)
        have HC := Lib.hid gn
        clear gn hcn
        have q0 := x4.c 0
        have q1 := x4.c 1
        have q2 := x4.c 2
        go_wp2_with fail
        ((with_reducible refine (CA.out.of hG hb).mono ?_); rintro e w20 ⟨rfl, hb20⟩)
        clear q0 q1 q2
        replace x4 := x4.below hb20
        replace hb := bto hb hb20
        clear hb20
        have HV : Hid (pntE ts = 2) := by show _ = _; rw [HE.out, HK.out, HN.out, if_neg HGd.out, if_neg Hgv.out, if_neg Hgf.out, if_neg HLv.out, if_neg HLf.out, if_neg (show ¬ ordB (prevD ts 0) t.day = true from fun h => by cases h), if_pos HC.out]
        clear HK HN HE HI HS
        have q0 := x4.c 0
        have q1 := x4.c 1
        have q2 := x4.c 2
        go_wp2
        go_ret
        exact ⟨reti HV.out.symm, hb⟩
      have f3 : decide (c1 < 0) = false := decide_eq_false (fun h => gn (hcn.1.1 h))
      have HGn := Lib.hid gn
      clear gn hcn
      by_cases gl : 0 + 1 < n
      rotate_left
      · have HV : Hid (pntL none ts = pntL (prevD ts (0 + 1)) (ts.drop (0 + 1))) := by show _ = _; rw [HK.out, HN.out, if_neg HGd.out, if_neg Hgv.out, if_neg Hgf.out, if_neg HLv.out, if_neg HLf.out, if_neg (show ¬ ordB (prevD ts 0) t.day = true from fun h => by cases h), if_neg (show ¬ val t.vl < 0 from by have := HGn.out; omega), if_neg (fun h => gl h.1)]
        have f4 : decide (((0 : Nat) : Int) + 1 < (n : Int)) = false := decide_eq_false (by omega)
        clear HK HN
        have q0 := x4.c 0
        have q1 := x4.c 1
        have q2 := x4.c 2
        go_wp2_with fail
        ((with_reducible refine (CA.out.of hG hb).mono ?_); rintro e w21 ⟨rfl, hb21⟩)
        clear q0 q1 q2
        replace x4 := x4.below hb21
        replace hb := bto hb hb21
        clear hb21
        have q0 := x4.c 0
        have q1 := x4.c 1
        have q2 := x4.c 2
        go_wp2
        go_roundw
        case rel => exact ⟨0 + 1, by omega, by go_num, HV.out, hb⟩
        case measure => simp [intOf]; omega
      have CB := Lib.hid (tStart t hv40 hf40)
      have hyl : (canon (val t.vl + val t.fl)).length ≤ 100 := Nat.le_trans (canon_len_le _ 62 (by have h1 := val_lt_of hv40; have h2 := val_lt_of hf40; have h3 := Int.natAbs_add_le (val t.vl) (val t.fl); have h4 : (10 : Nat) ^ 60 + 10 ^ 60 ≤ 10 ^ 62 := (by decide); omega)) (by decide)
      have hcm := cmp_neg (v := val t.vl + val t.fl)
      obtain ⟨c2, hc2⟩ : ∃ c2, cmpZ (val t.vl + val t.fl) 0 = c2 := ⟨_, rfl⟩
      rw [hc2] at hcm
      have CE := Lib.hid (riCompare (l := canon (val t.vl + val t.fl)) (l' := []) (by omega) (by decide) (c := c2) (by rw [val_canon]; exact hc2))
      clear hc2
      by_cases gs : val t.vl + val t.fl ≤ 0
      · have f5 : decide (c2 ≤ 0) = true := decide_eq_true (hcm.2.2 gs)
        have HC := Lib.hid (And.intro gl gs)
        generalize canon (val t.vl + val t.fl) = yy at *
        clear gs hcm
        have q0 := x4.c 0
        have q1 := x4.c 1
        have q2 := x4.c 2
        go_wp2_with fail
        ((with_reducible refine (CA.out.of hG hb).mono ?_); rintro e w22 ⟨rfl, hb22⟩)
        clear q0 q1 q2
        replace x4 := x4.below hb22
        replace hb := bto hb hb22
        clear hb22
        have q0 := x4.c 0
        have q1 := x4.c 1
        have q2 := x4.c 2
        go_wp2_with fail
        ((with_reducible refine (CB.out.of hG hb).mono ?_); rintro e w23 ⟨rfl, hb23⟩)
        clear q0 q1 q2
        replace x4 := x4.below hb23
        replace hb := bto hb hb23
        clear hb23
        have q0 := x4.c 0
        have q1 := x4.c 1
        have q2 := x4.c 2
        go_wp2_with fail
        ((with_reducible refine (CE.out.of hG hb).mono ?_); rintro e w24 ⟨rfl, hb24⟩)
        clear q0 q1 q2
        replace x4 := x4.below hb24
        replace hb := bto hb hb24
        clear hb24
        have HV : Hid (pntE ts = 2) := by show _ = _; rw [HE.out, HK.out, HN.out, if_neg HGd.out, if_neg Hgv.out, if_neg Hgf.out, if_neg HLv.out, if_neg HLf.out, if_neg (show ¬ ordB (prevD ts 0) t.day = true from fun h => by cases h), if_neg (show ¬ val t.vl < 0 from by have := HGn.out; omega), if_pos HC.out]
        clear HK HN HE HI HS
        have q0 := x4.c 0
        have q1 := x4.c 1
        have q2 := x4.c 2
        go_wp2
        go_ret
        exact ⟨reti HV.out.symm, hb⟩
      have HV : Hid (pntL none ts = pntL (prevD ts (0 + 1)) (ts.drop (0 + 1))) := by show _ = _; rw [HK.out, HN.out, if_neg HGd.out, if_neg Hgv.out, if_neg Hgf.out, if_neg HLv.out, if_neg HLf.out, if_neg (show ¬ ordB (prevD ts 0) t.day = true from fun h => by cases h), if_neg (show ¬ val t.vl < 0 from by have := HGn.out; omega), if_neg (fun h => gs h.2)]
      have f5 : decide (c2 ≤ 0) = false := decide_eq_false (fun h => gs (hcm.2.1 h))
      generalize canon (val t.vl + val t.fl) = yy at *
      clear gs hcm HK HN
      have q0 := x4.c 0
      have q1 := x4.c 1
      have q2 := x4.c 2
      go_wp2_with fail
      ((with_reducible refine (CA.out.of hG hb).mono ?_); rintro e w25 ⟨rfl, hb25⟩)
      clear q0 q1 q2
      replace x4 := x4.below hb25
      replace hb := bto hb hb25
      clear hb25
      have q0 := x4.c 0
      have q1 := x4.c 1
      have q2 := x4.c 2
      go_wp2_with fail
      ((with_reducible refine (CB.out.of hG hb).mono ?_); rintro e w26 ⟨rfl, hb26⟩)
      clear q0 q1 q2
      replace x4 := x4.below hb26
      replace hb := bto hb hb26
      clear hb26
      have q0 := x4.c 0
      have q1 := x4.c 1
      have q2 := x4.c 2
      go_wp2_with fail
      ((with_reducible refine (CE.out.of hG hb).mono ?_); rintro e w27 ⟨rfl, hb27⟩)
      clear q0 q1 q2
      replace x4 := x4.below hb27
      replace hb := bto hb hb27
      clear hb27
      have q0 := x4.c 0
      have q1 := x4.c 1
      have q2 := x4.c 2
      go_wp2
      go_roundw
      case rel => exact ⟨0 + 1, by omega, by go_num, HV.out, hb⟩
      case measure => simp [intOf]; omega
    | succ k' =>
      obtain ⟨u, hu⟩ : ∃ u, ts[k']? = some u := ⟨_, List.getElem?_eq_getElem (by omega)⟩
      obtain ⟨b', o', hA', hbs', r0, -, -⟩ := (HI.out.below hb) k' u hu
      obtain ⟨rfl, rfl⟩ : b = b' ∧ o = o' := by injection hA' with hA'; injection hA' with h1 h2; exact ⟨h1, h2⟩
      have hpd : prevD ts (k' + 1) = some u.day := by show (ts[k']?).map (·.day) = _; rw [hu]; rfl
      have HPd := Lib.hid hpd
      have hwr : IntKind.i64.wrap (k' : Int) = (k' : Int) := Go.IntWalk.i64_in _ (by omega)
      have hkn : k' < n := by omega
      clear hu hA' hpd hbs'
      by_cases go : t.day ≤ u.day
      · have f6 : decide (t.day ≤ u.day) = true := decide_eq_true go
        have HB : Hid (ordB (prevD ts (k' + 1)) t.day = true) := by show _ = _; rw [HPd.out]; exact f6
        have hbs2 := blk_lt hbs x4
        go_wp2_with fail
        refine wp_region_kept (by kernel_rfl) (by kernel_rfl) ?_
        refine kept_val _ (fun _ => rfl) (fun ρ w hw => by go_simp; first | done | with_reducible rfl) ?_
        simp only [Act.put, List.setIfInBounds_toArray, List.set_cons_zero, List.set_cons_succ, Nat.reduceAdd]
        refine kept_val (.bool true) (fun _ => rfl) (fun ρ w hw => by go_simp; first | done | omega | (simp; omega)) ?_
        simp only [Act.put, List.setIfInBounds_toArray, List.set_cons_zero, List.set_cons_succ, Nat.reduceAdd]
        refine kept_val _ (fun _ => rfl) (fun ρ w hw => by go_simp; first | done | with_reducible rfl) ?_
        simp only [Act.put, List.setIfInBounds_toArray, List.set_cons_zero, List.set_cons_succ, Nat.reduceAdd]
        refine kept_val _ (fun _ => rfl) (fun ρ w hw => by go_simp; first | done | with_reducible rfl) ?_
        simp only [Act.put, List.setIfInBounds_toArray, List.set_cons_zero, List.set_cons_succ, Nat.reduceAdd]
        refine kept_val _ (fun _ => rfl) (fun ρ w hw => by have q0 := (x4.below hw).c 0; go_simp; first | done | with_reducible rfl) ?_
        simp only [Act.put, List.setIfInBounds_toArray, List.set_cons_zero, List.set_cons_succ, Nat.reduceAdd]
        refine kept_val _ (fun _ => rfl) (fun ρ w hw => by go_simp; first | done | with_reducible rfl) ?_
        simp only [Act.put, List.setIfInBounds_toArray, List.set_cons_zero, List.set_cons_succ, Nat.reduceAdd]
        refine kept_val _ (fun _ => rfl) (fun ρ w hw => by go_simp; first | done | with_reducible rfl) ?_
        simp only [Act.put, List.setIfInBounds_toArray, List.set_cons_zero, List.set_cons_succ, Nat.reduceAdd]
        refine kept_val _ (fun _ => rfl) (fun ρ w hw => by go_simp; first | done | with_reducible rfl) ?_
        simp only [Act.put, List.setIfInBounds_toArray, List.set_cons_zero, List.set_cons_succ, Nat.reduceAdd]
        refine kept_val _ (fun _ => rfl) (fun ρ w hw => by go_simp; first | done | with_reducible rfl) ?_
        simp only [Act.put, List.setIfInBounds_toArray, List.set_cons_zero, List.set_cons_succ, Nat.reduceAdd]
        refine kept_val _ (fun _ => rfl) (fun ρ w hw => by go_simp; first | done | with_reducible rfl) ?_
        simp only [Act.put, List.setIfInBounds_toArray, List.set_cons_zero, List.set_cons_succ, Nat.reduceAdd]
        refine kept_val _ (fun _ => rfl) (fun ρ w hw => by have q0 := (hw.cell (p := ⟨b, o + k' * 3, none⟩) hbs2).trans r0; go_simp; first | done | with_reducible rfl) ?_
        simp only [Act.put, List.setIfInBounds_toArray, List.set_cons_zero, List.set_cons_succ, Nat.reduceAdd]
        refine kept_val _ (fun _ => rfl) (fun ρ w hw => by go_simp; first | done | with_reducible rfl) ?_
        simp only [Act.put, List.setIfInBounds_toArray, List.set_cons_zero, List.set_cons_succ, Nat.reduceAdd]
        refine kept_val _ (fun _ => rfl) (fun ρ w hw => by go_simp; first | done | with_reducible rfl) ?_
        simp only [Act.put, List.setIfInBounds_toArray, List.set_cons_zero, List.set_cons_succ, Nat.reduceAdd]
        refine kept_val _ (fun _ => rfl) (fun ρ w hw => by go_simp; first | done | with_reducible rfl) ?_
        simp only [Act.put, List.setIfInBounds_toArray, List.set_cons_zero, List.set_cons_succ, Nat.reduceAdd]
        refine kept_end (fun ρ w20 hF => ?_)
        have hbF := hF.below
        clear hF
        replace x4 := x4.below hbF
        replace hb := bto hb hbF
        clear hbF
        clear r0 hbs2
        have HV : Hid (pntE ts = 8) := by show _ = _; rw [HE.out, HK.out, HN.out, if_neg HGd.out, if_neg Hgv.out, if_neg Hgf.out, if_neg HLv.out, if_neg HLf.out, if_pos HB.out]
        clear HK HN HE HI HS
        have q0 := x4.c 0
        have q1 := x4.c 1
        have q2 := x4.c 2
        go_wp2
        go_ret
        exact ⟨reti HV.out.symm, hb⟩
      have f6 : decide (t.day ≤ u.day) = false := decide_eq_false go
      have HB : Hid (¬ ordB (prevD ts (k' + 1)) t.day = true) := by show ¬ _; rw [HPd.out]; exact fun h => go (of_decide_eq_true h)
      have hbs2 := blk_lt hbs x4
      go_wp2_with fail
      refine wp_region_kept (by kernel_rfl) (by kernel_rfl) ?_
      refine kept_val _ (fun _ => rfl) (fun ρ w hw => by go_simp; first | done | with_reducible rfl) ?_
      simp only [Act.put, List.setIfInBounds_toArray, List.set_cons_zero, List.set_cons_succ, Nat.reduceAdd]
      refine kept_val (.bool true) (fun _ => rfl) (fun ρ w hw => by go_simp; first | done | omega | (simp; omega)) ?_
      simp only [Act.put, List.setIfInBounds_toArray, List.set_cons_zero, List.set_cons_succ, Nat.reduceAdd]
      refine kept_val _ (fun _ => rfl) (fun ρ w hw => by go_simp; first | done | with_reducible rfl) ?_
      simp only [Act.put, List.setIfInBounds_toArray, List.set_cons_zero, List.set_cons_succ, Nat.reduceAdd]
      refine kept_val _ (fun _ => rfl) (fun ρ w hw => by go_simp; first | done | with_reducible rfl) ?_
      simp only [Act.put, List.setIfInBounds_toArray, List.set_cons_zero, List.set_cons_succ, Nat.reduceAdd]
      refine kept_val _ (fun _ => rfl) (fun ρ w hw => by have q0 := (x4.below hw).c 0; go_simp; first | done | with_reducible rfl) ?_
      simp only [Act.put, List.setIfInBounds_toArray, List.set_cons_zero, List.set_cons_succ, Nat.reduceAdd]
      refine kept_val _ (fun _ => rfl) (fun ρ w hw => by go_simp; first | done | with_reducible rfl) ?_
      simp only [Act.put, List.setIfInBounds_toArray, List.set_cons_zero, List.set_cons_succ, Nat.reduceAdd]
      refine kept_val _ (fun _ => rfl) (fun ρ w hw => by go_simp; first | done | with_reducible rfl) ?_
      simp only [Act.put, List.setIfInBounds_toArray, List.set_cons_zero, List.set_cons_succ, Nat.reduceAdd]
      refine kept_val _ (fun _ => rfl) (fun ρ w hw => by go_simp; first | done | with_reducible rfl) ?_
      simp only [Act.put, List.setIfInBounds_toArray, List.set_cons_zero, List.set_cons_succ, Nat.reduceAdd]
      refine kept_val _ (fun _ => rfl) (fun ρ w hw => by go_simp; first | done | with_reducible rfl) ?_
      simp only [Act.put, List.setIfInBounds_toArray, List.set_cons_zero, List.set_cons_succ, Nat.reduceAdd]
      refine kept_val _ (fun _ => rfl) (fun ρ w hw => by go_simp; first | done | with_reducible rfl) ?_
      simp only [Act.put, List.setIfInBounds_toArray, List.set_cons_zero, List.set_cons_succ, Nat.reduceAdd]
      refine kept_val _ (fun _ => rfl) (fun ρ w hw => by have q0 := (hw.cell (p := ⟨b, o + k' * 3, none⟩) hbs2).trans r0; go_simp; first | done | with_reducible rfl) ?_
      simp only [Act.put, List.setIfInBounds_toArray, List.set_cons_zero, List.set_cons_succ, Nat.reduceAdd]
      refine kept_val _ (fun _ => rfl) (fun ρ w hw => by go_simp; first | done | with_reducible rfl) ?_
      simp only [Act.put, List.setIfInBounds_toArray, List.set_cons_zero, List.set_cons_succ, Nat.reduceAdd]
      refine kept_val _ (fun _ => rfl) (fun ρ w hw => by go_simp; first | done | with_reducible rfl) ?_
      simp only [Act.put, List.setIfInBounds_toArray, List.set_cons_zero, List.set_cons_succ, Nat.reduceAdd]
      refine kept_val _ (fun _ => rfl) (fun ρ w hw => by go_simp; first | done | with_reducible rfl) ?_
      simp only [Act.put, List.setIfInBounds_toArray, List.set_cons_zero, List.set_cons_succ, Nat.reduceAdd]
      refine kept_end (fun ρ w20 hF => ?_)
      have hbF := hF.below
      clear hF
      replace x4 := x4.below hbF
      replace hb := bto hb hbF
      clear hbF
      clear r0 hbs2
      have hcn := cmp_neg (v := val t.vl)
      obtain ⟨c1, hc1⟩ : ∃ c1, cmpZ (val t.vl) 0 = c1 := ⟨_, rfl⟩
      rw [hc1] at hcn
      have CA := Lib.hid (riCompare (l := t.vl) (l' := []) (by omega) (by decide) hc1)
      clear hc1
      by_cases gn : val t.vl < 0
      · have f3 : decide (c1 < 0) = true := decide_eq_true (hcn.1.2 gn)
        have HC := Lib.hid gn
        clear gn hcn
        have q0 := x4.c 0
        have q1 := x4.c 1
        have q2 := x4.c 2
        go_wp2_with fail
        ((with_reducible refine (CA.out.of hG hb).mono ?_); rintro e w28 ⟨rfl, hb28⟩)
        clear q0 q1 q2
        replace x4 := x4.below hb28
        replace hb := bto hb hb28
        clear hb28
        have HV : Hid (pntE ts = 2) := by show _ = _; rw [HE.out, HK.out, HN.out, if_neg HGd.out, if_neg Hgv.out, if_neg Hgf.out, if_neg HLv.out, if_neg HLf.out, if_neg HB.out, if_pos HC.out]
        clear HK HN HE HI HS
        have q0 := x4.c 0
        have q1 := x4.c 1
        have q2 := x4.c 2
        go_wp2
        go_ret
        exact ⟨reti HV.out.symm, hb⟩
      have f3 : decide (c1 < 0) = false := decide_eq_false (fun h => gn (hcn.1.1 h))
      have HGn := Lib.hid gn
      clear gn hcn
      by_cases gl : (k' + 1) + 1 < n
      rotate_left
      · have HV : Hid (pntL none ts = pntL (prevD ts ((k' + 1) + 1)) (ts.drop ((k' + 1) + 1))) := by show _ = _; rw [HK.out, HN.out, if_neg HGd.out, if_neg Hgv.out, if_neg Hgf.out, if_neg HLv.out, if_neg HLf.out, if_neg HB.out, if_neg (show ¬ val t.vl < 0 from by have := HGn.out; omega), if_neg (fun h => gl h.1)]
        have f4 : decide ((((k' + 1) : Nat) : Int) + 1 < (n : Int)) = false := decide_eq_false (by omega)
        clear HK HN
        have q0 := x4.c 0
        have q1 := x4.c 1
        have q2 := x4.c 2
        go_wp2_with fail
        ((with_reducible refine (CA.out.of hG hb).mono ?_); rintro e w29 ⟨rfl, hb29⟩)
        clear q0 q1 q2
        replace x4 := x4.below hb29
        replace hb := bto hb hb29
        clear hb29
        have q0 := x4.c 0
        have q1 := x4.c 1
        have q2 := x4.c 2
        go_wp2
        go_roundw
        case rel => exact ⟨(k' + 1) + 1, by omega, by go_num, HV.out, hb⟩
        case measure => simp [intOf]; omega
      have CB := Lib.hid (tStart t hv40 hf40)
      have hyl : (canon (val t.vl + val t.fl)).length ≤ 100 := Nat.le_trans (canon_len_le _ 62 (by have h1 := val_lt_of hv40; have h2 := val_lt_of hf40; have h3 := Int.natAbs_add_le (val t.vl) (val t.fl); have h4 : (10 : Nat) ^ 60 + 10 ^ 60 ≤ 10 ^ 62 := (by decide); omega)) (by decide)
      have hcm := cmp_neg (v := val t.vl + val t.fl)
      obtain ⟨c2, hc2⟩ : ∃ c2, cmpZ (val t.vl + val t.fl) 0 = c2 := ⟨_, rfl⟩
      rw [hc2] at hcm
      have CE := Lib.hid (riCompare (l := canon (val t.vl + val t.fl)) (l' := []) (by omega) (by decide) (c := c2) (by rw [val_canon]; exact hc2))
      clear hc2
      by_cases gs : val t.vl + val t.fl ≤ 0
      · have f5 : decide (c2 ≤ 0) = true := decide_eq_true (hcm.2.2 gs)
        have HC := Lib.hid (And.intro gl gs)
        generalize canon (val t.vl + val t.fl) = yy at *
        clear gs hcm
        have q0 := x4.c 0
        have q1 := x4.c 1
        have q2 := x4.c 2
        go_wp2_with fail
        ((with_reducible refine (CA.out.of hG hb).mono ?_); rintro e w30 ⟨rfl, hb30⟩)
        clear q0 q1 q2
        replace x4 := x4.below hb30
        replace hb := bto hb hb30
        clear hb30
        have q0 := x4.c 0
        have q1 := x4.c 1
        have q2 := x4.c 2
        go_wp2_with fail
        ((with_reducible refine (CB.out.of hG hb).mono ?_); rintro e w31 ⟨rfl, hb31⟩)
        clear q0 q1 q2
        replace x4 := x4.below hb31
        replace hb := bto hb hb31
        clear hb31
        have q0 := x4.c 0
        have q1 := x4.c 1
        have q2 := x4.c 2
        go_wp2_with fail
        ((with_reducible refine (CE.out.of hG hb).mono ?_); rintro e w32 ⟨rfl, hb32⟩)
        clear q0 q1 q2
        replace x4 := x4.below hb32
        replace hb := bto hb hb32
        clear hb32
        have HV : Hid (pntE ts = 2) := by show _ = _; rw [HE.out, HK.out, HN.out, if_neg HGd.out, if_neg Hgv.out, if_neg Hgf.out, if_neg HLv.out, if_neg HLf.out, if_neg HB.out, if_neg (show ¬ val t.vl < 0 from by have := HGn.out; omega), if_pos HC.out]
        clear HK HN HE HI HS
        have q0 := x4.c 0
        have q1 := x4.c 1
        have q2 := x4.c 2
        go_wp2
        go_ret
        exact ⟨reti HV.out.symm, hb⟩
      have HV : Hid (pntL none ts = pntL (prevD ts ((k' + 1) + 1)) (ts.drop ((k' + 1) + 1))) := by show _ = _; rw [HK.out, HN.out, if_neg HGd.out, if_neg Hgv.out, if_neg Hgf.out, if_neg HLv.out, if_neg HLf.out, if_neg HB.out, if_neg (show ¬ val t.vl < 0 from by have := HGn.out; omega), if_neg (fun h => gs h.2)]
      have f5 : decide (c2 ≤ 0) = false := decide_eq_false (fun h => gs (hcm.2.1 h))
      generalize canon (val t.vl + val t.fl) = yy at *
      clear gs hcm HK HN
      have q0 := x4.c 0
      have q1 := x4.c 1
      have q2 := x4.c 2
      go_wp2_with fail
      ((with_reducible refine (CA.out.of hG hb).mono ?_); rintro e w33 ⟨rfl, hb33⟩)
      clear q0 q1 q2
      replace x4 := x4.below hb33
      replace hb := bto hb hb33
      clear hb33
      have q0 := x4.c 0
      have q1 := x4.c 1
      have q2 := x4.c 2
      go_wp2_with fail
      ((with_reducible refine (CB.out.of hG hb).mono ?_); rintro e w34 ⟨rfl, hb34⟩)
      clear q0 q1 q2
      replace x4 := x4.below hb34
      replace hb := bto hb hb34
      clear hb34
      have q0 := x4.c 0
      have q1 := x4.c 1
      have q2 := x4.c 2
      go_wp2_with fail
      ((with_reducible refine (CE.out.of hG hb).mono ?_); rintro e w35 ⟨rfl, hb35⟩)
      clear q0 q1 q2
      replace x4 := x4.below hb35
      replace hb := bto hb hb35
      clear hb35
      have q0 := x4.c 0
      have q1 := x4.c 1
      have q2 := x4.c 2
      go_wp2
      go_roundw
      case rel => exact ⟨(k' + 1) + 1, by omega, by go_num, HV.out, hb⟩
      case measure => simp [intOf]; omega
set_option maxHeartbeats 8000000 in
set_option maxRecDepth 100000 in
theorem rwCheck (A : Option Addr) (ts : List Pnt) (n c : Nat) (w : World) (hG : Glob w) (hn : ts.length = n) (hn67 : n ≤ 1000) (hs : ∀ t ∈ ts, t.vl.length ≤ 60 ∧ t.fl.length ≤ 60) (h : PntAt w A ts) :
    Calls Tryz.prog 58 #[.slice A n c] w fun e w' => e = .returned (.int .i64 (pntE ts)) ∧ Below w.heap.size w w' := by
  by_cases h0 : n = 0
  · subst h0
    have HV : Hid (pntE ts = 11) := by show _ = _; unfold pntE; rw [if_pos hn]
    clear hn hs h
    go_enter Tryz.func58, Tryz.ntmps58
    go_wp2
    go_ret
    exact ⟨reti HV.out.symm, Below.refl _ _⟩
  have z1 : ((n : Int) == 0) = false := intbne (by omega)
  by_cases h4 : 400 < n
  · have HV : Hid (pntE ts = 4) := by show _ = _; unfold pntE; rw [if_neg (by omega), if_pos (by omega)]
    have e1 : decide (400 < n) = true := decide_eq_true h4
    clear hn hs h
    go_enter Tryz.func58, Tryz.ntmps58
    go_wp2
    go_ret
    exact ⟨reti HV.out.symm, Below.refl _ _⟩
  have e1 : decide (400 < n) = false := decide_eq_false h4
  have HE : Hid (pntE ts = pntL none ts) := by show _ = _; unfold pntE; rw [if_neg (by omega), if_neg (by omega)]
  have HI := Lib.hid h
  have HS := Lib.hid hs
  have HNn := Lib.hid hn
  clear h hn hs
  go_enter Tryz.func58, Tryz.ntmps58
  go_wp2_with fail
  clear e1 z1
  go_loopw [3] (fun iv wr => ∃ k : Nat, k ≤ n ∧ iv = .int .i64 (k : Int) ∧ Hid (pntL none ts = pntL (prevD ts k) (ts.drop k)) ∧ Below w.heap.size w wr) (fun iv _ => n - (intOf iv).toNat)
  case atStart => exact ⟨0, Nat.zero_le _, rfl, rfl, Below.refl _ _⟩
  case round =>
    obtain ⟨k, hk, rfl, HK, hb⟩ := hrel
    have hnl := HNn.out
    by_cases hlk : k < n
    rotate_left
    · have HV : Hid (pntE ts = 0) := by show _ = _; rw [HE.out, HK.out, pntL_end (by omega)]
      clear HK HE HI HS
      go_wp2
      go_ret
      exact ⟨reti HV.out.symm, hb⟩
    obtain ⟨t, ht⟩ : ∃ t, ts[k]? = some t := ⟨_, List.getElem?_eq_getElem (by omega)⟩
    obtain ⟨b, o, hA, hbs, p0, p1, p2⟩ := (HI.out.below hb) k t ht
    subst hA
    obtain ⟨hv40, hf40⟩ := HS.out t (List.mem_of_getElem? ht)
    have HN := Lib.hid (pntL_step ht hnl)
    have hbA := below_alloc wr (.cells #[.int .i64 t.day, .string ⟨t.vl.toArray⟩, .string ⟨t.fl.toArray⟩] 74)
    have x4 := Blk.new wr #[.int .i64 t.day, .string ⟨t.vl.toArray⟩, .string ⟨t.fl.toArray⟩] 74
    replace hb := bto hb hbA
    clear hbA ht
    have CD := Lib.hid (jDay t.day)
    cases gd : dayB t.day
    · have HG := Lib.hid gd
      have hd : dayE t.day = 13 := by unfold dayE; rw [gd]; rfl
      rw [hd] at CD
      clear gd hd
      have q0 := x4.c 0
      have q1 := x4.c 1
      have q2 := x4.c 2
      go_wp2_with fail
      ((with_reducible refine (CD.out.of hG hb).mono ?_); rintro e w10 ⟨rfl, hb10⟩)
      clear q0 q1 q2
      replace x4 := x4.below hb10
      replace hb := bto hb hb10
      clear hb10
      clear p0 p1 p2
      have HV : Hid (pntE ts = 13) := by show _ = _; rw [HE.out, HK.out, HN.out, if_pos HG.out]
      clear HK HN HE HI HS
      have q0 := x4.c 0
      have q1 := x4.c 1
      have q2 := x4.c 2
      go_wp2
      go_ret
      exact ⟨reti HV.out.symm, hb⟩
    have HGd : Hid (¬ dayB t.day = false) := by show ¬ _; rw [gd]; decide
    have hd : dayE t.day = 0 := by unfold dayE; rw [gd]; rfl
    rw [hd] at CD
    clear gd hd
    have q0 := x4.c 0
    have q1 := x4.c 1
    have q2 := x4.c 2
    go_wp2_with fail
    ((with_reducible refine (CD.out.of hG hb).mono ?_); rintro e w11 ⟨rfl, hb11⟩)
    clear q0 q1 q2
    replace x4 := x4.below hb11
    replace hb := bto hb hb11
    clear hb11
    clear p0 p1 p2 CD
    by_cases gv : t.vl = canon (val t.vl)
    rotate_left
    · have CC := Lib.hid (qCheck (l := t.vl) (c := 1) (by omega) (if_neg gv))
      have HB := Lib.hid gv
      clear gv
      have q0 := x4.c 0
      have q1 := x4.c 1
      have q2 := x4.c 2
      go_wp2_with fail
      ((with_reducible refine (CC.out.of hG hb).mono ?_); rintro e w12 ⟨rfl, hb12⟩)
      clear q0 q1 q2
      replace x4 := x4.below hb12
      replace hb := bto hb hb12
      clear hb12
      have HV : Hid (pntE ts = 1) := by show _ = _; rw [HE.out, HK.out, HN.out, if_neg HGd.out, if_pos HB.out]
      clear HK HN HE HI HS
      have q0 := x4.c 0
      have q1 := x4.c 1
      have q2 := x4.c 2
      go_wp2
      go_ret
      exact ⟨reti HV.out.symm, hb⟩
    have CC := Lib.hid (qCheck (l := t.vl) (c := 0) (by omega) (if_pos gv))
    have Hgv : Hid (¬ ¬ t.vl = canon (val t.vl)) := fun h => h gv
    clear gv
    have q0 := x4.c 0
    have q1 := x4.c 1
    have q2 := x4.c 2
    go_wp2_with fail
    ((with_reducible refine (CC.out.of hG hb).mono ?_); rintro e w13 ⟨rfl, hb13⟩)
    clear q0 q1 q2
    replace x4 := x4.below hb13
    replace hb := bto hb hb13
    clear hb13
    clear CC
    by_cases gf : t.fl = canon (val t.fl)
    rotate_left
    · have CC := Lib.hid (qCheck (l := t.fl) (c := 1) (by omega) (if_neg gf))
      have HB := Lib.hid gf
      clear gf
      have q0 := x4.c 0
      have q1 := x4.c 1
      have q2 := x4.c 2
      go_wp2_with fail
      ((with_reducible refine (CC.out.of hG hb).mono ?_); rintro e w14 ⟨rfl, hb14⟩)
      clear q0 q1 q2
      replace x4 := x4.below hb14
      replace hb := bto hb hb14
      clear hb14
      have HV : Hid (pntE ts = 1) := by show _ = _; rw [HE.out, HK.out, HN.out, if_neg HGd.out, if_neg Hgv.out, if_pos HB.out]
      clear HK HN HE HI HS
      have q0 := x4.c 0
      have q1 := x4.c 1
      have q2 := x4.c 2
      go_wp2
      go_ret
      exact ⟨reti HV.out.symm, hb⟩
    have CC := Lib.hid (qCheck (l := t.fl) (c := 0) (by omega) (if_pos gf))
    have Hgf : Hid (¬ ¬ t.fl = canon (val t.fl)) := fun h => h gf
    clear gf
    have q0 := x4.c 0
    have q1 := x4.c 1
    have q2 := x4.c 2
    go_wp2_with fail
    ((with_reducible refine (CC.out.of hG hb).mono ?_); rintro e w15 ⟨rfl, hb15⟩)
    clear q0 q1 q2
    replace x4 := x4.below hb15
    replace hb := bto hb hb15
    clear hb15
    clear CC
    cases gg : longB t.vl
    rotate_left
    · have CV := Lib.hid (jDigits (l := t.vl) (by omega))
      have HC := Lib.hid gg
      have f1 : decide (40 < digN t.vl) = true := gg
      generalize digN t.vl = n1 at *
      clear gg
      have q0 := x4.c 0
      have q1 := x4.c 1
      have q2 := x4.c 2
      go_wp2_with fail
      ((with_reducible refine (CV.out.of hG hb).mono ?_); rintro e w16 ⟨rfl, hb16⟩)
      clear q0 q1 q2
      replace x4 := x4.below hb16
      replace hb := bto hb hb16
      clear hb16
      have HV : Hid (pntE ts = 4) := by show _ = _; rw [HE.out, HK.out, HN.out, if_neg HGd.out, if_neg Hgv.out, if_neg Hgf.out, if_pos HC.out]
      clear HK HN HE HI HS
      have q0 := x4.c 0
      have q1 := x4.c 1
      have q2 := x4.c 2
      go_wp2
      go_ret
      exact ⟨reti HV.out.symm, hb⟩
    have CV := Lib.hid (jDigits (l := t.vl) (by omega))
    have HLv : Hid (¬ longB t.vl = true) := by show ¬ _; rw [gg]; decide
    have f1vl : decide (40 < digN t.vl) = false := gg
    obtain ⟨nvl, hnvl⟩ : ∃ nvl, nvl = digN t.vl := ⟨_, rfl⟩
    rw [← hnvl] at CV f1vl
    clear hnvl
    clear gg
    have q0 := x4.c 0
    have q1 := x4.c 1
    have q2 := x4.c 2
    go_wp2_with fail
    ((with_reducible refine (CV.out.of hG hb).mono ?_); rintro e w17 ⟨rfl, hb17⟩)
    clear q0 q1 q2
    replace x4 := x4.below hb17
    replace hb := bto hb hb17
    clear hb17
    clear CV
    cases gg : longB t.fl
    rotate_left
    · have CV := Lib.hid (jDigits (l := t.fl) (by omega))
      have HC := Lib.hid gg
      have f1 : decide (40 < digN t.fl) = true := gg
      generalize digN t.fl = n1 at *
      clear gg
      have q0 := x4.c 0
      have q1 := x4.c 1
      have q2 := x4.c 2
      go_wp2_with fail
      ((with_reducible refine (CV.out.of hG hb).mono ?_); rintro e w18 ⟨rfl, hb18⟩)
      clear q0 q1 q2
      replace x4 := x4.below hb18
      replace hb := bto hb hb18
      clear hb18
      have HV : Hid (pntE ts = 4) := by show _ = _; rw [HE.out, HK.out, HN.out, if_neg HGd.out, if_neg Hgv.out, if_neg Hgf.out, if_neg HLv.out, if_pos HC.out]
      clear HK HN HE HI HS
      have q0 := x4.c 0
      have q1 := x4.c 1
      have q2 := x4.c 2
      go_wp2
      go_ret
      exact ⟨reti HV.out.symm, hb⟩
    have CV := Lib.hid (jDigits (l := t.fl) (by omega))
    have HLf : Hid (¬ longB t.fl = true) := by show ¬ _; rw [gg]; decide
    have f1fl : decide (40 < digN t.fl) = false := gg
    obtain ⟨nfl, hnfl⟩ : ∃ nfl, nfl = digN t.fl := ⟨_, rfl⟩
    rw [← hnfl] at CV f1fl
    clear hnfl
    clear gg
    have q0 := x4.c 0
    have q1 := x4.c 1
    have q2 := x4.c 2
    go_wp2_with fail
    ((with_reducible refine (CV.out.of hG hb).mono ?_); rintro e w19 ⟨rfl, hb19⟩)
    clear q0 q1 q2
    replace x4 := x4.below hb19
    replace hb := bto hb hb19
    clear hb19
    clear CV
    cases k with
    | zero =>
      go_wp2_with fail
      refine wp_region_kept (by kernel_rfl) (by kernel_rfl) ?_
      refine kept_val _ (fun _ => rfl) (fun ρ w hw => by go_simp; first | done | with_reducible rfl) ?_
      simp only [Act.put, List.setIfInBounds_toArray, List.set_cons_zero, List.set_cons_succ, Nat.reduceAdd]
      refine kept_val _ (fun _ => rfl) (fun ρ w hw => by go_simp; first | done | with_reducible rfl) ?_
      simp only [Act.put, List.setIfInBounds_toArray, List.set_cons_zero, List.set_cons_succ, Nat.reduceAdd]
      refine kept_val _ (fun _ => rfl) (fun ρ w hw => by go_simp; first | done | with_reducible rfl) ?_
      simp only [Act.put, List.setIfInBounds_toArray, List.set_cons_zero, List.set_cons_succ, Nat.reduceAdd]
      refine kept_off (fun _ => rfl) ?_
      simp only [Act.put, List.setIfInBounds_toArray, List.set_cons_zero, List.set_cons_succ, Nat.reduceAdd]
      refine kept_off (fun _ => rfl) ?_
      simp only [Act.put, List.setIfInBounds_toArray, List.set_cons_zero, List.set_cons_succ, Nat.reduceAdd]
      refine kept_off (fun _ => rfl) ?_
      simp only [Act.put, List.setIfInBounds_toArray, List.set_cons_zero, List.set_cons_succ, Nat.reduceAdd]
      refine kept_off (fun _ => rfl) ?_
      simp only [Act.put, List.setIfInBounds_toArray, List.set_cons_zero, List.set_cons_succ, Nat.reduceAdd]
      refine kept_off (fun _ => rfl) ?_
      simp only [Act.put, List.setIfInBounds_toArray, List.set_cons_zero, List.set_cons_succ, Nat.reduceAdd]
      refine kept_off (fun _ => rfl) ?_
      simp only [Act.put, List.setIfInBounds_toArray, List.set_cons_zero, List.set_cons_succ, Nat.reduceAdd]
      refine kept_off (fun _ => rfl) ?_
      simp only [Act.put, List.setIfInBounds_toArray, List.set_cons_zero, List.set_cons_succ, Nat.reduceAdd]
      refine kept_off (fun _ => rfl) ?_
      simp only [Act.put, List.setIfInBounds_toArray, List.set_cons_zero, List.set_cons_succ, Nat.reduceAdd]
      refine kept_off (fun _ => rfl) ?_
      simp only [Act.put, List.setIfInBounds_toArray, List.set_cons_zero, List.set_cons_succ, Nat.reduceAdd]
      refine kept_val _ (fun _ => rfl) (fun ρ w hw => by go_simp; first | done | with_reducible rfl) ?_
      simp only [Act.put, List.setIfInBounds_toArray, List.set_cons_zero, List.set_cons_succ, Nat.reduceAdd]
      refine kept_end (fun ρ w20 hF => ?_)
      have hbF := hF.below
      clear hF
      replace x4 := x4.below hbF
      replace hb := bto hb hbF
      clear hbF
      have hcn := cmp_neg (v := val t.vl)
      obtain ⟨c1, hc1⟩ : ∃ c1, cmpZ (val t.vl) 0 = c1 := ⟨_, rfl⟩
      rw [hc1] at hcn
      have CA := Lib.hid (qSign (l := t.vl) (by omega) hc1)
      clear hc1
      by_cases gn : val t.vl < 0
      · have f3 : decide (c1 < 0) = true := decide_eq_true (hcn.1.2 gn)
        have HC := Lib.hid gn
        clear gn hcn
        have q0 := x4.c 0
        have q1 := x4.c 1
        have q2 := x4.c 2
        go_wp2_with fail
        ((with_reducible refine (CA.out.of hG hb).mono ?_); rintro e w20 ⟨rfl, hb20⟩)
        clear q0 q1 q2
        replace x4 := x4.below hb20
        replace hb := bto hb hb20
        clear hb20
        have HV : Hid (pntE ts = 2) := by show _ = _; rw [HE.out, HK.out, HN.out, if_neg HGd.out, if_neg Hgv.out, if_neg Hgf.out, if_neg HLv.out, if_neg HLf.out, if_neg (show ¬ ordB (prevD ts 0) t.day = true from fun h => by cases h), if_pos HC.out]
        clear HK HN HE HI HS
        have q0 := x4.c 0
        have q1 := x4.c 1
        have q2 := x4.c 2
        go_wp2
        go_ret
        exact ⟨reti HV.out.symm, hb⟩
      have f3 : decide (c1 < 0) = false := decide_eq_false (fun h => gn (hcn.1.1 h))
      have HGn := Lib.hid gn
      clear gn hcn
      by_cases gl : 0 + 1 < n
      rotate_left
      · have HV : Hid (pntL none ts = pntL (prevD ts (0 + 1)) (ts.drop (0 + 1))) := by show _ = _; rw [HK.out, HN.out, if_neg HGd.out, if_neg Hgv.out, if_neg Hgf.out, if_neg HLv.out, if_neg HLf.out, if_neg (show ¬ ordB (prevD ts 0) t.day = true from fun h => by cases h), if_neg (show ¬ val t.vl < 0 from by have := HGn.out; omega), if_neg (fun h => gl h.1)]
        have f4 : decide (((0 : Nat) : Int) + 1 < (n : Int)) = false := decide_eq_false (by omega)
        clear HK HN
        have q0 := x4.c 0
        have q1 := x4.c 1
        have q2 := x4.c 2
        go_wp2_with fail
        ((with_reducible refine (CA.out.of hG hb).mono ?_); rintro e w21 ⟨rfl, hb21⟩)
        clear q0 q1 q2
        replace x4 := x4.below hb21
        replace hb := bto hb hb21
        clear hb21
        have q0 := x4.c 0
        have q1 := x4.c 1
        have q2 := x4.c 2
        go_wp2
        go_roundw
        case rel => exact ⟨0 + 1, by omega, by go_num, HV.out, hb⟩
        case measure => simp [intOf]; omega
      have CB := Lib.hid (qAdd (l := t.vl) (l' := t.fl) (by omega) (by omega) rfl)
      have hyl : (canon (val t.vl + val t.fl)).length ≤ 100 := Nat.le_trans (canon_len_le _ 62 (by have h1 := val_lt_of hv40; have h2 := val_lt_of hf40; have h3 := Int.natAbs_add_le (val t.vl) (val t.fl); have h4 : (10 : Nat) ^ 60 + 10 ^ 60 ≤ 10 ^ 62 := (by decide); omega)) (by decide)
      have hcm := cmp_neg (v := val t.vl + val t.fl)
      obtain ⟨c2, hc2⟩ : ∃ c2, cmpZ (val t.vl + val t.fl) 0 = c2 := ⟨_, rfl⟩
      rw [hc2] at hcm
      have CE := Lib.hid (qSign (l := canon (val t.vl + val t.fl)) (by omega) (c := c2) (by rw [val_canon]; exact hc2))
      clear hc2
      by_cases gs : val t.vl + val t.fl ≤ 0
      · have f5 : decide (c2 ≤ 0) = true := decide_eq_true (hcm.2.2 gs)
        have HC := Lib.hid (And.intro gl gs)
        generalize canon (val t.vl + val t.fl) = yy at *
        clear gs hcm
        have q0 := x4.c 0
        have q1 := x4.c 1
        have q2 := x4.c 2
        go_wp2_with fail
        ((with_reducible refine (CA.out.of hG hb).mono ?_); rintro e w22 ⟨rfl, hb22⟩)
        clear q0 q1 q2
        replace x4 := x4.below hb22
        replace hb := bto hb hb22
        clear hb22
        have q0 := x4.c 0
        have q1 := x4.c 1
        have q2 := x4.c 2
        go_wp2_with fail
        ((with_reducible refine (CB.out.of hG hb).mono ?_); rintro e w23 ⟨rfl, hb23⟩)
        clear q0 q1 q2
        replace x4 := x4.below hb23
        replace hb := bto hb hb23
        clear hb23
        have q0 := x4.c 0
        have q1 := x4.c 1
        have q2 := x4.c 2
        go_wp2_with fail
        ((with_reducible refine (CE.out.of hG hb).mono ?_); rintro e w24 ⟨rfl, hb24⟩)
        clear q0 q1 q2
        replace x4 := x4.below hb24
        replace hb := bto hb hb24
        clear hb24
        have HV : Hid (pntE ts = 2) := by show _ = _; rw [HE.out, HK.out, HN.out, if_neg HGd.out, if_neg Hgv.out, if_neg Hgf.out, if_neg HLv.out, if_neg HLf.out, if_neg (show ¬ ordB (prevD ts 0) t.day = true from fun h => by cases h), if_neg (show ¬ val t.vl < 0 from by have := HGn.out; omega), if_pos HC.out]
        clear HK HN HE HI HS
        have q0 := x4.c 0
        have q1 := x4.c 1
        have q2 := x4.c 2
        go_wp2
        go_ret
        exact ⟨reti HV.out.symm, hb⟩
      have HV : Hid (pntL none ts = pntL (prevD ts (0 + 1)) (ts.drop (0 + 1))) := by show _ = _; rw [HK.out, HN.out, if_neg HGd.out, if_neg Hgv.out, if_neg Hgf.out, if_neg HLv.out, if_neg HLf.out, if_neg (show ¬ ordB (prevD ts 0) t.day = true from fun h => by cases h), if_neg (show ¬ val t.vl < 0 from by have := HGn.out; omega), if_neg (fun h => gs h.2)]
      have f5 : decide (c2 ≤ 0) = false := decide_eq_false (fun h => gs (hcm.2.1 h))
      generalize canon (val t.vl + val t.fl) = yy at *
      clear gs hcm HK HN
      have q0 := x4.c 0
      have q1 := x4.c 1
      have q2 := x4.c 2
      go_wp2_with fail
      ((with_reducible refine (CA.out.of hG hb).mono ?_); rintro e w25 ⟨rfl, hb25⟩)
      clear q0 q1 q2
      replace x4 := x4.below hb25
      replace hb := bto hb hb25
      clear hb25
      have q0 := x4.c 0
      have q1 := x4.c 1
      have q2 := x4.c 2
      go_wp2_with fail
      ((with_reducible refine (CB.out.of hG hb).mono ?_); rintro e w26 ⟨rfl, hb26⟩)
      clear q0 q1 q2
      replace x4 := x4.below hb26
      replace hb := bto hb hb26
      clear hb26
      have q0 := x4.c 0
      have q1 := x4.c 1
      have q2 := x4.c 2
      go_wp2_with fail
      ((with_reducible refine (CE.out.of hG hb).mono ?_); rintro e w27 ⟨rfl, hb27⟩)
      clear q0 q1 q2
      replace x4 := x4.below hb27
      replace hb := bto hb hb27
      clear hb27
      have q0 := x4.c 0
      have q1 := x4.c 1
      have q2 := x4.c 2
      go_wp2
      go_roundw
      case rel => exact ⟨0 + 1, by omega, by go_num, HV.out, hb⟩
      case measure => simp [intOf]; omega
    | succ k' =>
      obtain ⟨u, hu⟩ : ∃ u, ts[k']? = some u := ⟨_, List.getElem?_eq_getElem (by omega)⟩
      obtain ⟨b', o', hA', hbs', r0, -, -⟩ := (HI.out.below hb) k' u hu
      obtain ⟨rfl, rfl⟩ : b = b' ∧ o = o' := by injection hA' with hA'; injection hA' with h1 h2; exact ⟨h1, h2⟩
      have hpd : prevD ts (k' + 1) = some u.day := by show (ts[k']?).map (·.day) = _; rw [hu]; rfl
      have HPd := Lib.hid hpd
      have hwr : IntKind.i64.wrap (k' : Int) = (k' : Int) := Go.IntWalk.i64_in _ (by omega)
      have hkn : k' < n := by omega
      clear hu hA' hpd hbs'
      by_cases go : t.day ≤ u.day
      · have f6 : decide (t.day ≤ u.day) = true := decide_eq_true go
        have HB : Hid (ordB (prevD ts (k' + 1)) t.day = true) := by show _ = _; rw [HPd.out]; exact f6
        have hbs2 := blk_lt hbs x4
        go_wp2_with fail
        refine wp_region_kept (by kernel_rfl) (by kernel_rfl) ?_
        refine kept_val _ (fun _ => rfl) (fun ρ w hw => by go_simp; first | done | with_reducible rfl) ?_
        simp only [Act.put, List.setIfInBounds_toArray, List.set_cons_zero, List.set_cons_succ, Nat.reduceAdd]
        refine kept_val (.bool true) (fun _ => rfl) (fun ρ w hw => by go_simp; first | done | omega | (simp; omega)) ?_
        simp only [Act.put, List.setIfInBounds_toArray, List.set_cons_zero, List.set_cons_succ, Nat.reduceAdd]
        refine kept_val _ (fun _ => rfl) (fun ρ w hw => by go_simp; first | done | with_reducible rfl) ?_
        simp only [Act.put, List.setIfInBounds_toArray, List.set_cons_zero, List.set_cons_succ, Nat.reduceAdd]
        refine kept_val _ (fun _ => rfl) (fun ρ w hw => by go_simp; first | done | with_reducible rfl) ?_
        simp only [Act.put, List.setIfInBounds_toArray, List.set_cons_zero, List.set_cons_succ, Nat.reduceAdd]
        refine kept_val _ (fun _ => rfl) (fun ρ w hw => by go_simp; first | done | with_reducible rfl) ?_
        simp only [Act.put, List.setIfInBounds_toArray, List.set_cons_zero, List.set_cons_succ, Nat.reduceAdd]
        refine kept_val _ (fun _ => rfl) (fun ρ w hw => by go_simp; first | done | with_reducible rfl) ?_
        simp only [Act.put, List.setIfInBounds_toArray, List.set_cons_zero, List.set_cons_succ, Nat.reduceAdd]
        refine kept_val _ (fun _ => rfl) (fun ρ w hw => by go_simp; first | done | with_reducible rfl) ?_
        simp only [Act.put, List.setIfInBounds_toArray, List.set_cons_zero, List.set_cons_succ, Nat.reduceAdd]
        refine kept_val _ (fun _ => rfl) (fun ρ w hw => by go_simp; first | done | with_reducible rfl) ?_
        simp only [Act.put, List.setIfInBounds_toArray, List.set_cons_zero, List.set_cons_succ, Nat.reduceAdd]
        refine kept_val _ (fun _ => rfl) (fun ρ w hw => by have q0 := (hw.cell (p := ⟨b, o + k' * 3, none⟩) hbs2).trans r0; go_simp; first | done | with_reducible rfl) ?_
        simp only [Act.put, List.setIfInBounds_toArray, List.set_cons_zero, List.set_cons_succ, Nat.reduceAdd]
        refine kept_val _ (fun _ => rfl) (fun ρ w hw => by go_simp; first | done | with_reducible rfl) ?_
        simp only [Act.put, List.setIfInBounds_toArray, List.set_cons_zero, List.set_cons_succ, Nat.reduceAdd]
        refine kept_val _ (fun _ => rfl) (fun ρ w hw => by have q0 := (x4.below hw).c 0; go_simp; first | done | with_reducible rfl) ?_
        simp only [Act.put, List.setIfInBounds_toArray, List.set_cons_zero, List.set_cons_succ, Nat.reduceAdd]
        refine kept_val _ (fun _ => rfl) (fun ρ w hw => by go_simp; first | done | with_reducible rfl) ?_
        simp only [Act.put, List.setIfInBounds_toArray, List.set_cons_zero, List.set_cons_succ, Nat.reduceAdd]
        refine kept_val _ (fun _ => rfl) (fun ρ w hw => by go_simp; first | done | with_reducible rfl) ?_
        simp only [Act.put, List.setIfInBounds_toArray, List.set_cons_zero, List.set_cons_succ, Nat.reduceAdd]
        refine kept_end (fun ρ w20 hF => ?_)
        have hbF := hF.below
        clear hF
        replace x4 := x4.below hbF
        replace hb := bto hb hbF
        clear hbF
        clear r0 hbs2
        have HV : Hid (pntE ts = 8) := by show _ = _; rw [HE.out, HK.out, HN.out, if_neg HGd.out, if_neg Hgv.out, if_neg Hgf.out, if_neg HLv.out, if_neg HLf.out, if_pos HB.out]
        clear HK HN HE HI HS
        have q0 := x4.c 0
        have q1 := x4.c 1
        have q2 := x4.c 2
        go_wp2
        go_ret
        exact ⟨reti HV.out.symm, hb⟩
      have f6 : decide (t.day ≤ u.day) = false := decide_eq_false go
      have HB : Hid (¬ ordB (prevD ts (k' + 1)) t.day = true) := by show ¬ _; rw [HPd.out]; exact fun h => go (of_decide_eq_true h)
      have hbs2 := blk_lt hbs x4
      go_wp2_with fail
      refine wp_region_kept (by kernel_rfl) (by kernel_rfl) ?_
      refine kept_val _ (fun _ => rfl) (fun ρ w hw => by go_simp; first | done | with_reducible rfl) ?_
      simp only [Act.put, List.setIfInBounds_toArray, List.set_cons_zero, List.set_cons_succ, Nat.reduceAdd]
      refine kept_val (.bool true) (fun _ => rfl) (fun ρ w hw => by go_simp; first | done | omega | (simp; omega)) ?_
      simp only [Act.put, List.setIfInBounds_toArray, List.set_cons_zero, List.set_cons_succ, Nat.reduceAdd]
      refine kept_val _ (fun _ => rfl) (fun ρ w hw => by go_simp; first | done | with_reducible rfl) ?_
      simp only [Act.put, List.setIfInBounds_toArray, List.set_cons_zero, List.set_cons_succ, Nat.reduceAdd]
      refine kept_val _ (fun _ => rfl) (fun ρ w hw => by go_simp; first | done | with_reducible rfl) ?_
      simp only [Act.put, List.setIfInBounds_toArray, List.set_cons_zero, List.set_cons_succ, Nat.reduceAdd]
      refine kept_val _ (fun _ => rfl) (fun ρ w hw => by go_simp; first | done | with_reducible rfl) ?_
      simp only [Act.put, List.setIfInBounds_toArray, List.set_cons_zero, List.set_cons_succ, Nat.reduceAdd]
      refine kept_val _ (fun _ => rfl) (fun ρ w hw => by go_simp; first | done | with_reducible rfl) ?_
      simp only [Act.put, List.setIfInBounds_toArray, List.set_cons_zero, List.set_cons_succ, Nat.reduceAdd]
      refine kept_val _ (fun _ => rfl) (fun ρ w hw => by go_simp; first | done | with_reducible rfl) ?_
      simp only [Act.put, List.setIfInBounds_toArray, List.set_cons_zero, List.set_cons_succ, Nat.reduceAdd]
      refine kept_val _ (fun _ => rfl) (fun ρ w hw => by go_simp; first | done | with_reducible rfl) ?_
      simp only [Act.put, List.setIfInBounds_toArray, List.set_cons_zero, List.set_cons_succ, Nat.reduceAdd]
      refine kept_val _ (fun _ => rfl) (fun ρ w hw => by have q0 := (hw.cell (p := ⟨b, o + k' * 3, none⟩) hbs2).trans r0; go_simp; first | done | with_reducible rfl) ?_
      simp only [Act.put, List.setIfInBounds_toArray, List.set_cons_zero, List.set_cons_succ, Nat.reduceAdd]
      refine kept_val _ (fun _ => rfl) (fun ρ w hw => by go_simp; first | done | with_reducible rfl) ?_
      simp only [Act.put, List.setIfInBounds_toArray, List.set_cons_zero, List.set_cons_succ, Nat.reduceAdd]
      refine kept_val _ (fun _ => rfl) (fun ρ w hw => by have q0 := (x4.below hw).c 0; go_simp; first | done | with_reducible rfl) ?_
      simp only [Act.put, List.setIfInBounds_toArray, List.set_cons_zero, List.set_cons_succ, Nat.reduceAdd]
      refine kept_val _ (fun _ => rfl) (fun ρ w hw => by go_simp; first | done | with_reducible rfl) ?_
      simp only [Act.put, List.setIfInBounds_toArray, List.set_cons_zero, List.set_cons_succ, Nat.reduceAdd]
      refine kept_val _ (fun _ => rfl) (fun ρ w hw => by go_simp; first | done | with_reducible rfl) ?_
      simp only [Act.put, List.setIfInBounds_toArray, List.set_cons_zero, List.set_cons_succ, Nat.reduceAdd]
      refine kept_end (fun ρ w20 hF => ?_)
      have hbF := hF.below
      clear hF
      replace x4 := x4.below hbF
      replace hb := bto hb hbF
      clear hbF
      clear r0 hbs2
      have hcn := cmp_neg (v := val t.vl)
      obtain ⟨c1, hc1⟩ : ∃ c1, cmpZ (val t.vl) 0 = c1 := ⟨_, rfl⟩
      rw [hc1] at hcn
      have CA := Lib.hid (qSign (l := t.vl) (by omega) hc1)
      clear hc1
      by_cases gn : val t.vl < 0
      · have f3 : decide (c1 < 0) = true := decide_eq_true (hcn.1.2 gn)
        have HC := Lib.hid gn
        clear gn hcn
        have q0 := x4.c 0
        have q1 := x4.c 1
        have q2 := x4.c 2
        go_wp2_with fail
        ((with_reducible refine (CA.out.of hG hb).mono ?_); rintro e w28 ⟨rfl, hb28⟩)
        clear q0 q1 q2
        replace x4 := x4.below hb28
        replace hb := bto hb hb28
        clear hb28
        have HV : Hid (pntE ts = 2) := by show _ = _; rw [HE.out, HK.out, HN.out, if_neg HGd.out, if_neg Hgv.out, if_neg Hgf.out, if_neg HLv.out, if_neg HLf.out, if_neg HB.out, if_pos HC.out]
        clear HK HN HE HI HS
        have q0 := x4.c 0
        have q1 := x4.c 1
        have q2 := x4.c 2
        go_wp2
        go_ret
        exact ⟨reti HV.out.symm, hb⟩
      have f3 : decide (c1 < 0) = false := decide_eq_false (fun h => gn (hcn.1.1 h))
      have HGn := Lib.hid gn
      clear gn hcn
      by_cases gl : (k' + 1) + 1 < n
      rotate_left
      · have HV : Hid (pntL none ts = pntL (prevD ts ((k' + 1) + 1)) (ts.drop ((k' + 1) + 1))) := by show _ = _; rw [HK.out, HN.out, if_neg HGd.out, if_neg Hgv.out, if_neg Hgf.out, if_neg HLv.out, if_neg HLf.out, if_neg HB.out, if_neg (show ¬ val t.vl < 0 from by have := HGn.out; omega), if_neg (fun h => gl h.1)]
        have f4 : decide ((((k' + 1) : Nat) : Int) + 1 < (n : Int)) = false := decide_eq_false (by omega)
        clear HK HN
        have q0 := x4.c 0
        have q1 := x4.c 1
        have q2 := x4.c 2
        go_wp2_with fail
        ((with_reducible refine (CA.out.of hG hb).mono ?_); rintro e w29 ⟨rfl, hb29⟩)
        clear q0 q1 q2
        replace x4 := x4.below hb29
        replace hb := bto hb hb29
        clear hb29
        have q0 := x4.c 0
        have q1 := x4.c 1
        have q2 := x4.c 2
        go_wp2
        go_roundw
        case rel => exact ⟨(k' + 1) + 1, by omega, by go_num, HV.out, hb⟩
        case measure => simp [intOf]; omega
      have CB := Lib.hid (qAdd (l := t.vl) (l' := t.fl) (by omega) (by omega) rfl)
      have hyl : (canon (val t.vl + val t.fl)).length ≤ 100 := Nat.le_trans (canon_len_le _ 62 (by have h1 := val_lt_of hv40; have h2 := val_lt_of hf40; have h3 := Int.natAbs_add_le (val t.vl) (val t.fl); have h4 : (10 : Nat) ^ 60 + 10 ^ 60 ≤ 10 ^ 62 := (by decide); omega)) (by decide)
      have hcm := cmp_neg (v := val t.vl + val t.fl)
      obtain ⟨c2, hc2⟩ : ∃ c2, cmpZ (val t.vl + val t.fl) 0 = c2 := ⟨_, rfl⟩
      rw [hc2] at hcm
      have CE := Lib.hid (qSign (l := canon (val t.vl + val t.fl)) (by omega) (c := c2) (by rw [val_canon]; exact hc2))
      clear hc2
      by_cases gs : val t.vl + val t.fl ≤ 0
      · have f5 : decide (c2 ≤ 0) = true := decide_eq_true (hcm.2.2 gs)
        have HC := Lib.hid (And.intro gl gs)
        generalize canon (val t.vl + val t.fl) = yy at *
        clear gs hcm
        have q0 := x4.c 0
        have q1 := x4.c 1
        have q2 := x4.c 2
        go_wp2_with fail
        ((with_reducible refine (CA.out.of hG hb).mono ?_); rintro e w30 ⟨rfl, hb30⟩)
        clear q0 q1 q2
        replace x4 := x4.below hb30
        replace hb := bto hb hb30
        clear hb30
        have q0 := x4.c 0
        have q1 := x4.c 1
        have q2 := x4.c 2
        go_wp2_with fail
        ((with_reducible refine (CB.out.of hG hb).mono ?_); rintro e w31 ⟨rfl, hb31⟩)
        clear q0 q1 q2
        replace x4 := x4.below hb31
        replace hb := bto hb hb31
        clear hb31
        have q0 := x4.c 0
        have q1 := x4.c 1
        have q2 := x4.c 2
        go_wp2_with fail
        ((with_reducible refine (CE.out.of hG hb).mono ?_); rintro e w32 ⟨rfl, hb32⟩)
        clear q0 q1 q2
        replace x4 := x4.below hb32
        replace hb := bto hb hb32
        clear hb32
        have HV : Hid (pntE ts = 2) := by show _ = _; rw [HE.out, HK.out, HN.out, if_neg HGd.out, if_neg Hgv.out, if_neg Hgf.out, if_neg HLv.out, if_neg HLf.out, if_neg HB.out, if_neg (show ¬ val t.vl < 0 from by have := HGn.out; omega), if_pos HC.out]
        clear HK HN HE HI HS
        have q0 := x4.c 0
        have q1 := x4.c 1
        have q2 := x4.c 2
        go_wp2
        go_ret
        exact ⟨reti HV.out.symm, hb⟩
      have HV : Hid (pntL none ts = pntL (prevD ts ((k' + 1) + 1)) (ts.drop ((k' + 1) + 1))) := by show _ = _; rw [HK.out, HN.out, if_neg HGd.out, if_neg Hgv.out, if_neg Hgf.out, if_neg HLv.out, if_neg HLf.out, if_neg HB.out, if_neg (show ¬ val t.vl < 0 from by have := HGn.out; omega), if_neg (fun h => gs h.2)]
      have f5 : decide (c2 ≤ 0) = false := decide_eq_false (fun h => gs (hcm.2.1 h))
      generalize canon (val t.vl + val t.fl) = yy at *
      clear gs hcm HK HN
      have q0 := x4.c 0
      have q1 := x4.c 1
      have q2 := x4.c 2
      go_wp2_with fail
      ((with_reducible refine (CA.out.of hG hb).mono ?_); rintro e w33 ⟨rfl, hb33⟩)
      clear q0 q1 q2
      replace x4 := x4.below hb33
      replace hb := bto hb hb33
      clear hb33
      have q0 := x4.c 0
      have q1 := x4.c 1
      have q2 := x4.c 2
      go_wp2_with fail
      ((with_reducible refine (CB.out.of hG hb).mono ?_); rintro e w34 ⟨rfl, hb34⟩)
      clear q0 q1 q2
      replace x4 := x4.below hb34
      replace hb := bto hb hb34
      clear hb34
      have q0 := x4.c 0
      have q1 := x4.c 1
      have q2 := x4.c 2
      go_wp2_with fail
      ((with_reducible refine (CE.out.of hG hb).mono ?_); rintro e w35 ⟨rfl, hb35⟩)
      clear q0 q1 q2
      replace x4 := x4.below hb35
      replace hb := bto hb hb35
      clear hb35
      have q0 := x4.c 0
      have q1 := x4.c 1
      have q2 := x4.c 2
      go_wp2
      go_roundw
      case rel => exact ⟨(k' + 1) + 1, by omega, by go_num, HV.out, hb⟩
      case measure => simp [intOf]; omega
end Go.Proofs.YtgnppdkeiihlfaaGreatDoor
namespace Go.Proofs.YtgnppdkeiihlfaaGreatDoor
open Num
/-- day, value, flow -/
abbrev PT := Int × Int × Int
/-- the growth factors -/
def facs : List PT → List Rat
  | p :: q :: r => Rat.divInt q.2.1 (p.2.1 + p.2.2) :: facs (q :: r)
  | _ => []
def prodQ : Rat → List Rat → Rat
  | x, [] => x
  | x, f :: r => prodQ (x * f) r
def gainZ : Int → List PT → Int
  | g, [] => g
  | g, p :: r => gainZ (g - p.2.2) r
def capQ (z days : Int) : Rat → List PT → Rat
  | c, [] => c
  | c, p :: r => capQ z days (c + Rat.divInt (p.2.2 * (z - p.1)) days) r
/-- gain and capital of a series -/
def gainP (l : List PT) : Int := match l with
  | [] => 0
  | a :: r => gainZ ((((a :: r).getLast (by simp)).2.1) - a.2.1) (a :: r).dropLast
def capP (l : List PT) : Rat := match l with
  | [] => 0
  | a :: r => capQ (((a :: r).getLast (by simp)).1) (((a :: r).getLast (by simp)).1 - a.1) (a.2.1 : Rat) (a :: r).dropLast
/-- behind each point but the last there is something -/
def PosL : List PT → Prop
  | p :: q :: r => 0 < p.2.1 + p.2.2 ∧ PosL (q :: r)
  | _ => True
theorem prodQ_mul : ∀ (l : List Rat) (x y : Rat), prodQ (x * y) l = x * prodQ y l
  | [], x, y => rfl
  | f :: r, x, y => by
    show prodQ (x * y * f) r = x * prodQ (y * f) r
    rw [← prodQ_mul r x (y * f)]
    congr 1
    grind
theorem prodQ_app : ∀ (l m : List Rat) (x : Rat), prodQ x (l ++ m) = prodQ (prodQ x l) m
  | [], _, _ => rfl
  | f :: r, m, x => prodQ_app r m (x * f)
theorem intq_ne {z : Int} (h : z ≠ 0) : (z : Rat) ≠ 0 := fun e => h (Rat.intCast_inj.1 (e.trans rfl))
theorem divInt_div (a b : Int) : Rat.divInt a b = (a : Rat) / b := Rat.divInt_eq_div a b
/-- without flows behind the first point -/
def still : List PT → List PT := List.map (fun p => (p.1, p.2.1, 0))
theorem facs_still : ∀ (l : List PT) (a : PT) (s : Int), 0 < s → PosL (a :: l) → (∀ p ∈ l, p.2.2 = 0) → a.2.1 + a.2.2 = s → prodQ 1 (facs (a :: l)) = if h : l = [] then 1 else Rat.divInt ((l.getLast h).2.1) s
  | [], a, s, _, _, _, _ => rfl
  | [b], a, s, hs, _, _, e => by
    show prodQ 1 [Rat.divInt b.2.1 (a.2.1 + a.2.2)] = _
    rw [e, dif_neg (by simp)]
    show 1 * _ = _
    rw [Rat.one_mul]; rfl
  | b :: c :: r, a, s, hs, hp, hf, e => by
    have hb := hf b (List.mem_cons_self ..)
    have h2 : 0 < b.2.1 + b.2.2 := hp.2.1
    have ih := facs_still (c :: r) b (b.2.1 + b.2.2) h2 hp.2 (fun p h => hf p (List.mem_cons_of_mem _ h)) rfl
    rw [dif_neg (by simp)] at ih ⊢
    show prodQ (1 * Rat.divInt b.2.1 (a.2.1 + a.2.2)) (facs (b :: c :: r)) = _
    have e1 : (1 : Rat) * Rat.divInt b.2.1 (a.2.1 + a.2.2) = Rat.divInt b.2.1 (a.2.1 + a.2.2) * 1 := by grind
    rw [e1, prodQ_mul, ih, e]
    rw [hb, Int.add_zero] at h2 ⊢
    have : (b :: c :: r).getLast (by simp) = (c :: r).getLast (by simp) := List.getLast_cons (by simp)
    rw [this]
    generalize ((c :: r).getLast _).2.1 = z
    rw [divInt_div, divInt_div, divInt_div]
    have n1 := intq_ne (show s ≠ 0 by omega)
    have n2 := intq_ne (show b.2.1 ≠ 0 by omega)
    grind
theorem gain_still : ∀ (l : List PT) (g : Int), (∀ p ∈ l, p.2.2 = 0) → gainZ g l = g
  | [], g, _ => rfl
  | p :: r, g, h => by
    show gainZ (g - p.2.2) r = g
    rw [h p (List.mem_cons_self ..), Int.sub_zero]
    exact gain_still r g (fun q hq => h q (List.mem_cons_of_mem _ hq))
theorem cap_still (z d : Int) : ∀ (l : List PT) (c : Rat), (∀ p ∈ l, p.2.2 = 0) → capQ z d c l = c
  | [], c, _ => rfl
  | p :: r, c, h => by
    show capQ z d (c + Rat.divInt (p.2.2 * (z - p.1)) d) r = c
    rw [h p (List.mem_cons_self ..), Int.zero_mul, Rat.zero_divInt, Rat.add_zero]
    exact cap_still z d r c (fun q hq => h q (List.mem_cons_of_mem _ hq))
theorem last_cons (a b : PT) (r : List PT) : (a :: b :: r).getLast (by simp) = (b :: r).getLast (by simp) := List.getLast_cons (by simp)
/-- a flow on the first day only: both returns are equal -/
theorem first_only (a b : PT) (r : List PT) (hp : PosL (a :: b :: r)) (hf : ∀ p ∈ (b :: r).dropLast, p.2.2 = 0) (hd : a.1 < ((b :: r).getLast (by simp)).1) (hf2 : ∀ p ∈ b :: r, p.2.2 = 0) :
    capP (a :: b :: r) = ((a.2.1 + a.2.2 : Int) : Rat) ∧ (gainP (a :: b :: r) : Rat) / capP (a :: b :: r) = prodQ 1 (facs (a :: b :: r)) - 1 := by
  have h0 : 0 < a.2.1 + a.2.2 := hp.1
  have e1 : gainP (a :: b :: r) = ((b :: r).getLast (by simp)).2.1 - a.2.1 - a.2.2 := by
    show gainZ (((a :: b :: r).getLast (by simp)).2.1 - a.2.1) (a :: b :: r).dropLast = _
    rw [last_cons]
    show gainZ (_ - a.2.2) (b :: r).dropLast = _
    exact gain_still _ _ hf
  have e2 : capP (a :: b :: r) = ((a.2.1 + a.2.2 : Int) : Rat) := by
    show capQ (((a :: b :: r).getLast (by simp)).1) (((a :: b :: r).getLast (by simp)).1 - a.1) (a.2.1 : Rat) (a :: b :: r).dropLast = _
    rw [last_cons]
    show capQ _ _ ((a.2.1 : Rat) + Rat.divInt (a.2.2 * (((b :: r).getLast (by simp)).1 - a.1)) (((b :: r).getLast (by simp)).1 - a.1)) (b :: r).dropLast = _
    rw [cap_still _ _ _ _ hf]
    generalize ((b :: r).getLast _).1 = z at hd ⊢
    rw [divInt_div, Rat.intCast_mul, Rat.intCast_add]
    have := intq_ne (show z - a.1 ≠ 0 by omega)
    grind
  refine ⟨e2, ?_⟩
  rw [e2, e1, facs_still (b :: r) a _ h0 hp hf2 rfl, dif_neg (by simp)]
  generalize ((b :: r).getLast _).2.1 = z
  rw [divInt_div, Rat.intCast_sub, Rat.intCast_sub, Rat.intCast_add]
  have := intq_ne (show a.2.1 + a.2.2 ≠ 0 by omega)
  rw [Rat.intCast_add] at this
  grind
/-- all numbers times k -/
def timesP (k : Int) : List PT → List PT := List.map (fun p => (p.1, p.2.1 * k, p.2.2 * k))
theorem facs_times (k : Int) (hk : k ≠ 0) : ∀ l : List PT, facs (timesP k l) = facs l
  | [] => rfl
  | [_] => rfl
  | p :: q :: r => by
    show Rat.divInt (q.2.1 * k) (p.2.1 * k + p.2.2 * k) :: facs (timesP k (q :: r)) = _
    rw [facs_times k hk (q :: r), ← Int.add_mul, Rat.divInt_mul_right hk]
    rfl
theorem gainZ_times (k : Int) : ∀ (l : List PT) (g : Int), gainZ (g * k) (timesP k l) = gainZ g l * k
  | [], g => rfl
  | p :: r, g => by
    show gainZ (g * k - p.2.2 * k) (timesP k r) = gainZ (g - p.2.2) r * k
    rw [← gainZ_times k r, Int.sub_mul]
theorem capQ_times (k z d : Int) : ∀ (l : List PT) (c : Rat), capQ z d (c * k) (timesP k l) = capQ z d c l * k
  | [], c => rfl
  | p :: r, c => by
    show capQ z d (c * k + Rat.divInt (p.2.2 * k * (z - p.1)) d) (timesP k r) = capQ z d (c + Rat.divInt (p.2.2 * (z - p.1)) d) r * k
    rw [← capQ_times k z d r]
    congr 1
    rw [divInt_div, divInt_div, Rat.intCast_mul, Rat.intCast_mul, Rat.intCast_mul]
    grind
theorem times_dropLast (k : Int) (l : List PT) : (timesP k l).dropLast = timesP k l.dropLast := by
  unfold timesP; rw [List.map_dropLast]
theorem times_last (k : Int) (l : List PT) (h : l ≠ []) (h' : timesP k l ≠ []) : (timesP k l).getLast h' = ((l.getLast h).1, (l.getLast h).2.1 * k, (l.getLast h).2.2 * k) := by
  have := List.getLast_map (f := fun p : PT => (p.1, p.2.1 * k, p.2.2 * k)) (l := l) h'
  exact this
theorem gainP_times (k : Int) (l : List PT) : gainP (timesP k l) = gainP l * k := by
  cases l with
  | nil => show (0 : Int) = 0 * k; rw [Int.zero_mul]
  | cons a r =>
    show gainZ (((timesP k (a :: r)).getLast (by simp [timesP])).2.1 - a.2.1 * k) (timesP k (a :: r)).dropLast = gainZ _ (a :: r).dropLast * k
    rw [times_last k (a :: r) (by simp), times_dropLast, ← gainZ_times, Int.sub_mul]
theorem capP_times (k : Int) (l : List PT) : capP (timesP k l) = capP l * k := by
  cases l with
  | nil => show (0 : Rat) = 0 * k; rw [Rat.zero_mul]
  | cons a r =>
    show capQ ((timesP k (a :: r)).getLast (by simp [timesP])).1 (((timesP k (a :: r)).getLast (by simp [timesP])).1 - a.1) ((a.2.1 * k : Int) : Rat) (timesP k (a :: r)).dropLast = capQ _ _ _ (a :: r).dropLast * k
    rw [times_last k (a :: r) (by simp), times_dropLast, Rat.intCast_mul, ← capQ_times]

/-- the last flow does not matter -/
theorem facs_last : ∀ (l : List PT) (d v f f' : Int), facs (l ++ [(d, v, f)]) = facs (l ++ [(d, v, f')])
  | [], _, _, _, _ => rfl
  | [_], _, _, _, _ => rfl
  | p :: q :: r, d, v, f, f' => by
    show Rat.divInt q.2.1 (p.2.1 + p.2.2) :: facs (q :: r ++ [(d, v, f)]) = Rat.divInt q.2.1 (p.2.1 + p.2.2) :: facs (q :: r ++ [(d, v, f')])
    rw [facs_last (q :: r) d v f f']
theorem gain_last (a : PT) (l : List PT) (d v f f' : Int) : gainP (a :: l ++ [(d, v, f)]) = gainP (a :: l ++ [(d, v, f')]) ∧ capP (a :: l ++ [(d, v, f)]) = capP (a :: l ++ [(d, v, f')]) := by
  have e1 : ∀ f, (a :: l ++ [(d, v, f)]).getLast (by simp) = (d, v, f) := fun f => List.getLast_concat
  have e2 : ∀ f, (a :: l ++ [(d, v, f)]).dropLast = a :: l := fun f => List.dropLast_concat
  constructor
  · show gainZ (((a :: l ++ [(d, v, f)]).getLast (by simp)).2.1 - a.2.1) (a :: l ++ [(d, v, f)]).dropLast = gainZ (((a :: l ++ [(d, v, f')]).getLast (by simp)).2.1 - a.2.1) (a :: l ++ [(d, v, f')]).dropLast
    rw [e1, e1, e2, e2]
  · show capQ ((a :: l ++ [(d, v, f)]).getLast (by simp)).1 (((a :: l ++ [(d, v, f)]).getLast (by simp)).1 - a.1) (a.2.1 : Rat) (a :: l ++ [(d, v, f)]).dropLast = capQ ((a :: l ++ [(d, v, f')]).getLast (by simp)).1 (((a :: l ++ [(d, v, f')]).getLast (by simp)).1 - a.1) (a.2.1 : Rat) (a :: l ++ [(d, v, f')]).dropLast
    rw [e1, e1, e2, e2]
end Go.Proofs.YtgnppdkeiihlfaaGreatDoor
namespace Go.Proofs.YtgnppdkeiihlfaaGreatDoor
open Num
theorem divInt_mul_den {y u : Int} (hu : 0 < u) : Rat.divInt y u * (u : Rat) = (y : Rat) := by
  have h2 : (0 : Rat) < (u : Rat) := by simpa using (Rat.intCast_pos.2 hu)
  rw [Rat.divInt_eq_div, Rat.div_mul_cancel (by grind)]
theorem pow_cancel {y u : Int} (hu : 0 < u) : ∀ n : Nat, (Rat.divInt y u) ^ n * ((u ^ n : Int) : Rat) = ((y ^ n : Int) : Rat)
  | 0 => by rw [Rat.pow_zero, Int.pow_zero, Int.pow_zero, Rat.one_mul]
  | n + 1 => by
    have ih := pow_cancel (y := y) hu n
    have h1 := divInt_mul_den (y := y) hu
    rw [Rat.pow_succ, Int.pow_succ, Int.pow_succ, Rat.intCast_mul, Rat.intCast_mul, ← ih, ← h1]
    generalize Rat.divInt y u = q
    generalize ((u ^ n : Int) : Rat) = U
    grind
theorem intq_pos {u : Int} (hu : 0 < u) : (0 : Rat) < (u : Rat) := by simpa using (Rat.intCast_pos.2 hu)
theorem frac_self (f : Rat) : Rat.divInt f.num f.den = f := Rat.num_divInt_den f
theorem den_pos (f : Rat) : (0 : Int) < (f.den : Int) := by have := f.den_nz; omega
theorem num_den (f : Rat) : f * ((f.den : Int) : Rat) = (f.num : Rat) := by
  have := divInt_mul_den (y := f.num) (u := (f.den : Int)) (den_pos f)
  rwa [frac_self] at this
theorem mul_le_iff {a b c : Rat} (h : 0 < c) : a * c ≤ b * c ↔ a ≤ b := ⟨fun h1 => Rat.le_of_mul_le_mul_right h1 h, fun h1 => Rat.mul_le_mul_of_nonneg_right h1 (Rat.le_of_lt h)⟩
theorem mul_inj {a b c : Rat} (h : 0 < c) : a * c = b * c ↔ a = b := ⟨fun h1 => Rat.le_antisymm ((mul_le_iff h).1 (by rw [h1]; exact Rat.le_refl)) ((mul_le_iff h).1 (by rw [h1]; exact Rat.le_refl)), fun h1 => by rw [h1]⟩
/-- what the reference compares -/
theorem goal_iff (f : Rat) (n : Nat) {y u : Int} (hu : 0 < u) : (y ^ n * (f.den : Int) ≤ f.num * u ^ n ↔ (Rat.divInt y u) ^ n ≤ f) ∧ (y ^ n * (f.den : Int) = f.num * u ^ n ↔ (Rat.divInt y u) ^ n = f) := by
  have h1 := pow_cancel (y := y) hu n
  have h2 := num_den f
  have h3 := intq_pos (den_pos f)
  have h4 : (0 : Rat) < ((u ^ n : Int) : Rat) := intq_pos (Int.pow_pos hu)
  have e1 : ((y ^ n * (f.den : Int) : Int) : Rat) = (Rat.divInt y u) ^ n * ((f.den : Int) : Rat) * ((u ^ n : Int) : Rat) := by rw [Rat.intCast_mul, ← h1]; grind
  have e2 : ((f.num * u ^ n : Int) : Rat) = f * ((f.den : Int) : Rat) * ((u ^ n : Int) : Rat) := by rw [Rat.intCast_mul, ← h2]
  rw [← Rat.intCast_le_intCast, ← Rat.intCast_inj, e1, e2, mul_le_iff h4, mul_le_iff h3, mul_inj h4, mul_inj h3]
  exact ⟨Iff.rfl, Iff.rfl⟩
/-- the greatest number of units which, to the power n, is not greater than f -/
structure RootA (f : Rat) (n : Nat) (u z : Int) : Prop where
  nn : 0 ≤ z
  le : z ≤ (f.num + 1) * u
  iff : ∀ y, 1 ≤ y → ((Rat.divInt y u) ^ n ≤ f ↔ y ≤ z)
theorem le_num {f : Rat} (hf : 0 < f) : f ≤ (f.num : Rat) := by
  have h2 := num_den f
  have h3 : ((1 : Int) : Rat) ≤ ((f.den : Int) : Rat) := Rat.intCast_le_intCast.2 (by have := den_pos f; omega)
  rw [← h2]
  have : f * ((1 : Int) : Rat) ≤ f * ((f.den : Int) : Rat) := Rat.mul_le_mul_of_nonneg_left h3 (Rat.le_of_lt hf)
  have o : ((1 : Int) : Rat) = 1 := rfl
  rw [o, Rat.mul_one] at this
  exact this
theorem num_pos' {f : Rat} (hf : 0 < f) : 0 < f.num := by
  have h := le_num hf
  have : (0 : Rat) < (f.num : Rat) := by grind
  simpa using (Rat.intCast_pos.1 (by simpa using this))
theorem rootA_is {f : Rat} (hf : 0 < f) {n : Nat} (hn : 0 < n) {u : Int} (hu : 0 < u) : ∃ z, RootA f n u z := by
  have hnum := num_pos' hf
  have hm : 0 ≤ (f.num + 1) * u := Int.mul_nonneg (by omega) (by omega)
  obtain ⟨z0, h1, h2, h3⟩ := top_of (fun y => (Rat.divInt y u) ^ n ≤ f) (fun z z' hz hzz hq =>
    Rat.le_trans (pow_le' (divInt_pos hz hu) (divInt_le' hzz hu) n) hq) (((f.num + 1) * u).toNat) (fun z hz h1 hq => by
    have h4 := divInt_mul_den (y := z) hu
    have h5 : (((f.num + 1) * u : Int) : Rat) ≤ (z : Rat) := Rat.intCast_le_intCast.2 (by omega)
    rw [Rat.intCast_mul, Rat.intCast_add, ← h4] at h5
    have h6 := (mul_le_iff (intq_pos hu)).1 h5
    have h7 := le_num hf
    have o : ((1 : Int) : Rat) = 1 := rfl
    rw [o] at h6
    have h8 := pow_ge1 (x := Rat.divInt z u) (by grind) hn
    grind)
  exact ⟨z0, h1, by omega, h3⟩
def topA (f : Rat) (n : Nat) (u z : Int) : Int := if (Rat.divInt z u) ^ n = f then z else z + 1
theorem zero_powq {n : Nat} (hn : 0 < n) : (0 : Rat) ^ n = 0 := by
  obtain ⟨k, rfl⟩ : ∃ k, n = k + 1 := ⟨n - 1, by omega⟩
  rw [Rat.pow_succ, Rat.mul_zero]
theorem RootA.low {f : Rat} {n : Nat} {u z : Int} (h : RootA f n u z) (hf : 0 < f) (hn : 0 < n) : (Rat.divInt z u) ^ n ≤ f := by
  have := h.nn
  by_cases h0 : z = 0
  · rw [h0, divInt_zero', zero_powq hn]; exact Rat.le_of_lt hf
  · exact (h.iff z (by omega)).2 (Int.le_refl _)
theorem RootA.next {f : Rat} {n : Nat} {u z : Int} (h : RootA f n u z) : f < (Rat.divInt (z + 1) u) ^ n := by
  have := h.nn
  have h2 := h.iff (z + 1) (by omega)
  have h3 : ¬ (Rat.divInt (z + 1) u) ^ n ≤ f := fun h3 => by have := h2.1 h3; omega
  grind
theorem RootA.high {f : Rat} {n : Nat} {u z : Int} (h : RootA f n u z) : f ≤ (Rat.divInt (topA f n u z) u) ^ n := by
  unfold topA
  split
  · rename_i e; rw [e]; exact Rat.le_refl
  · exact Rat.le_of_lt h.next
theorem less_one (z : Int) {u : Int} (hu : 0 < u) : Rat.divInt (z - u) u = Rat.divInt z u - 1 := by
  have h := intq_pos hu
  refine (mul_inj h).1 ?_
  have h1 := divInt_mul_den (y := z) hu
  rw [divInt_mul_den hu, Rat.intCast_sub, ← h1]
  generalize Rat.divInt z u = q
  grind
theorem plus_unit (z : Int) {u : Int} (hu : 0 < u) : Rat.divInt z u + Rat.divInt 1 u = Rat.divInt (z + 1) u := by
  have h := intq_pos hu
  refine (mul_inj h).1 ?_
  have h1 := divInt_mul_den (y := z) hu
  have h2 := divInt_mul_den (y := 1) hu
  rw [divInt_mul_den hu, Rat.intCast_add, ← h1, ← h2]
  generalize Rat.divInt z u = q
  generalize Rat.divInt 1 u = r
  grind
end Go.Proofs.YtgnppdkeiihlfaaGreatDoor
namespace Go.Proofs.YtgnppdkeiihlfaaGreatDoor
open Num
def ptZ (t : Pnt) : PT := (t.day, val t.vl, val t.fl)
def pts (ts : List Pnt) : List PT := ts.map ptZ
theorem pts_len (ts : List Pnt) : (pts ts).length = ts.length := List.length_map _
theorem pts_drop (ts : List Pnt) (k : Nat) : pts (ts.drop k) = (pts ts).drop k := List.map_drop ..
theorem pts_take (ts : List Pnt) (k : Nat) : pts (ts.take k) = (pts ts).take k := List.map_take ..
/-- days that increase -/
def UpD : Option Int → List Pnt → Prop
  | _, [] => True
  | o, p :: r => ordB o p.day = false ∧ UpD (some p.day) r
structure PntOk (t : Pnt) : Prop where
  day : -25567 ≤ t.day ∧ t.day ≤ 84005
  cv : t.vl = canon (val t.vl)
  cf : t.fl = canon (val t.fl)
  lv : t.vl.length ≤ 41
  lf : t.fl.length ≤ 41
  nn : 0 ≤ val t.vl
theorem digN_len {l : List UInt8} (h : ¬ longB l = true) : l.length ≤ 41 := by
  have h2 : ¬ 40 < digN l := fun h3 => h (decide_eq_true h3)
  cases l with
  | nil => exact Nat.zero_le _
  | cons c t =>
    rw [List.length_cons]
    have e : digN (c :: t) = if c.toNat = 45 then (t.length : Int) else t.length + 1 := rfl
    rw [e] at h2
    split at h2 <;> omega
theorem pntL_ok : ∀ (ts : List Pnt) (o : Option Int), pntL o ts = 0 → PosL (pts ts) ∧ UpD o ts ∧ ∀ t ∈ ts, PntOk t
  | [], _, _ => ⟨trivial, trivial, fun _ h => by cases h⟩
  | p :: r, o, h => by
    unfold pntL at h
    by_cases g1 : dayB p.day = false
    · rw [if_pos g1] at h; cases h
    rw [if_neg g1] at h
    by_cases g2 : p.vl = canon (val p.vl)
    rotate_left
    · rw [if_pos g2] at h; cases h
    rw [if_neg (fun h => h g2)] at h
    by_cases g3 : p.fl = canon (val p.fl)
    rotate_left
    · rw [if_pos g3] at h; cases h
    rw [if_neg (fun h => h g3)] at h
    by_cases g7 : longB p.vl = true
    · rw [if_pos g7] at h; cases h
    rw [if_neg g7] at h
    by_cases g8 : longB p.fl = true
    · rw [if_pos g8] at h; cases h
    rw [if_neg g8] at h
    by_cases g4 : ordB o p.day = true
    · rw [if_pos g4] at h; cases h
    rw [if_neg g4] at h
    by_cases g5 : val p.vl < 0
    · rw [if_pos g5] at h; cases h
    rw [if_neg g5] at h
    by_cases g6 : r ≠ [] ∧ val p.vl + val p.fl ≤ 0
    · rw [if_pos g6] at h; cases h
    rw [if_neg g6] at h
    obtain ⟨i1, i2, i3⟩ := pntL_ok r (some p.day) h
    refine ⟨?_, ⟨by simpa using g4, i2⟩, fun t ht => ?_⟩
    · cases r with
      | nil => exact trivial
      | cons q s =>
        refine ⟨?_, i1⟩
        show 0 < val p.vl + val p.fl
        have : ¬ val p.vl + val p.fl ≤ 0 := fun h => g6 ⟨by simp, h⟩
        omega
    · rcases List.mem_cons.1 ht with rfl | ht
      · refine ⟨?_, g2, g3, digN_len g7, digN_len g8, by omega⟩
        unfold dayB at g1
        simp only [Bool.and_eq_false_iff, decide_eq_false_iff_not, not_or, Decidable.not_not] at g1
        exact g1
      · exact i3 t ht
theorem pntE_ok {ts : List Pnt} (h : pntE ts = 0) : 1 ≤ ts.length ∧ ts.length ≤ 400 ∧ PosL (pts ts) ∧ UpD none ts ∧ ∀ t ∈ ts, PntOk t := by
  unfold pntE at h
  by_cases h0 : ts.length = 0
  · rw [if_pos h0] at h; cases h
  rw [if_neg h0] at h
  by_cases h1 : 400 < ts.length
  · rw [if_pos h1] at h; cases h
  rw [if_neg h1] at h
  exact ⟨by omega, by omega, pntL_ok ts none h⟩
/-! the growth factors -/
theorem facs_two (p q : PT) (r : List PT) : facs (p :: q :: r) = Rat.divInt q.2.1 (p.2.1 + p.2.2) :: facs (q :: r) := rfl
theorem facs_len : ∀ l : List PT, (facs l).length = l.length - 1
  | [] => rfl
  | [_] => rfl
  | p :: q :: r => by
    rw [facs_two, List.length_cons, facs_len (q :: r)]
    simp
theorem facs_step {ts : List Pnt} {k : Nat} {p q : Pnt} (hp : ts[k]? = some p) (hq : ts[k + 1]? = some q) : facs (pts (ts.drop k)) = Rat.divInt (val q.vl) (val p.vl + val p.fl) :: facs (pts (ts.drop (k + 1))) := by
  obtain ⟨h1, rfl⟩ := List.getElem?_eq_some_iff.1 hp
  obtain ⟨h2, rfl⟩ := List.getElem?_eq_some_iff.1 hq
  rw [List.drop_eq_getElem_cons h1, List.drop_eq_getElem_cons h2]; rfl
theorem facs_end {ts : List Pnt} {k : Nat} (h : ts.length ≤ k + 1) : facs (pts (ts.drop k)) = [] := by
  have h1 : (ts.drop k).length ≤ 1 := by rw [List.length_drop]; omega
  match hd : ts.drop k, h1 with
  | [], _ => rfl
  | [_], _ => rfl
  | _ :: _ :: _, h => simp at h
theorem posL_at : ∀ {ts : List Pnt} {k : Nat} {p q : Pnt}, PosL (pts ts) → ts[k]? = some p → ts[k + 1]? = some q → 0 < val p.vl + val p.fl
  | [], k, p, q, _, h, _ => by simp at h
  | [a], k, p, q, _, _, h => by simp at h
  | a :: b :: r, 0, p, q, h, hp, _ => by
    have : a = p := by simpa using hp
    subst this; exact h.1
  | a :: b :: r, k + 1, p, q, h, hp, hq => posL_at (ts := b :: r) (k := k) h.2 (by simpa using hp) (by simpa using hq)
theorem fac_bd {p q : Pnt} (h : 0 < val p.vl + val p.fl) (hp : PntOk p) (hq : PntOk q) : Bd 42 (Rat.divInt (val q.vl) (val p.vl + val p.fl)) := by
  have a1 := val_lt_of hq.lv
  have a2 := val_lt_of hp.lv
  have a3 := val_lt_of hp.lf
  have a4 : (10 : Nat) ^ 41 + 10 ^ 41 ≤ 10 ^ 42 := by decide
  have a5 := Int.natAbs_add_le (val p.vl) (val p.fl)
  exact bd_divInt (by omega) (by omega) (by omega)
theorem facs_bd : ∀ {ts : List Pnt}, PosL (pts ts) → (∀ t ∈ ts, PntOk t) → ∀ q ∈ facs (pts ts), Bd 42 q
  | [], _, _, q, h => by cases h
  | [_], _, _, q, h => by cases h
  | a :: b :: r, hp, hs, q, h => by
    have h1 : facs (pts (a :: b :: r)) = Rat.divInt (val b.vl) (val a.vl + val a.fl) :: facs (pts (b :: r)) := rfl
    rw [h1] at h
    rcases List.mem_cons.1 h with rfl | h
    · exact fac_bd hp.1 (hs a (by simp)) (hs b (by simp))
    · exact facs_bd (ts := b :: r) hp.2 (fun t ht => hs t (List.mem_cons_of_mem _ ht)) q h
theorem prodQ_bd {M : Nat} : ∀ (l : List Rat) {x : Rat} {K : Nat}, Bd K x → (∀ q ∈ l, Bd M q) → Bd (K + M * l.length) (prodQ x l)
  | [], x, K, h, _ => by rw [List.length_nil, Nat.mul_zero]; exact h
  | f :: r, x, K, h, hl => by
    have := prodQ_bd (M := M) r (x := x * f) (K := K + M) (bd_mul h (hl f (List.mem_cons_self ..))) (fun q hq => hl q (List.mem_cons_of_mem _ hq))
    rw [List.length_cons, Nat.mul_succ, show K + (M * r.length + M) = K + M + M * r.length by omega]
    exact this
theorem prodQ_snoc (l : List Rat) (x y : Rat) : prodQ x (l ++ [y]) = prodQ x l * y := prodQ_app l [y] x
theorem bd_one : Bd 1 (1 : Rat) := ⟨by decide, by decide⟩
/-! gain and capital -/
theorem gainZ_snoc : ∀ (l : List PT) (g : Int) (p : PT), gainZ g (l ++ [p]) = gainZ g l - p.2.2
  | [], _, _ => rfl
  | q :: r, g, p => gainZ_snoc r (g - q.2.2) p
theorem capQ_snoc (z d : Int) : ∀ (l : List PT) (c : Rat) (p : PT), capQ z d c (l ++ [p]) = capQ z d c l + Rat.divInt (p.2.2 * (z - p.1)) d
  | [], _, _ => rfl
  | _ :: r, _, p => capQ_snoc z d r _ p
theorem take_snoc {α : Type} {T : List α} {k : Nat} {y : α} (h : T[k]? = some y) : T.take (k + 1) = T.take k ++ [y] := by
  obtain ⟨hk, rfl⟩ := List.getElem?_eq_some_iff.1 h
  exact (List.take_append_getElem hk).symm
theorem pts_at {ts : List Pnt} {k : Nat} {t : Pnt} (h : ts[k]? = some t) : (pts ts)[k]? = some (ptZ t) := by unfold pts; rw [List.getElem?_map, h]; rfl
def gainK (ts : List Pnt) (g : Int) (k : Nat) : Int := gainZ g ((pts ts).take k)
def capK (ts : List Pnt) (z d : Int) (c : Rat) (k : Nat) : Rat := capQ z d c ((pts ts).take k)
theorem gainK_step {ts : List Pnt} {k : Nat} {t : Pnt} (h : ts[k]? = some t) (g : Int) : gainK ts g (k + 1) = gainK ts g k - val t.fl := by
  unfold gainK; rw [take_snoc (pts_at h), gainZ_snoc]; rfl
theorem capK_step {ts : List Pnt} {k : Nat} {t : Pnt} (h : ts[k]? = some t) (z d : Int) (c : Rat) : capK ts z d c (k + 1) = capK ts z d c k + Rat.divInt (val t.fl * (z - t.day)) d := by
  unfold capK; rw [take_snoc (pts_at h), capQ_snoc]; rfl
theorem part_bd {f z a d : Int} (h : f.natAbs < 10 ^ 41) (h1 : (z - a).natAbs < 10 ^ 6) (h2 : d.natAbs < 10 ^ 6) (h0 : d ≠ 0) : Bd 47 (Rat.divInt (f * (z - a)) d) := by
  refine bd_divInt ?_ (Nat.lt_of_lt_of_le h2 (by decide)) h0
  rw [Int.natAbs_mul]
  rw [show (10 : Nat) ^ 47 = 10 ^ 41 * 10 ^ 6 by decide]
  exact Nat.mul_lt_mul'' h h1
theorem gainK_bd {ts : List Pnt} (hs : ∀ t ∈ ts, PntOk t) {g : Int} (hg : g.natAbs < 10 ^ 42) : ∀ k, k ≤ ts.length → (gainK ts g k).natAbs < 10 ^ (42 + k)
  | 0, _ => by unfold gainK; rw [List.take_zero]; exact hg
  | k + 1, h => by
    obtain ⟨t, ht⟩ : ∃ t, ts[k]? = some t := ⟨_, List.getElem?_eq_getElem (by omega)⟩
    rw [gainK_step ht]
    have ih := gainK_bd hs hg k (by omega)
    have a1 := val_lt_of (hs t (List.mem_of_getElem? ht)).lf
    have a2 : (10 : Nat) ^ 41 ≤ 10 ^ (42 + k) := Nat.pow_le_pow_right (by decide) (by omega)
    have a3 : (10 : Nat) ^ (42 + (k + 1)) = 10 ^ (42 + k) * 10 := by rw [← Nat.pow_succ]; rfl
    generalize 10 ^ (42 + (k + 1)) = X at *
    generalize 10 ^ (42 + k) = Y at *
    generalize 10 ^ 41 = Z at *
    omega
theorem capK_bd {ts : List Pnt} (hs : ∀ t ∈ ts, PntOk t) {z d : Int} {c : Rat} (hc : Bd 42 c) (hz : -25567 ≤ z ∧ z ≤ 84005) (hd : d.natAbs < 10 ^ 6) (h0 : d ≠ 0) : ∀ k, k ≤ ts.length → Bd (42 + 48 * k) (capK ts z d c k)
  | 0, _ => by unfold capK; rw [List.take_zero]; exact hc
  | k + 1, h => by
    obtain ⟨t, ht⟩ : ∃ t, ts[k]? = some t := ⟨_, List.getElem?_eq_getElem (by omega)⟩
    rw [capK_step ht]
    have ih := capK_bd hs hc hz hd h0 k (by omega)
    have ho := hs t (List.mem_of_getElem? ht)
    have a1 := part_bd (f := val t.fl) (z := z) (a := t.day) (d := d) (val_lt_of ho.lf) (by have := ho.day; omega) hd h0
    exact bd_mono (bd_add ih a1) (by omega)
/-- first and last point; gain and capital -/
theorem last_at {α : Type} : ∀ {l : List α} {n : Nat} {z : α}, l.length = n + 1 → l[n]? = some z → (h : l ≠ []) → l.getLast h = z
  | l, n, z, h1, h2, h => by
    have := List.getLast?_eq_getElem? (l := l)
    rw [h1, Nat.add_sub_cancel, h2, List.getLast?_eq_some_getLast h] at this
    exact Option.some.inj this
theorem gainP_at {ts : List Pnt} {n : Nat} {a z : Pnt} (hn : ts.length = n + 1) (ha : ts[0]? = some a) (hz : ts[n]? = some z) : gainP (pts ts) = gainK ts (val z.vl - val a.vl) n ∧ capP (pts ts) = capK ts z.day (z.day - a.day) (val a.vl : Rat) n := by
  have hl := last_at (l := pts ts) (by rw [pts_len, hn]) (pts_at hz)
  cases hts : pts ts with
  | nil => have := pts_len ts; rw [hts, hn] at this; cases this
  | cons b r =>
    have hb : b = ptZ a := by
      have := pts_at ha
      rw [hts] at this
      simpa using this
    have hdl : (b :: r).dropLast = (pts ts).take n := by
      rw [← hts, List.dropLast_eq_take, pts_len, hn]; rfl
    have hl2 : (b :: r).getLast (by simp) = ptZ z := by
      have := hl (by rw [hts]; simp)
      rw [← this]; congr 1; exact hts.symm
    constructor
    · show gainZ (((b :: r).getLast (by simp)).2.1 - b.2.1) (b :: r).dropLast = _
      rw [hl2, hdl, hb]; rfl
    · show capQ (((b :: r).getLast (by simp)).1) (((b :: r).getLast (by simp)).1 - b.1) (b.2.1 : Rat) (b :: r).dropLast = _
      rw [hl2, hdl, hb]; rfl
theorem upD_le : ∀ {ts : List Pnt} {o : Option Int} {k : Nat} {t : Pnt}, UpD o ts → ts[k]? = some t → ∀ d, o = some d → d < t.day
  | [], _, k, t, _, h, _, _ => by simp at h
  | p :: r, o, 0, t, h, ht, d, hd => by
    have : p = t := by simpa using ht
    subst this
    have := h.1
    subst hd
    unfold ordB at this
    simpa using this
  | p :: r, o, k + 1, t, h, ht, d, hd => by
    have h1 := upD_le (o := o) (k := 0) h (show (p :: r)[0]? = some p from rfl) d hd
    have h2 := upD_le (ts := r) (k := k) h.2 (by simpa using ht) p.day rfl
    omega
theorem upD_days {ts : List Pnt} {o : Option Int} {i k : Nat} {a z : Pnt} (h : UpD o ts) (ha : ts[i]? = some a) (hz : ts[k]? = some z) (hik : i < k) : a.day < z.day := by
  induction ts generalizing o i k with
  | nil => simp at ha
  | cons p r ih =>
    cases k with
    | zero => omega
    | succ k =>
      cases i with
      | zero =>
        have : p = a := by simpa using ha
        subst this
        exact upD_le (ts := r) (k := k) h.2 (by simpa using hz) p.day rfl
      | succ i => exact ih h.2 (by simpa using ha) (by simpa using hz) (by omega)
end Go.Proofs.YtgnppdkeiihlfaaGreatDoor
namespace Go.Proofs.YtgnppdkeiihlfaaGreatDoor
open Go.RowKit Go.Shelf Num
attribute [local go_sem] Oper.semAt_some
section
variable {w : World} {b c l i : Nat} {v u x y : Value} {cs : Array Value} {ob : Obj}
theorem Blk.set1 (h : Blk w b #[v]) (u : Value) : Blk (w.setCell ⟨b, 0, none⟩ u) b #[u] := by
  obtain ⟨t, h⟩ := h
  refine ⟨t, ?_⟩
  obtain ⟨hlt, hk⟩ := Array.getElem?_eq_some_iff.1 h
  show (w.heap.modify b _)[b]? = _
  rw [Array.getElem?_eq_getElem (by rw [Array.size_modify]; exact hlt), Array.getElem_modify_self, hk]
  rfl
theorem Blk.setAt (h : Blk w b cs) (i : Nat) (u : Value) : Blk (w.setCell ⟨b, i, none⟩ u) b (cs.setIfInBounds i u) := by
  obtain ⟨t, h⟩ := h
  refine ⟨t, ?_⟩
  obtain ⟨hlt, hk⟩ := Array.getElem?_eq_some_iff.1 h
  show (w.heap.modify b _)[b]? = _
  rw [Array.getElem?_eq_getElem (by rw [Array.size_modify]; exact hlt), Array.getElem_modify_self, hk]
  simp
theorem Blk.set2 (h : Blk w b #[u, v]) (x y : Value) : Blk ((w.setCell ⟨b, 0, none⟩ x).setCell ⟨b, 1, none⟩ y) b #[x, y] := (h.setAt 0 x).setAt 1 y
theorem Blk.setO (h : Blk w b cs) (hn : b ≠ c) : Blk (w.setCell ⟨c, i, none⟩ u) b cs := by
  obtain ⟨t, h⟩ := h
  exact ⟨t, (Below.heap_setCell w ⟨c, i, none⟩ u b hn).trans h⟩
theorem Blk.putO (h : Blk w b cs) (hn : b ≠ l) : Blk (w.putObj l ob) b cs := by
  obtain ⟨t, h⟩ := h
  exact ⟨t, (World.putObj_heap_other hn).trans h⟩
theorem Blk.box (h : Blk w b #[u, v]) : FBox w b u v := ⟨h.c 0, h.c 1, h.f 0, h.f 1, h.lt⟩
end
theorem below_put {w W : World} {l : Nat} {ob : Obj} (h : Below w.heap.size w W) (hl : w.heap.size ≤ l) : Below w.heap.size w (W.putObj l ob) :=
  h.trans ⟨rfl, rfl, rfl, by simp, fun k hk => World.putObj_heap_other (by omega)⟩
theorem setCell_loop {w : World} {l c i : Nat} {u : Value} {ob : Obj} (h : w.heap[l]? = some ob) (hn : l ≠ c) : (w.setCell ⟨c, i, none⟩ u).heap[l]? = some ob := (Below.heap_setCell w ⟨c, i, none⟩ u l hn).trans h
set_option maxHeartbeats 1000000 in
set_option maxRecDepth 100000 in
theorem twRatio {l l' : List UInt8} (hl : l.length ≤ 1000000) (hl' : l'.length ≤ 1000000) (h0 : val l' ≠ 0) {q : Rat} (eq : Rat.divInt (val l) (val l') = q) : Ret 175 #[.string ⟨l.toArray⟩, .string ⟨l'.toArray⟩] (Value.agg #[Value.string ⟨List.toArray (fN q)⟩, Value.string ⟨List.toArray (fD q)⟩]) := fun w hG => by
  have C1 := Lib.hid (rNew (l := l) (l' := l') hl hl' h0 eq)
  have x3 := FBox.new w (.string ⟨#[]⟩) (.string ⟨#[]⟩) 25
  have hb := below_alloc w (.cells #[.string ⟨#[]⟩, .string ⟨#[]⟩] 25)
  clear hl hl' h0 eq
  go_enter Tryz.func175, Tryz.ntmps175
  go_wp2_with fail
  ((with_reducible refine (C1.out.of hG hb).mono ?_); rintro e w2 ⟨rfl, hb2⟩)
  have x4 := FBox.new w2 (.string ⟨(fN q).toArray⟩) (.string ⟨(fD q).toArray⟩) 25
  have hbA := below_alloc w2 (.cells #[.string ⟨(fN (q)).toArray⟩, .string ⟨(fD (q)).toArray⟩] 25)
  replace x3 := (x3.below hb2).below hbA
  replace hb := bto hb (bto hb2 hbA)
  have g0 := x3.c0
  have g1 := x3.c1
  have g2 := x3.f0
  have g3 := x3.f1
  have p0 := x4.c0
  have p1 := x4.c1
  clear hb2 hbA
  go_wp2
  have hy := x3.set (.string ⟨(fN q).toArray⟩) (.string ⟨(fD q).toArray⟩)
  have d0 := hy.c0
  have d1 := hy.c1
  refine bodyPost_ret (v := (Value.agg #[Value.string ⟨List.toArray (fN q)⟩, Value.string ⟨List.toArray (fD q)⟩])) (by simp [results, Tryz.results175, go_sem, d0, d1]) rfl ?_
  exact ⟨rfl, below_set2 hb (Nat.le_refl _) _ _⟩
/-- what a function value yields, wherever it is called beyond w -/
def IterOk (w : World) (gf : Nat) (lb : Array Value) (qs : List Rat) (M : Nat) : Prop :=
  ∀ (m lw : Nat) (S : List Rat → World → Prop), (∀ ys W, S ys W → Below w.heap.size w W) → (∀ ys W W', S ys W → Below W.heap.size W W' → S ys W') →
    (∀ ys y W, S ys W → Bd M y → ys.length < qs.length → YieldAt Fence.wide (m - 1) Tryz.prog lw #[(Value.agg #[Value.string ⟨List.toArray (fN y)⟩, Value.string ⟨List.toArray (fD y)⟩])] W fun e W' => e = .returned (.bool true) ∧ S (ys ++ [y]) W') →
    ∀ W, S [] W → CallsIn Fence.wide m Tryz.prog gf (#[.func (.yield lw) #[] #[]] ++ lb) W fun e W' => (∃ v, e = .returned v) ∧ S qs W'
theorem IterOk.below {w w1 : World} {gf : Nat} {lb : Array Value} {qs : List Rat} {M : Nat} (h : IterOk w gf lb qs M) (hb : Below w.heap.size w w1) : IterOk w1 gf lb qs M :=
  fun m lw S h1 h2 h3 W h4 => h m lw S (fun ys W hS => bto hb (h1 ys W hS)) h2 h3 W h4
set_option maxHeartbeats 4000000 in
set_option maxRecDepth 100000 in
theorem facs1_in (bl : Nat) (A : Option Addr) (ts : List Pnt) (n c : Nat) (w : World) (hG : Glob w) (hn : ts.length = n) (hn0 : 1 ≤ n) (hn3 : n ≤ 1000) (hok : ∀ t ∈ ts, PntOk t) (hp : PosL (pts ts)) (h : PntAt w A ts) (hbl : Blk w bl #[.slice A n c]) :
    IterOk w 190 #[.pointer (some ⟨bl, 0, none⟩)] (facs (pts ts)) 42 := by
  intro m lw S hSB hSm hY W hS
  have HI := Lib.hid h
  have HP := Lib.hid hp
  have HS0 := Lib.hid hok
  have HB := Lib.hid hSB
  have HM := Lib.hid hSm
  have HY := Lib.hid hY
  have HX := Lib.hid hS
  have hn1 : ts.length ≤ n := by omega
  have hn2 : n ≤ ts.length := by omega
  have HFL : Hid ((facs (pts ts)).length = n - 1) := by show _ = _; rw [facs_len, pts_len]; omega
  clear h hp hok hSB hSm hY hS hn
  show CallsIn Fence.wide m Tryz.prog 190 #[.func (.yield lw) #[] #[], .pointer (some ⟨bl, 0, none⟩)] W _
  refine callsIn_of_wp Tryz.func190 rfl trivial ?_ rfl
  simp only [Tryz.ntmps190, List.size_toArray, List.length_cons, List.length_nil, Nat.reduceAdd, Nat.reduceSub, Array.replicate_succ, Array.replicate_zero, List.push_toArray, List.append_toArray, List.nil_append, List.cons_append]
  gi_wp2_with fail
  gi_loopw [3] (fun iv wr => ∃ (k : Nat) (ys : List Rat), k + 1 ≤ n ∧ iv = .int .i64 ((k : Int) + 1) ∧ Hid (ys.length = k) ∧ Hid (ys ++ facs (pts (ts.drop k)) = facs (pts ts)) ∧ Hid (S ys wr)) (fun iv _ => n + 1 - (intOf iv).toNat)
  case atStart => exact ⟨0, [], hn0, rfl, rfl, rfl, HX.out⟩
  case round =>
    clear HX
    obtain ⟨k, ys, hk, rfl, HL, HQ, HX⟩ := hrel
    have hb := HB.out _ _ HX.out
    have hGr := hG.below hb
    have hblk := hbl.below hb
    have q0 : wr.cell? ⟨bl, 0, none⟩ = some (.slice A n c) := hblk.c 0
    by_cases hlk : k + 1 < n
    rotate_left
    · have HE : Hid (S (facs (pts ts)) wr) := by
        have h1 := HQ.out
        rw [facs_end (by omega), List.append_nil] at h1
        show S _ wr
        rw [← h1]; exact HX.out
      have e1 : decide ((k : Int) + 1 < n) = false := decide_eq_false (by omega)
      clear HQ HX HL
      gi_wp2
      go_end0
      exact ⟨⟨_, rfl⟩, HE.out⟩
    have e1 : decide ((k : Int) + 1 < n) = true := decide_eq_true (by omega)
    obtain ⟨t, ht⟩ : ∃ t, ts[k]? = some t := ⟨_, List.getElem?_eq_getElem (by omega)⟩
    obtain ⟨u, hu⟩ : ∃ u, ts[k + 1]? = some u := ⟨_, List.getElem?_eq_getElem (by omega)⟩
    have oT := HS0.out t (List.mem_of_getElem? ht)
    have oU := HS0.out u (List.mem_of_getElem? hu)
    have hpos := posL_at HP.out ht hu
    have HBd := Lib.hid (fac_bd hpos oT oU)
    have HN := Lib.hid (facs_step ht hu)
    have hl1 := oT.lv
    have hl2 := oT.lf
    have hl3 := oU.lv
    have C1 := Lib.hid (tStart t (by omega) (by omega))
    have hyl : (canon (val t.vl + val t.fl)).length ≤ 100 := Nat.le_trans (canon_len_le _ 62 (by have h1 := val_lt_of (l := t.vl) (k := 60) (by omega); have h2 := val_lt_of (l := t.fl) (k := 60) (by omega); have h3 := Int.natAbs_add_le (val t.vl) (val t.fl); have h4 : (10 : Nat) ^ 60 + 10 ^ 60 ≤ 10 ^ 62 := (by decide); omega)) (by decide)
    have C2 := Lib.hid (twRatio (l := u.vl) (l' := canon (val t.vl + val t.fl)) (by omega) (by omega) (by rw [val_canon]; omega) (show _ = Rat.divInt (val u.vl) (val t.vl + val t.fl) by rw [val_canon]))
    obtain ⟨y, hy⟩ : ∃ y, y = Rat.divInt (val u.vl) (val t.vl + val t.fl) := ⟨_, rfl⟩
    rw [← hy] at C2 HN HBd
    obtain ⟨sm, hsm⟩ : ∃ sm, sm = canon (val t.vl + val t.fl) := ⟨_, rfl⟩
    rw [← hsm] at C1 C2
    have HQ2 : Hid (ys ++ [y] ++ facs (pts (ts.drop (k + 1))) = facs (pts ts)) := by
      show _ = _
      rw [List.append_assoc, List.singleton_append, ← HN.out]; exact HQ.out
    have HL2 : Hid ((ys ++ [y]).length = k + 1) := by show _ = _; rw [List.length_append, HL.out]; rfl
    have HYY : Hid (∀ W, S ys W → YieldAt Fence.wide (m - 1) Tryz.prog lw #[(Value.agg #[Value.string ⟨List.toArray (fN y)⟩, Value.string ⟨List.toArray (fD y)⟩])] W fun e W' => e = .returned (.bool true) ∧ S (ys ++ [y]) W') := fun W h1 => HY.out ys y W h1 HBd.out (by rw [HFL.out, HL.out]; omega)
    obtain ⟨b, o, rfl, hbs, p0, p1, p2⟩ := (HI.out.below hb) k t ht
    obtain ⟨b', o', hA', hbs', -, r1, -⟩ := (HI.out.below hb) (k + 1) u hu
    obtain ⟨rfl, rfl⟩ : b = b' ∧ o = o' := by injection hA' with hA'; injection hA' with h1 h2; exact ⟨h1, h2⟩
    have hwr : IntKind.i64.wrap ((k : Int) + 1 - 1) = (k : Int) := by rw [Go.IntWalk.i64_in _ (by omega)]; omega
    have hwr2 : IntKind.i64.wrap (k : Int) = (k : Int) := Go.IntWalk.i64_in _ (by omega)
    have hko : k < n := by omega
    have k0 : (k : Int) + 1 - 1 = (k : Int) := by omega
    have k1 : ((k : Int) + 1).toNat = k + 1 := by omega
    have k2 : (k : Int) + 1 < n := by omega
    have k3 : (k : Int) < n := by omega
    have k4 : 0 ≤ (k : Int) + 1 := by omega
    clear ht hu oT oU hpos hl1 hl2 hl3 hyl hy hsm HBd HN HQ HL hbs' hA' hb
    gi_wp2_with fail
    refine wpIn_region_tail2D (by simp) (by simp) (by kernel_rfl) (by kernel_rfl) (by kernel_rfl) (by kernel_rfl) (by kernel_rfl) ?_
    simp only [List.dropLast_cons_cons, List.dropLast_singleton, List.getLast_cons_cons, List.getLast_singleton]
    refine kept_val _ (fun _ => rfl) (fun ρ wz hw => by go_simp; first | done | with_reducible rfl) ?_
    simp only [Act.put, List.setIfInBounds_toArray, List.set_cons_zero, List.set_cons_succ, Nat.reduceAdd]
    refine kept_val _ (fun _ => rfl) (fun ρ wz hw => by have q0 : wz.cell? ⟨bl, 0, none⟩ = some (.slice (some ⟨b, o, none⟩) n c) := (hblk.below hw).c 0; go_simp; first | done | with_reducible rfl) ?_
    simp only [Act.put, List.setIfInBounds_toArray, List.set_cons_zero, List.set_cons_succ, Nat.reduceAdd]
    refine kept_val _ (fun _ => rfl) (fun ρ wz hw => by go_simp; first | done | with_reducible rfl) ?_
    simp only [Act.put, List.setIfInBounds_toArray, List.set_cons_zero, List.set_cons_succ, Nat.reduceAdd]
    refine kept_val _ (fun _ => rfl) (fun ρ wz hw => by go_simp; first | done | with_reducible rfl) ?_
    simp only [Act.put, List.setIfInBounds_toArray, List.set_cons_zero, List.set_cons_succ, Nat.reduceAdd]
    refine kept_val _ (fun _ => rfl) (fun ρ wz hw => by go_simp; first | done | with_reducible rfl) ?_
    simp only [Act.put, List.setIfInBounds_toArray, List.set_cons_zero, List.set_cons_succ, Nat.reduceAdd]
    refine kept_val _ (fun _ => rfl) (fun ρ wz hw => by have q0 := (hw.cell (p := ⟨b, o + (k + 1) * 3 + 1, none⟩) hbs).trans r1; go_simp; first | done | with_reducible rfl) ?_
    simp only [Act.put, List.setIfInBounds_toArray, List.set_cons_zero, List.set_cons_succ, Nat.reduceAdd]
    refine kept_val _ (fun _ => rfl) (fun ρ wz hw => by have q0 : wz.cell? ⟨bl, 0, none⟩ = some (.slice (some ⟨b, o, none⟩) n c) := (hblk.below hw).c 0; go_simp; first | done | with_reducible rfl) ?_
    simp only [Act.put, List.setIfInBounds_toArray, List.set_cons_zero, List.set_cons_succ, Nat.reduceAdd]
    refine kept_val _ (fun _ => rfl) (fun ρ wz hw => by go_simp; first | done | with_reducible rfl) ?_
    simp only [Act.put, List.setIfInBounds_toArray, List.set_cons_zero, List.set_cons_succ, Nat.reduceAdd]
    refine kept_val _ (fun _ => rfl) (fun ρ wz hw => by go_simp; first | done | with_reducible rfl) ?_
    simp only [Act.put, List.setIfInBounds_toArray, List.set_cons_zero, List.set_cons_succ, Nat.reduceAdd]
    refine kept_val _ (fun _ => rfl) (fun ρ wz hw => by go_simp; first | done | with_reducible rfl) ?_
    simp only [Act.put, List.setIfInBounds_toArray, List.set_cons_zero, List.set_cons_succ, Nat.reduceAdd]
    refine kept_val _ (fun _ => rfl) (fun ρ wz hw => by have q0 := (hw.cell (p := ⟨b, o + k * 3, none⟩) hbs).trans p0; have q1 := (hw.cell (p := ⟨b, o + k * 3 + 1, none⟩) hbs).trans p1; have q2 := (hw.cell (p := ⟨b, o + k * 3 + 2, none⟩) hbs).trans p2; go_simp; first | done | with_reducible rfl) ?_
    simp only [Act.put, List.setIfInBounds_toArray, List.set_cons_zero, List.set_cons_succ, Nat.reduceAdd]
    refine kept_call _ _ _ (fun _ => rfl) (fun ρ wz hw => by go_simp; first | done | with_reducible rfl) (fun wz hw => C1.out.of hGr hw) ?_
    simp only [Act.put, List.setIfInBounds_toArray, List.set_cons_zero, List.set_cons_succ, Nat.reduceAdd]
    refine kept_call _ _ _ (fun _ => rfl) (fun ρ wz hw => by go_simp; first | done | with_reducible rfl) (fun wz hw => C2.out.of hGr hw) ?_
    simp only [Act.put, List.setIfInBounds_toArray, List.set_cons_zero, List.set_cons_succ, Nat.reduceAdd]
    intro ρ w21 hF
    dsimp only
    have HX3 := Lib.hid (HM.out _ _ _ HX.out hF.below)
    clear hF HX q0 p0 p1 p2 r1 C1 C2
    obtain ⟨fn, tmps, assign, body, hyr, hR⟩ := HYY.out w21 HX3.out
    gi_wp2
    refine ⟨fun h => (by cases h), hR.mono ?_⟩
    rintro e W3 ⟨rfl, hS3⟩
    have HX4 := Lib.hid hS3
    clear hS3 hR hyr
    gi_wp2
    go_roundw
    case rel => exact ⟨k + 1, ys ++ [y], by omega, by go_num, HL2.out, HQ2.out, HX4.out⟩
    case measure => simp [intOf]; omega
theorem facs_any (A : Option Addr) (n c : Nat) (w : World) :
    Calls Tryz.prog 126 #[.slice A n c] w fun e w' => e = .returned (.func (.func 190) #[] #[.pointer (some ⟨w.heap.size, 0, none⟩)]) ∧ w' = w.alloc (.cells #[.slice A n c] 72) := by
  go_enter Tryz.func126, Tryz.ntmps126
  go_wp2_with fail
  go_ret
  exact ⟨rfl, rfl⟩
end Go.Proofs.YtgnppdkeiihlfaaGreatDoor
namespace Go.Proofs
open Go.Shelf
def Tryz.clonePnt_ren : Go.Shelf.Ren := ⟨fun | 41 => 57 | n => n, fun | 22 => 72 | 23 => 74 | 4 => 4 | n => n, fun | n => n⟩
theorem Tryz.clonePnt : Go.Proofs.SlLaysE0.n41 Tryz.prog Tryz.clonePnt_ren := {
  mixed := by kernel_rfl
  f41 := ⟨Tryz.f57.name, by decide, Tryz.func57.trans (congrArg some (by kernel_rfl))⟩
  t4 := Tryz.underlying4
  a4 := Tryz.isAgg4
  z4 := Tryz.sizeOf4
  v4 := Tryz.zeroValue4
  t22 := Tryz.underlying72
  a22 := Tryz.isAgg72
  z22 := Tryz.sizeOf72
  v22 := Tryz.zeroValue72 }
end Go.Proofs
namespace Go.Proofs.YtgnppdkeiihlfaaGreatDoor
open Go.RowKit Num
/-- a block whose first cells are these -/
def CRow (w : World) (g : Nat) (ty : TypeId) (cs : List Value) : Prop := ∃ cur : Array Value, w.heap[g]? = some (.cells cur ty (0, 0)) ∧ cur.toList.take cs.length = cs ∧ cs.length ≤ cur.size
section
variable {w w' : World} {g b i : Nat} {ty : TypeId} {cs : List Value} {u v : Value}
theorem CRow.lt (h : CRow w g ty cs) : g < w.heap.size := by obtain ⟨cur, h, -⟩ := h; exact (Array.getElem?_eq_some_iff.1 h).1
theorem CRow.below (h : CRow w g ty cs) (hb : Below w.heap.size w w') : CRow w' g ty cs := by
  have hl := h.lt
  obtain ⟨cur, h, h2⟩ := h
  exact ⟨cur, (hb.block g hl).trans h, h2⟩
theorem CRow.far (h : CRow w g ty cs) (hn : g ≠ b) : CRow (w.setCell ⟨b, i, none⟩ u) g ty cs := by
  obtain ⟨cur, h, h2⟩ := h
  exact ⟨cur, (Below.heap_setCell w ⟨b, i, none⟩ u g hn).trans h, h2⟩
theorem CRow.cell (h : CRow w g ty cs) (hx : cs[i]? = some v) : w.cell? ⟨g, i, none⟩ = some v := by
  obtain ⟨cur, hh, ht, hs⟩ := h
  have hi := (List.getElem?_eq_some_iff.1 hx).1
  rw [blk_cell hh, ← hx, ← ht, List.getElem?_take, if_pos hi, Array.getElem?_toList]
theorem CRow.free (h : CRow w g ty cs) (j : Nat) : w.frozen? ⟨g, j, none⟩ = false := by
  obtain ⟨cur, hh, -⟩ := h
  exact blk_frozen hh j
theorem CRow.set (h : CRow w g ty cs) (i : Nat) (u : Value) : CRow (w.setCell ⟨g, i, none⟩ u) g ty (cs.set i u) := by
  obtain ⟨cur, hh, ht, hs⟩ := h
  refine ⟨cur.setIfInBounds i u, ?_, ?_, by simpa using hs⟩
  · obtain ⟨hlt, hk⟩ := Array.getElem?_eq_some_iff.1 hh
    show (w.heap.modify g _)[g]? = _
    rw [Array.getElem?_eq_getElem (by rw [Array.size_modify]; exact hlt), Array.getElem_modify_self, hk]
    simp
  · rw [List.length_set, Array.toList_setIfInBounds, List.take_set, ht]
end
theorem own_crow {w : World} {base n c sz : Nat} {ty : TypeId} {A : Option Addr} {cs : List Value} (h : w.ownsRow base ty sz (.slice A n c) n cs) (hn : cs.length = n * sz) (h0 : 0 < n) : ∃ g, A = some ⟨g, 0, none⟩ ∧ base ≤ g ∧ CRow w g ty cs := by
  rcases h.2 with ⟨hv, h1⟩ | ⟨g, cap, cur, hv, hb, hh, hcap, _, hsz, htk⟩
  · omega
  · injection hv with h1 _ h3
    subst h1 h3
    refine ⟨g, rfl, hb, cur, hh, by rw [hn]; exact htk, ?_⟩
    rw [hn, hsz]; exact Nat.mul_le_mul_right sz hcap
def rowsQ (xs : List Pnt) : List Value := xs.flatMap (fun t => [.int .i64 t.day, .string ⟨t.vl.toArray⟩, .string ⟨t.fl.toArray⟩])
theorem rowsQ_cons (t : Pnt) (xs : List Pnt) : rowsQ (t :: xs) = .int .i64 t.day :: .string ⟨t.vl.toArray⟩ :: .string ⟨t.fl.toArray⟩ :: rowsQ xs := rfl
theorem rowsQ_len : ∀ xs : List Pnt, (rowsQ xs).length = xs.length * 3
  | [] => rfl
  | x :: xs => by rw [rowsQ_cons]; simp only [List.length_cons]; rw [rowsQ_len xs]; omega
theorem rowsQ_app (xs ys : List Pnt) : rowsQ (xs ++ ys) = rowsQ xs ++ rowsQ ys := List.flatMap_append
theorem rowsQ_one (xs : List Pnt) : ∀ u ∈ rowsQ xs, u.oneCell' = true := by
  intro u hu
  obtain ⟨x, -, hx⟩ := List.mem_flatMap.1 hu
  simp only [List.mem_cons, List.not_mem_nil, or_false] at hx
  rcases hx with rfl | rfl | rfl <;> rfl
theorem rowsQ_at : ∀ {xs : List Pnt} {i : Nat} {t : Pnt}, xs[i]? = some t → (rowsQ xs)[i * 3]? = some (.int .i64 t.day) ∧ (rowsQ xs)[i * 3 + 1]? = some (.string ⟨t.vl.toArray⟩) ∧ (rowsQ xs)[i * 3 + 2]? = some (.string ⟨t.fl.toArray⟩)
  | [], i, x, h => by simp at h
  | y :: xs, 0, x, h => by
    have : y = x := by simpa using h
    subst this; exact ⟨rfl, rfl, rfl⟩
  | y :: xs, i + 1, x, h => by
    have hh := rowsQ_at (xs := xs) (i := i) (t := x) (by simpa using h)
    rw [rowsQ_cons, show (i + 1) * 3 = i * 3 + 1 + 1 + 1 by omega]
    simpa [Nat.add_right_comm, Nat.add_assoc] using hh
theorem rowsQ_get : ∀ {xs : List Pnt} {j : Nat} {u : Value}, (rowsQ xs)[j]? = some u → ∃ t, xs[j / 3]? = some t ∧ u = if j % 3 = 0 then .int .i64 t.day else if j % 3 = 1 then .string ⟨t.vl.toArray⟩ else .string ⟨t.fl.toArray⟩
  | [], j, u, h => by simp [rowsQ] at h
  | y :: xs, 0, u, h => by
    rw [rowsQ_cons] at h
    exact ⟨y, rfl, by simpa using h.symm⟩
  | y :: xs, 1, u, h => by
    rw [rowsQ_cons] at h
    exact ⟨y, rfl, by simpa using h.symm⟩
  | y :: xs, 2, u, h => by
    rw [rowsQ_cons] at h
    exact ⟨y, rfl, by simpa using h.symm⟩
  | y :: xs, j + 3, u, h => by
    rw [rowsQ_cons] at h
    obtain ⟨x, h1, h2⟩ := rowsQ_get (xs := xs) (j := j) (by simpa using h)
    refine ⟨x, ?_, ?_⟩
    · rw [show (j + 3) / 3 = j / 3 + 1 by omega]; simpa using h1
    · rw [show (j + 3) % 3 = j % 3 by omega]; exact h2
theorem crow_pnt {w : World} {g : Nat} {ty : TypeId} {xs : List Pnt} (h : CRow w g ty (rowsQ xs)) : PntAt w (some ⟨g, 0, none⟩) xs := fun i t ht => by
  obtain ⟨h0, h1, h2⟩ := rowsQ_at ht
  exact ⟨g, 0, rfl, h.lt, by rw [Nat.zero_add]; exact h.cell h0, by rw [Nat.zero_add]; exact h.cell h1, by rw [Nat.zero_add]; exact h.cell h2⟩
/-- the two strings of a fraction -/
abbrev Fs := List UInt8 × List UInt8
def FsAt (w : World) (A : Option Addr) (ts : List Fs) : Prop := ∀ i t, ts[i]? = some t → ∃ b o, A = some ⟨b, o, none⟩ ∧ b < w.heap.size ∧ w.cell? ⟨b, o + i * 2, none⟩ = some (.string ⟨t.1.toArray⟩) ∧ w.cell? ⟨b, o + i * 2 + 1, none⟩ = some (.string ⟨t.2.toArray⟩)
theorem FsAt.below {w w' : World} {A : Option Addr} {ts : List Fs} (h : FsAt w A ts) (hb : Below w.heap.size w w') : FsAt w' A ts := fun i t ht => by
  obtain ⟨b, o, h0, h1, h2, h3⟩ := h i t ht
  exact ⟨b, o, h0, Nat.lt_of_lt_of_le h1 hb.size, (hb.cell (p := ⟨b, o + i * 2, none⟩) h1).trans h2, (hb.cell (p := ⟨b, o + i * 2 + 1, none⟩) h1).trans h3⟩
/-- the canonical strings of numbers -/
def frs (qs : List Rat) : List Fs := qs.map (fun q => (fN q, fD q))
def rowsF (xs : List Fs) : List Value := xs.flatMap (fun t => [.string ⟨t.1.toArray⟩, .string ⟨t.2.toArray⟩])
theorem rowsF_cons (t : Fs) (xs : List Fs) : rowsF (t :: xs) = .string ⟨t.1.toArray⟩ :: .string ⟨t.2.toArray⟩ :: rowsF xs := rfl
theorem rowsF_len : ∀ xs : List Fs, (rowsF xs).length = xs.length * 2
  | [] => rfl
  | x :: xs => by rw [rowsF_cons]; simp only [List.length_cons]; rw [rowsF_len xs]; omega
theorem rowsF_app (xs ys : List Fs) : rowsF (xs ++ ys) = rowsF xs ++ rowsF ys := List.flatMap_append
theorem rowsF_one (xs : List Fs) : ∀ u ∈ rowsF xs, u.oneCell' = true := by
  intro u hu
  obtain ⟨x, -, hx⟩ := List.mem_flatMap.1 hu
  simp only [List.mem_cons, List.not_mem_nil, or_false] at hx
  rcases hx with rfl | rfl <;> rfl
theorem rowsF_at : ∀ {xs : List Fs} {i : Nat} {t : Fs}, xs[i]? = some t → (rowsF xs)[i * 2]? = some (.string ⟨t.1.toArray⟩) ∧ (rowsF xs)[i * 2 + 1]? = some (.string ⟨t.2.toArray⟩)
  | [], i, x, h => by simp at h
  | y :: xs, 0, x, h => by
    have : y = x := by simpa using h
    subst this; exact ⟨rfl, rfl⟩
  | y :: xs, i + 1, x, h => by
    have hh := rowsF_at (xs := xs) (i := i) (t := x) (by simpa using h)
    rw [rowsF_cons, show (i + 1) * 2 = i * 2 + 1 + 1 by omega]
    simpa [Nat.add_right_comm, Nat.add_assoc] using hh
theorem rowsF_get : ∀ {xs : List Fs} {j : Nat} {u : Value}, (rowsF xs)[j]? = some u → ∃ t, xs[j / 2]? = some t ∧ u = if j % 2 = 0 then .string ⟨t.1.toArray⟩ else .string ⟨t.2.toArray⟩
  | [], j, u, h => by simp [rowsF] at h
  | y :: xs, 0, u, h => by
    rw [rowsF_cons] at h
    exact ⟨y, rfl, by simpa using h.symm⟩
  | y :: xs, 1, u, h => by
    rw [rowsF_cons] at h
    exact ⟨y, rfl, by simpa using h.symm⟩
  | y :: xs, j + 2, u, h => by
    rw [rowsF_cons] at h
    obtain ⟨x, h1, h2⟩ := rowsF_get (xs := xs) (j := j) (by simpa using h)
    refine ⟨x, ?_, ?_⟩
    · rw [show (j + 2) / 2 = j / 2 + 1 by omega]; simpa using h1
    · rw [show (j + 2) % 2 = j % 2 by omega]; exact h2
theorem crow_fs {w : World} {g : Nat} {ty : TypeId} {xs : List Fs} (h : CRow w g ty (rowsF xs)) : FsAt w (some ⟨g, 0, none⟩) xs := fun i t ht => by
  obtain ⟨h0, h1⟩ := rowsF_at ht
  exact ⟨g, 0, rfl, h.lt, by rw [Nat.zero_add]; exact h.cell h0, by rw [Nat.zero_add]; exact h.cell h1⟩
theorem info_pnt : (Tryz.prog.info? 74).map (fun i => (i.zero, i.size, i.bytes)) = some (some (.agg #[.int .i64 0, .string ⟨#[]⟩, .string ⟨#[]⟩]), 3, 40) := by kernel_rfl
theorem info_frac : (Tryz.prog.info? 25).map (fun i => (i.zero, i.size, i.bytes)) = some (some (.agg #[.string ⟨#[]⟩, .string ⟨#[]⟩]), 2, 32) := by kernel_rfl
set_option maxRecDepth 100000 in
theorem cloneQ (A : Option Addr) (ps : List Pnt) (n c : Nat) (w : World) (hn : ps.length = n) (h0 : 0 < n) (hn2 : n ≤ 1000000) (h : PntAt w A ps) :
    Calls Tryz.prog 57 #[.slice A n c] w fun e w' => ∃ g cp, e = .returned (.slice (some ⟨g, 0, none⟩) n cp) ∧ n ≤ cp ∧ cp ≤ 9223372036854775807 ∧ w.heap.size ≤ g ∧ w'.ownsRow w.heap.size 74 3 (.slice (some ⟨g, 0, none⟩) n cp) n (rowsQ ps) ∧ CRow w' g 74 (rowsQ ps) ∧ Below w.heap.size w w' := by
  obtain ⟨x0, hx0⟩ : ∃ x, ps[0]? = some x := ⟨_, List.getElem?_eq_getElem (by omega)⟩
  obtain ⟨b, o, rfl, hbs, -⟩ := h 0 x0 hx0
  obtain ⟨i0, e0, e1, e2, e3⟩ := info_parts info_pnt
  refine (AnyE.slices_Clone Tryz.clonePnt i0 _ 3 40 e0 e1 e2 e3 rfl (by decide) Tryz.sizeOf74 b o n c (rowsQ ps) w (by rw [rowsQ_len, hn]) (by unfold maxLen; omega) (by omega) (fun j u hu => ?_) (rowsQ_one ps)).mono ?_
  · obtain ⟨x, h1, h2⟩ := rowsQ_get hu
    obtain ⟨b', o', hA, -, hc1, hc2, hc3⟩ := h (j / 3) x h1
    cases hA
    by_cases hj : j % 3 = 0
    · rw [if_pos hj] at h2
      rw [h2, show o + j = o + j / 3 * 3 by omega]; exact hc1
    · rw [if_neg hj] at h2
      by_cases hj : j % 3 = 1
      · rw [if_pos hj] at h2
        rw [h2, show o + j = o + j / 3 * 3 + 1 by omega]; exact hc2
      · rw [if_neg hj] at h2
        rw [h2, show o + j = o + j / 3 * 3 + 2 by omega]; exact hc3
  · rintro e w' ⟨v, rfl, hown, -, hb⟩
    have hown' : w'.ownsRow w.heap.size 74 3 v n (rowsQ ps) := hown
    obtain ⟨B, cp, rfl, hcp, hcm⟩ : ∃ A c, v = .slice A n c ∧ n ≤ c ∧ c ≤ 9223372036854775807 := by
      rcases hown'.2 with ⟨hv, h1⟩ | ⟨g, cap, cur, hv, _, _, hcap, hmx, _⟩
      · omega
      · exact ⟨_, _, hv, hcap, by first | exact hmx | (unfold maxLen at hmx; exact hmx) | omega⟩
    obtain ⟨g, rfl, hg, hr⟩ := own_crow hown' (by rw [rowsQ_len, hn]) h0
    exact ⟨g, cp, rfl, hcp, hcm, hg, hown', hr, hb⟩
theorem eqf_step {P : Program} {w : World} {d : Nat} {xs ys : Array Value} {f : Field} {fs : List Field} {a b : Value} {r B : Bool} (hn : f.name ≠ "_") (h1 : (part f.type xs f.offset).run P w = .ok a w) (h2 : (part f.type ys f.offset).run P w = .ok b w) (h3 : (Op.equalIn d f.type a b).run P w = .ok r w) (h4 : (Op.eqFields d xs ys fs).run P w = .ok B w) :
    (Op.eqFields d xs ys (f :: fs)).run P w = .ok (r && B) w := by
  unfold Op.eqFields
  rw [if_pos hn]
  simp only [Sem.run_bind, h1, h2, h3, Result.andThen_ok]
  cases r
  · simp
  · simp [h4]
theorem eqf_nil {P : Program} {w : World} {d : Nat} {xs ys : Array Value} : (Op.eqFields d xs ys []).run P w = .ok true w := by unfold Op.eqFields; simp
def sameQ (x y : Pnt) : Bool := (x.day == y.day) && ((x.vl == y.vl) && ((x.fl == y.fl) && true))
set_option maxRecDepth 100000 in
theorem eqQ1 (x y : Pnt) (w : World) : (Op.equalIn 10000 74 (.agg #[.int .i64 x.day, .string ⟨x.vl.toArray⟩, .string ⟨x.fl.toArray⟩]) (.agg #[.int .i64 y.day, .string ⟨y.vl.toArray⟩, .string ⟨y.fl.toArray⟩])).run Tryz.prog w = .ok (sameQ x y) w := by
  have hS : Tryz.prog.underlying 74 = some (.struct (Tryz.prog.fieldsOf 74)) := by kernel_rfl
  have hp : Tryz.prog.stoodInHeld 74 = false := by kernel_rfl
  rw [show (10000 : Nat) = 9999 + 1 from rfl, run_equalIn_agg w 9999 74 _ _ hS hp]
  simp only [Program.fieldsOf, Tryz.underlying74]
  unfold sameQ
  exact (eqf_step (by decide) (a := .int .i64 x.day) (b := .int .i64 y.day) (by go_simp) (by go_simp) (run_equalIn_int w 9998 _ _ _ _ _ Tryz.underlying22) (eqf_step (by decide) (a := .string ⟨x.vl.toArray⟩) (b := .string ⟨y.vl.toArray⟩) (by go_simp) (by go_simp) (by rw [run_equalIn_string w 9998 _ _ _ Tryz.underlying23]; simp) (eqf_step (by decide) (a := .string ⟨x.fl.toArray⟩) (b := .string ⟨y.fl.toArray⟩) (by go_simp) (by go_simp) (by rw [run_equalIn_string w 9998 _ _ _ Tryz.underlying23]; simp) eqf_nil)))
theorem guardQ : Tryz.prog.eqGuardType Tryz.prog.depth 74 = false := by kernel_rfl
def sameQs : List Pnt → List Pnt → Bool
  | [], [] => true
  | x :: xs, y :: ys => sameQ x y && sameQs xs ys
  | _, _ => false
theorem sameQs_len : ∀ {xs ys : List Pnt}, xs.length ≠ ys.length → sameQs xs ys = false
  | [], [], h => absurd rfl h
  | [], _ :: _, _ => rfl
  | _ :: _, [], _ => rfl
  | x :: xs, y :: ys, h => by
    have : sameQs xs ys = false := sameQs_len (fun e => h (by simp [e]))
    simp [sameQs, this]
theorem sameQs_self : ∀ xs : List Pnt, sameQs xs xs = true
  | [] => rfl
  | x :: xs => by simp [sameQs, sameQ, sameQs_self xs]
theorem sameQs_drop {xs ys : List Pnt} {k : Nat} {x y : Pnt} (hx : xs[k]? = some x) (hy : ys[k]? = some y) : sameQs (xs.drop k) (ys.drop k) = (sameQ x y && sameQs (xs.drop (k + 1)) (ys.drop (k + 1))) := by
  obtain ⟨h1, rfl⟩ := List.getElem?_eq_some_iff.1 hx
  obtain ⟨h2, rfl⟩ := List.getElem?_eq_some_iff.1 hy
  rw [List.drop_eq_getElem_cons h1, List.drop_eq_getElem_cons h2]; rfl
def sameF (x y : Fs) : Bool := (x.1 == y.1) && ((x.2 == y.2) && true)
set_option maxRecDepth 100000 in
theorem eqF1 (x y : Fs) (w : World) : (Op.equalIn 10000 25 (.agg #[.string ⟨x.1.toArray⟩, .string ⟨x.2.toArray⟩]) (.agg #[.string ⟨y.1.toArray⟩, .string ⟨y.2.toArray⟩])).run Tryz.prog w = .ok (sameF x y) w := by
  have hS : Tryz.prog.underlying 25 = some (.struct (Tryz.prog.fieldsOf 25)) := by kernel_rfl
  have hp : Tryz.prog.stoodInHeld 25 = false := by kernel_rfl
  rw [show (10000 : Nat) = 9999 + 1 from rfl, run_equalIn_agg w 9999 25 _ _ hS hp]
  simp only [Program.fieldsOf, Tryz.underlying25]
  unfold sameF
  exact (eqf_step (by decide) (a := .string ⟨x.1.toArray⟩) (b := .string ⟨y.1.toArray⟩) (by go_simp) (by go_simp) (by rw [run_equalIn_string w 9998 _ _ _ Tryz.underlying23]; simp) (eqf_step (by decide) (a := .string ⟨x.2.toArray⟩) (b := .string ⟨y.2.toArray⟩) (by go_simp) (by go_simp) (by rw [run_equalIn_string w 9998 _ _ _ Tryz.underlying23]; simp) eqf_nil))
theorem guardF : Tryz.prog.eqGuardType Tryz.prog.depth 25 = false := by kernel_rfl
def sameFs : List Fs → List Fs → Bool
  | [], [] => true
  | x :: xs, y :: ys => sameF x y && sameFs xs ys
  | _, _ => false
theorem sameFs_len : ∀ {xs ys : List Fs}, xs.length ≠ ys.length → sameFs xs ys = false
  | [], [], h => absurd rfl h
  | [], _ :: _, _ => rfl
  | _ :: _, [], _ => rfl
  | x :: xs, y :: ys, h => by
    have : sameFs xs ys = false := sameFs_len (fun e => h (by simp [e]))
    simp [sameFs, this]
theorem sameFs_self : ∀ xs : List Fs, sameFs xs xs = true
  | [] => rfl
  | x :: xs => by simp [sameFs, sameF, sameFs_self xs]
theorem sameFs_drop {xs ys : List Fs} {k : Nat} {x y : Fs} (hx : xs[k]? = some x) (hy : ys[k]? = some y) : sameFs (xs.drop k) (ys.drop k) = (sameF x y && sameFs (xs.drop (k + 1)) (ys.drop (k + 1))) := by
  obtain ⟨h1, rfl⟩ := List.getElem?_eq_some_iff.1 hx
  obtain ⟨h2, rfl⟩ := List.getElem?_eq_some_iff.1 hy
  rw [List.drop_eq_getElem_cons h1, List.drop_eq_getElem_cons h2]; rfl
set_option maxHeartbeats 4000000 in
set_option maxRecDepth 100000 in
theorem eqFrs (A B : Option Addr) (xs ys : List Fs) (n m c c' : Nat) (w : World) (hn : xs.length = n) (hm : ys.length = m) (hn2 : n ≤ 1000000000) (hm2 : m ≤ 1000000000) (h : FsAt w A xs) (h' : FsAt w B ys) :
    Calls Tryz.prog 118 #[.slice A n c, .slice B m c'] w fun e w' => e = .returned (.bool (sameFs xs ys)) ∧ Below w.heap.size w w' := by
  by_cases hnm : n = m
  rotate_left
  · have HV : Hid (sameFs xs ys = false) := sameFs_len (by omega)
    have e1 : ((n : Int) == (m : Int)) = false := intbne (by omega)
    have e2 := bneq' e1
    rw [HV.out]
    clear h h' hn hm hnm
    go_enter Tryz.func118, Tryz.ntmps118
    go_wp2
    go_ret
    exact ⟨rfl, Below.refl _ _⟩
  subst hnm
  have H1 := Lib.hid h
  have H2 := Lib.hid h'
  have hn1 : xs.length ≤ n := by omega
  have hn3 : n ≤ xs.length := by omega
  have hm1 : ys.length ≤ n := by omega
  have hm3 : n ≤ ys.length := by omega
  clear h h' hn hm
  go_enter Tryz.func118, Tryz.ntmps118
  go_wp2_with fail
  go_loopw [13] (fun iv wr => ∃ k : Nat, k ≤ n ∧ iv = .int .i64 (k : Int) ∧ Hid (sameFs xs ys = sameFs (xs.drop k) (ys.drop k)) ∧ Below w.heap.size w wr) (fun iv _ => n - (intOf iv).toNat)
  case atStart => exact ⟨0, Nat.zero_le _, rfl, rfl, Below.refl _ _⟩
  case round =>
    obtain ⟨k, hk, rfl, HK, hb⟩ := hrel
    by_cases hlt : k < n
    · obtain ⟨x, hx⟩ : ∃ x, xs[k]? = some x := ⟨_, List.getElem?_eq_getElem (by omega)⟩
      obtain ⟨y, hy⟩ : ∃ y, ys[k]? = some y := ⟨_, List.getElem?_eq_getElem (by omega)⟩
      obtain ⟨b, o, rfl, hbs, px0, px1⟩ := (H1.out.below hb) k x hx
      obtain ⟨b', o', rfl, hds, py0, py1⟩ := (H2.out.below hb) k y hy
      have HD := Lib.hid (sameFs_drop hx hy)
      clear hx hy
      go_wp2_with fail
      refine wp_region_kept (by kernel_rfl) (by kernel_rfl) ?_
      refine kept_val _ (fun _ => rfl) (fun ρ w hw => by go_simp; first | done | with_reducible rfl) ?_
      simp only [Act.put, List.setIfInBounds_toArray, List.set_cons_zero, List.set_cons_succ, Nat.reduceAdd]
      refine kept_val _ (fun _ => rfl) (fun ρ w hw => by go_simp; first | done | with_reducible rfl) ?_
      simp only [Act.put, List.setIfInBounds_toArray, List.set_cons_zero, List.set_cons_succ, Nat.reduceAdd]
      refine kept_val _ (fun _ => rfl) (fun ρ w hw => by go_simp; first | done | with_reducible rfl) ?_
      simp only [Act.put, List.setIfInBounds_toArray, List.set_cons_zero, List.set_cons_succ, Nat.reduceAdd]
      refine kept_val _ (fun _ => rfl) (fun ρ w hw => by have q0 := (hw.cell (p := ⟨b, o + k * 2, none⟩) hbs).trans px0; have q1 := (hw.cell (p := ⟨b, o + k * 2 + 1, none⟩) hbs).trans px1; go_simp; first | done | with_reducible rfl) ?_
      simp only [Act.put, List.setIfInBounds_toArray, List.set_cons_zero, List.set_cons_succ, Nat.reduceAdd]
      refine kept_val _ (fun _ => rfl) (fun ρ w hw => by go_simp; first | done | with_reducible rfl) ?_
      simp only [Act.put, List.setIfInBounds_toArray, List.set_cons_zero, List.set_cons_succ, Nat.reduceAdd]
      refine kept_val _ (fun _ => rfl) (fun ρ w hw => by go_simp; first | done | with_reducible rfl) ?_
      simp only [Act.put, List.setIfInBounds_toArray, List.set_cons_zero, List.set_cons_succ, Nat.reduceAdd]
      refine kept_val _ (fun _ => rfl) (fun ρ w hw => by go_simp; first | done | with_reducible rfl) ?_
      simp only [Act.put, List.setIfInBounds_toArray, List.set_cons_zero, List.set_cons_succ, Nat.reduceAdd]
      refine kept_val _ (fun _ => rfl) (fun ρ w hw => by have q0 := (hw.cell (p := ⟨b', o' + k * 2, none⟩) hds).trans py0; have q1 := (hw.cell (p := ⟨b', o' + k * 2 + 1, none⟩) hds).trans py1; go_simp; first | done | with_reducible rfl) ?_
      simp only [Act.put, List.setIfInBounds_toArray, List.set_cons_zero, List.set_cons_succ, Nat.reduceAdd]
      refine kept_val _ (fun _ => rfl) (fun ρ w hw => by have hE := eqF1 x y; have hEG := guardF; go_simp; first | done | with_reducible rfl) ?_
      simp only [Act.put, List.setIfInBounds_toArray, List.set_cons_zero, List.set_cons_succ, Nat.reduceAdd]
      refine kept_end (fun ρ w6 hF => ?_)
      replace hb := bto hb hF.below
      clear hF
      cases hs : sameF x y
      · have HV : Hid (sameFs xs ys = false) := by show _ = _; rw [HK.out, HD.out, hs]; rfl
        clear hs HK HD px0 py0 px1 py1
        go_wp2
        go_ret
        exact ⟨by rw [HV.out]; first | done | rfl, hb⟩
      · have HV : Hid (sameFs xs ys = sameFs (xs.drop (k + 1)) (ys.drop (k + 1))) := by show _ = _; rw [HK.out, HD.out, hs]; rfl
        clear hs HK HD px0 py0 px1 py1
        go_wp2
        go_roundw
        case rel => exact ⟨k + 1, by omega, by go_num, HV, hb⟩
        case measure => simp [intOf]; omega
    · have HV : Hid (sameFs xs ys = true) := by show _ = _; rw [HK.out, List.drop_of_length_le (by omega), List.drop_of_length_le (by omega)]; rfl
      clear HK
      go_wp2
      go_ret
      exact ⟨by rw [HV.out]; first | done | rfl, hb⟩
end Go.Proofs.YtgnppdkeiihlfaaGreatDoor
