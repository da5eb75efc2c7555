/- Points; why they are no series: timeweighted, trancheref46. -/
import Derived.Test.YtmjglcgdcclinaaGreatDoorIc
import Derived.Test.YtmjglcgdcclinaaGreatDoorWs
import Derived.Test.YtmjglcgdcclinaaGreatDoorBs
namespace Go.Proofs.YtmjglcgdcclinaaGreatDoor
open Go.RowKit Num
structure Pnt where
  day : Int
  vl : List UInt8
  fl : List UInt8
def PntAt (w : World) (A : Option Addr) (ts : List Pnt) : Prop := ∀ i t, ts[i]? = some t → ∃ b o, A = some ⟨b, o, none⟩ ∧ b < w.heap.size ∧ w.cell? ⟨b, o + i * 3, none⟩ = some (.int .i64 t.day) ∧ w.cell? ⟨b, o + i * 3 + 1, none⟩ = some (.string ⟨t.vl.toArray⟩) ∧ w.cell? ⟨b, o + i * 3 + 2, none⟩ = some (.string ⟨t.fl.toArray⟩)
theorem PntAt.below {w w' : World} {A : Option Addr} {ts : List Pnt} (h : PntAt w A ts) (hb : Below w.heap.size w w') : PntAt w' A ts := fun i t ht => by
  obtain ⟨b, o, h0, h1, h2, h3, h4⟩ := h i t ht
  exact ⟨b, o, h0, Nat.lt_of_lt_of_le h1 hb.size, (hb.cell (p := ⟨b, o + i * 3, none⟩) h1).trans h2, (hb.cell (p := ⟨b, o + i * 3 + 1, none⟩) h1).trans h3, (hb.cell (p := ⟨b, o + i * 3 + 2, none⟩) h1).trans h4⟩
def ordB : Option Int → Int → Bool
  | none, _ => false
  | some q, d => decide (d ≤ q)
/-- too many digits -/
def longB (l : List UInt8) : Bool := decide (40 < digN l)
/-- why points are no series -/
def pntL : Option Int → List Pnt → Int
  | _, [] => 0
  | o, p :: r => if dayB p.day = false then 13 else if ¬ p.vl = canon (val p.vl) then 1 else if ¬ p.fl = canon (val p.fl) then 1 else if longB p.vl = true then 4 else if longB p.fl = true then 4 else if ordB o p.day = true then 8 else if val p.vl < 0 then 2 else if r ≠ [] ∧ val p.vl + val p.fl ≤ 0 then 2 else pntL (some p.day) r
def pntE (ts : List Pnt) : Int := if ts.length = 0 then 11 else if 400 < ts.length then 4 else pntL none ts
def prevD (ts : List Pnt) : Nat → Option Int
  | 0 => none
  | k + 1 => (ts[k]?).map (·.day)
theorem pntL_step {ts : List Pnt} {k n : Nat} {p : Pnt} (h : ts[k]? = some p) (hn : ts.length = n) : pntL (prevD ts k) (ts.drop k) = if dayB p.day = false then 13 else if ¬ p.vl = canon (val p.vl) then 1 else if ¬ p.fl = canon (val p.fl) then 1 else if longB p.vl = true then 4 else if longB p.fl = true then 4 else if ordB (prevD ts k) p.day = true then 8 else if val p.vl < 0 then 2 else if k + 1 < n ∧ val p.vl + val p.fl ≤ 0 then 2 else pntL (prevD ts (k + 1)) (ts.drop (k + 1)) := by
  obtain ⟨hk, rfl⟩ := List.getElem?_eq_some_iff.1 h
  have e : prevD ts (k + 1) = some ts[k].day := by show (ts[k]?).map (·.day) = _; rw [h]; rfl
  have e2 : (ts.drop (k + 1) ≠ [] ∧ val ts[k].vl + val ts[k].fl ≤ 0) = (k + 1 < n ∧ val ts[k].vl + val ts[k].fl ≤ 0) := by
    have : (ts.drop (k + 1) ≠ []) = (k + 1 < n) := by
      rw [ne_eq, List.drop_eq_nil_iff]
      apply propext
      omega
    rw [this]
  rw [List.drop_eq_getElem_cons hk, e]
  show (if dayB ts[k].day = false then (13 : Int) else _) = _
  simp only [e2]
theorem pntL_end {ts : List Pnt} {k : Nat} (h : ts.length ≤ k) : pntL (prevD ts k) (ts.drop k) = 0 := by rw [List.drop_of_length_le h]; cases prevD ts k <;> rfl
set_option maxHeartbeats 1000000 in
set_option maxRecDepth 100000 in
theorem tValid (d : Int) : Ret 89 #[.int .i64 d] (.bool (dayB d)) := fun w hG => by
  by_cases h1 : -25567 ≤ d
  · have e1 : decide (-25567 ≤ d) = true := decide_eq_true h1
    have HV : Hid (dayB d = decide (d ≤ 84005)) := by show _ = _; unfold dayB; rw [e1]; rfl
    go_enter Tryz.func89, Tryz.ntmps89
    go_wp2
    go_ret
    exact ⟨retb HV.out.symm, Below.refl _ _⟩
  · have e1 : decide (-25567 ≤ d) = false := decide_eq_false h1
    have HV : Hid (dayB d = false) := by show _ = _; unfold dayB; rw [e1]; rfl
    go_enter Tryz.func89, Tryz.ntmps89
    go_wp2
    go_ret
    exact ⟨retb HV.out.symm, Below.refl _ _⟩
set_option maxHeartbeats 1000000 in
set_option maxRecDepth 100000 in
theorem tLong {l : List UInt8} (hl : l.length ≤ 1000000) : Ret 91 #[.string ⟨l.toArray⟩] (.bool (longB l)) := fun w hG => by
  cases l with
  | nil =>
    have k1 : decide (0 < ([] : List UInt8).length) = false := rfl
    go_enter Tryz.func91, Tryz.ntmps91
    go_wp2
    go_ret
    exact ⟨retb (by decide), Below.refl _ _⟩
  | cons c t =>
    have htl : t.length ≤ 999999 := by simp only [List.length_cons] at hl; omega
    have k1 : decide (0 < (c :: t).length) = true := decide_eq_true (by simp)
    have k3 : 0 < (c :: t).length := by simp
    by_cases hc : c.toNat = 45
    · have k2 : ∀ hp, ((((⟨(c :: t).toArray⟩ : ByteArray)[0]'hp).toNat : Int) == 45) = true := fun hp => by rw [beq_iff_eq]; show ((c.toNat : Nat) : Int) = 45; omega
      have HV : Hid (longB (c :: t) = decide (40 < (t.length : Int))) := by show _ = _; unfold longB; rw [show digN (c :: t) = t.length from if_pos hc]
      clear hc
      go_enter Tryz.func91, Tryz.ntmps91
      go_wp2
      go_ret
      exact ⟨retb (by rw [HV.out]; first | done | rfl | (simp; done) | (apply decide_eq_decide.2; simp; done) | (apply decide_eq_decide.2; omega) | simp_all), Below.refl _ _⟩
    · have k2 : ∀ hp, ((((⟨(c :: t).toArray⟩ : ByteArray)[0]'hp).toNat : Int) == 45) = false := fun hp => by rw [beq_eq_false_iff_ne]; show ¬ ((c.toNat : Nat) : Int) = 45; omega
      have HV : Hid (longB (c :: t) = decide (40 < (t.length : Int) + 1)) := by show _ = _; unfold longB; rw [show digN (c :: t) = t.length + 1 from if_neg hc]
      clear hc
      go_enter Tryz.func91, Tryz.ntmps91
      go_wp2
      go_ret
      exact ⟨retb (by rw [HV.out]; first | done | rfl | (simp; done) | (apply decide_eq_decide.2; simp; done) | (apply decide_eq_decide.2; omega) | simp_all), Below.refl _ _⟩
set_option maxHeartbeats 1000000 in
set_option maxRecDepth 100000 in
theorem tStart (t : Pnt) (h1 : t.vl.length ≤ 60) (h2 : t.fl.length ≤ 60) : Ret 93 #[.agg #[.int .i64 t.day, .string ⟨t.vl.toArray⟩, .string ⟨t.fl.toArray⟩]] (.string ⟨(canon (val t.vl + val t.fl)).toArray⟩) := fun w hG => by
  have hb := below_alloc w (.cells #[.int .i64 t.day, .string ⟨t.vl.toArray⟩, .string ⟨t.fl.toArray⟩] 50)
  have x1 := Blk.new w #[.int .i64 t.day, .string ⟨t.vl.toArray⟩, .string ⟨t.fl.toArray⟩] 50
  have C1 := Lib.hid (riAdd (l := t.vl) (l' := t.fl) (by omega) (by omega) rfl)
  have q0 := x1.c 0
  have q1 := x1.c 1
  have q2 := x1.c 2
  generalize canon (val t.vl + val t.fl) = y at *
  clear x1
  go_enter Tryz.func93, Tryz.ntmps93
  go_wp2_with fail
  ((with_reducible refine (C1.out.of hG hb).mono ?_); rintro e w2 ⟨rfl, hb2⟩)
  go_wp2
  go_ret
  exact ⟨rfl, bto hb hb2⟩
theorem cmp_neg {v : Int} : (cmpZ v 0 < 0 ↔ v < 0) ∧ (cmpZ v 0 ≤ 0 ↔ v ≤ 0) := by
  rcases cmpZ_cases v with h | h | h <;> rw [h.2] <;> constructor <;> omega
theorem Blk.ltB {w : World} {b : Nat} {cs : Array Value} (x : Blk w b cs) : b < w.heap.size := by obtain ⟨t, h⟩ := x; exact (Array.getElem?_eq_some_iff.1 h).1
theorem blk_lt {w wr : World} {b : Nat} {cs : Array Value} (h : b < wr.heap.size) (x : Blk w wr.heap.size cs) : b < w.heap.size := Nat.lt_trans h x.ltB
set_option maxHeartbeats 8000000 in
set_option maxRecDepth 100000 in
theorem twCheck (A : Option Addr) (ts : List Pnt) (n c : Nat) (w : World) (hG : Glob w) (hn : ts.length = n) (hn67 : n ≤ 1000) (hs : ∀ t ∈ ts, t.vl.length ≤ 60 ∧ t.fl.length ≤ 60) (h : PntAt w A ts) :
    Calls Tryz.prog 30 #[.slice A n c] w fun e w' => e = .returned (.int .i64 (pntE ts)) ∧ Below w.heap.size w w' := by
  by_cases h0 : n = 0
  · subst h0
    have HV : Hid (pntE ts = 11) := by show _ = _; unfold pntE; rw [if_pos hn]
    clear hn hs h
    go_enter Tryz.func30, Tryz.ntmps30
    go_wp2
    go_ret
    exact ⟨reti HV.out.symm, Below.refl _ _⟩
  have z1 : ((n : Int) == 0) = false := intbne (by omega)
  by_cases h4 : 400 < n
  · have HV : Hid (pntE ts = 4) := by show _ = _; unfold pntE; rw [if_neg (by omega), if_pos (by omega)]
    have e1 : decide (400 < n) = true := decide_eq_true h4
    clear hn hs h
    go_enter Tryz.func30, Tryz.ntmps30
    go_wp2
    go_ret
    exact ⟨reti HV.out.symm, Below.refl _ _⟩
  have e1 : decide (400 < n) = false := decide_eq_false h4
  have HE : Hid (pntE ts = pntL none ts) := by show _ = _; unfold pntE; rw [if_neg (by omega), if_neg (by omega)]
  have HI := Lib.hid h
  have HS := Lib.hid hs
  have HNn := Lib.hid hn
  clear h hn hs
  go_enter Tryz.func30, Tryz.ntmps30
  go_wp2_with fail
  clear e1 z1
  go_loopw [15] (fun iv wr => ∃ k : Nat, k ≤ n ∧ iv = .int .i64 (k : Int) ∧ Hid (pntL none ts = pntL (prevD ts k) (ts.drop k)) ∧ Below w.heap.size w wr) (fun iv _ => n - (intOf iv).toNat)
  case atStart => exact ⟨0, Nat.zero_le _, rfl, rfl, Below.refl _ _⟩
  case round =>
    obtain ⟨k, hk, rfl, HK, hb⟩ := hrel
    have hnl := HNn.out
    by_cases hlk : k < n
    rotate_left
    · have HV : Hid (pntE ts = 0) := by show _ = _; rw [HE.out, HK.out, pntL_end (by omega)]
      clear HK HE HI HS
      go_wp2
      go_ret
      exact ⟨reti HV.out.symm, hb⟩
    obtain ⟨t, ht⟩ : ∃ t, ts[k]? = some t := ⟨_, List.getElem?_eq_getElem (by omega)⟩
    obtain ⟨b, o, hA, hbs, p0, p1, p2⟩ := (HI.out.below hb) k t ht
    subst hA
    obtain ⟨hv40, hf40⟩ := HS.out t (List.mem_of_getElem? ht)
    have HN := Lib.hid (pntL_step ht hnl)
    have hbA := below_alloc wr (.cells #[.int .i64 t.day, .string ⟨t.vl.toArray⟩, .string ⟨t.fl.toArray⟩] 50)
    have x4 := Blk.new wr #[.int .i64 t.day, .string ⟨t.vl.toArray⟩, .string ⟨t.fl.toArray⟩] 50
    replace hb := bto hb hbA
    clear hbA ht
    have CD := Lib.hid (tValid t.day)
    cases gd : dayB t.day
    · have HG := Lib.hid gd
      rw [gd] at CD
      clear gd
      have q0 := x4.c 0
      have q1 := x4.c 1
      have q2 := x4.c 2
      go_wp2_with fail
      ((with_reducible refine (CD.out.of hG hb).mono ?_); rintro e w10 ⟨rfl, hb10⟩)
      clear q0 q1 q2
      replace x4 := x4.below hb10
      replace hb := bto hb hb10
      clear hb10
      clear p0 p1 p2
      have HV : Hid (pntE ts = 13) := by show _ = _; rw [HE.out, HK.out, HN.out, if_pos HG.out]
      clear HK HN HE HI HS
      have q0 := x4.c 0
      have q1 := x4.c 1
      have q2 := x4.c 2
      go_wp2
      go_ret
      exact ⟨reti HV.out.symm, hb⟩
    have HGd : Hid (¬ dayB t.day = false) := by show ¬ _; rw [gd]; decide
    rw [gd] at CD
    clear gd
    have q0 := x4.c 0
    have q1 := x4.c 1
    have q2 := x4.c 2
    go_wp2_with fail
    ((with_reducible refine (CD.out.of hG hb).mono ?_); rintro e w11 ⟨rfl, hb11⟩)
    clear q0 q1 q2
    replace x4 := x4.below hb11
    replace hb := bto hb hb11
    clear hb11
    clear p0 p1 p2 CD
    by_cases gv : t.vl = canon (val t.vl)
    rotate_left
    · have CC := Lib.hid (riCheck (l := t.vl) (c := 1) (by omega) (if_neg gv))
      have HB := Lib.hid gv
      clear gv
      have q0 := x4.c 0
      have q1 := x4.c 1
      have q2 := x4.c 2
      go_wp2_with fail
      ((with_reducible refine (CC.out.of hG hb).mono ?_); rintro e w12 ⟨rfl, hb12⟩)
      clear q0 q1 q2
      replace x4 := x4.below hb12
      replace hb := bto hb hb12
      clear hb12
      have HV : Hid (pntE ts = 1) := by show _ = _; rw [HE.out, HK.out, HN.out, if_neg HGd.out, if_pos HB.out]
      clear HK HN HE HI HS
      have q0 := x4.c 0
      have q1 := x4.c 1
      have q2 := x4.c 2
      go_wp2
      go_ret
      exact ⟨reti HV.out.symm, hb⟩
    have CC := Lib.hid (riCheck (l := t.vl) (c := 0) (by omega) (if_pos gv))
    have Hgv : Hid (¬ ¬ t.vl = canon (val t.vl)) := fun h => h gv
    clear gv
    have q0 := x4.c 0
    have q1 := x4.c 1
    have q2 := x4.c 2
    go_wp2_with fail
    ((with_reducible refine (CC.out.of hG hb).mono ?_); rintro e w13 ⟨rfl, hb13⟩)
    clear q0 q1 q2
    replace x4 := x4.below hb13
    replace hb := bto hb hb13
    clear hb13
    clear CC
    by_cases gf : t.fl = canon (val t.fl)
    rotate_left
    · have CC := Lib.hid (riCheck (l := t.fl) (c := 1) (by omega) (if_neg gf))
      have HB := Lib.hid gf
      clear gf
      have q0 := x4.c 0
      have q1 := x4.c 1
      have q2 := x4.c 2
      go_wp2_with fail
      ((with_reducible refine (CC.out.of hG hb).mono ?_); rintro e w14 ⟨rfl, hb14⟩)
      clear q0 q1 q2
      replace x4 := x4.below hb14
      replace hb := bto hb hb14
      clear hb14
      have HV : Hid (pntE ts = 1) := by show _ = _; rw [HE.out, HK.out, HN.out, if_neg HGd.out, if_neg Hgv.out, if_pos HB.out]
      clear HK HN HE HI HS
      have q0 := x4.c 0
      have q1 := x4.c 1
      have q2 := x4.c 2
      go_wp2
      go_ret
      exact ⟨reti HV.out.symm, hb⟩
    have CC := Lib.hid (riCheck (l := t.fl) (c := 0) (by omega) (if_pos gf))
    have Hgf : Hid (¬ ¬ t.fl = canon (val t.fl)) := fun h => h gf
    clear gf
    have q0 := x4.c 0
    have q1 := x4.c 1
    have q2 := x4.c 2
    go_wp2_with fail
    ((with_reducible refine (CC.out.of hG hb).mono ?_); rintro e w15 ⟨rfl, hb15⟩)
    clear q0 q1 q2
    replace x4 := x4.below hb15
    replace hb := bto hb hb15
    clear hb15
    clear CC
    cases gg : longB t.vl
    rotate_left
    · have CV := Lib.hid (tLong (l := t.vl) (by omega))
      have HC := Lib.hid gg
      rw [gg] at CV
      clear gg
      have q0 := x4.c 0
      have q1 := x4.c 1
      have q2 := x4.c 2
      go_wp2_with fail
      ((with_reducible refine (CV.out.of hG hb).mono ?_); rintro e w16 ⟨rfl, hb16⟩)
      clear q0 q1 q2
      replace x4 := x4.below hb16
      replace hb := bto hb hb16
      clear hb16
      have HV : Hid (pntE ts = 4) := by show _ = _; rw [HE.out, HK.out, HN.out, if_neg HGd.out, if_neg Hgv.out, if_neg Hgf.out, if_pos HC.out]
      clear HK HN HE HI HS
      have q0 := x4.c 0
      have q1 := x4.c 1
      have q2 := x4.c 2
      go_wp2
      go_ret
      exact ⟨reti HV.out.symm, hb⟩
    have CV := Lib.hid (tLong (l := t.vl) (by omega))
    have HLv : Hid (¬ longB t.vl = true) := by show ¬ _; rw [gg]; decide
    rw [gg] at CV
    clear gg
    have q0 := x4.c 0
    have q1 := x4.c 1
    have q2 := x4.c 2
    go_wp2_with fail
    ((with_reducible refine (CV.out.of hG hb).mono ?_); rintro e w17 ⟨rfl, hb17⟩)
    clear q0 q1 q2
    replace x4 := x4.below hb17
    replace hb := bto hb hb17
    clear hb17
    clear CV
    cases gg : longB t.fl
    rotate_left
    · have CV := Lib.hid (tLong (l := t.fl) (by omega))
      have HC := Lib.hid gg
      rw [gg] at CV
      clear gg
      have q0 := x4.c 0
      have q1 := x4.c 1
      have q2 := x4.c 2
      go_wp2_with fail
      ((with_reducible refine (CV.out.of hG hb).mono ?_); rintro e w18 ⟨rfl, hb18⟩)
      clear q0 q1 q2
      replace x4 := x4.below hb18
      replace hb := bto hb hb18
      clear hb18
      have HV : Hid (pntE ts = 4) := by show _ = _; rw [HE.out, HK.out, HN.out, if_neg HGd.out, if_neg Hgv.out, if_neg Hgf.out, if_neg HLv.out, if_pos HC.out]
      clear HK HN HE HI HS
      have q0 := x4.c 0
      have q1 := x4.c 1
      have q2 := x4.c 2
      go_wp2
      go_ret
      exact ⟨reti HV.out.symm, hb⟩
    have CV := Lib.hid (tLong (l := t.fl) (by omega))
    have HLf : Hid (¬ longB t.fl = true) := by show ¬ _; rw [gg]; decide
    rw [gg] at CV
    clear gg
    have q0 := x4.c 0
    have q1 := x4.c 1
    have q2 := x4.c 2
    go_wp2_with fail
    ((with_reducible refine (CV.out.of hG hb).mono ?_); rintro e w19 ⟨rfl, hb19⟩)
    clear q0 q1 q2
    replace x4 := x4.below hb19
    replace hb := bto hb hb19
    clear hb19
    clear CV
    cases k with
    | zero =>
      go_wp2_with fail
      refine wp_region_kept (by kernel_rfl) (by kernel_rfl) ?_
      refine kept_val _ (fun _ => rfl) (fun ρ w hw => by go_simp; first | done | with_reducible rfl) ?_
      simp only [Act.put, List.setIfInBounds_toArray, List.set_cons_zero, List.set_cons_succ, Nat.reduceAdd]
      refine kept_val _ (fun _ => rfl) (fun ρ w hw => by go_simp; first | done | with_reducible rfl) ?_
      simp only [Act.put, List.setIfInBounds_toArray, List.set_cons_zero, List.set_cons_succ, Nat.reduceAdd]
      refine kept_val _ (fun _ => rfl) (fun ρ w hw => by go_simp; first | done | with_reducible rfl) ?_
      simp only [Act.put, List.setIfInBounds_toArray, List.set_cons_zero, List.set_cons_succ, Nat.reduceAdd]
      refine kept_off (fun _ => rfl) ?_
      simp only [Act.put, List.setIfInBounds_toArray, List.set_cons_zero, List.set_cons_succ, Nat.reduceAdd]
      refine kept_off (fun _ => rfl) ?_
      simp only [Act.put, List.setIfInBounds_toArray, List.set_cons_zero, List.set_cons_succ, Nat.reduceAdd]
      refine kept_off (fun _ => rfl) ?_
      simp only [Act.put, List.setIfInBounds_toArray, List.set_cons_zero, List.set_cons_succ, Nat.reduceAdd]
      refine kept_off (fun _ => rfl) ?_
      simp only [Act.put, List.setIfInBounds_toArray, List.set_cons_zero, List.set_cons_succ, Nat.reduceAdd]
      refine kept_off (fun _ => rfl) ?_
      simp only [Act.put, List.setIfInBounds_toArray, List.set_cons_zero, List.set_cons_succ, Nat.reduceAdd]
      refine kept_off (fun _ => rfl) ?_
      simp only [Act.put, List.setIfInBounds_toArray, List.set_cons_zero, List.set_cons_succ, Nat.reduceAdd]
      refine kept_off (fun _ => rfl) ?_
      simp only [Act.put, List.setIfInBounds_toArray, List.set_cons_zero, List.set_cons_succ, Nat.reduceAdd]
      refine kept_off (fun _ => rfl) ?_
      simp only [Act.put, List.setIfInBounds_toArray, List.set_cons_zero, List.set_cons_succ, Nat.reduceAdd]
      refine kept_off (fun _ => rfl) ?_
      simp only [Act.put, List.setIfInBounds_toArray, List.set_cons_zero, List.set_cons_succ, Nat.reduceAdd]
      refine kept_val _ (fun _ => rfl) (fun ρ w hw => by go_simp; first | done | with_reducible rfl) ?_
      simp only [Act.put, List.setIfInBounds_toArray, List.set_cons_zero, List.set_cons_succ, Nat.reduceAdd]
      refine kept_val _ (fun _ => rfl) (fun ρ w hw => by go_simp; first | done | with_reducible rfl) ?_
      simp only [Act.put, List.setIfInBounds_toArray, List.set_cons_zero, List.set_cons_succ, Nat.reduceAdd]
      refine kept_end (fun ρ w20 hF => ?_)
      have hbF := hF.below
      clear hF
      replace x4 := x4.below hbF
      replace hb := bto hb hbF
      clear hbF
      have hcn := cmp_neg (v := val t.vl)
      obtain ⟨c1, hc1⟩ : ∃ c1, cmpZ (val t.vl) 0 = c1 := ⟨_, rfl⟩
      rw [hc1] at hcn
      have CA := Lib.hid (riCompare (l := t.vl) (l' := []) (by omega) (by decide) hc1)
      clear hc1
      by_cases gn : val t.vl < 0
      · have f3 : decide (c1 < 0) = true := decide_eq_true (hcn.1.2 gn)
        have HC := Lib.hid gn
        clear gn hcn
        have q0 := x4.c 0
        have q1 := x4.c 1
        have q2 := x4.c 2
        go_wp2_with fail
        ((with_reducible refine (CA.out.of hG hb).mono ?_); rintro e w20 ⟨rfl, hb20⟩)
        clear q0 q1 q2
        replace x4 := x4.below hb20
        replace hb := bto hb hb20
        clear hb20
        have HV : Hid (pntE ts = 2) := by show _ = _; rw [HE.out, HK.out, HN.out, if_neg HGd.out, if_neg Hgv.out, if_neg Hgf.out, if_neg HLv.out, if_neg HLf.out, if_neg (show ¬ ordB (prevD ts 0) t.day = true from fun h => by cases h), if_pos HC.out]
        clear HK HN HE HI HS
        have q0 := x4.c 0
        have q1 := x4.c 1
        have q2 := x4.c 2
        go_wp2
        go_ret
        exact ⟨reti HV.out.symm, hb⟩
      have f3 : decide (c1 < 0) = false := decide_eq_false (fun h => gn (hcn.1.1 h))
      have HGn := Lib.hid gn
      clear gn hcn
      by_cases gl : 0 + 1 < n
      rotate_left
      · have HV : Hid (pntL none ts = pntL (prevD ts (0 + 1)) (ts.drop (0 + 1))) := by show _ = _; rw [HK.out, HN.out, if_neg HGd.out, if_neg Hgv.out, if_neg Hgf.out, if_neg HLv.out, if_neg HLf.out, if_neg (show ¬ ordB (prevD ts 0) t.day = true from fun h => by cases h), if_neg (show ¬ val t.vl < 0 from by have := HGn.out; omega), if_neg (fun h => gl h.1)]
        have f4 : decide (((0 : Nat) : Int) + 1 < (n : Int)) = false := decide_eq_false (by omega)
        clear HK HN
        have q0 := x4.c 0
        have q1 := x4.c 1
        have q2 := x4.c 2
        go_wp2_with fail
        ((with_reducible refine (CA.out.of hG hb).mono ?_); rintro e w21 ⟨rfl, hb21⟩)
        clear q0 q1 q2
        replace x4 := x4.below hb21
        replace hb := bto hb hb21
        clear hb21
        have q0 := x4.c 0
        have q1 := x4.c 1
        have q2 := x4.c 2
        go_wp2
        go_roundw
        case rel => exact ⟨0 + 1, by omega, by go_num, HV.out, hb⟩
        case measure => simp [intOf]; omega
      have CB := Lib.hid (tStart t hv40 hf40)
      have hyl : (canon (val t.vl + val t.fl)).length ≤ 100 := Nat.le_trans (canon_len_le _ 62 (by have h1 := val_lt_of hv40; have h2 := val_lt_of hf40; have h3 := Int.natAbs_add_le (val t.vl) (val t.fl); have h4 : (10 : Nat) ^ 60 + 10 ^ 60 ≤ 10 ^ 62 := (by decide); omega)) (by decide)
      have hcm := cmp_neg (v := val t.vl + val t.fl)
      obtain ⟨c2, hc2⟩ : ∃ c2, cmpZ (val t.vl + val t.fl) 0 = c2 := ⟨_, rfl⟩
      rw [hc2] at hcm
      have CE := Lib.hid (riCompare (l := canon (val t.vl + val t.fl)) (l' := []) (by omega) (by decide) (c := c2) (by rw [val_canon]; exact hc2))
      clear hc2
      by_cases gs : val t.vl + val t.fl ≤ 0
      · have f5 : decide (c2 ≤ 0) = true := decide_eq_true (hcm.2.2 gs)
        have HC := Lib.hid (And.intro gl gs)
        generalize canon (val t.vl + val t.fl) = yy at *
        clear gs hcm
        have q0 := x4.c 0
        have q1 := x4.c 1
        have q2 := x4.c 2
        go_wp2_with fail
        ((with_reducible refine (CA.out.of hG hb).mono ?_); rintro e w22 ⟨rfl, hb22⟩)
        clear q0 q1 q2
        replace x4 := x4.below hb22
        replace hb := bto hb hb22
        clear hb22
        have q0 := x4.c 0
        have q1 := x4.c 1
        have q2 := x4.c 2
        go_wp2_with fail
        ((with_reducible refine (CB.out.of hG hb).mono ?_); rintro e w23 ⟨rfl, hb23⟩)
        clear q0 q1 q2
        replace x4 := x4.below hb23
        replace hb := bto hb hb23
        clear hb23
        have q0 := x4.c 0
        have q1 := x4.c 1
        have q2 := x4.c 2
        go_wp2_with fail
        ((with_reducible refine (CE.out.of hG hb).mono ?_); rintro e w24 ⟨rfl, hb24⟩)
        clear q0 q1 q2
        replace x4 := x4.below hb24
        replace hb := bto hb hb24
        clear hb24
        have HV : Hid (pntE ts = 2) := by show _ = _; rw [HE.out, HK.out, HN.out, if_neg HGd.out, if_neg Hgv.out, if_neg Hgf.out, if_neg HLv.out, if_neg HLf.out, if_neg (show ¬ ordB (prevD ts 0) t.day = true from fun h => by cases h), if_neg (show ¬ val t.vl < 0 from by have := HGn.out; omega), if_pos HC.out]
        clear HK HN HE HI HS
        have q0 := x4.c 0
        have q1 := x4.c 1
        have q2 := x4.c 2
        go_wp2
        go_ret
        exact ⟨reti HV.out.symm, hb⟩
      have HV : Hid (pntL none ts = pntL (prevD ts (0 + 1)) (ts.drop (0 + 1))) := by show _ = _; rw [HK.out, HN.out, if_neg HGd.out, if_neg Hgv.out, if_neg Hgf.out, if_neg HLv.out, if_neg HLf.out, if_neg (show ¬ ordB (prevD ts 0) t.day = true from fun h => by cases h), if_neg (show ¬ val t.vl < 0 from by have := HGn.out; omega), if_neg (fun h => gs h.2)]
      have f5 : decide (c2 ≤ 0) = false := decide_eq_false (fun h => gs (hcm.2.1 h))
      generalize canon (val t.vl + val t.fl) = yy at *
      clear gs hcm HK HN
      have q0 := x4.c 0
      have q1 := x4.c 1
      have q2 := x4.c 2
      go_wp2_with fail
      ((with_reducible refine (CA.out.of hG hb).mono ?_); rintro e w25 ⟨rfl, hb25⟩)
      clear q0 q1 q2
      replace x4 := x4.below hb25
      replace hb := bto hb hb25
      clear hb25
      have q0 := x4.c 0
      have q1 := x4.c 1
      have q2 := x4.c 2
      go_wp2_with fail
      ((with_reducible refine (CB.out.of hG hb).mono ?_); rintro e w26 ⟨rfl, hb26⟩)
      clear q0 q1 q2
      replace x4 := x4.below hb26
      replace hb := bto hb hb26
      clear hb26
      have q0 := x4.c 0
      have q1 := x4.c 1
      have q2 := x4.c 2
      go_wp2_with fail
      ((with_reducible refine (CE.out.of hG hb).mono ?_); rintro e w27 ⟨rfl, hb27⟩)
      clear q0 q1 q2
      replace x4 := x4.below hb27
      replace hb := bto hb hb27
      clear hb27
      have q0 := x4.c 0
      have q1 := x4.c 1
      have q2 := x4.c 2
      go_wp2
      go_roundw
      case rel => exact ⟨0 + 1, by omega, by go_num, HV.out, hb⟩
      case measure => simp [intOf]; omega
    | succ k' =>
      obtain ⟨u, hu⟩ : ∃ u, ts[k']? = some u := ⟨_, List.getElem?_eq_getElem (by omega)⟩
      obtain ⟨b', o', hA', hbs', r0, -, -⟩ := (HI.out.below hb) k' u hu
      obtain ⟨rfl, rfl⟩ : b = b' ∧ o = o' := by injection hA' with hA'; injection hA' with h1 h2; exact ⟨h1, h2⟩
      have hpd : prevD ts (k' + 1) = some u.day := by show (ts[k']?).map (·.day) = _; rw [hu]; rfl
      have HPd := Lib.hid hpd
      have hwr : IntKind.i64.wrap (k' : Int) = (k' : Int) := Go.IntWalk.i64_in _ (by omega)
      have hkn : k' < n := by omega
      clear hu hA' hpd hbs'
      by_cases go : t.day ≤ u.day
      · have f6 : decide (t.day ≤ u.day) = true := decide_eq_true go
        have HB : Hid (ordB (prevD ts (k' + 1)) t.day = true) := by show _ = _; rw [HPd.out]; exact f6
        have hbs2 := blk_lt hbs x4
        go_wp2_with fail
        refine wp_region_kept (by kernel_rfl) (by kernel_rfl) ?_
        refine kept_val _ (fun _ => rfl) (fun ρ w hw => by go_simp; first | done | with_reducible rfl) ?_
        simp only [Act.put, List.setIfInBounds_toArray, List.set_cons_zero, List.set_cons_succ, Nat.reduceAdd]
        refine kept_val (.bool true) (fun _ => rfl) (fun ρ w hw => by go_simp; first | done | omega | (simp; omega)) ?_
        simp only [Act.put, List.setIfInBounds_toArray, List.set_cons_zero, List.set_cons_succ, Nat.reduceAdd]
        refine kept_val _ (fun _ => rfl) (fun ρ w hw => by go_simp; first | done | with_reducible rfl) ?_
        simp only [Act.put, List.setIfInBounds_toArray, List.set_cons_zero, List.set_cons_succ, Nat.reduceAdd]
        refine kept_val _ (fun _ => rfl) (fun ρ w hw => by go_simp; first | done | with_reducible rfl) ?_
        simp only [Act.put, List.setIfInBounds_toArray, List.set_cons_zero, List.set_cons_succ, Nat.reduceAdd]
        refine kept_val _ (fun _ => rfl) (fun ρ w hw => by have q0 := (x4.below hw).c 0; go_simp; first | done | with_reducible rfl) ?_
        simp only [Act.put, List.setIfInBounds_toArray, List.set_cons_zero, List.set_cons_succ, Nat.reduceAdd]
        refine kept_val _ (fun _ => rfl) (fun ρ w hw => by go_simp; first | done | with_reducible rfl) ?_
        simp only [Act.put, List.setIfInBounds_toArray, List.set_cons_zero, List.set_cons_succ, Nat.reduceAdd]
        refine kept_val _ (fun _ => rfl) (fun ρ w hw => by go_simp; first | done | with_reducible rfl) ?_
        simp only [Act.put, List.setIfInBounds_toArray, List.set_cons_zero, List.set_cons_succ, Nat.reduceAdd]
        refine kept_val _ (fun _ => rfl) (fun ρ w hw => by go_simp; first | done | with_reducible rfl) ?_
        simp only [Act.put, List.setIfInBounds_toArray, List.set_cons_zero, List.set_cons_succ, Nat.reduceAdd]
        refine kept_val _ (fun _ => rfl) (fun ρ w hw => by go_simp; first | done | with_reducible rfl) ?_
        simp only [Act.put, List.setIfInBounds_toArray, List.set_cons_zero, List.set_cons_succ, Nat.reduceAdd]
        refine kept_val _ (fun _ => rfl) (fun ρ w hw => by go_simp; first | done | with_reducible rfl) ?_
        simp only [Act.put, List.setIfInBounds_toArray, List.set_cons_zero, List.set_cons_succ, Nat.reduceAdd]
        refine kept_val _ (fun _ => rfl) (fun ρ w hw => by have q0 := (hw.cell (p := ⟨b, o + k' * 3, none⟩) hbs2).trans r0; go_simp; first | done | with_reducible rfl) ?_
        simp only [Act.put, List.setIfInBounds_toArray, List.set_cons_zero, List.set_cons_succ, Nat.reduceAdd]
        refine kept_val _ (fun _ => rfl) (fun ρ w hw => by go_simp; first | done | with_reducible rfl) ?_
        simp only [Act.put, List.setIfInBounds_toArray, List.set_cons_zero, List.set_cons_succ, Nat.reduceAdd]
        refine kept_val _ (fun _ => rfl) (fun ρ w hw => by go_simp; first | done | with_reducible rfl) ?_
        simp only [Act.put, List.setIfInBounds_toArray, List.set_cons_zero, List.set_cons_succ, Nat.reduceAdd]
        refine kept_val _ (fun _ => rfl) (fun ρ w hw => by go_simp; first | done | with_reducible rfl) ?_
        simp only [Act.put, List.setIfInBounds_toArray, List.set_cons_zero, List.set_cons_succ, Nat.reduceAdd]
        refine kept_end (fun ρ w20 hF => ?_)
        have hbF := hF.below
        clear hF
        replace x4 := x4.below hbF
        replace hb := bto hb hbF
        clear hbF
        clear r0 hbs2
        have HV : Hid (pntE ts = 8) := by show _ = _; rw [HE.out, HK.out, HN.out, if_neg HGd.out, if_neg Hgv.out, if_neg Hgf.out, if_neg HLv.out, if_neg HLf.out, if_pos HB.out]
        clear HK HN HE HI HS
        have q0 := x4.c 0
        have q1 := x4.c 1
        have q2 := x4.c 2
        go_wp2
        go_ret
        exact ⟨reti HV.out.symm, hb⟩
      have f6 : decide (t.day ≤ u.day) = false := decide_eq_false go
      have HB : Hid (¬ ordB (prevD ts (k' + 1)) t.day = true) := by show ¬ _; rw [HPd.out]; exact fun h => go (of_decide_eq_true h)
      have hbs2 := blk_lt hbs x4
      go_wp2_with fail
      refine wp_region_kept (by kernel_rfl) (by kernel_rfl) ?_
      refine kept_val _ (fun _ => rfl) (fun ρ w hw => by go_simp; first | done | with_reducible rfl) ?_
      simp only [Act.put, List.setIfInBounds_toArray, List.set_cons_zero, List.set_cons_succ, Nat.reduceAdd]
      refine kept_val (.bool true) (fun _ => rfl) (fun ρ w hw => by go_simp; first | done | omega | (simp; omega)) ?_
      simp only [Act.put, List.setIfInBounds_toArray, List.set_cons_zero, List.set_cons_succ, Nat.reduceAdd]
      refine kept_val _ (fun _ => rfl) (fun ρ w hw => by go_simp; first | done | with_reducible rfl) ?_
      simp only [Act.put, List.setIfInBounds_toArray, List.set_cons_zero, List.set_cons_succ, Nat.reduceAdd]
      refine kept_val _ (fun _ => rfl) (fun ρ w hw => by go_simp; first | done | with_reducible rfl) ?_
      simp only [Act.put, List.setIfInBounds_toArray, List.set_cons_zero, List.set_cons_succ, Nat.reduceAdd]
      refine kept_val _ (fun _ => rfl) (fun ρ w hw => by have q0 := (x4.below hw).c 0; go_simp; first | done | with_reducible rfl) ?_
      simp only [Act.put, List.setIfInBounds_toArray, List.set_cons_zero, List.set_cons_succ, Nat.reduceAdd]
      refine kept_val _ (fun _ => rfl) (fun ρ w hw => by go_simp; first | done | with_reducible rfl) ?_
      simp only [Act.put, List.setIfInBounds_toArray, List.set_cons_zero, List.set_cons_succ, Nat.reduceAdd]
      refine kept_val _ (fun _ => rfl) (fun ρ w hw => by go_simp; first | done | with_reducible rfl) ?_
      simp only [Act.put, List.setIfInBounds_toArray, List.set_cons_zero, List.set_cons_succ, Nat.reduceAdd]
      refine kept_val _ (fun _ => rfl) (fun ρ w hw => by go_simp; first | done | with_reducible rfl) ?_
      simp only [Act.put, List.setIfInBounds_toArray, List.set_cons_zero, List.set_cons_succ, Nat.reduceAdd]
      refine kept_val _ (fun _ => rfl) (fun ρ w hw => by go_simp; first | done | with_reducible rfl) ?_
      simp only [Act.put, List.setIfInBounds_toArray, List.set_cons_zero, List.set_cons_succ, Nat.reduceAdd]
      refine kept_val _ (fun _ => rfl) (fun ρ w hw => by go_simp; first | done | with_reducible rfl) ?_
      simp only [Act.put, List.setIfInBounds_toArray, List.set_cons_zero, List.set_cons_succ, Nat.reduceAdd]
      refine kept_val _ (fun _ => rfl) (fun ρ w hw => by have q0 := (hw.cell (p := ⟨b, o + k' * 3, none⟩) hbs2).trans r0; go_simp; first | done | with_reducible rfl) ?_
      simp only [Act.put, List.setIfInBounds_toArray, List.set_cons_zero, List.set_cons_succ, Nat.reduceAdd]
      refine kept_val _ (fun _ => rfl) (fun ρ w hw => by go_simp; first | done | with_reducible rfl) ?_
      simp only [Act.put, List.setIfInBounds_toArray, List.set_cons_zero, List.set_cons_succ, Nat.reduceAdd]
      refine kept_val _ (fun _ => rfl) (fun ρ w hw => by go_simp; first | done | with_reducible rfl) ?_
      simp only [Act.put, List.setIfInBounds_toArray, List.set_cons_zero, List.set_cons_succ, Nat.reduceAdd]
      refine kept_val _ (fun _ => rfl) (fun ρ w hw => by go_simp; first | done | with_reducible rfl) ?_
      simp only [Act.put, List.setIfInBounds_toArray, List.set_cons_zero, List.set_cons_succ, Nat.reduceAdd]
      refine kept_end (fun ρ w20 hF => ?_)
      have hbF := hF.below
      clear hF
      replace x4 := x4.below hbF
      replace hb := bto hb hbF
      clear hbF
      clear r0 hbs2
      have hcn := cmp_neg (v := val t.vl)
      obtain ⟨c1, hc1⟩ : ∃ c1, cmpZ (val t.vl) 0 = c1 := ⟨_, rfl⟩
      rw [hc1] at hcn
      have CA := Lib.hid (riCompare (l := t.vl) (l' := []) (by omega) (by decide) hc1)
      clear hc1
      by_cases gn : val t.vl < 0
      · have f3 : decide (c1 < 0) = true := decide_eq_true (hcn.1.2 gn)
        have HC := Lib.hid gn
        clear gn hcn
        have q0 := x4.c 0
        have q1 := x4.c 1
        have q2 := x4.c 2
        go_wp2_with fail
        ((with_reducible refine (CA.out.of hG hb).mono ?_); rintro e w28 ⟨rfl, hb28⟩)
        clear q0 q1 q2
        replace x4 := x4.below hb28
        replace hb := bto hb hb28
        clear hb28
        have HV : Hid (pntE ts = 2) := by show _ = _; rw [HE.out, HK.out, HN.out, if_neg HGd.out, if_neg Hgv.out, if_neg Hgf.out, if_neg HLv.out, if_neg HLf.out, if_neg HB.out, if_pos HC.out]
        clear HK HN HE HI HS
        have q0 := x4.c 0
        have q1 := x4.c 1
        have q2 := x4.c 2
        go_wp2
        go_ret
        exact ⟨reti HV.out.symm, hb⟩
      have f3 : decide (c1 < 0) = false := decide_eq_false (fun h => gn (hcn.1.1 h))
      have HGn := Lib.hid gn
      clear gn hcn
      by_cases gl : (k' + 1) + 1 < n
      rotate_left
      · have HV : Hid (pntL none ts = pntL (prevD ts ((k' + 1) + 1)) (ts.drop ((k' + 1) + 1))) := by show _ = _; rw [HK.out, HN.out, if_neg HGd.out, if_neg Hgv.out, if_neg Hgf.out, if_neg HLv.out, if_neg HLf.out, if_neg HB.out, if_neg (show ¬ val t.vl < 0 from by have := HGn.out; omega), if_neg (fun h => gl h.1)]
        have f4 : decide ((((k' + 1) : Nat) : Int) + 1 < (n : Int)) = false := decide_eq_false (by omega)
        clear HK HN
        have q0 := x4.c 0
        have q1 := x4.c 1
        have q2 := x4.c 2
        go_wp2_with fail
        ((with_reducible refine (CA.out.of hG hb).mono ?_); rintro e w29 ⟨rfl, hb29⟩)
        clear q0 q1 q2
        replace x4 := x4.below hb29
        replace hb := bto hb hb29
        clear hb29
        have q0 := x4.c 0
        have q1 := x4.c 1
        have q2 := x4.c 2
        go_wp2
        go_roundw
        case rel => exact ⟨(k' + 1) + 1, by omega, by go_num, HV.out, hb⟩
        case measure => simp [intOf]; omega
      have CB := Lib.hid (tStart t hv40 hf40)
      have hyl : (canon (val t.vl + val t.fl)).length ≤ 100 := Nat.le_trans (canon_len_le _ 62 (by have h1 := val_lt_of hv40; have h2 := val_lt_of hf40; have h3 := Int.natAbs_add_le (val t.vl) (val t.fl); have h4 : (10 : Nat) ^ 60 + 10 ^ 60 ≤ 10 ^ 62 := (by decide); omega)) (by decide)
      have hcm := cmp_neg (v := val t.vl + val t.fl)
      obtain ⟨c2, hc2⟩ : ∃ c2, cmpZ (val t.vl + val t.fl) 0 = c2 := ⟨_, rfl⟩
      rw [hc2] at hcm
      have CE := Lib.hid (riCompare (l := canon (val t.vl + val t.fl)) (l' := []) (by omega) (by decide) (c := c2) (by rw [val_canon]; exact hc2))
      clear hc2
      by_cases gs : val t.vl + val t.fl ≤ 0
      · have f5 : decide (c2 ≤ 0) = true := decide_eq_true (hcm.2.2 gs)
        have HC := Lib.hid (And.intro gl gs)
        generalize canon (val t.vl + val t.fl) = yy at *
        clear gs hcm
        have q0 := x4.c 0
        have q1 := x4.c 1
        have q2 := x4.c 2
        go_wp2_with fail
        ((with_reducible refine (CA.out.of hG hb).mono ?_); rintro e w30 ⟨rfl, hb30⟩)
        clear q0 q1 q2
        replace x4 := x4.below hb30
        replace hb := bto hb hb30
        clear hb30
        have q0 := x4.c 0
        have q1 := x4.c 1
        have q2 := x4.c 2
        go_wp2_with fail
        ((with_reducible refine (CB.out.of hG hb).mono ?_); rintro e w31 ⟨rfl, hb31⟩)
        clear q0 q1 q2
        replace x4 := x4.below hb31
        replace hb := bto hb hb31
        clear hb31
        have q0 := x4.c 0
        have q1 := x4.c 1
        have q2 := x4.c 2
        go_wp2_with fail
        ((with_reducible refine (CE.out.of hG hb).mono ?_); rintro e w32 ⟨rfl, hb32⟩)
        clear q0 q1 q2
        replace x4 := x4.below hb32
        replace hb := bto hb hb32
        clear hb32
        have HV : Hid (pntE ts = 2) := by show _ = _; rw [HE.out, HK.out, HN.out, if_neg HGd.out, if_neg Hgv.out, if_neg Hgf.out, if_neg HLv.out, if_neg HLf.out, if_neg HB.out, if_neg (show ¬ val t.vl < 0 from by have := HGn.out; omega), if_pos HC.out]
        clear HK HN HE HI HS
        have q0 := x4.c 0
        have q1 := x4.c 1
        have q2 := x4.c 2
        go_wp2
        go_ret
        exact ⟨reti HV.out.symm, hb⟩
      have HV : Hid (pntL none ts = pntL (prevD ts ((k' + 1) + 1)) (ts.drop ((k' + 1) + 1))) := by show _ = _; rw [HK.out, HN.out, if_neg HGd.out, if_neg Hgv.out, if_neg Hgf.out, if_neg HLv.out, if_neg HLf.out, if_neg HB.out, if_neg (show ¬ val t.vl < 0 from by have := HGn.out; omega), if_neg (fun h => gs h.2)]
      have f5 : decide (c2 ≤ 0) = false := decide_eq_false (fun h => gs (hcm.2.1 h))
      generalize canon (val t.vl + val t.fl) = yy at *
      clear gs hcm HK HN
      have q0 := x4.c 0
      have q1 := x4.c 1
      have q2 := x4.c 2
      go_wp2_with fail
      ((with_reducible refine (CA.out.of hG hb).mono ?_); rintro e w33 ⟨rfl, hb33⟩)
      clear q0 q1 q2
      replace x4 := x4.below hb33
      replace hb := bto hb hb33
      clear hb33
      have q0 := x4.c 0
      have q1 := x4.c 1
      have q2 := x4.c 2
      go_wp2_with fail
      ((with_reducible refine (CB.out.of hG hb).mono ?_); rintro e w34 ⟨rfl, hb34⟩)
      clear q0 q1 q2
      replace x4 := x4.below hb34
      replace hb := bto hb hb34
      clear hb34
      have q0 := x4.c 0
      have q1 := x4.c 1
      have q2 := x4.c 2
      go_wp2_with fail
      ((with_reducible refine (CE.out.of hG hb).mono ?_); rintro e w35 ⟨rfl, hb35⟩)
      clear q0 q1 q2
      replace x4 := x4.below hb35
      replace hb := bto hb hb35
      clear hb35
      have q0 := x4.c 0
      have q1 := x4.c 1
      have q2 := x4.c 2
      go_wp2
      go_roundw
      case rel => exact ⟨(k' + 1) + 1, by omega, by go_num, HV.out, hb⟩
      case measure => simp [intOf]; omega
set_option maxHeartbeats 8000000 in
set_option maxRecDepth 100000 in
theorem rwCheck (A : Option Addr) (ts : List Pnt) (n c : Nat) (w : World) (hG : Glob w) (hn : ts.length = n) (hn67 : n ≤ 1000) (hs : ∀ t ∈ ts, t.vl.length ≤ 60 ∧ t.fl.length ≤ 60) (h : PntAt w A ts) :
    Calls Tryz.prog 31 #[.slice A n c] w fun e w' => e = .returned (.int .i64 (pntE ts)) ∧ Below w.heap.size w w' := by
  by_cases h0 : n = 0
  · subst h0
    have HV : Hid (pntE ts = 11) := by show _ = _; unfold pntE; rw [if_pos hn]
    clear hn hs h
    go_enter Tryz.func31, Tryz.ntmps31
    go_wp2
    go_ret
    exact ⟨reti HV.out.symm, Below.refl _ _⟩
  have z1 : ((n : Int) == 0) = false := intbne (by omega)
  by_cases h4 : 400 < n
  · have HV : Hid (pntE ts = 4) := by show _ = _; unfold pntE; rw [if_neg (by omega), if_pos (by omega)]
    have e1 : decide (400 < n) = true := decide_eq_true h4
    clear hn hs h
    go_enter Tryz.func31, Tryz.ntmps31
    go_wp2
    go_ret
    exact ⟨reti HV.out.symm, Below.refl _ _⟩
  have e1 : decide (400 < n) = false := decide_eq_false h4
  have HE : Hid (pntE ts = pntL none ts) := by show _ = _; unfold pntE; rw [if_neg (by omega), if_neg (by omega)]
  have HI := Lib.hid h
  have HS := Lib.hid hs
  have HNn := Lib.hid hn
  clear h hn hs
  go_enter Tryz.func31, Tryz.ntmps31
  go_wp2_with fail
  clear e1 z1
  go_loopw [3] (fun iv wr => ∃ k : Nat, k ≤ n ∧ iv = .int .i64 (k : Int) ∧ Hid (pntL none ts = pntL (prevD ts k) (ts.drop k)) ∧ Below w.heap.size w wr) (fun iv _ => n - (intOf iv).toNat)
  case atStart => exact ⟨0, Nat.zero_le _, rfl, rfl, Below.refl _ _⟩
  case round =>
    obtain ⟨k, hk, rfl, HK, hb⟩ := hrel
    have hnl := HNn.out
    by_cases hlk : k < n
    rotate_left
    · have HV : Hid (pntE ts = 0) := by show _ = _; rw [HE.out, HK.out, pntL_end (by omega)]
      clear HK HE HI HS
      go_wp2
      go_ret
      exact ⟨reti HV.out.symm, hb⟩
    obtain ⟨t, ht⟩ : ∃ t, ts[k]? = some t := ⟨_, List.getElem?_eq_getElem (by omega)⟩
    obtain ⟨b, o, hA, hbs, p0, p1, p2⟩ := (HI.out.below hb) k t ht
    subst hA
    obtain ⟨hv40, hf40⟩ := HS.out t (List.mem_of_getElem? ht)
    have HN := Lib.hid (pntL_step ht hnl)
    have hbA := below_alloc wr (.cells #[.int .i64 t.day, .string ⟨t.vl.toArray⟩, .string ⟨t.fl.toArray⟩] 50)
    have x4 := Blk.new wr #[.int .i64 t.day, .string ⟨t.vl.toArray⟩, .string ⟨t.fl.toArray⟩] 50
    replace hb := bto hb hbA
    clear hbA ht
    have CD := Lib.hid (jDay t.day)
    cases gd : dayB t.day
    · have HG := Lib.hid gd
      have hd : dayE t.day = 13 := by unfold dayE; rw [gd]; rfl
      rw [hd] at CD
      clear gd hd
      have q0 := x4.c 0
      have q1 := x4.c 1
      have q2 := x4.c 2
      go_wp2_with fail
      ((with_reducible refine (CD.out.of hG hb).mono ?_); rintro e w10 ⟨rfl, hb10⟩)
      clear q0 q1 q2
      replace x4 := x4.below hb10
      replace hb := bto hb hb10
      clear hb10
      clear p0 p1 p2
      have HV : Hid (pntE ts = 13) := by show _ = _; rw [HE.out, HK.out, HN.out, if_pos HG.out]
      clear HK HN HE HI HS
      have q0 := x4.c 0
      have q1 := x4.c 1
      have q2 := x4.c 2
      go_wp2
      go_ret
      exact ⟨reti HV.out.symm, hb⟩
    have HGd : Hid (¬ dayB t.day = false) := by show ¬ _; rw [gd]; decide
    have hd : dayE t.day = 0 := by unfold dayE; rw [gd]; rfl
    rw [hd] at CD
    clear gd hd
    have q0 := x4.c 0
    have q1 := x4.c 1
    have q2 := x4.c 2
    go_wp2_with fail
    ((with_reducible refine (CD.out.of hG hb).mono ?_); rintro e w11 ⟨rfl, hb11⟩)
    clear q0 q1 q2
    replace x4 := x4.below hb11
    replace hb := bto hb hb11
    clear hb11
    clear p0 p1 p2 CD
    by_cases gv : t.vl = canon (val t.vl)
    rotate_left
    · have CC := Lib.hid (qCheck (l := t.vl) (c := 1) (by omega) (if_neg gv))
      have HB := Lib.hid gv
      clear gv
      have q0 := x4.c 0
      have q1 := x4.c 1
      have q2 := x4.c 2
      go_wp2_with fail
      ((with_reducible refine (CC.out.of hG hb).mono ?_); rintro e w12 ⟨rfl, hb12⟩)
      clear q0 q1 q2
      replace x4 := x4.below hb12
      replace hb := bto hb hb12
      clear hb12
      have HV : Hid (pntE ts = 1) := by show _ = _; rw [HE.out, HK.out, HN.out, if_neg HGd.out, if_pos HB.out]
      clear HK HN HE HI HS
      have q0 := x4.c 0
      have q1 := x4.c 1
      have q2 := x4.c 2
      go_wp2
      go_ret
      exact ⟨reti HV.out.symm, hb⟩
    have CC := Lib.hid (qCheck (l := t.vl) (c := 0) (by omega) (if_pos gv))
    have Hgv : Hid (¬ ¬ t.vl = canon (val t.vl)) := fun h => h gv
    clear gv
    have q0 := x4.c 0
    have q1 := x4.c 1
    have q2 := x4.c 2
    go_wp2_with fail
    ((with_reducible refine (CC.out.of hG hb).mono ?_); rintro e w13 ⟨rfl, hb13⟩)
    clear q0 q1 q2
    replace x4 := x4.below hb13
    replace hb := bto hb hb13
    clear hb13
    clear CC
    by_cases gf : t.fl = canon (val t.fl)
    rotate_left
    · have CC := Lib.hid (qCheck (l := t.fl) (c := 1) (by omega) (if_neg gf))
      have HB := Lib.hid gf
      clear gf
      have q0 := x4.c 0
      have q1 := x4.c 1
      have q2 := x4.c 2
      go_wp2_with fail
      ((with_reducible refine (CC.out.of hG hb).mono ?_); rintro e w14 ⟨rfl, hb14⟩)
      clear q0 q1 q2
      replace x4 := x4.below hb14
      replace hb := bto hb hb14
      clear hb14
      have HV : Hid (pntE ts = 1) := by show _ = _; rw [HE.out, HK.out, HN.out, if_neg HGd.out, if_neg Hgv.out, if_pos HB.out]
      clear HK HN HE HI HS
      have q0 := x4.c 0
      have q1 := x4.c 1
      have q2 := x4.c 2
      go_wp2
      go_ret
      exact ⟨reti HV.out.symm, hb⟩
    have CC := Lib.hid (qCheck (l := t.fl) (c := 0) (by omega) (if_pos gf))
    have Hgf : Hid (¬ ¬ t.fl = canon (val t.fl)) := fun h => h gf
    clear gf
    have q0 := x4.c 0
    have q1 := x4.c 1
    have q2 := x4.c 2
    go_wp2_with fail
    ((with_reducible refine (CC.out.of hG hb).mono ?_); rintro e w15 ⟨rfl, hb15⟩)
    clear q0 q1 q2
    replace x4 := x4.below hb15
    replace hb := bto hb hb15
    clear hb15
    clear CC
    cases gg : longB t.vl
    rotate_left
    · have CV := Lib.hid (jDigits (l := t.vl) (by omega))
      have HC := Lib.hid gg
      have f1 : decide (40 < digN t.vl) = true := gg
      generalize digN t.vl = n1 at *
      clear gg
      have q0 := x4.c 0
      have q1 := x4.c 1
      have q2 := x4.c 2
      go_wp2_with fail
      ((with_reducible refine (CV.out.of hG hb).mono ?_); rintro e w16 ⟨rfl, hb16⟩)
      clear q0 q1 q2
      replace x4 := x4.below hb16
      replace hb := bto hb hb16
      clear hb16
      have HV : Hid (pntE ts = 4) := by show _ = _; rw [HE.out, HK.out, HN.out, if_neg HGd.out, if_neg Hgv.out, if_neg Hgf.out, if_pos HC.out]
      clear HK HN HE HI HS
      have q0 := x4.c 0
      have q1 := x4.c 1
      have q2 := x4.c 2
      go_wp2
      go_ret
      exact ⟨reti HV.out.symm, hb⟩
    have CV := Lib.hid (jDigits (l := t.vl) (by omega))
    have HLv : Hid (¬ longB t.vl = true) := by show ¬ _; rw [gg]; decide
    have f1vl : decide (40 < digN t.vl) = false := gg
    obtain ⟨nvl, hnvl⟩ : ∃ nvl, nvl = digN t.vl := ⟨_, rfl⟩
    rw [← hnvl] at CV f1vl
    clear hnvl
    clear gg
    have q0 := x4.c 0
    have q1 := x4.c 1
    have q2 := x4.c 2
    go_wp2_with fail
    ((with_reducible refine (CV.out.of hG hb).mono ?_); rintro e w17 ⟨rfl, hb17⟩)
    clear q0 q1 q2
    replace x4 := x4.below hb17
    replace hb := bto hb hb17
    clear hb17
    clear CV
    cases gg : longB t.fl
    rotate_left
    · have CV := Lib.hid (jDigits (l := t.fl) (by omega))
      have HC := Lib.hid gg
      have f1 : decide (40 < digN t.fl) = true := gg
      generalize digN t.fl = n1 at *
      clear gg
      have q0 := x4.c 0
      have q1 := x4.c 1
      have q2 := x4.c 2
      go_wp2_with fail
      ((with_reducible refine (CV.out.of hG hb).mono ?_); rintro e w18 ⟨rfl, hb18⟩)
      clear q0 q1 q2
      replace x4 := x4.below hb18
      replace hb := bto hb hb18
      clear hb18
      have HV : Hid (pntE ts = 4) := by show _ = _; rw [HE.out, HK.out, HN.out, if_neg HGd.out, if_neg Hgv.out, if_neg Hgf.out, if_neg HLv.out, if_pos HC.out]
      clear HK HN HE HI HS
      have q0 := x4.c 0
      have q1 := x4.c 1
      have q2 := x4.c 2
      go_wp2
      go_ret
      exact ⟨reti HV.out.symm, hb⟩
    have CV := Lib.hid (jDigits (l := t.fl) (by omega))
    have HLf : Hid (¬ longB t.fl = true) := by show ¬ _; rw [gg]; decide
    have f1fl : decide (40 < digN t.fl) = false := gg
    obtain ⟨nfl, hnfl⟩ : ∃ nfl, nfl = digN t.fl := ⟨_, rfl⟩
    rw [← hnfl] at CV f1fl
    clear hnfl
    clear gg
    have q0 := x4.c 0
    have q1 := x4.c 1
    have q2 := x4.c 2
    go_wp2_with fail
    ((with_reducible refine (CV.out.of hG hb).mono ?_); rintro e w19 ⟨rfl, hb19⟩)
    clear q0 q1 q2
    replace x4 := x4.below hb19
    replace hb := bto hb hb19
    clear hb19
    clear CV
    cases k with
    | zero =>
      go_wp2_with fail
      refine wp_region_kept (by kernel_rfl) (by kernel_rfl) ?_
      refine kept_val _ (fun _ => rfl) (fun ρ w hw => by go_simp; first | done | with_reducible rfl) ?_
      simp only [Act.put, List.setIfInBounds_toArray, List.set_cons_zero, List.set_cons_succ, Nat.reduceAdd]
      refine kept_val _ (fun _ => rfl) (fun ρ w hw => by go_simp; first | done | with_reducible rfl) ?_
      simp only [Act.put, List.setIfInBounds_toArray, List.set_cons_zero, List.set_cons_succ, Nat.reduceAdd]
      refine kept_val _ (fun _ => rfl) (fun ρ w hw => by go_simp; first | done | with_reducible rfl) ?_
      simp only [Act.put, List.setIfInBounds_toArray, List.set_cons_zero, List.set_cons_succ, Nat.reduceAdd]
      refine kept_off (fun _ => rfl) ?_
      simp only [Act.put, List.setIfInBounds_toArray, List.set_cons_zero, List.set_cons_succ, Nat.reduceAdd]
      refine kept_off (fun _ => rfl) ?_
      simp only [Act.put, List.setIfInBounds_toArray, List.set_cons_zero, List.set_cons_succ, Nat.reduceAdd]
      refine kept_off (fun _ => rfl) ?_
      simp only [Act.put, List.setIfInBounds_toArray, List.set_cons_zero, List.set_cons_succ, Nat.reduceAdd]
      refine kept_off (fun _ => rfl) ?_
      simp only [Act.put, List.setIfInBounds_toArray, List.set_cons_zero, List.set_cons_succ, Nat.reduceAdd]
      refine kept_off (fun _ => rfl) ?_
      simp only [Act.put, List.setIfInBounds_toArray, List.set_cons_zero, List.set_cons_succ, Nat.reduceAdd]
      refine kept_off (fun _ => rfl) ?_
      simp only [Act.put, List.setIfInBounds_toArray, List.set_cons_zero, List.set_cons_succ, Nat.reduceAdd]
      refine kept_off (fun _ => rfl) ?_
      simp only [Act.put, List.setIfInBounds_toArray, List.set_cons_zero, List.set_cons_succ, Nat.reduceAdd]
      refine kept_off (fun _ => rfl) ?_
      simp only [Act.put, List.setIfInBounds_toArray, List.set_cons_zero, List.set_cons_succ, Nat.reduceAdd]
      refine kept_off (fun _ => rfl) ?_
      simp only [Act.put, List.setIfInBounds_toArray, List.set_cons_zero, List.set_cons_succ, Nat.reduceAdd]
      refine kept_val _ (fun _ => rfl) (fun ρ w hw => by go_simp; first | done | with_reducible rfl) ?_
      simp only [Act.put, List.setIfInBounds_toArray, List.set_cons_zero, List.set_cons_succ, Nat.reduceAdd]
      refine kept_end (fun ρ w20 hF => ?_)
      have hbF := hF.below
      clear hF
      replace x4 := x4.below hbF
      replace hb := bto hb hbF
      clear hbF
      have hcn := cmp_neg (v := val t.vl)
      obtain ⟨c1, hc1⟩ : ∃ c1, cmpZ (val t.vl) 0 = c1 := ⟨_, rfl⟩
      rw [hc1] at hcn
      have CA := Lib.hid (qSign (l := t.vl) (by omega) hc1)
      clear hc1
      by_cases gn : val t.vl < 0
      · have f3 : decide (c1 < 0) = true := decide_eq_true (hcn.1.2 gn)
        have HC := Lib.hid gn
        clear gn hcn
        have q0 := x4.c 0
        have q1 := x4.c 1
        have q2 := x4.c 2
        go_wp2_with fail
        ((with_reducible refine (CA.out.of hG hb).mono ?_); rintro e w20 ⟨rfl, hb20⟩)
        clear q0 q1 q2
        replace x4 := x4.below hb20
        replace hb := bto hb hb20
        clear hb20
        have HV : Hid (pntE ts = 2) := by show _ = _; rw [HE.out, HK.out, HN.out, if_neg HGd.out, if_neg Hgv.out, if_neg Hgf.out, if_neg HLv.out, if_neg HLf.out, if_neg (show ¬ ordB (prevD ts 0) t.day = true from fun h => by cases h), if_pos HC.out]
        clear HK HN HE HI HS
        have q0 := x4.c 0
        have q1 := x4.c 1
        have q2 := x4.c 2
        go_wp2
        go_ret
        exact ⟨reti HV.out.symm, hb⟩
      have f3 : decide (c1 < 0) = false := decide_eq_false (fun h => gn (hcn.1.1 h))
      have HGn := Lib.hid gn
      clear gn hcn
      by_cases gl : 0 + 1 < n
      rotate_left
      · have HV : Hid (pntL none ts = pntL (prevD ts (0 + 1)) (ts.drop (0 + 1))) := by show _ = _; rw [HK.out, HN.out, if_neg HGd.out, if_neg Hgv.out, if_neg Hgf.out, if_neg HLv.out, if_neg HLf.out, if_neg (show ¬ ordB (prevD ts 0) t.day = true from fun h => by cases h), if_neg (show ¬ val t.vl < 0 from by have := HGn.out; omega), if_neg (fun h => gl h.1)]
        have f4 : decide (((0 : Nat) : Int) + 1 < (n : Int)) = false := decide_eq_false (by omega)
        clear HK HN
        have q0 := x4.c 0
        have q1 := x4.c 1
        have q2 := x4.c 2
        go_wp2_with fail
        ((with_reducible refine (CA.out.of hG hb).mono ?_); rintro e w21 ⟨rfl, hb21⟩)
        clear q0 q1 q2
        replace x4 := x4.below hb21
        replace hb := bto hb hb21
        clear hb21
        have q0 := x4.c 0
        have q1 := x4.c 1
        have q2 := x4.c 2
        go_wp2
        go_roundw
        case rel => exact ⟨0 + 1, by omega, by go_num, HV.out, hb⟩
        case measure => simp [intOf]; omega
      have CB := Lib.hid (qAdd (l := t.vl) (l' := t.fl) (by omega) (by omega) rfl)
      have hyl : (canon (val t.vl + val t.fl)).length ≤ 100 := Nat.le_trans (canon_len_le _ 62 (by have h1 := val_lt_of hv40; have h2 := val_lt_of hf40; have h3 := Int.natAbs_add_le (val t.vl) (val t.fl); have h4 : (10 : Nat) ^ 60 + 10 ^ 60 ≤ 10 ^ 62 := (by decide); omega)) (by decide)
      have hcm := cmp_neg (v := val t.vl + val t.fl)
      obtain ⟨c2, hc2⟩ : ∃ c2, cmpZ (val t.vl + val t.fl) 0 = c2 := ⟨_, rfl⟩
      rw [hc2] at hcm
      have CE := Lib.hid (qSign (l := canon (val t.vl + val t.fl)) (by omega) (c := c2) (by rw [val_canon]; exact hc2))
      clear hc2
      by_cases gs : val t.vl + val t.fl ≤ 0
      · have f5 : decide (c2 ≤ 0) = true := decide_eq_true (hcm.2.2 gs)
        have HC := Lib.hid (And.intro gl gs)
        generalize canon (val t.vl + val t.fl) = yy at *
        clear gs hcm
        have q0 := x4.c 0
        have q1 := x4.c 1
        have q2 := x4.c 2
        go_wp2_with fail
        ((with_reducible refine (CA.out.of hG hb).mono ?_); rintro e w22 ⟨rfl, hb22⟩)
        clear q0 q1 q2
        replace x4 := x4.below hb22
        replace hb := bto hb hb22
        clear hb22
        have q0 := x4.c 0
        have q1 := x4.c 1
        have q2 := x4.c 2
        go_wp2_with fail
        ((with_reducible refine (CB.out.of hG hb).mono ?_); rintro e w23 ⟨rfl, hb23⟩)
        clear q0 q1 q2
        replace x4 := x4.below hb23
        replace hb := bto hb hb23
        clear hb23
        have q0 := x4.c 0
        have q1 := x4.c 1
        have q2 := x4.c 2
        go_wp2_with fail
        ((with_reducible refine (CE.out.of hG hb).mono ?_); rintro e w24 ⟨rfl, hb24⟩)
        clear q0 q1 q2
        replace x4 := x4.below hb24
        replace hb := bto hb hb24
        clear hb24
        have HV : Hid (pntE ts = 2) := by show _ = _; rw [HE.out, HK.out, HN.out, if_neg HGd.out, if_neg Hgv.out, if_neg Hgf.out, if_neg HLv.out, if_neg HLf.out, if_neg (show ¬ ordB (prevD ts 0) t.day = true from fun h => by cases h), if_neg (show ¬ val t.vl < 0 from by have := HGn.out; omega), if_pos HC.out]
        clear HK HN HE HI HS
        have q0 := x4.c 0
        have q1 := x4.c 1
        have q2 := x4.c 2
        go_wp2
        go_ret
        exact ⟨reti HV.out.symm, hb⟩
      have HV : Hid (pntL none ts = pntL (prevD ts (0 + 1)) (ts.drop (0 + 1))) := by show _ = _; rw [HK.out, HN.out, if_neg HGd.out, if_neg Hgv.out, if_neg Hgf.out, if_neg HLv.out, if_neg HLf.out, if_neg (show ¬ ordB (prevD ts 0) t.day = true from fun h => by cases h), if_neg (show ¬ val t.vl < 0 from by have := HGn.out; omega), if_neg (fun h => gs h.2)]
      have f5 : decide (c2 ≤ 0) = false := decide_eq_false (fun h => gs (hcm.2.1 h))
      generalize canon (val t.vl + val t.fl) = yy at *
      clear gs hcm HK HN
      have q0 := x4.c 0
      have q1 := x4.c 1
      have q2 := x4.c 2
      go_wp2_with fail
      ((with_reducible refine (CA.out.of hG hb).mono ?_); rintro e w25 ⟨rfl, hb25⟩)
      clear q0 q1 q2
      replace x4 := x4.below hb25
      replace hb := bto hb hb25
      clear hb25
      have q0 := x4.c 0
      have q1 := x4.c 1
      have q2 := x4.c 2
      go_wp2_with fail
      ((with_reducible refine (CB.out.of hG hb).mono ?_); rintro e w26 ⟨rfl, hb26⟩)
      clear q0 q1 q2
      replace x4 := x4.below hb26
      replace hb := bto hb hb26
      clear hb26
      have q0 := x4.c 0
      have q1 := x4.c 1
      have q2 := x4.c 2
      go_wp2_with fail
      ((with_reducible refine (CE.out.of hG hb).mono ?_); rintro e w27 ⟨rfl, hb27⟩)
      clear q0 q1 q2
      replace x4 := x4.below hb27
      replace hb := bto hb hb27
      clear hb27
      have q0 := x4.c 0
      have q1 := x4.c 1
      have q2 := x4.c 2
      go_wp2
      go_roundw
      case rel => exact ⟨0 + 1, by omega, by go_num, HV.out, hb⟩
      case measure => simp [intOf]; omega
    | succ k' =>
      obtain ⟨u, hu⟩ : ∃ u, ts[k']? = some u := ⟨_, List.getElem?_eq_getElem (by omega)⟩
      obtain ⟨b', o', hA', hbs', r0, -, -⟩ := (HI.out.below hb) k' u hu
      obtain ⟨rfl, rfl⟩ : b = b' ∧ o = o' := by injection hA' with hA'; injection hA' with h1 h2; exact ⟨h1, h2⟩
      have hpd : prevD ts (k' + 1) = some u.day := by show (ts[k']?).map (·.day) = _; rw [hu]; rfl
      have HPd := Lib.hid hpd
      have hwr : IntKind.i64.wrap (k' : Int) = (k' : Int) := Go.IntWalk.i64_in _ (by omega)
      have hkn : k' < n := by omega
      clear hu hA' hpd hbs'
      by_cases go : t.day ≤ u.day
      · have f6 : decide (t.day ≤ u.day) = true := decide_eq_true go
        have HB : Hid (ordB (prevD ts (k' + 1)) t.day = true) := by show _ = _; rw [HPd.out]; exact f6
        have hbs2 := blk_lt hbs x4
        go_wp2_with fail
        refine wp_region_kept (by kernel_rfl) (by kernel_rfl) ?_
        refine kept_val _ (fun _ => rfl) (fun ρ w hw => by go_simp; first | done | with_reducible rfl) ?_
        simp only [Act.put, List.setIfInBounds_toArray, List.set_cons_zero, List.set_cons_succ, Nat.reduceAdd]
        refine kept_val (.bool true) (fun _ => rfl) (fun ρ w hw => by go_simp; first | done | omega | (simp; omega)) ?_
        simp only [Act.put, List.setIfInBounds_toArray, List.set_cons_zero, List.set_cons_succ, Nat.reduceAdd]
        refine kept_val _ (fun _ => rfl) (fun ρ w hw => by go_simp; first | done | with_reducible rfl) ?_
        simp only [Act.put, List.setIfInBounds_toArray, List.set_cons_zero, List.set_cons_succ, Nat.reduceAdd]
        refine kept_val _ (fun _ => rfl) (fun ρ w hw => by go_simp; first | done | with_reducible rfl) ?_
        simp only [Act.put, List.setIfInBounds_toArray, List.set_cons_zero, List.set_cons_succ, Nat.reduceAdd]
        refine kept_val _ (fun _ => rfl) (fun ρ w hw => by go_simp; first | done | with_reducible rfl) ?_
        simp only [Act.put, List.setIfInBounds_toArray, List.set_cons_zero, List.set_cons_succ, Nat.reduceAdd]
        refine kept_val _ (fun _ => rfl) (fun ρ w hw => by go_simp; first | done | with_reducible rfl) ?_
        simp only [Act.put, List.setIfInBounds_toArray, List.set_cons_zero, List.set_cons_succ, Nat.reduceAdd]
        refine kept_val _ (fun _ => rfl) (fun ρ w hw => by go_simp; first | done | with_reducible rfl) ?_
        simp only [Act.put, List.setIfInBounds_toArray, List.set_cons_zero, List.set_cons_succ, Nat.reduceAdd]
        refine kept_val _ (fun _ => rfl) (fun ρ w hw => by go_simp; first | done | with_reducible rfl) ?_
        simp only [Act.put, List.setIfInBounds_toArray, List.set_cons_zero, List.set_cons_succ, Nat.reduceAdd]
        refine kept_val _ (fun _ => rfl) (fun ρ w hw => by have q0 := (hw.cell (p := ⟨b, o + k' * 3, none⟩) hbs2).trans r0; go_simp; first | done | with_reducible rfl) ?_
        simp only [Act.put, List.setIfInBounds_toArray, List.set_cons_zero, List.set_cons_succ, Nat.reduceAdd]
        refine kept_val _ (fun _ => rfl) (fun ρ w hw => by go_simp; first | done | with_reducible rfl) ?_
        simp only [Act.put, List.setIfInBounds_toArray, List.set_cons_zero, List.set_cons_succ, Nat.reduceAdd]
        refine kept_val _ (fun _ => rfl) (fun ρ w hw => by have q0 := (x4.below hw).c 0; go_simp; first | done | with_reducible rfl) ?_
        simp only [Act.put, List.setIfInBounds_toArray, List.set_cons_zero, List.set_cons_succ, Nat.reduceAdd]
        refine kept_val _ (fun _ => rfl) (fun ρ w hw => by go_simp; first | done | with_reducible rfl) ?_
        simp only [Act.put, List.setIfInBounds_toArray, List.set_cons_zero, List.set_cons_succ, Nat.reduceAdd]
        refine kept_val _ (fun _ => rfl) (fun ρ w hw => by go_simp; first | done | with_reducible rfl) ?_
        simp only [Act.put, List.setIfInBounds_toArray, List.set_cons_zero, List.set_cons_succ, Nat.reduceAdd]
        refine kept_end (fun ρ w20 hF => ?_)
        have hbF := hF.below
        clear hF
        replace x4 := x4.below hbF
        replace hb := bto hb hbF
        clear hbF
        clear r0 hbs2
        have HV : Hid (pntE ts = 8) := by show _ = _; rw [HE.out, HK.out, HN.out, if_neg HGd.out, if_neg Hgv.out, if_neg Hgf.out, if_neg HLv.out, if_neg HLf.out, if_pos HB.out]
        clear HK HN HE HI HS
        have q0 := x4.c 0
        have q1 := x4.c 1
        have q2 := x4.c 2
        go_wp2
        go_ret
        exact ⟨reti HV.out.symm, hb⟩
      have f6 : decide (t.day ≤ u.day) = false := decide_eq_false go
      have HB : Hid (¬ ordB (prevD ts (k' + 1)) t.day = true) := by show ¬ _; rw [HPd.out]; exact fun h => go (of_decide_eq_true h)
      have hbs2 := blk_lt hbs x4
      go_wp2_with fail
      refine wp_region_kept (by kernel_rfl) (by kernel_rfl) ?_
      refine kept_val _ (fun _ => rfl) (fun ρ w hw => by go_simp; first | done | with_reducible rfl) ?_
      simp only [Act.put, List.setIfInBounds_toArray, List.set_cons_zero, List.set_cons_succ, Nat.reduceAdd]
      refine kept_val (.bool true) (fun _ => rfl) (fun ρ w hw => by go_simp; first | done | omega | (simp; omega)) ?_
      simp only [Act.put, List.setIfInBounds_toArray, List.set_cons_zero, List.set_cons_succ, Nat.reduceAdd]
      refine kept_val _ (fun _ => rfl) (fun ρ w hw => by go_simp; first | done | with_reducible rfl) ?_
      simp only [Act.put, List.setIfInBounds_toArray, List.set_cons_zero, List.set_cons_succ, Nat.reduceAdd]
      refine kept_val _ (fun _ => rfl) (fun ρ w hw => by go_simp; first | done | with_reducible rfl) ?_
      simp only [Act.put, List.setIfInBounds_toArray, List.set_cons_zero, List.set_cons_succ, Nat.reduceAdd]
      refine kept_val _ (fun _ => rfl) (fun ρ w hw => by go_simp; first | done | with_reducible rfl) ?_
      simp only [Act.put, List.setIfInBounds_toArray, List.set_cons_zero, List.set_cons_succ, Nat.reduceAdd]
      refine kept_val _ (fun _ => rfl) (fun ρ w hw => by go_simp; first | done | with_reducible rfl) ?_
      simp only [Act.put, List.setIfInBounds_toArray, List.set_cons_zero, List.set_cons_succ, Nat.reduceAdd]
      refine kept_val _ (fun _ => rfl) (fun ρ w hw => by go_simp; first | done | with_reducible rfl) ?_
      simp only [Act.put, List.setIfInBounds_toArray, List.set_cons_zero, List.set_cons_succ, Nat.reduceAdd]
      refine kept_val _ (fun _ => rfl) (fun ρ w hw => by go_simp; first | done | with_reducible rfl) ?_
      simp only [Act.put, List.setIfInBounds_toArray, List.set_cons_zero, List.set_cons_succ, Nat.reduceAdd]
      refine kept_val _ (fun _ => rfl) (fun ρ w hw => by have q0 := (hw.cell (p := ⟨b, o + k' * 3, none⟩) hbs2).trans r0; go_simp; first | done | with_reducible rfl) ?_
      simp only [Act.put, List.setIfInBounds_toArray, List.set_cons_zero, List.set_cons_succ, Nat.reduceAdd]
      refine kept_val _ (fun _ => rfl) (fun ρ w hw => by go_simp; first | done | with_reducible rfl) ?_
      simp only [Act.put, List.setIfInBounds_toArray, List.set_cons_zero, List.set_cons_succ, Nat.reduceAdd]
      refine kept_val _ (fun _ => rfl) (fun ρ w hw => by have q0 := (x4.below hw).c 0; go_simp; first | done | with_reducible rfl) ?_
      simp only [Act.put, List.setIfInBounds_toArray, List.set_cons_zero, List.set_cons_succ, Nat.reduceAdd]
      refine kept_val _ (fun _ => rfl) (fun ρ w hw => by go_simp; first | done | with_reducible rfl) ?_
      simp only [Act.put, List.setIfInBounds_toArray, List.set_cons_zero, List.set_cons_succ, Nat.reduceAdd]
      refine kept_val _ (fun _ => rfl) (fun ρ w hw => by go_simp; first | done | with_reducible rfl) ?_
      simp only [Act.put, List.setIfInBounds_toArray, List.set_cons_zero, List.set_cons_succ, Nat.reduceAdd]
      refine kept_end (fun ρ w20 hF => ?_)
      have hbF := hF.below
      clear hF
      replace x4 := x4.below hbF
      replace hb := bto hb hbF
      clear hbF
      clear r0 hbs2
      have hcn := cmp_neg (v := val t.vl)
      obtain ⟨c1, hc1⟩ : ∃ c1, cmpZ (val t.vl) 0 = c1 := ⟨_, rfl⟩
      rw [hc1] at hcn
      have CA := Lib.hid (qSign (l := t.vl) (by omega) hc1)
      clear hc1
      by_cases gn : val t.vl < 0
      · have f3 : decide (c1 < 0) = true := decide_eq_true (hcn.1.2 gn)
        have HC := Lib.hid gn
        clear gn hcn
        have q0 := x4.c 0
        have q1 := x4.c 1
        have q2 := x4.c 2
        go_wp2_with fail
        ((with_reducible refine (CA.out.of hG hb).mono ?_); rintro e w28 ⟨rfl, hb28⟩)
        clear q0 q1 q2
        replace x4 := x4.below hb28
        replace hb := bto hb hb28
        clear hb28
        have HV : Hid (pntE ts = 2) := by show _ = _; rw [HE.out, HK.out, HN.out, if_neg HGd.out, if_neg Hgv.out, if_neg Hgf.out, if_neg HLv.out, if_neg HLf.out, if_neg HB.out, if_pos HC.out]
        clear HK HN HE HI HS
        have q0 := x4.c 0
        have q1 := x4.c 1
        have q2 := x4.c 2
        go_wp2
        go_ret
        exact ⟨reti HV.out.symm, hb⟩
      have f3 : decide (c1 < 0) = false := decide_eq_false (fun h => gn (hcn.1.1 h))
      have HGn := Lib.hid gn
      clear gn hcn
      by_cases gl : (k' + 1) + 1 < n
      rotate_left
      · have HV : Hid (pntL none ts = pntL (prevD ts ((k' + 1) + 1)) (ts.drop ((k' + 1) + 1))) := by show _ = _; rw [HK.out, HN.out, if_neg HGd.out, if_neg Hgv.out, if_neg Hgf.out, if_neg HLv.out, if_neg HLf.out, if_neg HB.out, if_neg (show ¬ val t.vl < 0 from by have := HGn.out; omega), if_neg (fun h => gl h.1)]
        have f4 : decide ((((k' + 1) : Nat) : Int) + 1 < (n : Int)) = false := decide_eq_false (by omega)
        clear HK HN
        have q0 := x4.c 0
        have q1 := x4.c 1
        have q2 := x4.c 2
        go_wp2_with fail
        ((with_reducible refine (CA.out.of hG hb).mono ?_); rintro e w29 ⟨rfl, hb29⟩)
        clear q0 q1 q2
        replace x4 := x4.below hb29
        replace hb := bto hb hb29
        clear hb29
        have q0 := x4.c 0
        have q1 := x4.c 1
        have q2 := x4.c 2
        go_wp2
        go_roundw
        case rel => exact ⟨(k' + 1) + 1, by omega, by go_num, HV.out, hb⟩
        case measure => simp [intOf]; omega
      have CB := Lib.hid (qAdd (l := t.vl) (l' := t.fl) (by omega) (by omega) rfl)
      have hyl : (canon (val t.vl + val t.fl)).length ≤ 100 := Nat.le_trans (canon_len_le _ 62 (by have h1 := val_lt_of hv40; have h2 := val_lt_of hf40; have h3 := Int.natAbs_add_le (val t.vl) (val t.fl); have h4 : (10 : Nat) ^ 60 + 10 ^ 60 ≤ 10 ^ 62 := (by decide); omega)) (by decide)
      have hcm := cmp_neg (v := val t.vl + val t.fl)
      obtain ⟨c2, hc2⟩ : ∃ c2, cmpZ (val t.vl + val t.fl) 0 = c2 := ⟨_, rfl⟩
      rw [hc2] at hcm
      have CE := Lib.hid (qSign (l := canon (val t.vl + val t.fl)) (by omega) (c := c2) (by rw [val_canon]; exact hc2))
      clear hc2
      by_cases gs : val t.vl + val t.fl ≤ 0
      · have f5 : decide (c2 ≤ 0) = true := decide_eq_true (hcm.2.2 gs)
        have HC := Lib.hid (And.intro gl gs)
        generalize canon (val t.vl + val t.fl) = yy at *
        clear gs hcm
        have q0 := x4.c 0
        have q1 := x4.c 1
        have q2 := x4.c 2
        go_wp2_with fail
        ((with_reducible refine (CA.out.of hG hb).mono ?_); rintro e w30 ⟨rfl, hb30⟩)
        clear q0 q1 q2
        replace x4 := x4.below hb30
        replace hb := bto hb hb30
        clear hb30
        have q0 := x4.c 0
        have q1 := x4.c 1
        have q2 := x4.c 2
        go_wp2_with fail
        ((with_reducible refine (CB.out.of hG hb).mono ?_); rintro e w31 ⟨rfl, hb31⟩)
        clear q0 q1 q2
        replace x4 := x4.below hb31
        replace hb := bto hb hb31
        clear hb31
        have q0 := x4.c 0
        have q1 := x4.c 1
        have q2 := x4.c 2
        go_wp2_with fail
        ((with_reducible refine (CE.out.of hG hb).mono ?_); rintro e w32 ⟨rfl, hb32⟩)
        clear q0 q1 q2
        replace x4 := x4.below hb32
        replace hb := bto hb hb32
        clear hb32
        have HV : Hid (pntE ts = 2) := by show _ = _; rw [HE.out, HK.out, HN.out, if_neg HGd.out, if_neg Hgv.out, if_neg Hgf.out, if_neg HLv.out, if_neg HLf.out, if_neg HB.out, if_neg (show ¬ val t.vl < 0 from by have := HGn.out; omega), if_pos HC.out]
        clear HK HN HE HI HS
        have q0 := x4.c 0
        have q1 := x4.c 1
        have q2 := x4.c 2
        go_wp2
        go_ret
        exact ⟨reti HV.out.symm, hb⟩
      have HV : Hid (pntL none ts = pntL (prevD ts ((k' + 1) + 1)) (ts.drop ((k' + 1) + 1))) := by show _ = _; rw [HK.out, HN.out, if_neg HGd.out, if_neg Hgv.out, if_neg Hgf.out, if_neg HLv.out, if_neg HLf.out, if_neg HB.out, if_neg (show ¬ val t.vl < 0 from by have := HGn.out; omega), if_neg (fun h => gs h.2)]
      have f5 : decide (c2 ≤ 0) = false := decide_eq_false (fun h => gs (hcm.2.1 h))
      generalize canon (val t.vl + val t.fl) = yy at *
      clear gs hcm HK HN
      have q0 := x4.c 0
      have q1 := x4.c 1
      have q2 := x4.c 2
      go_wp2_with fail
      ((with_reducible refine (CA.out.of hG hb).mono ?_); rintro e w33 ⟨rfl, hb33⟩)
      clear q0 q1 q2
      replace x4 := x4.below hb33
      replace hb := bto hb hb33
      clear hb33
      have q0 := x4.c 0
      have q1 := x4.c 1
      have q2 := x4.c 2
      go_wp2_with fail
      ((with_reducible refine (CB.out.of hG hb).mono ?_); rintro e w34 ⟨rfl, hb34⟩)
      clear q0 q1 q2
      replace x4 := x4.below hb34
      replace hb := bto hb hb34
      clear hb34
      have q0 := x4.c 0
      have q1 := x4.c 1
      have q2 := x4.c 2
      go_wp2_with fail
      ((with_reducible refine (CE.out.of hG hb).mono ?_); rintro e w35 ⟨rfl, hb35⟩)
      clear q0 q1 q2
      replace x4 := x4.below hb35
      replace hb := bto hb hb35
      clear hb35
      have q0 := x4.c 0
      have q1 := x4.c 1
      have q2 := x4.c 2
      go_wp2
      go_roundw
      case rel => exact ⟨(k' + 1) + 1, by omega, by go_num, HV.out, hb⟩
      case measure => simp [intOf]; omega
end Go.Proofs.YtmjglcgdcclinaaGreatDoor
