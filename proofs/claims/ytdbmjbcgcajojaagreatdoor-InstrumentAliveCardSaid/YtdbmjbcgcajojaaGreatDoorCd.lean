/- Cd: rff rfg -/
import Derived.Test.YtdbmjbcgcajojaaGreatDoorCc
import Derived.Test.YtdbmjbcgcajojaaGreatDoorBe
/- trancheref02: Parse. -/
namespace Go.Proofs.YtdbmjbcgcajojaaGreatDoor
open Go.RowKit Num
/-- where the first slash stands, or the end -/
def at47 (s : List UInt8) : Nat := (s.takeWhile (fun c => c.toNat != 47)).length
theorem at47_le (s : List UInt8) : at47 s ≤ s.length := (List.takeWhile_sublist _).length_le
theorem at47_drop {s : List UInt8} {k : Nat} {x : UInt8} (h : s[k]? = some x) : at47 (s.drop k) = if (x.toNat : Int) = 47 then 0 else 1 + at47 (s.drop (k + 1)) := by
  have hk := (List.getElem?_eq_some_iff.1 h).1
  have hx := (List.getElem?_eq_some_iff.1 h).2
  rw [List.drop_eq_getElem_cons hk, hx]
  unfold at47
  by_cases h1 : x.toNat = 47
  · rw [if_pos (by omega), List.takeWhile_cons_of_neg (by simp [h1])]; rfl
  · rw [if_neg (by omega), List.takeWhile_cons_of_pos (by simpa using h1), List.length_cons, Nat.add_comm]
theorem at47_cut (s : List UInt8) : Lib.cut s [47] = (s.take (at47 s), if at47 s < s.length then s.drop (at47 s + 1) else [], decide (at47 s < s.length)) := by
  have e := List.takeWhile_append_dropWhile (p := fun c : UInt8 => c.toNat != 47) (l := s)
  have hn : (47 : UInt8) ∉ s.takeWhile (fun c => c.toNat != 47) := fun h => by
    have h0 := List.all_takeWhile (p := fun c : UInt8 => c.toNat != 47) (l := s)
    have h1 := List.all_eq_true.1 h0 47 h
    exact absurd h1 (by decide)
  unfold at47
  generalize ha : s.takeWhile (fun c => c.toNat != 47) = a at *
  cases hd : s.dropWhile (fun c => c.toNat != 47) with
  | nil =>
    rw [hd, List.append_nil] at e
    subst e
    rw [cut47_none hn, if_neg (by omega), List.take_length, decide_eq_false (by omega)]
  | cons x b =>
    have hx : x = 47 := by
      have h1 := List.head_dropWhile_not (p := fun c : UInt8 => c.toNat != 47) (l := s) (by rw [hd]; simp)
      simp only [hd, List.head_cons] at h1
      exact UInt8.toNat_inj.1 (by simpa using h1)
    subst hx
    rw [hd] at e
    rw [← e, cut47_at b hn, if_pos (by simp), decide_eq_true (by simp)]
    simp
theorem printQ_below {s : List UInt8} {q : Rat} (h : printQ q = s) (hs : s.length ≤ 65536) : val (parseI (belowOf s)).1 = (q.den : Int) := by
  subst h
  by_cases hd : q.den = 1
  · have e : printQ q = printZ q.num := by unfold printQ; rw [if_pos hd]
    have hc := cut47_none (no47_printZ q.num)
    unfold belowOf; rw [e, hc, hd]; exact (by decide : val (parseI [49]).1 = ((1 : Nat) : Int))
  · have e : printQ q = printZ q.num ++ 47 :: printZ (q.den : Int) := by unfold printQ; rw [if_neg hd]
    have hl : (printZ q.num).length + ((printZ (q.den : Int)).length + 1) ≤ 65536 := by rw [e] at hs; simpa using hs
    have hc := cut47_at (printZ (q.den : Int)) (no47_printZ q.num)
    unfold belowOf; rw [e, hc]
    show val (parseI (printZ (q.den : Int))).1 = _
    rw [parseI_printZ (by omega), val_canon]
/-- what the reference's Parse returns -/
def parseV (e1 e2 e3 : Int) (u v : Value) (same : Bool) : Value :=
  if e2 = 0 ∧ e1 = 0 ∧ e3 = 0 ∧ same = true then .tuple #[.agg #[u, v], .int .i64 0] else .tuple #[.agg #[.string ⟨#[]⟩, .string ⟨#[]⟩], .int .i64 3]
set_option maxHeartbeats 4000000 in
set_option maxRecDepth 100000 in
theorem sParse_gen (s n d N D t : List UInt8) (e1 e2 e3 : Int) (hs : s.length ≤ 65536)
    (cP1 : Ret 104 #[.string ⟨(s.take (at47 s)).toArray⟩] (.tuple #[.string ⟨n.toArray⟩, .int .i64 e1]))
    (cP2 : at47 s < s.length → Ret 104 #[.string ⟨(s.drop (at47 s + 1)).toArray⟩] (.tuple #[.string ⟨d.toArray⟩, .int .i64 e2])) (cP3 : ¬ at47 s < s.length → d = canon 1 ∧ e2 = 0)
    (cN : Ret 18 #[.string ⟨n.toArray⟩, .string ⟨d.toArray⟩] (.tuple #[.agg #[.string ⟨N.toArray⟩, .string ⟨D.toArray⟩], .int .i64 e3]))
    (cR : Ret 43 #[(Value.agg #[Value.string ⟨List.toArray N⟩, Value.string ⟨List.toArray D⟩])] (.string ⟨t.toArray⟩)) :
    Ret 41 #[.string ⟨s.toArray⟩] (parseV e1 e2 e3 (.string ⟨N.toArray⟩) (.string ⟨D.toArray⟩) (t == s)) := fun w hG => by
  have c1 := sOne
  have HA := at47_le s
  have HD := Lib.hid (fun k (x : UInt8) (h : s[k]? = some x) => at47_drop h)
  have HN := Lib.hid cN
  have HR := Lib.hid cR
  have HO := Lib.hid c1
  have H1 := Lib.hid cP1
  have H2 := Lib.hid cP2
  have H3 := Lib.hid cP3
  clear cP1 cP2 cP3 cN cR c1
  have k0 : decide (65536 < s.length) = false := decide_eq_false (by omega)
  have k00 : ¬ 65536 < s.length := by omega
  have hb := below_alloc w (.cells #[.string ⟨#[]⟩, .string ⟨#[]⟩] 24)
  have x2 := FBox.new w (.string ⟨#[]⟩) (.string ⟨#[]⟩) 24
  go_enter Tryz.func41, Tryz.ntmps41
  go_wp2_with fail
  clear k0 k00
  go_loop [4, 5] (fun av iv => ∃ k : Nat, k ≤ s.length ∧ iv = .int .i64 ((k : Int) - 1) ∧ av = .int .i64 ((k + at47 (s.drop k) : Nat) : Int)) (fun _ iv => (intOf iv + 1).toNat)
  case atStart => exact ⟨s.length, Nat.le_refl _, by first | rfl | go_num, by rw [List.drop_length]; rfl⟩
  case round =>
    obtain ⟨k, hk, rfl, rfl⟩ := hrel
    rcases Nat.eq_zero_or_pos k with h0 | h0
    · subst h0
      rw [List.drop_zero]
      generalize at47 s = a at *
      by_cases hat : a < s.length
      · have P2 := Lib.hid (H2.out hat)
        have ka : decide (a < s.length) = true := decide_eq_true hat
        clear H2 H3 HD
        have kx : ((⟨s.toArray⟩ : ByteArray).extract 0 a) = ⟨(s.take a).toArray⟩ := by rw [extract_list]; simp
        have ky : ((⟨s.toArray⟩ : ByteArray).extract (a + 1) s.length) = ⟨(s.drop (a + 1)).toArray⟩ := by rw [extract_list]; simp
        go_wp2_with fail
        ((with_reducible refine (H1.out.of hG hb).mono ?_); rintro e w1 ⟨rfl, hc⟩)
        replace hb := bto hb hc
        replace x2 := x2.below hc
        clear hc
        go_wp2_with fail
        ((with_reducible refine (HO.out.of hG hb).mono ?_); rintro e w1 ⟨rfl, hc⟩)
        replace hb := bto hb hc
        replace x2 := x2.below hc
        clear hc
        go_wp2_with fail
        ((with_reducible refine (P2.out.of hG hb).mono ?_); rintro e w1 ⟨rfl, hc⟩)
        replace hb := bto hb hc
        replace x2 := x2.below hc
        clear hc
        clear kx ky
        by_cases he2 : e2 = 0
        · have be2 : (e2 == 0) = true := by rw [beq_iff_eq]; exact he2
          have bne2 := bne_of be2
          by_cases he1 : e1 = 0
          · have be1 : (e1 == 0) = true := by rw [beq_iff_eq]; exact he1
            have bne1 := bne_of be1
            by_cases he3 : e3 = 0
            · have be3 : (e3 == 0) = true := by rw [beq_iff_eq]; exact he3
              have bne3 := bne_of be3
              have HE := Lib.hid (And.intro he2 (And.intro he1 he3))
              clear he1 he2 he3
              go_wp2_with fail
              ((with_reducible refine (HN.out.of hG hb).mono ?_); rintro e w1 ⟨rfl, hc⟩)
              replace hb := bto hb hc
              replace x2 := x2.below hc
              clear hc
              replace x2 := x2.below (below_alloc w1 (.cells #[.string ⟨N.toArray⟩, .string ⟨D.toArray⟩] 24))
              replace hb := bto hb (below_alloc w1 (.cells #[.string ⟨N.toArray⟩, .string ⟨D.toArray⟩] 24))
              have x10 := FBox.new w1 (.string ⟨N.toArray⟩) (.string ⟨D.toArray⟩) 24
              have g0 := x10.c0
              have g1 := x10.c1
              go_wp2_with fail
              ((with_reducible refine (HR.out.of hG hb).mono ?_); rintro e w2 ⟨rfl, hc⟩)
              replace hb := bto hb hc
              replace x2 := x2.below hc
              replace x10 := x10.below hc
              clear hc g0 g1
              by_cases hts : t = s
              · have b4 : (t == s) = true := by rw [beq_iff_eq]; exact hts
                have bn4 := bnel_of b4
                have HV : Hid (Ending.returned (.tuple #[.agg #[.string ⟨N.toArray⟩, .string ⟨D.toArray⟩], .int .i64 0]) = .returned (parseV e1 e2 e3 (.string ⟨N.toArray⟩) (.string ⟨D.toArray⟩) (t == s))) := by show _ = _; unfold parseV; rw [if_pos ⟨HE.out.1, HE.out.2.1, HE.out.2.2, b4⟩]
                clear hts
                have g0 := x10.c0
                have g1 := x10.c1
                have q4 := x2.c0
                have q5 := x2.c1
                have q90 := x2.f0
                have q91 := x2.f1
                go_wp2
                have hy := x2.set (.string ⟨N.toArray⟩) (.string ⟨D.toArray⟩)
                have d0 := hy.c0
                have d1 := hy.c1
                refine bodyPost_ret (v := .tuple #[.agg #[.string ⟨N.toArray⟩, .string ⟨D.toArray⟩], .int .i64 0]) (by simp [results, Tryz.results41, go_sem, d0, d1]) rfl ?_
                exact ⟨HV.out, below_set2 hb (Nat.le_refl _) _ _⟩
              · have b4 : (t == s) = false := by rw [beq_eq_false_iff_ne]; exact hts
                have bn4 := bnel_of' b4
                have HV : Hid (Ending.returned (.tuple #[.agg #[.string ⟨#[]⟩, .string ⟨#[]⟩], .int .i64 3]) = .returned (parseV e1 e2 e3 (.string ⟨N.toArray⟩) (.string ⟨D.toArray⟩) (t == s))) := by show _ = _; unfold parseV; rw [if_neg (by intro h; rw [b4] at h; exact absurd h.2.2.2 (by decide))]
                clear hts
                have q4 := x2.c0
                have q5 := x2.c1
                have q90 := x2.f0
                have q91 := x2.f1
                go_wp2
                have hy := x2.set (.string ⟨#[]⟩) (.string ⟨#[]⟩)
                have d0 := hy.c0
                have d1 := hy.c1
                refine bodyPost_ret (v := .tuple #[.agg #[.string ⟨#[]⟩, .string ⟨#[]⟩], .int .i64 3]) (by simp [results, Tryz.results41, go_sem, d0, d1]) rfl ?_
                exact ⟨HV.out, below_set2 hb (Nat.le_refl _) _ _⟩
            · have be3 : (e3 == 0) = false := by rw [beq_eq_false_iff_ne]; exact he3
              have bne3 := bne_of' be3
              have HV : Hid (Ending.returned (.tuple #[.agg #[.string ⟨#[]⟩, .string ⟨#[]⟩], .int .i64 3]) = .returned (parseV e1 e2 e3 (.string ⟨N.toArray⟩) (.string ⟨D.toArray⟩) (t == s))) := by show _ = _; unfold parseV; rw [if_neg (by intro h; first | exact absurd h.1 he3 | exact absurd h.2.1 he3 | exact absurd h.2.2.1 he3)]
              clear he3
              go_wp2_with fail
              ((with_reducible refine (HN.out.of hG hb).mono ?_); rintro e w1 ⟨rfl, hc⟩)
              replace hb := bto hb hc
              replace x2 := x2.below hc
              clear hc
              replace x2 := x2.below (below_alloc w1 (.cells #[.string ⟨N.toArray⟩, .string ⟨D.toArray⟩] 24))
              replace hb := bto hb (below_alloc w1 (.cells #[.string ⟨N.toArray⟩, .string ⟨D.toArray⟩] 24))
              have x10 := FBox.new w1 (.string ⟨N.toArray⟩) (.string ⟨D.toArray⟩) 24
              have q4 := x2.c0
              have q5 := x2.c1
              have q90 := x2.f0
              have q91 := x2.f1
              go_wp2
              have hy := x2.set (.string ⟨#[]⟩) (.string ⟨#[]⟩)
              have d0 := hy.c0
              have d1 := hy.c1
              refine bodyPost_ret (v := .tuple #[.agg #[.string ⟨#[]⟩, .string ⟨#[]⟩], .int .i64 3]) (by simp [results, Tryz.results41, go_sem, d0, d1]) rfl ?_
              exact ⟨HV.out, below_set2 hb (Nat.le_refl _) _ _⟩
          · have be1 : (e1 == 0) = false := by rw [beq_eq_false_iff_ne]; exact he1
            have bne1 := bne_of' be1
            have HV : Hid (Ending.returned (.tuple #[.agg #[.string ⟨#[]⟩, .string ⟨#[]⟩], .int .i64 3]) = .returned (parseV e1 e2 e3 (.string ⟨N.toArray⟩) (.string ⟨D.toArray⟩) (t == s))) := by show _ = _; unfold parseV; rw [if_neg (by intro h; first | exact absurd h.1 he1 | exact absurd h.2.1 he1 | exact absurd h.2.2.1 he1)]
            clear he1
            have q4 := x2.c0
            have q5 := x2.c1
            have q90 := x2.f0
            have q91 := x2.f1
            go_wp2
            have hy := x2.set (.string ⟨#[]⟩) (.string ⟨#[]⟩)
            have d0 := hy.c0
            have d1 := hy.c1
            refine bodyPost_ret (v := .tuple #[.agg #[.string ⟨#[]⟩, .string ⟨#[]⟩], .int .i64 3]) (by simp [results, Tryz.results41, go_sem, d0, d1]) rfl ?_
            exact ⟨HV.out, below_set2 hb (Nat.le_refl _) _ _⟩
        · have be2 : (e2 == 0) = false := by rw [beq_eq_false_iff_ne]; exact he2
          have bne2 := bne_of' be2
          have HV : Hid (Ending.returned (.tuple #[.agg #[.string ⟨#[]⟩, .string ⟨#[]⟩], .int .i64 3]) = .returned (parseV e1 e2 e3 (.string ⟨N.toArray⟩) (.string ⟨D.toArray⟩) (t == s))) := by show _ = _; unfold parseV; rw [if_neg (by intro h; first | exact absurd h.1 he2 | exact absurd h.2.1 he2 | exact absurd h.2.2.1 he2)]
          clear he2
          have q4 := x2.c0
          have q5 := x2.c1
          have q90 := x2.f0
          have q91 := x2.f1
          go_wp2
          have hy := x2.set (.string ⟨#[]⟩) (.string ⟨#[]⟩)
          have d0 := hy.c0
          have d1 := hy.c1
          refine bodyPost_ret (v := .tuple #[.agg #[.string ⟨#[]⟩, .string ⟨#[]⟩], .int .i64 3]) (by simp [results, Tryz.results41, go_sem, d0, d1]) rfl ?_
          exact ⟨HV.out, below_set2 hb (Nat.le_refl _) _ _⟩
      · obtain ⟨rfl, he2⟩ := H3.out hat
        have ka : decide (a < s.length) = false := decide_eq_false hat
        clear H2 H3 HD
        have kx : ((⟨s.toArray⟩ : ByteArray).extract 0 a) = ⟨(s.take a).toArray⟩ := by rw [extract_list]; simp
        generalize canon 1 = o at *
        go_wp2_with fail
        ((with_reducible refine (H1.out.of hG hb).mono ?_); rintro e w1 ⟨rfl, hc⟩)
        replace hb := bto hb hc
        replace x2 := x2.below hc
        clear hc
        go_wp2_with fail
        ((with_reducible refine (HO.out.of hG hb).mono ?_); rintro e w1 ⟨rfl, hc⟩)
        replace hb := bto hb hc
        replace x2 := x2.below hc
        clear hc
        clear kx
        by_cases he1 : e1 = 0
        · have be1 : (e1 == 0) = true := by rw [beq_iff_eq]; exact he1
          have bne1 := bne_of be1
          by_cases he3 : e3 = 0
          · have be3 : (e3 == 0) = true := by rw [beq_iff_eq]; exact he3
            have bne3 := bne_of be3
            have HE := Lib.hid (And.intro he2 (And.intro he1 he3))
            clear he1 he2 he3
            go_wp2_with fail
            ((with_reducible refine (HN.out.of hG hb).mono ?_); rintro e w1 ⟨rfl, hc⟩)
            replace hb := bto hb hc
            replace x2 := x2.below hc
            clear hc
            replace x2 := x2.below (below_alloc w1 (.cells #[.string ⟨N.toArray⟩, .string ⟨D.toArray⟩] 24))
            replace hb := bto hb (below_alloc w1 (.cells #[.string ⟨N.toArray⟩, .string ⟨D.toArray⟩] 24))
            have x10 := FBox.new w1 (.string ⟨N.toArray⟩) (.string ⟨D.toArray⟩) 24
            have g0 := x10.c0
            have g1 := x10.c1
            go_wp2_with fail
            ((with_reducible refine (HR.out.of hG hb).mono ?_); rintro e w2 ⟨rfl, hc⟩)
            replace hb := bto hb hc
            replace x2 := x2.below hc
            replace x10 := x10.below hc
            clear hc g0 g1
            by_cases hts : t = s
            · have b4 : (t == s) = true := by rw [beq_iff_eq]; exact hts
              have bn4 := bnel_of b4
              have HV : Hid (Ending.returned (.tuple #[.agg #[.string ⟨N.toArray⟩, .string ⟨D.toArray⟩], .int .i64 0]) = .returned (parseV e1 e2 e3 (.string ⟨N.toArray⟩) (.string ⟨D.toArray⟩) (t == s))) := by show _ = _; unfold parseV; rw [if_pos ⟨HE.out.1, HE.out.2.1, HE.out.2.2, b4⟩]
              clear hts
              have g0 := x10.c0
              have g1 := x10.c1
              have q4 := x2.c0
              have q5 := x2.c1
              have q90 := x2.f0
              have q91 := x2.f1
              go_wp2
              have hy := x2.set (.string ⟨N.toArray⟩) (.string ⟨D.toArray⟩)
              have d0 := hy.c0
              have d1 := hy.c1
              refine bodyPost_ret (v := .tuple #[.agg #[.string ⟨N.toArray⟩, .string ⟨D.toArray⟩], .int .i64 0]) (by simp [results, Tryz.results41, go_sem, d0, d1]) rfl ?_
              exact ⟨HV.out, below_set2 hb (Nat.le_refl _) _ _⟩
            · have b4 : (t == s) = false := by rw [beq_eq_false_iff_ne]; exact hts
              have bn4 := bnel_of' b4
              have HV : Hid (Ending.returned (.tuple #[.agg #[.string ⟨#[]⟩, .string ⟨#[]⟩], .int .i64 3]) = .returned (parseV e1 e2 e3 (.string ⟨N.toArray⟩) (.string ⟨D.toArray⟩) (t == s))) := by show _ = _; unfold parseV; rw [if_neg (by intro h; rw [b4] at h; exact absurd h.2.2.2 (by decide))]
              clear hts
              have q4 := x2.c0
              have q5 := x2.c1
              have q90 := x2.f0
              have q91 := x2.f1
              go_wp2
              have hy := x2.set (.string ⟨#[]⟩) (.string ⟨#[]⟩)
              have d0 := hy.c0
              have d1 := hy.c1
              refine bodyPost_ret (v := .tuple #[.agg #[.string ⟨#[]⟩, .string ⟨#[]⟩], .int .i64 3]) (by simp [results, Tryz.results41, go_sem, d0, d1]) rfl ?_
              exact ⟨HV.out, below_set2 hb (Nat.le_refl _) _ _⟩
          · have be3 : (e3 == 0) = false := by rw [beq_eq_false_iff_ne]; exact he3
            have bne3 := bne_of' be3
            have HV : Hid (Ending.returned (.tuple #[.agg #[.string ⟨#[]⟩, .string ⟨#[]⟩], .int .i64 3]) = .returned (parseV e1 e2 e3 (.string ⟨N.toArray⟩) (.string ⟨D.toArray⟩) (t == s))) := by show _ = _; unfold parseV; rw [if_neg (by intro h; first | exact absurd h.1 he3 | exact absurd h.2.1 he3 | exact absurd h.2.2.1 he3)]
            clear he3
            go_wp2_with fail
            ((with_reducible refine (HN.out.of hG hb).mono ?_); rintro e w1 ⟨rfl, hc⟩)
            replace hb := bto hb hc
            replace x2 := x2.below hc
            clear hc
            replace x2 := x2.below (below_alloc w1 (.cells #[.string ⟨N.toArray⟩, .string ⟨D.toArray⟩] 24))
            replace hb := bto hb (below_alloc w1 (.cells #[.string ⟨N.toArray⟩, .string ⟨D.toArray⟩] 24))
            have x10 := FBox.new w1 (.string ⟨N.toArray⟩) (.string ⟨D.toArray⟩) 24
            have q4 := x2.c0
            have q5 := x2.c1
            have q90 := x2.f0
            have q91 := x2.f1
            go_wp2
            have hy := x2.set (.string ⟨#[]⟩) (.string ⟨#[]⟩)
            have d0 := hy.c0
            have d1 := hy.c1
            refine bodyPost_ret (v := .tuple #[.agg #[.string ⟨#[]⟩, .string ⟨#[]⟩], .int .i64 3]) (by simp [results, Tryz.results41, go_sem, d0, d1]) rfl ?_
            exact ⟨HV.out, below_set2 hb (Nat.le_refl _) _ _⟩
        · have be1 : (e1 == 0) = false := by rw [beq_eq_false_iff_ne]; exact he1
          have bne1 := bne_of' be1
          have HV : Hid (Ending.returned (.tuple #[.agg #[.string ⟨#[]⟩, .string ⟨#[]⟩], .int .i64 3]) = .returned (parseV e1 e2 e3 (.string ⟨N.toArray⟩) (.string ⟨D.toArray⟩) (t == s))) := by show _ = _; unfold parseV; rw [if_neg (by intro h; first | exact absurd h.1 he1 | exact absurd h.2.1 he1 | exact absurd h.2.2.1 he1)]
          clear he1
          have q4 := x2.c0
          have q5 := x2.c1
          have q90 := x2.f0
          have q91 := x2.f1
          go_wp2
          have hy := x2.set (.string ⟨#[]⟩) (.string ⟨#[]⟩)
          have d0 := hy.c0
          have d1 := hy.c1
          refine bodyPost_ret (v := .tuple #[.agg #[.string ⟨#[]⟩, .string ⟨#[]⟩], .int .i64 3]) (by simp [results, Tryz.results41, go_sem, d0, d1]) rfl ?_
          exact ⟨HV.out, below_set2 hb (Nat.le_refl _) _ _⟩
    · have hlt' : k - 1 < (⟨s.toArray⟩ : ByteArray).size := by show k - 1 < s.toArray.size; simp; omega
      obtain ⟨x, hx⟩ : ∃ x, x = (⟨s.toArray⟩ : ByteArray)[k - 1] := ⟨_, rfl⟩
      have hxl : s[k - 1]? = some x := by rw [hx]; simp [show k - 1 < s.length by omega]; rfl
      have hd := HD.out (k - 1) x hxl
      rw [show k - 1 + 1 = k by omega] at hd
      have HX := Lib.hid hd
      have hx2 : ∀ hp, (⟨s.toArray⟩ : ByteArray)[k - 1]'hp = x := fun _ => hx.symm
      have kt : ((k : Int) - 1).toNat = k - 1 := by omega
      have kp : 0 ≤ (k : Int) - 1 := by omega
      have kp' : 1 ≤ (k : Int) := by omega
      have kl : (k : Int) - 1 < s.length := by omega
      have kl' : k - 1 < s.length := by omega
      clear hd hxl hx HD H1 H2 H3 HN HR HO
      by_cases d1 : ((x.toNat : Int) == 47) = true
      · go_wp2
        go_round
        case rel => exact ⟨k - 1, by omega, by first | rfl | go_num | (congr 1; omega), by rw [HX.out, if_pos (by rw [beq_iff_eq] at d1; exact d1)]; first | rfl | go_num | (congr 1; omega)⟩
        case measure => simp [intOf]; omega
      · have d1 : ((x.toNat : Int) == 47) = false := by simpa using d1
        go_wp2
        go_round
        case rel => exact ⟨k - 1, by omega, by first | rfl | go_num | (congr 1; omega), by rw [HX.out, if_neg (by rw [beq_eq_false_iff_ne] at d1; exact d1)]; first | rfl | go_num | (congr 1; omega)⟩
        case measure => simp [intOf]; omega
end Go.Proofs.YtdbmjbcgcajojaaGreatDoor
/- Both packages at once: New, Quo, Parse. -/
namespace Go.Proofs.YtdbmjbcgcajojaaGreatDoor
open Go.RowKit Num
theorem divInt_one (z : Int) : Rat.divInt z 1 = (z : Rat) := Rat.num_divInt_den (z : Rat)
section
variable {l l' k k' : List UInt8}
theorem new_both (hl : l.length ≤ 3800) (hl' : l'.length ≤ 3800) : ∃ (N D : List UInt8) (c : Int), Ret 17 #[.string ⟨l.toArray⟩, .string ⟨l'.toArray⟩] (.tuple #[.agg #[.string ⟨N.toArray⟩, .string ⟨D.toArray⟩], .int .i64 c]) ∧
    Ret 18 #[.string ⟨l.toArray⟩, .string ⟨l'.toArray⟩] (.tuple #[.agg #[.string ⟨N.toArray⟩, .string ⟨D.toArray⟩], .int .i64 c]) := by
  by_cases h0 : val l' = 0
  · exact ⟨[], [], 10, rNew0 (by omega) h0, sNew0 (by omega) h0⟩
  · refine ⟨_, _, 0, rNew (by omega) (by omega) h0 rfl, sNew1 hl hl' h0 ?_⟩
    unfold fv den1; rw [if_neg h0]
theorem quo_both (hl : l.length ≤ 900) (hl' : l'.length ≤ 900) (hk : k.length ≤ 900) (hk' : k'.length ≤ 900) : ∃ (N D : List UInt8) (c : Int), Ret 27 #[(Value.agg #[Value.string ⟨List.toArray l⟩, Value.string ⟨List.toArray l'⟩]), (Value.agg #[Value.string ⟨List.toArray k⟩, Value.string ⟨List.toArray k'⟩])] (.tuple #[.agg #[.string ⟨N.toArray⟩, .string ⟨D.toArray⟩], .int .i64 c]) ∧
    Ret 28 #[(Value.agg #[Value.string ⟨List.toArray l⟩, Value.string ⟨List.toArray l'⟩]), (Value.agg #[Value.string ⟨List.toArray k⟩, Value.string ⟨List.toArray k'⟩])] (.tuple #[.agg #[.string ⟨N.toArray⟩, .string ⟨D.toArray⟩], .int .i64 c]) := by
  have iF : IsQ l l' (fv l l') := isq_raw hl hl' (by decide)
  have iG : IsQ k k' (fv k k') := isq_raw hk hk' (by decide)
  by_cases h0 : fv k k' = 0
  · exact ⟨[], [], 10, rQuo0 iG h0, sQuo0 hl hl' hk hk' h0⟩
  · exact ⟨_, _, 0, rQuo iF iG h0 rfl, sQuo hl hl' hk hk' h0 rfl⟩
end
theorem sParse_long {s : List UInt8} (h : 65536 < s.length) : Ret 41 #[.string ⟨s.toArray⟩] (.tuple #[.agg #[.string ⟨#[]⟩, .string ⟨#[]⟩], .int .i64 4]) := fun w _ => by
  have k0' : decide (65536 < s.length) = true := decide_eq_true h
  have hb := below_alloc w (.cells #[.string ⟨#[]⟩, .string ⟨#[]⟩] 24)
  go_enter Tryz.func41, Tryz.ntmps41
  go_wp2_with fail
  refine bodyPost_ret (v := .tuple #[.agg #[.string ⟨#[]⟩, .string ⟨#[]⟩], .int .i64 4]) (by simp [results, Tryz.results41, go_sem]) rfl ?_
  exact ⟨rfl, hb⟩
theorem sParse {s : List UInt8} {K : Nat} (hs : s.length ≤ K) (hK : K ≤ 3000) : ∃ (N D : List UInt8) (c : Int), Ret 40 #[.string ⟨s.toArray⟩] (.tuple #[.agg #[.string ⟨N.toArray⟩, .string ⟨D.toArray⟩], .int .i64 c]) ∧
    Ret 41 #[.string ⟨s.toArray⟩] (.tuple #[.agg #[.string ⟨N.toArray⟩, .string ⟨D.toArray⟩], .int .i64 c]) := by
  have hc := at47_cut s
  have ha := at47_le s
  have c1 := qParse (l := s.take (at47 s)) (Nat.le_trans (List.length_take_le _ _) (by omega))
  have e1 : (Lib.cut s [47]).1 = s.take (at47 s) := by rw [hc]
  have e2 : at47 s < s.length → belowOf s = s.drop (at47 s + 1) := fun h => by unfold belowOf; rw [hc]; simp [h]
  have e3 : ¬ at47 s < s.length → belowOf s = [49] := fun h => by unfold belowOf; rw [hc]; simp [h]
  have c2 : at47 s < s.length → Ret 104 #[.string ⟨(s.drop (at47 s + 1)).toArray⟩] (.tuple #[.string ⟨(parseI (belowOf s)).1.toArray⟩, .int .i64 (parseI (belowOf s)).2]) := fun h => by
    rw [e2 h]; exact qParse (by rw [List.length_drop]; omega)
  have c3 : ¬ at47 s < s.length → (parseI (belowOf s)).1 = canon 1 ∧ (parseI (belowOf s)).2 = 0 := fun h => by rw [e3 h]; decide
  have l1 := parseI_len (s.take (at47 s))
  have l2 := parseI_len (belowOf s)
  have l3 := belowOf_len s
  have l4 : (s.take (at47 s)).length ≤ s.length := by rw [List.length_take]; omega
  by_cases h0 : val (parseI (belowOf s)).1 = 0
  · -- no denominator
    have cN := sNew0 (l := (parseI (s.take (at47 s))).1) (l' := (parseI (belowOf s)).1) (by omega) h0
    have cR := sPrint (l := []) (l' := []) (q := 0) (by decide) (by decide) (by decide) (by decide) (by decide +kernel)
    have hp : parseF s = none := by unfold parseF; rw [if_neg (by intro h; omega)]
    have g := sParse_gen s _ _ [] [] _ _ _ 10 (by omega) c1 c2 c3 cN cR
    unfold parseV at g
    rw [if_neg (by intro h; exact absurd h.2.2.1 (by decide))] at g
    exact ⟨[], [], 3, rParse_none (by omega) hp, g⟩
  · obtain ⟨q, hq⟩ : ∃ q, Rat.divInt (val (parseI (s.take (at47 s))).1) (val (parseI (belowOf s)).1) = q := ⟨_, rfl⟩
    have hfv : fv (parseI (s.take (at47 s))).1 (parseI (belowOf s)).1 = q := by unfold fv den1; rw [if_neg h0]; exact hq
    have bd : Bd (K + 3) q := by rw [← hq]; exact bd_divInt (val_lt_of (by omega)) (val_lt_of (by omega)) h0
    have bl := bd_len bd
    have cN := sNew1 (l := (parseI (s.take (at47 s))).1) (l' := (parseI (belowOf s)).1) (by omega) (by omega) h0 hfv
    have cR := sPrint (l := fN q) (l' := fD q) (q := q) (by omega) (by omega) (by omega) (by omega) (fv_frac q)
    have g := sParse_gen s _ _ (fN q) (fD q) _ _ _ 0 (by omega) c1 c2 c3 cN cR
    unfold parseV at g
    by_cases hok : (parseI (belowOf s)).2 = 0 ∧ (parseI (s.take (at47 s))).2 = 0 ∧ printQ q = s
    · rw [if_pos ⟨hok.1, hok.2.1, rfl, by rw [beq_iff_eq]; exact hok.2.2⟩] at g
      have hpos : 0 < val (parseI (belowOf s)).1 := by rw [printQ_below hok.2.2 (by omega)]; have := q.den_nz; omega
      have hp : parseF s = some q := by
        unfold parseF; rw [e1, hq, if_pos ⟨hok.2.1, hok.1, hpos, hok.2.2⟩]
      exact ⟨_, _, 0, rParse_some (by omega) hp, g⟩
    · rw [if_neg (by intro h; exact hok ⟨h.1, h.2.1, by have := h.2.2.2; rwa [beq_iff_eq] at this⟩)] at g
      have hp : parseF s = none := by
        unfold parseF; rw [e1, hq, if_neg (by intro h; exact hok ⟨h.2.1, h.1, h.2.2.2⟩)]
      exact ⟨[], [], 3, rParse_none (by omega) hp, g⟩
end Go.Proofs.YtdbmjbcgcajojaaGreatDoor
