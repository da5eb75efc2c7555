/- The yearly return: package timeweighted. -/
import Derived.Test.YtmjglcgdcclinaaGreatDoorTf
import Derived.Test.YtmjglcgdcclinaaGreatDoorPs
import Derived.Test.YtmjglcgdcclinaaGreatDoorBx
namespace Go.Proofs.YtmjglcgdcclinaaGreatDoor
open Go.RowKit Num
theorem canon_0 : canon 0 = [] := by decide +kernel
theorem canon_1 : canon 1 = [49] := by decide +kernel
theorem cmpQ_le0 {p q : Rat} : cmpQ p q ≤ 0 ↔ p ≤ q := by
  rw [cmpQ_if]
  by_cases h1 : p < q
  · rw [if_pos h1]; exact ⟨fun _ => Rat.le_of_lt h1, fun _ => by decide⟩
  · rw [if_neg h1]
    by_cases h2 : q < p
    · rw [if_pos h2]; exact ⟨fun h => by omega, fun h => by grind⟩
    · rw [if_neg h2]; exact ⟨fun _ => by grind, fun _ => by decide⟩
theorem ten_u (p : Int) : val [49, 48] ^ p.toNat = ((10 ^ p.toNat : Nat) : Int) := by
  rw [show val [49, 48] = ((10 : Nat) : Int) by decide, ← Int.natCast_pow]
theorem u_pos (p : Int) : 0 < ((10 ^ p.toNat : Nat) : Int) := by have := Nat.pow_pos (a := 10) (n := p.toNat) (by decide); omega
theorem u_abs {p : Int} (h : p ≤ 12) : (((10 ^ p.toNat : Nat) : Int)).natAbs < 10 ^ 13 := by
  rw [Int.natAbs_natCast]
  exact Nat.pow_lt_pow_right (by decide) (by omega)
theorem u_len {p : Int} (h : p ≤ 12) : (canon ((10 ^ p.toNat : Nat) : Int)).length ≤ 15 := Nat.le_trans (canon_len_le _ 13 (u_abs h)) (by decide)
theorem rat_pow_int (q : Rat) (n : Nat) : q ^ ((n : Nat) : Int) = q ^ n := Rat.zpow_natCast q n
/-- the number in a string -/
def strZ : Value → Int
  | .string s => val s.data.toList
  | _ => 0
theorem strZ_canon (z : Int) : strZ (.string ⟨(canon z).toArray⟩) = z := by show val (canon z).toArray.toList = z; rw [List.toList_toArray]; exact val_canon z
theorem len_of {z : Int} {N : Nat} (h : z.natAbs < 10 ^ N) (hN : N ≤ 9000) : (canon z).length ≤ 9001 := Nat.le_trans (canon_len_le _ _ h) (by omega)
set_option maxHeartbeats 4000000 in
set_option maxRecDepth 100000 in
theorem twGreatest (b11 b3 : Nat) (Qb : Int → Bool) (z : Int) (N : Nat) (w : World) (hG : Glob w) (hz : 0 ≤ z) (hN : N ≤ 9000) (hzl : (2 * z + 2).natAbs < 10 ^ N) (hQ : ∀ y, 1 ≤ y → (Qb y = true ↔ y ≤ z))
    (hC : ∀ y, 1 ≤ y → y ≤ 2 * z + 2 → RetB w 111 #[.string ⟨(canon y).toArray⟩, .pointer (some ⟨b11, 0, none⟩), .pointer (some ⟨b3, 0, none⟩)] (.bool (Qb y))) :
    Calls Tryz.prog 110 #[.func (Fn.func 111) #[] #[.pointer (some ⟨b11, 0, none⟩), .pointer (some ⟨b3, 0, none⟩)]] w fun e w' => e = .returned (.string ⟨(canon z).toArray⟩) ∧ Below w.heap.size w w' := by
  have HLn : Hid (∀ y, 0 ≤ y → y ≤ 2 * z + 2 → (canon y).length ≤ 9001) := fun y h1 h2 => len_of (N := N) (by omega) hN
  have HQ := Lib.hid hQ
  have HC := Lib.hid hC
  have hb := Below.refl w.heap.size w
  clear hQ hC hzl hN
  go_enter Tryz.func110, Tryz.ntmps110
  go_wp2_with fail
  go_loopw [3, 4] (fun lv hv wr => ∃ lo hi : Int, 0 ≤ lo ∧ lo ≤ z ∧ lo < hi ∧ 1 ≤ hi ∧ hi ≤ 2 * z + 1 ∧ lv = .string ⟨(canon lo).toArray⟩ ∧ hv = .string ⟨(canon hi).toArray⟩ ∧ Below w.heap.size w wr) (fun _ hv _ => (z + 1 - strZ hv).toNat)
  case atStart => exact ⟨0, 1, Int.le_refl _, hz, by omega, by omega, by omega, by rw [canon_0], by rw [canon_1], hb⟩
  case round =>
    clear hb
    obtain ⟨lo, hi, h1, h2, h3, h4, h5, rfl, rfl, hb⟩ := hrel
    have C1 := Lib.hid (HC.out hi h4 (by omega))
    by_cases g : hi ≤ z
    · rw [(HQ.out hi h4).2 g] at C1
      have C2 := Lib.hid (riAdd (l := canon hi) (l' := canon hi) (by have := HLn.out hi (by omega) (by omega); omega) (by have := HLn.out hi (by omega) (by omega); omega) (show _ = hi + hi by rw [val_canon]))
      have hm : (z + 1 - strZ (.string ⟨(canon (hi + hi)).toArray⟩)).toNat < (z + 1 - strZ (.string ⟨(canon hi).toArray⟩)).toNat := by rw [strZ_canon, strZ_canon]; omega
      have HM := Lib.hid hm
      clear hm
      go_wp2_with fail
      ((with_reducible refine (C1.out.of hG hb).mono ?_); rintro e w4 ⟨rfl, hb4⟩)
      replace hb := bto hb hb4
      clear hb4 C1
      go_wp2_with fail
      ((with_reducible refine (C2.out.of hG hb).mono ?_); rintro e w5 ⟨rfl, hb5⟩)
      replace hb := bto hb hb5
      clear hb5 C2
      go_wp2
      go_roundw
      case rel => exact ⟨hi, hi + hi, by omega, g, by omega, by omega, by omega, rfl, rfl, hb⟩
      case measure => exact HM.out
    have hq : Qb hi = false := by
      cases hq : Qb hi with
      | false => rfl
      | true => exact absurd ((HQ.out hi h4).1 hq) g
    rw [hq] at C1
    clear hq
    go_wp2_with fail
    ((with_reducible refine (C1.out.of hG hb).mono ?_); rintro e w4 ⟨rfl, hb4⟩)
    replace hb := bto hb hb4
    clear hb4 C1
    go_wp2_with fail
    go_loopw [3, 4] (fun lv hv wr => ∃ lo hi : Int, 0 ≤ lo ∧ lo ≤ z ∧ z < hi ∧ hi ≤ 2 * z + 1 ∧ lv = .string ⟨(canon lo).toArray⟩ ∧ hv = .string ⟨(canon hi).toArray⟩ ∧ Below w.heap.size w wr) (fun lv hv _ => (strZ hv - strZ lv).toNat)
    case atStart => exact ⟨lo, hi, h1, h2, by omega, h5, rfl, rfl, hb⟩
    case round =>
      clear hb h1 h2 h3 h4 h5 g
      obtain ⟨lo, hi, h1, h2, h3, h5, rfl, rfl, hb⟩ := hrel
      have hl1 := HLn.out lo h1 (by omega)
      have hl2 := HLn.out hi (by omega) (by omega)
      have hl3 := HLn.out (lo + 1) (by omega) (by omega)
      have C1 := Lib.hid (riAdd (l := canon lo) (l' := [49]) (by omega) (by decide) (show _ = lo + 1 by rw [val_canon]; rfl))
      have hcz : cmpZ (lo + 1) hi < 0 ↔ lo + 1 < hi := by unfold cmpZ; split <;> (try split) <;> omega
      obtain ⟨cc, hcc⟩ : ∃ cc, cmpZ (lo + 1) hi = cc := ⟨_, rfl⟩
      have C2 := Lib.hid (riCompare (l := canon (lo + 1)) (l' := canon hi) (by omega) (by omega) (c := cc) (by rw [val_canon, val_canon]; exact hcc))
      rw [hcc] at hcz
      clear hcc
      by_cases g : hi - lo = 1
      · obtain rfl : lo = z := by omega
        have e1 : decide (cc < 0) = false := decide_eq_false (fun h => by have := hcz.1 h; omega)
        clear hcz
        go_wp2_with fail
        ((with_reducible refine (C1.out.of hG hb).mono ?_); rintro e w5 ⟨rfl, hb5⟩)
        replace hb := bto hb hb5
        clear hb5 C1
        go_wp2_with fail
        ((with_reducible refine (C2.out.of hG hb).mono ?_); rintro e w6 ⟨rfl, hb6⟩)
        replace hb := bto hb hb6
        clear hb6 C2
        go_wp2
        go_ret
        exact ⟨rfl, hb⟩
      have e1 : decide (cc < 0) = true := decide_eq_true (hcz.2 (by omega))
      have hl4 : (canon (lo + hi)).length ≤ 9010 := by
        obtain ⟨K, hK⟩ : ∃ K : Nat, K = 9001 := ⟨_, rfl⟩
        rw [← hK] at hl1 hl2
        have h1 := val_lt_of hl1
        have h2 := val_lt_of hl2
        rw [val_canon] at h1 h2
        refine Nat.le_trans (canon_len_le (lo + hi) (K + 1) ?_) (by omega)
        have e3 : 10 ^ (K + 1) = 10 ^ K * 10 := Nat.pow_succ ..
        generalize 10 ^ (K + 1) = X at *
        generalize 10 ^ K = Y at *
        omega
      have C3 := Lib.hid (riAdd (l := canon lo) (l' := canon hi) (by omega) (by omega) (show _ = lo + hi by rw [val_canon, val_canon]))
      obtain ⟨k1, k2⟩ := mid_lt (a := lo) (b := hi) (by omega)
      have C4 := Lib.hid (niDiv46 (l := canon (lo + hi)) (l' := [50]) (by omega) (by decide) (by decide) (show divZ _ (val [50]) = divZ (lo + hi) 2 by rw [val_canon]; rfl) rfl)
      generalize modZ (val (canon (lo + hi))) (val [50]) = rr at *
      generalize divZ (lo + hi) 2 = m at *
      have C5 := Lib.hid (HC.out m (by omega) (by omega))
      have hm1 : (strZ (.string ⟨(canon hi).toArray⟩) - strZ (.string ⟨(canon m).toArray⟩)).toNat < (strZ (.string ⟨(canon hi).toArray⟩) - strZ (.string ⟨(canon lo).toArray⟩)).toNat := by rw [strZ_canon, strZ_canon, strZ_canon]; omega
      have hm2 : (strZ (.string ⟨(canon m).toArray⟩) - strZ (.string ⟨(canon lo).toArray⟩)).toNat < (strZ (.string ⟨(canon hi).toArray⟩) - strZ (.string ⟨(canon lo).toArray⟩)).toNat := by rw [strZ_canon, strZ_canon, strZ_canon]; omega
      have HM1 := Lib.hid hm1
      have HM2 := Lib.hid hm2
      clear hm1 hm2 g hl1 hl2 hl3 hl4 hcz
      by_cases gm : m ≤ z
      · rw [(HQ.out m (by omega)).2 gm] at C5
        go_wp2_with fail
        ((with_reducible refine (C1.out.of hG hb).mono ?_); rintro e w5 ⟨rfl, hb5⟩)
        replace hb := bto hb hb5
        clear hb5 C1
        go_wp2_with fail
        ((with_reducible refine (C2.out.of hG hb).mono ?_); rintro e w6 ⟨rfl, hb6⟩)
        replace hb := bto hb hb6
        clear hb6 C2
        go_wp2_with fail
        ((with_reducible refine (C3.out.of hG hb).mono ?_); rintro e w7 ⟨rfl, hb7⟩)
        replace hb := bto hb hb7
        clear hb7 C3
        go_wp2_with fail
        ((with_reducible refine (C4.out.of hG hb).mono ?_); rintro e w8 ⟨rfl, hb8⟩)
        replace hb := bto hb hb8
        clear hb8 C4
        go_wp2_with fail
        ((with_reducible refine (C5.out.of hG hb).mono ?_); rintro e w9 ⟨rfl, hb9⟩)
        replace hb := bto hb hb9
        clear hb9 C5
        go_wp2
        go_roundw
        case rel => exact ⟨m, hi, by omega, gm, h3, h5, rfl, rfl, hb⟩
        case measure => exact HM1.out
      have hq : Qb m = false := by
        cases hq : Qb m with
        | false => rfl
        | true => exact absurd ((HQ.out m (by omega)).1 hq) gm
      rw [hq] at C5
      clear hq
      go_wp2_with fail
      ((with_reducible refine (C1.out.of hG hb).mono ?_); rintro e w5 ⟨rfl, hb5⟩)
      replace hb := bto hb hb5
      clear hb5 C1
      go_wp2_with fail
      ((with_reducible refine (C2.out.of hG hb).mono ?_); rintro e w6 ⟨rfl, hb6⟩)
      replace hb := bto hb hb6
      clear hb6 C2
      go_wp2_with fail
      ((with_reducible refine (C3.out.of hG hb).mono ?_); rintro e w7 ⟨rfl, hb7⟩)
      replace hb := bto hb hb7
      clear hb7 C3
      go_wp2_with fail
      ((with_reducible refine (C4.out.of hG hb).mono ?_); rintro e w8 ⟨rfl, hb8⟩)
      replace hb := bto hb hb8
      clear hb8 C4
      go_wp2_with fail
      ((with_reducible refine (C5.out.of hG hb).mono ?_); rintro e w9 ⟨rfl, hb9⟩)
      replace hb := bto hb hb9
      clear hb9 C5
      go_wp2
      go_roundw
      case rel => exact ⟨lo, m, h1, h2, by omega, by omega, rfl, rfl, hb⟩
      case measure => exact HM2.out
set_option maxHeartbeats 2000000 in
set_option maxRecDepth 100000 in
theorem twPow (y u : Int) (n bu by1 : Nat) (w : World) (hG : Glob w) (hy : (canon y).length ≤ 900) (hu : (canon u).length ≤ 900) (h0 : u ≠ 0) (hq : Bd 90 (Rat.divInt y u)) (hn : n ≤ 400) (x1 : Blk w bu #[.string ⟨(canon u).toArray⟩]) (x2 : Blk w by1 #[.int .i64 (n : Int)]) :
    Calls Tryz.prog 109 #[.string ⟨(canon y).toArray⟩, .pointer (some ⟨bu, 0, none⟩), .pointer (some ⟨by1, 0, none⟩)] w fun e w' => e = .returned (Value.agg #[Value.string ⟨List.toArray (fN ((Rat.divInt y u) ^ n))⟩, Value.string ⟨List.toArray (fD ((Rat.divInt y u) ^ n))⟩]) ∧ Below w.heap.size w w' := by
  have C1 := Lib.hid (twRatio (l := canon y) (l' := canon u) (by omega) (by omega) (by rw [val_canon]; exact h0) (show Rat.divInt _ _ = Rat.divInt y u by rw [val_canon, val_canon]))
  have hbl := bd_len hq
  have C2 := Lib.hid (rPow (l := fN (Rat.divInt y u)) (l' := fD (Rat.divInt y u)) (by omega) (by omega) (fv_frac _) (n : Int) (by omega) (by omega) (.inl (by omega)) (rat_pow_int _ n))
  obtain ⟨yi, hyi⟩ : ∃ yi : Int, yi = (n : Int) := ⟨_, rfl⟩
  rw [← hyi] at C2 x2
  generalize (Rat.divInt y u) ^ n = qn at *
  generalize Rat.divInt y u = q at *
  generalize canon y = Y at *
  generalize canon u = Us at *
  have x3 := FBox.new w (.string ⟨#[]⟩) (.string ⟨#[]⟩) 32
  have hb := below_alloc w (.cells #[.string ⟨#[]⟩, .string ⟨#[]⟩] 32)
  clear hy hu h0 hq hn hbl hyi
  go_enter Tryz.func109, Tryz.ntmps109
  go_wp2_with fail
  refine wp_region_kept (by kernel_rfl) (by kernel_rfl) ?_
  refine kept_val _ (fun _ => rfl) (fun ρ wz hw => by go_simp; first | done | with_reducible rfl) ?_
  simp only [Act.put, List.setIfInBounds_toArray, List.set_cons_zero, List.set_cons_succ, Nat.reduceAdd]
  refine kept_val _ (fun _ => rfl) (fun ρ wz hw => by have q0 : wz.cell? ⟨bu, 0, none⟩ = some (.string ⟨Us.toArray⟩) := (x1.below (bto hb hw)).c 0; go_simp; first | done | with_reducible rfl) ?_
  simp only [Act.put, List.setIfInBounds_toArray, List.set_cons_zero, List.set_cons_succ, Nat.reduceAdd]
  refine kept_call _ _ _ (fun _ => rfl) (fun ρ wz hw => by go_simp; first | done | with_reducible rfl) (fun wz hw => C1.out.of hG (bto hb hw)) ?_
  simp only [Act.put, List.setIfInBounds_toArray, List.set_cons_zero, List.set_cons_succ, Nat.reduceAdd]
  refine kept_val _ (fun _ => rfl) (fun ρ wz hw => by have q0 : wz.cell? ⟨by1, 0, none⟩ = some (.int .i64 yi) := (x2.below (bto hb hw)).c 0; go_simp; first | done | with_reducible rfl) ?_
  simp only [Act.put, List.setIfInBounds_toArray, List.set_cons_zero, List.set_cons_succ, Nat.reduceAdd]
  refine kept_call _ _ _ (fun _ => rfl) (fun ρ wz hw => by go_simp; first | done | with_reducible rfl) (fun wz hw => C2.out.of hG (bto hb hw)) ?_
  simp only [Act.put, List.setIfInBounds_toArray, List.set_cons_zero, List.set_cons_succ, Nat.reduceAdd]
  refine kept_val _ (fun _ => rfl) (fun ρ wz hw => by go_simp; first | done | with_reducible rfl) ?_
  simp only [Act.put, List.setIfInBounds_toArray, List.set_cons_zero, List.set_cons_succ, Nat.reduceAdd]
  refine kept_val _ (fun _ => rfl) (fun ρ wz hw => by go_simp; first | done | with_reducible rfl) ?_
  simp only [Act.put, List.setIfInBounds_toArray, List.set_cons_zero, List.set_cons_succ, Nat.reduceAdd]
  refine kept_val _ (fun _ => rfl) (fun ρ wz hw => by go_simp; first | done | with_reducible rfl) ?_
  simp only [Act.put, List.setIfInBounds_toArray, List.set_cons_zero, List.set_cons_succ, Nat.reduceAdd]
  refine kept_box (fun b => .pointer (some ⟨b, 0, none⟩)) _ rfl (fun _ => rfl) (fun ρ wz hw => by go_simp; first | done | with_reducible rfl) ?_
  simp only [Act.put, List.setIfInBounds_toArray, List.set_cons_zero, List.set_cons_succ, Nat.reduceAdd]
  refine kept_put2 8 _ 5 _ _ _ _ _ rfl rfl rfl (by decide) (fun _ => rfl) (fun ρ wz hw q0 q1 q2 q3 => by go_simp; first | done | with_reducible rfl) ?_
  simp only [Act.put, Nat.reduceAdd]
  refine kept_val _ (fun _ => rfl) (fun ρ wz hw => by go_simp; first | done | with_reducible rfl) ?_
  simp only [Act.put, List.setIfInBounds_toArray, List.set_cons_zero, List.set_cons_succ, Nat.reduceAdd]
  refine kept_end (fun ρ w2 hF => ?_)
  have x5 := FBox.ofB (hF.box 8 _ _ rfl).2
  have hbF := hF.below
  (try dsimp only)
  generalize ρ 8 = b5 at *
  replace x3 := x3.below hbF
  replace hb := bto hb hbF
  have g0 := x3.c0
  have g1 := x3.c1
  have g2 := x3.f0
  have g3 := x3.f1
  have p0 := x5.c0
  have p1 := x5.c1
  clear hF hbF C1 C2 x1 x2
  go_wp2
  have hy := x3.set (.string ⟨(fN (qn)).toArray⟩) (.string ⟨(fD (qn)).toArray⟩)
  have d0 := hy.c0
  have d1 := hy.c1
  refine bodyPost_ret (v := (Value.agg #[Value.string ⟨List.toArray (fN qn)⟩, Value.string ⟨List.toArray (fD qn)⟩])) (by simp [results, Tryz.results109, go_sem, d0, d1]) rfl ?_
  exact ⟨rfl, below_set2 hb (Nat.le_refl _) _ _⟩
set_option maxHeartbeats 2000000 in
set_option maxRecDepth 100000 in
theorem twHas {l l' : List UInt8} {f : Rat} {Qb : Bool} (y u : Int) (n bu by1 b11 b3 : Nat) (w : World) (hG : Glob w) (hy : (canon y).length ≤ 900) (hu : (canon u).length ≤ 900) (h0 : u ≠ 0) (hq : Bd 90 (Rat.divInt y u)) (hn : n ≤ 400) (x1 : Blk w bu #[.string ⟨(canon u).toArray⟩]) (x2 : Blk w by1 #[.int .i64 (n : Int)])
    (x3 : Blk w b11 #[.func (Fn.func 109) #[] #[.pointer (some ⟨bu, 0, none⟩), .pointer (some ⟨by1, 0, none⟩)]]) (x4 : Blk w b3 #[.string ⟨l.toArray⟩, .string ⟨l'.toArray⟩]) (hl : l.length ≤ 60) (hl' : l'.length ≤ 60) (hf : fv l l' = f) (hQ : decide ((Rat.divInt y u) ^ n ≤ f) = Qb) :
    RetB w 111 #[.string ⟨(canon y).toArray⟩, .pointer (some ⟨b11, 0, none⟩), .pointer (some ⟨b3, 0, none⟩)] (.bool Qb) := fun w' hbw => by
  replace hG := hG.below hbw
  replace x1 := x1.below hbw
  replace x2 := x2.below hbw
  replace x3 := x3.below hbw
  replace x4 := x4.below hbw
  have C1 : Hid (∀ w, Below w'.heap.size w' w → Calls Tryz.prog 109 #[.string ⟨(canon y).toArray⟩, .pointer (some ⟨bu, 0, none⟩), .pointer (some ⟨by1, 0, none⟩)] w fun e w2 => e = .returned (Value.agg #[Value.string ⟨List.toArray (fN ((Rat.divInt y u) ^ n))⟩, Value.string ⟨List.toArray (fD ((Rat.divInt y u) ^ n))⟩]) ∧ Below w.heap.size w w2) := fun w hw => twPow y u n bu by1 w (hG.below hw) hy hu h0 hq hn (x1.below hw) (x2.below hw)
  have C2 := Lib.hid (rCompare (isq_fr (bd_pow hq n) (by omega)) (isq_raw (k := 60) hl hl' (by decide)) rfl)
  have HQ : Hid (decide (cmpQ ((Rat.divInt y u) ^ n) (fv l l') ≤ 0) = Qb) := by
    show _ = _
    rw [← hQ, hf]
    exact decide_eq_decide.2 cmpQ_le0
  generalize cmpQ ((Rat.divInt y u) ^ n) (fv l l') = P at *
  generalize (Rat.divInt y u) ^ n = q at *
  generalize canon y = Y at *
  clear hbw hy hu h0 hq hn hl hl' hf hQ x1 x2
  go_enter Tryz.func111, Tryz.ntmps111
  go_wp2_with fail
  refine wp_region_kept (by kernel_rfl) (by kernel_rfl) ?_
  refine kept_val _ (fun _ => rfl) (fun ρ wz hw => by have q0 : wz.cell? ⟨b11, 0, none⟩ = some (.func (Fn.func 109) #[] #[.pointer (some ⟨bu, 0, none⟩), .pointer (some ⟨by1, 0, none⟩)]) := (x3.below hw).c 0; go_simp; first | done | with_reducible rfl) ?_
  simp only [Act.put, List.setIfInBounds_toArray, List.set_cons_zero, List.set_cons_succ, Nat.reduceAdd]
  refine kept_val _ (fun _ => rfl) (fun ρ wz hw => by go_simp; first | done | with_reducible rfl) ?_
  simp only [Act.put, List.setIfInBounds_toArray, List.set_cons_zero, List.set_cons_succ, Nat.reduceAdd]
  refine kept_call _ _ _ (fun _ => rfl) (fun ρ wz hw => by go_simp; first | done | with_reducible rfl) (fun wz hw => C1.out wz hw) ?_
  simp only [Act.put, List.setIfInBounds_toArray, List.set_cons_zero, List.set_cons_succ, Nat.reduceAdd]
  refine kept_val _ (fun _ => rfl) (fun ρ wz hw => by have q0 : wz.cell? ⟨b3, 0, none⟩ = some (.string ⟨l.toArray⟩) := (x4.below hw).c 0; have q1 : wz.cell? ⟨b3, 1, none⟩ = some (.string ⟨l'.toArray⟩) := (x4.below hw).c 1; go_simp; first | done | with_reducible rfl) ?_
  simp only [Act.put, List.setIfInBounds_toArray, List.set_cons_zero, List.set_cons_succ, Nat.reduceAdd]
  refine kept_call _ _ _ (fun _ => rfl) (fun ρ wz hw => by go_simp; first | done | with_reducible rfl) (fun wz hw => C2.out.of hG hw) ?_
  simp only [Act.put, List.setIfInBounds_toArray, List.set_cons_zero, List.set_cons_succ, Nat.reduceAdd]
  refine kept_val _ (fun _ => rfl) (fun ρ wz hw => by go_simp; first | done | with_reducible rfl) ?_
  simp only [Act.put, List.setIfInBounds_toArray, List.set_cons_zero, List.set_cons_succ, Nat.reduceAdd]
  refine kept_val _ (fun _ => rfl) (fun ρ wz hw => by go_simp; first | done | with_reducible rfl) ?_
  simp only [Act.put, List.setIfInBounds_toArray, List.set_cons_zero, List.set_cons_succ, Nat.reduceAdd]
  refine kept_end (fun ρ w2 hF => ?_)
  have hb := hF.below
  clear hF
  go_wp2
  go_ret
  exact ⟨retb HQ.out, hb⟩
end Go.Proofs.YtmjglcgdcclinaaGreatDoor
