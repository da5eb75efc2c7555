/- Profit, Changes, Value, place: package moneyweighted and trancheref47. -/
import Derived.Test.YtolbojchdlojnaaGreatDoorWb
import Derived.Test.YtolbojchdlojnaaGreatDoorWd
import Derived.Test.YtolbojchdlojnaaGreatDoorWh
namespace Go.Proofs.YtolbojchdlojnaaGreatDoor
open Go.RowKit Num
section
variable {w : World} {A : Option Addr} {ps : List Pay} {n : Nat}
theorem mwCheckB (hG : Glob w) (h : PL w A ps n) (c : Nat) : RetB w 31 #[.slice A n c] (.int .i64 (payE ps)) := fun w' hb => mwCheck A ps n c w' (hG.below hb) h.len h.sm (h.at_.below hb)
theorem mrCheckB (hG : Glob w) (h : PL w A ps n) (c : Nat) : RetB w 32 #[.slice A n c] (.int .i64 (payE ps)) := fun w' hb => mrCheck A ps n c w' (hG.below hb) h.len h.sm (h.at_.below hb)
theorem mwSignsB (hG : Glob w) (h : PL w A ps n) (c : Nat) : RetB w 64 #[.slice A n c] (.tuple #[.int .i64 (chN (sumsL 0 (pzs ps)) : Int), .int .i64 (sg1 (sumsL 0 (pzs ps)))]) := fun w' hb => mwSigns A ps n c w' (hG.below hb) h.len h.n1 h.sm (h.at_.below hb)
/-- the payments at which a value is computed -/
def ValAt (ps : List Pay) (q : Rat) : Prop := ∃ (K M : Nat) (E : Int) (t0 : Pay), ps[0]? = some t0 ∧ ValOk ps q K M t0.per E
theorem mwValueB {q : Rat} (hG : Glob w) (h : PL w A ps n) (hV : ValAt ps q) (c : Nat) : RetB w 78 #[.slice A n c, (Value.agg #[Value.string ⟨List.toArray (fN q)⟩, Value.string ⟨List.toArray (fD q)⟩])] (Value.agg #[Value.string ⟨List.toArray (fN (valQ q (pzs ps)))⟩, Value.string ⟨List.toArray (fD (valQ q (pzs ps)))⟩]) := fun w' hb => by
  obtain ⟨K, M, E, t0, h0, hv⟩ := hV
  exact mwValue A n c w' (hG.below hb) h.len hv h0 rfl (h.at_.below hb)
theorem mrValueOfB {q : Rat} (hG : Glob w) (h : PL w A ps n) (hV : ValAt ps q) (c : Nat) : RetB w 81 #[.slice A n c, (Value.agg #[Value.string ⟨List.toArray (fN q)⟩, Value.string ⟨List.toArray (fD q)⟩])] (Value.agg #[Value.string ⟨List.toArray (fN (valQ q (pzs ps)))⟩, Value.string ⟨List.toArray (fD (valQ q (pzs ps)))⟩]) := fun w' hb => by
  obtain ⟨K, M, E, t0, h0, hv⟩ := hV
  exact mrValueOf A n c w' (hG.below hb) h.len hv h0 rfl (h.at_.below hb)
theorem ValAt.bd {q : Rat} (h : ValAt ps q) : Bd 800 (valQ q (pzs ps)) ∧ Bd 80 q := by
  obtain ⟨K, M, E, t0, h0, hv⟩ := h
  have h1 := hv_bd hv.bd hv.m1 E (pzs ps) 0 t0.per 1 hv.up bd0 (fun p hp => by
    obtain ⟨t, ht, rfl⟩ := List.mem_map.1 hp
    obtain ⟨-, m2, m3, -⟩ := hv.mem t ht
    exact ⟨m2, m3⟩)
  rw [val_hv q (pzs ps) t0.per]
  refine ⟨bd_mono h1 ?_, bd_mono hv.bd hv.k⟩
  have := hv.lim
  unfold pzs
  rw [List.length_map]
  omega
end
/-- what Profit returns -/
def profV (ps : List Pay) : Value := if payE ps = 0 then .tuple #[.string ⟨(canon (sumL 0 (pzs ps))).toArray⟩, .int .i64 0] else .tuple #[.string ⟨#[]⟩, .int .i64 1]
/-- what Changes returns -/
def chgV (ps : List Pay) : Value := if payE ps = 0 then .tuple #[.int .i64 (chN (sumsL 0 (pzs ps)) : Int), .int .i64 0] else .tuple #[.int .i64 0, .int .i64 1]
theorem sumL_next {ps : List Pay} {k : Nat} {t : Pay} (ht : ps[k]? = some t) (z : Int) : sumL z (pzs (ps.drop k)) = sumL (z + val t.amt) (pzs (ps.drop (k + 1))) := by
  obtain ⟨hk, rfl⟩ := List.getElem?_eq_some_iff.1 ht
  rw [List.drop_eq_getElem_cons hk]; rfl
theorem sumL_end {ps : List Pay} {z : Int} {n : Nat} (hn : ps.length ≤ n) : sumL z (pzs (ps.drop n)) = z := by rw [List.drop_of_length_le hn]; rfl
set_option maxHeartbeats 2000000 in
set_option maxRecDepth 100000 in
theorem mwProfit (A : Option Addr) (ps : List Pay) (n c : Nat) (w : World) (hG : Glob w) (h : PL w A ps n) :
    Calls Tryz.prog 29 #[.slice A n c] w fun e w' => e = .returned (profV ps) ∧ Below w.heap.size w w' := by
  have C1 := Lib.hid (mwCheckB hG h c)
  have hb := Below.refl w.heap.size w
  by_cases g : payE ps = 0
  rotate_left
  · have HV : Hid (profV ps = .tuple #[.string ⟨#[]⟩, .int .i64 1]) := if_neg g
    have e1 : (payE ps != 0) = true := bneq' (intbne g)
    generalize payE ps = E at *
    clear g h
    go_enter Tryz.func29, Tryz.ntmps29
    go_wp2_with fail
    ((with_reducible refine (C1.out.of hG hb).mono ?_); rintro e w2 ⟨rfl, hb2⟩)
    go_wp2
    go_ret2
    exact ⟨by rw [HV.out]; rfl, bto hb hb2⟩
  have HV : Hid (profV ps = .tuple #[.string ⟨(canon (sumL 0 (pzs ps))).toArray⟩, .int .i64 0]) := if_pos g
  rw [g] at C1
  have HI := Lib.hid h.at_
  have HS0 := Lib.hid h.sm
  have hn1 : ps.length ≤ n := by have := h.len; omega
  have hn2 : n ≤ ps.length := by have := h.len; omega
  have hn3 := h.n1
  obtain ⟨N, hN, hN2⟩ : ∃ N : Nat, N ≤ 1000 ∧ 1000 ≤ N := ⟨1000, Nat.le_refl _, Nat.le_refl _⟩
  have c0 := riOf 0 (by decide) (by decide)
  rw [canon0] at c0
  have C0 := Lib.hid c0
  clear h g c0
  go_enter Tryz.func29, Tryz.ntmps29
  go_wp2_with fail
  ((with_reducible refine (C1.out.of hG hb).mono ?_); rintro e w2 ⟨rfl, hb2⟩)
  replace hb := bto hb hb2
  clear hb2
  go_wp2_with fail
  ((with_reducible refine (C0.out.of hG hb).mono ?_); rintro e w3 ⟨rfl, hb3⟩)
  replace hb := bto hb hb3
  clear hb3
  go_wp2_with fail
  go_loopw [4, 13] (fun sv iv wr => ∃ (k : Nat) (z : Int), k ≤ n ∧ iv = .int .i64 (k : Int) ∧ sv = .string ⟨(canon z).toArray⟩ ∧ Hid (z.natAbs < 10 ^ (N + k)) ∧ Hid (sumL z (pzs (ps.drop k)) = sumL 0 (pzs ps)) ∧ Below w.heap.size w wr) (fun _ iv _ => n - (intOf iv).toNat)
  case atStart => exact ⟨0, 0, Nat.zero_le _, rfl, by rw [canon0], zero_pow, by rw [List.drop_zero]; exact rfl, hb⟩
  case round =>
    clear hb
    obtain ⟨k, z, hk, rfl, rfl, HZ, HQ, hb⟩ := hrel
    by_cases hlk : k < n
    rotate_left
    · have hq : z = sumL 0 (pzs ps) := by have h1 := HQ.out; rwa [sumL_end (by omega)] at h1
      subst hq
      go_wp2
      go_ret2
      exact ⟨by rw [HV.out]; rfl, hb⟩
    obtain ⟨t, ht⟩ : ∃ t, ps[k]? = some t := ⟨_, List.getElem?_eq_getElem (by omega)⟩
    have hts := HS0.out t (List.mem_of_getElem? ht)
    obtain ⟨b, o, rfl, hbs, p0, p1⟩ := (HI.out.below hb) k t ht
    have hzl : (canon z).length ≤ N + k + 1 := Nat.le_trans (canon_len_le _ _ HZ.out) (by omega)
    have C2 := Lib.hid (riAdd (l := canon z) (l' := t.amt) (by omega) (by omega) (show val (canon z) + val t.amt = z + val t.amt by rw [val_canon]))
    have HZ2 := Lib.hid (abs_step HZ.out (val_lt_of (Nat.le_trans hts hN2)))
    have HN := Lib.hid ((sumL_next ht z).symm.trans HQ.out)
    obtain ⟨z', hz'⟩ : ∃ z', z' = z + val t.amt := ⟨_, rfl⟩
    rw [← hz'] at C2 HZ2 HN
    clear hz' hts HZ hzl ht HQ
    have x6 := FBox.new wr (.int .i64 t.per) (.string ⟨t.amt.toArray⟩) 27
    have hbA := below_alloc wr (.cells #[.int .i64 t.per, .string ⟨t.amt.toArray⟩] 27)
    replace hb := bto hb hbA
    have q1 := x6.c1
    clear hbA
    go_wp2_with fail
    ((with_reducible refine (C2.out.of hG hb).mono ?_); rintro e w4 ⟨rfl, hb4⟩)
    replace hb := bto hb hb4
    clear p0 p1 C2 hb4 q1
    go_wp2
    go_roundw
    case rel => exact ⟨k + 1, z', by omega, by go_num, rfl, HZ2.out, HN.out, hb⟩
    case measure => simp [intOf]; omega
set_option maxHeartbeats 2000000 in
set_option maxRecDepth 100000 in
theorem mrProfit (A : Option Addr) (ps : List Pay) (n c : Nat) (w : World) (hG : Glob w) (h : PL w A ps n) :
    Calls Tryz.prog 30 #[.slice A n c] w fun e w' => e = .returned (profV ps) ∧ Below w.heap.size w w' := by
  have C1 := Lib.hid (mrCheckB hG h c)
  have hb := Below.refl w.heap.size w
  by_cases g : payE ps = 0
  rotate_left
  · have HV : Hid (profV ps = .tuple #[.string ⟨#[]⟩, .int .i64 1]) := if_neg g
    have e1 : (payE ps != 0) = true := bneq' (intbne g)
    generalize payE ps = E at *
    clear g h
    go_enter Tryz.func30, Tryz.ntmps30
    go_wp2_with fail
    ((with_reducible refine (C1.out.of hG hb).mono ?_); rintro e w2 ⟨rfl, hb2⟩)
    go_wp2
    go_ret2
    exact ⟨by rw [HV.out]; rfl, bto hb hb2⟩
  have HV : Hid (profV ps = .tuple #[.string ⟨(canon (sumL 0 (pzs ps))).toArray⟩, .int .i64 0]) := if_pos g
  rw [g] at C1
  have HI := Lib.hid h.at_
  have HS0 := Lib.hid h.sm
  have hn1 : ps.length ≤ n := by have := h.len; omega
  have hn2 : n ≤ ps.length := by have := h.len; omega
  have hn3 := h.n1
  obtain ⟨N, hN, hN2⟩ : ∃ N : Nat, N ≤ 1000 ∧ 1000 ≤ N := ⟨1000, Nat.le_refl _, Nat.le_refl _⟩
  have c0 := riOf 0 (by decide) (by decide)
  rw [canon0] at c0
  have C0 := Lib.hid c0
  clear h g c0
  go_enter Tryz.func30, Tryz.ntmps30
  go_wp2_with fail
  ((with_reducible refine (C1.out.of hG hb).mono ?_); rintro e w2 ⟨rfl, hb2⟩)
  replace hb := bto hb hb2
  clear hb2
  go_wp2_with fail
  clear C0
  go_loopw [4, 5] (fun sv iv wr => ∃ (k : Nat) (z : Int), k ≤ n ∧ iv = .int .i64 (k : Int) ∧ sv = .string ⟨(canon z).toArray⟩ ∧ Hid (z.natAbs < 10 ^ (N + k)) ∧ Hid (sumL z (pzs (ps.drop k)) = sumL 0 (pzs ps)) ∧ Below w.heap.size w wr) (fun _ iv _ => n - (intOf iv).toNat)
  case atStart => exact ⟨0, 0, Nat.zero_le _, rfl, by rw [canon0], zero_pow, by rw [List.drop_zero]; exact rfl, hb⟩
  case round =>
    clear hb
    obtain ⟨k, z, hk, rfl, rfl, HZ, HQ, hb⟩ := hrel
    by_cases hlk : k < n
    rotate_left
    · have hq : z = sumL 0 (pzs ps) := by have h1 := HQ.out; rwa [sumL_end (by omega)] at h1
      subst hq
      go_wp2
      go_ret2
      exact ⟨by rw [HV.out]; rfl, hb⟩
    obtain ⟨t, ht⟩ : ∃ t, ps[k]? = some t := ⟨_, List.getElem?_eq_getElem (by omega)⟩
    have hts := HS0.out t (List.mem_of_getElem? ht)
    obtain ⟨b, o, rfl, hbs, p0, p1⟩ := (HI.out.below hb) k t ht
    have hzl : (canon z).length ≤ N + k + 1 := Nat.le_trans (canon_len_le _ _ HZ.out) (by omega)
    have C2 := Lib.hid (qAdd (l := canon z) (l' := t.amt) (by omega) (by omega) (show val (canon z) + val t.amt = z + val t.amt by rw [val_canon]))
    have HZ2 := Lib.hid (abs_step HZ.out (val_lt_of (Nat.le_trans hts hN2)))
    have HN := Lib.hid ((sumL_next ht z).symm.trans HQ.out)
    obtain ⟨z', hz'⟩ : ∃ z', z' = z + val t.amt := ⟨_, rfl⟩
    rw [← hz'] at C2 HZ2 HN
    clear hz' hts HZ hzl ht HQ
    go_wp2_with fail
    ((with_reducible refine (C2.out.of hG hb).mono ?_); rintro e w4 ⟨rfl, hb4⟩)
    replace hb := bto hb hb4
    clear p0 p1 C2 hb4
    go_wp2
    go_roundw
    case rel => exact ⟨k + 1, z', by omega, by go_num, rfl, HZ2.out, HN.out, hb⟩
    case measure => simp [intOf]; omega
set_option maxHeartbeats 1000000 in
set_option maxRecDepth 100000 in
theorem mwChanges (A : Option Addr) (ps : List Pay) (n c : Nat) (w : World) (hG : Glob w) (h : PL w A ps n) :
    Calls Tryz.prog 27 #[.slice A n c] w fun e w' => e = .returned (chgV ps) ∧ Below w.heap.size w w' := by
  have C1 := Lib.hid (mwCheckB hG h c)
  have hb := Below.refl w.heap.size w
  by_cases g : payE ps = 0
  rotate_left
  · have HV : Hid (chgV ps = .tuple #[.int .i64 0, .int .i64 1]) := if_neg g
    have e1 : (payE ps != 0) = true := bneq' (intbne g)
    generalize payE ps = E at *
    clear g h
    go_enter Tryz.func27, Tryz.ntmps27
    go_wp2_with fail
    ((with_reducible refine (C1.out.of hG hb).mono ?_); rintro e w2 ⟨rfl, hb2⟩)
    go_wp2
    go_ret2
    exact ⟨by rw [HV.out]; rfl, bto hb hb2⟩
  have HV : Hid (chgV ps = .tuple #[.int .i64 (chN (sumsL 0 (pzs ps)) : Int), .int .i64 0]) := if_pos g
  rw [g] at C1
  have C2 := Lib.hid (mwSignsB hG h c)
  clear h g
  go_enter Tryz.func27, Tryz.ntmps27
  go_wp2_with fail
  ((with_reducible refine (C1.out.of hG hb).mono ?_); rintro e w2 ⟨rfl, hb2⟩)
  replace hb := bto hb hb2
  clear hb2
  go_wp2_with fail
  ((with_reducible refine (C2.out.of hG hb).mono ?_); rintro e w3 ⟨rfl, hb3⟩)
  replace hb := bto hb hb3
  go_wp2
  go_ret2
  exact ⟨by rw [HV.out]; rfl, hb⟩
set_option maxHeartbeats 1000000 in
set_option maxRecDepth 100000 in
theorem mrChanges (A : Option Addr) (ps : List Pay) (n c : Nat) (w : World) (hG : Glob w) (h : PL w A ps n) :
    Calls Tryz.prog 28 #[.slice A n c] w fun e w' => e = .returned (chgV ps) ∧ Below w.heap.size w w' := by
  have C1 := Lib.hid (mrCheckB hG h c)
  have hb := Below.refl w.heap.size w
  by_cases g : payE ps = 0
  rotate_left
  · have HV : Hid (chgV ps = .tuple #[.int .i64 0, .int .i64 1]) := if_neg g
    have e1 : (payE ps != 0) = true := bneq' (intbne g)
    generalize payE ps = E at *
    clear g h
    go_enter Tryz.func28, Tryz.ntmps28
    go_wp2_with fail
    ((with_reducible refine (C1.out.of hG hb).mono ?_); rintro e w2 ⟨rfl, hb2⟩)
    go_wp2
    go_ret2
    exact ⟨by rw [HV.out]; rfl, bto hb hb2⟩
  have HV : Hid (chgV ps = .tuple #[.int .i64 (chN (sumsL 0 (pzs ps)) : Int), .int .i64 0]) := if_pos g
  rw [g] at C1
  have HP := Lib.hid h
  have hl := Nat.le_trans (sums_len (pzs ps) 0) (by unfold pzs; rw [List.length_map]; exact Nat.le_of_eq h.len : (pzs ps).length ≤ n)
  have hn3 := h.n1
  clear h g
  go_enter Tryz.func28, Tryz.ntmps28
  go_wp2_with fail
  ((with_reducible refine (C1.out.of hG hb).mono ?_); rintro e w2 ⟨rfl, hb2⟩)
  replace hb := bto hb hb2
  clear hb2
  go_wp2_with fail
  ((with_reducible refine (mrSigns A ps n c _ (hG.below hb) (HP.out.below hb)).mono ?_); rintro e w3 ⟨B, cp, rfl, hI, hb3⟩)
  replace hb := bto hb hb3
  have C3 := Lib.hid (mrChg B _ _ cp w3 (List.length_map _) (by omega) hI)
  rw [nb_chN] at C3
  generalize (sumsL 0 (pzs ps)).length = m at *
  clear hI hb3
  go_wp2_with fail
  ((with_reducible refine C3.out.mono ?_); rintro e w4 ⟨rfl, hb4⟩)
  replace hb := bto hb hb4
  go_wp2
  go_ret2
  exact ⟨by rw [HV.out]; rfl, hb⟩
/-- what Value returns -/
def valV (ps : List Pay) (l l' : List UInt8) : Value := if ¬ payE ps = 0 ∨ ¬ (l = fN (fv l l') ∧ l' = fD (fv l l')) then .tuple #[.agg #[.string ⟨#[]⟩, .string ⟨#[]⟩], .int .i64 1] else if fv l l' ≤ 0 then .tuple #[.agg #[.string ⟨#[]⟩, .string ⟨#[]⟩], .int .i64 2] else .tuple #[(Value.agg #[Value.string ⟨List.toArray (fN (valQ (fv l l') (pzs ps)))⟩, Value.string ⟨List.toArray (fD (valQ (fv l l') (pzs ps)))⟩]), .int .i64 0]
theorem cmpQ_le0 (q : Rat) : cmpQ q 0 ≤ 0 ↔ q ≤ 0 := by
  have h := (cmpQ_sq (s := 1) (.inl rfl) q).1
  rw [Int.one_mul] at h
  have e : sq 1 q = q := by unfold sq; rw [show ((1 : Int) : Rat) = 1 from rfl, Rat.one_mul]
  rwa [e] at h
set_option maxHeartbeats 2000000 in
set_option maxRecDepth 100000 in
theorem mwVal (A : Option Addr) (ps : List Pay) (n c : Nat) (l l' : List UInt8) (w : World) (hG : Glob w) (h : PL w A ps n) (hl : l.length ≤ 60) (hl' : l'.length ≤ 60) (hV : payE ps = 0 → 0 < fv l l' → ValAt ps (fv l l')) :
    Calls Tryz.prog 25 #[.slice A n c, (Value.agg #[Value.string ⟨List.toArray l⟩, Value.string ⟨List.toArray l'⟩])] w fun e w' => e = .returned (valV ps l l') ∧ Below w.heap.size w w' := by
  have C1 := Lib.hid (mwCheckB hG h c)
  have x3 := (FBox.new w (.string ⟨l.toArray⟩) (.string ⟨l'.toArray⟩) 30).below (below_alloc _ (.cells #[.string ⟨#[]⟩, .string ⟨#[]⟩] 30))
  have x4 := FBox.new (w.alloc (.cells #[.string ⟨l.toArray⟩, .string ⟨l'.toArray⟩] 30)) (.string ⟨#[]⟩) (.string ⟨#[]⟩) 30
  have hb := bto (below_alloc w (.cells #[.string ⟨l.toArray⟩, .string ⟨l'.toArray⟩] 30)) (below_alloc _ (.cells #[.string ⟨#[]⟩, .string ⟨#[]⟩] 30))
  simp only [World.size_alloc] at x4
  have q0 := x3.c0
  have q1 := x3.c1
  have g0 := x4.c0
  have g1 := x4.c1
  have g2 := x4.f0
  have g3 := x4.f1
  have y3 := x3
  clear x3
  by_cases g : payE ps = 0
  rotate_left
  · have HV : Hid (valV ps l l' = .tuple #[.agg #[.string ⟨#[]⟩, .string ⟨#[]⟩], .int .i64 1]) := if_pos (.inl g)
    have e1 : (payE ps != 0) = true := bneq' (intbne g)
    generalize payE ps = E at *
    clear g h hV
    go_enter Tryz.func25, Tryz.ntmps25
    go_wp2_with fail
    ((with_reducible refine (C1.out.of hG hb).mono ?_); rintro e w2 ⟨rfl, hb2⟩)
    replace x4 := x4.below hb2
    replace hb := bto hb hb2
    replace y3 := y3.below hb2
    replace q0 := y3.c0
    replace q1 := y3.c1
    replace g0 := x4.c0
    replace g1 := x4.c1
    replace g2 := x4.f0
    replace g3 := x4.f1
    clear hb2
    go_wp2
    have hy := x4.set (.string ⟨#[]⟩) (.string ⟨#[]⟩)
    have d0 := hy.c0
    have d1 := hy.c1
    refine bodyPost_ret (v := .tuple #[.agg #[.string ⟨#[]⟩, .string ⟨#[]⟩], .int .i64 1]) (by simp [results, Tryz.results25, go_sem, d0, d1]) rfl ?_
    exact ⟨by rw [HV.out], below_set2 hb (by omega) _ _⟩
  rw [g] at C1
  have C2 := Lib.hid (rCheck (isq_raw hl hl' (by decide)) rfl)
  by_cases gc : l = fN (fv l l') ∧ l' = fD (fv l l')
  rotate_left
  · have HV : Hid (valV ps l l' = .tuple #[.agg #[.string ⟨#[]⟩, .string ⟨#[]⟩], .int .i64 1]) := if_pos (.inr gc)
    rw [if_neg gc] at C2
    clear g gc h hV
    go_enter Tryz.func25, Tryz.ntmps25
    go_wp2_with fail
    ((with_reducible refine (C1.out.of hG hb).mono ?_); rintro e w2 ⟨rfl, hb2⟩)
    replace x4 := x4.below hb2
    replace hb := bto hb hb2
    replace y3 := y3.below hb2
    replace q0 := y3.c0
    replace q1 := y3.c1
    replace g0 := x4.c0
    replace g1 := x4.c1
    replace g2 := x4.f0
    replace g3 := x4.f1
    clear hb2
    go_wp2_with fail
    ((with_reducible refine (C2.out.of hG hb).mono ?_); rintro e w3 ⟨rfl, hb3⟩)
    replace x4 := x4.below hb3
    replace hb := bto hb hb3
    replace y3 := y3.below hb3
    replace q0 := y3.c0
    replace q1 := y3.c1
    replace g0 := x4.c0
    replace g1 := x4.c1
    replace g2 := x4.f0
    replace g3 := x4.f1
    clear hb3
    go_wp2
    have hy := x4.set (.string ⟨#[]⟩) (.string ⟨#[]⟩)
    have d0 := hy.c0
    have d1 := hy.c1
    refine bodyPost_ret (v := .tuple #[.agg #[.string ⟨#[]⟩, .string ⟨#[]⟩], .int .i64 1]) (by simp [results, Tryz.results25, go_sem, d0, d1]) rfl ?_
    exact ⟨by rw [HV.out], below_set2 hb (by omega) _ _⟩
  have C3 := Lib.hid (rCompare (isq_raw hl hl' (by decide)) isq_zero rfl)
  rw [if_pos gc] at C2
  by_cases gp : fv l l' ≤ 0
  · have HV : Hid (valV ps l l' = .tuple #[.agg #[.string ⟨#[]⟩, .string ⟨#[]⟩], .int .i64 2]) := by show _ = _; unfold valV; rw [if_neg (by rintro (h | h); exact h g; exact h gc), if_pos gp]
    have e1 : decide (cmpQ (fv l l') 0 ≤ 0) = true := decide_eq_true ((cmpQ_le0 _).2 gp)
    generalize cmpQ (fv l l') 0 = s at *
    clear g gc gp h hV
    go_enter Tryz.func25, Tryz.ntmps25
    go_wp2_with fail
    ((with_reducible refine (C1.out.of hG hb).mono ?_); rintro e w2 ⟨rfl, hb2⟩)
    replace x4 := x4.below hb2
    replace hb := bto hb hb2
    replace y3 := y3.below hb2
    replace q0 := y3.c0
    replace q1 := y3.c1
    replace g0 := x4.c0
    replace g1 := x4.c1
    replace g2 := x4.f0
    replace g3 := x4.f1
    clear hb2
    go_wp2_with fail
    ((with_reducible refine (C2.out.of hG hb).mono ?_); rintro e w3 ⟨rfl, hb3⟩)
    replace x4 := x4.below hb3
    replace hb := bto hb hb3
    replace y3 := y3.below hb3
    replace q0 := y3.c0
    replace q1 := y3.c1
    replace g0 := x4.c0
    replace g1 := x4.c1
    replace g2 := x4.f0
    replace g3 := x4.f1
    clear hb3
    go_wp2_with fail
    ((with_reducible refine (C3.out.of hG hb).mono ?_); rintro e w4 ⟨rfl, hb4⟩)
    replace x4 := x4.below hb4
    replace hb := bto hb hb4
    replace y3 := y3.below hb4
    replace q0 := y3.c0
    replace q1 := y3.c1
    replace g0 := x4.c0
    replace g1 := x4.c1
    replace g2 := x4.f0
    replace g3 := x4.f1
    clear hb4
    go_wp2
    have hy := x4.set (.string ⟨#[]⟩) (.string ⟨#[]⟩)
    have d0 := hy.c0
    have d1 := hy.c1
    refine bodyPost_ret (v := .tuple #[.agg #[.string ⟨#[]⟩, .string ⟨#[]⟩], .int .i64 2]) (by simp [results, Tryz.results25, go_sem, d0, d1]) rfl ?_
    exact ⟨by rw [HV.out], below_set2 hb (by omega) _ _⟩
  have HV : Hid (valV ps l l' = .tuple #[(Value.agg #[Value.string ⟨List.toArray (fN (valQ (fv l l') (pzs ps)))⟩, Value.string ⟨List.toArray (fD (valQ (fv l l') (pzs ps)))⟩]), .int .i64 0]) := by show _ = _; unfold valV; rw [if_neg (by rintro (h | h); exact h g; exact h gc), if_neg gp]
  have e1 : decide (cmpQ (fv l l') 0 ≤ 0) = false := decide_eq_false (fun h => gp ((cmpQ_le0 _).1 h))
  have C4 := Lib.hid (mwValueB hG h (hV g (by grind)) c)
  rw [← gc.1, ← gc.2] at C4
  generalize cmpQ (fv l l') 0 = s at *
  generalize valQ (fv l l') (pzs ps) = V at *
  clear g gc gp h hV
  go_enter Tryz.func25, Tryz.ntmps25
  go_wp2_with fail
  ((with_reducible refine (C1.out.of hG hb).mono ?_); rintro e w2 ⟨rfl, hb2⟩)
  replace x4 := x4.below hb2
  replace hb := bto hb hb2
  replace y3 := y3.below hb2
  replace q0 := y3.c0
  replace q1 := y3.c1
  replace g0 := x4.c0
  replace g1 := x4.c1
  replace g2 := x4.f0
  replace g3 := x4.f1
  clear hb2
  go_wp2_with fail
  ((with_reducible refine (C2.out.of hG hb).mono ?_); rintro e w3 ⟨rfl, hb3⟩)
  replace x4 := x4.below hb3
  replace hb := bto hb hb3
  replace y3 := y3.below hb3
  replace q0 := y3.c0
  replace q1 := y3.c1
  replace g0 := x4.c0
  replace g1 := x4.c1
  replace g2 := x4.f0
  replace g3 := x4.f1
  clear hb3
  go_wp2_with fail
  ((with_reducible refine (C3.out.of hG hb).mono ?_); rintro e w4 ⟨rfl, hb4⟩)
  replace x4 := x4.below hb4
  replace hb := bto hb hb4
  replace y3 := y3.below hb4
  replace q0 := y3.c0
  replace q1 := y3.c1
  replace g0 := x4.c0
  replace g1 := x4.c1
  replace g2 := x4.f0
  replace g3 := x4.f1
  clear hb4
  go_wp2_with fail
  ((with_reducible refine (C4.out.of hG hb).mono ?_); rintro e w5 ⟨rfl, hb5⟩)
  replace x4 := x4.below hb5
  replace hb := bto hb hb5
  replace y3 := y3.below hb5
  replace q0 := y3.c0
  replace q1 := y3.c1
  replace g0 := x4.c0
  replace g1 := x4.c1
  replace g2 := x4.f0
  replace g3 := x4.f1
  clear hb5
  go_wp2
  have hy := x4.set (.string ⟨(fN V).toArray⟩) (.string ⟨(fD V).toArray⟩)
  have d0 := hy.c0
  have d1 := hy.c1
  refine bodyPost_ret (v := .tuple #[(Value.agg #[Value.string ⟨List.toArray (fN V)⟩, Value.string ⟨List.toArray (fD V)⟩]), .int .i64 0]) (by simp [results, Tryz.results25, go_sem, d0, d1]) rfl ?_
  exact ⟨by rw [HV.out], below_set2 hb (by omega) _ _⟩
set_option maxHeartbeats 2000000 in
set_option maxRecDepth 100000 in
theorem mrVal (A : Option Addr) (ps : List Pay) (n c : Nat) (l l' : List UInt8) (w : World) (hG : Glob w) (h : PL w A ps n) (hl : l.length ≤ 60) (hl' : l'.length ≤ 60) (hV : payE ps = 0 → 0 < fv l l' → ValAt ps (fv l l')) :
    Calls Tryz.prog 26 #[.slice A n c, (Value.agg #[Value.string ⟨List.toArray l⟩, Value.string ⟨List.toArray l'⟩])] w fun e w' => e = .returned (valV ps l l') ∧ Below w.heap.size w w' := by
  have C1 := Lib.hid (mrCheckB hG h c)
  have x3 := (FBox.new w (.string ⟨l.toArray⟩) (.string ⟨l'.toArray⟩) 30).below (below_alloc _ (.cells #[.string ⟨#[]⟩, .string ⟨#[]⟩] 30))
  have x4 := FBox.new (w.alloc (.cells #[.string ⟨l.toArray⟩, .string ⟨l'.toArray⟩] 30)) (.string ⟨#[]⟩) (.string ⟨#[]⟩) 30
  have hb := bto (below_alloc w (.cells #[.string ⟨l.toArray⟩, .string ⟨l'.toArray⟩] 30)) (below_alloc _ (.cells #[.string ⟨#[]⟩, .string ⟨#[]⟩] 30))
  simp only [World.size_alloc] at x4
  have q0 := x3.c0
  have q1 := x3.c1
  have g0 := x4.c0
  have g1 := x4.c1
  have g2 := x4.f0
  have g3 := x4.f1
  have y3 := x3
  clear x3
  by_cases g : payE ps = 0
  rotate_left
  · have HV : Hid (valV ps l l' = .tuple #[.agg #[.string ⟨#[]⟩, .string ⟨#[]⟩], .int .i64 1]) := if_pos (.inl g)
    have e1 : (payE ps != 0) = true := bneq' (intbne g)
    generalize payE ps = E at *
    clear g h hV
    go_enter Tryz.func26, Tryz.ntmps26
    go_wp2_with fail
    ((with_reducible refine (C1.out.of hG hb).mono ?_); rintro e w2 ⟨rfl, hb2⟩)
    replace x4 := x4.below hb2
    replace hb := bto hb hb2
    replace y3 := y3.below hb2
    replace q0 := y3.c0
    replace q1 := y3.c1
    replace g0 := x4.c0
    replace g1 := x4.c1
    replace g2 := x4.f0
    replace g3 := x4.f1
    clear hb2
    go_wp2
    have hy := x4.set (.string ⟨#[]⟩) (.string ⟨#[]⟩)
    have d0 := hy.c0
    have d1 := hy.c1
    refine bodyPost_ret (v := .tuple #[.agg #[.string ⟨#[]⟩, .string ⟨#[]⟩], .int .i64 1]) (by simp [results, Tryz.results26, go_sem, d0, d1]) rfl ?_
    exact ⟨by rw [HV.out], below_set2 hb (by omega) _ _⟩
  rw [g] at C1
  have C2 := Lib.hid (sCheck (l := l) (l' := l') (by omega) (by omega) rfl rfl)
  by_cases gc : l = fN (fv l l') ∧ l' = fD (fv l l')
  rotate_left
  · have HV : Hid (valV ps l l' = .tuple #[.agg #[.string ⟨#[]⟩, .string ⟨#[]⟩], .int .i64 1]) := if_pos (.inr gc)
    rw [if_neg gc] at C2
    clear g gc h hV
    go_enter Tryz.func26, Tryz.ntmps26
    go_wp2_with fail
    ((with_reducible refine (C1.out.of hG hb).mono ?_); rintro e w2 ⟨rfl, hb2⟩)
    replace x4 := x4.below hb2
    replace hb := bto hb hb2
    replace y3 := y3.below hb2
    replace q0 := y3.c0
    replace q1 := y3.c1
    replace g0 := x4.c0
    replace g1 := x4.c1
    replace g2 := x4.f0
    replace g3 := x4.f1
    clear hb2
    go_wp2_with fail
    ((with_reducible refine (C2.out.of hG hb).mono ?_); rintro e w3 ⟨rfl, hb3⟩)
    replace x4 := x4.below hb3
    replace hb := bto hb hb3
    replace y3 := y3.below hb3
    replace q0 := y3.c0
    replace q1 := y3.c1
    replace g0 := x4.c0
    replace g1 := x4.c1
    replace g2 := x4.f0
    replace g3 := x4.f1
    clear hb3
    go_wp2
    have hy := x4.set (.string ⟨#[]⟩) (.string ⟨#[]⟩)
    have d0 := hy.c0
    have d1 := hy.c1
    refine bodyPost_ret (v := .tuple #[.agg #[.string ⟨#[]⟩, .string ⟨#[]⟩], .int .i64 1]) (by simp [results, Tryz.results26, go_sem, d0, d1]) rfl ?_
    exact ⟨by rw [HV.out], below_set2 hb (by omega) _ _⟩
  have C3 := Lib.hid (sSign (l := l) (l' := l') (by omega) (by omega) rfl)
  rw [if_pos gc] at C2
  by_cases gp : fv l l' ≤ 0
  · have HV : Hid (valV ps l l' = .tuple #[.agg #[.string ⟨#[]⟩, .string ⟨#[]⟩], .int .i64 2]) := by show _ = _; unfold valV; rw [if_neg (by rintro (h | h); exact h g; exact h gc), if_pos gp]
    have e1 : decide (cmpQ (fv l l') 0 ≤ 0) = true := decide_eq_true ((cmpQ_le0 _).2 gp)
    generalize cmpQ (fv l l') 0 = s at *
    clear g gc gp h hV
    go_enter Tryz.func26, Tryz.ntmps26
    go_wp2_with fail
    ((with_reducible refine (C1.out.of hG hb).mono ?_); rintro e w2 ⟨rfl, hb2⟩)
    replace x4 := x4.below hb2
    replace hb := bto hb hb2
    replace y3 := y3.below hb2
    replace q0 := y3.c0
    replace q1 := y3.c1
    replace g0 := x4.c0
    replace g1 := x4.c1
    replace g2 := x4.f0
    replace g3 := x4.f1
    clear hb2
    go_wp2_with fail
    ((with_reducible refine (C2.out.of hG hb).mono ?_); rintro e w3 ⟨rfl, hb3⟩)
    replace x4 := x4.below hb3
    replace hb := bto hb hb3
    replace y3 := y3.below hb3
    replace q0 := y3.c0
    replace q1 := y3.c1
    replace g0 := x4.c0
    replace g1 := x4.c1
    replace g2 := x4.f0
    replace g3 := x4.f1
    clear hb3
    go_wp2_with fail
    ((with_reducible refine (C3.out.of hG hb).mono ?_); rintro e w4 ⟨rfl, hb4⟩)
    replace x4 := x4.below hb4
    replace hb := bto hb hb4
    replace y3 := y3.below hb4
    replace q0 := y3.c0
    replace q1 := y3.c1
    replace g0 := x4.c0
    replace g1 := x4.c1
    replace g2 := x4.f0
    replace g3 := x4.f1
    clear hb4
    go_wp2
    have hy := x4.set (.string ⟨#[]⟩) (.string ⟨#[]⟩)
    have d0 := hy.c0
    have d1 := hy.c1
    refine bodyPost_ret (v := .tuple #[.agg #[.string ⟨#[]⟩, .string ⟨#[]⟩], .int .i64 2]) (by simp [results, Tryz.results26, go_sem, d0, d1]) rfl ?_
    exact ⟨by rw [HV.out], below_set2 hb (by omega) _ _⟩
  have HV : Hid (valV ps l l' = .tuple #[(Value.agg #[Value.string ⟨List.toArray (fN (valQ (fv l l') (pzs ps)))⟩, Value.string ⟨List.toArray (fD (valQ (fv l l') (pzs ps)))⟩]), .int .i64 0]) := by show _ = _; unfold valV; rw [if_neg (by rintro (h | h); exact h g; exact h gc), if_neg gp]
  have e1 : decide (cmpQ (fv l l') 0 ≤ 0) = false := decide_eq_false (fun h => gp ((cmpQ_le0 _).1 h))
  have C4 := Lib.hid (mrValueOfB hG h (hV g (by grind)) c)
  rw [← gc.1, ← gc.2] at C4
  generalize cmpQ (fv l l') 0 = s at *
  generalize valQ (fv l l') (pzs ps) = V at *
  clear g gc gp h hV
  go_enter Tryz.func26, Tryz.ntmps26
  go_wp2_with fail
  ((with_reducible refine (C1.out.of hG hb).mono ?_); rintro e w2 ⟨rfl, hb2⟩)
  replace x4 := x4.below hb2
  replace hb := bto hb hb2
  replace y3 := y3.below hb2
  replace q0 := y3.c0
  replace q1 := y3.c1
  replace g0 := x4.c0
  replace g1 := x4.c1
  replace g2 := x4.f0
  replace g3 := x4.f1
  clear hb2
  go_wp2_with fail
  ((with_reducible refine (C2.out.of hG hb).mono ?_); rintro e w3 ⟨rfl, hb3⟩)
  replace x4 := x4.below hb3
  replace hb := bto hb hb3
  replace y3 := y3.below hb3
  replace q0 := y3.c0
  replace q1 := y3.c1
  replace g0 := x4.c0
  replace g1 := x4.c1
  replace g2 := x4.f0
  replace g3 := x4.f1
  clear hb3
  go_wp2_with fail
  ((with_reducible refine (C3.out.of hG hb).mono ?_); rintro e w4 ⟨rfl, hb4⟩)
  replace x4 := x4.below hb4
  replace hb := bto hb hb4
  replace y3 := y3.below hb4
  replace q0 := y3.c0
  replace q1 := y3.c1
  replace g0 := x4.c0
  replace g1 := x4.c1
  replace g2 := x4.f0
  replace g3 := x4.f1
  clear hb4
  go_wp2_with fail
  ((with_reducible refine (C4.out.of hG hb).mono ?_); rintro e w5 ⟨rfl, hb5⟩)
  replace x4 := x4.below hb5
  replace hb := bto hb hb5
  replace y3 := y3.below hb5
  replace q0 := y3.c0
  replace q1 := y3.c1
  replace g0 := x4.c0
  replace g1 := x4.c1
  replace g2 := x4.f0
  replace g3 := x4.f1
  clear hb5
  go_wp2
  have hy := x4.set (.string ⟨(fN V).toArray⟩) (.string ⟨(fD V).toArray⟩)
  have d0 := hy.c0
  have d1 := hy.c1
  refine bodyPost_ret (v := .tuple #[(Value.agg #[Value.string ⟨List.toArray (fN V)⟩, Value.string ⟨List.toArray (fD V)⟩]), .int .i64 0]) (by simp [results, Tryz.results26, go_sem, d0, d1]) rfl ?_
  exact ⟨by rw [HV.out], below_set2 hb (by omega) _ _⟩
end Go.Proofs.YtolbojchdlojnaaGreatDoor
