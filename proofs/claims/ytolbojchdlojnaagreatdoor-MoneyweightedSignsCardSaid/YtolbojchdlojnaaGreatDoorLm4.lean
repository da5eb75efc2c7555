/- MoneyweightedSigns. -/
import Derived.Test.YtolbojchdlojnaaGreatDoorLm3
namespace Go.Proofs.YtolbojchdlojnaaGreatDoor
open Go.RowKit Num
/-- a group's sum, on the way: from k on to j, of the period pe, z so far -/
def Grp (ps : List Pay) (k : Nat) (pe : Int) (j : Nat) (z : Int) : Prop := (j = k ∧ z = 0) ∨ (k < j ∧ sumsL 0 (pzs (ps.drop k)) = if (ps[j]?).map (·.per) = some pe then sumsL z (pzs (ps.drop j)) else if z = 0 then sumsL 0 (pzs (ps.drop j)) else z :: sumsL 0 (pzs (ps.drop j)))
theorem Grp.step {ps : List Pay} {k j : Nat} {pe z : Int} {t : Pay} (h : Grp ps k pe j z) (ht : ps[j]? = some t) (hp : t.per = pe) : Grp ps k pe (j + 1) (z + val t.amt) := by
  have h1 : sumsL 0 (pzs (ps.drop k)) = sumsL z (pzs (ps.drop j)) ∧ k ≤ j := by
    rcases h with ⟨rfl, rfl⟩ | ⟨h1, h2⟩
    · exact ⟨rfl, Nat.le_refl _⟩
    · rw [ht, if_pos (by rw [← hp]; rfl)] at h2
      exact ⟨h2, Nat.le_of_lt h1⟩
  refine .inr ⟨by omega, ?_⟩
  rw [h1.1, sums_next ht z, hp]
theorem Grp.done {ps : List Pay} {k j : Nat} {pe z : Int} (h : Grp ps k pe j z) (hk : j ≠ k) (hn : (ps[j]?).map (·.per) ≠ some pe) : k < j ∧ sumsL 0 (pzs (ps.drop k)) = (if z = 0 then [] else [z]) ++ sumsL 0 (pzs (ps.drop j)) := by
  rcases h with ⟨h1, -⟩ | ⟨h1, h2⟩
  · exact absurd h1 hk
  · rw [if_neg hn] at h2
    refine ⟨h1, ?_⟩
    rw [h2]
    by_cases hz : z = 0
    · rw [if_pos hz, if_pos hz]; rfl
    · rw [if_neg hz, if_neg hz]; rfl
theorem abs_more {z v : Int} {N j : Nat} (h : z.natAbs < 10 ^ (N + j)) (hv : v.natAbs < 10 ^ N) : (z + v).natAbs < 10 ^ (N + (j + 1)) := abs_step h hv
theorem place_pos {s : Int} {l : List PZ} {x : Rat} (hx : 0 < x) : placeQ s l x = s * cmpQ (valQ x l) 0 := if_neg (by grind)
theorem ver_same {ps : List Pay} {x : Rat} {s : Int} (h0 : payE ps = 0) (hc : chN (sumsL 0 (pzs ps)) = 1) (hs : sg1 (sumsL 0 (pzs ps)) = s) (hx : 0 < x) : verE ps (fN x) (fD x) (fN x) (fD x) = if s * cmpQ (valQ x (pzs ps)) 0 = 0 then 0 else 20 := by
  unfold verE
  rw [if_neg (by rintro (h | h | h); exact h h0; exact h (fr_isFr _); exact h (fr_isFr _)), fv_frac, if_neg (by grind), if_neg (by grind), if_neg (fun h => h hc), hs, place_pos hx]
  by_cases h : s * cmpQ (valQ x (pzs ps)) 0 = 0
  · rw [if_pos h, if_neg (by rintro (g | g) <;> omega)]
  · rw [if_neg h, if_pos (by omega)]
set_option maxHeartbeats 8000000 in
set_option maxRecDepth 100000 in
theorem msigns_law (A : Option Addr) (ps : List Pay) (n c : Nat) (l l' : List UInt8) (w : World) (hG : Glob w) (hn : ps.length = n) (hnm : n ≤ 9223372036854775807) (hI : PayAt w A ps) :
    Calls Tryz.prog 9 #[.slice A n c, (Value.agg #[Value.string ⟨List.toArray l⟩, Value.string ⟨List.toArray l'⟩])] w fun e w' => e = .returned (.bool true) ∧ Below w.heap.size w w' := by
  have CW := Lib.hid wAwake47
  have CL := Lib.hid (wLong l l')
  have HI := Lib.hid hI
  have x3 := FBox.new w (.string ⟨l.toArray⟩) (.string ⟨l'.toArray⟩) 30
  have hb := below_alloc w (.cells #[.string ⟨l.toArray⟩, .string ⟨l'.toArray⟩] 30)
  clear hI
  go_enter Tryz.func9, Tryz.ntmps9
  go_wp2_with fail
  ((with_reducible refine (wFine A ps n c _ (hG.below hb) hn hnm (HI.out.below hb)).mono ?_); rintro e w1 ⟨g, rfl, hgd, hb1⟩)
  replace x3 := x3.below hb1
  replace hb := bto hb hb1
  clear hb1
  cases g
  · clear hgd
    clear x3
    go_wp2_with fail
    ((with_reducible refine (CW.out.of hG hb).mono ?_); rintro e w2 ⟨rfl, hb2⟩)
    replace hb := bto hb hb2
    clear hb2
    go_wp2
    go_ret
    exact ⟨rfl, hb⟩
  obtain ⟨hgood, hok, hch⟩ := hgd rfl
  clear hgd hn hnm
  have qx3_0 := x3.c0
  have qx3_1 := x3.c1
  go_wp2_with fail
  ((with_reducible refine (CL.out.of hG hb).mono ?_); rintro e w2 ⟨rfl, hb2⟩)
  clear qx3_0 qx3_1
  replace x3 := x3.below hb2
  replace hb := bto hb hb2
  clear hb2
  cases hlong : longF l l'
  rotate_left
  · clear x3
    go_wp2_with fail
    ((with_reducible refine (CW.out.of hG hb).mono ?_); rintro e w3 ⟨rfl, hb3⟩)
    replace hb := bto hb hb3
    clear hb3
    go_wp2
    go_ret
    exact ⟨rfl, hb⟩
  obtain ⟨h0, h1⟩ := longF_f hlong
  clear hlong
  have C1 := Lib.hid (rCheck (isq_raw h0 h1 (by decide)) rfl)
  by_cases gc : isFr l l'
  rotate_left
  · rw [if_neg gc] at C1
    have qx3_0 := x3.c0
    have qx3_1 := x3.c1
    go_wp2_with fail
    ((with_reducible refine (C1.out.of hG hb).mono ?_); rintro e w3 ⟨rfl, hb3⟩)
    clear qx3_0 qx3_1
    replace x3 := x3.below hb3
    replace hb := bto hb hb3
    clear hb3
    clear x3
    go_wp2_with fail
    ((with_reducible refine (CW.out.of hG hb).mono ?_); rintro e w4 ⟨rfl, hb4⟩)
    replace hb := bto hb hb4
    clear hb4
    go_wp2
    go_ret
    exact ⟨rfl, hb⟩
  rw [if_pos gc] at C1
  have HGc := Lib.hid gc
  clear gc
  have C2 := Lib.hid (wSign (isq_raw h0 h1 (by decide)) rfl)
  have qx3_0 := x3.c0
  have qx3_1 := x3.c1
  go_wp2_with fail
  ((with_reducible refine (C1.out.of hG hb).mono ?_); rintro e w3 ⟨rfl, hb3⟩)
  clear qx3_0 qx3_1
  replace x3 := x3.below hb3
  replace hb := bto hb hb3
  clear hb3
  have qx3_0 := x3.c0
  have qx3_1 := x3.c1
  go_wp2_with fail
  ((with_reducible refine (C2.out.of hG hb).mono ?_); rintro e w4 ⟨rfl, hb4⟩)
  clear qx3_0 qx3_1
  replace x3 := x3.below hb4
  replace hb := bto hb hb4
  clear hb4
  by_cases gp : fv l l' ≤ 0
  · have e1 : decide (cmpQ (fv l l') 0 ≤ 0) = true := decide_eq_true ((cmpQ_le _ _).2 gp)
    generalize cmpQ (fv l l') 0 = s0 at *
    clear x3
    go_wp2_with fail
    ((with_reducible refine (CW.out.of hG hb).mono ?_); rintro e w5 ⟨rfl, hb5⟩)
    replace hb := bto hb hb5
    clear hb5
    go_wp2
    go_ret
    exact ⟨rfl, hb⟩
  have e1 : decide (cmpQ (fv l l') 0 ≤ 0) = false := decide_eq_false (fun h => gp ((cmpQ_le _ _).1 h))
  generalize cmpQ (fv l l') 0 = s0 at *
  have hn8 : n ≤ 8 := by
    obtain ⟨-, h2, -⟩ := payE_ok hok
    have := hgood.sz; have := hgood.len; omega
  obtain ⟨-, -, hu, -⟩ := payE_ok hok
  obtain ⟨z, hz⟩ := root_is (pzs ps) 0 ((10 ^ (2 : Int).toNat : Nat) : Int) hu hch (u_pos _)
  have hB := bnd_good hgood hn8 hok (by decide) (by decide) hz
  have HP := Lib.hid (hgood.pl HI.out)
  have c3 : RetB w 14 #[.slice A n c, .int .i64 2] (bndV ps 2 z) := fun w' hb => mwBounds_ok A ps n c _ z 41 w' (hG.below hb) (HP.out.below hb) hok (by decide) (by decide) hch hB
  rw [show bndV ps 2 z = .tuple #[(Value.agg #[Value.string ⟨List.toArray (fN (Rat.divInt z ((10 ^ (2 : Int).toNat : Nat) : Int)))⟩, Value.string ⟨List.toArray (fD (Rat.divInt z ((10 ^ (2 : Int).toNat : Nat) : Int)))⟩]), (Value.agg #[Value.string ⟨List.toArray (fN (Rat.divInt (topZ (pzs ps) ((10 ^ (2 : Int).toNat : Nat) : Int) z) ((10 ^ (2 : Int).toNat : Nat) : Int)))⟩, Value.string ⟨List.toArray (fD (Rat.divInt (topZ (pzs ps) ((10 ^ (2 : Int).toNat : Nat) : Int) z) ((10 ^ (2 : Int).toNat : Nat) : Int)))⟩]), .int .i64 0] from by
    unfold bndV; rw [if_neg (fun h => h hok), if_neg (by omega), if_neg (fun h => h hch)]] at c3
  have hlen := hB.len
  have hu0 := u_pos 2
  have hu9 : (((10 ^ (2 : Int).toNat : Nat) : Int)).natAbs < 10 ^ 5 := by decide
  generalize ((10 ^ (2 : Int).toNat : Nat) : Int) = u at *
  have hzn := hz.nn
  have hbel := fun x (hx : (0 : Rat) < x) => Root.below hu hch hu0 hz hx
  have habv := fun x => Root.above hu hch hu0 hz (x := x)
  obtain ⟨tp1, tp2⟩ := top_le (l := pzs ps) (u := u) (z := z)
  have htl := divInt_le' (u := u) tp1 hu0
  generalize topZ (pzs ps) u z = top at *
  have hq0 : 0 < fv l l' := by grind
  have hVA := good_val hgood hok (bd_fv h0 h1 (by decide)) (by decide)
  have c4 : RetB w 25 #[.slice A n c, (Value.agg #[Value.string ⟨List.toArray l⟩, Value.string ⟨List.toArray l'⟩])] (.tuple #[(Value.agg #[Value.string ⟨List.toArray (fN (valQ (fv l l') (pzs ps)))⟩, Value.string ⟨List.toArray (fD (valQ (fv l l') (pzs ps)))⟩]), .int .i64 0]) := fun w' hb => by
    have := mwVal A ps n c l l' w' (hG.below hb) (HP.out.below hb) (by omega) (by omega) (fun _ _ => hVA)
    unfold valV at this
    rwa [if_neg (by rintro (h | h); exact h hok; exact h HGc.out), if_neg gp] at this
  have c5 : RetB w 34 #[.slice A n c, (Value.agg #[Value.string ⟨List.toArray l⟩, Value.string ⟨List.toArray l'⟩]), (Value.agg #[Value.string ⟨List.toArray l⟩, Value.string ⟨List.toArray l'⟩])] (.int .i64 (if sg1 (sumsL 0 (pzs ps)) * cmpQ (valQ (fv l l') (pzs ps)) 0 = 0 then 0 else 20)) := fun w' hb => by
    have := mwVerify A ps n c l l' l l' w' (hG.below hb) (HP.out.below hb) (by omega) (by omega) (by omega) (by omega) (fun _ _ => hVA) (fun _ _ => hVA)
    have h9 := ver_same hok hch rfl hq0
    rw [← HGc.out.1, ← HGc.out.2] at h9
    rwa [h9] at this
  have B1 : Bd 41 (Rat.divInt z u) := bd_divInt (by omega) (by omega) (by omega)
  have B2 : Bd 41 (Rat.divInt top u) := bd_divInt (by omega) (by omega) (by omega)
  have C6 := Lib.hid (rCompare (isq_raw h0 h1 (by decide)) (isq_fr B1 (by decide)) rfl)
  have C7 := Lib.hid (rCompare (isq_raw h0 h1 (by decide)) (isq_fr B2 (by decide)) rfl)
  have C8 := Lib.hid (rCompare (isq_fr B1 (by decide)) (isq_raw h0 h1 (by decide)) rfl)
  have C9 := Lib.hid (wSign (isq_fr hVA.bd.1 (by decide)) rfl)
  have hsg := sg1_cases hch
  have hfold := sgFold_eq _ (sums_ne (pzs ps))
  rw [last_first hch] at hfold
  have hbelq := hbel _ hq0
  have habvq := habv (fv l l')
  have HFold := Lib.hid hfold
  generalize sg1 (sumsL 0 (pzs ps)) = s at *
  generalize fv l l' = q at *
  generalize valQ q (pzs ps) = V at *
  generalize Rat.divInt z u = q1 at *
  generalize Rat.divInt top u = q2 at *
  have C3 := Lib.hid c3
  have C4 := Lib.hid c4
  have C5 := Lib.hid c5
  have HBel := Lib.hid hbelq
  have HAbv := Lib.hid habvq
  have HTl := Lib.hid htl
  have hn1 : ps.length ≤ n := by have := hgood.len; omega
  have hn2 : n ≤ ps.length := by have := hgood.len; omega
  have HS0 : Hid (∀ p ∈ ps, p.amt.length ≤ 13) := hgood.am
  clear c3 c4 c5 C1 C2 gp HGc hbel habv hbelq habvq htl B1 B2 hVA hB hlen hu9 hzn tp1 tp2 hok hch hgood hu0 hz hu h0 h1 hq0 hfold
  go_wp2_with fail
  ((with_reducible refine (C3.out.of hG hb).mono ?_); rintro e w5 ⟨rfl, hb5⟩)
  replace x3 := x3.below hb5
  replace hb := bto hb hb5
  clear hb5
  have x5 := FBox.new w5 (.string ⟨(fN q1).toArray⟩) (.string ⟨(fD q1).toArray⟩) 30
  have hbA := below_alloc w5 (.cells #[.string ⟨(fN q1).toArray⟩, .string ⟨(fD q1).toArray⟩] 30)
  replace x3 := x3.below hbA
  replace hb := bto hb hbA
  clear hbA
  have x6 := FBox.new (w5.alloc (.cells #[.string ⟨(fN q1).toArray⟩, .string ⟨(fD q1).toArray⟩] 30)) (.string ⟨(fN q2).toArray⟩) (.string ⟨(fD q2).toArray⟩) 30
  have hbA := below_alloc (w5.alloc (.cells #[.string ⟨(fN q1).toArray⟩, .string ⟨(fD q1).toArray⟩] 30)) (.cells #[.string ⟨(fN q2).toArray⟩, .string ⟨(fD q2).toArray⟩] 30)
  replace x3 := x3.below hbA
  replace x5 := x5.below hbA
  replace hb := bto hb hbA
  clear hbA
  simp only [World.size_alloc] at x3 x5 x6
  have qx3_0 := x3.c0
  have qx3_1 := x3.c1
  go_wp2_with fail
  ((with_reducible refine (C4.out.of hG hb).mono ?_); rintro e w6 ⟨rfl, hb6⟩)
  clear qx3_0 qx3_1
  replace x3 := x3.below hb6
  replace x5 := x5.below hb6
  replace x6 := x6.below hb6
  replace hb := bto hb hb6
  clear hb6
  replace x3 := x3.below (below_alloc w6 (.cells #[.string ⟨(fN V).toArray⟩, .string ⟨(fD V).toArray⟩] 30))
  replace x5 := x5.below (below_alloc w6 (.cells #[.string ⟨(fN V).toArray⟩, .string ⟨(fD V).toArray⟩] 30))
  replace x6 := x6.below (below_alloc w6 (.cells #[.string ⟨(fN V).toArray⟩, .string ⟨(fD V).toArray⟩] 30))
  have x8 := FBox.new w6 (.string ⟨(fN V).toArray⟩) (.string ⟨(fD V).toArray⟩) 30
  replace hb := bto hb (below_alloc w6 (.cells #[.string ⟨(fN V).toArray⟩, .string ⟨(fD V).toArray⟩] 30))
  go_wp2_with fail
  obtain ⟨w7, hw7⟩ : ∃ w7, w7 = w6.alloc (.cells #[.string ⟨(fN V).toArray⟩, .string ⟨(fD V).toArray⟩] 30) := ⟨_, rfl⟩
  rw [← hw7] at x3 x5 x6 x8 hb ⊢
  clear hw7
  go_loopw [10, 11, 12] (fun fv' lv iv wr => ∃ (k : Nat) (ys : List Int), k ≤ n ∧ iv = .int .i64 (k : Int) ∧ fv' = .int .i64 (sgFold ys).2.1 ∧ lv = .int .i64 (sgFold ys).2.2 ∧ Hid (ys ++ sumsL 0 (pzs (ps.drop k)) = sumsL 0 (pzs ps)) ∧ Below w7.heap.size w7 wr) (fun _ _ iv _ => n - (intOf iv).toNat)
  case atStart => exact ⟨0, [], Nat.zero_le _, rfl, rfl, rfl, by rw [List.drop_zero]; exact rfl, Below.refl _ _⟩
  case round =>
    obtain ⟨k, ys, hk, rfl, rfl, rfl, HQ, hbr⟩ := hrel
    by_cases hlk : k < n
    · obtain ⟨t, ht⟩ : ∃ t, ps[k]? = some t := ⟨_, List.getElem?_eq_getElem (by omega)⟩
      obtain ⟨b, o, rfl, hbs, p0, p1⟩ := (HI.out.below (bto hb hbr)) k t ht
      have G0 : Hid (Grp ps k t.per k 0) := .inl ⟨rfl, rfl⟩
      have HT := Lib.hid ht
      clear ht p1
      go_wp2_with fail
      clear p0
      go_loopw [12, 13] (fun iv sv wr => ∃ (j : Nat) (z : Int), k ≤ j ∧ j ≤ n ∧ iv = .int .i64 (j : Int) ∧ sv = .string ⟨(canon z).toArray⟩ ∧ Hid (z.natAbs < 10 ^ (13 + j)) ∧ Hid (Grp ps k t.per j z) ∧ Below w7.heap.size w7 wr) (fun iv _ _ => n - (intOf iv).toNat)
      case atStart => exact ⟨k, 0, Nat.le_refl _, hk, rfl, by rw [canon0], zero_pow, G0.out, hbr⟩
      case round =>
        clear hbr G0
        obtain ⟨j, z, hkj, hj, rfl, rfl, HZ, HGr, hbi⟩ := hrel
        by_cases hjn : j < n
        · obtain ⟨u, hu⟩ : ∃ u, ps[j]? = some u := ⟨_, List.getElem?_eq_getElem (by omega)⟩
          obtain ⟨b', o', hA', hbs', r0, r1⟩ := (HI.out.below (bto hb hbi)) j u hu
          obtain ⟨rfl, rfl⟩ : b = b' ∧ o = o' := by injection hA' with hA'; injection hA' with h1 h2; exact ⟨h1, h2⟩
          by_cases hper : u.per = t.per
          · have e2 : (u.per == t.per) = true := intbeq hper
            have hul := HS0.out u (List.mem_of_getElem? hu)
            have C10 := Lib.hid (riAdd (l := canon z) (l' := u.amt) (Nat.le_trans (canon_len_le _ _ HZ.out) (by omega)) (by omega) (show val (canon z) + val u.amt = z + val u.amt by rw [val_canon]))
            have HZ2 := Lib.hid (abs_more HZ.out (val_lt_of hul))
            have HG2 := Lib.hid (HGr.out.step hu hper)
            obtain ⟨z2, hz2⟩ : ∃ z2, z2 = z + val u.amt := ⟨_, rfl⟩
            rw [← hz2] at C10 HZ2 HG2
            clear hz2 hper hul hu hA' hbs' HZ HGr
            go_wp2_with fail
            ((with_reducible refine (C10.out.of hG (bto hb hbi)).mono ?_); rintro e w9 ⟨rfl, hb9⟩)
            replace hbi := bto hbi hb9
            clear hb9 C10 r0 r1
            go_wp2
            go_roundw
            case rel => exact ⟨j + 1, z2, by omega, by omega, by go_num, rfl, HZ2.out, HG2.out, hbi⟩
            case measure => simp [intOf]; omega
          · have e2 : (u.per == t.per) = false := intbne hper
            have hne : (ps[j]?).map (·.per) ≠ some t.per := by rw [hu]; intro h; injection h with h; exact hper h
            have hjk : j ≠ k := by rintro rfl; rw [HT.out] at hu; injection hu with hu; exact hper (by rw [hu])
            clear hper hu hA' hbs' r1
            have hd := HGr.out.done hjk hne
            obtain ⟨hkj2, hsum⟩ := hd
            have HQ1 : Hid (ys ++ ((if z = 0 then [] else [z]) ++ sumsL 0 (pzs (ps.drop j))) = sumsL 0 (pzs ps)) := by show _ = _; rw [← hsum]; exact HQ.out
            have C11 := Lib.hid (riCompare (l := canon z) (l' := []) (Nat.le_trans (canon_len_le _ _ HZ.out) (by omega)) (by decide) (c := cmpZ z 0) (by rw [val_canon, val_nil]))
            clear hne hsum HGr HQ HZ hjk
            go_wp2_with fail
            ((with_reducible refine (C11.out.of hG (bto hb hbi)).mono ?_); rintro e w9 ⟨rfl, hb9⟩)
            replace hbi := bto hbi hb9
            clear hb9 C11
            by_cases hz0 : z = 0
            · have e3 : (cmpZ z 0 != 0) = false := by rw [hz0]; rfl
              have HQ2 : Hid (ys ++ sumsL 0 (pzs (ps.drop j)) = sumsL 0 (pzs ps)) := by have h1 := HQ1.out; rw [if_pos hz0] at h1; exact h1
              generalize cmpZ z 0 = sz at *
              clear hz0 HQ1
              go_wp2
              go_roundw
              case rel => exact ⟨j, ys, by omega, rfl, rfl, rfl, HQ2.out, hbi⟩
              case measure => simp [intOf]; omega
            have e3 : (cmpZ z 0 != 0) = true := bneq' (intbne (cmpZ_ne hz0))
            have HQ2 : Hid (ys ++ [z] ++ sumsL 0 (pzs (ps.drop j)) = sumsL 0 (pzs ps)) := by have h1 := HQ1.out; rw [if_neg hz0] at h1; show _ = _; rw [List.append_assoc]; exact h1
            have HSt : Hid (sgFold (ys ++ [z]) = sgStep (sgFold ys) z) := sgFold_snoc ys z
            by_cases hf0 : (sgFold ys).2.1 = 0
            · have e4 : ((sgFold ys).2.1 == 0) = true := intbeq hf0
              have H1 : Hid ((sgFold (ys ++ [z])).2.1 = cmpZ z 0) := by show _ = _; rw [HSt.out]; exact if_pos hf0
              have H2 : Hid ((sgFold (ys ++ [z])).2.2 = cmpZ z 0) := by show _ = _; rw [HSt.out]; rfl
              generalize cmpZ z 0 = sz at *
              clear hz0 HQ1 hf0 HSt
              go_wp2
              go_roundw
              case rel => exact ⟨j, ys ++ [z], by omega, rfl, by rw [H1.out], by rw [H2.out], HQ2.out, hbi⟩
              case measure => simp [intOf]; omega
            · have e4 : ((sgFold ys).2.1 == 0) = false := intbne hf0
              have H1 : Hid ((sgFold (ys ++ [z])).2.1 = (sgFold ys).2.1) := by show _ = _; rw [HSt.out]; exact if_neg hf0
              have H2 : Hid ((sgFold (ys ++ [z])).2.2 = cmpZ z 0) := by show _ = _; rw [HSt.out]; rfl
              generalize cmpZ z 0 = sz at *
              clear hz0 HQ1 hf0 HSt
              go_wp2
              go_roundw
              case rel => exact ⟨j, ys ++ [z], by omega, rfl, by rw [H1.out], by rw [H2.out], HQ2.out, hbi⟩
              case measure => simp [intOf]; omega
        · have hne : (ps[j]?).map (·.per) ≠ some t.per := by rw [List.getElem?_eq_none (by omega)]; intro h; cases h
          have hjk : j ≠ k := by omega
          have hd := HGr.out.done hjk hne
          obtain ⟨hkj2, hsum⟩ := hd
          have HQ1 : Hid (ys ++ ((if z = 0 then [] else [z]) ++ sumsL 0 (pzs (ps.drop j))) = sumsL 0 (pzs ps)) := by show _ = _; rw [← hsum]; exact HQ.out
          have C11 := Lib.hid (riCompare (l := canon z) (l' := []) (Nat.le_trans (canon_len_le _ _ HZ.out) (by omega)) (by decide) (c := cmpZ z 0) (by rw [val_canon, val_nil]))
          clear hne hsum HGr HQ HZ hjk
          go_wp2_with fail
          ((with_reducible refine (C11.out.of hG (bto hb hbi)).mono ?_); rintro e w9 ⟨rfl, hb9⟩)
          replace hbi := bto hbi hb9
          clear hb9 C11
          by_cases hz0 : z = 0
          · have e3 : (cmpZ z 0 != 0) = false := by rw [hz0]; rfl
            have HQ2 : Hid (ys ++ sumsL 0 (pzs (ps.drop j)) = sumsL 0 (pzs ps)) := by have h1 := HQ1.out; rw [if_pos hz0] at h1; exact h1
            generalize cmpZ z 0 = sz at *
            clear hz0 HQ1
            go_wp2
            go_roundw
            case rel => exact ⟨j, ys, by omega, rfl, rfl, rfl, HQ2.out, hbi⟩
            case measure => simp [intOf]; omega
          have e3 : (cmpZ z 0 != 0) = true := bneq' (intbne (cmpZ_ne hz0))
          have HQ2 : Hid (ys ++ [z] ++ sumsL 0 (pzs (ps.drop j)) = sumsL 0 (pzs ps)) := by have h1 := HQ1.out; rw [if_neg hz0] at h1; show _ = _; rw [List.append_assoc]; exact h1
          have HSt : Hid (sgFold (ys ++ [z]) = sgStep (sgFold ys) z) := sgFold_snoc ys z
          by_cases hf0 : (sgFold ys).2.1 = 0
          · have e4 : ((sgFold ys).2.1 == 0) = true := intbeq hf0
            have H1 : Hid ((sgFold (ys ++ [z])).2.1 = cmpZ z 0) := by show _ = _; rw [HSt.out]; exact if_pos hf0
            have H2 : Hid ((sgFold (ys ++ [z])).2.2 = cmpZ z 0) := by show _ = _; rw [HSt.out]; rfl
            generalize cmpZ z 0 = sz at *
            clear hz0 HQ1 hf0 HSt
            go_wp2
            go_roundw
            case rel => exact ⟨j, ys ++ [z], by omega, rfl, by rw [H1.out], by rw [H2.out], HQ2.out, hbi⟩
            case measure => simp [intOf]; omega
          · have e4 : ((sgFold ys).2.1 == 0) = false := intbne hf0
            have H1 : Hid ((sgFold (ys ++ [z])).2.1 = (sgFold ys).2.1) := by show _ = _; rw [HSt.out]; exact if_neg hf0
            have H2 : Hid ((sgFold (ys ++ [z])).2.2 = cmpZ z 0) := by show _ = _; rw [HSt.out]; rfl
            generalize cmpZ z 0 = sz at *
            clear hz0 HQ1 hf0 HSt
            go_wp2
            go_roundw
            case rel => exact ⟨j, ys ++ [z], by omega, rfl, by rw [H1.out], by rw [H2.out], HQ2.out, hbi⟩
            case measure => simp [intOf]; omega
    have hE : ys = sumsL 0 (pzs ps) := by
      have h1 := HQ.out
      rw [List.drop_of_length_le (by omega)] at h1
      have h2 : ys ++ [] = sumsL 0 (pzs ps) := h1
      rwa [List.append_nil] at h2
    rw [hE, HFold.out]
    replace x3 := x3.below hbr
    replace x5 := x5.below hbr
    replace x6 := x6.below hbr
    replace x8 := x8.below hbr
    replace hb := bto hb hbr
    obtain ⟨ls, hls⟩ : ∃ ls, ls = -s := ⟨_, rfl⟩
    have hw : IntKind.i64.wrap (-ls) = s := by rw [hls, Int.neg_neg]; exact Go.IntWalk.i64_in _ (by omega)
    have hsne : s ≠ 0 := by omega
    have hlne : ls ≠ 0 := by omega
    have hsw := cmpQ_swap q1 q
    have HLs := Lib.hid hls
    rw [← hls]
    obtain ⟨sv, hsv⟩ : ∃ sv, sv = cmpQ V 0 := ⟨_, rfl⟩
    rw [← hsv] at C5 C9 HBel HAbv
    have n1 := cmpQ_neg q q1
    have n2 := cmpQ_pos' q q2
    have n3 := cmpQ_le q1 q
    have n4 := cmpQ_le q q2
    have HTl2 := Lib.hid HTl.out
    obtain ⟨a1, ha1⟩ : ∃ a1, a1 = cmpQ q q1 := ⟨_, rfl⟩
    obtain ⟨a2, ha2⟩ : ∃ a2, a2 = cmpQ q q2 := ⟨_, rfl⟩
    obtain ⟨a3, ha3⟩ : ∃ a3, a3 = cmpQ q1 q := ⟨_, rfl⟩
    rw [← ha1] at C6 n1
    rw [← ha2] at C7 n2 n4
    rw [← ha3] at C8 n3
    clear ha1 ha2 ha3 hsw hsv hE HQ hbr hls HFold HI HS0 hn1 hn2 HP hn8
    by_cases g1 : q < q1
    · have s1 : sv = ls := (HBel.out g1).trans HLs.out.symm
      subst s1
      have k1 : decide (a1 < 0) = true := decide_eq_true (n1.2 g1)
      have k2 : decide (0 < a2) = false := decide_eq_false (fun h => by have := n2.1 h; have := HTl2.out; grind)
      have k3 : decide (a3 ≤ 0) = false := decide_eq_false (fun h => by have := n3.1 h; grind)
      have m1 : (sv == 0) = false := intbne hlne
      have m2 : (sv != 0) = true := bneq' m1
      have m3 : s * sv ≠ 0 := Int.mul_ne_zero hsne hlne
      rw [if_neg m3] at C5
      clear g1 n1 n2 n3 n4 HBel HAbv HTl HTl2 m3 hsne hlne hsg HLs
      have qx3_0 := x3.c0
      have qx3_1 := x3.c1
      have qx5_0 := x5.c0
      have qx5_1 := x5.c1
      go_wp2_with fail
      ((with_reducible refine (C6.out.of hG hb).mono ?_); rintro e w7 ⟨rfl, hb7⟩)
      clear qx3_0 qx3_1 qx5_0 qx5_1
      replace x3 := x3.below hb7
      replace x5 := x5.below hb7
      replace x6 := x6.below hb7
      replace x8 := x8.below hb7
      replace hb := bto hb hb7
      clear hb7
      have qx8_0 := x8.c0
      have qx8_1 := x8.c1
      go_wp2_with fail
      ((with_reducible refine (C9.out.of hG hb).mono ?_); rintro e w8 ⟨rfl, hb8⟩)
      clear qx8_0 qx8_1
      replace x3 := x3.below hb8
      replace x5 := x5.below hb8
      replace x6 := x6.below hb8
      replace x8 := x8.below hb8
      replace hb := bto hb hb8
      clear hb8
      have qx3_0 := x3.c0
      have qx3_1 := x3.c1
      have qx6_0 := x6.c0
      have qx6_1 := x6.c1
      go_wp2_with fail
      ((with_reducible refine (C7.out.of hG hb).mono ?_); rintro e w9 ⟨rfl, hb9⟩)
      clear qx3_0 qx3_1 qx6_0 qx6_1
      replace x3 := x3.below hb9
      replace x5 := x5.below hb9
      replace x6 := x6.below hb9
      replace x8 := x8.below hb9
      replace hb := bto hb hb9
      clear hb9
      have qx5_0 := x5.c0
      have qx5_1 := x5.c1
      have qx3_0 := x3.c0
      have qx3_1 := x3.c1
      go_wp2_with fail
      ((with_reducible refine (C8.out.of hG hb).mono ?_); rintro e w10 ⟨rfl, hb10⟩)
      clear qx5_0 qx5_1 qx3_0 qx3_1
      replace x3 := x3.below hb10
      replace x5 := x5.below hb10
      replace x6 := x6.below hb10
      replace x8 := x8.below hb10
      replace hb := bto hb hb10
      clear hb10
      go_wp2_with fail
      refine wp_region_kept (by kernel_rfl) (by kernel_rfl) ?_
      refine kept_val _ (fun _ => rfl) (fun ρ w hw => by go_simp; first | done | with_reducible rfl) ?_
      simp only [Act.put, List.setIfInBounds_toArray, List.set_cons_zero, List.set_cons_succ, Nat.reduceAdd]
      refine kept_val _ (fun _ => rfl) (fun ρ w hw => by go_simp; first | done | with_reducible rfl) ?_
      simp only [Act.put, List.setIfInBounds_toArray, List.set_cons_zero, List.set_cons_succ, Nat.reduceAdd]
      refine kept_val _ (fun _ => rfl) (fun ρ w hw => by go_simp; first | done | with_reducible rfl) ?_
      simp only [Act.put, List.setIfInBounds_toArray, List.set_cons_zero, List.set_cons_succ, Nat.reduceAdd]
      refine kept_val _ (fun _ => rfl) (fun ρ w hw => by go_simp; first | done | with_reducible rfl) ?_
      simp only [Act.put, List.setIfInBounds_toArray, List.set_cons_zero, List.set_cons_succ, Nat.reduceAdd]
      refine kept_val _ (fun _ => rfl) (fun ρ w hw => by go_simp; first | done | with_reducible rfl) ?_
      simp only [Act.put, List.setIfInBounds_toArray, List.set_cons_zero, List.set_cons_succ, Nat.reduceAdd]
      refine kept_val _ (fun _ => rfl) (fun ρ w hw => by have q0 := (x8.below hw).c0; have q1 := (x8.below hw).c1; go_simp; first | done | with_reducible rfl) ?_
      simp only [Act.put, List.setIfInBounds_toArray, List.set_cons_zero, List.set_cons_succ, Nat.reduceAdd]
      refine kept_call _ _ _ (fun _ => rfl) (fun ρ w hw => by go_simp; first | done | with_reducible rfl) (fun w hw => C9.out.of hG (bto hb hw)) ?_
      simp only [Act.put, List.setIfInBounds_toArray, List.set_cons_zero, List.set_cons_succ, Nat.reduceAdd]
      refine kept_val _ (fun _ => rfl) (fun ρ w hw => by go_simp; first | done | with_reducible rfl) ?_
      simp only [Act.put, List.setIfInBounds_toArray, List.set_cons_zero, List.set_cons_succ, Nat.reduceAdd]
      refine kept_val _ (fun _ => rfl) (fun ρ w hw => by go_simp; first | done | with_reducible rfl) ?_
      simp only [Act.put, List.setIfInBounds_toArray, List.set_cons_zero, List.set_cons_succ, Nat.reduceAdd]
      refine kept_off (fun _ => rfl) ?_
      simp only [Act.put, List.setIfInBounds_toArray, List.set_cons_zero, List.set_cons_succ, Nat.reduceAdd]
      refine kept_val _ (fun _ => rfl) (fun ρ w hw => by go_simp; first | done | with_reducible rfl) ?_
      simp only [Act.put, List.setIfInBounds_toArray, List.set_cons_zero, List.set_cons_succ, Nat.reduceAdd]
      refine kept_val _ (fun _ => rfl) (fun ρ w hw => by go_simp; first | done | with_reducible rfl) ?_
      simp only [Act.put, List.setIfInBounds_toArray, List.set_cons_zero, List.set_cons_succ, Nat.reduceAdd]
      refine kept_val _ (fun _ => rfl) (fun ρ w hw => by go_simp; first | done | with_reducible rfl) ?_
      simp only [Act.put, List.setIfInBounds_toArray, List.set_cons_zero, List.set_cons_succ, Nat.reduceAdd]
      refine kept_val _ (fun _ => rfl) (fun ρ w hw => by go_simp; first | done | with_reducible rfl) ?_
      simp only [Act.put, List.setIfInBounds_toArray, List.set_cons_zero, List.set_cons_succ, Nat.reduceAdd]
      refine kept_val _ (fun _ => rfl) (fun ρ w hw => by have q0 := (x3.below hw).c0; have q1 := (x3.below hw).c1; go_simp; first | done | with_reducible rfl) ?_
      simp only [Act.put, List.setIfInBounds_toArray, List.set_cons_zero, List.set_cons_succ, Nat.reduceAdd]
      refine kept_val _ (fun _ => rfl) (fun ρ w hw => by have q0 := (x3.below hw).c0; have q1 := (x3.below hw).c1; go_simp; first | done | with_reducible rfl) ?_
      simp only [Act.put, List.setIfInBounds_toArray, List.set_cons_zero, List.set_cons_succ, Nat.reduceAdd]
      refine kept_call _ _ _ (fun _ => rfl) (fun ρ w hw => by go_simp; first | done | with_reducible rfl) (fun w hw => C5.out.of hG (bto hb hw)) ?_
      simp only [Act.put, List.setIfInBounds_toArray, List.set_cons_zero, List.set_cons_succ, Nat.reduceAdd]
      refine kept_val _ (fun _ => rfl) (fun ρ w hw => by go_simp; first | done | with_reducible rfl) ?_
      simp only [Act.put, List.setIfInBounds_toArray, List.set_cons_zero, List.set_cons_succ, Nat.reduceAdd]
      refine kept_val _ (fun _ => rfl) (fun ρ w hw => by have q0 := (x8.below hw).c0; have q1 := (x8.below hw).c1; go_simp; first | done | with_reducible rfl) ?_
      simp only [Act.put, List.setIfInBounds_toArray, List.set_cons_zero, List.set_cons_succ, Nat.reduceAdd]
      refine kept_call _ _ _ (fun _ => rfl) (fun ρ w hw => by go_simp; first | done | with_reducible rfl) (fun w hw => C9.out.of hG (bto hb hw)) ?_
      simp only [Act.put, List.setIfInBounds_toArray, List.set_cons_zero, List.set_cons_succ, Nat.reduceAdd]
      refine kept_val _ (fun _ => rfl) (fun ρ w hw => by go_simp; first | done | with_reducible rfl) ?_
      simp only [Act.put, List.setIfInBounds_toArray, List.set_cons_zero, List.set_cons_succ, Nat.reduceAdd]
      refine kept_val _ (fun _ => rfl) (fun ρ w hw => by go_simp; first | done | with_reducible rfl) ?_
      simp only [Act.put, List.setIfInBounds_toArray, List.set_cons_zero, List.set_cons_succ, Nat.reduceAdd]
      refine kept_val _ (fun _ => rfl) (fun ρ w hw => by go_simp; first | done | with_reducible rfl) ?_
      simp only [Act.put, List.setIfInBounds_toArray, List.set_cons_zero, List.set_cons_succ, Nat.reduceAdd]
      refine kept_val _ (fun _ => rfl) (fun ρ w hw => by go_simp; first | done | with_reducible rfl) ?_
      simp only [Act.put, List.setIfInBounds_toArray, List.set_cons_zero, List.set_cons_succ, Nat.reduceAdd]
      refine kept_call _ _ _ (fun _ => rfl) (fun ρ w hw => by go_simp; first | done | with_reducible rfl) (fun w hw => CW.out.of hG (bto hb hw)) ?_
      simp only [Act.put, List.setIfInBounds_toArray, List.set_cons_zero, List.set_cons_succ, Nat.reduceAdd]
      refine kept_val _ (fun _ => rfl) (fun ρ w hw => by go_simp; first | done | with_reducible rfl) ?_
      simp only [Act.put, List.setIfInBounds_toArray, List.set_cons_zero, List.set_cons_succ, Nat.reduceAdd]
      refine kept_val _ (fun _ => rfl) (fun ρ w hw => by go_simp; first | done | with_reducible rfl) ?_
      simp only [Act.put, List.setIfInBounds_toArray, List.set_cons_zero, List.set_cons_succ, Nat.reduceAdd]
      refine kept_end (fun ρ w11 hF => ?_)
      replace x3 := x3.below hF.below
      replace x5 := x5.below hF.below
      replace x6 := x6.below hF.below
      replace x8 := x8.below hF.below
      replace hb := bto hb hF.below
      clear hF
      clear x3
      clear x5
      clear x6
      clear x8
      go_wp2
      go_ret
      exact ⟨rfl, hb⟩
    by_cases g2 : q2 < q
    · have s1 : sv = s := HAbv.out g2
      subst s1
      have k1 : decide (a1 < 0) = false := decide_eq_false (fun h => g1 (n1.1 h))
      have k2 : decide (0 < a2) = true := decide_eq_true (n2.2 g2)
      have k3 : decide (a3 ≤ 0) = true := decide_eq_true (n3.2 (by grind))
      have k4 : decide (a2 ≤ 0) = false := decide_eq_false (fun h => by have := n4.1 h; grind)
      have m1 : (sv == 0) = false := intbne hsne
      have m2 : (sv != 0) = true := bneq' m1
      have m3 : sv * sv ≠ 0 := Int.mul_ne_zero hsne hsne
      rw [if_neg m3] at C5
      clear g1 g2 n1 n2 n3 n4 HBel HAbv HTl HTl2 m3 hsne hlne hsg HLs
      have qx3_0 := x3.c0
      have qx3_1 := x3.c1
      have qx5_0 := x5.c0
      have qx5_1 := x5.c1
      go_wp2_with fail
      ((with_reducible refine (C6.out.of hG hb).mono ?_); rintro e w7 ⟨rfl, hb7⟩)
      clear qx3_0 qx3_1 qx5_0 qx5_1
      replace x3 := x3.below hb7
      replace x5 := x5.below hb7
      replace x6 := x6.below hb7
      replace x8 := x8.below hb7
      replace hb := bto hb hb7
      clear hb7
      have qx3_0 := x3.c0
      have qx3_1 := x3.c1
      have qx6_0 := x6.c0
      have qx6_1 := x6.c1
      go_wp2_with fail
      ((with_reducible refine (C7.out.of hG hb).mono ?_); rintro e w8 ⟨rfl, hb8⟩)
      clear qx3_0 qx3_1 qx6_0 qx6_1
      replace x3 := x3.below hb8
      replace x5 := x5.below hb8
      replace x6 := x6.below hb8
      replace x8 := x8.below hb8
      replace hb := bto hb hb8
      clear hb8
      have qx8_0 := x8.c0
      have qx8_1 := x8.c1
      go_wp2_with fail
      ((with_reducible refine (C9.out.of hG hb).mono ?_); rintro e w9 ⟨rfl, hb9⟩)
      clear qx8_0 qx8_1
      replace x3 := x3.below hb9
      replace x5 := x5.below hb9
      replace x6 := x6.below hb9
      replace x8 := x8.below hb9
      replace hb := bto hb hb9
      clear hb9
      have qx5_0 := x5.c0
      have qx5_1 := x5.c1
      have qx3_0 := x3.c0
      have qx3_1 := x3.c1
      go_wp2_with fail
      ((with_reducible refine (C8.out.of hG hb).mono ?_); rintro e w10 ⟨rfl, hb10⟩)
      clear qx5_0 qx5_1 qx3_0 qx3_1
      replace x3 := x3.below hb10
      replace x5 := x5.below hb10
      replace x6 := x6.below hb10
      replace x8 := x8.below hb10
      replace hb := bto hb hb10
      clear hb10
      have qx3_0 := x3.c0
      have qx3_1 := x3.c1
      have qx6_0 := x6.c0
      have qx6_1 := x6.c1
      go_wp2_with fail
      ((with_reducible refine (C7.out.of hG hb).mono ?_); rintro e w11 ⟨rfl, hb11⟩)
      clear qx3_0 qx3_1 qx6_0 qx6_1
      replace x3 := x3.below hb11
      replace x5 := x5.below hb11
      replace x6 := x6.below hb11
      replace x8 := x8.below hb11
      replace hb := bto hb hb11
      clear hb11
      go_wp2_with fail
      refine wp_region_kept (by kernel_rfl) (by kernel_rfl) ?_
      refine kept_val _ (fun _ => rfl) (fun ρ w hw => by go_simp; first | done | with_reducible rfl) ?_
      simp only [Act.put, List.setIfInBounds_toArray, List.set_cons_zero, List.set_cons_succ, Nat.reduceAdd]
      refine kept_val _ (fun _ => rfl) (fun ρ w hw => by go_simp; first | done | with_reducible rfl) ?_
      simp only [Act.put, List.setIfInBounds_toArray, List.set_cons_zero, List.set_cons_succ, Nat.reduceAdd]
      refine kept_val _ (fun _ => rfl) (fun ρ w hw => by go_simp; first | done | with_reducible rfl) ?_
      simp only [Act.put, List.setIfInBounds_toArray, List.set_cons_zero, List.set_cons_succ, Nat.reduceAdd]
      refine kept_val _ (fun _ => rfl) (fun ρ w hw => by go_simp; first | done | with_reducible rfl) ?_
      simp only [Act.put, List.setIfInBounds_toArray, List.set_cons_zero, List.set_cons_succ, Nat.reduceAdd]
      refine kept_val _ (fun _ => rfl) (fun ρ w hw => by go_simp; first | done | with_reducible rfl) ?_
      simp only [Act.put, List.setIfInBounds_toArray, List.set_cons_zero, List.set_cons_succ, Nat.reduceAdd]
      refine kept_val _ (fun _ => rfl) (fun ρ w hw => by have q0 := (x8.below hw).c0; have q1 := (x8.below hw).c1; go_simp; first | done | with_reducible rfl) ?_
      simp only [Act.put, List.setIfInBounds_toArray, List.set_cons_zero, List.set_cons_succ, Nat.reduceAdd]
      refine kept_call _ _ _ (fun _ => rfl) (fun ρ w hw => by go_simp; first | done | with_reducible rfl) (fun w hw => C9.out.of hG (bto hb hw)) ?_
      simp only [Act.put, List.setIfInBounds_toArray, List.set_cons_zero, List.set_cons_succ, Nat.reduceAdd]
      refine kept_val _ (fun _ => rfl) (fun ρ w hw => by go_simp; first | done | with_reducible rfl) ?_
      simp only [Act.put, List.setIfInBounds_toArray, List.set_cons_zero, List.set_cons_succ, Nat.reduceAdd]
      refine kept_val _ (fun _ => rfl) (fun ρ w hw => by go_simp; first | done | with_reducible rfl) ?_
      simp only [Act.put, List.setIfInBounds_toArray, List.set_cons_zero, List.set_cons_succ, Nat.reduceAdd]
      refine kept_off (fun _ => rfl) ?_
      simp only [Act.put, List.setIfInBounds_toArray, List.set_cons_zero, List.set_cons_succ, Nat.reduceAdd]
      refine kept_val _ (fun _ => rfl) (fun ρ w hw => by go_simp; first | done | with_reducible rfl) ?_
      simp only [Act.put, List.setIfInBounds_toArray, List.set_cons_zero, List.set_cons_succ, Nat.reduceAdd]
      refine kept_val _ (fun _ => rfl) (fun ρ w hw => by go_simp; first | done | with_reducible rfl) ?_
      simp only [Act.put, List.setIfInBounds_toArray, List.set_cons_zero, List.set_cons_succ, Nat.reduceAdd]
      refine kept_val _ (fun _ => rfl) (fun ρ w hw => by go_simp; first | done | with_reducible rfl) ?_
      simp only [Act.put, List.setIfInBounds_toArray, List.set_cons_zero, List.set_cons_succ, Nat.reduceAdd]
      refine kept_val _ (fun _ => rfl) (fun ρ w hw => by go_simp; first | done | with_reducible rfl) ?_
      simp only [Act.put, List.setIfInBounds_toArray, List.set_cons_zero, List.set_cons_succ, Nat.reduceAdd]
      refine kept_val _ (fun _ => rfl) (fun ρ w hw => by have q0 := (x3.below hw).c0; have q1 := (x3.below hw).c1; go_simp; first | done | with_reducible rfl) ?_
      simp only [Act.put, List.setIfInBounds_toArray, List.set_cons_zero, List.set_cons_succ, Nat.reduceAdd]
      refine kept_val _ (fun _ => rfl) (fun ρ w hw => by have q0 := (x3.below hw).c0; have q1 := (x3.below hw).c1; go_simp; first | done | with_reducible rfl) ?_
      simp only [Act.put, List.setIfInBounds_toArray, List.set_cons_zero, List.set_cons_succ, Nat.reduceAdd]
      refine kept_call _ _ _ (fun _ => rfl) (fun ρ w hw => by go_simp; first | done | with_reducible rfl) (fun w hw => C5.out.of hG (bto hb hw)) ?_
      simp only [Act.put, List.setIfInBounds_toArray, List.set_cons_zero, List.set_cons_succ, Nat.reduceAdd]
      refine kept_val _ (fun _ => rfl) (fun ρ w hw => by go_simp; first | done | with_reducible rfl) ?_
      simp only [Act.put, List.setIfInBounds_toArray, List.set_cons_zero, List.set_cons_succ, Nat.reduceAdd]
      refine kept_val _ (fun _ => rfl) (fun ρ w hw => by have q0 := (x8.below hw).c0; have q1 := (x8.below hw).c1; go_simp; first | done | with_reducible rfl) ?_
      simp only [Act.put, List.setIfInBounds_toArray, List.set_cons_zero, List.set_cons_succ, Nat.reduceAdd]
      refine kept_call _ _ _ (fun _ => rfl) (fun ρ w hw => by go_simp; first | done | with_reducible rfl) (fun w hw => C9.out.of hG (bto hb hw)) ?_
      simp only [Act.put, List.setIfInBounds_toArray, List.set_cons_zero, List.set_cons_succ, Nat.reduceAdd]
      refine kept_val _ (fun _ => rfl) (fun ρ w hw => by go_simp; first | done | with_reducible rfl) ?_
      simp only [Act.put, List.setIfInBounds_toArray, List.set_cons_zero, List.set_cons_succ, Nat.reduceAdd]
      refine kept_val _ (fun _ => rfl) (fun ρ w hw => by go_simp; first | done | with_reducible rfl) ?_
      simp only [Act.put, List.setIfInBounds_toArray, List.set_cons_zero, List.set_cons_succ, Nat.reduceAdd]
      refine kept_val _ (fun _ => rfl) (fun ρ w hw => by go_simp; first | done | with_reducible rfl) ?_
      simp only [Act.put, List.setIfInBounds_toArray, List.set_cons_zero, List.set_cons_succ, Nat.reduceAdd]
      refine kept_val _ (fun _ => rfl) (fun ρ w hw => by go_simp; first | done | with_reducible rfl) ?_
      simp only [Act.put, List.setIfInBounds_toArray, List.set_cons_zero, List.set_cons_succ, Nat.reduceAdd]
      refine kept_call _ _ _ (fun _ => rfl) (fun ρ w hw => by go_simp; first | done | with_reducible rfl) (fun w hw => CW.out.of hG (bto hb hw)) ?_
      simp only [Act.put, List.setIfInBounds_toArray, List.set_cons_zero, List.set_cons_succ, Nat.reduceAdd]
      refine kept_val _ (fun _ => rfl) (fun ρ w hw => by go_simp; first | done | with_reducible rfl) ?_
      simp only [Act.put, List.setIfInBounds_toArray, List.set_cons_zero, List.set_cons_succ, Nat.reduceAdd]
      refine kept_val _ (fun _ => rfl) (fun ρ w hw => by go_simp; first | done | with_reducible rfl) ?_
      simp only [Act.put, List.setIfInBounds_toArray, List.set_cons_zero, List.set_cons_succ, Nat.reduceAdd]
      refine kept_end (fun ρ w12 hF => ?_)
      replace x3 := x3.below hF.below
      replace x5 := x5.below hF.below
      replace x6 := x6.below hF.below
      replace x8 := x8.below hF.below
      replace hb := bto hb hF.below
      clear hF
      clear x3
      clear x5
      clear x6
      clear x8
      go_wp2
      go_ret
      exact ⟨rfl, hb⟩
    by_cases g3 : sv = 0
    · have k1 : decide (a1 < 0) = false := decide_eq_false (fun h => g1 (n1.1 h))
      have k2 : decide (0 < a2) = false := decide_eq_false (fun h => g2 (n2.1 h))
      have k3 : decide (a3 ≤ 0) = true := decide_eq_true (n3.2 (by grind))
      have k4 : decide (a2 ≤ 0) = true := decide_eq_true (n4.2 (by grind))
      subst g3
      rw [Int.mul_zero, if_pos rfl] at C5
      clear g1 g2 n1 n2 n3 n4 HBel HAbv HTl HTl2 hsne hlne hsg HLs
      have qx3_0 := x3.c0
      have qx3_1 := x3.c1
      have qx5_0 := x5.c0
      have qx5_1 := x5.c1
      go_wp2_with fail
      ((with_reducible refine (C6.out.of hG hb).mono ?_); rintro e w7 ⟨rfl, hb7⟩)
      clear qx3_0 qx3_1 qx5_0 qx5_1
      replace x3 := x3.below hb7
      replace x5 := x5.below hb7
      replace x6 := x6.below hb7
      replace x8 := x8.below hb7
      replace hb := bto hb hb7
      clear hb7
      have qx3_0 := x3.c0
      have qx3_1 := x3.c1
      have qx6_0 := x6.c0
      have qx6_1 := x6.c1
      go_wp2_with fail
      ((with_reducible refine (C7.out.of hG hb).mono ?_); rintro e w8 ⟨rfl, hb8⟩)
      clear qx3_0 qx3_1 qx6_0 qx6_1
      replace x3 := x3.below hb8
      replace x5 := x5.below hb8
      replace x6 := x6.below hb8
      replace x8 := x8.below hb8
      replace hb := bto hb hb8
      clear hb8
      have qx5_0 := x5.c0
      have qx5_1 := x5.c1
      have qx3_0 := x3.c0
      have qx3_1 := x3.c1
      go_wp2_with fail
      ((with_reducible refine (C8.out.of hG hb).mono ?_); rintro e w9 ⟨rfl, hb9⟩)
      clear qx5_0 qx5_1 qx3_0 qx3_1
      replace x3 := x3.below hb9
      replace x5 := x5.below hb9
      replace x6 := x6.below hb9
      replace x8 := x8.below hb9
      replace hb := bto hb hb9
      clear hb9
      have qx3_0 := x3.c0
      have qx3_1 := x3.c1
      have qx6_0 := x6.c0
      have qx6_1 := x6.c1
      go_wp2_with fail
      ((with_reducible refine (C7.out.of hG hb).mono ?_); rintro e w10 ⟨rfl, hb10⟩)
      clear qx3_0 qx3_1 qx6_0 qx6_1
      replace x3 := x3.below hb10
      replace x5 := x5.below hb10
      replace x6 := x6.below hb10
      replace x8 := x8.below hb10
      replace hb := bto hb hb10
      clear hb10
      go_wp2_with fail
      refine wp_region_kept (by kernel_rfl) (by kernel_rfl) ?_
      refine kept_val _ (fun _ => rfl) (fun ρ w hw => by go_simp; first | done | with_reducible rfl) ?_
      simp only [Act.put, List.setIfInBounds_toArray, List.set_cons_zero, List.set_cons_succ, Nat.reduceAdd]
      refine kept_val _ (fun _ => rfl) (fun ρ w hw => by go_simp; first | done | with_reducible rfl) ?_
      simp only [Act.put, List.setIfInBounds_toArray, List.set_cons_zero, List.set_cons_succ, Nat.reduceAdd]
      refine kept_val _ (fun _ => rfl) (fun ρ w hw => by go_simp; first | done | with_reducible rfl) ?_
      simp only [Act.put, List.setIfInBounds_toArray, List.set_cons_zero, List.set_cons_succ, Nat.reduceAdd]
      refine kept_val _ (fun _ => rfl) (fun ρ w hw => by go_simp; first | done | with_reducible rfl) ?_
      simp only [Act.put, List.setIfInBounds_toArray, List.set_cons_zero, List.set_cons_succ, Nat.reduceAdd]
      refine kept_val _ (fun _ => rfl) (fun ρ w hw => by go_simp; first | done | with_reducible rfl) ?_
      simp only [Act.put, List.setIfInBounds_toArray, List.set_cons_zero, List.set_cons_succ, Nat.reduceAdd]
      refine kept_val _ (fun _ => rfl) (fun ρ w hw => by have q0 := (x8.below hw).c0; have q1 := (x8.below hw).c1; go_simp; first | done | with_reducible rfl) ?_
      simp only [Act.put, List.setIfInBounds_toArray, List.set_cons_zero, List.set_cons_succ, Nat.reduceAdd]
      refine kept_call _ _ _ (fun _ => rfl) (fun ρ w hw => by go_simp; first | done | with_reducible rfl) (fun w hw => C9.out.of hG (bto hb hw)) ?_
      simp only [Act.put, List.setIfInBounds_toArray, List.set_cons_zero, List.set_cons_succ, Nat.reduceAdd]
      refine kept_val _ (fun _ => rfl) (fun ρ w hw => by go_simp; first | done | with_reducible rfl) ?_
      simp only [Act.put, List.setIfInBounds_toArray, List.set_cons_zero, List.set_cons_succ, Nat.reduceAdd]
      refine kept_val _ (fun _ => rfl) (fun ρ w hw => by go_simp; first | done | with_reducible rfl) ?_
      simp only [Act.put, List.setIfInBounds_toArray, List.set_cons_zero, List.set_cons_succ, Nat.reduceAdd]
      refine kept_val _ (fun _ => rfl) (fun ρ w hw => by go_simp; first | done | with_reducible rfl) ?_
      simp only [Act.put, List.setIfInBounds_toArray, List.set_cons_zero, List.set_cons_succ, Nat.reduceAdd]
      refine kept_val _ (fun _ => rfl) (fun ρ w hw => by go_simp; first | done | with_reducible rfl) ?_
      simp only [Act.put, List.setIfInBounds_toArray, List.set_cons_zero, List.set_cons_succ, Nat.reduceAdd]
      refine kept_val _ (fun _ => rfl) (fun ρ w hw => by go_simp; first | done | with_reducible rfl) ?_
      simp only [Act.put, List.setIfInBounds_toArray, List.set_cons_zero, List.set_cons_succ, Nat.reduceAdd]
      refine kept_val _ (fun _ => rfl) (fun ρ w hw => by go_simp; first | done | with_reducible rfl) ?_
      simp only [Act.put, List.setIfInBounds_toArray, List.set_cons_zero, List.set_cons_succ, Nat.reduceAdd]
      refine kept_val _ (fun _ => rfl) (fun ρ w hw => by go_simp; first | done | with_reducible rfl) ?_
      simp only [Act.put, List.setIfInBounds_toArray, List.set_cons_zero, List.set_cons_succ, Nat.reduceAdd]
      refine kept_val _ (fun _ => rfl) (fun ρ w hw => by have q0 := (x3.below hw).c0; have q1 := (x3.below hw).c1; go_simp; first | done | with_reducible rfl) ?_
      simp only [Act.put, List.setIfInBounds_toArray, List.set_cons_zero, List.set_cons_succ, Nat.reduceAdd]
      refine kept_val _ (fun _ => rfl) (fun ρ w hw => by have q0 := (x3.below hw).c0; have q1 := (x3.below hw).c1; go_simp; first | done | with_reducible rfl) ?_
      simp only [Act.put, List.setIfInBounds_toArray, List.set_cons_zero, List.set_cons_succ, Nat.reduceAdd]
      refine kept_call _ _ _ (fun _ => rfl) (fun ρ w hw => by go_simp; first | done | with_reducible rfl) (fun w hw => C5.out.of hG (bto hb hw)) ?_
      simp only [Act.put, List.setIfInBounds_toArray, List.set_cons_zero, List.set_cons_succ, Nat.reduceAdd]
      refine kept_val _ (fun _ => rfl) (fun ρ w hw => by go_simp; first | done | with_reducible rfl) ?_
      simp only [Act.put, List.setIfInBounds_toArray, List.set_cons_zero, List.set_cons_succ, Nat.reduceAdd]
      refine kept_val _ (fun _ => rfl) (fun ρ w hw => by have q0 := (x8.below hw).c0; have q1 := (x8.below hw).c1; go_simp; first | done | with_reducible rfl) ?_
      simp only [Act.put, List.setIfInBounds_toArray, List.set_cons_zero, List.set_cons_succ, Nat.reduceAdd]
      refine kept_call _ _ _ (fun _ => rfl) (fun ρ w hw => by go_simp; first | done | with_reducible rfl) (fun w hw => C9.out.of hG (bto hb hw)) ?_
      simp only [Act.put, List.setIfInBounds_toArray, List.set_cons_zero, List.set_cons_succ, Nat.reduceAdd]
      refine kept_val _ (fun _ => rfl) (fun ρ w hw => by go_simp; first | done | with_reducible rfl) ?_
      simp only [Act.put, List.setIfInBounds_toArray, List.set_cons_zero, List.set_cons_succ, Nat.reduceAdd]
      refine kept_val _ (fun _ => rfl) (fun ρ w hw => by go_simp; first | done | with_reducible rfl) ?_
      simp only [Act.put, List.setIfInBounds_toArray, List.set_cons_zero, List.set_cons_succ, Nat.reduceAdd]
      refine kept_val _ (fun _ => rfl) (fun ρ w hw => by go_simp; first | done | with_reducible rfl) ?_
      simp only [Act.put, List.setIfInBounds_toArray, List.set_cons_zero, List.set_cons_succ, Nat.reduceAdd]
      refine kept_val _ (fun _ => rfl) (fun ρ w hw => by go_simp; first | done | with_reducible rfl) ?_
      simp only [Act.put, List.setIfInBounds_toArray, List.set_cons_zero, List.set_cons_succ, Nat.reduceAdd]
      refine kept_call _ _ _ (fun _ => rfl) (fun ρ w hw => by go_simp; first | done | with_reducible rfl) (fun w hw => CW.out.of hG (bto hb hw)) ?_
      simp only [Act.put, List.setIfInBounds_toArray, List.set_cons_zero, List.set_cons_succ, Nat.reduceAdd]
      refine kept_val _ (fun _ => rfl) (fun ρ w hw => by go_simp; first | done | with_reducible rfl) ?_
      simp only [Act.put, List.setIfInBounds_toArray, List.set_cons_zero, List.set_cons_succ, Nat.reduceAdd]
      refine kept_val _ (fun _ => rfl) (fun ρ w hw => by go_simp; first | done | with_reducible rfl) ?_
      simp only [Act.put, List.setIfInBounds_toArray, List.set_cons_zero, List.set_cons_succ, Nat.reduceAdd]
      refine kept_end (fun ρ w11 hF => ?_)
      replace x3 := x3.below hF.below
      replace x5 := x5.below hF.below
      replace x6 := x6.below hF.below
      replace x8 := x8.below hF.below
      replace hb := bto hb hF.below
      clear hF
      clear x3
      clear x5
      clear x6
      clear x8
      go_wp2
      go_ret
      exact ⟨rfl, hb⟩
    · have k1 : decide (a1 < 0) = false := decide_eq_false (fun h => g1 (n1.1 h))
      have k2 : decide (0 < a2) = false := decide_eq_false (fun h => g2 (n2.1 h))
      have k3 : decide (a3 ≤ 0) = true := decide_eq_true (n3.2 (by grind))
      have k4 : decide (a2 ≤ 0) = true := decide_eq_true (n4.2 (by grind))
      have m1 : (sv == 0) = false := intbne g3
      have m2 : (sv != 0) = true := bneq' m1
      have m3 : s * sv ≠ 0 := Int.mul_ne_zero hsne g3
      rw [if_neg m3] at C5
      clear g1 g2 g3 n1 n2 n3 n4 HBel HAbv HTl HTl2 m3 hsne hlne hsg HLs
      have qx3_0 := x3.c0
      have qx3_1 := x3.c1
      have qx5_0 := x5.c0
      have qx5_1 := x5.c1
      go_wp2_with fail
      ((with_reducible refine (C6.out.of hG hb).mono ?_); rintro e w7 ⟨rfl, hb7⟩)
      clear qx3_0 qx3_1 qx5_0 qx5_1
      replace x3 := x3.below hb7
      replace x5 := x5.below hb7
      replace x6 := x6.below hb7
      replace x8 := x8.below hb7
      replace hb := bto hb hb7
      clear hb7
      have qx3_0 := x3.c0
      have qx3_1 := x3.c1
      have qx6_0 := x6.c0
      have qx6_1 := x6.c1
      go_wp2_with fail
      ((with_reducible refine (C7.out.of hG hb).mono ?_); rintro e w8 ⟨rfl, hb8⟩)
      clear qx3_0 qx3_1 qx6_0 qx6_1
      replace x3 := x3.below hb8
      replace x5 := x5.below hb8
      replace x6 := x6.below hb8
      replace x8 := x8.below hb8
      replace hb := bto hb hb8
      clear hb8
      have qx5_0 := x5.c0
      have qx5_1 := x5.c1
      have qx3_0 := x3.c0
      have qx3_1 := x3.c1
      go_wp2_with fail
      ((with_reducible refine (C8.out.of hG hb).mono ?_); rintro e w9 ⟨rfl, hb9⟩)
      clear qx5_0 qx5_1 qx3_0 qx3_1
      replace x3 := x3.below hb9
      replace x5 := x5.below hb9
      replace x6 := x6.below hb9
      replace x8 := x8.below hb9
      replace hb := bto hb hb9
      clear hb9
      have qx3_0 := x3.c0
      have qx3_1 := x3.c1
      have qx6_0 := x6.c0
      have qx6_1 := x6.c1
      go_wp2_with fail
      ((with_reducible refine (C7.out.of hG hb).mono ?_); rintro e w10 ⟨rfl, hb10⟩)
      clear qx3_0 qx3_1 qx6_0 qx6_1
      replace x3 := x3.below hb10
      replace x5 := x5.below hb10
      replace x6 := x6.below hb10
      replace x8 := x8.below hb10
      replace hb := bto hb hb10
      clear hb10
      go_wp2_with fail
      refine wp_region_kept (by kernel_rfl) (by kernel_rfl) ?_
      refine kept_val _ (fun _ => rfl) (fun ρ w hw => by go_simp; first | done | with_reducible rfl) ?_
      simp only [Act.put, List.setIfInBounds_toArray, List.set_cons_zero, List.set_cons_succ, Nat.reduceAdd]
      refine kept_val _ (fun _ => rfl) (fun ρ w hw => by go_simp; first | done | with_reducible rfl) ?_
      simp only [Act.put, List.setIfInBounds_toArray, List.set_cons_zero, List.set_cons_succ, Nat.reduceAdd]
      refine kept_val _ (fun _ => rfl) (fun ρ w hw => by go_simp; first | done | with_reducible rfl) ?_
      simp only [Act.put, List.setIfInBounds_toArray, List.set_cons_zero, List.set_cons_succ, Nat.reduceAdd]
      refine kept_val _ (fun _ => rfl) (fun ρ w hw => by go_simp; first | done | with_reducible rfl) ?_
      simp only [Act.put, List.setIfInBounds_toArray, List.set_cons_zero, List.set_cons_succ, Nat.reduceAdd]
      refine kept_val _ (fun _ => rfl) (fun ρ w hw => by go_simp; first | done | with_reducible rfl) ?_
      simp only [Act.put, List.setIfInBounds_toArray, List.set_cons_zero, List.set_cons_succ, Nat.reduceAdd]
      refine kept_val _ (fun _ => rfl) (fun ρ w hw => by have q0 := (x8.below hw).c0; have q1 := (x8.below hw).c1; go_simp; first | done | with_reducible rfl) ?_
      simp only [Act.put, List.setIfInBounds_toArray, List.set_cons_zero, List.set_cons_succ, Nat.reduceAdd]
      refine kept_call _ _ _ (fun _ => rfl) (fun ρ w hw => by go_simp; first | done | with_reducible rfl) (fun w hw => C9.out.of hG (bto hb hw)) ?_
      simp only [Act.put, List.setIfInBounds_toArray, List.set_cons_zero, List.set_cons_succ, Nat.reduceAdd]
      refine kept_val _ (fun _ => rfl) (fun ρ w hw => by go_simp; first | done | with_reducible rfl) ?_
      simp only [Act.put, List.setIfInBounds_toArray, List.set_cons_zero, List.set_cons_succ, Nat.reduceAdd]
      refine kept_val _ (fun _ => rfl) (fun ρ w hw => by go_simp; first | done | with_reducible rfl) ?_
      simp only [Act.put, List.setIfInBounds_toArray, List.set_cons_zero, List.set_cons_succ, Nat.reduceAdd]
      refine kept_off (fun _ => rfl) ?_
      simp only [Act.put, List.setIfInBounds_toArray, List.set_cons_zero, List.set_cons_succ, Nat.reduceAdd]
      refine kept_val _ (fun _ => rfl) (fun ρ w hw => by go_simp; first | done | with_reducible rfl) ?_
      simp only [Act.put, List.setIfInBounds_toArray, List.set_cons_zero, List.set_cons_succ, Nat.reduceAdd]
      refine kept_val _ (fun _ => rfl) (fun ρ w hw => by go_simp; first | done | with_reducible rfl) ?_
      simp only [Act.put, List.setIfInBounds_toArray, List.set_cons_zero, List.set_cons_succ, Nat.reduceAdd]
      refine kept_val _ (fun _ => rfl) (fun ρ w hw => by go_simp; first | done | with_reducible rfl) ?_
      simp only [Act.put, List.setIfInBounds_toArray, List.set_cons_zero, List.set_cons_succ, Nat.reduceAdd]
      refine kept_val _ (fun _ => rfl) (fun ρ w hw => by go_simp; first | done | with_reducible rfl) ?_
      simp only [Act.put, List.setIfInBounds_toArray, List.set_cons_zero, List.set_cons_succ, Nat.reduceAdd]
      refine kept_val _ (fun _ => rfl) (fun ρ w hw => by have q0 := (x3.below hw).c0; have q1 := (x3.below hw).c1; go_simp; first | done | with_reducible rfl) ?_
      simp only [Act.put, List.setIfInBounds_toArray, List.set_cons_zero, List.set_cons_succ, Nat.reduceAdd]
      refine kept_val _ (fun _ => rfl) (fun ρ w hw => by have q0 := (x3.below hw).c0; have q1 := (x3.below hw).c1; go_simp; first | done | with_reducible rfl) ?_
      simp only [Act.put, List.setIfInBounds_toArray, List.set_cons_zero, List.set_cons_succ, Nat.reduceAdd]
      refine kept_call _ _ _ (fun _ => rfl) (fun ρ w hw => by go_simp; first | done | with_reducible rfl) (fun w hw => C5.out.of hG (bto hb hw)) ?_
      simp only [Act.put, List.setIfInBounds_toArray, List.set_cons_zero, List.set_cons_succ, Nat.reduceAdd]
      refine kept_val _ (fun _ => rfl) (fun ρ w hw => by go_simp; first | done | with_reducible rfl) ?_
      simp only [Act.put, List.setIfInBounds_toArray, List.set_cons_zero, List.set_cons_succ, Nat.reduceAdd]
      refine kept_val _ (fun _ => rfl) (fun ρ w hw => by have q0 := (x8.below hw).c0; have q1 := (x8.below hw).c1; go_simp; first | done | with_reducible rfl) ?_
      simp only [Act.put, List.setIfInBounds_toArray, List.set_cons_zero, List.set_cons_succ, Nat.reduceAdd]
      refine kept_call _ _ _ (fun _ => rfl) (fun ρ w hw => by go_simp; first | done | with_reducible rfl) (fun w hw => C9.out.of hG (bto hb hw)) ?_
      simp only [Act.put, List.setIfInBounds_toArray, List.set_cons_zero, List.set_cons_succ, Nat.reduceAdd]
      refine kept_val _ (fun _ => rfl) (fun ρ w hw => by go_simp; first | done | with_reducible rfl) ?_
      simp only [Act.put, List.setIfInBounds_toArray, List.set_cons_zero, List.set_cons_succ, Nat.reduceAdd]
      refine kept_val _ (fun _ => rfl) (fun ρ w hw => by go_simp; first | done | with_reducible rfl) ?_
      simp only [Act.put, List.setIfInBounds_toArray, List.set_cons_zero, List.set_cons_succ, Nat.reduceAdd]
      refine kept_val _ (fun _ => rfl) (fun ρ w hw => by go_simp; first | done | with_reducible rfl) ?_
      simp only [Act.put, List.setIfInBounds_toArray, List.set_cons_zero, List.set_cons_succ, Nat.reduceAdd]
      refine kept_val _ (fun _ => rfl) (fun ρ w hw => by go_simp; first | done | with_reducible rfl) ?_
      simp only [Act.put, List.setIfInBounds_toArray, List.set_cons_zero, List.set_cons_succ, Nat.reduceAdd]
      refine kept_call _ _ _ (fun _ => rfl) (fun ρ w hw => by go_simp; first | done | with_reducible rfl) (fun w hw => CW.out.of hG (bto hb hw)) ?_
      simp only [Act.put, List.setIfInBounds_toArray, List.set_cons_zero, List.set_cons_succ, Nat.reduceAdd]
      refine kept_val _ (fun _ => rfl) (fun ρ w hw => by go_simp; first | done | with_reducible rfl) ?_
      simp only [Act.put, List.setIfInBounds_toArray, List.set_cons_zero, List.set_cons_succ, Nat.reduceAdd]
      refine kept_val _ (fun _ => rfl) (fun ρ w hw => by go_simp; first | done | with_reducible rfl) ?_
      simp only [Act.put, List.setIfInBounds_toArray, List.set_cons_zero, List.set_cons_succ, Nat.reduceAdd]
      refine kept_end (fun ρ w11 hF => ?_)
      replace x3 := x3.below hF.below
      replace x5 := x5.below hF.below
      replace x6 := x6.below hF.below
      replace x8 := x8.below hF.below
      replace hb := bto hb hF.below
      clear hF
      clear x3
      clear x5
      clear x6
      clear x8
      go_wp2
      go_ret
      exact ⟨rfl, hb⟩
end Go.Proofs.YtolbojchdlojnaaGreatDoor
