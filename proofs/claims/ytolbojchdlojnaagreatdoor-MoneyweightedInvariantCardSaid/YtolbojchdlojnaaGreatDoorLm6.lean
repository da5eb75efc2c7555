/- MoneyweightedInvariant. -/
import Derived.Test.YtolbojchdlojnaaGreatDoorWr
import Derived.Test.YtolbojchdlojnaaGreatDoorBx
namespace Go.Proofs.YtolbojchdlojnaaGreatDoor
open Go.RowKit Num
theorem FBox.keepX {X : Nat → Prop} {w w' : World} {b : Nat} {u v : Value} (h : FBox w b u v) (hb : BelowX X w w') (hx : ¬ X b) : FBox w' b u v := by
  have hk := hb.block b h.lt hx
  exact ⟨(World.cell?_of_block (a := ⟨b, 0, none⟩) hk).trans h.c0, (World.cell?_of_block (a := ⟨b, 1, none⟩) hk).trans h.c1, (World.frozen?_of_block (a := ⟨b, 0, none⟩) hk).trans h.f0, (World.frozen?_of_block (a := ⟨b, 1, none⟩) hk).trans h.f1, Nat.lt_of_lt_of_le h.lt hb.size⟩
structure ZBox (w : World) (b : Nat) (ob : Obj) : Prop where
  h : w.heap[b]? = some ob
theorem ZBox.new (w : World) (ob : Obj) : ZBox (w.alloc ob) w.heap.size ob := ⟨heap_alloc_new w ob⟩
theorem ZBox.lt {w : World} {b : Nat} {ob : Obj} (z : ZBox w b ob) : b < w.heap.size := (Array.getElem?_eq_some_iff.1 z.h).1
theorem ZBox.below {w w' : World} {b : Nat} {ob : Obj} (z : ZBox w b ob) (hb : Below w.heap.size w w') : ZBox w' b ob := ⟨(hb.block b z.lt).trans z.h⟩
theorem zne {b N : Nat} (h : b < N) : ¬ (b = N ∨ b = N + 1) := by omega
theorem bndV_bad {ps : List Pay} {p z : Int} (h : ¬ payE ps = 0) : bndV ps p z = .tuple #[.agg #[.string ⟨#[]⟩, .string ⟨#[]⟩], .agg #[.string ⟨#[]⟩, .string ⟨#[]⟩], .int .i64 1] := if_pos h
/-- the three lists have the same bounds -/
theorem inv_plain {ps : List Pay} {n : Nat} {p z kz d : Int} (hg : GoodP ps n) (hok : payE ps = 0) (hch : chN (sumsL 0 (pzs ps)) = 1) (hz : Root (pzs ps) ((10 ^ p.toNat : Nat) : Int) z) (hp0 : 0 ≤ p) (hp : p ≤ 12) (hk0 : kz ≠ 0) (hk : kz.natAbs < 10 ^ 13) (hd : 0 ≤ d) :
    (payE (scP kz ps) = 0 ∧ BndOk (scP kz ps) p z 41 ∧ bndV (scP kz ps) p z = bndV ps p z ∧ ∀ q ∈ scP kz ps, q.amt.length ≤ 1000) ∧
    ((∀ q ∈ ps, q.per + d ≤ 400) → payE (shP d ps) = 0 ∧ BndOk (shP d ps) p z 41 ∧ bndV (shP d ps) p z = bndV ps p z ∧ ∀ q ∈ shP d ps, q.amt.length ≤ 1000) ∧
    (∀ acc, Tg ps n acc → payE acc = 0 ∧ BndOk acc p z 41 ∧ bndV acc p z = bndV ps p z ∧ ∀ q ∈ acc, q.amt.length ≤ 1000) := by
  obtain ⟨h1, h2, hu, h4⟩ := payE_ok hok
  have hlen := hg.len
  have hn8 : n ≤ 8 := by have := hg.sz; omega
  have hsp := ps_span hg hok
  have h13 : ∀ q ∈ ps, (val q.amt).natAbs < 10 ^ 13 := fun q hq => val_lt_of (hg.am q hq)
  refine ⟨?_, fun h400 => ?_, fun acc hT => ?_⟩
  · refine same_bnd (m := n) (a := 0) hok hch hz hp0 hp (by rw [pz_sc]; exact upL_scale kz _ _ hu) (by rw [scP_len]; exact hlen) (by omega) hn8 (fun q hq => ?_) (fun q r hq hr => ?_) ?_ ?_
    · obtain ⟨e1, e2⟩ := sc_mem hk hg.am q hq
      obtain ⟨x, hx, rfl⟩ := List.mem_map.1 hq
      exact ⟨(h4 x hx).1, (h4 x hx).2.1, e1, e2⟩
    · obtain ⟨x, hx, rfl⟩ := List.mem_map.1 hq
      obtain ⟨y, hy, rfl⟩ := List.mem_map.1 hr
      exact hsp x y hx hy
    · rw [pz_sc, show (0 : Int) = 0 * kz by omega, sums_scale kz hk0, (chN_scale kz hk0 _).1]; exact hch
    · intro x; rw [pz_sc]; exact place_scale hk0 _ x
  · refine same_bnd (m := n) (a := 0 + d) hok hch hz hp0 hp (by rw [pz_sh]; exact upL_shift d _ _ hu) (by rw [shP_len]; exact hlen) (by omega) hn8 (fun q hq => ?_) (fun q r hq hr => ?_) ?_ ?_
    · obtain ⟨x, hx, rfl⟩ := List.mem_map.1 hq
      have := h4 x hx
      exact ⟨by show 0 ≤ x.per + d; omega, h400 x hx, this.2.2, more26 (h13 x hx)⟩
    · obtain ⟨x, hx, rfl⟩ := List.mem_map.1 hq
      obtain ⟨y, hy, rfl⟩ := List.mem_map.1 hr
      have := hsp x y hx hy
      show y.per + d - (x.per + d) ≤ 12
      omega
    · rw [pz_sh, sums_shift]; exact hch
    · intro x; rw [pz_sh]; exact place_shift d _ x
  · obtain ⟨e1, e2⟩ := hT.done hlen (by omega)
    have hl := hT.len
    obtain ⟨e3, -⟩ := place_grp (pzs ps) 0 hu 1
    refine same_bnd (m := acc.length) (a := 0 - 1) hok hch hz hp0 hp (by rw [e1]; exact upS_L _ _ (upS_start _ _ hu)) rfl e2 (by omega) (fun q hq => ?_) (fun q r hq hr => ?_) ?_ ?_
    · obtain ⟨a1, a2, x, hx, a3⟩ := hT.el q hq
      have := h4 x hx
      exact ⟨by omega, by omega, a1, Nat.lt_of_lt_of_le a2 (Nat.pow_le_pow_right (by decide) (by omega))⟩
    · obtain ⟨-, -, x, hx, a3⟩ := hT.el q hq
      obtain ⟨-, -, y, hy, b3⟩ := hT.el r hr
      have := hsp x y hx hy
      omega
    · rw [e1, e3]; exact hch
    · intro x; rw [e1]; exact (place_grp (pzs ps) 0 hu x).2
theorem sh_bad {ps : List Pay} {d : Int} {q : Pay} (hq : q ∈ ps) (h : 400 < q.per + d) : ¬ payE (shP d ps) = 0 := fun h0 => by
  have := (payE_ok h0).2.2.2 ⟨q.per + d, q.amt⟩ (List.mem_map.2 ⟨q, hq, rfl⟩)
  have h2 : q.per + d ≤ 400 := this.2.1
  omega
theorem last_max {ps : List Pay} {n : Nat} {z : Pay} (hok : payE ps = 0) (hn : ps.length = n) (hz : ps[n - 1]? = some z) : ∀ q ∈ ps, q.per ≤ z.per := fun q hq => up_last ps 0 q (payE_ok hok).2.2.1 hq z (by rw [hn]; exact hz)
set_option maxHeartbeats 16000000 in
set_option maxRecDepth 100000 in
theorem minvariant_law (A : Option Addr) (ps : List Pay) (n c : Nat) (k : List UInt8) (d m : Int) (hd0 : 0 ≤ d) (hd1 : d ≤ 255) (hm0 : 0 ≤ m) (hm1 : m ≤ 255) (w : World) (hG : Glob w) (hn : ps.length = n) (hnm : n ≤ 9223372036854775807) (hI : PayAt w A ps) :
    Calls Tryz.prog 4 #[.slice A n c, .string ⟨k.toArray⟩, .int .u8 d, .int .u8 m] w fun e w' => e = .returned (.bool true) ∧ Below w.heap.size w w' := by
  have CW := Lib.hid wAwake47
  have HI := Lib.hid hI
  have hb := Below.refl w.heap.size w
  obtain ⟨i0, hi, hz0, hz1, hz2⟩ := info_parts info_pay
  clear hI
  go_enter Tryz.func4, Tryz.ntmps4
  go_wp2_with fail
  ((with_reducible refine (wFine A ps n c _ hG hn hnm HI.out).mono ?_); rintro e w1 ⟨g, rfl, hgd, hb1⟩)
  replace hb := bto hb hb1
  clear hb1
  cases g
  · clear hgd
    go_wp2_with fail
    ((with_reducible refine (CW.out.of hG hb).mono ?_); rintro e w2 ⟨rfl, hb2⟩)
    replace hb := bto hb hb2
    clear hb2
    go_wp2
    go_ret
    exact ⟨rfl, hb⟩
  obtain ⟨hgood, hok, hch⟩ := hgd rfl
  clear hgd hnm
  by_cases hk : 13 < k.length
  · go_wp2_with fail
    ((with_reducible refine (CW.out.of hG hb).mono ?_); rintro e w2 ⟨rfl, hb2⟩)
    replace hb := bto hb hb2
    clear hb2
    go_wp2
    go_ret
    exact ⟨rfl, hb⟩
  have hk13 : k.length ≤ 13 := by omega
  by_cases gk : val k = 0
  · have C1 := Lib.hid (riCompare (l := k) (l' := []) (by omega) (by decide) (c := 0) (by rw [gk]; decide))
    clear gk
    go_wp2_with fail
    ((with_reducible refine (C1.out.of hG hb).mono ?_); rintro e w2 ⟨rfl, hb2⟩)
    replace hb := bto hb hb2
    clear hb2
    go_wp2_with fail
    ((with_reducible refine (CW.out.of hG hb).mono ?_); rintro e w3 ⟨rfl, hb3⟩)
    replace hb := bto hb hb3
    clear hb3
    go_wp2
    go_ret
    exact ⟨rfl, hb⟩
  obtain ⟨cz, hcz, hcz0⟩ : ∃ cz, cmpZ (val k) (val []) = cz ∧ cz ≠ 0 := ⟨_, rfl, by
    rcases cmpZ_cases (val k) with h | h | h
    · rw [show val [] = 0 from rfl, h.2]; decide
    · exact absurd h.1 gk
    · rw [show val [] = 0 from rfl, h.2]; decide⟩
  have C1 := Lib.hid (riCompare (l := k) (l' := []) (by omega) (by decide) hcz)
  have e1 : (cz == 0) = false := intbne hcz0
  have HGk := Lib.hid gk
  clear hcz gk hk
  go_wp2_with fail
  ((with_reducible refine (C1.out.of hG hb).mono ?_); rintro e w2 ⟨rfl, hb2⟩)
  replace hb := bto hb hb2
  clear hb2
  clear C1
  obtain ⟨p1, p2⟩ : 0 ≤ m % 5 ∧ m % 5 ≤ 4 := by omega
  go_wp2_with fail
  clear e1 hcz0
  obtain ⟨h1, h2, hu, h4⟩ := payE_ok hok
  have hlen := hgood.len
  have hn8 : n ≤ 8 := by have := hgood.sz; omega
  obtain ⟨z, hz⟩ := root_is (pzs ps) 0 ((10 ^ (m % 5).toNat : Nat) : Int) hu hch (u_pos _)
  have hB := bnd_good hgood hn8 hok p1 (by omega) hz
  have HP := Lib.hid (hgood.pl HI.out)
  have c1 : RetB w 14 #[.slice A n c, .int .i64 (m % 5)] (bndV ps (m % 5) z) := fun w' hb => mwBounds_ok A ps n c _ z 41 w' (hG.below hb) (HP.out.below hb) hok p1 (by omega) hch hB
  have hk0 := HGk.out
  have hkz : (val k).natAbs < 10 ^ 13 := val_lt_of hk13
  obtain ⟨kz, hkzd⟩ : ∃ kz, kz = val k := ⟨_, rfl⟩
  rw [← hkzd] at hk0 hkz
  have HKz := Lib.hid hkzd
  clear hkzd
  obtain ⟨S1, S2, S3⟩ := inv_plain hgood hok hch hz p1 (by omega) hk0 hkz hd0
  have hval := bndV_val (z := z) hok p1 (show m % 5 ≤ 12 by omega) hch
  rw [hval] at c1
  obtain ⟨q1, hq1⟩ : ∃ q1, q1 = Rat.divInt z ((10 ^ (m % 5).toNat : Nat) : Int) := ⟨_, rfl⟩
  obtain ⟨q2, hq2⟩ : ∃ q2, q2 = Rat.divInt (topZ (pzs ps) ((10 ^ (m % 5).toNat : Nat) : Int) z) ((10 ^ (m % 5).toNat : Nat) : Int) := ⟨_, rfl⟩
  rw [← hq1, ← hq2] at c1 hval
  have D1 : Hid (∀ (B : Option Addr) (cp : Nat) (W : World), Glob W → PayAt W B (scP kz ps) → RetB W 14 #[.slice B n cp, .int .i64 (m % 5)] (.tuple #[(Value.agg #[Value.string ⟨List.toArray (fN q1)⟩, Value.string ⟨List.toArray (fD q1)⟩]), (Value.agg #[Value.string ⟨List.toArray (fN q2)⟩, Value.string ⟨List.toArray (fD q2)⟩]), .int .i64 0])) := fun B cp W hGW hP w' hb => by
    have hx : PL W B (scP kz ps) n := ⟨hP, (scP_len kz ps).trans hlen, S1.2.2.2, HP.out.n1⟩
    have := mwBounds_ok B (scP kz ps) n cp (m % 5) z 41 w' (hGW.below hb) (hx.below hb) S1.1 p1 (by omega) (by
      rw [pz_sc, show (0 : Int) = 0 * kz by omega, sums_scale kz hk0, (chN_scale kz hk0 _).1]; exact hch) S1.2.1
    rwa [S1.2.2.1, hval] at this
  have D2 : Hid ((∀ q ∈ ps, q.per + d ≤ 400) → ∀ (B : Option Addr) (cp : Nat) (W : World), Glob W → PayAt W B (shP d ps) → RetB W 14 #[.slice B n cp, .int .i64 (m % 5)] (.tuple #[(Value.agg #[Value.string ⟨List.toArray (fN q1)⟩, Value.string ⟨List.toArray (fD q1)⟩]), (Value.agg #[Value.string ⟨List.toArray (fN q2)⟩, Value.string ⟨List.toArray (fD q2)⟩]), .int .i64 0])) := fun h400 B cp W hGW hP w' hb => by
    have S2 := S2 h400
    have hx : PL W B (shP d ps) n := ⟨hP, (shP_len d ps).trans hlen, S2.2.2.2, HP.out.n1⟩
    have := mwBounds_ok B (shP d ps) n cp (m % 5) z 41 w' (hGW.below hb) (hx.below hb) S2.1 p1 (by omega) (by rw [pz_sh, sums_shift]; exact hch) S2.2.1
    rwa [S2.2.2.1, hval] at this
  have D2b : Hid (¬ payE (shP d ps) = 0 → ∀ (B : Option Addr) (cp : Nat) (W : World), Glob W → PayAt W B (shP d ps) → RetB W 14 #[.slice B n cp, .int .i64 (m % 5)] (.tuple #[.agg #[.string ⟨#[]⟩, .string ⟨#[]⟩], .agg #[.string ⟨#[]⟩, .string ⟨#[]⟩], .int .i64 1])) := fun hbad B cp W hGW hP w' hb => by
    have hx : PL W B (shP d ps) n := ⟨hP, (shP_len d ps).trans hlen, fun q hq => by
      obtain ⟨x, hx, rfl⟩ := List.mem_map.1 hq
      exact Nat.le_trans (hgood.am x hx) (by decide), HP.out.n1⟩
    have := mwBounds_bad B (shP d ps) n cp (m % 5) z w' (hGW.below hb) (hx.below hb) (.inl hbad)
    rwa [bndV_bad hbad] at this
  have D3 : Hid (∀ acc, Tg ps n acc → ∀ (B : Option Addr) (L cp : Nat) (W : World), Glob W → acc.length = L → PayAt W B acc → RetB W 14 #[.slice B L cp, .int .i64 (m % 5)] (.tuple #[(Value.agg #[Value.string ⟨List.toArray (fN q1)⟩, Value.string ⟨List.toArray (fD q1)⟩]), (Value.agg #[Value.string ⟨List.toArray (fN q2)⟩, Value.string ⟨List.toArray (fD q2)⟩]), .int .i64 0])) := fun acc hT B L cp W hGW hL hP w' hb => by
    have S3 := S3 acc hT
    have hl := hT.len
    have hx : PL W B acc L := ⟨hP, hL, S3.2.2.2, by omega⟩
    obtain ⟨e1, -⟩ := hT.done hlen (by omega)
    have := mwBounds_ok B acc L cp (m % 5) z 41 w' (hGW.below hb) (hx.below hb) S3.1 p1 (by omega) (by rw [e1, (place_grp (pzs ps) 0 hu 1).1]; exact hch) S3.2.1
    rwa [S3.2.2.1, hval] at this
  have hnpos : 0 < n := by omega
  obtain ⟨tz, htz⟩ : ∃ tz, ps[n - 1]? = some tz := ⟨_, List.getElem?_eq_getElem (by omega)⟩
  have HTz := Lib.hid htz
  have HMax := Lib.hid (last_max hok hlen htz)
  have HEl : Hid (∀ q ∈ ps, (0 ≤ q.per ∧ q.per ≤ 400 ∧ q.amt = canon (val q.amt)) ∧ q.amt.length ≤ 13) := fun q hq => ⟨h4 q hq, hgood.am q hq⟩
  have HNn := Lib.hid hn
  have C1 := Lib.hid c1
  generalize m % 5 = pp at *
  clear c1 S1 S2 S3 hval hB hz hq1 hq2 hu h4 h1 h2 hlen hn hok hch hgood HP hk0 hkz htz HGk p1 p2
  ((with_reducible refine (C1.out.of hG hb).mono ?_); rintro e w3 ⟨rfl, hb3⟩)
  replace hb := bto hb hb3
  clear hb3
  have x10 := FBox.new w3 (.string ⟨(fN q1).toArray⟩) (.string ⟨(fD q1).toArray⟩) 30
  have hbA := below_alloc w3 (.cells #[.string ⟨(fN q1).toArray⟩, .string ⟨(fD q1).toArray⟩] 30)
  replace hb := bto hb hbA
  clear hbA
  have x11 := FBox.new (w3.alloc (.cells #[.string ⟨(fN q1).toArray⟩, .string ⟨(fD q1).toArray⟩] 30)) (.string ⟨(fN q2).toArray⟩) (.string ⟨(fD q2).toArray⟩) 30
  have hbA := below_alloc (w3.alloc (.cells #[.string ⟨(fN q1).toArray⟩, .string ⟨(fD q1).toArray⟩] 30)) (.cells #[.string ⟨(fN q2).toArray⟩, .string ⟨(fD q2).toArray⟩] 30)
  replace x10 := x10.below hbA
  replace hb := bto hb hbA
  clear hbA
  simp only [World.size_alloc] at x10 x11
  go_wp2_with fail
  obtain ⟨w5, hw5⟩ : ∃ w5, w5 = (w3.alloc (.cells #[.string ⟨(fN q1).toArray⟩, .string ⟨(fD q1).toArray⟩] 30)).alloc (.cells #[.string ⟨(fN q2).toArray⟩, .string ⟨(fD q2).toArray⟩] 30) := ⟨_, rfl⟩
  rw [← hw5] at x10 x11 hb ⊢
  clear hw5 C1
  have hG5 := hG.below hb
  have hb0 := hb
  have HI5 : Hid (PayAt w5 A ps) := HI.out.below hb
  have T1l := scP_len kz ps
  have T2l := shP_len d ps
  clear hb HI
  go_loopw [13, 14, 15, 54] (fun a13 a14 a15 iv wr => ∃ (j : Nat) (acc : List Pay) (u13 u14 u15 : Value), j ≤ n ∧ iv = .int .i64 (j : Int) ∧ u13 = a13 ∧ u14 = a14 ∧ u15 = a15 ∧ Hid (ORow wr w5.heap.size a13 ((scP kz ps).take j)) ∧ Hid (ORow wr w5.heap.size a14 ((shP d ps).take j)) ∧ Hid (ORow wr w5.heap.size a15 acc) ∧ Hid (Dis a13 a14) ∧ Hid (Dis a13 a15) ∧ Hid (Dis a14 a15) ∧ Hid (Tg ps j acc) ∧ Below w5.heap.size w5 wr) (fun _ _ _ iv _ => n - (intOf iv).toNat)
  case atStart => exact ⟨0, [], _, _, _, Nat.zero_le _, rfl, rfl, rfl, rfl, orow_nil _ _, orow_nil _ _, orow_nil _ _, dis_nil _, dis_nil _, dis_nil _, Tg.start ps, Below.refl _ _⟩
  case round =>
    obtain ⟨j, acc, a13, a14, a15, hj, rfl, rfl, rfl, rfl, HR1, HR2, HR3, HD12, HD13, HD23, HT, hb⟩ := hrel
    have hnl := HNn.out
    by_cases hlt : j < n
    · obtain ⟨t, ht⟩ : ∃ t, ps[j]? = some t := ⟨_, List.getElem?_eq_getElem (by omega)⟩
      obtain ⟨b, o, hA, hbs, p0, p1⟩ := (HI5.out.below hb) j t ht
      subst hA
      obtain ⟨⟨ht0, ht4, htc⟩, hta⟩ := HEl.out t (List.mem_of_getElem? ht)
      have HTc := Lib.hid htc
      have HTt := Lib.hid ht
      have Z1 := Lib.hid (scP_at (z := kz) ht)
      have Z2 := Lib.hid (shP_at (d := d) ht)
      have R1 := HR1.out
      have R2 := HR2.out
      have R3 := HR3.out
      have D12 := HD12.out
      have D13 := HD13.out
      have D23 := HD23.out
      clear HR1 HR2 HR3 HD12 HD13 HD23 htc
      obtain ⟨L, hL⟩ : ∃ L, acc.length = L := ⟨_, rfl⟩
      have HL := Lib.hid hL
      have hLj : L ≤ j := by rw [← hL]; exact HT.out.len
      obtain ⟨A3, c3, hA3⟩ := R3.formN hL
      subst hA3
      have n1 : a13.ownBlock ≠ some wr.heap.size := fun h => by have := (R1.block _ h).2; omega
      have n2 : a14.ownBlock ≠ some wr.heap.size := fun h => by have := (R2.block _ h).2; omega
      have n3 : (Value.slice A3 L c3).ownBlock ≠ some wr.heap.size := fun h => by have := (R3.block _ h).2; omega
      have CM := Lib.hid (niMul (l := t.amt) (l' := k) (by omega) (by omega) (show _ = val t.amt * kz by rw [HKz.out]))
      obtain ⟨y1, hy1⟩ : ∃ y1, y1 = canon (val t.amt * kz) := ⟨_, rfl⟩
      rw [← hy1] at CM
      have HY1 := Lib.hid hy1
      have hbA := below_alloc wr (.cells #[.int .i64 t.per, .string ⟨t.amt.toArray⟩] 27)
      have x17 := FBox.new wr (.int .i64 t.per) (.string ⟨t.amt.toArray⟩) 27
      replace R1 := R1.below hbA
      replace R2 := R2.below hbA
      replace R3 := R3.below hbA
      replace hb := bto hb hbA
      clear hbA hL hy1 ht
      have hl1 : ((scP kz ps).take j).length = j := by rw [List.length_take]; omega
      have hl2 : ((shP d ps).take j).length = j := by rw [List.length_take]; omega
      have HL1 := Lib.hid hl1
      have HL2 := Lib.hid hl2
      clear hl1 hl2
      go_wp2_with fail
      refine wp_region_tail2D (by simp) (by simp) (by kernel_rfl) (by kernel_rfl) (by kernel_rfl) (by kernel_rfl) (by kernel_rfl) ?_
      simp only [List.dropLast_cons_cons, List.dropLast_singleton, List.getLast_cons_cons, List.getLast_singleton]
      refine kept_val _ (fun _ => rfl) (fun ρ w hw => by go_simp; first | done | with_reducible rfl) ?_
      simp only [Act.put, List.setIfInBounds_toArray, List.set_cons_zero, List.set_cons_succ, Nat.reduceAdd]
      refine kept_val _ (fun _ => rfl) (fun ρ w hw => by go_simp; first | done | with_reducible rfl) ?_
      simp only [Act.put, List.setIfInBounds_toArray, List.set_cons_zero, List.set_cons_succ, Nat.reduceAdd]
      refine kept_val _ (fun _ => rfl) (fun ρ w hw => by have q0 := (x17.below hw).c0; go_simp; first | done | with_reducible rfl) ?_
      simp only [Act.put, List.setIfInBounds_toArray, List.set_cons_zero, List.set_cons_succ, Nat.reduceAdd]
      refine kept_val _ (fun _ => rfl) (fun ρ w hw => by go_simp; first | done | with_reducible rfl) ?_
      simp only [Act.put, List.setIfInBounds_toArray, List.set_cons_zero, List.set_cons_succ, Nat.reduceAdd]
      refine kept_val _ (fun _ => rfl) (fun ρ w hw => by have q1 := (x17.below hw).c1; go_simp; first | done | with_reducible rfl) ?_
      simp only [Act.put, List.setIfInBounds_toArray, List.set_cons_zero, List.set_cons_succ, Nat.reduceAdd]
      refine kept_val _ (fun _ => rfl) (fun ρ w hw => by go_simp; first | done | with_reducible rfl) ?_
      simp only [Act.put, List.setIfInBounds_toArray, List.set_cons_zero, List.set_cons_succ, Nat.reduceAdd]
      refine kept_call _ _ _ (fun _ => rfl) (fun ρ w hw => by go_simp; first | done | with_reducible rfl) (fun w hw => CM.out.of hG5 (bto hb hw)) ?_
      simp only [Act.put, List.setIfInBounds_toArray, List.set_cons_zero, List.set_cons_succ, Nat.reduceAdd]
      refine kept_val _ (fun _ => rfl) (fun ρ w hw => by go_simp; first | done | with_reducible rfl) ?_
      simp only [Act.put, List.setIfInBounds_toArray, List.set_cons_zero, List.set_cons_succ, Nat.reduceAdd]
      refine kept_box (fun b => .slice (some ⟨b, 0, none⟩) 1 1) _ rfl (fun _ => rfl) (fun ρ w hw => by go_simp; first | done | with_reducible rfl) ?_
      simp only [Act.put, List.setIfInBounds_toArray, List.set_cons_zero, List.set_cons_succ, Nat.reduceAdd]
      intro ρ w21 hF
      dsimp only
      have hbF := hF.below
      have y66 := FBox.ofB (hF.box 8 _ _ rfl).2
      generalize ρ 8 = b66 at *
      replace x17 := x17.below hbF
      replace R1 := R1.below hbF
      replace R2 := R2.below hbF
      replace R3 := R3.below hbF
      replace hb := bto hb hbF
      have hbl : wr.heap.size < w21.heap.size := x17.lt
      clear hF hbF CM
      have own1 : w21.ownsRow w5.heap.size 27 2 a13 j (rowsP ((scP kz ps).take j)) := by
        have h : w21.ownsRow w5.heap.size 27 2 a13 ((scP kz ps).take j).length _ := R1
        rwa [HL1.out] at h
      refine wpList_append_fresh rfl _ _ 28 rfl w5.heap.size 27 i0 (.agg #[.int .i64 0, .string ⟨#[]⟩]) 2 24 Tryz.underlying28 hi hz0 hz1 hz2 rfl (by decide) _ j _ rfl own1 ⟨b66, 0, none⟩ 1 1 [.int .i64 t.per, .string ⟨y1.toArray⟩] rfl rfl ?g1 ?g2 ?g3 ?g4 ?g5 ?_
      case g1 =>
        intro j u hu
        match j with
        | 0 => simp at hu; subst hu; rw [Lib.add_plain]; exact y66.c0
        | 1 => simp at hu; subst hu; rw [Lib.add_plain]; exact y66.c1
        | j + 2 => simp at hu
      case g2 =>
        intro u hu
        simp at hu
        rcases hu with rfl | rfl <;> rfl
      case g3 => unfold maxLen; omega
      case g4 => omega
      case g5 => exact hb.size
      intro v1 w22 hown1 hgr1 hfr1
      have HR1 : Hid (ORow w22 w5.heap.size v1 ((scP kz ps).take (j + 1))) := by
        show ORow _ _ _ _
        rw [← take_next Z1.out]
        exact ORow.app (x := ⟨t.per, _⟩) (by rw [← HY1.out]; exact hown1) HL1.out
      clear hown1
      have k2 := fun g h => (R2.block g h).2
      have k3 := fun g h => (R3.block g h).2
      replace hb := below_grown hb hgr1 (fun g h => (R1.block g h).1)
      replace R2 := R2.grown hgr1 D12.symm
      replace R3 := R3.grown hgr1 D13.symm
      replace x17 := x17.grown hgr1 n1
      have hbl2 := Nat.lt_of_lt_of_le hbl hgr1.size
      replace n1 := no_fresh n1 hfr1 hbl
      replace D12 := D12.fresh hfr1 k2
      replace D13 := D13.fresh hfr1 k3
      replace R1 := HR1.out
      replace hbl := hbl2
      clear hbl2 hgr1 hfr1 k2 k3 HR1
      have q0 := x17.c0
      have q1 := x17.c1
      have hbA := below_alloc w22 (.cells #[.int .i64 (t.per + d), .string ⟨t.amt.toArray⟩] 27)
      replace R1 := R1.below hbA
      replace R2 := R2.below hbA
      replace R3 := R3.below hbA
      replace x17 := x17.below hbA
      replace hb := bto hb hbA
      replace hbl := Nat.lt_of_lt_of_le hbl hbA.size
      have own2 : (w22.alloc (.cells #[.int .i64 (t.per + d), .string ⟨t.amt.toArray⟩] 27)).ownsRow w5.heap.size 27 2 a14 j (rowsP ((shP d ps).take j)) := by
        have h : World.ownsRow _ w5.heap.size 27 2 a14 ((shP d ps).take j).length _ := R2
        rwa [HL2.out] at h
      go_wp2_with (at_builtin; refine wpList_append_fresh rfl _ _ 28 rfl w5.heap.size 27 i0 (.agg #[.int .i64 0, .string ⟨#[]⟩]) 2 24 Tryz.underlying28 hi hz0 hz1 hz2 rfl (by decide) _ j _ rfl own2 ⟨w22.heap.size, 0, none⟩ 1 1 [.int .i64 (t.per + d), .string ⟨t.amt.toArray⟩] rfl rfl ?h1 ?h2 ?h3 ?h4 ?h5 ?_)
      case h1 =>
        intro j u hu
        match j with
        | 0 => simp at hu; subst hu; rw [Lib.add_plain]; simp [go_sem]
        | 1 => simp at hu; subst hu; rw [Lib.add_plain]; simp [go_sem]
        | j + 2 => simp at hu
      case h2 =>
        intro u hu
        simp at hu
        rcases hu with rfl | rfl <;> rfl
      case h3 => unfold maxLen; omega
      case h4 => omega
      case h5 => exact hb.size
      intro v2 w23 hown2 hgr2 hfr2
      have HR2 : Hid (ORow w23 w5.heap.size v2 ((shP d ps).take (j + 1))) := by
        show ORow _ _ _ _
        rw [← take_next Z2.out]
        exact ORow.app (x := ⟨t.per + d, t.amt⟩) hown2 HL2.out
      have k1 := fun g h => (R1.block g h).2
      have k3 := fun g h => (R3.block g h).2
      replace hb := below_grown hb hgr2 (fun g h => (R2.block g h).1)
      replace R1 := R1.grown hgr2 D12
      replace R3 := R3.grown hgr2 D23.symm
      replace x17 := x17.grown hgr2 n2
      have hbl2 := Nat.lt_of_lt_of_le hbl hgr2.size
      simp only [World.size_alloc] at k1 k3 hbl
      replace n2 := no_fresh n2 hfr2 hbl
      replace D12 := (D12.symm.fresh hfr2 k1).symm
      replace D23 := D23.fresh hfr2 k3
      replace R2 := HR2.out
      replace hbl := hbl2
      clear hbl2 hgr2 hfr2 k1 k3 HR2
      clear q0 q1 hbA own2 hown2
      clear own1 n1 n2 Z1 Z2 HY1 HL1 HL2 p0 p1
      cases L with
      | zero =>
        go_wp2_with fail
        refine wp_region_kept (by kernel_rfl) (by kernel_rfl) ?_
        refine kept_val _ (fun _ => rfl) (fun ρ w hw => by go_simp; first | done | with_reducible rfl) ?_
        simp only [Act.put, List.setIfInBounds_toArray, List.set_cons_zero, List.set_cons_succ, Nat.reduceAdd]
        refine kept_val _ (fun _ => rfl) (fun ρ w hw => by go_simp; first | done | with_reducible rfl) ?_
        simp only [Act.put, List.setIfInBounds_toArray, List.set_cons_zero, List.set_cons_succ, Nat.reduceAdd]
        refine kept_val _ (fun _ => rfl) (fun ρ w hw => by go_simp; first | done | with_reducible rfl) ?_
        simp only [Act.put, List.setIfInBounds_toArray, List.set_cons_zero, List.set_cons_succ, Nat.reduceAdd]
        refine kept_off (fun _ => rfl) ?_
        simp only [Act.put, List.setIfInBounds_toArray, List.set_cons_zero, List.set_cons_succ, Nat.reduceAdd]
        refine kept_off (fun _ => rfl) ?_
        simp only [Act.put, List.setIfInBounds_toArray, List.set_cons_zero, List.set_cons_succ, Nat.reduceAdd]
        refine kept_off (fun _ => rfl) ?_
        simp only [Act.put, List.setIfInBounds_toArray, List.set_cons_zero, List.set_cons_succ, Nat.reduceAdd]
        refine kept_off (fun _ => rfl) ?_
        simp only [Act.put, List.setIfInBounds_toArray, List.set_cons_zero, List.set_cons_succ, Nat.reduceAdd]
        refine kept_off (fun _ => rfl) ?_
        simp only [Act.put, List.setIfInBounds_toArray, List.set_cons_zero, List.set_cons_succ, Nat.reduceAdd]
        refine kept_off (fun _ => rfl) ?_
        simp only [Act.put, List.setIfInBounds_toArray, List.set_cons_zero, List.set_cons_succ, Nat.reduceAdd]
        refine kept_off (fun _ => rfl) ?_
        simp only [Act.put, List.setIfInBounds_toArray, List.set_cons_zero, List.set_cons_succ, Nat.reduceAdd]
        refine kept_off (fun _ => rfl) ?_
        simp only [Act.put, List.setIfInBounds_toArray, List.set_cons_zero, List.set_cons_succ, Nat.reduceAdd]
        refine kept_off (fun _ => rfl) ?_
        simp only [Act.put, List.setIfInBounds_toArray, List.set_cons_zero, List.set_cons_succ, Nat.reduceAdd]
        refine kept_val _ (fun _ => rfl) (fun ρ w hw => by go_simp; first | done | with_reducible rfl) ?_
        simp only [Act.put, List.setIfInBounds_toArray, List.set_cons_zero, List.set_cons_succ, Nat.reduceAdd]
        refine kept_end (fun ρ w24 hF => ?_)
        have hbF := hF.below
        clear hF
        replace R1 := R1.below hbF
        replace R2 := R2.below hbF
        replace R3 := R3.below hbF
        replace x17 := x17.below hbF
        replace hb := bto hb hbF
        replace hbl := Nat.lt_of_lt_of_le hbl hbF.size
        clear hbF
        have q0 := x17.c0
        have q1 := x17.c1
        have hbA := below_alloc w24 (.cells #[.int .i64 t.per, .string ⟨t.amt.toArray⟩] 27)
        replace R1 := R1.below hbA
        replace R2 := R2.below hbA
        replace R3 := R3.below hbA
        replace x17 := x17.below hbA
        replace hb := bto hb hbA
        replace hbl := Nat.lt_of_lt_of_le hbl hbA.size
        have own3 : (w24.alloc (.cells #[.int .i64 t.per, .string ⟨t.amt.toArray⟩] 27)).ownsRow w5.heap.size 27 2 (.slice A3 (0) c3) (0) (rowsP acc) := by
          have h : World.ownsRow _ w5.heap.size 27 2 (.slice A3 (0) c3) acc.length _ := R3
          rwa [HL.out] at h
        go_wp2_with (at_builtin; refine wpList_append_fresh rfl _ _ 28 rfl w5.heap.size 27 i0 (.agg #[.int .i64 0, .string ⟨#[]⟩]) 2 24 Tryz.underlying28 hi hz0 hz1 hz2 rfl (by decide) _ 0 _ rfl own3 ⟨w24.heap.size, 0, none⟩ 1 1 [.int .i64 t.per, .string ⟨t.amt.toArray⟩] rfl rfl ?k1 ?k2 ?k3 ?k4 ?k5 ?_)
        case k1 =>
          intro j u hu
          match j with
          | 0 => simp at hu; subst hu; rw [Lib.add_plain]; simp [go_sem]
          | 1 => simp at hu; subst hu; rw [Lib.add_plain]; simp [go_sem]
          | j + 2 => simp at hu
        case k2 =>
          intro u hu
          simp at hu
          rcases hu with rfl | rfl <;> rfl
        case k3 => unfold maxLen; omega
        case k4 => omega
        case k5 => exact hb.size
        intro v3 w25 hown3 hgr3 hfr3
        have HR3 : Hid (ORow w25 w5.heap.size v3 (acc ++ [t])) := ORow.app (x := t) hown3 HL.out
        have HT2 : Hid (Tg ps (j + 1) (acc ++ [t])) := HT.out.new HTt.out HTc.out (val_lt_of hta) (fun y hy => by rw [HL.out] at hy; have := (List.getElem?_eq_some_iff.1 hy).1; rw [HL.out] at this; omega)
        have k1 := fun g h => (R1.block g h).2
        have k2 := fun g h => (R2.block g h).2
        replace hb := below_grown hb hgr3 (fun g h => (R3.block g h).1)
        replace R1 := R1.grown hgr3 D13
        replace R2 := R2.grown hgr3 D23
        replace x17 := x17.grown hgr3 n3
        have hbl2 := Nat.lt_of_lt_of_le hbl hgr3.size
        simp only [World.size_alloc] at k1 k2 hbl
        replace n3 := no_fresh n3 hfr3 hbl
        replace D13 := (D13.symm.fresh hfr3 k1).symm
        replace D23 := (D23.symm.fresh hfr3 k2).symm
        replace R3 := HR3.out
        replace hbl := hbl2
        clear hbl2 hgr3 hfr3 k1 k2 HR3
        clear q0 q1 hbA own3 hown3
        clear n3 hbl x17
        go_wp2
        go_roundw
        case rel => exact ⟨j + 1, acc ++ [t], _, _, _, by omega, by go_num, rfl, rfl, rfl, R1, R2, R3, D12, D13, D23, HT2.out, hb⟩
        case measure => simp [intOf]; omega
      | succ L' =>
        obtain ⟨g3, c3', e3, hge3, P3⟩ := R3.row (by rw [HL.out]; omega)
        rw [HL.out] at e3
        injection e3 with e3 _ e4
        subst e3
        subst e4
        have hwl : (L' : Int) < (L' : Int) + 1 := by omega
        have hwr : IntKind.i64.wrap (L' : Int) = (L' : Int) := Go.IntWalk.i64_in _ (by omega)
        obtain ⟨y, hy⟩ : ∃ y, acc[L']? = some y := ⟨_, List.getElem?_eq_getElem (by rw [HL.out]; omega)⟩
        have hyl : acc[acc.length - 1]? = some y := by rw [HL.out]; exact hy
        have HYl := Lib.hid hyl
        have HY := Lib.hid hy
        clear hy hyl
        by_cases hper : y.per = t.per
        · have e2 : (y.per == t.per) = true := intbeq hper
          have HPer := Lib.hid hper
          obtain ⟨hyc, hyv, -⟩ := HT.out.el y (List.mem_of_getElem? HY.out)
          have hyn : y.amt.length ≤ 30 := by rw [hyc]; exact Nat.le_trans (canon_len_le _ _ hyv) (by omega)
          have CA := Lib.hid (riAdd (l := y.amt) (l' := t.amt) (by omega) (by omega) rfl)
          obtain ⟨y3, hy3⟩ : ∃ y3, y3 = canon (val y.amt + val t.amt) := ⟨_, rfl⟩
          rw [← hy3] at CA
          have HY3 := Lib.hid hy3
          clear hper hyc hyv hy3
          go_wp2_with fail
          refine wp_region_kept (by kernel_rfl) (by kernel_rfl) ?_
          refine kept_val _ (fun _ => rfl) (fun ρ w hw => by go_simp; first | done | with_reducible rfl) ?_
          simp only [Act.put, List.setIfInBounds_toArray, List.set_cons_zero, List.set_cons_succ, Nat.reduceAdd]
          refine kept_val (.bool true) (fun _ => rfl) (fun ρ w hw => by go_simp; first | done | omega | (simp; omega)) ?_
          simp only [Act.put, List.setIfInBounds_toArray, List.set_cons_zero, List.set_cons_succ, Nat.reduceAdd]
          refine kept_val _ (fun _ => rfl) (fun ρ w hw => by go_simp; first | done | with_reducible rfl) ?_
          simp only [Act.put, List.setIfInBounds_toArray, List.set_cons_zero, List.set_cons_succ, Nat.reduceAdd]
          refine kept_val _ (fun _ => rfl) (fun ρ w hw => by go_simp; first | done | with_reducible rfl) ?_
          simp only [Act.put, List.setIfInBounds_toArray, List.set_cons_zero, List.set_cons_succ, Nat.reduceAdd]
          refine kept_val _ (fun _ => rfl) (fun ρ w hw => by go_simp; first | done | with_reducible rfl) ?_
          simp only [Act.put, List.setIfInBounds_toArray, List.set_cons_zero, List.set_cons_succ, Nat.reduceAdd]
          refine kept_val _ (fun _ => rfl) (fun ρ w hw => by go_simp; first | done | with_reducible rfl) ?_
          simp only [Act.put, List.setIfInBounds_toArray, List.set_cons_zero, List.set_cons_succ, Nat.reduceAdd]
          refine kept_val _ (fun _ => rfl) (fun ρ w hw => by go_simp; first | done | with_reducible rfl) ?_
          simp only [Act.put, List.setIfInBounds_toArray, List.set_cons_zero, List.set_cons_succ, Nat.reduceAdd]
          refine kept_val _ (fun _ => rfl) (fun ρ w hw => by go_simp; first | done | with_reducible rfl) ?_
          simp only [Act.put, List.setIfInBounds_toArray, List.set_cons_zero, List.set_cons_succ, Nat.reduceAdd]
          refine kept_val _ (fun _ => rfl) (fun ρ w hw => by have q0 := ((P3.below hw).cells HY.out).1; go_simp; first | done | with_reducible rfl) ?_
          simp only [Act.put, List.setIfInBounds_toArray, List.set_cons_zero, List.set_cons_succ, Nat.reduceAdd]
          refine kept_val _ (fun _ => rfl) (fun ρ w hw => by go_simp; first | done | with_reducible rfl) ?_
          simp only [Act.put, List.setIfInBounds_toArray, List.set_cons_zero, List.set_cons_succ, Nat.reduceAdd]
          refine kept_val _ (fun _ => rfl) (fun ρ w hw => by have q0 := (x17.below hw).c0; go_simp; first | done | with_reducible rfl) ?_
          simp only [Act.put, List.setIfInBounds_toArray, List.set_cons_zero, List.set_cons_succ, Nat.reduceAdd]
          refine kept_val _ (fun _ => rfl) (fun ρ w hw => by go_simp; first | done | with_reducible rfl) ?_
          simp only [Act.put, List.setIfInBounds_toArray, List.set_cons_zero, List.set_cons_succ, Nat.reduceAdd]
          refine kept_val _ (fun _ => rfl) (fun ρ w hw => by go_simp; first | done | with_reducible rfl) ?_
          simp only [Act.put, List.setIfInBounds_toArray, List.set_cons_zero, List.set_cons_succ, Nat.reduceAdd]
          refine kept_end (fun ρ w24 hF => ?_)
          have hbF := hF.below
          clear hF
          replace R1 := R1.below hbF
          replace R2 := R2.below hbF
          replace R3 := R3.below hbF
          replace x17 := x17.below hbF
          replace P3 := P3.below hbF
          replace hb := bto hb hbF
          replace hbl := Nat.lt_of_lt_of_le hbl hbF.size
          clear hbF
          go_wp2_with fail
          refine wp_region_lastD (by simp) (by kernel_rfl) (by kernel_rfl) (by kernel_rfl) rfl rfl ?_
          simp only [List.dropLast_cons_cons, List.dropLast_singleton, List.getLast_cons_cons, List.getLast_singleton]
          refine kept_val _ (fun _ => rfl) (fun ρ w hw => by go_simp; first | done | with_reducible rfl) ?_
          simp only [Act.put, List.setIfInBounds_toArray, List.set_cons_zero, List.set_cons_succ, Nat.reduceAdd]
          refine kept_val _ (fun _ => rfl) (fun ρ w hw => by go_simp; first | done | with_reducible rfl) ?_
          simp only [Act.put, List.setIfInBounds_toArray, List.set_cons_zero, List.set_cons_succ, Nat.reduceAdd]
          refine kept_val _ (fun _ => rfl) (fun ρ w hw => by go_simp; first | done | with_reducible rfl) ?_
          simp only [Act.put, List.setIfInBounds_toArray, List.set_cons_zero, List.set_cons_succ, Nat.reduceAdd]
          refine kept_val _ (fun _ => rfl) (fun ρ w hw => by go_simp; first | done | with_reducible rfl) ?_
          simp only [Act.put, List.setIfInBounds_toArray, List.set_cons_zero, List.set_cons_succ, Nat.reduceAdd]
          refine kept_val _ (fun _ => rfl) (fun ρ w hw => by go_simp; first | done | with_reducible rfl) ?_
          simp only [Act.put, List.setIfInBounds_toArray, List.set_cons_zero, List.set_cons_succ, Nat.reduceAdd]
          refine kept_val _ (fun _ => rfl) (fun ρ w hw => by go_simp; first | done | with_reducible rfl) ?_
          simp only [Act.put, List.setIfInBounds_toArray, List.set_cons_zero, List.set_cons_succ, Nat.reduceAdd]
          refine kept_val _ (fun _ => rfl) (fun ρ w hw => by go_simp; first | done | with_reducible rfl) ?_
          simp only [Act.put, List.setIfInBounds_toArray, List.set_cons_zero, List.set_cons_succ, Nat.reduceAdd]
          refine kept_val _ (fun _ => rfl) (fun ρ w hw => by go_simp; first | done | with_reducible rfl) ?_
          simp only [Act.put, List.setIfInBounds_toArray, List.set_cons_zero, List.set_cons_succ, Nat.reduceAdd]
          refine kept_val _ (fun _ => rfl) (fun ρ w hw => by have q1 := ((P3.below hw).cells HY.out).2; go_simp; first | done | with_reducible rfl) ?_
          simp only [Act.put, List.setIfInBounds_toArray, List.set_cons_zero, List.set_cons_succ, Nat.reduceAdd]
          refine kept_val _ (fun _ => rfl) (fun ρ w hw => by go_simp; first | done | with_reducible rfl) ?_
          simp only [Act.put, List.setIfInBounds_toArray, List.set_cons_zero, List.set_cons_succ, Nat.reduceAdd]
          refine kept_val _ (fun _ => rfl) (fun ρ w hw => by have q1 := (x17.below hw).c1; go_simp; first | done | with_reducible rfl) ?_
          simp only [Act.put, List.setIfInBounds_toArray, List.set_cons_zero, List.set_cons_succ, Nat.reduceAdd]
          refine kept_call _ _ _ (fun _ => rfl) (fun ρ w hw => by go_simp; first | done | with_reducible rfl) (fun w hw => CA.out.of hG5 (bto hb hw)) ?_
          simp only [Act.put, List.setIfInBounds_toArray, List.set_cons_zero, List.set_cons_succ, Nat.reduceAdd]
          refine kept_val _ (fun _ => rfl) (fun ρ w hw => by go_simp; first | done | with_reducible rfl) ?_
          simp only [Act.put, List.setIfInBounds_toArray, List.set_cons_zero, List.set_cons_succ, Nat.reduceAdd]
          refine kept_val _ (fun _ => rfl) (fun ρ w hw => by go_simp; first | done | with_reducible rfl) ?_
          simp only [Act.put, List.setIfInBounds_toArray, List.set_cons_zero, List.set_cons_succ, Nat.reduceAdd]
          refine last_put1 g3 (L' * 2 + 1) _ (.string ⟨y3.toArray⟩) P3.lt (P3.cells HY.out).2 (P3.free _) (fun ρ w' q0 q1 => by go_simp; first | done | with_reducible rfl) (fun ρ w25 hF => ?_)
          have hbF := hF.below
          replace R1 := (R1.below hbF).far (i := L' * 2 + 1) (u := (.string ⟨y3.toArray⟩)) (fun h => D13 g3 h rfl)
          replace R2 := (R2.below hbF).far (i := L' * 2 + 1) (u := (.string ⟨y3.toArray⟩)) (fun h => D23 g3 h rfl)
          replace R3 := R3.below hbF
          have R3s : ORow w25 w5.heap.size (.slice (some ⟨g3, 0, none⟩) acc.length c3) acc := by rw [HL.out]; exact R3
          have R3t := R3s.set HY.out y3
          rw [HL.out] at R3t
          have HT2 : Hid (Tg ps (j + 1) (acc.set L' ⟨y.per, y3⟩)) := by
            have h := HT.out.merge HTt.out (val_lt_of hta) HYl.out HPer.out
            rw [HL.out, ← HY3.out] at h
            exact h
          replace hb := below_put1 (bto hb hbF) hge3 (L' * 2 + 1) (.string ⟨y3.toArray⟩)
          clear hF hbF R3 R3s P3 CA x17 n3 hbl
          go_wp2
          go_roundw
          case rel => exact ⟨j + 1, acc.set L' ⟨y.per, y3⟩, _, _, _, by omega, by go_num, rfl, rfl, rfl, R1, R2, R3t, D12, D13, D23, HT2.out, hb⟩
          case measure => simp [intOf]; omega
        · have e2 : (y.per == t.per) = false := intbne hper
          have HPer := Lib.hid hper
          clear hper
          go_wp2_with fail
          refine wp_region_kept (by kernel_rfl) (by kernel_rfl) ?_
          refine kept_val _ (fun _ => rfl) (fun ρ w hw => by go_simp; first | done | with_reducible rfl) ?_
          simp only [Act.put, List.setIfInBounds_toArray, List.set_cons_zero, List.set_cons_succ, Nat.reduceAdd]
          refine kept_val (.bool true) (fun _ => rfl) (fun ρ w hw => by go_simp; first | done | omega | (simp; omega)) ?_
          simp only [Act.put, List.setIfInBounds_toArray, List.set_cons_zero, List.set_cons_succ, Nat.reduceAdd]
          refine kept_val _ (fun _ => rfl) (fun ρ w hw => by go_simp; first | done | with_reducible rfl) ?_
          simp only [Act.put, List.setIfInBounds_toArray, List.set_cons_zero, List.set_cons_succ, Nat.reduceAdd]
          refine kept_val _ (fun _ => rfl) (fun ρ w hw => by go_simp; first | done | with_reducible rfl) ?_
          simp only [Act.put, List.setIfInBounds_toArray, List.set_cons_zero, List.set_cons_succ, Nat.reduceAdd]
          refine kept_val _ (fun _ => rfl) (fun ρ w hw => by go_simp; first | done | with_reducible rfl) ?_
          simp only [Act.put, List.setIfInBounds_toArray, List.set_cons_zero, List.set_cons_succ, Nat.reduceAdd]
          refine kept_val _ (fun _ => rfl) (fun ρ w hw => by go_simp; first | done | with_reducible rfl) ?_
          simp only [Act.put, List.setIfInBounds_toArray, List.set_cons_zero, List.set_cons_succ, Nat.reduceAdd]
          refine kept_val _ (fun _ => rfl) (fun ρ w hw => by go_simp; first | done | with_reducible rfl) ?_
          simp only [Act.put, List.setIfInBounds_toArray, List.set_cons_zero, List.set_cons_succ, Nat.reduceAdd]
          refine kept_val _ (fun _ => rfl) (fun ρ w hw => by go_simp; first | done | with_reducible rfl) ?_
          simp only [Act.put, List.setIfInBounds_toArray, List.set_cons_zero, List.set_cons_succ, Nat.reduceAdd]
          refine kept_val _ (fun _ => rfl) (fun ρ w hw => by have q0 := ((P3.below hw).cells HY.out).1; go_simp; first | done | with_reducible rfl) ?_
          simp only [Act.put, List.setIfInBounds_toArray, List.set_cons_zero, List.set_cons_succ, Nat.reduceAdd]
          refine kept_val _ (fun _ => rfl) (fun ρ w hw => by go_simp; first | done | with_reducible rfl) ?_
          simp only [Act.put, List.setIfInBounds_toArray, List.set_cons_zero, List.set_cons_succ, Nat.reduceAdd]
          refine kept_val _ (fun _ => rfl) (fun ρ w hw => by have q0 := (x17.below hw).c0; go_simp; first | done | with_reducible rfl) ?_
          simp only [Act.put, List.setIfInBounds_toArray, List.set_cons_zero, List.set_cons_succ, Nat.reduceAdd]
          refine kept_val _ (fun _ => rfl) (fun ρ w hw => by go_simp; first | done | with_reducible rfl) ?_
          simp only [Act.put, List.setIfInBounds_toArray, List.set_cons_zero, List.set_cons_succ, Nat.reduceAdd]
          refine kept_val _ (fun _ => rfl) (fun ρ w hw => by go_simp; first | done | with_reducible rfl) ?_
          simp only [Act.put, List.setIfInBounds_toArray, List.set_cons_zero, List.set_cons_succ, Nat.reduceAdd]
          refine kept_end (fun ρ w24 hF => ?_)
          have hbF := hF.below
          clear hF
          replace R1 := R1.below hbF
          replace R2 := R2.below hbF
          replace R3 := R3.below hbF
          replace x17 := x17.below hbF
          replace hb := bto hb hbF
          replace hbl := Nat.lt_of_lt_of_le hbl hbF.size
          clear hbF
          clear P3
          have q0 := x17.c0
          have q1 := x17.c1
          have hbA := below_alloc w24 (.cells #[.int .i64 t.per, .string ⟨t.amt.toArray⟩] 27)
          replace R1 := R1.below hbA
          replace R2 := R2.below hbA
          replace R3 := R3.below hbA
          replace x17 := x17.below hbA
          replace hb := bto hb hbA
          replace hbl := Nat.lt_of_lt_of_le hbl hbA.size
          have own3 : (w24.alloc (.cells #[.int .i64 t.per, .string ⟨t.amt.toArray⟩] 27)).ownsRow w5.heap.size 27 2 (.slice (some ⟨g3, 0, none⟩) ((L' + 1)) c3) ((L' + 1)) (rowsP acc) := by
            have h : World.ownsRow _ w5.heap.size 27 2 (.slice (some ⟨g3, 0, none⟩) ((L' + 1)) c3) acc.length _ := R3
            rwa [HL.out] at h
          go_wp2_with (at_builtin; refine wpList_append_fresh rfl _ _ 28 rfl w5.heap.size 27 i0 (.agg #[.int .i64 0, .string ⟨#[]⟩]) 2 24 Tryz.underlying28 hi hz0 hz1 hz2 rfl (by decide) _ (L' + 1) _ rfl own3 ⟨w24.heap.size, 0, none⟩ 1 1 [.int .i64 t.per, .string ⟨t.amt.toArray⟩] rfl rfl ?l1 ?l2 ?l3 ?l4 ?l5 ?_)
          case l1 =>
            intro j u hu
            match j with
            | 0 => simp at hu; subst hu; rw [Lib.add_plain]; simp [go_sem]
            | 1 => simp at hu; subst hu; rw [Lib.add_plain]; simp [go_sem]
            | j + 2 => simp at hu
          case l2 =>
            intro u hu
            simp at hu
            rcases hu with rfl | rfl <;> rfl
          case l3 => unfold maxLen; omega
          case l4 => omega
          case l5 => exact hb.size
          intro v3 w25 hown3 hgr3 hfr3
          have HR3 : Hid (ORow w25 w5.heap.size v3 (acc ++ [t])) := ORow.app (x := t) hown3 HL.out
          have HT2 : Hid (Tg ps (j + 1) (acc ++ [t])) := HT.out.new HTt.out HTc.out (val_lt_of hta) (fun y' hy' => by rw [HYl.out] at hy'; injection hy' with hy'; subst hy'; exact HPer.out)
          have k1 := fun g h => (R1.block g h).2
          have k2 := fun g h => (R2.block g h).2
          replace hb := below_grown hb hgr3 (fun g h => (R3.block g h).1)
          replace R1 := R1.grown hgr3 D13
          replace R2 := R2.grown hgr3 D23
          replace x17 := x17.grown hgr3 n3
          have hbl2 := Nat.lt_of_lt_of_le hbl hgr3.size
          simp only [World.size_alloc] at k1 k2 hbl
          replace n3 := no_fresh n3 hfr3 hbl
          replace D13 := (D13.symm.fresh hfr3 k1).symm
          replace D23 := (D23.symm.fresh hfr3 k2).symm
          replace R3 := HR3.out
          replace hbl := hbl2
          clear hbl2 hgr3 hfr3 k1 k2 HR3
          clear q0 q1 hbA own3 hown3
          clear n3 hbl x17
          go_wp2
          go_roundw
          case rel => exact ⟨j + 1, acc ++ [t], _, _, _, by omega, by go_num, rfl, rfl, rfl, R1, R2, R3, D12, D13, D23, HT2.out, hb⟩
          case measure => simp [intOf]; omega
    obtain rfl : j = n := by omega
    have R1 := HR1.out
    have R2 := HR2.out
    have R3 := HR3.out
    rw [List.take_of_length_le (by omega)] at R1 R2
    obtain ⟨B1, cp1, e1⟩ := R1.formN (T1l.trans hnl)
    subst e1
    obtain ⟨g2, cp2, e2, -, P2⟩ := R2.row (by omega)
    rw [T2l, hnl] at e2
    subst e2
    obtain ⟨L, hL⟩ : ∃ L, acc.length = L := ⟨_, rfl⟩
    obtain ⟨B3, cp3, e3⟩ := R3.formN hL
    subst e3
    have hGr := hG5.below hb
    have C1 := Lib.hid (D1.out B1 cp1 wr hGr (R1.payAt rfl))
    have C3 := Lib.hid (D3.out acc HT.out B3 L cp3 wr hGr hL (R3.payAt rfl))
    have hpa := R2.payAt rfl
    have Zl := shP_at (d := d) HTz.out
    have htm := List.mem_of_getElem? HTz.out
    have hbW := hb
    replace x10 := x10.below hb
    replace x11 := x11.below hb
    replace hb := Below.refl wr.heap.size wr
    have hz0' := (HEl.out tz htm).1
    by_cases h400 : 400 < tz.per + d
    · have C2 := Lib.hid (D2b.out (sh_bad htm h400) (some ⟨g2, 0, none⟩) cp2 wr hGr hpa)
      clear R1 R2 R3 HR1 HR2 HR3 HD12 HD13 HD23 HT D1 D2 D2b D3 HMax HEl HI5 hpa T1l T2l hL
      obtain ⟨n', hn'⟩ : ∃ n', j = n' + 1 := ⟨j - 1, by omega⟩
      subst hn'
      rw [Nat.add_sub_cancel] at Zl
      have HZl := Lib.hid Zl
      clear Zl HTz HNn hnl htm
      go_wp2_with fail
      ((with_reducible refine (C1.out.of hGr hb).mono ?_); rintro e w41 ⟨rfl, hb41⟩)
      replace x10 := x10.below hb41
      replace x11 := x11.below hb41
      replace P2 := P2.below hb41
      replace hb := bto hb hb41
      clear hb41
      have x19 := FBox.new w41 (.string ⟨(fN q1).toArray⟩) (.string ⟨(fD q1).toArray⟩) 30
      have hbA := below_alloc w41 (.cells #[.string ⟨(fN q1).toArray⟩, .string ⟨(fD q1).toArray⟩] 30)
      replace x10 := x10.below hbA
      replace x11 := x11.below hbA
      replace P2 := P2.below hbA
      replace hb := bto hb hbA
      clear hbA
      have x20 := FBox.new (w41.alloc (.cells #[.string ⟨(fN q1).toArray⟩, .string ⟨(fD q1).toArray⟩] 30)) (.string ⟨(fN q2).toArray⟩) (.string ⟨(fD q2).toArray⟩) 30
      have hbA := below_alloc (w41.alloc (.cells #[.string ⟨(fN q1).toArray⟩, .string ⟨(fD q1).toArray⟩] 30)) (.cells #[.string ⟨(fN q2).toArray⟩, .string ⟨(fD q2).toArray⟩] 30)
      replace x10 := x10.below hbA
      replace x11 := x11.below hbA
      replace P2 := P2.below hbA
      replace x19 := x19.below hbA
      replace hb := bto hb hbA
      clear hbA
      simp only [World.size_alloc] at x10 x11 P2 x19 x20
      go_wp2_with fail
      ((with_reducible refine (C2.out.of hGr hb).mono ?_); rintro e w42 ⟨rfl, hb42⟩)
      replace x10 := x10.below hb42
      replace x11 := x11.below hb42
      replace P2 := P2.below hb42
      replace x19 := x19.below hb42
      replace x20 := x20.below hb42
      replace hb := bto hb hb42
      clear hb42
      have ne10 := zne x10.lt
      have ne11 := zne x11.lt
      have ne19 := zne x19.lt
      have ne20 := zne x20.lt
      have hge := hb.size
      have x22 := FBox.new w42 (.string ⟨#[]⟩) (.string ⟨#[]⟩) 30
      have hbA := below_alloc w42 (.cells #[.string ⟨#[]⟩, .string ⟨#[]⟩] 30)
      replace x10 := x10.below hbA
      replace x11 := x11.below hbA
      replace P2 := P2.below hbA
      replace x19 := x19.below hbA
      replace x20 := x20.below hbA
      have z22 := ZBox.new w42 (.cells #[.string ⟨#[]⟩, .string ⟨#[]⟩] 30)
      replace hb := bto hb hbA
      clear hbA
      clear x22
      have x23 := FBox.new (w42.alloc (.cells #[.string ⟨#[]⟩, .string ⟨#[]⟩] 30)) (.string ⟨#[]⟩) (.string ⟨#[]⟩) 30
      have hbA := below_alloc (w42.alloc (.cells #[.string ⟨#[]⟩, .string ⟨#[]⟩] 30)) (.cells #[.string ⟨#[]⟩, .string ⟨#[]⟩] 30)
      replace x10 := x10.below hbA
      replace x11 := x11.below hbA
      replace P2 := P2.below hbA
      replace x19 := x19.below hbA
      replace x20 := x20.below hbA
      replace z22 := z22.below hbA
      have z23 := ZBox.new (w42.alloc (.cells #[.string ⟨#[]⟩, .string ⟨#[]⟩] 30)) (.cells #[.string ⟨#[]⟩, .string ⟨#[]⟩] 30)
      replace hb := bto hb hbA
      clear hbA
      clear x23
      simp only [World.size_alloc] at x10 x11 P2 x19 x20 z22 z23
      go_wp2_with fail
      ((with_reducible refine (C3.out.of hGr hb).mono ?_); rintro e w43 ⟨rfl, hb43⟩)
      replace x10 := x10.below hb43
      replace x11 := x11.below hb43
      replace P2 := P2.below hb43
      replace x19 := x19.below hb43
      replace x20 := x20.below hb43
      replace z22 := z22.below hb43
      replace z23 := z23.below hb43
      replace hb := bto hb hb43
      clear hb43
      have l22 := z22.lt
      have l23 := z23.lt
      have ne25 : ¬ (w43.heap.size = w42.heap.size ∨ w43.heap.size = w42.heap.size + 1) := by omega
      have ne26 : ¬ (w43.heap.size + 1 = w42.heap.size ∨ w43.heap.size + 1 = w42.heap.size + 1) := by omega
      clear l22 l23
      have x25 := FBox.new w43 (.string ⟨(fN q1).toArray⟩) (.string ⟨(fD q1).toArray⟩) 30
      have hbA := below_alloc w43 (.cells #[.string ⟨(fN q1).toArray⟩, .string ⟨(fD q1).toArray⟩] 30)
      replace x10 := x10.below hbA
      replace x11 := x11.below hbA
      replace P2 := P2.below hbA
      replace x19 := x19.below hbA
      replace x20 := x20.below hbA
      replace z22 := z22.below hbA
      replace z23 := z23.below hbA
      replace hb := bto hb hbA
      clear hbA
      have x26 := FBox.new (w43.alloc (.cells #[.string ⟨(fN q1).toArray⟩, .string ⟨(fD q1).toArray⟩] 30)) (.string ⟨(fN q2).toArray⟩) (.string ⟨(fD q2).toArray⟩) 30
      have hbA := below_alloc (w43.alloc (.cells #[.string ⟨(fN q1).toArray⟩, .string ⟨(fD q1).toArray⟩] 30)) (.cells #[.string ⟨(fN q2).toArray⟩, .string ⟨(fD q2).toArray⟩] 30)
      replace x10 := x10.below hbA
      replace x11 := x11.below hbA
      replace P2 := P2.below hbA
      replace x19 := x19.below hbA
      replace x20 := x20.below hbA
      replace z22 := z22.below hbA
      replace z23 := z23.below hbA
      replace x25 := x25.below hbA
      replace hb := bto hb hbA
      clear hbA
      simp only [World.size_alloc] at x10 x11 P2 x19 x20 z22 z23 x25 x26
      have q0 := (P2.cells HZl.out).1
      go_wp2_with fail
      clear q0
      refine wp_region_kept_two 20 w42.heap.size (w42.heap.size + 1) 22 23 _ _ (by kernel_rfl) (by kernel_rfl) (by decide) (by omega) z22.h z23.h rfl ?_
      simp only [Act.put, List.setIfInBounds_toArray, List.set_cons_zero, List.set_cons_succ]
      refine kept_val _ (fun _ => rfl) (fun ρ w hw => by have q0 := (x10.keepX hw ne10).c0; have q1 := (x10.keepX hw ne10).c1; go_simp; first | done | with_reducible rfl) ?_
      simp only [Act.put, List.setIfInBounds_toArray, List.set_cons_zero, List.set_cons_succ, Nat.reduceAdd]
      refine kept_val _ (fun _ => rfl) (fun ρ w hw => by have q0 := (x11.keepX hw ne11).c0; have q1 := (x11.keepX hw ne11).c1; go_simp; first | done | with_reducible rfl) ?_
      simp only [Act.put, List.setIfInBounds_toArray, List.set_cons_zero, List.set_cons_succ, Nat.reduceAdd]
      refine kept_val _ (fun _ => rfl) (fun ρ w hw => by go_simp; first | done | with_reducible rfl) ?_
      simp only [Act.put, List.setIfInBounds_toArray, List.set_cons_zero, List.set_cons_succ, Nat.reduceAdd]
      refine kept_putK 20 _ _ _ _ _ rfl rfl (fun _ => rfl) (fun ρ w hw q0 q1 q2 q3 => by go_simp; first | done | with_reducible rfl) ?_
      simp only [Act.put, Nat.reduceAdd]
      refine kept_putK 21 _ _ _ _ _ rfl rfl (fun _ => rfl) (fun ρ w hw q0 q1 q2 q3 => by go_simp; first | done | with_reducible rfl) ?_
      simp only [Act.put, Nat.reduceAdd]
      refine kept_val _ (fun _ => rfl) (fun ρ w hw => by go_simp; first | done | with_reducible rfl) ?_
      simp only [Act.put, List.setIfInBounds_toArray, List.set_cons_zero, List.set_cons_succ, Nat.reduceAdd]
      refine kept_endX (fun ρ w60 hF => ?_)
      have hbX := hF.below
      have x22 := FBox.ofB (hF.box 20 _ _ rfl).2
      have x23 := FBox.ofB (hF.box 21 _ _ rfl).2
      generalize ρ 20 = c22 at *
      generalize ρ 21 = c23 at *
      replace x10 := x10.keepX hbX ne10
      replace x11 := x11.keepX hbX ne11
      replace x19 := x19.keepX hbX ne19
      replace x20 := x20.keepX hbX ne20
      replace x25 := x25.keepX hbX ne25
      replace x26 := x26.keepX hbX ne26
      replace hb := hbX.lower hb (by rintro k (rfl | rfl) <;> omega)
      clear hF hbX z22 z23 P2 ne10 ne11 ne19 ne20 ne25 ne26
      have qx10_0 := x10.c0
      have qx10_1 := x10.c1
      have qx11_0 := x11.c0
      have qx11_1 := x11.c1
      have qx19_0 := x19.c0
      have qx19_1 := x19.c1
      have qx20_0 := x20.c0
      have qx20_1 := x20.c1
      have qx22_0 := x22.c0
      have qx22_1 := x22.c1
      have qx23_0 := x23.c0
      have qx23_1 := x23.c1
      have qx25_0 := x25.c0
      have qx25_1 := x25.c1
      have qx26_0 := x26.c0
      have qx26_1 := x26.c1
      go_wp2_with fail
      ((with_reducible refine (CW.out.of hGr hb).mono ?_); rintro e w44 ⟨rfl, hb44⟩)
      clear qx10_0 qx10_1 qx11_0 qx11_1 qx19_0 qx19_1 qx20_0 qx20_1 qx22_0 qx22_1 qx23_0 qx23_1 qx25_0 qx25_1 qx26_0 qx26_1
      replace x10 := x10.below hb44
      replace x11 := x11.below hb44
      replace x19 := x19.below hb44
      replace x20 := x20.below hb44
      replace x22 := x22.below hb44
      replace x23 := x23.below hb44
      replace x25 := x25.below hb44
      replace x26 := x26.below hb44
      replace hb := bto hb hb44
      clear hb44
      clear x10
      clear x11
      clear x19
      clear x20
      clear x22
      clear x23
      clear x25
      clear x26
      go_wp2
      go_ret
      exact ⟨rfl, bto hb0 (bto hbW hb)⟩
    · have C2 := Lib.hid (D2.out (fun q hq => by have := HMax.out q hq; omega) (some ⟨g2, 0, none⟩) cp2 wr hGr hpa)
      clear R1 R2 R3 HR1 HR2 HR3 HD12 HD13 HD23 HT D1 D2 D2b D3 HMax HEl HI5 hpa T1l T2l hL
      obtain ⟨n', hn'⟩ : ∃ n', j = n' + 1 := ⟨j - 1, by omega⟩
      subst hn'
      rw [Nat.add_sub_cancel] at Zl
      have HZl := Lib.hid Zl
      clear Zl HTz HNn hnl htm
      go_wp2_with fail
      ((with_reducible refine (C1.out.of hGr hb).mono ?_); rintro e w41 ⟨rfl, hb41⟩)
      replace x10 := x10.below hb41
      replace x11 := x11.below hb41
      replace P2 := P2.below hb41
      replace hb := bto hb hb41
      clear hb41
      have x19 := FBox.new w41 (.string ⟨(fN q1).toArray⟩) (.string ⟨(fD q1).toArray⟩) 30
      have hbA := below_alloc w41 (.cells #[.string ⟨(fN q1).toArray⟩, .string ⟨(fD q1).toArray⟩] 30)
      replace x10 := x10.below hbA
      replace x11 := x11.below hbA
      replace P2 := P2.below hbA
      replace hb := bto hb hbA
      clear hbA
      have x20 := FBox.new (w41.alloc (.cells #[.string ⟨(fN q1).toArray⟩, .string ⟨(fD q1).toArray⟩] 30)) (.string ⟨(fN q2).toArray⟩) (.string ⟨(fD q2).toArray⟩) 30
      have hbA := below_alloc (w41.alloc (.cells #[.string ⟨(fN q1).toArray⟩, .string ⟨(fD q1).toArray⟩] 30)) (.cells #[.string ⟨(fN q2).toArray⟩, .string ⟨(fD q2).toArray⟩] 30)
      replace x10 := x10.below hbA
      replace x11 := x11.below hbA
      replace P2 := P2.below hbA
      replace x19 := x19.below hbA
      replace hb := bto hb hbA
      clear hbA
      simp only [World.size_alloc] at x10 x11 P2 x19 x20
      go_wp2_with fail
      ((with_reducible refine (C2.out.of hGr hb).mono ?_); rintro e w42 ⟨rfl, hb42⟩)
      replace x10 := x10.below hb42
      replace x11 := x11.below hb42
      replace P2 := P2.below hb42
      replace x19 := x19.below hb42
      replace x20 := x20.below hb42
      replace hb := bto hb hb42
      clear hb42
      have x22 := FBox.new w42 (.string ⟨(fN q1).toArray⟩) (.string ⟨(fD q1).toArray⟩) 30
      have hbA := below_alloc w42 (.cells #[.string ⟨(fN q1).toArray⟩, .string ⟨(fD q1).toArray⟩] 30)
      replace x10 := x10.below hbA
      replace x11 := x11.below hbA
      replace P2 := P2.below hbA
      replace x19 := x19.below hbA
      replace x20 := x20.below hbA
      replace hb := bto hb hbA
      clear hbA
      have x23 := FBox.new (w42.alloc (.cells #[.string ⟨(fN q1).toArray⟩, .string ⟨(fD q1).toArray⟩] 30)) (.string ⟨(fN q2).toArray⟩) (.string ⟨(fD q2).toArray⟩) 30
      have hbA := below_alloc (w42.alloc (.cells #[.string ⟨(fN q1).toArray⟩, .string ⟨(fD q1).toArray⟩] 30)) (.cells #[.string ⟨(fN q2).toArray⟩, .string ⟨(fD q2).toArray⟩] 30)
      replace x10 := x10.below hbA
      replace x11 := x11.below hbA
      replace P2 := P2.below hbA
      replace x19 := x19.below hbA
      replace x20 := x20.below hbA
      replace x22 := x22.below hbA
      replace hb := bto hb hbA
      clear hbA
      simp only [World.size_alloc] at x10 x11 P2 x19 x20 x22 x23
      go_wp2_with fail
      ((with_reducible refine (C3.out.of hGr hb).mono ?_); rintro e w43 ⟨rfl, hb43⟩)
      replace x10 := x10.below hb43
      replace x11 := x11.below hb43
      replace P2 := P2.below hb43
      replace x19 := x19.below hb43
      replace x20 := x20.below hb43
      replace x22 := x22.below hb43
      replace x23 := x23.below hb43
      replace hb := bto hb hb43
      clear hb43
      have x25 := FBox.new w43 (.string ⟨(fN q1).toArray⟩) (.string ⟨(fD q1).toArray⟩) 30
      have hbA := below_alloc w43 (.cells #[.string ⟨(fN q1).toArray⟩, .string ⟨(fD q1).toArray⟩] 30)
      replace x10 := x10.below hbA
      replace x11 := x11.below hbA
      replace P2 := P2.below hbA
      replace x19 := x19.below hbA
      replace x20 := x20.below hbA
      replace x22 := x22.below hbA
      replace x23 := x23.below hbA
      replace hb := bto hb hbA
      clear hbA
      have x26 := FBox.new (w43.alloc (.cells #[.string ⟨(fN q1).toArray⟩, .string ⟨(fD q1).toArray⟩] 30)) (.string ⟨(fN q2).toArray⟩) (.string ⟨(fD q2).toArray⟩) 30
      have hbA := below_alloc (w43.alloc (.cells #[.string ⟨(fN q1).toArray⟩, .string ⟨(fD q1).toArray⟩] 30)) (.cells #[.string ⟨(fN q2).toArray⟩, .string ⟨(fD q2).toArray⟩] 30)
      replace x10 := x10.below hbA
      replace x11 := x11.below hbA
      replace P2 := P2.below hbA
      replace x19 := x19.below hbA
      replace x20 := x20.below hbA
      replace x22 := x22.below hbA
      replace x23 := x23.below hbA
      replace x25 := x25.below hbA
      replace hb := bto hb hbA
      clear hbA
      simp only [World.size_alloc] at x10 x11 P2 x19 x20 x22 x23 x25 x26
      have q0 := (P2.cells HZl.out).1
      have qx10_0 := x10.c0
      have qx10_1 := x10.c1
      have qx11_0 := x11.c0
      have qx11_1 := x11.c1
      have qx19_0 := x19.c0
      have qx19_1 := x19.c1
      have qx20_0 := x20.c0
      have qx20_1 := x20.c1
      have qx22_0 := x22.c0
      have qx22_1 := x22.c1
      have qx23_0 := x23.c0
      have qx23_1 := x23.c1
      have qx25_0 := x25.c0
      have qx25_1 := x25.c1
      have qx26_0 := x26.c0
      have qx26_1 := x26.c1
      go_wp2_with fail
      clear q0
      clear qx10_0 qx10_1 qx11_0 qx11_1 qx19_0 qx19_1 qx20_0 qx20_1 qx22_0 qx22_1 qx23_0 qx23_1 qx25_0 qx25_1 qx26_0 qx26_1
      ((with_reducible refine (CW.out.of hGr hb).mono ?_); rintro e w44 ⟨rfl, hb44⟩)
      replace hb := bto hb hb44
      clear hb44
      clear x10
      clear x11
      clear x19
      clear x20
      clear x22
      clear x23
      clear x25
      clear x26
      go_wp2
      go_ret
      exact ⟨rfl, bto hb0 (bto hbW hb)⟩
end Go.Proofs.YtolbojchdlojnaaGreatDoor
