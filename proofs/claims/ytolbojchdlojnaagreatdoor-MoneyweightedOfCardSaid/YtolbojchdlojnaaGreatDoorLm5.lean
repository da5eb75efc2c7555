/- MoneyweightedLinear. -/
import Derived.Test.YtolbojchdlojnaaGreatDoorWq
import Derived.Test.YtolbojchdlojnaaGreatDoorWo
namespace Go.Proofs.YtolbojchdlojnaaGreatDoor
open Go.RowKit Num
theorem payL_same : ∀ (ps qs : List Pay) (o : Option Int), qs.map (·.per) = ps.map (·.per) → (∀ q ∈ qs, q.amt = canon (val q.amt)) → payL o ps = 0 → payL o qs = 0
  | [], [], _, _, _, _ => rfl
  | [], _ :: _, _, h, _, _ => by simp at h
  | _ :: _, [], _, h, _, _ => by simp at h
  | p :: ps, q :: qs, o, h, hc, h0 => by
    simp only [List.map_cons, List.cons.injEq] at h
    unfold payL at h0 ⊢
    rw [h.1]
    by_cases g1 : p.per < 0 ∨ 400 < p.per
    · rw [if_pos g1] at h0; cases h0
    rw [if_neg g1] at h0 ⊢
    by_cases g2 : lessO o p.per = true
    · rw [if_pos g2] at h0; cases h0
    rw [if_neg g2] at h0 ⊢
    by_cases g3 : p.amt = canon (val p.amt)
    rotate_left
    · rw [if_pos g3] at h0; cases h0
    rw [if_neg (fun h => h g3)] at h0
    rw [if_neg (fun h => h (hc q (List.mem_cons_self ..)))]
    exact payL_same ps qs _ h.2 (fun x hx => hc x (List.mem_cons_of_mem _ hx)) h0
theorem same_len {ps qs : List Pay} (h : qs.map (·.per) = ps.map (·.per)) : qs.length = ps.length := by
  have := congrArg List.length h; simpa using this
theorem payE_same {ps qs : List Pay} (h : qs.map (·.per) = ps.map (·.per)) (hc : ∀ q ∈ qs, q.amt = canon (val q.amt)) (h0 : payE ps = 0) : payE qs = 0 := by
  have hl := same_len h
  unfold payE at h0 ⊢
  rw [hl]
  by_cases g1 : ps.length = 0
  · rw [if_pos g1] at h0; cases h0
  rw [if_neg g1] at h0 ⊢
  by_cases g2 : 64 < ps.length
  · rw [if_pos g2] at h0; cases h0
  rw [if_neg g2] at h0 ⊢
  exact payL_same ps qs none h hc h0
theorem same_at {ps qs : List Pay} (h : qs.map (·.per) = ps.map (·.per)) {i : Nat} {q : Pay} (hq : qs[i]? = some q) : ∃ p, ps[i]? = some p ∧ p.per = q.per := by
  have h1 : (qs.map (·.per))[i]? = some q.per := by rw [List.getElem?_map, hq]; rfl
  rw [h, List.getElem?_map] at h1
  cases hp : ps[i]? with
  | none => rw [hp] at h1; cases h1
  | some p => rw [hp] at h1; injection h1 with h1; exact ⟨p, rfl, h1⟩
theorem sc_per (z : Int) (ps : List Pay) : (scP z ps).map (·.per) = ps.map (·.per) := by unfold scP; rw [List.map_map]; rfl
theorem se_per : ∀ (ps : List Pay) (os : List (List UInt8)), (seP ps os).map (·.per) = ps.map (·.per)
  | [], _ => rfl
  | p :: ps, os => congrArg (p.per :: ·) (se_per ps os.tail)
theorem su_per : ∀ (ps : List Pay) (os : List (List UInt8)), (suP ps os).map (·.per) = ps.map (·.per)
  | [], _ => rfl
  | p :: ps, os => congrArg (p.per :: ·) (su_per ps os.tail)
theorem mul26 {a b : Int} (ha : a.natAbs < 10 ^ 13) (hb : b.natAbs < 10 ^ 13) : (a * b).natAbs < 10 ^ 26 := by
  rw [Int.natAbs_mul, show (10 : Nat) ^ 26 = 10 ^ 13 * 10 ^ 13 by decide]
  exact Nat.mul_lt_mul'' ha hb
theorem add26 {a b : Int} (ha : a.natAbs < 10 ^ 13) (hb : b.natAbs < 10 ^ 13) : (a + b).natAbs < 10 ^ 26 := by
  have h := Int.natAbs_add_le a b
  have h2 : (10 : Nat) ^ 13 + 10 ^ 13 ≤ 10 ^ 26 := by decide
  omega
theorem more26 {a : Int} (ha : a.natAbs < 10 ^ 13) : a.natAbs < 10 ^ 26 := Nat.lt_trans ha (by decide)
theorem cfix (z : Int) : canon z = canon (val (canon z)) := by rw [val_canon]
theorem sc_mem {z : Int} {ps : List Pay} (hz : z.natAbs < 10 ^ 13) (h : ∀ p ∈ ps, p.amt.length ≤ 13) : ∀ q ∈ scP z ps, q.amt = canon (val q.amt) ∧ (val q.amt).natAbs < 10 ^ 26 := by
  intro q hq
  obtain ⟨p, hp, rfl⟩ := List.mem_map.1 hq
  refine ⟨cfix _, ?_⟩
  show (val (canon _)).natAbs < _
  rw [val_canon]
  exact mul26 (val_lt_of (h p hp)) hz
theorem head_ok {os : List (List UInt8)} (ho : ∀ x ∈ os, x.length ≤ 13 ∧ x = canon (val x)) : (os.head?.getD []).length ≤ 13 ∧ os.head?.getD [] = canon (val (os.head?.getD [])) := by
  cases os with
  | nil => exact ⟨by decide, by decide +kernel⟩
  | cons x r => exact ho x (List.mem_cons_self ..)
theorem tail_ok {os : List (List UInt8)} (ho : ∀ x ∈ os, x.length ≤ 13 ∧ x = canon (val x)) : ∀ x ∈ os.tail, x.length ≤ 13 ∧ x = canon (val x) := fun x hx => ho x (List.mem_of_mem_tail hx)
theorem se_mem : ∀ {ps : List Pay} {os : List (List UInt8)}, (∀ x ∈ os, x.length ≤ 13 ∧ x = canon (val x)) → ∀ q ∈ seP ps os, q.amt = canon (val q.amt) ∧ (val q.amt).natAbs < 10 ^ 26
  | [], _, _ => fun q hq => by cases hq
  | p :: ps, os, ho => fun q hq => by
    rcases List.mem_cons.1 hq with rfl | hq
    · exact ⟨(head_ok ho).2, more26 (val_lt_of (head_ok ho).1)⟩
    · exact se_mem (tail_ok ho) q hq
theorem su_mem : ∀ {ps : List Pay} {os : List (List UInt8)}, (∀ p ∈ ps, p.amt.length ≤ 13) → (∀ x ∈ os, x.length ≤ 13 ∧ x = canon (val x)) → ∀ q ∈ suP ps os, q.amt = canon (val q.amt) ∧ (val q.amt).natAbs < 10 ^ 26
  | [], _, _, _ => fun q hq => by cases hq
  | p :: ps, os, hp, ho => fun q hq => by
    rcases List.mem_cons.1 hq with rfl | hq
    · refine ⟨cfix _, ?_⟩
      show (val (canon _)).natAbs < _
      rw [val_canon]
      exact add26 (val_lt_of (hp p (List.mem_cons_self ..))) (val_lt_of (head_ok ho).1)
    · exact su_mem (fun x hx => hp x (List.mem_cons_of_mem _ hx)) (tail_ok ho) q hq
theorem lin_ok {ps T : List Pay} {n K : Nat} {q : Rat} (hg : GoodP ps n) (hok : payE ps = 0) (hper : T.map (·.per) = ps.map (·.per)) (hm : ∀ q ∈ T, q.amt = canon (val q.amt) ∧ (val q.amt).natAbs < 10 ^ 26) (hq : Bd K q) (hK : K ≤ 40) :
    payE T = 0 ∧ ValAt T q ∧ (∀ p ∈ T, p.amt.length ≤ 1000) ∧ T.length = n := by
  have hn8 : n ≤ 8 := by
    obtain ⟨-, h2, -⟩ := payE_ok hok
    have := hg.sz; have := hg.len; omega
  have hl : T.length = n := (same_len hper).trans hg.len
  have h0 := payE_same hper (fun x hx => (hm x hx).1) hok
  have ha : ∀ p ∈ T, p.amt.length ≤ 1000 := fun p hp => by
    rw [(hm p hp).1]; exact Nat.le_trans (canon_len_le _ _ (hm p hp).2) (by decide)
  refine ⟨h0, good_valAt (M := 26) hl hn8 (fun a z h1 h2 => ?_) h0 hq (by decide) (fun p hp => ⟨(hm p hp).2, ha p hp⟩) (by omega), ha, hl⟩
  obtain ⟨a', e1, e2⟩ := same_at hper h1
  obtain ⟨z', e3, e4⟩ := same_at hper h2
  have := hg.span hok hn8 a' z' e1 e3
  omega
theorem valV_ok {ps : List Pay} {l l' : List UInt8} {V : Rat} (h0 : payE ps = 0) (h1 : isFr l l') (h2 : 0 < fv l l') (hv : valQ (fv l l') (pzs ps) = V) : valV ps l l' = .tuple #[(Value.agg #[Value.string ⟨List.toArray (fN V)⟩, Value.string ⟨List.toArray (fD V)⟩]), .int .i64 0] := by
  unfold valV
  rw [if_neg (by rintro (h | h); exact h h0; exact h h1), if_neg (by grind), hv]
theorem isFr_frac (q : Rat) : isFr (fN q) (fD q) := by unfold isFr; rw [fv_frac]; exact ⟨rfl, rfl⟩
theorem mix_done {T p : List Pay} {k : Nat} {y : Pay} (hy : T[k]? = some y) (hT : T.length = p.length) : (mixL T p (k + 1))[k]? = some y := by
  have hk := (List.getElem?_eq_some_iff.1 hy).1
  rw [← mix_set hy hT]
  exact List.getElem?_set_self (by rw [mix_len hT]; omega)
section
variable {P : Program}
theorem last_put1 {st : Oper} {w : World} {Q : Exit → Act → World → Prop} {ops : Array Oper} {C : World → Prop} {i : Nat} {a : St} {B : Bx} (b j : Nat) (u x : Value) (hlt : b < w.heap.size) (h0 : w.cell? ⟨b, j, none⟩ = some u) (f0 : w.frozen? ⟨b, j, none⟩ = false)
    (h : ∀ ρ w', w'.cell? ⟨b, j, none⟩ = some u → w'.frozen? ⟨b, j, none⟩ = false → (execOp (a ρ).eval st).run P w' = .ok .skip (w'.setCell ⟨b, j, none⟩ x))
    (hn : ∀ ρ w', Fits w ρ B w' → Q .normal (a ρ) (w'.setCell ⟨b, j, none⟩ x)) :
    wpKept P ops C (fun a' B => ∀ ρ w', Fits w ρ B w' → ∃ w'', (execOp (a' ρ).eval st).run P w' = .ok .skip w'' ∧ Q .normal (a' ρ) w'') [] i a B := by
  intro ρ w' hF
  have k := hF.below
  exact ⟨_, h ρ w' ((k.cell (p := ⟨b, j, none⟩) hlt).trans h0) ((k.frozen (p := ⟨b, j, none⟩) hlt).trans f0), hn ρ w' hF⟩
end
theorem FBox.farC {W : World} {b c : Nat} {u v : Value} (h : FBox W b u v) (hn : b ≠ c) (i : Nat) (x : Value) : FBox (W.setCell ⟨c, i, none⟩ x) b u v := by
  have c0 := h.c0; have c1 := h.c1; have f0 := h.f0; have f1 := h.f1; have lt := h.lt
  refine ⟨by simp [go_sem, c0], by simp [go_sem, c1], by simp [go_sem, f0], by simp [go_sem, f1], by simp [lt]⟩
theorem below_put1 {w w' : World} {B : Nat} (h : Below B w w') {b : Nat} (hb : B ≤ b) (o : Nat) (y : Value) : Below B w (w'.setCell ⟨b, o, none⟩ y) := h.setCell (p := ⟨b, o, none⟩) hb y
set_option maxHeartbeats 8000000 in
set_option maxRecDepth 100000 in
theorem mlinear_law (A : Option Addr) (ps : List Pay) (n c : Nat) (B : Option Addr) (os : List (List UInt8)) (m c' : Nat) (l l' k : List UInt8) (w : World) (hG : Glob w) (hn : ps.length = n) (hnm : n ≤ 9223372036854775807) (hI : PayAt w A ps) (hm : os.length = m) (hmm : m ≤ 9223372036854775807) (hO : SAt w B os) :
    Calls Tryz.prog 10 #[.slice A n c, .slice B m c', (Value.agg #[Value.string ⟨List.toArray l⟩, Value.string ⟨List.toArray l'⟩]), .string ⟨k.toArray⟩] w fun e w' => e = .returned (.bool true) ∧ Below w.heap.size w w' := by
  have CW := Lib.hid wAwake47
  have CL := Lib.hid (wLong l l')
  have HI := Lib.hid hI
  have HO := Lib.hid hO
  have x6 := FBox.new w (.string ⟨l.toArray⟩) (.string ⟨l'.toArray⟩) 30
  have hb := below_alloc w (.cells #[.string ⟨l.toArray⟩, .string ⟨l'.toArray⟩] 30)
  clear hI hO
  go_enter Tryz.func10, Tryz.ntmps10
  go_wp2_with fail
  ((with_reducible refine (mrGreat A ps n c _ (hG.below hb) hn hnm (HI.out.below hb)).mono ?_); rintro e w1 ⟨g, rfl, hgd, hb1⟩)
  replace x6 := x6.below hb1
  replace hb := bto hb hb1
  clear hb1
  cases g
  rotate_left
  · clear hgd
    clear x6
    go_wp2_with fail
    ((with_reducible refine (CW.out.of hG hb).mono ?_); rintro e w2 ⟨rfl, hb2⟩)
    replace hb := bto hb hb2
    clear hb2
    go_wp2
    go_ret
    exact ⟨rfl, hb⟩
  have HGd := Lib.hid (hgd rfl)
  have HP := Lib.hid ((hgd rfl).pl HI.out)
  have C1 := Lib.hid (mrCheckB hG HP.out c)
  clear hgd hnm
  by_cases g0 : payE ps = 0
  rotate_left
  · have e1 : (payE ps != 0) = true := bneq' (intbne g0)
    generalize payE ps = E at *
    clear g0
    go_wp2_with fail
    ((with_reducible refine (C1.out.of hG hb).mono ?_); rintro e w2 ⟨rfl, hb2⟩)
    replace x6 := x6.below hb2
    replace hb := bto hb hb2
    clear hb2
    clear x6
    go_wp2_with fail
    ((with_reducible refine (CW.out.of hG hb).mono ?_); rintro e w3 ⟨rfl, hb3⟩)
    replace hb := bto hb hb3
    clear hb3
    go_wp2
    go_ret
    exact ⟨rfl, hb⟩
  have HG0 := Lib.hid g0
  rw [g0] at C1
  clear g0
  go_wp2_with fail
  ((with_reducible refine (C1.out.of hG hb).mono ?_); rintro e w2 ⟨rfl, hb2⟩)
  replace x6 := x6.below hb2
  replace hb := bto hb hb2
  clear hb2
  have qx6_0 := x6.c0
  have qx6_1 := x6.c1
  go_wp2_with fail
  ((with_reducible refine (CL.out.of hG hb).mono ?_); rintro e w3 ⟨rfl, hb3⟩)
  clear qx6_0 qx6_1
  replace x6 := x6.below hb3
  replace hb := bto hb hb3
  clear hb3
  cases hlong : longF l l'
  rotate_left
  · clear x6
    go_wp2_with fail
    ((with_reducible refine (CW.out.of hG hb).mono ?_); rintro e w4 ⟨rfl, hb4⟩)
    replace hb := bto hb hb4
    clear hb4
    go_wp2
    go_ret
    exact ⟨rfl, hb⟩
  obtain ⟨h0, h1⟩ := longF_f hlong
  clear hlong C1
  have C1 := Lib.hid (rCheck (isq_raw h0 h1 (by decide)) rfl)
  by_cases gc : isFr l l'
  rotate_left
  · rw [if_neg gc] at C1
    have qx6_0 := x6.c0
    have qx6_1 := x6.c1
    go_wp2_with fail
    ((with_reducible refine (C1.out.of hG hb).mono ?_); rintro e w4 ⟨rfl, hb4⟩)
    clear qx6_0 qx6_1
    replace x6 := x6.below hb4
    replace hb := bto hb hb4
    clear hb4
    clear x6
    go_wp2_with fail
    ((with_reducible refine (CW.out.of hG hb).mono ?_); rintro e w5 ⟨rfl, hb5⟩)
    replace hb := bto hb hb5
    clear hb5
    go_wp2
    go_ret
    exact ⟨rfl, hb⟩
  rw [if_pos gc] at C1
  have HGc := Lib.hid gc
  clear gc
  have C2 := Lib.hid (wSign (isq_raw h0 h1 (by decide)) rfl)
  have qx6_0 := x6.c0
  have qx6_1 := x6.c1
  go_wp2_with fail
  ((with_reducible refine (C1.out.of hG hb).mono ?_); rintro e w4 ⟨rfl, hb4⟩)
  clear qx6_0 qx6_1
  replace x6 := x6.below hb4
  replace hb := bto hb hb4
  clear hb4
  have qx6_0 := x6.c0
  have qx6_1 := x6.c1
  go_wp2_with fail
  ((with_reducible refine (C2.out.of hG hb).mono ?_); rintro e w5 ⟨rfl, hb5⟩)
  clear qx6_0 qx6_1
  replace x6 := x6.below hb5
  replace hb := bto hb hb5
  clear hb5
  by_cases gp : fv l l' ≤ 0
  · have e1 : decide (cmpQ (fv l l') 0 ≤ 0) = true := decide_eq_true ((cmpQ_le _ _).2 gp)
    generalize cmpQ (fv l l') 0 = s0 at *
    clear x6
    go_wp2_with fail
    ((with_reducible refine (CW.out.of hG hb).mono ?_); rintro e w6 ⟨rfl, hb6⟩)
    replace hb := bto hb hb6
    clear hb6
    go_wp2
    go_ret
    exact ⟨rfl, hb⟩
  have e1 : decide (cmpQ (fv l l') 0 ≤ 0) = false := decide_eq_false (fun h => gp ((cmpQ_le _ _).1 h))
  generalize cmpQ (fv l l') 0 = s0 at *
  have HQ0 : Hid (0 < fv l l') := Rat.not_le.1 gp
  clear gp C1 C2
  by_cases hk : 13 < k.length
  · clear x6
    go_wp2_with fail
    ((with_reducible refine (CW.out.of hG hb).mono ?_); rintro e w6 ⟨rfl, hb6⟩)
    replace hb := bto hb hb6
    clear hb6
    go_wp2
    go_ret
    exact ⟨rfl, hb⟩
  have hk13 : k.length ≤ 13 := by omega
  by_cases gk : k = canon (val k)
  rotate_left
  · have C1 := Lib.hid (riCheck (l := k) (c := 1) (by omega) (if_neg gk))
    clear gk
    go_wp2_with fail
    ((with_reducible refine (C1.out.of hG hb).mono ?_); rintro e w6 ⟨rfl, hb6⟩)
    replace x6 := x6.below hb6
    replace hb := bto hb hb6
    clear hb6
    clear x6
    go_wp2_with fail
    ((with_reducible refine (CW.out.of hG hb).mono ?_); rintro e w7 ⟨rfl, hb7⟩)
    replace hb := bto hb hb7
    clear hb7
    go_wp2
    go_ret
    exact ⟨rfl, hb⟩
  have C1 := Lib.hid (riCheck (l := k) (c := 0) (by omega) (if_pos gk))
  clear gk
  go_wp2_with fail
  ((with_reducible refine (C1.out.of hG hb).mono ?_); rintro e w6 ⟨rfl, hb6⟩)
  replace x6 := x6.below hb6
  replace hb := bto hb hb6
  clear hb6
  go_wp2_with fail
  ((with_reducible refine (hasBad B os m c' _ (hG.below hb) hm hmm (HO.out.below hb)).mono ?_); rintro e w7 ⟨rfl, hb7⟩)
  replace x6 := x6.below hb7
  replace hb := bto hb hb7
  clear hb7 C1 e1
  by_cases gb : 0 ≤ idxS os 0
  · have e1 : decide (0 ≤ idxS os 0) = true := decide_eq_true gb
    generalize idxS os 0 = ix at *
    clear x6
    go_wp2_with fail
    ((with_reducible refine (CW.out.of hG hb).mono ?_); rintro e w8 ⟨rfl, hb8⟩)
    replace hb := bto hb hb8
    clear hb8
    go_wp2
    go_ret
    exact ⟨rfl, hb⟩
  have e1 : decide (0 ≤ idxS os 0) = false := decide_eq_false gb
  have HOk := Lib.hid (idxS_neg os 0 (by omega))
  generalize idxS os 0 = ix at *
  clear gb
  have Bq : Bd 13 (fv l l') := bd_fv h0 h1 (by decide)
  have hz13 : (val k).natAbs < 10 ^ 13 := val_lt_of hk13
  have hpam := HGd.out.am
  obtain ⟨z, hz⟩ : ∃ z, z = val k := ⟨_, rfl⟩
  have hmp : ∀ q ∈ ps, q.amt = canon (val q.amt) ∧ (val q.amt).natAbs < 10 ^ 26 := fun q hq => ⟨((payE_ok HG0.out).2.2.2 q hq).2.2, more26 (val_lt_of (hpam q hq))⟩
  have L0 := lin_ok HGd.out HG0.out rfl hmp Bq (by decide)
  have Ba : Bd 13 (((1 : Int) : Rat)) := bd_mono (bd_int (a := 1) (k := 5) (by decide) (by decide)) (by decide)
  have L9 := lin_ok HGd.out HG0.out rfl hmp Ba (by decide)
  have L1 := lin_ok HGd.out HG0.out (sc_per z ps) (sc_mem (by rw [hz]; exact hz13) hpam) Bq (by decide)
  have L2 := lin_ok HGd.out HG0.out (se_per ps os) (se_mem HOk.out) Bq (by decide)
  have L3 := lin_ok HGd.out HG0.out (su_per ps os) (su_mem hpam HOk.out) Bq (by decide)
  obtain ⟨V, hV⟩ : ∃ V, valQ (fv l l') (pzs ps) = V := ⟨_, rfl⟩
  obtain ⟨V2, hV2⟩ : ∃ V2, valQ (fv l l') (pzs (seP ps os)) = V2 := ⟨_, rfl⟩
  have hV1 : valQ (fv l l') (pzs (scP z ps)) = V * (z : Rat) := by rw [pz_sc, val_scale, hV]
  have hV3 : valQ (fv l l') (pzs (suP ps os)) = V + V2 := by rw [(pz_add ps os).1, val_add _ _ _ (pz_add ps os).2, hV, hV2]
  obtain ⟨S, hS⟩ : ∃ S, sumL 0 (pzs ps) = S := ⟨_, rfl⟩
  have W0 := valV_ok HG0.out HGc.out HQ0.out hV
  have W1 := valV_ok L1.1 HGc.out HQ0.out hV1
  have W2 := valV_ok L2.1 HGc.out HQ0.out hV2
  have W3 := valV_ok L3.1 HGc.out HQ0.out hV3
  have W9 := valV_ok (V := (S : Rat)) HG0.out (isFr_frac ((1 : Int) : Rat)) (by rw [fv_frac]; decide) (by rw [fv_frac, show ((1 : Int) : Rat) = 1 from rfl, val_one, hS])
  have BV : Bd 800 V := by have := L0.2.1.bd.1; rwa [hV] at this
  have BV2 : Bd 800 V2 := by have := L2.2.1.bd.1; rwa [hV2] at this
  have BS : Bd 800 (S : Rat) := by have := L9.2.1.bd.1; rwa [show ((1 : Int) : Rat) = 1 from rfl, val_one, hS] at this
  have c5 : RetB w 29 #[.slice A n c] (.tuple #[.string ⟨(canon S).toArray⟩, .int .i64 0]) := fun w' hb => by
    have := mwProfit A ps n c w' (hG.below hb) (HP.out.below hb)
    unfold profV at this
    rwa [if_pos HG0.out, hS] at this
  have hSl : (canon S).length ≤ 1000000 := by
    have h := (bd_len BS).1
    have h2 : fN (S : Rat) = canon S := by unfold fN; rfl
    rw [h2] at h; omega
  have C6 := Lib.hid (rOf (l := [49]) (by decide) (z := 1) (by decide +kernel))
  have c7 : RetB w 25 #[.slice A n c, (Value.agg #[Value.string ⟨List.toArray (fN (((1 : Int) : Rat)))⟩, Value.string ⟨List.toArray (fD (((1 : Int) : Rat)))⟩])] (.tuple #[(Value.agg #[Value.string ⟨List.toArray (fN ((S : Rat)))⟩, Value.string ⟨List.toArray (fD ((S : Rat)))⟩]), .int .i64 0]) := fun w' hb => by
    have := mwVal A ps n c (fN ((1 : Int) : Rat)) (fD ((1 : Int) : Rat)) w' (hG.below hb) (HP.out.below hb) (by have := (bd_len Ba).1; omega) (by have := (bd_len Ba).2; omega) (fun _ _ => by rw [fv_frac]; exact L9.2.1)
    rwa [W9] at this
  have c8 : RetB w 25 #[.slice A n c, (Value.agg #[Value.string ⟨List.toArray l⟩, Value.string ⟨List.toArray l'⟩])] (.tuple #[(Value.agg #[Value.string ⟨List.toArray (fN V)⟩, Value.string ⟨List.toArray (fD V)⟩]), .int .i64 0]) := fun w' hb => by
    have := mwVal A ps n c l l' w' (hG.below hb) (HP.out.below hb) (by omega) (by omega) (fun _ _ => L0.2.1)
    rwa [W0] at this
  have C10 := Lib.hid (rOf (l := canon S) hSl (z := S) (val_canon S))
  have C11 := Lib.hid (rOf (l := k) (by omega) (z := z) hz.symm)
  have C12 := Lib.hid (rMul (isq_fr BV (by decide)) (isq_fr (bd_int (a := z) (k := 13) (by rw [hz]; exact hz13) (by decide)) (by decide)) (rfl : V * (z : Rat) = _))
  have C13 := Lib.hid (rAdd (isq_fr BV (by decide)) (isq_fr BV2 (by decide)) (rfl : V + V2 = _))
  have C5 := Lib.hid c5
  have C7 := Lib.hid c7
  have C8 := Lib.hid c8
  have HW1 : Hid (∀ (g cp : Nat) (W : World), Glob W → PRow W g (scP z ps) → RetB W 25 #[.slice (some ⟨g, 0, none⟩) n cp, (Value.agg #[Value.string ⟨List.toArray l⟩, Value.string ⟨List.toArray l'⟩])] (.tuple #[(Value.agg #[Value.string ⟨List.toArray (fN (V * (z : Rat)))⟩, Value.string ⟨List.toArray (fD (V * (z : Rat)))⟩]), .int .i64 0])) := fun g cp W hGW hP w' hb => by
    have hx : PL W (some ⟨g, 0, none⟩) (scP z ps) n := ⟨hP.payAt, L1.2.2.2, L1.2.2.1, HP.out.n1⟩
    have := mwVal (some ⟨g, 0, none⟩) (scP z ps) n cp l l' w' (hGW.below hb) (hx.below hb) (by omega) (by omega) (fun _ _ => L1.2.1)
    rwa [W1] at this
  have HW2 : Hid (∀ (g cp : Nat) (W : World), Glob W → PRow W g (seP ps os) → RetB W 25 #[.slice (some ⟨g, 0, none⟩) n cp, (Value.agg #[Value.string ⟨List.toArray l⟩, Value.string ⟨List.toArray l'⟩])] (.tuple #[(Value.agg #[Value.string ⟨List.toArray (fN V2)⟩, Value.string ⟨List.toArray (fD V2)⟩]), .int .i64 0])) := fun g cp W hGW hP w' hb => by
    have hx : PL W (some ⟨g, 0, none⟩) (seP ps os) n := ⟨hP.payAt, L2.2.2.2, L2.2.2.1, HP.out.n1⟩
    have := mwVal (some ⟨g, 0, none⟩) (seP ps os) n cp l l' w' (hGW.below hb) (hx.below hb) (by omega) (by omega) (fun _ _ => L2.2.1)
    rwa [W2] at this
  have HW3 : Hid (∀ (g cp : Nat) (W : World), Glob W → PRow W g (suP ps os) → RetB W 25 #[.slice (some ⟨g, 0, none⟩) n cp, (Value.agg #[Value.string ⟨List.toArray l⟩, Value.string ⟨List.toArray l'⟩])] (.tuple #[(Value.agg #[Value.string ⟨List.toArray (fN (V + V2))⟩, Value.string ⟨List.toArray (fD (V + V2))⟩]), .int .i64 0])) := fun g cp W hGW hP w' hb => by
    have hx : PL W (some ⟨g, 0, none⟩) (suP ps os) n := ⟨hP.payAt, L3.2.2.2, L3.2.2.1, HP.out.n1⟩
    have := mwVal (some ⟨g, 0, none⟩) (suP ps os) n cp l l' w' (hGW.below hb) (hx.below hb) (by omega) (by omega) (fun _ _ => L3.2.1)
    rwa [W3] at this
  have hpn : 0 < n := by have h2 := (payE_ok HG0.out).1; omega
  have hn64 : n ≤ 1000000 := by have h2 := (payE_ok HG0.out).2.1; omega
  have HS0 : Hid (∀ p ∈ ps, p.amt.length ≤ 13) := hpam
  have HNn := Lib.hid hn
  have HMm := Lib.hid hm
  have HZ := Lib.hid hz
  generalize V * (z : Rat) = V1 at *
  generalize V + V2 = V3 at *
  generalize (S : Rat) = QS at *
  generalize ((1 : Int) : Rat) = Q1 at *
  generalize (z : Rat) = QZ at *
  clear c5 c7 c8 L0 L9 L1 L2 L3 W0 W1 W2 W3 W9 hV hV1 hV2 hV3 hS BV BV2 BS Ba Bq hmp hpam hSl HQ0 HGc HGd HG0 HP hn hm hz hz13 h0 h1 hk
  go_wp2_with fail
  ((with_reducible refine (C5.out.of hG hb).mono ?_); rintro e w8 ⟨rfl, hb8⟩)
  replace x6 := x6.below hb8
  replace hb := bto hb hb8
  clear hb8
  go_wp2_with fail
  ((with_reducible refine (C6.out.of hG hb).mono ?_); rintro e w9 ⟨rfl, hb9⟩)
  replace x6 := x6.below hb9
  replace hb := bto hb hb9
  clear hb9
  go_wp2_with fail
  ((with_reducible refine (C7.out.of hG hb).mono ?_); rintro e w10 ⟨rfl, hb10⟩)
  replace x6 := x6.below hb10
  replace hb := bto hb hb10
  clear hb10
  replace x6 := x6.below (below_alloc w10 (.cells #[.string ⟨(fN QS).toArray⟩, .string ⟨(fD QS).toArray⟩] 30))
  have x11 := FBox.new w10 (.string ⟨(fN QS).toArray⟩) (.string ⟨(fD QS).toArray⟩) 30
  replace hb := bto hb (below_alloc w10 (.cells #[.string ⟨(fN QS).toArray⟩, .string ⟨(fD QS).toArray⟩] 30))
  have qx6_0 := x6.c0
  have qx6_1 := x6.c1
  go_wp2_with fail
  ((with_reducible refine (C8.out.of hG hb).mono ?_); rintro e w11 ⟨rfl, hb11⟩)
  clear qx6_0 qx6_1
  replace x6 := x6.below hb11
  replace x11 := x11.below hb11
  replace hb := bto hb hb11
  clear hb11
  replace x6 := x6.below (below_alloc w11 (.cells #[.string ⟨(fN V).toArray⟩, .string ⟨(fD V).toArray⟩] 30))
  replace x11 := x11.below (below_alloc w11 (.cells #[.string ⟨(fN V).toArray⟩, .string ⟨(fD V).toArray⟩] 30))
  have x13 := FBox.new w11 (.string ⟨(fN V).toArray⟩) (.string ⟨(fD V).toArray⟩) 30
  replace hb := bto hb (below_alloc w11 (.cells #[.string ⟨(fN V).toArray⟩, .string ⟨(fD V).toArray⟩] 30))
  clear C5 C6 C7 C8 CL
  go_wp2_with fail
  ((with_reducible refine (cloneP A ps n c _ HNn.out hpn hn64 (HI.out.below hb)).mono ?_); rintro e w12 ⟨g1, cp1, rfl, hg1, P1, hb12⟩)
  have d6_1 := Nat.ne_of_lt (Nat.lt_of_lt_of_le x6.lt hg1)
  have d11_1 := Nat.ne_of_lt (Nat.lt_of_lt_of_le x11.lt hg1)
  have d13_1 := Nat.ne_of_lt (Nat.lt_of_lt_of_le x13.lt hg1)
  have hge1 := Nat.le_trans hb.size hg1
  replace x6 := x6.below hb12
  replace x11 := x11.below hb12
  replace x13 := x13.below hb12
  replace hb := bto hb hb12
  clear hb12 hg1
  go_wp2_with fail
  ((with_reducible refine (cloneP A ps n c _ HNn.out hpn hn64 (HI.out.below hb)).mono ?_); rintro e w13 ⟨g2, cp2, rfl, hg2, P2, hb13⟩)
  have d6_2 := Nat.ne_of_lt (Nat.lt_of_lt_of_le x6.lt hg2)
  have d11_2 := Nat.ne_of_lt (Nat.lt_of_lt_of_le x11.lt hg2)
  have d13_2 := Nat.ne_of_lt (Nat.lt_of_lt_of_le x13.lt hg2)
  have r1_2 := Nat.ne_of_lt (Nat.lt_of_lt_of_le P1.lt hg2)
  have hge2 := Nat.le_trans hb.size hg2
  replace P1 := P1.below hb13
  replace x6 := x6.below hb13
  replace x11 := x11.below hb13
  replace x13 := x13.below hb13
  replace hb := bto hb hb13
  clear hb13 hg2
  go_wp2_with fail
  ((with_reducible refine (cloneP A ps n c _ HNn.out hpn hn64 (HI.out.below hb)).mono ?_); rintro e w14 ⟨g3, cp3, rfl, hg3, P3, hb14⟩)
  have d6_3 := Nat.ne_of_lt (Nat.lt_of_lt_of_le x6.lt hg3)
  have d11_3 := Nat.ne_of_lt (Nat.lt_of_lt_of_le x11.lt hg3)
  have d13_3 := Nat.ne_of_lt (Nat.lt_of_lt_of_le x13.lt hg3)
  have r1_3 := Nat.ne_of_lt (Nat.lt_of_lt_of_le P1.lt hg3)
  have r2_3 := Nat.ne_of_lt (Nat.lt_of_lt_of_le P2.lt hg3)
  have hge3 := Nat.le_trans hb.size hg3
  replace P1 := P1.below hb14
  replace P2 := P2.below hb14
  replace x6 := x6.below hb14
  replace x11 := x11.below hb14
  replace x13 := x13.below hb14
  replace hb := bto hb hb14
  clear hb14 hg3
  have hb' : Below w.heap.size w w14 := hb
  go_wp2_with fail
  go_loopw [87] (fun iv wr => ∃ j : Nat, j ≤ n ∧ iv = .int .i64 (j : Int) ∧ Hid (PRow wr g1 (mixL (scP z ps) ps j)) ∧ Hid (PRow wr g2 (mixL (seP ps os) ps j)) ∧ Hid (PRow wr g3 (mixL (suP ps os) ps j)) ∧ Hid (FBox wr w.heap.size (.string ⟨l.toArray⟩) (.string ⟨l'.toArray⟩)) ∧ Hid (FBox wr w10.heap.size (.string ⟨(fN QS).toArray⟩) (.string ⟨(fD QS).toArray⟩)) ∧ Hid (FBox wr w11.heap.size (.string ⟨(fN V).toArray⟩) (.string ⟨(fD V).toArray⟩)) ∧ Below w.heap.size w wr) (fun iv _ => n - (intOf iv).toNat)
  case atStart => exact ⟨0, Nat.zero_le _, rfl, by rw [mix0]; exact P1, by rw [mix0]; exact P2, by rw [mix0]; exact P3, x6, x11, x13, hb⟩
  case round =>
    clear hb hb' P1 P2 P3 x6 x11 x13
    obtain ⟨j, hj, rfl, PP1, PP2, PP3, HY6, HY11, HY13, hb⟩ := hrel
    have P1 := PP1.out
    have P2 := PP2.out
    have P3 := PP3.out
    have x6 := HY6.out
    have x11 := HY11.out
    have x13 := HY13.out
    clear PP1 PP2 PP3 HY6 HY11 HY13
    have hT1 := scP_len z ps
    have hT2 := seP_len ps os
    have hT3 := suP_len ps os
    have hnl := HNn.out
    have hml := HMm.out
    by_cases hlt : j < n
    · obtain ⟨t, ht⟩ : ∃ t, ps[j]? = some t := ⟨_, List.getElem?_eq_getElem (by omega)⟩
      obtain ⟨b, o, hA, hbs, p0, p1⟩ := (HI.out.below hb) j t ht
      subst hA
      have hta := HS0.out t (List.mem_of_getElem? ht)
      have d19_1 := Nat.ne_of_gt P1.lt
      have d19_2 := Nat.ne_of_gt P2.lt
      have d19_3 := Nat.ne_of_gt P3.lt
      have X1 := mix_get ht hT1
      have X2 := mix_get ht hT2
      have X3 := mix_get ht hT3
      have Z1 := scP_at (z := z) ht
      have Z2 := seP_at (os := os) ht
      have Z3 := suP_at (os := os) ht
      have CM := Lib.hid (niMul (l := t.amt) (l' := k) (by omega) (by omega) (show _ = val t.amt * z by rw [HZ.out]))
      have hbA := below_alloc wr (.cells #[.int .i64 t.per, .string ⟨t.amt.toArray⟩] 27)
      have x19 := FBox.new wr (.int .i64 t.per) (.string ⟨t.amt.toArray⟩) 27
      replace P1 := P1.below hbA
      replace P2 := P2.below hbA
      replace P3 := P3.below hbA
      replace x6 := x6.below hbA
      replace x11 := x11.below hbA
      replace x13 := x13.below hbA
      replace hb := bto hb hbA
      clear hbA
      generalize canon (val t.amt * z) = y1 at *
      have q0 := x19.c0
      have q1 := x19.c1
      go_wp2_with fail
      ((with_reducible refine (CM.out.of hG hb).mono ?_); rintro e w31 ⟨rfl, hb31⟩)
      clear q0 q1
      replace P1 := P1.below hb31
      replace P2 := P2.below hb31
      replace P3 := P3.below hb31
      replace x6 := x6.below hb31
      replace x11 := x11.below hb31
      replace x13 := x13.below hb31
      replace x19 := x19.below hb31
      replace hb := bto hb hb31
      clear hb31 CM
      have s1 := (P1.cells X1).2
      have f1 := P1.free (j * 2 + 1)
      replace P1 := P1.set X1 y1
      replace P2 := P2.far (i := j * 2 + 1) (u := (.string ⟨y1.toArray⟩)) r1_2.symm
      replace P3 := P3.far (i := j * 2 + 1) (u := (.string ⟨y1.toArray⟩)) r1_3.symm
      replace x6 := x6.farC d6_1 (j * 2 + 1) (.string ⟨y1.toArray⟩)
      replace x11 := x11.farC d11_1 (j * 2 + 1) (.string ⟨y1.toArray⟩)
      replace x13 := x13.farC d13_1 (j * 2 + 1) (.string ⟨y1.toArray⟩)
      replace x19 := x19.farC d19_1 (j * 2 + 1) (.string ⟨y1.toArray⟩)
      replace hb := below_put1 hb hge1 (j * 2 + 1) (.string ⟨y1.toArray⟩)
      rw [mix_set Z1 hT1] at P1
      have s2 := (P2.cells X2).2
      have f2 := P2.free (j * 2 + 1)
      replace P2 := P2.set X2 []
      replace P1 := P1.far (i := j * 2 + 1) (u := (.string ⟨[].toArray⟩)) r1_2
      replace P3 := P3.far (i := j * 2 + 1) (u := (.string ⟨[].toArray⟩)) r2_3.symm
      replace x6 := x6.farC d6_2 (j * 2 + 1) (.string ⟨[].toArray⟩)
      replace x11 := x11.farC d11_2 (j * 2 + 1) (.string ⟨[].toArray⟩)
      replace x13 := x13.farC d13_2 (j * 2 + 1) (.string ⟨[].toArray⟩)
      replace x19 := x19.farC d19_2 (j * 2 + 1) (.string ⟨[].toArray⟩)
      replace hb := below_put1 hb hge2 (j * 2 + 1) (.string ⟨[].toArray⟩)
      by_cases hjm : j < m
      · obtain ⟨y, hy⟩ : ∃ y, os[j]? = some y := ⟨_, List.getElem?_eq_getElem (by omega)⟩
        rw [hy] at Z2 Z3
        simp only [Option.getD_some] at Z2 Z3
        have hyl := (HOk.out y (List.mem_of_getElem? hy)).1
        obtain ⟨bo, oo, hB, hbo, p2⟩ := (HO.out.below hb) j y hy
        subst hB
        have X4 : ((mixL (seP ps os) ps j).set j ⟨t.per, []⟩)[j]? = some ⟨t.per, []⟩ := List.getElem?_set_self (by rw [mix_len hT2]; omega)
        have s4 := (P2.cells X4).2
        have f4 := P2.free (j * 2 + 1)
        replace P2 := P2.set X4 y
        rw [List.set_set, mix_set Z2 hT2] at P2
        replace P1 := P1.far (i := j * 2 + 1) (u := (.string ⟨y.toArray⟩)) r1_2
        replace P3 := P3.far (i := j * 2 + 1) (u := (.string ⟨y.toArray⟩)) r2_3.symm
        replace x6 := x6.farC d6_2 (j * 2 + 1) (.string ⟨y.toArray⟩)
        replace x11 := x11.farC d11_2 (j * 2 + 1) (.string ⟨y.toArray⟩)
        replace x13 := x13.farC d13_2 (j * 2 + 1) (.string ⟨y.toArray⟩)
        replace x19 := x19.farC d19_2 (j * 2 + 1) (.string ⟨y.toArray⟩)
        replace hb := below_put1 hb hge2 (j * 2 + 1) (.string ⟨y.toArray⟩)
        have D2 := mix_done Z2 hT2
        have CA := Lib.hid (riAdd (l := t.amt) (l' := y) (by omega) (by omega) rfl)
        generalize canon (val t.amt + val y) = y3 at *
        clear X4 ht hy hta hyl hbs hbo
        go_wp2_with fail
        clear s1 f1 s2 f2 s4 f4 p0 p1 p2
        go_wp2_with fail
        refine wp_region_lastD (by simp) (by kernel_rfl) (by kernel_rfl) (by kernel_rfl) rfl rfl ?_
        simp only [List.dropLast_cons_cons, List.dropLast_singleton, List.getLast_cons_cons, List.getLast_singleton]
        refine kept_val _ (fun _ => rfl) (fun ρ w hw => by go_simp; first | done | with_reducible rfl) ?_
        simp only [Act.put, List.setIfInBounds_toArray, List.set_cons_zero, List.set_cons_succ, Nat.reduceAdd]
        refine kept_val _ (fun _ => rfl) (fun ρ w hw => by go_simp; first | done | with_reducible rfl) ?_
        simp only [Act.put, List.setIfInBounds_toArray, List.set_cons_zero, List.set_cons_succ, Nat.reduceAdd]
        refine kept_val _ (fun _ => rfl) (fun ρ w hw => by go_simp; first | done | with_reducible rfl) ?_
        simp only [Act.put, List.setIfInBounds_toArray, List.set_cons_zero, List.set_cons_succ, Nat.reduceAdd]
        refine kept_val _ (fun _ => rfl) (fun ρ w hw => by have q1 := (x19.below hw).c1; go_simp; first | done | with_reducible rfl) ?_
        simp only [Act.put, List.setIfInBounds_toArray, List.set_cons_zero, List.set_cons_succ, Nat.reduceAdd]
        refine kept_val _ (fun _ => rfl) (fun ρ w hw => by go_simp; first | done | with_reducible rfl) ?_
        simp only [Act.put, List.setIfInBounds_toArray, List.set_cons_zero, List.set_cons_succ, Nat.reduceAdd]
        refine kept_val _ (fun _ => rfl) (fun ρ w hw => by go_simp; first | done | with_reducible rfl) ?_
        simp only [Act.put, List.setIfInBounds_toArray, List.set_cons_zero, List.set_cons_succ, Nat.reduceAdd]
        refine kept_val _ (fun _ => rfl) (fun ρ w hw => by go_simp; first | done | with_reducible rfl) ?_
        simp only [Act.put, List.setIfInBounds_toArray, List.set_cons_zero, List.set_cons_succ, Nat.reduceAdd]
        refine kept_val _ (fun _ => rfl) (fun ρ w hw => by go_simp; first | done | with_reducible rfl) ?_
        simp only [Act.put, List.setIfInBounds_toArray, List.set_cons_zero, List.set_cons_succ, Nat.reduceAdd]
        refine kept_val _ (fun _ => rfl) (fun ρ w hw => by have q1 := ((P2.below hw).cells D2).2; go_simp; first | done | with_reducible rfl) ?_
        simp only [Act.put, List.setIfInBounds_toArray, List.set_cons_zero, List.set_cons_succ, Nat.reduceAdd]
        refine kept_call _ _ _ (fun _ => rfl) (fun ρ w hw => by go_simp; first | done | with_reducible rfl) (fun w hw => CA.out.of hG (bto hb hw)) ?_
        simp only [Act.put, List.setIfInBounds_toArray, List.set_cons_zero, List.set_cons_succ, Nat.reduceAdd]
        refine kept_val _ (fun _ => rfl) (fun ρ w hw => by go_simp; first | done | with_reducible rfl) ?_
        simp only [Act.put, List.setIfInBounds_toArray, List.set_cons_zero, List.set_cons_succ, Nat.reduceAdd]
        refine kept_val _ (fun _ => rfl) (fun ρ w hw => by go_simp; first | done | with_reducible rfl) ?_
        simp only [Act.put, List.setIfInBounds_toArray, List.set_cons_zero, List.set_cons_succ, Nat.reduceAdd]
        refine last_put1 g3 (j * 2 + 1) _ (.string ⟨y3.toArray⟩) P3.lt (P3.cells X3).2 (P3.free _) (fun ρ w' q0 q1 => by go_simp; first | done | with_reducible rfl) (fun ρ w3 hF => ?_)
        have hbF := hF.below
        replace P1 := (P1.below hbF).far (i := j * 2 + 1) (u := (.string ⟨y3.toArray⟩)) r1_3
        replace P2 := (P2.below hbF).far (i := j * 2 + 1) (u := (.string ⟨y3.toArray⟩)) r2_3
        replace P3 := (P3.below hbF).set X3 y3
        rw [mix_set Z3 hT3] at P3
        replace x6 := (x6.below hbF).farC d6_3 (j * 2 + 1) (.string ⟨y3.toArray⟩)
        replace x11 := (x11.below hbF).farC d11_3 (j * 2 + 1) (.string ⟨y3.toArray⟩)
        replace x13 := (x13.below hbF).farC d13_3 (j * 2 + 1) (.string ⟨y3.toArray⟩)
        replace hb := below_put1 (bto hb hbF) hge3 (j * 2 + 1) (.string ⟨y3.toArray⟩)
        clear hF hbF x19 CA D2 X1 X2 X3 Z1 Z2 Z3
        go_wp2
        go_roundw
        case rel => exact ⟨j + 1, by omega, by go_num, P1, P2, P3, x6, x11, x13, hb⟩
        case measure => simp [intOf]; omega
      · have hy : os[j]? = none := List.getElem?_eq_none (by omega)
        rw [hy] at Z2 Z3
        simp only [Option.getD_none] at Z2 Z3
        rw [mix_set Z2 hT2] at P2
        have D2 := mix_done Z2 hT2
        have CA := Lib.hid (riAdd (l := t.amt) (l' := []) (by omega) (by decide) rfl)
        generalize canon (val t.amt + val []) = y3 at *
        clear ht hy hta hbs
        go_wp2_with fail
        clear s1 f1 s2 f2 p0 p1
        go_wp2_with fail
        refine wp_region_lastD (by simp) (by kernel_rfl) (by kernel_rfl) (by kernel_rfl) rfl rfl ?_
        simp only [List.dropLast_cons_cons, List.dropLast_singleton, List.getLast_cons_cons, List.getLast_singleton]
        refine kept_val _ (fun _ => rfl) (fun ρ w hw => by go_simp; first | done | with_reducible rfl) ?_
        simp only [Act.put, List.setIfInBounds_toArray, List.set_cons_zero, List.set_cons_succ, Nat.reduceAdd]
        refine kept_val _ (fun _ => rfl) (fun ρ w hw => by go_simp; first | done | with_reducible rfl) ?_
        simp only [Act.put, List.setIfInBounds_toArray, List.set_cons_zero, List.set_cons_succ, Nat.reduceAdd]
        refine kept_val _ (fun _ => rfl) (fun ρ w hw => by go_simp; first | done | with_reducible rfl) ?_
        simp only [Act.put, List.setIfInBounds_toArray, List.set_cons_zero, List.set_cons_succ, Nat.reduceAdd]
        refine kept_val _ (fun _ => rfl) (fun ρ w hw => by have q1 := (x19.below hw).c1; go_simp; first | done | with_reducible rfl) ?_
        simp only [Act.put, List.setIfInBounds_toArray, List.set_cons_zero, List.set_cons_succ, Nat.reduceAdd]
        refine kept_val _ (fun _ => rfl) (fun ρ w hw => by go_simp; first | done | with_reducible rfl) ?_
        simp only [Act.put, List.setIfInBounds_toArray, List.set_cons_zero, List.set_cons_succ, Nat.reduceAdd]
        refine kept_val _ (fun _ => rfl) (fun ρ w hw => by go_simp; first | done | with_reducible rfl) ?_
        simp only [Act.put, List.setIfInBounds_toArray, List.set_cons_zero, List.set_cons_succ, Nat.reduceAdd]
        refine kept_val _ (fun _ => rfl) (fun ρ w hw => by go_simp; first | done | with_reducible rfl) ?_
        simp only [Act.put, List.setIfInBounds_toArray, List.set_cons_zero, List.set_cons_succ, Nat.reduceAdd]
        refine kept_val _ (fun _ => rfl) (fun ρ w hw => by go_simp; first | done | with_reducible rfl) ?_
        simp only [Act.put, List.setIfInBounds_toArray, List.set_cons_zero, List.set_cons_succ, Nat.reduceAdd]
        refine kept_val _ (fun _ => rfl) (fun ρ w hw => by have q1 := ((P2.below hw).cells D2).2; go_simp; first | done | with_reducible rfl) ?_
        simp only [Act.put, List.setIfInBounds_toArray, List.set_cons_zero, List.set_cons_succ, Nat.reduceAdd]
        refine kept_call _ _ _ (fun _ => rfl) (fun ρ w hw => by go_simp; first | done | with_reducible rfl) (fun w hw => CA.out.of hG (bto hb hw)) ?_
        simp only [Act.put, List.setIfInBounds_toArray, List.set_cons_zero, List.set_cons_succ, Nat.reduceAdd]
        refine kept_val _ (fun _ => rfl) (fun ρ w hw => by go_simp; first | done | with_reducible rfl) ?_
        simp only [Act.put, List.setIfInBounds_toArray, List.set_cons_zero, List.set_cons_succ, Nat.reduceAdd]
        refine kept_val _ (fun _ => rfl) (fun ρ w hw => by go_simp; first | done | with_reducible rfl) ?_
        simp only [Act.put, List.setIfInBounds_toArray, List.set_cons_zero, List.set_cons_succ, Nat.reduceAdd]
        refine last_put1 g3 (j * 2 + 1) _ (.string ⟨y3.toArray⟩) P3.lt (P3.cells X3).2 (P3.free _) (fun ρ w' q0 q1 => by go_simp; first | done | with_reducible rfl) (fun ρ w3 hF => ?_)
        have hbF := hF.below
        replace P1 := (P1.below hbF).far (i := j * 2 + 1) (u := (.string ⟨y3.toArray⟩)) r1_3
        replace P2 := (P2.below hbF).far (i := j * 2 + 1) (u := (.string ⟨y3.toArray⟩)) r2_3
        replace P3 := (P3.below hbF).set X3 y3
        rw [mix_set Z3 hT3] at P3
        replace x6 := (x6.below hbF).farC d6_3 (j * 2 + 1) (.string ⟨y3.toArray⟩)
        replace x11 := (x11.below hbF).farC d11_3 (j * 2 + 1) (.string ⟨y3.toArray⟩)
        replace x13 := (x13.below hbF).farC d13_3 (j * 2 + 1) (.string ⟨y3.toArray⟩)
        replace hb := below_put1 (bto hb hbF) hge3 (j * 2 + 1) (.string ⟨y3.toArray⟩)
        clear hF hbF x19 CA D2 X1 X2 X3 Z1 Z2 Z3
        go_wp2
        go_roundw
        case rel => exact ⟨j + 1, by omega, by go_num, P1, P2, P3, x6, x11, x13, hb⟩
        case measure => simp [intOf]; omega
    rw [mix_end (by omega) (by omega)] at P1 P2 P3
    have hGr := hG.below hb
    have C1 := Lib.hid (HW1.out g1 cp1 wr hGr P1)
    have C2 := Lib.hid (HW2.out g2 cp2 wr hGr P2)
    have C3 := Lib.hid (HW3.out g3 cp3 wr hGr P3)
    have hb0 := hb
    replace hb := Below.refl wr.heap.size wr
    clear P1 P2 P3 HW1 HW2 HW3 hT1 hT2 hT3 HI HO HS0 HNn HMm HOk
    have qx6_0 := x6.c0
    have qx6_1 := x6.c1
    go_wp2_with fail
    ((with_reducible refine (C1.out.of hGr hb).mono ?_); rintro e w35 ⟨rfl, hb35⟩)
    clear qx6_0 qx6_1
    replace x6 := x6.below hb35
    replace x11 := x11.below hb35
    replace x13 := x13.below hb35
    replace hb := bto hb hb35
    clear hb35
    replace x6 := x6.below (below_alloc w35 (.cells #[.string ⟨(fN V1).toArray⟩, .string ⟨(fD V1).toArray⟩] 30))
    replace x11 := x11.below (below_alloc w35 (.cells #[.string ⟨(fN V1).toArray⟩, .string ⟨(fD V1).toArray⟩] 30))
    replace x13 := x13.below (below_alloc w35 (.cells #[.string ⟨(fN V1).toArray⟩, .string ⟨(fD V1).toArray⟩] 30))
    have x20 := FBox.new w35 (.string ⟨(fN V1).toArray⟩) (.string ⟨(fD V1).toArray⟩) 30
    replace hb := bto hb (below_alloc w35 (.cells #[.string ⟨(fN V1).toArray⟩, .string ⟨(fD V1).toArray⟩] 30))
    have qx6_0 := x6.c0
    have qx6_1 := x6.c1
    go_wp2_with fail
    ((with_reducible refine (C2.out.of hGr hb).mono ?_); rintro e w36 ⟨rfl, hb36⟩)
    clear qx6_0 qx6_1
    replace x6 := x6.below hb36
    replace x11 := x11.below hb36
    replace x13 := x13.below hb36
    replace x20 := x20.below hb36
    replace hb := bto hb hb36
    clear hb36
    replace x6 := x6.below (below_alloc w36 (.cells #[.string ⟨(fN V2).toArray⟩, .string ⟨(fD V2).toArray⟩] 30))
    replace x11 := x11.below (below_alloc w36 (.cells #[.string ⟨(fN V2).toArray⟩, .string ⟨(fD V2).toArray⟩] 30))
    replace x13 := x13.below (below_alloc w36 (.cells #[.string ⟨(fN V2).toArray⟩, .string ⟨(fD V2).toArray⟩] 30))
    replace x20 := x20.below (below_alloc w36 (.cells #[.string ⟨(fN V2).toArray⟩, .string ⟨(fD V2).toArray⟩] 30))
    have x22 := FBox.new w36 (.string ⟨(fN V2).toArray⟩) (.string ⟨(fD V2).toArray⟩) 30
    replace hb := bto hb (below_alloc w36 (.cells #[.string ⟨(fN V2).toArray⟩, .string ⟨(fD V2).toArray⟩] 30))
    have qx6_0 := x6.c0
    have qx6_1 := x6.c1
    go_wp2_with fail
    ((with_reducible refine (C3.out.of hGr hb).mono ?_); rintro e w37 ⟨rfl, hb37⟩)
    clear qx6_0 qx6_1
    replace x6 := x6.below hb37
    replace x11 := x11.below hb37
    replace x13 := x13.below hb37
    replace x20 := x20.below hb37
    replace x22 := x22.below hb37
    replace hb := bto hb hb37
    clear hb37
    replace x6 := x6.below (below_alloc w37 (.cells #[.string ⟨(fN V3).toArray⟩, .string ⟨(fD V3).toArray⟩] 30))
    replace x11 := x11.below (below_alloc w37 (.cells #[.string ⟨(fN V3).toArray⟩, .string ⟨(fD V3).toArray⟩] 30))
    replace x13 := x13.below (below_alloc w37 (.cells #[.string ⟨(fN V3).toArray⟩, .string ⟨(fD V3).toArray⟩] 30))
    replace x20 := x20.below (below_alloc w37 (.cells #[.string ⟨(fN V3).toArray⟩, .string ⟨(fD V3).toArray⟩] 30))
    replace x22 := x22.below (below_alloc w37 (.cells #[.string ⟨(fN V3).toArray⟩, .string ⟨(fD V3).toArray⟩] 30))
    have x24 := FBox.new w37 (.string ⟨(fN V3).toArray⟩) (.string ⟨(fD V3).toArray⟩) 30
    replace hb := bto hb (below_alloc w37 (.cells #[.string ⟨(fN V3).toArray⟩, .string ⟨(fD V3).toArray⟩] 30))
    clear x6
    go_wp2_with fail
    refine wp_region_kept (by kernel_rfl) (by kernel_rfl) ?_
    refine kept_val _ (fun _ => rfl) (fun ρ w hw => by go_simp; first | done | with_reducible rfl) ?_
    simp only [Act.put, List.setIfInBounds_toArray, List.set_cons_zero, List.set_cons_succ, Nat.reduceAdd]
    refine kept_val _ (fun _ => rfl) (fun ρ w hw => by go_simp; first | done | with_reducible rfl) ?_
    simp only [Act.put, List.setIfInBounds_toArray, List.set_cons_zero, List.set_cons_succ, Nat.reduceAdd]
    refine kept_val _ (fun _ => rfl) (fun ρ w hw => by go_simp; first | done | with_reducible rfl) ?_
    simp only [Act.put, List.setIfInBounds_toArray, List.set_cons_zero, List.set_cons_succ, Nat.reduceAdd]
    refine kept_val _ (fun _ => rfl) (fun ρ w hw => by go_simp; first | done | with_reducible rfl) ?_
    simp only [Act.put, List.setIfInBounds_toArray, List.set_cons_zero, List.set_cons_succ, Nat.reduceAdd]
    refine kept_val _ (fun _ => rfl) (fun ρ w hw => by go_simp; first | done | with_reducible rfl) ?_
    simp only [Act.put, List.setIfInBounds_toArray, List.set_cons_zero, List.set_cons_succ, Nat.reduceAdd]
    refine kept_val _ (fun _ => rfl) (fun ρ w hw => by go_simp; first | done | with_reducible rfl) ?_
    simp only [Act.put, List.setIfInBounds_toArray, List.set_cons_zero, List.set_cons_succ, Nat.reduceAdd]
    refine kept_val _ (fun _ => rfl) (fun ρ w hw => by go_simp; first | done | with_reducible rfl) ?_
    simp only [Act.put, List.setIfInBounds_toArray, List.set_cons_zero, List.set_cons_succ, Nat.reduceAdd]
    refine kept_val _ (fun _ => rfl) (fun ρ w hw => by go_simp; first | done | with_reducible rfl) ?_
    simp only [Act.put, List.setIfInBounds_toArray, List.set_cons_zero, List.set_cons_succ, Nat.reduceAdd]
    refine kept_val _ (fun _ => rfl) (fun ρ w hw => by go_simp; first | done | with_reducible rfl) ?_
    simp only [Act.put, List.setIfInBounds_toArray, List.set_cons_zero, List.set_cons_succ, Nat.reduceAdd]
    refine kept_val _ (fun _ => rfl) (fun ρ w hw => by go_simp; first | done | with_reducible rfl) ?_
    simp only [Act.put, List.setIfInBounds_toArray, List.set_cons_zero, List.set_cons_succ, Nat.reduceAdd]
    refine kept_val _ (fun _ => rfl) (fun ρ w hw => by go_simp; first | done | with_reducible rfl) ?_
    simp only [Act.put, List.setIfInBounds_toArray, List.set_cons_zero, List.set_cons_succ, Nat.reduceAdd]
    refine kept_val _ (fun _ => rfl) (fun ρ w hw => by go_simp; first | done | with_reducible rfl) ?_
    simp only [Act.put, List.setIfInBounds_toArray, List.set_cons_zero, List.set_cons_succ, Nat.reduceAdd]
    refine kept_val _ (fun _ => rfl) (fun ρ w hw => by go_simp; first | done | with_reducible rfl) ?_
    simp only [Act.put, List.setIfInBounds_toArray, List.set_cons_zero, List.set_cons_succ, Nat.reduceAdd]
    refine kept_val _ (fun _ => rfl) (fun ρ w hw => by go_simp; first | done | with_reducible rfl) ?_
    simp only [Act.put, List.setIfInBounds_toArray, List.set_cons_zero, List.set_cons_succ, Nat.reduceAdd]
    refine kept_val _ (fun _ => rfl) (fun ρ w hw => by go_simp; first | done | with_reducible rfl) ?_
    simp only [Act.put, List.setIfInBounds_toArray, List.set_cons_zero, List.set_cons_succ, Nat.reduceAdd]
    refine kept_val _ (fun _ => rfl) (fun ρ w hw => by go_simp; first | done | with_reducible rfl) ?_
    simp only [Act.put, List.setIfInBounds_toArray, List.set_cons_zero, List.set_cons_succ, Nat.reduceAdd]
    refine kept_val _ (fun _ => rfl) (fun ρ w hw => by go_simp; first | done | with_reducible rfl) ?_
    simp only [Act.put, List.setIfInBounds_toArray, List.set_cons_zero, List.set_cons_succ, Nat.reduceAdd]
    refine kept_val _ (fun _ => rfl) (fun ρ w hw => by go_simp; first | done | with_reducible rfl) ?_
    simp only [Act.put, List.setIfInBounds_toArray, List.set_cons_zero, List.set_cons_succ, Nat.reduceAdd]
    refine kept_val _ (fun _ => rfl) (fun ρ w hw => by go_simp; first | done | with_reducible rfl) ?_
    simp only [Act.put, List.setIfInBounds_toArray, List.set_cons_zero, List.set_cons_succ, Nat.reduceAdd]
    refine kept_val _ (fun _ => rfl) (fun ρ w hw => by go_simp; first | done | with_reducible rfl) ?_
    simp only [Act.put, List.setIfInBounds_toArray, List.set_cons_zero, List.set_cons_succ, Nat.reduceAdd]
    refine kept_val _ (fun _ => rfl) (fun ρ w hw => by go_simp; first | done | with_reducible rfl) ?_
    simp only [Act.put, List.setIfInBounds_toArray, List.set_cons_zero, List.set_cons_succ, Nat.reduceAdd]
    refine kept_val _ (fun _ => rfl) (fun ρ w hw => by go_simp; first | done | with_reducible rfl) ?_
    simp only [Act.put, List.setIfInBounds_toArray, List.set_cons_zero, List.set_cons_succ, Nat.reduceAdd]
    refine kept_val _ (fun _ => rfl) (fun ρ w hw => by go_simp; first | done | with_reducible rfl) ?_
    simp only [Act.put, List.setIfInBounds_toArray, List.set_cons_zero, List.set_cons_succ, Nat.reduceAdd]
    refine kept_val _ (fun _ => rfl) (fun ρ w hw => by have q0 := (x11.below hw).c0; have q1 := (x11.below hw).c1; go_simp; first | done | with_reducible rfl) ?_
    simp only [Act.put, List.setIfInBounds_toArray, List.set_cons_zero, List.set_cons_succ, Nat.reduceAdd]
    refine kept_val _ (fun _ => rfl) (fun ρ w hw => by go_simp; first | done | with_reducible rfl) ?_
    simp only [Act.put, List.setIfInBounds_toArray, List.set_cons_zero, List.set_cons_succ, Nat.reduceAdd]
    refine kept_call _ _ _ (fun _ => rfl) (fun ρ w hw => by go_simp; first | done | with_reducible rfl) (fun w hw => C10.out.of hGr (bto hb hw)) ?_
    simp only [Act.put, List.setIfInBounds_toArray, List.set_cons_zero, List.set_cons_succ, Nat.reduceAdd]
    refine kept_val _ (fun _ => rfl) (fun ρ w hw => by go_simp; first | done | with_reducible rfl) ?_
    simp only [Act.put, List.setIfInBounds_toArray, List.set_cons_zero, List.set_cons_succ, Nat.reduceAdd]
    refine kept_val _ (fun _ => rfl) (fun ρ w hw => by go_simp; first | done | with_reducible rfl) ?_
    simp only [Act.put, List.setIfInBounds_toArray, List.set_cons_zero, List.set_cons_succ, Nat.reduceAdd]
    refine kept_val _ (fun _ => rfl) (fun ρ w hw => by go_simp; first | done | with_reducible rfl) ?_
    simp only [Act.put, List.setIfInBounds_toArray, List.set_cons_zero, List.set_cons_succ, Nat.reduceAdd]
    refine kept_val _ (fun _ => rfl) (fun ρ w hw => by have q0 := (x20.below hw).c0; have q1 := (x20.below hw).c1; go_simp; first | done | with_reducible rfl) ?_
    simp only [Act.put, List.setIfInBounds_toArray, List.set_cons_zero, List.set_cons_succ, Nat.reduceAdd]
    refine kept_val _ (fun _ => rfl) (fun ρ w hw => by have q0 := (x13.below hw).c0; have q1 := (x13.below hw).c1; go_simp; first | done | with_reducible rfl) ?_
    simp only [Act.put, List.setIfInBounds_toArray, List.set_cons_zero, List.set_cons_succ, Nat.reduceAdd]
    refine kept_val _ (fun _ => rfl) (fun ρ w hw => by go_simp; first | done | with_reducible rfl) ?_
    simp only [Act.put, List.setIfInBounds_toArray, List.set_cons_zero, List.set_cons_succ, Nat.reduceAdd]
    refine kept_call _ _ _ (fun _ => rfl) (fun ρ w hw => by go_simp; first | done | with_reducible rfl) (fun w hw => C11.out.of hGr (bto hb hw)) ?_
    simp only [Act.put, List.setIfInBounds_toArray, List.set_cons_zero, List.set_cons_succ, Nat.reduceAdd]
    refine kept_call _ _ _ (fun _ => rfl) (fun ρ w hw => by go_simp; first | done | with_reducible rfl) (fun w hw => C12.out.of hGr (bto hb hw)) ?_
    simp only [Act.put, List.setIfInBounds_toArray, List.set_cons_zero, List.set_cons_succ, Nat.reduceAdd]
    refine kept_val _ (fun _ => rfl) (fun ρ w hw => by go_simp; first | done | with_reducible rfl) ?_
    simp only [Act.put, List.setIfInBounds_toArray, List.set_cons_zero, List.set_cons_succ, Nat.reduceAdd]
    refine kept_val _ (fun _ => rfl) (fun ρ w hw => by go_simp; first | done | with_reducible rfl) ?_
    simp only [Act.put, List.setIfInBounds_toArray, List.set_cons_zero, List.set_cons_succ, Nat.reduceAdd]
    refine kept_val _ (fun _ => rfl) (fun ρ w hw => by go_simp; first | done | with_reducible rfl) ?_
    simp only [Act.put, List.setIfInBounds_toArray, List.set_cons_zero, List.set_cons_succ, Nat.reduceAdd]
    refine kept_val _ (fun _ => rfl) (fun ρ w hw => by have q0 := (x24.below hw).c0; have q1 := (x24.below hw).c1; go_simp; first | done | with_reducible rfl) ?_
    simp only [Act.put, List.setIfInBounds_toArray, List.set_cons_zero, List.set_cons_succ, Nat.reduceAdd]
    refine kept_val _ (fun _ => rfl) (fun ρ w hw => by have q0 := (x13.below hw).c0; have q1 := (x13.below hw).c1; go_simp; first | done | with_reducible rfl) ?_
    simp only [Act.put, List.setIfInBounds_toArray, List.set_cons_zero, List.set_cons_succ, Nat.reduceAdd]
    refine kept_val _ (fun _ => rfl) (fun ρ w hw => by have q0 := (x22.below hw).c0; have q1 := (x22.below hw).c1; go_simp; first | done | with_reducible rfl) ?_
    simp only [Act.put, List.setIfInBounds_toArray, List.set_cons_zero, List.set_cons_succ, Nat.reduceAdd]
    refine kept_call _ _ _ (fun _ => rfl) (fun ρ w hw => by go_simp; first | done | with_reducible rfl) (fun w hw => C13.out.of hGr (bto hb hw)) ?_
    simp only [Act.put, List.setIfInBounds_toArray, List.set_cons_zero, List.set_cons_succ, Nat.reduceAdd]
    refine kept_val _ (fun _ => rfl) (fun ρ w hw => by go_simp; first | done | with_reducible rfl) ?_
    simp only [Act.put, List.setIfInBounds_toArray, List.set_cons_zero, List.set_cons_succ, Nat.reduceAdd]
    refine kept_val _ (fun _ => rfl) (fun ρ w hw => by go_simp; first | done | with_reducible rfl) ?_
    simp only [Act.put, List.setIfInBounds_toArray, List.set_cons_zero, List.set_cons_succ, Nat.reduceAdd]
    refine kept_val _ (fun _ => rfl) (fun ρ w hw => by go_simp; first | done | with_reducible rfl) ?_
    simp only [Act.put, List.setIfInBounds_toArray, List.set_cons_zero, List.set_cons_succ, Nat.reduceAdd]
    refine kept_call _ _ _ (fun _ => rfl) (fun ρ w hw => by go_simp; first | done | with_reducible rfl) (fun w hw => CW.out.of hGr (bto hb hw)) ?_
    simp only [Act.put, List.setIfInBounds_toArray, List.set_cons_zero, List.set_cons_succ, Nat.reduceAdd]
    refine kept_val _ (fun _ => rfl) (fun ρ w hw => by go_simp; first | done | with_reducible rfl) ?_
    simp only [Act.put, List.setIfInBounds_toArray, List.set_cons_zero, List.set_cons_succ, Nat.reduceAdd]
    refine kept_val _ (fun _ => rfl) (fun ρ w hw => by go_simp; first | done | with_reducible rfl) ?_
    simp only [Act.put, List.setIfInBounds_toArray, List.set_cons_zero, List.set_cons_succ, Nat.reduceAdd]
    refine kept_end (fun ρ w38 hF => ?_)
    replace x11 := x11.below hF.below
    replace x13 := x13.below hF.below
    replace x20 := x20.below hF.below
    replace x22 := x22.below hF.below
    replace x24 := x24.below hF.below
    replace hb := bto hb hF.below
    clear hF
    clear x11
    clear x13
    clear x20
    clear x22
    clear x24
    go_wp2
    go_ret
    exact ⟨rfl, bto hb0 hb⟩
end Go.Proofs.YtolbojchdlojnaaGreatDoor
