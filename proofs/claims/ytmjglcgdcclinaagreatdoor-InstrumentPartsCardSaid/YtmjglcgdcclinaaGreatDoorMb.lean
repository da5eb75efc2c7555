/- Package money: Find, CheckTable; trancheref05.CheckTable; trancheref10.has. -/
import Derived.Test.YtmjglcgdcclinaaGreatDoorMa
namespace Go.Proofs.YtmjglcgdcclinaaGreatDoor
open Go.RowKit Num
set_option maxHeartbeats 1000000 in
set_option maxRecDepth 100000 in
theorem mFind (A : Option Addr) (ts : List Cur) (n c : Nat) (code : List UInt8) (w : World) (hn : ts.length = n) (hn2 : n ≤ 1000000000) (h : CurAt w A ts) :
    Calls Tryz.prog 61 #[.slice A n c, .string ⟨code.toArray⟩] w fun e w' => e = .returned (curV (findT ts code)) ∧ Below w.heap.size w w' := by
  subst hn
  have hbA := below_alloc w (.cells #[.string ⟨code.toArray⟩] 9)
  have hbB := below_alloc (w.alloc (.cells #[.string ⟨code.toArray⟩] 9)) (.cells #[.string ⟨#[]⟩, .int .i64 0] 82)
  have x3 : Blk _ w.heap.size #[.string ⟨code.toArray⟩] := (Blk.new w #[.string ⟨code.toArray⟩] 9).below hbB
  have x4 := FBox.new (w.alloc (.cells #[.string ⟨code.toArray⟩] 9)) (.string ⟨#[]⟩) (.int .i64 0) 82
  rw [World.size_alloc] at x4
  have hb := bto hbA hbB
  have CF := Lib.hid (mfind A ts c code w.heap.size _ hn2 (h.below hb) (x3.c 0) x3.lt)
  clear hbA hbB x3
  generalize findT ts code = fo at CF ⊢
  cases fo with
  | none =>
    unfold curV at CF ⊢
    go_enter Tryz.func61, Tryz.ntmps61
    go_wp2_with fail
    ((with_reducible refine CF.out.mono ?_); rintro e w2 ⟨rfl, hb2⟩)
    replace x4 := x4.below hb2
    replace hb := bto hb hb2
    have q0 := x4.c0
    have q1 := x4.c1
    have q2 := x4.f0
    have q3 := x4.f1
    clear hb2 CF
    go_wp2
    have hy := x4.set (.string ⟨#[]⟩) (.int .i64 0)
    have d0 := hy.c0
    have d1 := hy.c1
    refine bodyPost_ret (v := .tuple #[.agg #[.string ⟨#[]⟩, .int .i64 0], .bool false]) (by simp [results, Tryz.results61, go_sem, d0, d1]) rfl ?_
    exact ⟨rfl, below_set2 hb (Nat.le_succ _) _ _⟩
  | some t =>
    unfold curV at CF ⊢
    go_enter Tryz.func61, Tryz.ntmps61
    go_wp2_with fail
    ((with_reducible refine CF.out.mono ?_); rintro e w2 ⟨rfl, hb2⟩)
    replace x4 := x4.below hb2
    replace hb := bto hb hb2
    have q0 := x4.c0
    have q1 := x4.c1
    have q2 := x4.f0
    have q3 := x4.f1
    clear hb2 CF
    go_wp2
    have hy := x4.set (.string ⟨t.code.toArray⟩) (.int .i64 t.places)
    have d0 := hy.c0
    have d1 := hy.c1
    refine bodyPost_ret (v := .tuple #[.agg #[.string ⟨t.code.toArray⟩, .int .i64 t.places], .bool true]) (by simp [results, Tryz.results61, go_sem, d0, d1]) rfl ?_
    exact ⟨rfl, below_set2 hb (Nat.le_succ _) _ _⟩
/-- what CheckTable returns -/
def tabL (seen : List Cur) : List Cur → Int
  | [] => 0
  | t :: r => if ¬ codeB t.code = true then 23 else if t.places < 0 ∨ 12 < t.places then 2 else if (findT seen t.code).isSome = true then 5 else tabL (seen ++ [t]) r
def tabE (ts : List Cur) : Int := if 16 < ts.length then 4 else tabL [] ts
theorem tabL_step {ts : List Cur} {k : Nat} {t : Cur} (h : ts[k]? = some t) : tabL (ts.take k) (ts.drop k) = if ¬ codeB t.code = true then 23 else if t.places < 0 ∨ 12 < t.places then 2 else if (findT (ts.take k) t.code).isSome = true then 5 else tabL (ts.take (k + 1)) (ts.drop (k + 1)) := by
  obtain ⟨hk, rfl⟩ := List.getElem?_eq_some_iff.1 h
  rw [List.drop_eq_getElem_cons hk, List.take_succ_eq_append_getElem hk]; rfl
def ShortC (ts : List Cur) : Prop := ∀ t ∈ ts, t.code.length ≤ 9223372036854775807
set_option maxHeartbeats 4000000 in
set_option maxRecDepth 100000 in
theorem mTable (A : Option Addr) (ts : List Cur) (n c : Nat) (w : World) (hG : Glob w) (hn : ts.length = n) (hc : n ≤ c) (hs : ShortC ts) (h : CurAt w A ts) :
    Calls Tryz.prog 63 #[.slice A n c] w fun e w' => e = .returned (.int .i64 (tabE ts)) ∧ Below w.heap.size w w' := by
  by_cases h16 : 16 < n
  · have e1 : decide (16 < n) = true := decide_eq_true h16
    have HV : Hid (tabE ts = 4) := by show _ = _; unfold tabE; rw [if_pos (by omega)]
    go_enter Tryz.func63, Tryz.ntmps63
    go_wp2
    go_ret
    exact ⟨reti HV.out.symm, Below.refl _ _⟩
  have e1 : decide (16 < n) = false := decide_eq_false h16
  have HV : Hid (tabE ts = tabL [] ts) := by show _ = _; unfold tabE; rw [if_neg (by omega)]
  have HI := Lib.hid h
  have HN := Lib.hid hn
  have HS := Lib.hid hs
  have hn1 : ts.length ≤ n := by omega
  have hn2 : n ≤ ts.length := by omega
  clear h hn hs
  go_enter Tryz.func63, Tryz.ntmps63
  go_wp2_with fail
  clear e1
  go_loopw [12] (fun iv wr => ∃ k : Nat, k ≤ n ∧ iv = .int .i64 (k : Int) ∧ Hid (tabL [] ts = tabL (ts.take k) (ts.drop k)) ∧ Below w.heap.size w wr) (fun iv _ => n - (intOf iv).toNat)
  case atStart => exact ⟨0, Nat.zero_le _, rfl, rfl, Below.refl _ _⟩
  case round =>
    obtain ⟨k, hk, rfl, HK, hb⟩ := hrel
    by_cases hlk : k < n
    · obtain ⟨t, ht⟩ : ∃ t, ts[k]? = some t := ⟨_, List.getElem?_eq_getElem (by omega)⟩
      obtain ⟨b, o, rfl, hbs, p0, p1⟩ := (HI.out.below hb) k t ht
      have HD := Lib.hid (tabL_step ht)
      have hts := HS.out t (List.mem_of_getElem? ht)
      have hbA := below_alloc wr (.cells #[.string ⟨t.code.toArray⟩, .int .i64 t.places] 82)
      have x4 := FBox.new wr (.string ⟨t.code.toArray⟩) (.int .i64 t.places) 82
      replace hb := bto hb hbA
      have C1 := Lib.hid (mCode (l := t.code) (by omega))
      clear ht hbA
      by_cases g1 : codeB t.code = true
      rotate_left
      · have e1 := not_true_b g1
        have HQ : Hid (tabL [] ts = 23) := by show _ = _; rw [HK.out, HD.out, if_pos g1]
        clear g1 HK HD
        go_wp2_with fail
        ((with_reducible refine (C1.out.of hG hb).mono ?_); rintro e w2 ⟨rfl, hb2⟩)
        go_wp2
        go_ret
        exact ⟨reti (HV.out.trans HQ.out).symm, bto hb hb2⟩
      have e1 := g1
      go_wp2_with fail
      ((with_reducible refine (C1.out.of hG hb).mono ?_); rintro e w2 ⟨rfl, hb2⟩)
      replace x4 := x4.below hb2
      replace hb := bto hb hb2
      clear C1 hb2
      by_cases g2 : t.places < 0
      · have e2 : decide (t.places < 0) = true := decide_eq_true g2
        have HQ : Hid (tabL [] ts = 2) := by show _ = _; rw [HK.out, HD.out, if_neg (fun h => h g1), if_pos (.inl g2)]
        clear g1 HK HD
        have q0 := x4.c0
        have q1 := x4.c1
        go_wp2
        go_ret
        exact ⟨reti (HV.out.trans HQ.out).symm, hb⟩
      have e2 : decide (t.places < 0) = false := decide_eq_false g2
      by_cases g3 : 12 < t.places
      · have e3 : decide (12 < t.places) = true := decide_eq_true g3
        have HQ : Hid (tabL [] ts = 2) := by show _ = _; rw [HK.out, HD.out, if_neg (fun h => h g1), if_pos (.inr g3)]
        clear g1 HK HD
        have q0 := x4.c0
        have q1 := x4.c1
        go_wp2
        go_ret
        exact ⟨reti (HV.out.trans HQ.out).symm, hb⟩
      have e3 : decide (12 < t.places) = false := decide_eq_false g3
      have CF : ∀ w', Below w.heap.size w w' → Calls Tryz.prog 61 #[.slice (some ⟨b, o, none⟩) k c, .string ⟨t.code.toArray⟩] w' fun e w'' => e = .returned (curV (findT (ts.take k) t.code)) ∧ Below w'.heap.size w' w'' :=
        fun w' hb' => mFind _ (ts.take k) k c t.code w' (by rw [List.length_take]; omega) (by omega) ((HI.out.below hb').take k)
      have HQ : Hid (tabL [] ts = if (findT (ts.take k) t.code).isSome = true then 5 else tabL (ts.take (k + 1)) (ts.drop (k + 1))) := by show _ = _; rw [HK.out, HD.out, if_neg (fun h => h g1), if_neg (fun h => h.elim g2 g3)]
      clear g1 HK HD
      have q0 := x4.c0
      have q1 := x4.c1
      generalize hfo : findT (ts.take k) t.code = fo at CF HQ
      clear hfo
      have kk : k ≤ c := by omega
      cases fo with
      | none =>
        unfold curV at CF
        go_wp2_with fail
        clear q0 q1
        go_wp2_with fail
        refine wp_region_kept (by kernel_rfl) (by kernel_rfl) ?_
        refine kept_val _ (fun _ => rfl) (fun ρ w hw => by go_simp; first | done | with_reducible rfl) ?_
        simp only [Act.put, List.setIfInBounds_toArray, List.set_cons_zero, List.set_cons_succ, Nat.reduceAdd]
        refine kept_val _ (fun _ => rfl) (fun ρ w hw => by go_simp; first | done | with_reducible rfl) ?_
        simp only [Act.put, List.setIfInBounds_toArray, List.set_cons_zero, List.set_cons_succ, Nat.reduceAdd]
        refine kept_val _ (fun _ => rfl) (fun ρ w hw => by go_simp; first | done | with_reducible rfl) ?_
        simp only [Act.put, List.setIfInBounds_toArray, List.set_cons_zero, List.set_cons_succ, Nat.reduceAdd]
        refine kept_val _ (fun _ => rfl) (fun ρ w hw => by go_simp; first | done | with_reducible rfl) ?_
        simp only [Act.put, List.setIfInBounds_toArray, List.set_cons_zero, List.set_cons_succ, Nat.reduceAdd]
        refine kept_val _ (fun _ => rfl) (fun ρ w hw => by have q0 := (x4.below hw).c0; have q1 := (x4.below hw).c1; go_simp; first | done | with_reducible rfl) ?_
        simp only [Act.put, List.setIfInBounds_toArray, List.set_cons_zero, List.set_cons_succ, Nat.reduceAdd]
        refine kept_call _ _ _ (fun _ => rfl) (fun ρ w hw => by go_simp; first | done | with_reducible rfl) (fun w hw => (CF _ (bto hb hw))) ?_
        simp only [Act.put, List.setIfInBounds_toArray, List.set_cons_zero, List.set_cons_succ, Nat.reduceAdd]
        refine kept_val _ (fun _ => rfl) (fun ρ w hw => by go_simp; first | done | with_reducible rfl) ?_
        simp only [Act.put, List.setIfInBounds_toArray, List.set_cons_zero, List.set_cons_succ, Nat.reduceAdd]
        refine kept_val _ (fun _ => rfl) (fun ρ w hw => by go_simp; first | done | with_reducible rfl) ?_
        simp only [Act.put, List.setIfInBounds_toArray, List.set_cons_zero, List.set_cons_succ, Nat.reduceAdd]
        refine kept_val _ (fun _ => rfl) (fun ρ w hw => by go_simp; first | done | with_reducible rfl) ?_
        simp only [Act.put, List.setIfInBounds_toArray, List.set_cons_zero, List.set_cons_succ, Nat.reduceAdd]
        refine kept_box (fun b => .pointer (some ⟨b, 0, none⟩)) _ rfl (fun _ => rfl) (fun ρ w hw => by go_simp; first | done | with_reducible rfl) ?_
        simp only [Act.put, List.setIfInBounds_toArray, List.set_cons_zero, List.set_cons_succ, Nat.reduceAdd]
        refine kept_put2 9 _ 5 _ _ _ _ _ rfl rfl rfl (by decide) (fun _ => rfl) (fun ρ w hw q0 q1 q2 q3 => by go_simp; first | done | with_reducible rfl) ?_
        simp only [Act.put, Nat.reduceAdd]
        refine kept_val _ (fun _ => rfl) (fun ρ w hw => by go_simp; first | done | with_reducible rfl) ?_
        simp only [Act.put, List.setIfInBounds_toArray, List.set_cons_zero, List.set_cons_succ, Nat.reduceAdd]
        refine kept_end (fun ρ w2 hF => ?_)
        replace x4 := x4.below hF.below
        replace hb := bto hb hF.below
        have x5 := FBox.ofB (hF.box 9 _ _ rfl).2
        generalize ρ 9 = b5 at *
        clear hF
        clear CF
        go_wp2
        go_roundw
        case rel => exact ⟨k + 1, by omega, by go_num, HQ.out, hb⟩
        case measure => simp [intOf]; omega
      | some u =>
        unfold curV at CF
        go_wp2_with fail
        clear q0 q1
        go_wp2_with fail
        refine wp_region_kept (by kernel_rfl) (by kernel_rfl) ?_
        refine kept_val _ (fun _ => rfl) (fun ρ w hw => by go_simp; first | done | with_reducible rfl) ?_
        simp only [Act.put, List.setIfInBounds_toArray, List.set_cons_zero, List.set_cons_succ, Nat.reduceAdd]
        refine kept_val _ (fun _ => rfl) (fun ρ w hw => by go_simp; first | done | with_reducible rfl) ?_
        simp only [Act.put, List.setIfInBounds_toArray, List.set_cons_zero, List.set_cons_succ, Nat.reduceAdd]
        refine kept_val _ (fun _ => rfl) (fun ρ w hw => by go_simp; first | done | with_reducible rfl) ?_
        simp only [Act.put, List.setIfInBounds_toArray, List.set_cons_zero, List.set_cons_succ, Nat.reduceAdd]
        refine kept_val _ (fun _ => rfl) (fun ρ w hw => by go_simp; first | done | with_reducible rfl) ?_
        simp only [Act.put, List.setIfInBounds_toArray, List.set_cons_zero, List.set_cons_succ, Nat.reduceAdd]
        refine kept_val _ (fun _ => rfl) (fun ρ w hw => by have q0 := (x4.below hw).c0; have q1 := (x4.below hw).c1; go_simp; first | done | with_reducible rfl) ?_
        simp only [Act.put, List.setIfInBounds_toArray, List.set_cons_zero, List.set_cons_succ, Nat.reduceAdd]
        refine kept_call _ _ _ (fun _ => rfl) (fun ρ w hw => by go_simp; first | done | with_reducible rfl) (fun w hw => (CF _ (bto hb hw))) ?_
        simp only [Act.put, List.setIfInBounds_toArray, List.set_cons_zero, List.set_cons_succ, Nat.reduceAdd]
        refine kept_val _ (fun _ => rfl) (fun ρ w hw => by go_simp; first | done | with_reducible rfl) ?_
        simp only [Act.put, List.setIfInBounds_toArray, List.set_cons_zero, List.set_cons_succ, Nat.reduceAdd]
        refine kept_val _ (fun _ => rfl) (fun ρ w hw => by go_simp; first | done | with_reducible rfl) ?_
        simp only [Act.put, List.setIfInBounds_toArray, List.set_cons_zero, List.set_cons_succ, Nat.reduceAdd]
        refine kept_val _ (fun _ => rfl) (fun ρ w hw => by go_simp; first | done | with_reducible rfl) ?_
        simp only [Act.put, List.setIfInBounds_toArray, List.set_cons_zero, List.set_cons_succ, Nat.reduceAdd]
        refine kept_box (fun b => .pointer (some ⟨b, 0, none⟩)) _ rfl (fun _ => rfl) (fun ρ w hw => by go_simp; first | done | with_reducible rfl) ?_
        simp only [Act.put, List.setIfInBounds_toArray, List.set_cons_zero, List.set_cons_succ, Nat.reduceAdd]
        refine kept_put2 9 _ 5 _ _ _ _ _ rfl rfl rfl (by decide) (fun _ => rfl) (fun ρ w hw q0 q1 q2 q3 => by go_simp; first | done | with_reducible rfl) ?_
        simp only [Act.put, Nat.reduceAdd]
        refine kept_val _ (fun _ => rfl) (fun ρ w hw => by go_simp; first | done | with_reducible rfl) ?_
        simp only [Act.put, List.setIfInBounds_toArray, List.set_cons_zero, List.set_cons_succ, Nat.reduceAdd]
        refine kept_end (fun ρ w2 hF => ?_)
        replace x4 := x4.below hF.below
        replace hb := bto hb hF.below
        have x5 := FBox.ofB (hF.box 9 _ _ rfl).2
        generalize ρ 9 = b5 at *
        clear hF
        clear CF
        go_wp2
        go_ret
        exact ⟨reti (HV.out.trans HQ.out).symm, hb⟩
    · have HQ : Hid (tabL [] ts = 0) := by show _ = _; rw [HK.out, List.drop_of_length_le (by omega)]; rfl
      go_wp2
      go_ret
      exact ⟨reti (HV.out.trans HQ.out).symm, hb⟩
end Go.Proofs.YtmjglcgdcclinaaGreatDoor
