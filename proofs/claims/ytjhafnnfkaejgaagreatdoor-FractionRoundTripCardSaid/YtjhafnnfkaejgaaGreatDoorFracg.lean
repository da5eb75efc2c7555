/- Package fraction: Quo by zero, Compare, Floor, Check. -/
import Derived.Test.YtjhafnnfkaejgaaGreatDoorFracf
namespace Go.Proofs.YtjhafnnfkaejgaaGreatDoor
open Go.RowKit Num

set_option maxHeartbeats 1000000 in
set_option maxRecDepth 100000 in
theorem Quo_zero (l l' k k' : List UInt8) (w : World) (hk : k.length ≤ 100000) (h0 : val k = 0) :
    Calls Tryz.prog 31 #[(Value.agg #[Value.string ⟨List.toArray l⟩, Value.string ⟨List.toArray l'⟩]), (Value.agg #[Value.string ⟨List.toArray k⟩, Value.string ⟨List.toArray k'⟩])] w fun e w' => e = .returned (.tuple #[.agg #[.string ⟨#[]⟩, .string ⟨#[]⟩], .int .i64 10]) ∧ Below w.heap.size w w' := by
  have hc := cmp0 (val k)
  have hc : cmpZ (val k) (val []) = 0 := by rw [hc]; simp [h0]
  have HC := Lib.hid hc
  clear hc h0
  go_enter Tryz.func31, Tryz.ntmps31
  go_wp2_with fail
  ((with_reducible refine (icompare_any k [] _ (Nat.le_trans hk (by decide)) (by decide)).mono ?_); rintro e w1 ⟨rfl, hb1⟩)
  rw [HC.out]
  have hx := (FBox.new ((w.alloc (.cells #[.string ⟨l.toArray⟩, .string ⟨l'.toArray⟩] 24)).alloc (.cells #[.string ⟨k.toArray⟩, .string ⟨k'.toArray⟩] 24)) (.string ⟨#[]⟩) (.string ⟨#[]⟩) 24).below hb1
  have hb1 := bto (bto (bto (below_alloc w (.cells #[.string ⟨l.toArray⟩, .string ⟨l'.toArray⟩] 24)) (below_alloc _ (.cells #[.string ⟨k.toArray⟩, .string ⟨k'.toArray⟩] 24))) (below_alloc _ (.cells #[.string ⟨#[]⟩, .string ⟨#[]⟩] 24))) hb1
  rw [World.size_alloc, World.size_alloc] at hx
  have c0 := hx.c0
  have c1 := hx.c1
  have f0 := hx.f0
  have f1 := hx.f1
  go_wp2_with fail
  have hy := hx.set (.string ⟨#[]⟩) (.string ⟨#[]⟩)
  have d0 := hy.c0
  have d1 := hy.c1
  refine bodyPost_ret (v := .tuple #[.agg #[.string ⟨#[]⟩, .string ⟨#[]⟩], .int .i64 10]) (by simp [results, Tryz.results31, go_sem, d0, d1]) rfl ?_
  exact ⟨rfl, below_set2 hb1 (by omega) _ _⟩

/-- what Compare returns -/
def cmpQ (p q : Rat) : Int := cmpZ (p - q).num 0
theorem frac_len {l l' k k' : List UInt8} {i : Nat} (h1 : l.length ≤ i) (h2 : l'.length ≤ i) (h3 : k.length ≤ i) (h4 : k'.length ≤ i) (hi : 1 ≤ i) : (fN (fv l l' - fv k k')).length ≤ 2 * i + 2 ∧ (fD (fv l l' - fv k k')).length ≤ 2 * i + 2 := by
  have h := bd_len (bd_sub (bd_fv h1 h2 hi) (bd_fv h3 h4 hi))
  omega
set_option maxHeartbeats 1000000 in
set_option maxRecDepth 100000 in
theorem Compare_any (l l' k k' : List UInt8) (w : World) (hl : l.length ≤ 100000) (hl' : l'.length ≤ 100000) (hk : k.length ≤ 100000) (hk' : k'.length ≤ 100000) (hG : Glob w) :
    Calls Tryz.prog 22 #[(Value.agg #[Value.string ⟨List.toArray l⟩, Value.string ⟨List.toArray l'⟩]), (Value.agg #[Value.string ⟨List.toArray k⟩, Value.string ⟨List.toArray k'⟩])] w fun e w' => e = .returned (.int .i64 (cmpQ (fv l l') (fv k k'))) ∧ Below w.heap.size w w' := by
  have hs : ∀ w : World, Glob w → _ := fun w hG => Sub_any l l' k k' w hl hl' hk hk' hG
  have hlen := frac_len hl hl' hk hk' (by decide)
  have hcz : cmpQ (fv l l') (fv k k') = cmpZ (val (fN (fv l l' - fv k k'))) (val []) := by unfold cmpQ; rw [val_fN, val_nil]
  rw [hcz]
  obtain ⟨q, hq⟩ : ∃ q, q = fv l l' - fv k k' := ⟨_, rfl⟩
  simp only [← hq] at hs hlen ⊢
  have HS := Lib.hid hs
  clear hq hs hcz
  go_enter Tryz.func22, Tryz.ntmps22
  go_wp2_with fail
  have hb0 := bto (below_alloc w (.cells #[.string ⟨l.toArray⟩, .string ⟨l'.toArray⟩] 24)) (below_alloc _ (.cells #[.string ⟨k.toArray⟩, .string ⟨k'.toArray⟩] 24))
  ((with_reducible refine (HS.out _ (by exact hG.below hb0)).mono ?_); rintro e w1 ⟨rfl, hb1⟩)
  have hb1 := bto hb0 hb1
  go_wp2_with fail
  ((with_reducible refine (parts_any _ _ _ (by exact Nat.le_trans hlen.2 (by decide))).mono ?_); rintro e w2 ⟨rfl, hb2⟩)
  have hb2 := bto hb1 hb2
  go_wp2_with fail
  ((with_reducible refine (icompare_any _ [] _ (by exact Nat.le_trans hlen.1 (by decide)) (by decide)).mono ?_); rintro e w3 ⟨rfl, hb3⟩)
  have hb3 := bto hb2 hb3
  go_wp2
  go_ret
  exact ⟨rfl, hb3⟩

set_option maxHeartbeats 1000000 in
set_option maxRecDepth 100000 in
theorem Floor_any (l l' : List UInt8) (w : World) (hl : l.length ≤ 100000) (hl' : l'.length ≤ 100000) (hG : Glob w) :
    Calls Tryz.prog 24 #[(Value.agg #[Value.string ⟨List.toArray l⟩, Value.string ⟨List.toArray l'⟩])] w fun e w' => e = .returned (.string ⟨(canon (divZ (val l) (den1 (val l')))).toArray⟩) ∧ Below w.heap.size w w' := by
  have hpl := pd_len hl' (show 1 ≤ 100000 by decide)
  have hd : ∀ w : World, Glob w → _ := fun w hG => idiv_any l (pd l') w (Nat.le_trans hl (by decide)) (Nat.le_trans hpl (by decide)) hG (by rw [val_pd]; exact den1_ne _)
  rw [val_pd] at hd
  have HD := Lib.hid hd
  clear hd hpl
  go_enter Tryz.func24, Tryz.ntmps24
  go_wp2_with fail
  ((with_reducible refine (parts_any l l' _ (Nat.le_trans hl' (by decide))).mono ?_); rintro e w1 ⟨rfl, hb1⟩)
  have hb1 := bto (below_alloc _ _) hb1
  go_wp2_with fail
  ((with_reducible refine (HD.out _ (by exact hG.below hb1)).mono ?_); rintro e w2 ⟨rfl, hb2⟩)
  go_wp2
  go_ret
  exact ⟨rfl, bto hb1 hb2⟩

set_option maxHeartbeats 1000000 in
set_option maxRecDepth 100000 in
theorem Check_any (l l' : List UInt8) (w : World) (hl : l.length ≤ 100000) (hl' : l'.length ≤ 100000) (hG : Glob w) :
    Calls Tryz.prog 18 #[(Value.agg #[Value.string ⟨List.toArray l⟩, Value.string ⟨List.toArray l'⟩])] w fun e w' => e = .returned (.int .i64 (if l = fN (fv l l') ∧ l' = fD (fv l l') then 0 else 1)) ∧ Below w.heap.size w w' := by
  have hm : ∀ w : World, Glob w → _ := fun w hG => made_fv l l' w (Nat.le_trans hl (by decide)) (Nat.le_trans hl' (by decide)) hG
  obtain ⟨q, hq⟩ : ∃ q, q = fv l l' := ⟨_, rfl⟩
  simp only [← hq] at hm ⊢
  have HM := Lib.hid hm
  clear hq hm
  have X0 := FBox.new w (.string ⟨l.toArray⟩) (.string ⟨l'.toArray⟩) 24
  have hbW := below_alloc w (.cells #[.string ⟨l.toArray⟩, .string ⟨l'.toArray⟩] 24)
  obtain ⟨W, hW⟩ : ∃ W, W = w.alloc (.cells #[.string ⟨l.toArray⟩, .string ⟨l'.toArray⟩] 24) := ⟨_, rfl⟩
  rw [← hW] at X0 hbW
  have HW := Lib.hid hW
  clear hW
  have hbc := bdr W
  have x0 := X0.below hbc
  have q0 := x0.c0
  have q1 := x0.c1
  by_cases h : l = fN q ∧ l' = fD q
  · rw [if_pos h]
    have h1 : (l == fN q) = true := by rw [beq_iff_eq]; exact h.1
    have h2 : (l' == fD q) = true := by rw [beq_iff_eq]; exact h.2
    clear h
    go_enter Tryz.func18, Tryz.ntmps18
    go_wp2_with fail
    rw [← HW.out]
    go_region_held3 (fun w' => w'.cell? ⟨w.heap.size, 0, none⟩ = some (.string ⟨l.toArray⟩) ∧ w'.cell? ⟨w.heap.size, 1, none⟩ = some (.string ⟨l'.toArray⟩))
      (first | go_keep | (dsimp only; exact ⟨q0, q1⟩))
      (first
        | (go_at_call 48; (with_reducible refine Calls.mono (parts_any l l' _ (Nat.le_trans hl' (by decide))) ?_); rintro e w1 ⟨rfl, hb1⟩; have hbc := bto hbc hb1; have x0 := X0.below hbc; have q0 := x0.c0; have q1 := x0.c1)
        | (go_at_call 51; (with_reducible refine Calls.mono (HM.out _ (by exact (hG.below hbW).below hbc)) ?_); rintro e w1 ⟨rfl, hb1⟩; have hbc := bto hbc hb1; have x0 := X0.below hbc; have q0 := x0.c0; have q1 := x0.c1))
    go_wp2
    go_ret
    exact ⟨rfl, bto hbW hbc⟩
  · rw [if_neg h]
    by_cases h3 : l = fN q
    · have h1 : (l == fN q) = true := by rw [beq_iff_eq]; exact h3
      have h2 : (l' == fD q) = false := by rw [beq_eq_false_iff_ne]; exact fun e => h ⟨h3, e⟩
      clear h h3
      go_enter Tryz.func18, Tryz.ntmps18
      go_wp2_with fail
      rw [← HW.out]
      go_region_held3 (fun w' => w'.cell? ⟨w.heap.size, 0, none⟩ = some (.string ⟨l.toArray⟩) ∧ w'.cell? ⟨w.heap.size, 1, none⟩ = some (.string ⟨l'.toArray⟩))
        (first | go_keep | (dsimp only; exact ⟨q0, q1⟩))
        (first
          | (go_at_call 48; (with_reducible refine Calls.mono (parts_any l l' _ (Nat.le_trans hl' (by decide))) ?_); rintro e w1 ⟨rfl, hb1⟩; have hbc := bto hbc hb1; have x0 := X0.below hbc; have q0 := x0.c0; have q1 := x0.c1)
          | (go_at_call 51; (with_reducible refine Calls.mono (HM.out _ (by exact (hG.below hbW).below hbc)) ?_); rintro e w1 ⟨rfl, hb1⟩; have hbc := bto hbc hb1; have x0 := X0.below hbc; have q0 := x0.c0; have q1 := x0.c1))
      go_wp2
      go_ret
      exact ⟨rfl, bto hbW hbc⟩
    · have h1 : (l == fN q) = false := by rw [beq_eq_false_iff_ne]; exact h3
      clear h h3
      go_enter Tryz.func18, Tryz.ntmps18
      go_wp2_with fail
      rw [← HW.out]
      go_region_held3 (fun w' => w'.cell? ⟨w.heap.size, 0, none⟩ = some (.string ⟨l.toArray⟩) ∧ w'.cell? ⟨w.heap.size, 1, none⟩ = some (.string ⟨l'.toArray⟩))
        (first | go_keep | (dsimp only; exact ⟨q0, q1⟩))
        (first
          | (go_at_call 48; (with_reducible refine Calls.mono (parts_any l l' _ (Nat.le_trans hl' (by decide))) ?_); rintro e w1 ⟨rfl, hb1⟩; have hbc := bto hbc hb1; have x0 := X0.below hbc; have q0 := x0.c0; have q1 := x0.c1)
          | (go_at_call 51; (with_reducible refine Calls.mono (HM.out _ (by exact (hG.below hbW).below hbc)) ?_); rintro e w1 ⟨rfl, hb1⟩; have hbc := bto hbc hb1; have x0 := X0.below hbc; have q0 := x0.c0; have q1 := x0.c1))
      go_wp2
      go_ret
      exact ⟨rfl, bto hbW hbc⟩
end Go.Proofs.YtjhafnnfkaejgaaGreatDoor
