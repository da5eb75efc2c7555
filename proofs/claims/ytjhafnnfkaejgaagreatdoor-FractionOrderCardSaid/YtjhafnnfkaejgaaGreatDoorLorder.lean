/- FractionOrder. -/
import Derived.Test.YtjhafnnfkaejgaaGreatDoorQlawb
import Derived.Deep.DeepCutAuto
import Derived.IntWalk
namespace Go.Proofs.YtjhafnnfkaejgaaGreatDoor
open Go.RowKit Num

set_option maxHeartbeats 4000000 in
set_option maxRecDepth 100000 in
theorem order_law (l l' k k' j j' : List UInt8) (w : World) (hG : Glob w) :
    Calls Tryz.prog 4 #[(Value.agg #[Value.string ⟨List.toArray l⟩, Value.string ⟨List.toArray l'⟩]), (Value.agg #[Value.string ⟨List.toArray k⟩, Value.string ⟨List.toArray k'⟩]), (Value.agg #[Value.string ⟨List.toArray j⟩, Value.string ⟨List.toArray j'⟩])] w fun e w' => e = .returned (.bool true) ∧ Below w.heap.size w w' := by
  have cW := rAwake
  go_enter Tryz.func4, Tryz.ntmps4
  go_wp2_with fail
  ((with_reducible refine (great_any _ 3 3 (fun i => [l, l', k, k', j, j'].getD i []) _ (by decide) ?_).mono ?_))
  · intro i hi
    have hi : i = 0 ∨ i = 1 ∨ i = 2 ∨ i = 3 ∨ i = 4 ∨ i = 5 := by omega
    rcases hi with rfl | rfl | rfl | rfl | rfl | rfl <;> simp [go_sem]
  rintro e w1 ⟨hres, hb1⟩
  have x3 : FBox w1 (w.heap.size) (.string ⟨l.toArray⟩) (.string ⟨l'.toArray⟩) := FBox.below ⟨by simp [go_sem], by simp [go_sem], by simp [go_sem], by simp [go_sem], by first | (simp; done) | (simp; omega)⟩ hb1
  have x4 : FBox w1 (w.heap.size + 1) (.string ⟨k.toArray⟩) (.string ⟨k'.toArray⟩) := FBox.below ⟨by simp [go_sem], by simp [go_sem], by simp [go_sem], by simp [go_sem], by first | (simp; done) | (simp; omega)⟩ hb1
  have x5 : FBox w1 (w.heap.size + 2) (.string ⟨j.toArray⟩) (.string ⟨j'.toArray⟩) := FBox.below ⟨by simp [go_sem], by simp [go_sem], by simp [go_sem], by simp [go_sem], by first | (simp; done) | (simp; omega)⟩ hb1
  have hb : Below w.heap.size w w1 := bto (bto (bto (bto (below_alloc _ _) (below_alloc _ _)) (below_alloc _ _)) (below_alloc _ _)) hb1
  clear hb1
  rcases hres with ⟨rfl, -⟩ | ⟨rfl, hlen⟩
  · go_wp2_with fail
    ((with_reducible refine (cW.of hG hb).mono ?_); rintro e w2 ⟨rfl, hb2⟩)
    go_wp2
    go_ret
    exact ⟨rfl, bto hb hb2⟩
  · have h0 : l.length ≤ 60 := hlen 0 (by decide)
    have h1 : l'.length ≤ 60 := hlen 1 (by decide)
    have h2 : k.length ≤ 60 := hlen 2 (by decide)
    have h3 : k'.length ≤ 60 := hlen 3 (by decide)
    have h4 : j.length ≤ 60 := hlen 4 (by decide)
    have h5 : j'.length ≤ 60 := hlen 5 (by decide)
    clear hlen
    have iF := isq_raw h0 h1 (by decide)
    have iG := isq_raw h2 h3 (by decide)
    have iH := isq_raw h4 h5 (by decide)
    have bF : Bd 60 (fv l l') := bd_fv h0 h1 (by decide)
    have bG : Bd 60 (fv k k') := bd_fv h2 h3 (by decide)
    have bH : Bd 60 (fv j j') := bd_fv h4 h5 (by decide)
    generalize fv l l' = f at iF bF
    generalize fv k k' = g at iG bG
    generalize fv j j' = h at iH bH
    obtain ⟨n, hn⟩ : ∃ n, cmpQ f g = n := ⟨_, rfl⟩
    obtain ⟨m, hm⟩ : ∃ m, cmpQ g h = m := ⟨_, rfl⟩
    obtain ⟨s, hs⟩ : ∃ s, cmpQ h 0 = s := ⟨_, rfl⟩
    have hnb := cmpQ_bound f g
    have hmb := cmpQ_bound g h
    have hsh := canon_shape (f - g).num
    have hp : 0 < s → 0 < h := fun h0 => cmpQ_pos.1 (by rw [hs]; exact h0)
    have ht := cmpQ_trans (p := f) (q := g) (r := h)
    have c1 := rCompare iF iG hn
    have c2 := rSub iF iG rfl
    have c3 := rCompare iG iF (c := -n) (by rw [cmpQ_swap, hn])
    have c4 := rAdd iF iH rfl
    have c5 := rAdd iG iH rfl
    have c6 := rCompare (isq_fr (bd_add bF bH) (by decide)) (isq_fr (bd_add bG bH) (by decide)) (c := n) (by rw [cmpQ_add, hn])
    have c7 := rCompare iH isq_zero hs
    have c8 := rMul iF iH rfl
    have c9 := rMul iG iH rfl
    have c10 : 0 < s → Ret 22 _ _ := fun h0 => rCompare (isq_fr (bd_mul bF bH) (by decide)) (isq_fr (bd_mul bG bH) (by decide)) (c := n) (by rw [cmpQ_mul (hp h0), hn])
    have c11 := rCompare iG iH hm
    have c12 : n ≤ 0 → m ≤ 0 → Ret 22 _ _ := fun a b => rCompare iF iH (c := min n m) (by rw [ht (by rw [hn]; exact a) (by rw [hm]; exact b), hn, hm])
    rw [hn] at hnb
    rw [hm] at hmb
    have hsh : (fN (f - g) = [] ∧ n = 0) ∨ (∃ c t, fN (f - g) = c :: t ∧ ((c.toNat : Int) == 45) = false ∧ n = 1) ∨ (∃ t, fN (f - g) = 45 :: t ∧ n = -1) := by
      rw [← hn]; exact hsh
    have n1 : -1 ≤ n := by omega
    have n2 : n ≤ 1 := by omega
    have m1 : -1 ≤ m := by omega
    have m2 : m ≤ 1 := by omega
    generalize fN (f * h) = A0 at *
    generalize fD (f * h) = A1 at *
    generalize fN (g * h) = V0 at *
    generalize fD (g * h) = V1 at *
    generalize fN (f + h) = P0 at *
    generalize fD (f + h) = P1 at *
    generalize fN (g + h) = Y0 at *
    generalize fD (g + h) = Y1 at *
    generalize fN (f - g) = D0 at *
    generalize fD (f - g) = D1 at *
    have HS := Lib.hid hsh
    have H10 := Lib.hid c10
    have H12 := Lib.hid c12
    clear iF iG iH bF bG bH hn hm hs hnb hmb hsh hp ht h0 h1 h2 h3 h4 h5 c10 c12
    have qx3a := x3.c0
    have qx3b := x3.c1
    have qx4a := x4.c0
    have qx4b := x4.c1
    go_wp2_with fail
    ((with_reducible refine (c1.of hG hb).mono ?_); rintro e w2 ⟨rfl, hb2⟩)
    clear qx3a qx3b qx4a qx4b
    replace x3 := x3.below hb2
    replace x4 := x4.below hb2
    replace x5 := x5.below hb2
    replace hb := bto hb hb2
    clear hb2
    have qx3a := x3.c0
    have qx3b := x3.c1
    have qx4a := x4.c0
    have qx4b := x4.c1
    go_wp2_with fail
    ((with_reducible refine (c2.of hG hb).mono ?_); rintro e w3 ⟨rfl, hb3⟩)
    clear qx3a qx3b qx4a qx4b
    replace x3 := x3.below hb3
    replace x4 := x4.below hb3
    replace x5 := x5.below hb3
    replace hb := bto hb hb3
    clear hb3
    replace x3 := x3.below (below_alloc w3 (.cells #[.string ⟨D0.toArray⟩, .string ⟨D1.toArray⟩] 24))
    replace x4 := x4.below (below_alloc w3 (.cells #[.string ⟨D0.toArray⟩, .string ⟨D1.toArray⟩] 24))
    replace x5 := x5.below (below_alloc w3 (.cells #[.string ⟨D0.toArray⟩, .string ⟨D1.toArray⟩] 24))
    have x8 := FBox.new w3 (.string ⟨D0.toArray⟩) (.string ⟨D1.toArray⟩) 24
    replace hb := bto hb (below_alloc w3 (.cells #[.string ⟨D0.toArray⟩, .string ⟨D1.toArray⟩] 24))
    have qx8a := x8.c0
    have qx8b := x8.c1
    go_upto_if 28 with fail
    clear qx8a qx8b
    obtain ⟨W, hW⟩ : ∃ W, W = w3.alloc (.cells #[.string ⟨D0.toArray⟩, .string ⟨D1.toArray⟩] 24) := ⟨_, rfl⟩
    rw [← hW] at x3 x4 x5 x8 hb ⊢
    have HW := Lib.hid hW
    clear hW
    go_cut [9] (fun s9 wx => s9 = .int .i64 n ∧ wx = W)
    case first =>
      rcases HS.out with ⟨rfl, rfl⟩ | ⟨c, t, rfl, hc, rfl⟩ | ⟨t, rfl, rfl⟩
      · have k1 : decide (0 < ([] : List UInt8).length) = false := rfl
        clear HS H10 H12
        go_wp2
        go_meet
        case rel => exact ⟨rfl, rfl⟩
      · have k1 : decide (0 < (c :: t).length) = true := decide_eq_true (by simp)
        have k2 : ∀ hp, ((((⟨(c :: t).toArray⟩ : ByteArray)[0]'hp).toNat : Int) == 45) = false := fun hp => hc
        have k3 : 0 < (c :: t).length := by simp
        clear HS H10 H12 hc
        have q8a := x8.c0
        have q8b := x8.c1
        go_wp2
        go_meet
        case rel => exact ⟨rfl, rfl⟩
      · have k1 : decide (0 < (45 :: t).length) = true := decide_eq_true (by simp)
        have k2 : ∀ hp, ((((⟨(45 :: t).toArray⟩ : ByteArray)[0]'hp).toNat : Int) == 45) = true := fun hp => rfl
        have k3 : 0 < (45 :: t).length := by simp
        clear HS H10 H12
        have q8a := x8.c0
        have q8b := x8.c1
        go_wp2
        go_meet
        case rel => exact ⟨rfl, rfl⟩
    case rest =>
      obtain ⟨rfl, rfl⟩ := hcut
      clear x8
      clear HS HW
      have kn : IntKind.i64.wrap n = n := IntWalk.i64_in n (by omega)
      go_wp2_with fail
      refine wp_region_kept (by kernel_rfl) (by kernel_rfl) ?_
      refine kept_val _ (fun _ => rfl) (fun ρ w hw => by go_simp; first | done | with_reducible rfl) ?_
      simp only [Act.put, List.setIfInBounds_toArray, List.set_cons_zero, List.set_cons_succ, Nat.reduceAdd]
      refine kept_val _ (fun _ => rfl) (fun ρ w hw => by have q0 := (x4.below hw).c0; have q1 := (x4.below hw).c1; go_simp; first | done | with_reducible rfl) ?_
      simp only [Act.put, List.setIfInBounds_toArray, List.set_cons_zero, List.set_cons_succ, Nat.reduceAdd]
      refine kept_val _ (fun _ => rfl) (fun ρ w hw => by have q0 := (x3.below hw).c0; have q1 := (x3.below hw).c1; go_simp; first | done | with_reducible rfl) ?_
      simp only [Act.put, List.setIfInBounds_toArray, List.set_cons_zero, List.set_cons_succ, Nat.reduceAdd]
      refine kept_call _ _ _ (fun _ => rfl) (fun ρ w hw => by go_simp; first | done | with_reducible rfl) (fun w hw => c3.of hG (bto hb hw)) ?_
      simp only [Act.put, List.setIfInBounds_toArray, List.set_cons_zero, List.set_cons_succ, Nat.reduceAdd]
      refine kept_val _ (fun _ => rfl) (fun ρ w hw => by go_simp; first | done | with_reducible rfl) ?_
      simp only [Act.put, List.setIfInBounds_toArray, List.set_cons_zero, List.set_cons_succ, Nat.reduceAdd]
      refine kept_val _ (fun _ => rfl) (fun ρ w hw => by go_simp; first | done | with_reducible rfl) ?_
      simp only [Act.put, List.setIfInBounds_toArray, List.set_cons_zero, List.set_cons_succ, Nat.reduceAdd]
      refine kept_val _ (fun _ => rfl) (fun ρ w hw => by go_simp; first | done | with_reducible rfl) ?_
      simp only [Act.put, List.setIfInBounds_toArray, List.set_cons_zero, List.set_cons_succ, Nat.reduceAdd]
      refine kept_val _ (fun _ => rfl) (fun ρ w hw => by go_simp; first | done | with_reducible rfl) ?_
      simp only [Act.put, List.setIfInBounds_toArray, List.set_cons_zero, List.set_cons_succ, Nat.reduceAdd]
      refine kept_val _ (fun _ => rfl) (fun ρ w hw => by go_simp; first | done | with_reducible rfl) ?_
      simp only [Act.put, List.setIfInBounds_toArray, List.set_cons_zero, List.set_cons_succ, Nat.reduceAdd]
      refine kept_val _ (fun _ => rfl) (fun ρ w hw => by go_simp; first | done | with_reducible rfl) ?_
      simp only [Act.put, List.setIfInBounds_toArray, List.set_cons_zero, List.set_cons_succ, Nat.reduceAdd]
      refine kept_val _ (fun _ => rfl) (fun ρ w hw => by go_simp; first | done | with_reducible rfl) ?_
      simp only [Act.put, List.setIfInBounds_toArray, List.set_cons_zero, List.set_cons_succ, Nat.reduceAdd]
      refine kept_val _ (fun _ => rfl) (fun ρ w hw => by go_simp; first | done | with_reducible rfl) ?_
      simp only [Act.put, List.setIfInBounds_toArray, List.set_cons_zero, List.set_cons_succ, Nat.reduceAdd]
      refine kept_val _ (fun _ => rfl) (fun ρ w hw => by have q0 := (x3.below hw).c0; have q1 := (x3.below hw).c1; go_simp; first | done | with_reducible rfl) ?_
      simp only [Act.put, List.setIfInBounds_toArray, List.set_cons_zero, List.set_cons_succ, Nat.reduceAdd]
      refine kept_val _ (fun _ => rfl) (fun ρ w hw => by have q0 := (x5.below hw).c0; have q1 := (x5.below hw).c1; go_simp; first | done | with_reducible rfl) ?_
      simp only [Act.put, List.setIfInBounds_toArray, List.set_cons_zero, List.set_cons_succ, Nat.reduceAdd]
      refine kept_call _ _ _ (fun _ => rfl) (fun ρ w hw => by go_simp; first | done | with_reducible rfl) (fun w hw => c4.of hG (bto hb hw)) ?_
      simp only [Act.put, List.setIfInBounds_toArray, List.set_cons_zero, List.set_cons_succ, Nat.reduceAdd]
      refine kept_val _ (fun _ => rfl) (fun ρ w hw => by have q0 := (x4.below hw).c0; have q1 := (x4.below hw).c1; go_simp; first | done | with_reducible rfl) ?_
      simp only [Act.put, List.setIfInBounds_toArray, List.set_cons_zero, List.set_cons_succ, Nat.reduceAdd]
      refine kept_val _ (fun _ => rfl) (fun ρ w hw => by have q0 := (x5.below hw).c0; have q1 := (x5.below hw).c1; go_simp; first | done | with_reducible rfl) ?_
      simp only [Act.put, List.setIfInBounds_toArray, List.set_cons_zero, List.set_cons_succ, Nat.reduceAdd]
      refine kept_call _ _ _ (fun _ => rfl) (fun ρ w hw => by go_simp; first | done | with_reducible rfl) (fun w hw => c5.of hG (bto hb hw)) ?_
      simp only [Act.put, List.setIfInBounds_toArray, List.set_cons_zero, List.set_cons_succ, Nat.reduceAdd]
      refine kept_call _ _ _ (fun _ => rfl) (fun ρ w hw => by go_simp; first | done | with_reducible rfl) (fun w hw => c6.of hG (bto hb hw)) ?_
      simp only [Act.put, List.setIfInBounds_toArray, List.set_cons_zero, List.set_cons_succ, Nat.reduceAdd]
      refine kept_val _ (fun _ => rfl) (fun ρ w hw => by go_simp; first | done | with_reducible rfl) ?_
      simp only [Act.put, List.setIfInBounds_toArray, List.set_cons_zero, List.set_cons_succ, Nat.reduceAdd]
      refine kept_val _ (fun _ => rfl) (fun ρ w hw => by go_simp; first | done | with_reducible rfl) ?_
      simp only [Act.put, List.setIfInBounds_toArray, List.set_cons_zero, List.set_cons_succ, Nat.reduceAdd]
      refine kept_val _ (fun _ => rfl) (fun ρ w hw => by go_simp; first | done | with_reducible rfl) ?_
      simp only [Act.put, List.setIfInBounds_toArray, List.set_cons_zero, List.set_cons_succ, Nat.reduceAdd]
      refine kept_val _ (fun _ => rfl) (fun ρ w hw => by go_simp; first | done | with_reducible rfl) ?_
      simp only [Act.put, List.setIfInBounds_toArray, List.set_cons_zero, List.set_cons_succ, Nat.reduceAdd]
      refine kept_end (fun ρ w4 hF => ?_)
      replace x3 := x3.below hF.below
      replace x4 := x4.below hF.below
      replace x5 := x5.below hF.below
      replace hb := bto hb hF.below
      clear hF
      clear kn
      have qx5a := x5.c0
      have qx5b := x5.c1
      go_wp2_with fail
      ((with_reducible refine (c7.of hG hb).mono ?_); rintro e w5 ⟨rfl, hb5⟩)
      replace x3 := x3.below hb5
      replace x4 := x4.below hb5
      replace x5 := x5.below hb5
      replace hb := bto hb hb5
      clear hb5
      clear qx5a qx5b
      go_upto_if 58 with fail
      go_cut [10] (fun s10 wx => s10 = .bool true ∧ Below w5.heap.size w5 wx)
      case first =>
        by_cases hs : 0 < s
        · have c10 := H10.out hs
          have ks : decide (0 < s) = true := decide_eq_true hs
          clear H10 H12
          have hb0 := hb
          replace hb := Below.refl w5.heap.size w5
          have hG := hG.below hb0
          go_wp2_with fail
          refine wp_region_kept (by kernel_rfl) (by kernel_rfl) ?_
          refine kept_val _ (fun _ => rfl) (fun ρ w hw => by go_simp; first | done | with_reducible rfl) ?_
          simp only [Act.put, List.setIfInBounds_toArray, List.set_cons_zero, List.set_cons_succ, Nat.reduceAdd]
          refine kept_val _ (fun _ => rfl) (fun ρ w hw => by go_simp; first | done | with_reducible rfl) ?_
          simp only [Act.put, List.setIfInBounds_toArray, List.set_cons_zero, List.set_cons_succ, Nat.reduceAdd]
          refine kept_val _ (fun _ => rfl) (fun ρ w hw => by have q0 := (x3.below hw).c0; have q1 := (x3.below hw).c1; go_simp; first | done | with_reducible rfl) ?_
          simp only [Act.put, List.setIfInBounds_toArray, List.set_cons_zero, List.set_cons_succ, Nat.reduceAdd]
          refine kept_val _ (fun _ => rfl) (fun ρ w hw => by have q0 := (x5.below hw).c0; have q1 := (x5.below hw).c1; go_simp; first | done | with_reducible rfl) ?_
          simp only [Act.put, List.setIfInBounds_toArray, List.set_cons_zero, List.set_cons_succ, Nat.reduceAdd]
          refine kept_call _ _ _ (fun _ => rfl) (fun ρ w hw => by go_simp; first | done | with_reducible rfl) (fun w hw => c8.of hG (bto hb hw)) ?_
          simp only [Act.put, List.setIfInBounds_toArray, List.set_cons_zero, List.set_cons_succ, Nat.reduceAdd]
          refine kept_val _ (fun _ => rfl) (fun ρ w hw => by have q0 := (x4.below hw).c0; have q1 := (x4.below hw).c1; go_simp; first | done | with_reducible rfl) ?_
          simp only [Act.put, List.setIfInBounds_toArray, List.set_cons_zero, List.set_cons_succ, Nat.reduceAdd]
          refine kept_val _ (fun _ => rfl) (fun ρ w hw => by have q0 := (x5.below hw).c0; have q1 := (x5.below hw).c1; go_simp; first | done | with_reducible rfl) ?_
          simp only [Act.put, List.setIfInBounds_toArray, List.set_cons_zero, List.set_cons_succ, Nat.reduceAdd]
          refine kept_call _ _ _ (fun _ => rfl) (fun ρ w hw => by go_simp; first | done | with_reducible rfl) (fun w hw => c9.of hG (bto hb hw)) ?_
          simp only [Act.put, List.setIfInBounds_toArray, List.set_cons_zero, List.set_cons_succ, Nat.reduceAdd]
          refine kept_call _ _ _ (fun _ => rfl) (fun ρ w hw => by go_simp; first | done | with_reducible rfl) (fun w hw => c10.of hG (bto hb hw)) ?_
          simp only [Act.put, List.setIfInBounds_toArray, List.set_cons_zero, List.set_cons_succ, Nat.reduceAdd]
          refine kept_val _ (fun _ => rfl) (fun ρ w hw => by go_simp; first | done | with_reducible rfl) ?_
          simp only [Act.put, List.setIfInBounds_toArray, List.set_cons_zero, List.set_cons_succ, Nat.reduceAdd]
          refine kept_val _ (fun _ => rfl) (fun ρ w hw => by go_simp; first | done | with_reducible rfl) ?_
          simp only [Act.put, List.setIfInBounds_toArray, List.set_cons_zero, List.set_cons_succ, Nat.reduceAdd]
          refine kept_val _ (fun _ => rfl) (fun ρ w hw => by go_simp; first | done | with_reducible rfl) ?_
          simp only [Act.put, List.setIfInBounds_toArray, List.set_cons_zero, List.set_cons_succ, Nat.reduceAdd]
          refine kept_val _ (fun _ => rfl) (fun ρ w hw => by go_simp; first | done | with_reducible rfl) ?_
          simp only [Act.put, List.setIfInBounds_toArray, List.set_cons_zero, List.set_cons_succ, Nat.reduceAdd]
          refine kept_end (fun ρ w6 hF => ?_)
          replace x3 := x3.below hF.below
          replace x4 := x4.below hF.below
          replace x5 := x5.below hF.below
          replace hb := bto hb hF.below
          clear hF
          go_wp2
          go_meet
          case rel => exact ⟨rfl, hb⟩
        · have ks : decide (0 < s) = false := decide_eq_false hs
          have ks2 : s ≤ 0 := Int.not_lt.1 hs
          clear H10 H12 hs
          go_wp2
          go_meet
          case rel => exact ⟨rfl, Below.refl _ _⟩
      case rest =>
        obtain ⟨rfl, hbc⟩ := hcut
        replace x3 := x3.below hbc
        replace x4 := x4.below hbc
        replace x5 := x5.below hbc
        replace hb := bto hb hbc
        clear hbc H10
        have qx4a := x4.c0
        have qx4b := x4.c1
        have qx5a := x5.c0
        have qx5b := x5.c1
        go_wp2_with fail
        ((with_reducible refine (c11.of hG hb).mono ?_); rintro e w6 ⟨rfl, hb6⟩)
        clear qx4a qx4b qx5a qx5b
        replace x3 := x3.below hb6
        replace x4 := x4.below hb6
        replace x5 := x5.below hb6
        replace hb := bto hb hb6
        clear hb6
        by_cases hnm : n ≤ 0 ∧ m ≤ 0
        · have c12 := H12.out hnm.1 hnm.2
          have k1 : decide (n ≤ 0) = true := decide_eq_true hnm.1
          have k2 : decide (m ≤ 0) = true := decide_eq_true hnm.2
          have k3 := hnm.1
          have k4 := hnm.2
          clear hnm H12
          have qx3a := x3.c0
          have qx3b := x3.c1
          have qx5a := x5.c0
          have qx5b := x5.c1
          go_wp2_with fail
          ((with_reducible refine (c12.of hG hb).mono ?_); rintro e w7 ⟨rfl, hb7⟩)
          clear qx3a qx3b qx5a qx5b
          replace x3 := x3.below hb7
          replace x4 := x4.below hb7
          replace x5 := x5.below hb7
          replace hb := bto hb hb7
          clear hb7
          go_wp2_with fail
          ((with_reducible refine (cW.of hG hb).mono ?_); rintro e w8 ⟨rfl, hb8⟩)
          replace x3 := x3.below hb8
          replace x4 := x4.below hb8
          replace x5 := x5.below hb8
          replace hb := bto hb hb8
          clear hb8
          go_wp2
          go_ret
          exact ⟨rfl, hb⟩
        · clear H12
          by_cases k0 : n ≤ 0
          · have k1 : decide (n ≤ 0) = true := decide_eq_true k0
            have k2 : decide (m ≤ 0) = false := decide_eq_false (fun e => hnm ⟨k0, e⟩)
            have k3 : 0 < m := Int.not_le.1 (fun e => hnm ⟨k0, e⟩)
            clear hnm
            go_wp2_with fail
            ((with_reducible refine (cW.of hG hb).mono ?_); rintro e w7 ⟨rfl, hb7⟩)
            replace x3 := x3.below hb7
            replace x4 := x4.below hb7
            replace x5 := x5.below hb7
            replace hb := bto hb hb7
            clear hb7
            go_wp2
            go_ret
            exact ⟨rfl, hb⟩
          · have k1 : decide (n ≤ 0) = false := decide_eq_false k0
            have k3 : 0 < n := Int.not_le.1 k0
            clear hnm k0
            go_wp2_with fail
            ((with_reducible refine (cW.of hG hb).mono ?_); rintro e w8 ⟨rfl, hb8⟩)
            replace x3 := x3.below hb8
            replace x4 := x4.below hb8
            replace x5 := x5.below hb8
            replace hb := bto hb hb8
            clear hb8
            go_wp2
            go_ret
            exact ⟨rfl, hb⟩
end Go.Proofs.YtjhafnnfkaejgaaGreatDoor
