/- The law MoneySums. -/
import Derived.Test.YtdjjlbfleibhjaaGreatDoorM7
namespace Go.Proofs.YtdjjlbfleibhjaaGreatDoor
open Go.RowKit Num
set_option maxHeartbeats 4000000 in
set_option maxRecDepth 100000 in
theorem sums_law (A : Option Addr) (xs : List Mon) (n c : Nat) (B : Option Addr) (ys : List Mon) (n' c' : Nat) (w : World) (hG : Glob w) (hn : xs.length = n) (hc : n ≤ c) (hm : n ≤ 9223372036854775807) (hI : MonAt w A xs) (hn' : ys.length = n') (hc' : n' ≤ c') (hm' : n' ≤ 9223372036854775807) (hI' : MonAt w B ys) :
    Calls Tryz.prog 4 #[.slice A n c, .slice B n' c'] w fun e w' => e = .returned (.bool true) ∧ Below w.heap.size w w' := by
  have HAw := Lib.hid wAwake5
  obtain ⟨r, hr⟩ : ∃ r : MRow, r = ⟨A, xs, n, c⟩ := ⟨_, rfl⟩
  obtain ⟨s, hs⟩ : ∃ s : MRow, s = ⟨B, ys, n', c'⟩ := ⟨_, rfl⟩
  have hrA : r.At w := by rw [hr]; exact ⟨hn, hc, hm, hI⟩
  have hsA : s.At w := by rw [hs]; exact ⟨hn', hc', hm', hI'⟩
  have hb := below_alloc w (.cells #[r.v, s.v] 35)
  have CG := Lib.hid (lgreatM _ [r, s] 2 2 _ (hG.below hb) rfl (by decide) row2_at (fun q hq => by
    rcases List.mem_cons.1 hq with rfl | hq
    · exact hrA.below hb
    · rcases List.mem_cons.1 hq with rfl | hq
      · exact hsA.below hb
      · cases hq))
  rw [show r.v = .slice A n c by rw [hr]; rfl, show s.v = .slice B n' c' by rw [hs]; rfl] at CG hb
  have HR := Lib.hid hr
  have HS := Lib.hid hs
  have HI := Lib.hid hI
  have HI' := Lib.hid hI'
  clear hr hs hrA hsA hn hn' hm hm' hI hI'
  go_enter Tryz.func4, Tryz.ntmps4
  go_wp2_with fail
  refine CG.out.mono ?_
  rintro e w2 ⟨g, rfl, hg, hb2⟩
  have HF := Lib.hid hg
  replace hb := bto hb hb2
  clear hg hb2 CG
  cases g with
  | true =>
    clear HF
    go_wp2_with fail
    ((with_reducible refine (HAw.out.of hG hb).mono ?_); rintro e wz ⟨rfl, hbz⟩)
    replace hb := bto hb hbz
    clear hbz
    go_wp2
    go_ret
    exact ⟨rfl, hb⟩
  | false =>
    have hX : MF w A xs n c := by
      have h := HF.out rfl r (by simp)
      have e := HR.out
      subst e
      exact ⟨h.len, h.cap, h.sz, h.str, HI.out⟩
    have hY : MF w B ys n' c' := by
      have h := HF.out rfl s (by simp)
      have e := HS.out
      subst e
      exact ⟨h.len, h.cap, h.sz, h.str, HI'.out⟩
    have C1 := Lib.hid (fun (w' : World) (hb : Below w.heap.size w w') => mSum A B xs ys n c n' c' w' (hG.below hb) (hX.ml.below hb) hc (hY.ml.below hb) hc')
    have C2 := Lib.hid (fun (w' : World) (hb : Below w.heap.size w w') => jSum A B xs ys n c n' c' w' (hG.below hb) (hX.ml.below hb) hc (hY.ml.below hb) (fun t ht => Nat.le_trans (hX.str t ht).2 (by decide)) (fun t ht => Nat.le_trans (hY.str t ht).2 (by decide)))
    clear hX hY HF HR HS HI HI'
    have HZ := Lib.hid (sumV_len xs ys)
    generalize (sumV xs ys).1 = zs at *
    generalize (sumV xs ys).2 = z at *
    go_wp2_with fail
    refine (C1.out _ hb).mono ?_
    rintro e w3 ⟨B3, m3, c3, rfl, hm3, hc3, hM3, hb3⟩
    replace hb := bto hb hb3
    clear hb3
    go_wp2_with fail
    refine (C2.out _ hb).mono ?_
    rintro e w4 ⟨B4, m4, c4, rfl, hm4, hc4, hM4, hb4⟩
    replace hb := bto hb hb4
    have CE := Lib.hid (fun h => eqMs B3 B4 zs zs m3 m4 c3 c4 w4 hm3 hm4 h (by omega) (hM3.below hb4) hM4)
    rw [sameMs_self] at CE
    have hlen : m3 ≤ 1000000000 := by rw [← hm3]; exact Nat.le_trans HZ.out (by decide)
    clear hb4 hM3 hM4 C1 C2
    go_wp2_with fail
    refine (CE.out hlen).mono ?_
    rintro e w5 ⟨rfl, hb5⟩
    replace hb := bto hb hb5
    clear hb5 CE
    go_wp2_with fail
    ((with_reducible refine (HAw.out.of hG hb).mono ?_); rintro e wz ⟨rfl, hbz⟩)
    replace hb := bto hb hbz
    clear hbz
    go_wp2
    go_ret
    exact ⟨rfl, hb⟩
end Go.Proofs.YtdjjlbfleibhjaaGreatDoor
