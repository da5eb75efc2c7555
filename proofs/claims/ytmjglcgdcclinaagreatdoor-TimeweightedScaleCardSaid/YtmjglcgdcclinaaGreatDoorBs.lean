/- More contracts of the library at this program: strconv.Itoa, strings.TrimRight, Contains, TrimSuffix; package integer: Of. -/
import Derived.Shelf.Strings.Trim
import Derived.Shelf.Strconv.Itoa3
import Derived.Shelf.Strings.Search3
import Derived.Shelf.Strings.Prefix
import Derived.Lib.AppendIntMem
import Derived.Test.YtmjglcgdcclinaaGreatDoorBe
import Derived.Test.YtmjglcgdcclinaaGreatDoorBh
namespace Go.Proofs
open Go.Shelf
def Tryz.laysM171_ren : Go.Shelf.Ren := ⟨fun | 171 => 151 | 243 => 191 | 246 => 219 | 283 => 237 | 284 => 238 | 285 => 239 | 286 => 240 | 129 => 258 | 317 => 257 | 318 => 259 | 319 => 260 | 320 => 261 | 337 => 267 | 338 => 268 | n => n, fun | 3 => 3 | 9 => 9 | 2 => 2 | 4 => 4 | 171 => 238 | 0 => 0 | 53 => 171 | 37 => 178 | 5 => 5 | 173 => 241 | 212 => 264 | 51 => 243 | 20 => 20 | 213 => 265 | 46 => 199 | 232 => 281 | 233 => 282 | n => n, fun | 17 => 2 | 18 => 6 | 19 => 7 | n => n⟩
theorem Tryz.laysM171 : Go.Proofs.LaysM.n171 Tryz.prog Tryz.laysM171_ren := {
  mixed := by kernel_rfl
  f129 := Tryz.func258.trans (congrArg some (by kernel_rfl))
  f171 := Tryz.func151.trans (congrArg some (by kernel_rfl))
  f243 := Tryz.func191.trans (congrArg some (by kernel_rfl))
  f246 := Tryz.func219.trans (congrArg some (by kernel_rfl))
  f283 := Tryz.func237.trans (congrArg some (by kernel_rfl))
  f284 := Tryz.func238.trans (congrArg some (by kernel_rfl))
  f285 := Tryz.func239.trans (congrArg some (by kernel_rfl))
  f286 := Tryz.func240.trans (congrArg some (by kernel_rfl))
  f317 := Tryz.func257.trans (congrArg some (by kernel_rfl))
  f318 := Tryz.func259.trans (congrArg some (by kernel_rfl))
  f319 := Tryz.func260.trans (congrArg some (by kernel_rfl))
  f320 := Tryz.func261.trans (congrArg some (by kernel_rfl))
  f337 := Tryz.func267.trans (congrArg some (by kernel_rfl))
  f338 := Tryz.func268.trans (congrArg some (by kernel_rfl))
  t0 := Tryz.underlying0
  a0 := Tryz.isAgg0
  z0 := Tryz.sizeOf0
  v0 := Tryz.zeroValue0
  t2 := Tryz.underlying2
  a2 := Tryz.isAgg2
  z2 := Tryz.sizeOf2
  v2 := Tryz.zeroValue2
  t3 := Tryz.underlying3
  a3 := Tryz.isAgg3
  z3 := Tryz.sizeOf3
  v3 := Tryz.zeroValue3
  t4 := Tryz.underlying4
  a4 := Tryz.isAgg4
  z4 := Tryz.sizeOf4
  v4 := Tryz.zeroValue4
  t5 := Tryz.underlying5
  a5 := Tryz.isAgg5
  z5 := Tryz.sizeOf5
  v5 := Tryz.zeroValue5
  t9 := Tryz.underlying9
  a9 := Tryz.isAgg9
  z9 := Tryz.sizeOf9
  v9 := Tryz.zeroValue9
  t20 := Tryz.underlying20
  a20 := Tryz.isAgg20
  z20 := Tryz.sizeOf20
  v20 := Tryz.zeroValue20
  t37 := Tryz.underlying178
  a37 := Tryz.isAgg178
  z37 := Tryz.sizeOf178
  v37 := Tryz.zeroValue178
  t46 := Tryz.underlying199
  a46 := Tryz.isAgg199
  z46 := Tryz.sizeOf199
  v46 := Tryz.zeroValue199
  t51 := Tryz.underlying243
  a51 := Tryz.isAgg243
  z51 := Tryz.sizeOf243
  v51 := Tryz.zeroValue243
  t53 := Tryz.underlying171
  a53 := Tryz.isAgg171
  z53 := Tryz.sizeOf171
  v53 := Tryz.zeroValue171
  t171 := Tryz.underlying238
  a171 := Tryz.isAgg238
  z171 := Tryz.sizeOf238
  v171 := Tryz.zeroValue238
  t173 := Tryz.underlying241
  a173 := Tryz.isAgg241
  z173 := Tryz.sizeOf241
  v173 := Tryz.zeroValue241
  t212 := Tryz.underlying264
  a212 := Tryz.isAgg264
  z212 := Tryz.sizeOf264
  v212 := Tryz.zeroValue264
  t213 := Tryz.underlying265
  a213 := Tryz.isAgg265
  z213 := Tryz.sizeOf265
  t232 := Tryz.underlying281
  a232 := Tryz.isAgg281
  z232 := Tryz.sizeOf281
  v232 := Tryz.zeroValue281
  t233 := Tryz.underlying282
  a233 := Tryz.isAgg282
  z233 := Tryz.sizeOf282
  v233 := Tryz.zeroValue282
  g17 := by kernel_rfl
  g18 := by kernel_rfl
  g19 := by kernel_rfl
  i0 := by kernel_rfl
  i2 := by kernel_rfl
  i3 := by kernel_rfl
  i4 := by kernel_rfl
  i5 := by kernel_rfl
  i9 := by kernel_rfl
  i20 := by kernel_rfl
  i37 := by kernel_rfl
  i46 := by kernel_rfl
  i51 := by kernel_rfl
  i53 := by kernel_rfl
  i171 := by kernel_rfl
  i173 := by kernel_rfl
  i212 := by kernel_rfl
  i232 := by kernel_rfl
  i233 := by kernel_rfl
  m17 := by kernel_rfl
  m18 := by kernel_rfl
  m19 := by kernel_rfl }
open Go.RowKit Go.Sort Go.Lib in
theorem Tryz.strconv_Itoa (n : Int) (h0 : -9223372036854775808 ≤ n) (h1 : n ≤ 9223372036854775807) (w : World) (htab : Lib.TabIs Tryz.prog w "internal/strconv.uint64pow10" .u64 Lib.pow10Tab) :
    Calls Tryz.prog 151 #[.int .i64 n] w fun e w' => e = .returned (.string ⟨(Lib.itoa n).toArray⟩) ∧ ∃ k os, w' = grow (w.drewN k) os := Any.strconv_Itoa Tryz.laysM171 n h0 h1 w htab
end Go.Proofs
namespace Go.Proofs.YtmjglcgdcclinaaGreatDoor
open Go.RowKit Num
theorem itoa_print (n : Int) : Lib.itoa n = printZ n := by
  unfold Lib.itoa printZ
  by_cases h : n < 0
  · rw [if_pos h, if_neg (by omega), ← fmt_dec]
    unfold canon fmt; rw [if_pos h, if_neg (by omega)]
  · rw [if_neg h, ← fmt_dec]
    by_cases h0 : n = 0
    · rw [if_pos h0, h0]; rfl
    · rw [if_neg h0]
      unfold canon fmt
      rw [if_neg h, if_neg (by omega), show n.toNat = n.natAbs by omega]
theorem rItoa (n : Int) (h0 : -9223372036854775808 ≤ n) (h1 : n ≤ 9223372036854775807) : Ret 151 #[.int .i64 n] (.string ⟨(printZ n).toArray⟩) := fun w hG => by
  refine (Tryz.strconv_Itoa n h0 h1 w hG.1).mono ?_
  rintro e w' ⟨rfl, k, os, rfl⟩
  exact ⟨by rw [itoa_print], Lib.below_grow _ _ (Nat.le_refl _) _ _⟩
theorem printZ_len64 (n : Int) (h0 : -9223372036854775808 ≤ n) (h1 : n ≤ 9223372036854775807) : (printZ n).length ≤ 25 := by
  unfold printZ; split
  · simp
  · exact Nat.le_trans (canon_len_le n 20 (by omega)) (by omega)
set_option maxHeartbeats 1000000 in
theorem riOf (n : Int) (h0 : -9223372036854775808 ≤ n) (h1 : n ≤ 9223372036854775807) : Ret 80 #[.int .i64 n] (.string ⟨(canon n).toArray⟩) := fun w hG => by
  have hl := printZ_len64 n h0 h1
  have C1 := Lib.hid (rItoa n h0 h1)
  have c2 : Ret 150 #[.string ⟨(printZ n).toArray⟩] (.string ⟨(canon n).toArray⟩) := fun w _ => by
    have := canonical_any (printZ n) w (by omega)
    rwa [val_printZ] at this
  have C2 := Lib.hid c2
  have hb := Below.refl w.heap.size w
  clear c2 hl
  generalize printZ n = P at *
  go_enter Tryz.func80, Tryz.ntmps80
  go_wp2_with fail
  ((with_reducible refine (C1.out.of hG hb).mono ?_); rintro e w2 ⟨rfl, hb2⟩)
  replace hb := bto hb hb2
  go_wp2_with fail
  ((with_reducible refine (C2.out.of hG hb).mono ?_); rintro e w3 ⟨rfl, hb3⟩)
  go_wp2
  go_ret
  exact ⟨rfl, bto hb hb3⟩
end Go.Proofs.YtmjglcgdcclinaaGreatDoor
