/- Plain arithmetic of long division: the state between two groups of the quotient, the guess, subtraction, adding back. No program in sight. -/
import Derived.Test.YtjhafnnfkaejgaaGreatDoorNumb
namespace Go.Proofs.YtjhafnnfkaejgaaGreatDoor
namespace Num

/-- t groups of the quotient are left; A: what is left of the dividend; qs: the groups that are there -/
def DInv (A qs : List Nat) (L k t b a0 : Nat) : Prop := A.length = L ∧ small A ∧ gv (A.drop t) < b ∧ gv A + b * (BASE ^ t * gv qs) = a0 ∧ qs.length + t + k = L ∧ small qs

theorem pow_base_pos (k : Nat) : 0 < BASE ^ k := Nat.pow_pos (by decide)
theorem lt_pow_len (b : Nat) : b < BASE ^ (grp b).length := lt_grp_len b
theorem pow_le_of_len {b k : Nat} (hk : (grp b).length = k) (h1 : 1 ≤ k) : BASE ^ (k - 1) ≤ b := by
  have h0 : grp b ≠ [] := by intro e; rw [e] at hk; simp at hk; omega
  have := gv_ge _ (grp_norm b) h0
  rwa [gv_grp, hk] at this

theorem DInv.start {a0 b k : Nat} (hk : (grp b).length = k) (hk2 : 2 ≤ k) (hba : b ≤ a0) :
    DInv (grp a0 ++ [0, 0]) [] ((grp a0).length + 2) k ((grp a0).length + 2 - k) b a0 := by
  have hkl : k ≤ (grp a0).length := by rw [← hk]; exact grp_len_mono b a0 hba
  refine ⟨by simp, small_append (grp_small a0) (fun x hx => by simp at hx; subst hx; decide), ?_, ?_, by simp; omega, fun x hx => by simp at hx⟩
  · rw [List.drop_append, show (grp a0).length + 2 - k - (grp a0).length = 0 by omega, List.drop_zero, gv_append]
    simp only [gv, Nat.mul_zero, Nat.add_zero]
    have h1 := gv_lt _ (small_drop (grp_small a0) ((grp a0).length + 2 - k))
    rw [List.length_drop, show (grp a0).length - ((grp a0).length + 2 - k) = k - 2 by omega] at h1
    have h2 := pow_le_of_len hk (by omega)
    have h3 : BASE ^ (k - 2) ≤ BASE ^ (k - 1) := Nat.pow_le_pow_right (by decide) (by omega)
    omega
  · rw [gv_append]; simp [gv, gv_grp]

theorem gv_zero_of_lt {l : List Nat} {k : Nat} (h : gv l < BASE ^ k) (hk : k ≤ l.length) : gv (l.drop k) = 0 := by
  have h1 := gv_split l k hk
  rcases Nat.eq_zero_or_pos (gv (l.drop k)) with h2 | h2
  · exact h2
  · have : BASE ^ k * 1 ≤ BASE ^ k * gv (l.drop k) := Nat.mul_le_mul_left _ h2
    omega

/-- three groups of a list from place i on -/
theorem gv_three {l : List Nat} {i x y z : Nat} (hx : l[i]? = some x) (hy : l[i + 1]? = some y) (hz : l[i + 2]? = some z) : gv (l.drop i) = x + BASE * (y + BASE * (z + BASE * gv (l.drop (i + 3)))) := by
  obtain ⟨h1, rfl⟩ := List.getElem?_eq_some_iff.1 hx
  obtain ⟨h2, rfl⟩ := List.getElem?_eq_some_iff.1 hy
  obtain ⟨h3, rfl⟩ := List.getElem?_eq_some_iff.1 hz
  rw [gv_drop l i h1, gv_drop l (i + 1) h2, gv_drop l (i + 2) h3]
theorem gv_two {l : List Nat} {i x y : Nat} (hx : l[i]? = some x) (hy : l[i + 1]? = some y) : gv (l.drop i) = x + BASE * (y + BASE * gv (l.drop (i + 2))) := by
  obtain ⟨h1, rfl⟩ := List.getElem?_eq_some_iff.1 hx
  obtain ⟨h2, rfl⟩ := List.getElem?_eq_some_iff.1 hy
  rw [gv_drop l i h1, gv_drop l (i + 1) h2]

theorem DInv.beyond {A qs : List Nat} {L k j b a0 : Nat} (h : DInv A qs L k (j + 1) b a0) (hb : b < BASE ^ k) : gv (A.drop (j + k + 1)) = 0 := by
  obtain ⟨h1, h2, h3, h4, h5, h6⟩ := h
  have := gv_zero_of_lt (l := A.drop (j + 1)) (k := k) (by omega) (by rw [List.length_drop]; omega)
  rwa [List.drop_drop, show j + 1 + k = j + k + 1 by omega] at this
/-- the three highest groups of what is divided -/
theorem DInv.tops {A qs : List Nat} {L k j b a0 uh um ul : Nat} (h : DInv A qs L k (j + 1) b a0) (hb : b < BASE ^ k) (hk : 2 ≤ k)
    (huh : A[j + k]? = some uh) (hum : A[j + k - 1]? = some um) (hul : A[j + k - 2]? = some ul) :
    gv (A.drop j) = ((uh * BASE + um) * BASE + ul) * BASE ^ (k - 2) + gv ((A.drop j).take (k - 2)) ∧ gv ((A.drop j).take (k - 2)) < BASE ^ (k - 2) := by
  have hz := h.beyond hb
  obtain ⟨h1, h2, h3, h4, h5, h6⟩ := h
  have hl : (A.drop j).length = L - j := by rw [List.length_drop, h1]
  constructor
  · rw [gv_split (A.drop j) (k - 2) (by omega), List.drop_drop]
    have e1 : j + (k - 2) = j + k - 2 := by omega
    rw [e1, gv_three hul (by rw [show j + k - 2 + 1 = j + k - 1 by omega]; exact hum) (by rw [show j + k - 2 + 2 = j + k by omega]; exact huh), show j + k - 2 + 3 = j + k + 1 by omega, hz]
    rw [Nat.mul_zero, Nat.add_zero, Nat.mul_comm (BASE ^ (k - 2)), Nat.mul_add BASE um, Nat.add_comm]
    congr 2
    rw [Nat.mul_comm uh BASE, Nat.mul_comm _ BASE, Nat.mul_add BASE]
    omega
  · have := gv_lt _ (small_take (small_drop h2 j) (k - 2))
    rw [List.length_take, hl, Nat.min_eq_left (by omega)] at this
    exact this
/-- the two highest groups of the divisor -/
theorem div_tops {b k bh bm : Nat} (hk : (grp b).length = k) (hk2 : 2 ≤ k) (hbh : (grp b)[k - 1]? = some bh) (hbm : (grp b)[k - 2]? = some bm) :
    b = (bh * BASE + bm) * BASE ^ (k - 2) + gv ((grp b).take (k - 2)) ∧ gv ((grp b).take (k - 2)) < BASE ^ (k - 2) ∧ 1 ≤ bh := by
  have h1 := gv_split (grp b) (k - 2) (by omega)
  rw [gv_grp, gv_two hbm (by rw [show k - 2 + 1 = k - 1 by omega]; exact hbh), List.drop_of_length_le (by omega)] at h1
  simp only [gv, Nat.mul_zero, Nat.add_zero] at h1
  have h2 := gv_lt _ (small_take (grp_small b) (k - 2))
  rw [List.length_take, hk, Nat.min_eq_left (by omega)] at h2
  refine ⟨?_, h2, ?_⟩
  · have e : BASE ^ (k - 2) * (bm + BASE * bh) = (bh * BASE + bm) * BASE ^ (k - 2) := by rw [Nat.mul_comm, Nat.add_comm bm, Nat.mul_comm BASE bh]
    omega
  · have hn := grp_norm b
    unfold norm at hn
    rw [List.getLast?_eq_getElem?, hk, hbh] at hn
    simp at hn; omega

theorem div_big {b bh bm P r : Nat} (h : b = (bh * BASE + bm) * P + r) (h1 : 1 ≤ bh) : BASE * P ≤ b := by
  have h4 : BASE ≤ bh * BASE + bm := Nat.le_trans (Nat.le_mul_of_pos_left BASE h1) (Nat.le_add_right _ _)
  rw [h]
  exact Nat.le_trans (Nat.mul_le_mul_right P h4) (Nat.le_add_right _ _)
theorem scaled_div {x y s : Nat} (hs : 1 ≤ s) : x * s / (y * s) = x / y := Nat.mul_div_mul_right _ _ (by omega)
theorem scaled_mod {x y s : Nat} (hs : 1 ≤ s) : x * s % (y * s) / s = x % y := by rw [Nat.mul_mod_mul_right, Nat.mul_div_cancel _ (by omega)]
/-- the guess that passes the test, and is the greatest that does -/
def Guess (u v g : Nat) : Prop := g ≤ 999999999 ∧ ∀ G, G ≤ 999999999 → G * v ≤ u → G ≤ g
theorem Guess.start {top ul bh bm : Nat} (hbh : 1 ≤ bh) : Guess (top * BASE + ul) (bh * BASE + bm) (min (top / bh) 999999999) ∨ ul ≥ BASE := by
  by_cases hu : ul < BASE
  · left
    refine ⟨Nat.min_le_right _ _, fun G hG h => ?_⟩
    refine Nat.le_min.2 ⟨?_, hG⟩
    rw [Nat.le_div_iff_mul_le (by omega)]
    rcases Nat.lt_or_ge top (G * bh) with h1 | h1
    · have h2 : (top + 1) * BASE ≤ G * bh * BASE := Nat.mul_le_mul_right _ h1
      rw [Nat.add_mul] at h2
      have h3 : G * (bh * BASE + bm) = G * bh * BASE + G * bm := by rw [Nat.mul_add, Nat.mul_assoc]
      omega
    · exact h1
  · right; omega
theorem Guess.down {top ul bh bm g : Nat} (h : Guess (top * BASE + ul) (bh * BASE + bm) g) (hle : g * bh ≤ top) (hbad : (top - g * bh) * BASE + ul < g * bm) : 1 ≤ g ∧ Guess (top * BASE + ul) (bh * BASE + bm) (g - 1) := by
  have hg : 1 ≤ g := by
    rcases Nat.eq_zero_or_pos g with h0 | h0
    · subst h0; simp at hbad
    · exact h0
  refine ⟨hg, by have := h.1; omega, fun G hG h1 => ?_⟩
  have h2 := h.2 G hG h1
  rcases Nat.lt_or_ge G g with h3 | h3
  · omega
  · have : G = g := by omega
    subst this
    have e : G * (bh * BASE + bm) = G * bh * BASE + G * bm := by rw [Nat.mul_add, Nat.mul_assoc]
    have e2 : (top - G * bh) * BASE = top * BASE - G * bh * BASE := Nat.sub_mul _ _ _
    have e3 : G * bh * BASE ≤ top * BASE := Nat.mul_le_mul_right _ hle
    omega
theorem guess_good {top ul bh bm g : Nat} (hle : g * bh ≤ top) (hok : g * bm ≤ (top - g * bh) * BASE + ul) : g * (bh * BASE + bm) ≤ top * BASE + ul := by
  have e : g * (bh * BASE + bm) = g * bh * BASE + g * bm := by rw [Nat.mul_add, Nat.mul_assoc]
  have e2 : (top - g * bh) * BASE = top * BASE - g * bh * BASE := Nat.sub_mul _ _ _
  have e3 : g * bh * BASE ≤ top * BASE := Nat.mul_le_mul_right _ hle
  omega
/-- a guess that passes is right, or one too many -/
theorem Guess.fin {U b u v g P ul vl : Nat} (h : Guess u v g) (hg : g * v ≤ u) (hU : U = u * P + ul) (hV : b = v * P + vl) (hul : ul < P) (hvl : vl < P) (hb : BASE * P ≤ b) (hUb : U < BASE * b) :
    (g * b ≤ U → U - g * b < b) ∧ (U < g * b → 1 ≤ g ∧ (g - 1) * b ≤ U ∧ U - (g - 1) * b < b) := by
  have hb0 : 0 < b := by
    have : 0 < P := by omega
    have : BASE * 1 ≤ BASE * P := Nat.mul_le_mul_left _ this
    unfold BASE at *; omega
  have hQ : U / b ≤ 999999999 := by
    have : U / b < BASE := (Nat.div_lt_iff_lt_mul hb0).2 hUb
    unfold BASE at this; omega
  have h1 := guess_ge U b u v P ul vl (U / b) hU hV hul (Nat.div_mul_le_self U b)
  have h2 := h.2 _ hQ h1
  have h3 := guess_le U b u v P ul vl g hU hV hvl hg (by have := h.1; unfold BASE; omega) hb
  have h4 := Nat.lt_succ_iff.2 h2
  have h5 : U < (g + 1) * b := by
    have := (Nat.div_lt_iff_lt_mul hb0).1 h4
    exact this
  rw [Nat.add_mul] at h5
  refine ⟨fun h => by omega, fun h => ?_⟩
  have hg1 : 1 ≤ g := by
    rcases Nat.eq_zero_or_pos g with h0 | h0
    · subst h0; simp at h
    · exact h0
  have e : (g - 1) * b = g * b - b := by rw [Nat.sub_mul, Nat.one_mul]
  exact ⟨hg1, by omega, by omega⟩

/-! The row of the dividend while groups from place j on are put anew. -/
def rowJ (A : List Nat) (j : Nat) (ps : List Nat) (r : Nat) : List Nat := A.take j ++ (ps ++ A.drop (j + r))
theorem rowJ_zero (A : List Nat) (j : Nat) : rowJ A j [] 0 = A := by simp [rowJ]
theorem rowJ_len {A ps : List Nat} {j r : Nat} (hp : ps.length = r) (hj : j + r ≤ A.length) : (rowJ A j ps r).length = A.length := by
  simp [rowJ]; omega
theorem rowJ_at {A ps : List Nat} {j r s : Nat} (hp : ps.length = r) (hj : j + r ≤ A.length) (hs : r ≤ s) : (rowJ A j ps r)[j + s]? = A[j + s]? := by
  unfold rowJ
  rw [List.getElem?_append_right (by simp; omega), List.getElem?_append_right (by simp; omega), List.getElem?_drop]
  congr 1
  simp; omega
theorem rowJ_in {A ps : List Nat} {j r s : Nat} (hp : ps.length = r) (hj : j + r ≤ A.length) (hs : s < r) : (rowJ A j ps r)[j + s]? = ps[s]? := by
  unfold rowJ
  rw [List.getElem?_append_right (by simp; omega), List.getElem?_append_left (by simp; omega)]
  congr 1
  simp; omega
theorem rowJ_set {A ps : List Nat} {j r : Nat} (hp : ps.length = r) (hj : j + r < A.length) (y : Nat) : (rowJ A j ps r).set (j + r) y = rowJ A j (ps ++ [y]) (r + 1) := by
  unfold rowJ
  have e : (A.drop (j + r)).set 0 y = y :: A.drop (j + (r + 1)) := by rw [List.drop_eq_getElem_cons hj]; rfl
  rw [List.set_append_right _ _ (by simp; omega), List.length_take, Nat.min_eq_left (by omega), List.set_append_right _ _ (by omega), show j + r - j - ps.length = 0 by omega, e]
  simp
theorem rowJ_rowJ {A ps X : List Nat} {j k : Nat} (hp : ps.length = k) (hj : j + k ≤ A.length) : rowJ (rowJ A j ps k) j X (k + 1) = rowJ A j X (k + 1) := by
  unfold rowJ
  have e1 : (A.take j ++ (ps ++ A.drop (j + k))).take j = A.take j := by
    rw [List.take_append_of_le_length (by simp; omega), List.take_of_length_le (by simp; omega)]
  have e2 : (A.take j ++ (ps ++ A.drop (j + k))).drop (j + (k + 1)) = A.drop (j + (k + 1)) := by
    rw [List.drop_append, List.drop_of_length_le (by simp; omega), List.nil_append, List.drop_append, List.drop_of_length_le (by simp; omega), List.nil_append, List.drop_drop]
    congr 1
    simp; omega
  rw [e1, e2]

/-- r groups of the guess times the divisor are subtracted; br is borrowed -/
def SubAt (D B : List Nat) (g : Nat) (ps : List Nat) (r br : Nat) : Prop := ps.length = r ∧ small ps ∧ br ≤ 999999999 ∧ gv ps + g * gv (B.take r) = gv (D.take r) + BASE ^ r * br
theorem SubAt.step {D B ps : List Nat} {g r br x y x' br' : Nat} (h : SubAt D B g ps r br) (hx : D[r]? = some x) (hy : B[r]? = some y) (hx' : x' < BASE) (hbr : br' ≤ 999999999) (he : x' + (g * y + br) = x + BASE * br') : SubAt D B g (ps ++ [x']) (r + 1) br' := by
  obtain ⟨h1, h2, h3, h4⟩ := h
  refine ⟨by simp [h1], small_snoc h2 hx', hbr, ?_⟩
  rw [gv_snoc, h1, gv_take_of hx, gv_take_of hy, Nat.pow_succ, Nat.mul_add]
  have e : BASE ^ r * x' + (BASE ^ r * (g * y) + BASE ^ r * br) = BASE ^ r * x + BASE ^ r * BASE * br' := by
    rw [← Nat.mul_add, ← Nat.mul_add, he, Nat.mul_add, Nat.mul_assoc]
  have e2 : g * (BASE ^ r * y) = BASE ^ r * (g * y) := by rw [← Nat.mul_assoc, Nat.mul_comm g, Nat.mul_assoc]
  omega

/-- the next state, where the new groups have the value that is left -/
theorem DInv.next {A qs ps : List Nat} {L k j b a0 Q : Nat} (h : DInv A qs L k (j + 1) b a0) (hb : b < BASE ^ k) (hp : ps.length = k + 1) (hs : small ps) (hv : gv ps + Q * b = gv (A.drop j)) (hlt : gv ps < b) (hQ : Q < BASE) :
    DInv (rowJ A j ps (k + 1)) (Q :: qs) L k j b a0 := by
  have hz := h.beyond hb
  obtain ⟨h1, h2, h3, h4, h5, h6⟩ := h
  have hjl : j + (k + 1) ≤ A.length := by omega
  have hd : gv ((rowJ A j ps (k + 1)).drop j) = gv ps := by
    have e : (rowJ A j ps (k + 1)).drop j = ps ++ A.drop (j + (k + 1)) := by
      unfold rowJ
      rw [List.drop_append, List.drop_of_length_le (by simp; omega), List.nil_append, List.length_take, Nat.min_eq_left (by omega), Nat.sub_self, List.drop_zero]
    rw [e, gv_append, show j + (k + 1) = j + k + 1 by omega, hz]; simp
  refine ⟨by rw [rowJ_len hp hjl, h1], ?_, by rw [hd]; exact hlt, ?_, by simp; omega, ?_⟩
  · unfold rowJ
    exact small_append (small_take h2 _) (small_append hs (small_drop h2 _))
  · have e1 : gv (rowJ A j ps (k + 1)) = gv (A.take j) + BASE ^ j * gv ps := by
      have h7 := gv_split (rowJ A j ps (k + 1)) j (by rw [rowJ_len hp hjl]; omega)
      rw [hd] at h7
      have e2 : (rowJ A j ps (k + 1)).take j = A.take j := by
        unfold rowJ
        rw [List.take_append_of_le_length (by simp; omega), List.take_of_length_le (by simp; omega)]
      rw [e2] at h7
      exact h7
    have h8 := gv_split A j (by omega)
    rw [e1]
    rw [h8] at h4
    rw [← h4, ← hv]
    simp only [gv]
    have e3 : b * (BASE ^ j * (Q + BASE * gv qs)) = BASE ^ j * (Q * b) + b * (BASE ^ (j + 1) * gv qs) := by
      rw [Nat.mul_add, Nat.mul_add, Nat.pow_succ, Nat.mul_assoc]
      congr 1
      rw [Nat.mul_comm b, Nat.mul_assoc]
    rw [e3, Nat.mul_add (BASE ^ j)]
    omega
  · intro x hx
    rcases List.mem_cons.1 hx with rfl | hx
    · exact hQ
    · exact h6 x hx
theorem DInv.lt {A qs : List Nat} {L k j b a0 : Nat} (h : DInv A qs L k (j + 1) b a0) : gv (A.drop j) < BASE * b := by
  obtain ⟨h1, h2, h3, h4, h5, h6⟩ := h
  have hj : j < A.length := by omega
  rw [gv_drop A j hj]
  have h7 : A[j] < BASE := h2 _ (List.getElem_mem hj)
  have h8 : BASE * (gv (A.drop (j + 1)) + 1) ≤ BASE * b := Nat.mul_le_mul_left _ h3
  rw [Nat.mul_add] at h8
  omega
theorem DInv.split_top {A qs : List Nat} {L k j b a0 uh : Nat} (h : DInv A qs L k (j + 1) b a0) (hb : b < BASE ^ k) (huh : A[j + k]? = some uh) : gv (A.drop j) = gv ((A.drop j).take k) + BASE ^ k * uh := by
  have hz := h.beyond hb
  obtain ⟨h1, h2, h3, h4, h5, h6⟩ := h
  obtain ⟨hl, he⟩ := List.getElem?_eq_some_iff.1 huh
  rw [gv_split (A.drop j) k (by rw [List.length_drop]; omega), List.drop_drop, gv_drop A (j + k) hl, he, hz, Nat.mul_zero, Nat.add_zero]
theorem round1 {A qs B ps : List Nat} {L k j b a0 uh g br : Nat} (h : DInv A qs L k (j + 1) b a0) (hb : b < BASE ^ k) (hB : gv B = b) (hBl : B.length = k) (hs : SubAt (A.drop j) B g ps k br) (huh : A[j + k]? = some uh) (hle : br ≤ uh)
    (hfin : g * b ≤ gv (A.drop j) → gv (A.drop j) - g * b < b) (hg : g ≤ 999999999) : DInv (rowJ A j (ps ++ [uh - br]) (k + 1)) (g :: qs) L k j b a0 := by
  have hU := h.split_top hb huh
  have huhb : uh < BASE := h.2.1 uh (List.mem_of_getElem? huh)
  obtain ⟨s1, s2, s3, s4⟩ := hs
  rw [List.take_of_length_le (by omega), hB] at s4
  have e : BASE ^ k * (uh - br) + BASE ^ k * br = BASE ^ k * uh := by rw [← Nat.mul_add, Nat.sub_add_cancel hle]
  have hv : gv (ps ++ [uh - br]) + g * b = gv (A.drop j) := by rw [gv_snoc, s1]; omega
  exact h.next hb (by simp [s1]) (small_snoc s2 (by omega)) hv (by have := hfin (by omega); omega) (by unfold BASE; omega)
theorem round2 {A qs B ps : List Nat} {L k j b a0 uh g br : Nat} (h : DInv A qs L k (j + 1) b a0) (hb : b < BASE ^ k) (hB : gv B = b) (hBl : B.length = k) (hs : SubAt (A.drop j) B g ps k br) (huh : A[j + k]? = some uh) (hlt : uh < br) : gv (A.drop j) < g * b := by
  have hU := h.split_top hb huh
  obtain ⟨s1, s2, s3, s4⟩ := hs
  rw [List.take_of_length_le (by omega), hB] at s4
  have h1 := gv_lt ps s2
  rw [s1] at h1
  have e : BASE ^ k * (uh + 1) ≤ BASE ^ k * br := Nat.mul_le_mul_left _ hlt
  rw [Nat.mul_add] at e
  omega
theorem round3 {A qs B ps ps2 : List Nat} {L k j b a0 uh g br cy : Nat} (h : DInv A qs L k (j + 1) b a0) (hb : b < BASE ^ k) (hB : gv B = b) (hBl : B.length = k) (hs : SubAt (A.drop j) B g ps k br) (huh : A[j + k]? = some uh) (hlt : uh < br)
    (hg1 : 1 ≤ g) (hle : (g - 1) * b ≤ gv (A.drop j)) (hfin : gv (A.drop j) - (g - 1) * b < b) (hg : g ≤ 999999999) (hl2 : ps2.length = k) (hs2 : small ps2) (hcy : cy ≤ 1) (hv2 : gv ps2 + BASE ^ k * cy = gv ps + b) :
    br ≤ uh + cy ∧ DInv (rowJ A j (ps2 ++ [uh + cy - br]) (k + 1)) ((g - 1) :: qs) L k j b a0 := by
  have hU := h.split_top hb huh
  obtain ⟨s1, s2, s3, s4⟩ := hs
  rw [List.take_of_length_le (by omega), hB] at s4
  have h1 := gv_lt ps2 hs2
  rw [hl2] at h1
  have e1 : (g - 1) * b + b = g * b := by
    obtain ⟨g', rfl⟩ : ∃ g', g = g' + 1 := ⟨g - 1, by omega⟩
    rw [Nat.add_sub_cancel, Nat.add_mul, Nat.one_mul]
  have e2 : BASE ^ k * (uh + cy) = BASE ^ k * uh + BASE ^ k * cy := Nat.mul_add _ _ _
  have hbr : br ≤ uh + cy := by
    rcases Nat.lt_or_ge (uh + cy) br with h3 | h3
    · have e : BASE ^ k * (uh + cy + 1) ≤ BASE ^ k * br := Nat.mul_le_mul_left _ h3
      rw [Nat.mul_add _ _ 1] at e
      omega
    · exact h3
  refine ⟨hbr, ?_⟩
  have e3 : BASE ^ k * (uh + cy - br) + BASE ^ k * br = BASE ^ k * (uh + cy) := by rw [← Nat.mul_add, Nat.sub_add_cancel hbr]
  have hv : gv (ps2 ++ [uh + cy - br]) + (g - 1) * b = gv (A.drop j) := by rw [gv_snoc, hl2]; omega
  exact h.next hb (by simp [hl2]) (small_snoc hs2 (by unfold BASE; omega)) hv (by omega) (by unfold BASE; omega)
/-- the end -/
theorem DInv.fin {A qs : List Nat} {L k b a0 : Nat} (h : DInv A qs L k 0 b a0) (hb : b < BASE ^ k) : gv qs = a0 / b ∧ gv (A.take k) = a0 % b ∧ small qs ∧ small (A.take k) := by
  obtain ⟨h1, h2, h3, h4, h5, h6⟩ := h
  rw [List.drop_zero] at h3
  simp only [Nat.pow_zero, Nat.one_mul] at h4
  have h7 := gv_split A k (by omega)
  rw [gv_zero_of_lt (l := A) (by omega) (by omega), Nat.mul_zero, Nat.add_zero] at h7
  refine ⟨?_, ?_, h6, small_take h2 k⟩
  · rw [← h4, Nat.add_mul_div_left _ _ (by omega), Nat.div_eq_of_lt h3, Nat.zero_add]
  · rw [← h7, ← h4, Nat.add_mul_mod_self_left, Nat.mod_eq_of_lt h3]
end Num
end Go.Proofs.YtjhafnnfkaejgaaGreatDoor
