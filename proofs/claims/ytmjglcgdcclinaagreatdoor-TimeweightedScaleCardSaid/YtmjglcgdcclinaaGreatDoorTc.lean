/- Rows of points and of fractions: cloned, written, compared. -/
import Derived.Shelf.SlicesE.Clone
import Derived.Laws.StructEq
import Derived.Test.YtmjglcgdcclinaaGreatDoorTa
namespace Go.Proofs
open Go.Shelf
def Tryz.clonePnt_ren : Go.Shelf.Ren := ⟨fun | 41 => 33 | n => n, fun | 22 => 39 | 23 => 50 | 4 => 4 | n => n, fun | n => n⟩
theorem Tryz.clonePnt : Go.Proofs.SlLaysE0.n41 Tryz.prog Tryz.clonePnt_ren := {
  mixed := by kernel_rfl
  f41 := ⟨Tryz.f33.name, by decide, Tryz.func33.trans (congrArg some (by kernel_rfl))⟩
  t4 := Tryz.underlying4
  a4 := Tryz.isAgg4
  z4 := Tryz.sizeOf4
  v4 := Tryz.zeroValue4
  t22 := Tryz.underlying39
  a22 := Tryz.isAgg39
  z22 := Tryz.sizeOf39
  v22 := Tryz.zeroValue39 }
end Go.Proofs
namespace Go.Proofs.YtmjglcgdcclinaaGreatDoor
open Go.RowKit Num
/-- a block whose first cells are these -/
def CRow (w : World) (g : Nat) (ty : TypeId) (cs : List Value) : Prop := ∃ cur : Array Value, w.heap[g]? = some (.cells cur ty (0, 0)) ∧ cur.toList.take cs.length = cs ∧ cs.length ≤ cur.size
section
variable {w w' : World} {g b i : Nat} {ty : TypeId} {cs : List Value} {u v : Value}
theorem CRow.lt (h : CRow w g ty cs) : g < w.heap.size := by obtain ⟨cur, h, -⟩ := h; exact (Array.getElem?_eq_some_iff.1 h).1
theorem CRow.below (h : CRow w g ty cs) (hb : Below w.heap.size w w') : CRow w' g ty cs := by
  have hl := h.lt
  obtain ⟨cur, h, h2⟩ := h
  exact ⟨cur, (hb.block g hl).trans h, h2⟩
theorem CRow.far (h : CRow w g ty cs) (hn : g ≠ b) : CRow (w.setCell ⟨b, i, none⟩ u) g ty cs := by
  obtain ⟨cur, h, h2⟩ := h
  exact ⟨cur, (Below.heap_setCell w ⟨b, i, none⟩ u g hn).trans h, h2⟩
theorem CRow.cell (h : CRow w g ty cs) (hx : cs[i]? = some v) : w.cell? ⟨g, i, none⟩ = some v := by
  obtain ⟨cur, hh, ht, hs⟩ := h
  have hi := (List.getElem?_eq_some_iff.1 hx).1
  rw [blk_cell hh, ← hx, ← ht, List.getElem?_take, if_pos hi, Array.getElem?_toList]
theorem CRow.free (h : CRow w g ty cs) (j : Nat) : w.frozen? ⟨g, j, none⟩ = false := by
  obtain ⟨cur, hh, -⟩ := h
  exact blk_frozen hh j
theorem CRow.set (h : CRow w g ty cs) (i : Nat) (u : Value) : CRow (w.setCell ⟨g, i, none⟩ u) g ty (cs.set i u) := by
  obtain ⟨cur, hh, ht, hs⟩ := h
  refine ⟨cur.setIfInBounds i u, ?_, ?_, by simpa using hs⟩
  · obtain ⟨hlt, hk⟩ := Array.getElem?_eq_some_iff.1 hh
    show (w.heap.modify g _)[g]? = _
    rw [Array.getElem?_eq_getElem (by rw [Array.size_modify]; exact hlt), Array.getElem_modify_self, hk]
    simp
  · rw [List.length_set, Array.toList_setIfInBounds, List.take_set, ht]
end
theorem own_crow {w : World} {base n c sz : Nat} {ty : TypeId} {A : Option Addr} {cs : List Value} (h : w.ownsRow base ty sz (.slice A n c) n cs) (hn : cs.length = n * sz) (h0 : 0 < n) : ∃ g, A = some ⟨g, 0, none⟩ ∧ base ≤ g ∧ CRow w g ty cs := by
  rcases h.2 with ⟨hv, h1⟩ | ⟨g, cap, cur, hv, hb, hh, hcap, _, hsz, htk⟩
  · omega
  · injection hv with h1 _ h3
    subst h1 h3
    refine ⟨g, rfl, hb, cur, hh, by rw [hn]; exact htk, ?_⟩
    rw [hn, hsz]; exact Nat.mul_le_mul_right sz hcap
def rowsQ (xs : List Pnt) : List Value := xs.flatMap (fun t => [.int .i64 t.day, .string ⟨t.vl.toArray⟩, .string ⟨t.fl.toArray⟩])
theorem rowsQ_cons (t : Pnt) (xs : List Pnt) : rowsQ (t :: xs) = .int .i64 t.day :: .string ⟨t.vl.toArray⟩ :: .string ⟨t.fl.toArray⟩ :: rowsQ xs := rfl
theorem rowsQ_len : ∀ xs : List Pnt, (rowsQ xs).length = xs.length * 3
  | [] => rfl
  | x :: xs => by rw [rowsQ_cons]; simp only [List.length_cons]; rw [rowsQ_len xs]; omega
theorem rowsQ_app (xs ys : List Pnt) : rowsQ (xs ++ ys) = rowsQ xs ++ rowsQ ys := List.flatMap_append
theorem rowsQ_one (xs : List Pnt) : ∀ u ∈ rowsQ xs, u.oneCell' = true := by
  intro u hu
  obtain ⟨x, -, hx⟩ := List.mem_flatMap.1 hu
  simp only [List.mem_cons, List.not_mem_nil, or_false] at hx
  rcases hx with rfl | rfl | rfl <;> rfl
theorem rowsQ_at : ∀ {xs : List Pnt} {i : Nat} {t : Pnt}, xs[i]? = some t → (rowsQ xs)[i * 3]? = some (.int .i64 t.day) ∧ (rowsQ xs)[i * 3 + 1]? = some (.string ⟨t.vl.toArray⟩) ∧ (rowsQ xs)[i * 3 + 2]? = some (.string ⟨t.fl.toArray⟩)
  | [], i, x, h => by simp at h
  | y :: xs, 0, x, h => by
    have : y = x := by simpa using h
    subst this; exact ⟨rfl, rfl, rfl⟩
  | y :: xs, i + 1, x, h => by
    have hh := rowsQ_at (xs := xs) (i := i) (t := x) (by simpa using h)
    rw [rowsQ_cons, show (i + 1) * 3 = i * 3 + 1 + 1 + 1 by omega]
    simpa [Nat.add_right_comm, Nat.add_assoc] using hh
theorem rowsQ_get : ∀ {xs : List Pnt} {j : Nat} {u : Value}, (rowsQ xs)[j]? = some u → ∃ t, xs[j / 3]? = some t ∧ u = if j % 3 = 0 then .int .i64 t.day else if j % 3 = 1 then .string ⟨t.vl.toArray⟩ else .string ⟨t.fl.toArray⟩
  | [], j, u, h => by simp [rowsQ] at h
  | y :: xs, 0, u, h => by
    rw [rowsQ_cons] at h
    exact ⟨y, rfl, by simpa using h.symm⟩
  | y :: xs, 1, u, h => by
    rw [rowsQ_cons] at h
    exact ⟨y, rfl, by simpa using h.symm⟩
  | y :: xs, 2, u, h => by
    rw [rowsQ_cons] at h
    exact ⟨y, rfl, by simpa using h.symm⟩
  | y :: xs, j + 3, u, h => by
    rw [rowsQ_cons] at h
    obtain ⟨x, h1, h2⟩ := rowsQ_get (xs := xs) (j := j) (by simpa using h)
    refine ⟨x, ?_, ?_⟩
    · rw [show (j + 3) / 3 = j / 3 + 1 by omega]; simpa using h1
    · rw [show (j + 3) % 3 = j % 3 by omega]; exact h2
theorem crow_pnt {w : World} {g : Nat} {ty : TypeId} {xs : List Pnt} (h : CRow w g ty (rowsQ xs)) : PntAt w (some ⟨g, 0, none⟩) xs := fun i t ht => by
  obtain ⟨h0, h1, h2⟩ := rowsQ_at ht
  exact ⟨g, 0, rfl, h.lt, by rw [Nat.zero_add]; exact h.cell h0, by rw [Nat.zero_add]; exact h.cell h1, by rw [Nat.zero_add]; exact h.cell h2⟩
/-- the two strings of a fraction -/
abbrev Fs := List UInt8 × List UInt8
def FsAt (w : World) (A : Option Addr) (ts : List Fs) : Prop := ∀ i t, ts[i]? = some t → ∃ b o, A = some ⟨b, o, none⟩ ∧ b < w.heap.size ∧ w.cell? ⟨b, o + i * 2, none⟩ = some (.string ⟨t.1.toArray⟩) ∧ w.cell? ⟨b, o + i * 2 + 1, none⟩ = some (.string ⟨t.2.toArray⟩)
theorem FsAt.below {w w' : World} {A : Option Addr} {ts : List Fs} (h : FsAt w A ts) (hb : Below w.heap.size w w') : FsAt w' A ts := fun i t ht => by
  obtain ⟨b, o, h0, h1, h2, h3⟩ := h i t ht
  exact ⟨b, o, h0, Nat.lt_of_lt_of_le h1 hb.size, (hb.cell (p := ⟨b, o + i * 2, none⟩) h1).trans h2, (hb.cell (p := ⟨b, o + i * 2 + 1, none⟩) h1).trans h3⟩
/-- the canonical strings of numbers -/
def frs (qs : List Rat) : List Fs := qs.map (fun q => (fN q, fD q))
def rowsF (xs : List Fs) : List Value := xs.flatMap (fun t => [.string ⟨t.1.toArray⟩, .string ⟨t.2.toArray⟩])
theorem rowsF_cons (t : Fs) (xs : List Fs) : rowsF (t :: xs) = .string ⟨t.1.toArray⟩ :: .string ⟨t.2.toArray⟩ :: rowsF xs := rfl
theorem rowsF_len : ∀ xs : List Fs, (rowsF xs).length = xs.length * 2
  | [] => rfl
  | x :: xs => by rw [rowsF_cons]; simp only [List.length_cons]; rw [rowsF_len xs]; omega
theorem rowsF_app (xs ys : List Fs) : rowsF (xs ++ ys) = rowsF xs ++ rowsF ys := List.flatMap_append
theorem rowsF_one (xs : List Fs) : ∀ u ∈ rowsF xs, u.oneCell' = true := by
  intro u hu
  obtain ⟨x, -, hx⟩ := List.mem_flatMap.1 hu
  simp only [List.mem_cons, List.not_mem_nil, or_false] at hx
  rcases hx with rfl | rfl <;> rfl
theorem rowsF_at : ∀ {xs : List Fs} {i : Nat} {t : Fs}, xs[i]? = some t → (rowsF xs)[i * 2]? = some (.string ⟨t.1.toArray⟩) ∧ (rowsF xs)[i * 2 + 1]? = some (.string ⟨t.2.toArray⟩)
  | [], i, x, h => by simp at h
  | y :: xs, 0, x, h => by
    have : y = x := by simpa using h
    subst this; exact ⟨rfl, rfl⟩
  | y :: xs, i + 1, x, h => by
    have hh := rowsF_at (xs := xs) (i := i) (t := x) (by simpa using h)
    rw [rowsF_cons, show (i + 1) * 2 = i * 2 + 1 + 1 by omega]
    simpa [Nat.add_right_comm, Nat.add_assoc] using hh
theorem rowsF_get : ∀ {xs : List Fs} {j : Nat} {u : Value}, (rowsF xs)[j]? = some u → ∃ t, xs[j / 2]? = some t ∧ u = if j % 2 = 0 then .string ⟨t.1.toArray⟩ else .string ⟨t.2.toArray⟩
  | [], j, u, h => by simp [rowsF] at h
  | y :: xs, 0, u, h => by
    rw [rowsF_cons] at h
    exact ⟨y, rfl, by simpa using h.symm⟩
  | y :: xs, 1, u, h => by
    rw [rowsF_cons] at h
    exact ⟨y, rfl, by simpa using h.symm⟩
  | y :: xs, j + 2, u, h => by
    rw [rowsF_cons] at h
    obtain ⟨x, h1, h2⟩ := rowsF_get (xs := xs) (j := j) (by simpa using h)
    refine ⟨x, ?_, ?_⟩
    · rw [show (j + 2) / 2 = j / 2 + 1 by omega]; simpa using h1
    · rw [show (j + 2) % 2 = j % 2 by omega]; exact h2
theorem crow_fs {w : World} {g : Nat} {ty : TypeId} {xs : List Fs} (h : CRow w g ty (rowsF xs)) : FsAt w (some ⟨g, 0, none⟩) xs := fun i t ht => by
  obtain ⟨h0, h1⟩ := rowsF_at ht
  exact ⟨g, 0, rfl, h.lt, by rw [Nat.zero_add]; exact h.cell h0, by rw [Nat.zero_add]; exact h.cell h1⟩
theorem info_pnt : (Tryz.prog.info? 50).map (fun i => (i.zero, i.size, i.bytes)) = some (some (.agg #[.int .i64 0, .string ⟨#[]⟩, .string ⟨#[]⟩]), 3, 40) := by kernel_rfl
theorem info_frac : (Tryz.prog.info? 32).map (fun i => (i.zero, i.size, i.bytes)) = some (some (.agg #[.string ⟨#[]⟩, .string ⟨#[]⟩]), 2, 32) := by kernel_rfl
set_option maxRecDepth 100000 in
theorem cloneQ (A : Option Addr) (ps : List Pnt) (n c : Nat) (w : World) (hn : ps.length = n) (h0 : 0 < n) (hn2 : n ≤ 1000000) (h : PntAt w A ps) :
    Calls Tryz.prog 33 #[.slice A n c] w fun e w' => ∃ g cp, e = .returned (.slice (some ⟨g, 0, none⟩) n cp) ∧ n ≤ cp ∧ cp ≤ 9223372036854775807 ∧ w.heap.size ≤ g ∧ w'.ownsRow w.heap.size 50 3 (.slice (some ⟨g, 0, none⟩) n cp) n (rowsQ ps) ∧ CRow w' g 50 (rowsQ ps) ∧ Below w.heap.size w w' := by
  obtain ⟨x0, hx0⟩ : ∃ x, ps[0]? = some x := ⟨_, List.getElem?_eq_getElem (by omega)⟩
  obtain ⟨b, o, rfl, hbs, -⟩ := h 0 x0 hx0
  obtain ⟨i0, e0, e1, e2, e3⟩ := info_parts info_pnt
  refine (AnyE.slices_Clone Tryz.clonePnt i0 _ 3 40 e0 e1 e2 e3 rfl (by decide) Tryz.sizeOf50 b o n c (rowsQ ps) w (by rw [rowsQ_len, hn]) (by unfold maxLen; omega) (by omega) (fun j u hu => ?_) (rowsQ_one ps)).mono ?_
  · obtain ⟨x, h1, h2⟩ := rowsQ_get hu
    obtain ⟨b', o', hA, -, hc1, hc2, hc3⟩ := h (j / 3) x h1
    cases hA
    by_cases hj : j % 3 = 0
    · rw [if_pos hj] at h2
      rw [h2, show o + j = o + j / 3 * 3 by omega]; exact hc1
    · rw [if_neg hj] at h2
      by_cases hj : j % 3 = 1
      · rw [if_pos hj] at h2
        rw [h2, show o + j = o + j / 3 * 3 + 1 by omega]; exact hc2
      · rw [if_neg hj] at h2
        rw [h2, show o + j = o + j / 3 * 3 + 2 by omega]; exact hc3
  · rintro e w' ⟨v, rfl, hown, -, hb⟩
    have hown' : w'.ownsRow w.heap.size 50 3 v n (rowsQ ps) := hown
    obtain ⟨B, cp, rfl, hcp, hcm⟩ : ∃ A c, v = .slice A n c ∧ n ≤ c ∧ c ≤ 9223372036854775807 := by
      rcases hown'.2 with ⟨hv, h1⟩ | ⟨g, cap, cur, hv, _, _, hcap, hmx, _⟩
      · omega
      · exact ⟨_, _, hv, hcap, by first | exact hmx | (unfold maxLen at hmx; exact hmx) | omega⟩
    obtain ⟨g, rfl, hg, hr⟩ := own_crow hown' (by rw [rowsQ_len, hn]) h0
    exact ⟨g, cp, rfl, hcp, hcm, hg, hown', hr, hb⟩
theorem eqf_step {P : Program} {w : World} {d : Nat} {xs ys : Array Value} {f : Field} {fs : List Field} {a b : Value} {r B : Bool} (hn : f.name ≠ "_") (h1 : (part f.type xs f.offset).run P w = .ok a w) (h2 : (part f.type ys f.offset).run P w = .ok b w) (h3 : (Op.equalIn d f.type a b).run P w = .ok r w) (h4 : (Op.eqFields d xs ys fs).run P w = .ok B w) :
    (Op.eqFields d xs ys (f :: fs)).run P w = .ok (r && B) w := by
  unfold Op.eqFields
  rw [if_pos hn]
  simp only [Sem.run_bind, h1, h2, h3, Result.andThen_ok]
  cases r
  · simp
  · simp [h4]
theorem eqf_nil {P : Program} {w : World} {d : Nat} {xs ys : Array Value} : (Op.eqFields d xs ys []).run P w = .ok true w := by unfold Op.eqFields; simp
def sameQ (x y : Pnt) : Bool := (x.day == y.day) && ((x.vl == y.vl) && ((x.fl == y.fl) && true))
set_option maxRecDepth 100000 in
theorem eqQ1 (x y : Pnt) (w : World) : (Op.equalIn 10000 50 (.agg #[.int .i64 x.day, .string ⟨x.vl.toArray⟩, .string ⟨x.fl.toArray⟩]) (.agg #[.int .i64 y.day, .string ⟨y.vl.toArray⟩, .string ⟨y.fl.toArray⟩])).run Tryz.prog w = .ok (sameQ x y) w := by
  have hS : Tryz.prog.underlying 50 = some (.struct (Tryz.prog.fieldsOf 50)) := by kernel_rfl
  have hp : Tryz.prog.stoodInHeld 50 = false := by kernel_rfl
  rw [show (10000 : Nat) = 9999 + 1 from rfl, run_equalIn_agg w 9999 50 _ _ hS hp]
  simp only [Program.fieldsOf, Tryz.underlying50]
  unfold sameQ
  exact (eqf_step (by decide) (a := .int .i64 x.day) (b := .int .i64 y.day) (by go_simp) (by go_simp) (run_equalIn_int w 9998 _ _ _ _ _ Tryz.underlying29) (eqf_step (by decide) (a := .string ⟨x.vl.toArray⟩) (b := .string ⟨y.vl.toArray⟩) (by go_simp) (by go_simp) (by rw [run_equalIn_string w 9998 _ _ _ Tryz.underlying30]; simp) (eqf_step (by decide) (a := .string ⟨x.fl.toArray⟩) (b := .string ⟨y.fl.toArray⟩) (by go_simp) (by go_simp) (by rw [run_equalIn_string w 9998 _ _ _ Tryz.underlying30]; simp) eqf_nil)))
theorem guardQ : Tryz.prog.eqGuardType Tryz.prog.depth 50 = false := by kernel_rfl
def sameQs : List Pnt → List Pnt → Bool
  | [], [] => true
  | x :: xs, y :: ys => sameQ x y && sameQs xs ys
  | _, _ => false
theorem sameQs_len : ∀ {xs ys : List Pnt}, xs.length ≠ ys.length → sameQs xs ys = false
  | [], [], h => absurd rfl h
  | [], _ :: _, _ => rfl
  | _ :: _, [], _ => rfl
  | x :: xs, y :: ys, h => by
    have : sameQs xs ys = false := sameQs_len (fun e => h (by simp [e]))
    simp [sameQs, this]
theorem sameQs_self : ∀ xs : List Pnt, sameQs xs xs = true
  | [] => rfl
  | x :: xs => by simp [sameQs, sameQ, sameQs_self xs]
theorem sameQs_drop {xs ys : List Pnt} {k : Nat} {x y : Pnt} (hx : xs[k]? = some x) (hy : ys[k]? = some y) : sameQs (xs.drop k) (ys.drop k) = (sameQ x y && sameQs (xs.drop (k + 1)) (ys.drop (k + 1))) := by
  obtain ⟨h1, rfl⟩ := List.getElem?_eq_some_iff.1 hx
  obtain ⟨h2, rfl⟩ := List.getElem?_eq_some_iff.1 hy
  rw [List.drop_eq_getElem_cons h1, List.drop_eq_getElem_cons h2]; rfl
def sameF (x y : Fs) : Bool := (x.1 == y.1) && ((x.2 == y.2) && true)
set_option maxRecDepth 100000 in
theorem eqF1 (x y : Fs) (w : World) : (Op.equalIn 10000 32 (.agg #[.string ⟨x.1.toArray⟩, .string ⟨x.2.toArray⟩]) (.agg #[.string ⟨y.1.toArray⟩, .string ⟨y.2.toArray⟩])).run Tryz.prog w = .ok (sameF x y) w := by
  have hS : Tryz.prog.underlying 32 = some (.struct (Tryz.prog.fieldsOf 32)) := by kernel_rfl
  have hp : Tryz.prog.stoodInHeld 32 = false := by kernel_rfl
  rw [show (10000 : Nat) = 9999 + 1 from rfl, run_equalIn_agg w 9999 32 _ _ hS hp]
  simp only [Program.fieldsOf, Tryz.underlying32]
  unfold sameF
  exact (eqf_step (by decide) (a := .string ⟨x.1.toArray⟩) (b := .string ⟨y.1.toArray⟩) (by go_simp) (by go_simp) (by rw [run_equalIn_string w 9998 _ _ _ Tryz.underlying30]; simp) (eqf_step (by decide) (a := .string ⟨x.2.toArray⟩) (b := .string ⟨y.2.toArray⟩) (by go_simp) (by go_simp) (by rw [run_equalIn_string w 9998 _ _ _ Tryz.underlying30]; simp) eqf_nil))
theorem guardF : Tryz.prog.eqGuardType Tryz.prog.depth 32 = false := by kernel_rfl
def sameFs : List Fs → List Fs → Bool
  | [], [] => true
  | x :: xs, y :: ys => sameF x y && sameFs xs ys
  | _, _ => false
theorem sameFs_len : ∀ {xs ys : List Fs}, xs.length ≠ ys.length → sameFs xs ys = false
  | [], [], h => absurd rfl h
  | [], _ :: _, _ => rfl
  | _ :: _, [], _ => rfl
  | x :: xs, y :: ys, h => by
    have : sameFs xs ys = false := sameFs_len (fun e => h (by simp [e]))
    simp [sameFs, this]
theorem sameFs_self : ∀ xs : List Fs, sameFs xs xs = true
  | [] => rfl
  | x :: xs => by simp [sameFs, sameF, sameFs_self xs]
theorem sameFs_drop {xs ys : List Fs} {k : Nat} {x y : Fs} (hx : xs[k]? = some x) (hy : ys[k]? = some y) : sameFs (xs.drop k) (ys.drop k) = (sameF x y && sameFs (xs.drop (k + 1)) (ys.drop (k + 1))) := by
  obtain ⟨h1, rfl⟩ := List.getElem?_eq_some_iff.1 hx
  obtain ⟨h2, rfl⟩ := List.getElem?_eq_some_iff.1 hy
  rw [List.drop_eq_getElem_cons h1, List.drop_eq_getElem_cons h2]; rfl
set_option maxHeartbeats 4000000 in
set_option maxRecDepth 100000 in
theorem eqPnts (A B : Option Addr) (xs ys : List Pnt) (n m c c' : Nat) (w : World) (hn : xs.length = n) (hm : ys.length = m) (hn2 : n ≤ 1000000000) (hm2 : m ≤ 1000000000) (h : PntAt w A xs) (h' : PntAt w B ys) :
    Calls Tryz.prog 55 #[.slice A n c, .slice B m c'] w fun e w' => e = .returned (.bool (sameQs xs ys)) ∧ Below w.heap.size w w' := by
  by_cases hnm : n = m
  rotate_left
  · have HV : Hid (sameQs xs ys = false) := sameQs_len (by omega)
    have e1 : ((n : Int) == (m : Int)) = false := intbne (by omega)
    have e2 := bneq' e1
    rw [HV.out]
    clear h h' hn hm hnm
    go_enter Tryz.func55, Tryz.ntmps55
    go_wp2
    go_ret
    exact ⟨rfl, Below.refl _ _⟩
  subst hnm
  have H1 := Lib.hid h
  have H2 := Lib.hid h'
  have hn1 : xs.length ≤ n := by omega
  have hn3 : n ≤ xs.length := by omega
  have hm1 : ys.length ≤ n := by omega
  have hm3 : n ≤ ys.length := by omega
  clear h h' hn hm
  go_enter Tryz.func55, Tryz.ntmps55
  go_wp2_with fail
  go_loopw [13] (fun iv wr => ∃ k : Nat, k ≤ n ∧ iv = .int .i64 (k : Int) ∧ Hid (sameQs xs ys = sameQs (xs.drop k) (ys.drop k)) ∧ Below w.heap.size w wr) (fun iv _ => n - (intOf iv).toNat)
  case atStart => exact ⟨0, Nat.zero_le _, rfl, rfl, Below.refl _ _⟩
  case round =>
    obtain ⟨k, hk, rfl, HK, hb⟩ := hrel
    by_cases hlt : k < n
    · obtain ⟨x, hx⟩ : ∃ x, xs[k]? = some x := ⟨_, List.getElem?_eq_getElem (by omega)⟩
      obtain ⟨y, hy⟩ : ∃ y, ys[k]? = some y := ⟨_, List.getElem?_eq_getElem (by omega)⟩
      obtain ⟨b, o, rfl, hbs, px0, px1, px2⟩ := (H1.out.below hb) k x hx
      obtain ⟨b', o', rfl, hds, py0, py1, py2⟩ := (H2.out.below hb) k y hy
      have HD := Lib.hid (sameQs_drop hx hy)
      clear hx hy
      go_wp2_with fail
      refine wp_region_kept (by kernel_rfl) (by kernel_rfl) ?_
      refine kept_val _ (fun _ => rfl) (fun ρ w hw => by go_simp; first | done | with_reducible rfl) ?_
      simp only [Act.put, List.setIfInBounds_toArray, List.set_cons_zero, List.set_cons_succ, Nat.reduceAdd]
      refine kept_val _ (fun _ => rfl) (fun ρ w hw => by go_simp; first | done | with_reducible rfl) ?_
      simp only [Act.put, List.setIfInBounds_toArray, List.set_cons_zero, List.set_cons_succ, Nat.reduceAdd]
      refine kept_val _ (fun _ => rfl) (fun ρ w hw => by go_simp; first | done | with_reducible rfl) ?_
      simp only [Act.put, List.setIfInBounds_toArray, List.set_cons_zero, List.set_cons_succ, Nat.reduceAdd]
      refine kept_val _ (fun _ => rfl) (fun ρ w hw => by have q0 := (hw.cell (p := ⟨b, o + k * 3, none⟩) hbs).trans px0; have q1 := (hw.cell (p := ⟨b, o + k * 3 + 1, none⟩) hbs).trans px1; have q2 := (hw.cell (p := ⟨b, o + k * 3 + 2, none⟩) hbs).trans px2; go_simp; first | done | with_reducible rfl) ?_
      simp only [Act.put, List.setIfInBounds_toArray, List.set_cons_zero, List.set_cons_succ, Nat.reduceAdd]
      refine kept_val _ (fun _ => rfl) (fun ρ w hw => by go_simp; first | done | with_reducible rfl) ?_
      simp only [Act.put, List.setIfInBounds_toArray, List.set_cons_zero, List.set_cons_succ, Nat.reduceAdd]
      refine kept_val _ (fun _ => rfl) (fun ρ w hw => by go_simp; first | done | with_reducible rfl) ?_
      simp only [Act.put, List.setIfInBounds_toArray, List.set_cons_zero, List.set_cons_succ, Nat.reduceAdd]
      refine kept_val _ (fun _ => rfl) (fun ρ w hw => by go_simp; first | done | with_reducible rfl) ?_
      simp only [Act.put, List.setIfInBounds_toArray, List.set_cons_zero, List.set_cons_succ, Nat.reduceAdd]
      refine kept_val _ (fun _ => rfl) (fun ρ w hw => by have q0 := (hw.cell (p := ⟨b', o' + k * 3, none⟩) hds).trans py0; have q1 := (hw.cell (p := ⟨b', o' + k * 3 + 1, none⟩) hds).trans py1; have q2 := (hw.cell (p := ⟨b', o' + k * 3 + 2, none⟩) hds).trans py2; go_simp; first | done | with_reducible rfl) ?_
      simp only [Act.put, List.setIfInBounds_toArray, List.set_cons_zero, List.set_cons_succ, Nat.reduceAdd]
      refine kept_val _ (fun _ => rfl) (fun ρ w hw => by have hE := eqQ1 x y; have hEG := guardQ; go_simp; first | done | with_reducible rfl) ?_
      simp only [Act.put, List.setIfInBounds_toArray, List.set_cons_zero, List.set_cons_succ, Nat.reduceAdd]
      refine kept_end (fun ρ w6 hF => ?_)
      replace hb := bto hb hF.below
      clear hF
      cases hs : sameQ x y
      · have HV : Hid (sameQs xs ys = false) := by show _ = _; rw [HK.out, HD.out, hs]; rfl
        clear hs HK HD px0 py0 px1 py1 px2 py2
        go_wp2
        go_ret
        exact ⟨by rw [HV.out]; first | done | rfl, hb⟩
      · have HV : Hid (sameQs xs ys = sameQs (xs.drop (k + 1)) (ys.drop (k + 1))) := by show _ = _; rw [HK.out, HD.out, hs]; rfl
        clear hs HK HD px0 py0 px1 py1 px2 py2
        go_wp2
        go_roundw
        case rel => exact ⟨k + 1, by omega, by go_num, HV, hb⟩
        case measure => simp [intOf]; omega
    · have HV : Hid (sameQs xs ys = true) := by show _ = _; rw [HK.out, List.drop_of_length_le (by omega), List.drop_of_length_le (by omega)]; rfl
      clear HK
      go_wp2
      go_ret
      exact ⟨by rw [HV.out]; first | done | rfl, hb⟩
set_option maxHeartbeats 4000000 in
set_option maxRecDepth 100000 in
theorem eqFrs (A B : Option Addr) (xs ys : List Fs) (n m c c' : Nat) (w : World) (hn : xs.length = n) (hm : ys.length = m) (hn2 : n ≤ 1000000000) (hm2 : m ≤ 1000000000) (h : FsAt w A xs) (h' : FsAt w B ys) :
    Calls Tryz.prog 32 #[.slice A n c, .slice B m c'] w fun e w' => e = .returned (.bool (sameFs xs ys)) ∧ Below w.heap.size w w' := by
  by_cases hnm : n = m
  rotate_left
  · have HV : Hid (sameFs xs ys = false) := sameFs_len (by omega)
    have e1 : ((n : Int) == (m : Int)) = false := intbne (by omega)
    have e2 := bneq' e1
    rw [HV.out]
    clear h h' hn hm hnm
    go_enter Tryz.func32, Tryz.ntmps32
    go_wp2
    go_ret
    exact ⟨rfl, Below.refl _ _⟩
  subst hnm
  have H1 := Lib.hid h
  have H2 := Lib.hid h'
  have hn1 : xs.length ≤ n := by omega
  have hn3 : n ≤ xs.length := by omega
  have hm1 : ys.length ≤ n := by omega
  have hm3 : n ≤ ys.length := by omega
  clear h h' hn hm
  go_enter Tryz.func32, Tryz.ntmps32
  go_wp2_with fail
  go_loopw [13] (fun iv wr => ∃ k : Nat, k ≤ n ∧ iv = .int .i64 (k : Int) ∧ Hid (sameFs xs ys = sameFs (xs.drop k) (ys.drop k)) ∧ Below w.heap.size w wr) (fun iv _ => n - (intOf iv).toNat)
  case atStart => exact ⟨0, Nat.zero_le _, rfl, rfl, Below.refl _ _⟩
  case round =>
    obtain ⟨k, hk, rfl, HK, hb⟩ := hrel
    by_cases hlt : k < n
    · obtain ⟨x, hx⟩ : ∃ x, xs[k]? = some x := ⟨_, List.getElem?_eq_getElem (by omega)⟩
      obtain ⟨y, hy⟩ : ∃ y, ys[k]? = some y := ⟨_, List.getElem?_eq_getElem (by omega)⟩
      obtain ⟨b, o, rfl, hbs, px0, px1⟩ := (H1.out.below hb) k x hx
      obtain ⟨b', o', rfl, hds, py0, py1⟩ := (H2.out.below hb) k y hy
      have HD := Lib.hid (sameFs_drop hx hy)
      clear hx hy
      go_wp2_with fail
      refine wp_region_kept (by kernel_rfl) (by kernel_rfl) ?_
      refine kept_val _ (fun _ => rfl) (fun ρ w hw => by go_simp; first | done | with_reducible rfl) ?_
      simp only [Act.put, List.setIfInBounds_toArray, List.set_cons_zero, List.set_cons_succ, Nat.reduceAdd]
      refine kept_val _ (fun _ => rfl) (fun ρ w hw => by go_simp; first | done | with_reducible rfl) ?_
      simp only [Act.put, List.setIfInBounds_toArray, List.set_cons_zero, List.set_cons_succ, Nat.reduceAdd]
      refine kept_val _ (fun _ => rfl) (fun ρ w hw => by go_simp; first | done | with_reducible rfl) ?_
      simp only [Act.put, List.setIfInBounds_toArray, List.set_cons_zero, List.set_cons_succ, Nat.reduceAdd]
      refine kept_val _ (fun _ => rfl) (fun ρ w hw => by have q0 := (hw.cell (p := ⟨b, o + k * 2, none⟩) hbs).trans px0; have q1 := (hw.cell (p := ⟨b, o + k * 2 + 1, none⟩) hbs).trans px1; go_simp; first | done | with_reducible rfl) ?_
      simp only [Act.put, List.setIfInBounds_toArray, List.set_cons_zero, List.set_cons_succ, Nat.reduceAdd]
      refine kept_val _ (fun _ => rfl) (fun ρ w hw => by go_simp; first | done | with_reducible rfl) ?_
      simp only [Act.put, List.setIfInBounds_toArray, List.set_cons_zero, List.set_cons_succ, Nat.reduceAdd]
      refine kept_val _ (fun _ => rfl) (fun ρ w hw => by go_simp; first | done | with_reducible rfl) ?_
      simp only [Act.put, List.setIfInBounds_toArray, List.set_cons_zero, List.set_cons_succ, Nat.reduceAdd]
      refine kept_val _ (fun _ => rfl) (fun ρ w hw => by go_simp; first | done | with_reducible rfl) ?_
      simp only [Act.put, List.setIfInBounds_toArray, List.set_cons_zero, List.set_cons_succ, Nat.reduceAdd]
      refine kept_val _ (fun _ => rfl) (fun ρ w hw => by have q0 := (hw.cell (p := ⟨b', o' + k * 2, none⟩) hds).trans py0; have q1 := (hw.cell (p := ⟨b', o' + k * 2 + 1, none⟩) hds).trans py1; go_simp; first | done | with_reducible rfl) ?_
      simp only [Act.put, List.setIfInBounds_toArray, List.set_cons_zero, List.set_cons_succ, Nat.reduceAdd]
      refine kept_val _ (fun _ => rfl) (fun ρ w hw => by have hE := eqF1 x y; have hEG := guardF; go_simp; first | done | with_reducible rfl) ?_
      simp only [Act.put, List.setIfInBounds_toArray, List.set_cons_zero, List.set_cons_succ, Nat.reduceAdd]
      refine kept_end (fun ρ w6 hF => ?_)
      replace hb := bto hb hF.below
      clear hF
      cases hs : sameF x y
      · have HV : Hid (sameFs xs ys = false) := by show _ = _; rw [HK.out, HD.out, hs]; rfl
        clear hs HK HD px0 py0 px1 py1
        go_wp2
        go_ret
        exact ⟨by rw [HV.out]; first | done | rfl, hb⟩
      · have HV : Hid (sameFs xs ys = sameFs (xs.drop (k + 1)) (ys.drop (k + 1))) := by show _ = _; rw [HK.out, HD.out, hs]; rfl
        clear hs HK HD px0 py0 px1 py1
        go_wp2
        go_roundw
        case rel => exact ⟨k + 1, by omega, by go_num, HV, hb⟩
        case measure => simp [intOf]; omega
    · have HV : Hid (sameFs xs ys = true) := by show _ = _; rw [HK.out, List.drop_of_length_le (by omega), List.drop_of_length_le (by omega)]; rfl
      clear HK
      go_wp2
      go_ret
      exact ⟨by rw [HV.out]; first | done | rfl, hb⟩
end Go.Proofs.YtmjglcgdcclinaaGreatDoor
