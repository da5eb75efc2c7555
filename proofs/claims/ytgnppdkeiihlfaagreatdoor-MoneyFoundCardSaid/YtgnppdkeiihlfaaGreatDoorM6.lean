/- Texts put together: Nj Opm Bp Bf. -/
import Derived.Test.YtgnppdkeiihlfaaGreatDoorM5
import Derived.Shelf.SlicesE.Clone
import Derived.Deep.Slices
import Derived.Deep.Fields
import Derived.OpenShut
import Derived.Lib.SmallJoins
import Derived.ChangeSame
namespace Go.Proofs
open Go.Shelf
def Tryz.cloneCur_ren : Go.Shelf.Ren := ⟨fun | 41 => 50 | n => n, fun | 22 => 61 | 23 => 64 | 4 => 4 | n => n, fun | n => n⟩
theorem Tryz.cloneCur : Go.Proofs.SlLaysE0.n41 Tryz.prog Tryz.cloneCur_ren := {
  mixed := by kernel_rfl
  f41 := ⟨Tryz.f50.name, by decide, Tryz.func50.trans (congrArg some (by kernel_rfl))⟩
  t4 := Tryz.underlying4
  a4 := Tryz.isAgg4
  z4 := Tryz.sizeOf4
  v4 := Tryz.zeroValue4
  t22 := Tryz.underlying61
  a22 := Tryz.isAgg61
  z22 := Tryz.sizeOf61
  v22 := Tryz.zeroValue61 }
end Go.Proofs
namespace Go.Proofs.YtgnppdkeiihlfaaGreatDoor
open Go.RowKit Num
theorem findT_none {ts : List Cur} {code : List UInt8} : findT ts code = none ↔ ∀ t ∈ ts, t.code ≠ code := by
  unfold findT
  rw [List.find?_eq_none]
  simp
theorem findT_mem {ts : List Cur} {code : List UInt8} {c : Cur} (h : findT ts code = some c) : c ∈ ts ∧ c.code = code := by
  unfold findT at h
  exact ⟨List.mem_of_find?_eq_some h, by have := List.find?_some h; simpa using this⟩
def Apart (ts : List Cur) : Prop := ts.Pairwise (fun a b => a.code ≠ b.code)
def Fine (ts : List Cur) : Prop := ∀ t ∈ ts, codeB t.code = true ∧ 0 ≤ t.places ∧ t.places ≤ 12
theorem tabL_iff : ∀ (ts seen : List Cur), tabL seen ts = 0 ↔ Fine ts ∧ Apart ts ∧ ∀ s ∈ seen, ∀ t ∈ ts, s.code ≠ t.code
  | [], seen => by simp [tabL, Fine, Apart]
  | t :: r, seen => by
    have ih := tabL_iff r (seen ++ [t])
    unfold tabL
    by_cases h1 : codeB t.code = true
    · rw [if_neg (fun h => h h1)]
      by_cases h2 : t.places < 0 ∨ 12 < t.places
      · rw [if_pos h2]
        refine ⟨fun h => absurd h (by decide), fun ⟨h, _⟩ => ?_⟩
        have := h t (by simp)
        omega
      · rw [if_neg h2]
        by_cases h3 : (findT seen t.code).isSome = true
        · rw [if_pos h3]
          obtain ⟨s, hs⟩ := Option.isSome_iff_exists.1 h3
          have hs := findT_mem hs
          exact ⟨fun h => absurd h (by decide), fun ⟨_, _, h⟩ => absurd hs.2 (h s hs.1 t (by simp))⟩
        · rw [if_neg h3, ih]
          have h3' : ∀ s ∈ seen, s.code ≠ t.code := findT_none.1 (by simpa using h3)
          constructor
          · rintro ⟨a, b, c⟩
            refine ⟨fun u hu => ?_, List.pairwise_cons.2 ⟨fun u hu => c t (by simp) u hu, b⟩, fun s hs u hu => ?_⟩
            · rcases List.mem_cons.1 hu with rfl | hu
              · exact ⟨h1, by omega, by omega⟩
              · exact a u hu
            · rcases List.mem_cons.1 hu with rfl | hu
              · exact h3' s hs
              · exact c s (by simp [hs]) u hu
          · rintro ⟨a, b, c⟩
            obtain ⟨b1, b2⟩ := List.pairwise_cons.1 b
            refine ⟨fun u hu => a u (by simp [hu]), b2, fun s hs u hu => ?_⟩
            rcases List.mem_append.1 hs with hs | hs
            · exact c s hs u (by simp [hu])
            · have : s = t := by simpa using hs
              rw [this]; exact b1 u hu
    · rw [if_pos h1]
      exact ⟨fun h => absurd h (by decide), fun ⟨h, _⟩ => absurd (h t (by simp)).1 h1⟩
theorem tabE_iff (ts : List Cur) : tabE ts = 0 ↔ ts.length ≤ 16 ∧ Fine ts ∧ Apart ts := by
  unfold tabE
  by_cases h : 16 < ts.length
  · rw [if_pos h]
    exact ⟨fun h => absurd h (by decide), fun ⟨h', _⟩ => absurd h' (by omega)⟩
  · rw [if_neg h, tabL_iff]
    exact ⟨fun ⟨a, b, _⟩ => ⟨by omega, a, b⟩, fun ⟨_, a, b⟩ => ⟨a, b, fun s hs => absurd hs (by simp)⟩⟩
theorem apart_same : ∀ {ts : List Cur}, Apart ts → ∀ {u t : Cur}, u ∈ ts → t ∈ ts → u.code = t.code → u = t
  | [], _, _, _, h, _, _ => absurd h (by simp)
  | x :: r, h, u, t, hu, ht, e => by
    obtain ⟨h1, h2⟩ := List.pairwise_cons.1 h
    rcases List.mem_cons.1 hu with e1 | hu <;> rcases List.mem_cons.1 ht with e2 | ht
    · rw [e1, e2]
    · rw [e1] at e; exact absurd e (h1 t ht)
    · rw [e2] at e; exact absurd e.symm (h1 u hu)
    · exact apart_same h2 hu ht e
theorem tab_find {ts : List Cur} (h : tabE ts = 0) {t : Cur} (ht : t ∈ ts) : findT ts t.code = some t := by
  obtain ⟨-, -, h⟩ := (tabE_iff ts).1 h
  cases g : findT ts t.code with
  | none => exact absurd rfl (findT_none.1 g t ht)
  | some u =>
    obtain ⟨h1, h2⟩ := findT_mem g
    rw [apart_same h h1 ht h2]
theorem tab_less {ts : List Cur} (h : tabE ts = 0) (k : Nat) : tabE (ts.eraseIdx k) = 0 := by
  obtain ⟨h0, h1, h2⟩ := (tabE_iff ts).1 h
  have hs := List.eraseIdx_sublist ts k
  exact (tabE_iff _).2 ⟨Nat.le_trans hs.length_le h0, fun t ht => h1 t (hs.subset ht), List.Pairwise.sublist hs h2⟩
theorem apart_less : ∀ {ts : List Cur} {k : Nat} {t : Cur}, Apart ts → ts[k]? = some t → ∀ u ∈ ts.eraseIdx k, u.code ≠ t.code
  | [], _, _, _, h => by simp at h
  | x :: r, 0, t, h, ht => by
    have e : x = t := by simpa using ht
    obtain ⟨h1, -⟩ := List.pairwise_cons.1 h
    intro u hu
    rw [← e]; exact fun g => h1 u hu g.symm
  | x :: r, k + 1, t, h, ht => by
    have ht : r[k]? = some t := by simpa using ht
    obtain ⟨h1, h2⟩ := List.pairwise_cons.1 h
    intro u hu
    rcases List.mem_cons.1 hu with rfl | hu
    · exact h1 t (List.mem_of_getElem? ht)
    · exact apart_less h2 ht u hu
theorem tab_gone {ts : List Cur} (h : tabE ts = 0) {k : Nat} {t : Cur} (ht : ts[k]? = some t) : findT (ts.eraseIdx k) t.code = none :=
  findT_none.2 (apart_less ((tabE_iff ts).1 h).2.2 ht)
theorem tabL_twice : ∀ (ts seen : List Cur) (t : Cur), tabL seen ts = 0 → (t ∈ seen ∨ t ∈ ts) → codeB t.code = true → 0 ≤ t.places → t.places ≤ 12 → tabL seen (ts ++ [t]) = 5
  | [], seen, t, _, hm, h1, h2, h3 => by
    have hm : t ∈ seen := by simpa using hm
    have hf : (findT seen t.code).isSome = true := by
      cases g : findT seen t.code with
      | none => exact absurd rfl (findT_none.1 g t hm)
      | some u => rfl
    show tabL seen [t] = 5
    unfold tabL
    rw [if_neg (fun h => h h1), if_neg (by omega), if_pos hf]
  | u :: r, seen, t, h, hm, h1, h2, h3 => by
    show tabL seen (u :: (r ++ [t])) = 5
    unfold tabL at h ⊢
    split at h
    · exact absurd h (by decide)
    · rename_i g1
      rw [if_neg g1]
      split at h
      · exact absurd h (by decide)
      · rename_i g2
        rw [if_neg g2]
        split at h
        · exact absurd h (by decide)
        · rename_i g3
          rw [if_neg g3]
          refine tabL_twice r (seen ++ [u]) t h ?_ h1 h2 h3
          rcases hm with hm | hm
          · exact .inl (by simp [hm])
          · rcases List.mem_cons.1 hm with rfl | hm
            · exact .inl (by simp)
            · exact .inr hm
theorem tab_twice {ts : List Cur} (h : tabE ts = 0) {t : Cur} (ht : t ∈ ts) : tabE (ts ++ [t]) = if ts.length = 16 then 4 else 5 := by
  obtain ⟨h0, h1, -⟩ := (tabE_iff ts).1 h
  unfold tabE at h ⊢
  rw [if_neg (by omega)] at h
  rw [List.length_append, List.length_singleton]
  by_cases g : ts.length = 16
  · rw [if_pos (by omega), if_pos g]
  · rw [if_neg (by omega), if_neg g]
    exact tabL_twice ts [] t h (.inr ht) (h1 t ht).1 (h1 t ht).2.1 (h1 t ht).2.2
def sameC (x y : Cur) : Bool := (x.code == y.code) && ((x.places == y.places) && true)
theorem sameC_self (x : Cur) : sameC x x = true := by simp [sameC]
set_option maxRecDepth 100000 in
theorem eqC1 (x y : Cur) (w : World) : (Op.equalIn 10000 64 (.agg #[.string ⟨x.code.toArray⟩, .int .i64 x.places]) (.agg #[.string ⟨y.code.toArray⟩, .int .i64 y.places])).run Tryz.prog w = .ok (sameC x y) w := by
  have hS : Tryz.prog.underlying 64 = some (.struct (Tryz.prog.fieldsOf 64)) := by kernel_rfl
  have hp : Tryz.prog.stoodInHeld 64 = false := by kernel_rfl
  rw [show (10000 : Nat) = 9999 + 1 from rfl, run_equalIn_agg w 9999 64 _ _ hS hp]
  simp only [Program.fieldsOf, Tryz.underlying64]
  unfold sameC
  exact (eqf_step (by decide) (a := .string ⟨x.code.toArray⟩) (b := .string ⟨y.code.toArray⟩) (by go_simp) (by go_simp) (by rw [run_equalIn_string w 9998 _ _ _ Tryz.underlying9]; simp) (eqf_step (by decide) (a := .int .i64 x.places) (b := .int .i64 y.places) (by go_simp) (by go_simp) (by rw [run_equalIn_int w 9998 _ _ _ _ _ Tryz.underlying3]) eqf_nil))
theorem guardC : Tryz.prog.eqGuardType Tryz.prog.depth 64 = false := by kernel_rfl
/-- the cells of currencies, one behind the other -/
def ccV (t : Cur) : Array Value := #[.string ⟨t.code.toArray⟩, .int .i64 t.places]
def rowsC (xs : List Cur) : List Value := xs.flatMap (fun t => [.string ⟨t.code.toArray⟩, .int .i64 t.places])
theorem rowsC_cons (t : Cur) (xs : List Cur) : rowsC (t :: xs) = .string ⟨t.code.toArray⟩ :: .int .i64 t.places :: rowsC xs := rfl
theorem rowsC_len : ∀ xs : List Cur, (rowsC xs).length = xs.length * 2
  | [] => rfl
  | x :: xs => by rw [rowsC_cons]; simp only [List.length_cons]; rw [rowsC_len xs]; omega
theorem rowsC_one (xs : List Cur) : ∀ u ∈ rowsC xs, u.oneCell' = true := by
  intro u hu
  obtain ⟨x, -, hx⟩ := List.mem_flatMap.1 hu
  simp only [List.mem_cons, List.not_mem_nil, or_false] at hx
  rcases hx with rfl | rfl <;> rfl
theorem rowsC_at0 : ∀ {xs : List Cur} {i : Nat} {t : Cur}, xs[i]? = some t → (rowsC xs)[i * 2]? = some (.string ⟨t.code.toArray⟩) ∧ (rowsC xs)[i * 2 + 1]? = some (.int .i64 t.places)
  | [], i, x, h => by simp at h
  | y :: xs, 0, x, h => by
    have : y = x := by simpa using h
    subst this; exact ⟨rfl, rfl⟩
  | y :: xs, i + 1, x, h => by
    have hh := rowsC_at0 (xs := xs) (i := i) (t := x) (by simpa using h)
    rw [rowsC_cons, show (i + 1) * 2 = i * 2 + 1 + 1 by omega]
    simpa [Nat.add_right_comm, Nat.add_assoc] using hh
theorem rowsC_at {xs : List Cur} {i : Nat} {t : Cur} (h : xs[i]? = some t) {r : Nat} (hr : r < 2) : (rowsC xs)[i * 2 + r]? = (ccV t)[r]? := by
  obtain ⟨h0, h1⟩ := rowsC_at0 h
  have hc : r = 0 ∨ r = 1 := by omega
  rcases hc with rfl | rfl
  · exact h0
  · exact h1
theorem rowsC_get : ∀ {xs : List Cur} {j : Nat} {u : Value}, (rowsC xs)[j]? = some u → ∃ t, xs[j / 2]? = some t ∧ u = if j % 2 = 0 then .string ⟨t.code.toArray⟩ else .int .i64 t.places
  | [], j, u, h => by simp [rowsC] at h
  | y :: xs, 0, u, h => by
    rw [rowsC_cons] at h
    exact ⟨y, rfl, by simpa using h.symm⟩
  | y :: xs, 1, u, h => by
    rw [rowsC_cons] at h
    exact ⟨y, rfl, by simpa using h.symm⟩
  | y :: xs, j + 2, u, h => by
    rw [rowsC_cons] at h
    obtain ⟨x, h1, h2⟩ := rowsC_get (xs := xs) (j := j) (by simpa using h)
    refine ⟨x, ?_, ?_⟩
    · rw [show (j + 2) / 2 = j / 2 + 1 by omega]; simpa using h1
    · rw [show (j + 2) % 2 = j % 2 by omega]; exact h2
theorem curAt_of {w : World} {g : Nat} {xs : List Cur} (h1 : g < w.heap.size) (h : ∀ i x, xs[i]? = some x → ∀ r, r < 2 → w.cell? ⟨g, 0 + i * 2 + r, none⟩ = (ccV x)[r]?) : CurAt w (some ⟨g, 0, none⟩) xs := fun i x hx =>
  ⟨g, 0, rfl, h1, h i x hx 0 (by decide), h i x hx 1 (by decide)⟩
theorem own_curAt {w : World} {base n c : Nat} {A : Option Addr} {xs : List Cur} {e : TypeId} (h : w.ownsRow base e 2 (.slice A n c) n (rowsC xs)) (hn : n = xs.length) : CurAt w A xs := fun i x hx => by
  have hi := (List.getElem?_eq_some_iff.1 hx).1
  rcases h.2 with ⟨hv, h0⟩ | ⟨g, cap, cur, hv, hb, hh, hcap, _, hsz, htk⟩
  · omega
  · injection hv with h1 _ h3
    subst h1 h3
    have key : ∀ r, r < 2 → w.cell? ⟨g, 0 + i * 2 + r, none⟩ = (ccV x)[r]? := fun r hr => by
      rw [blk_cell hh, ← rowsC_at hx hr, ← htk, List.getElem?_take, if_pos (by omega), Array.getElem?_toList, Nat.zero_add]
    exact ⟨g, 0, rfl, (Array.getElem?_eq_some_iff.1 hh).1, key 0 (by decide), key 1 (by decide)⟩
theorem info_cur : (Tryz.prog.info? 64).map (fun i => (i.zero, i.size, i.bytes)) = some (some (.agg #[.string ⟨#[]⟩, .int .i64 0]), 2, 24) := by kernel_rfl
set_option maxRecDepth 100000 in
/-- slices.Clone at currencies -/
theorem cloneC (A : Option Addr) (xs : List Cur) (n c : Nat) (w : World) (hn : xs.length = n) (h0 : 0 < n) (hn2 : n ≤ 1000000) (h : CurAt w A xs) :
    Calls Tryz.prog 50 #[.slice A n c] w fun e w' => ∃ B cp, e = .returned (.slice B n cp) ∧ w'.ownsRow w.heap.size 64 2 (.slice B n cp) n (rowsC xs) ∧ Below w.heap.size w w' := by
  obtain ⟨x0, hx0⟩ : ∃ x, xs[0]? = some x := ⟨_, List.getElem?_eq_getElem (by omega)⟩
  obtain ⟨b, o, rfl, hbs, -⟩ := h 0 x0 hx0
  obtain ⟨i0, e0, e1, e2, e3⟩ := info_parts info_cur
  refine (AnyE.slices_Clone Tryz.cloneCur i0 _ 2 24 e0 e1 e2 e3 rfl (by decide) Tryz.sizeOf64 b o n c (rowsC xs) w (by rw [rowsC_len, hn]) (by unfold maxLen; omega) (by omega) (fun j u hu => ?_) (rowsC_one xs)).mono ?_
  · obtain ⟨x, h1, h2⟩ := rowsC_get hu
    obtain ⟨b', o', hA, -, hc, hd⟩ := h (j / 2) x h1
    cases hA
    by_cases hm : j % 2 = 0
    · rw [h2, if_pos hm, show o + j = o + j / 2 * 2 by omega]; exact hc
    · rw [h2, if_neg hm, show o + j = o + j / 2 * 2 + 1 by omega]; exact hd
  · rintro e w' ⟨v, rfl, hown, -, hb⟩
    rcases hown.2 with ⟨-, hz⟩ | ⟨g, cap, cur, hv, _⟩
    · omega
    · subst hv; exact ⟨_, _, rfl, hown, hb⟩
set_option maxHeartbeats 4000000 in
set_option maxRecDepth 1000000 in
/-- slices.Delete of one element -/
theorem delC (g n cp k : Nat) (cur : Array Value) (xs : List Cur) (w : World) (hn : xs.length = n) (hk : k < n) (hcap : n ≤ cp) (hH : w.heap[g]? = some (.cells cur 64 (0, 0))) (hsz : n * 2 ≤ cur.size) (ht : cur.toList.take (n * 2) = rowsC xs) :
    Calls Tryz.prog 49 #[.slice (some ⟨g, 0, none⟩) n cp, .int .i64 (k : Int), .int .i64 ((k : Int) + 1)] w fun e w' => e = .returned (.slice (some ⟨g, 0, none⟩) (n - 1) cp) ∧ CurAt w' (some ⟨g, 0, none⟩) (xs.eraseIdx k) ∧ Below g w w' := by
  have hlt := (Array.getElem?_eq_some_iff.1 hH).1
  have hcell : ∀ j, j < cur.size → w.cell? ⟨g, j, none⟩ = cur[j]? := fun j _ => blk_cell hH j
  have hrow : ∀ j, j < n * 2 → w.cell? ⟨g, j, none⟩ = (rowsC xs)[j]? := fun j hj => by
    rw [hcell j (by omega), ← ht, List.getElem?_take, if_pos hj, Array.getElem?_toList]
  have hfr : ∀ j, w.frozen? ⟨g, j, none⟩ = false := fun j => blk_frozen hH j
  obtain ⟨i0, e0, e1, e2, e3⟩ := info_parts info_cur
  obtain ⟨news, hnews⟩ : ∃ news, news = (rowsC xs).drop ((k + 1) * 2) := ⟨_, rfl⟩
  have hlen : news.length = (n - (k + 1)) * 2 := by rw [hnews, List.length_drop, rowsC_len, hn, Nat.sub_mul]
  obtain ⟨A, hA, hsrc⟩ : ∃ A : Addr, (if cp = k + 1 then (some ⟨g, 0, none⟩ : Option Addr) else some ⟨g, (k + 1) * 2, none⟩) = some A ∧ Hid (∀ t u, news[t]? = some u → w.drew.cell? (A.add t) = some u) := by
    by_cases h : cp = k + 1
    · refine ⟨⟨g, 0, none⟩, by rw [if_pos h], fun t u hu => ?_⟩
      have h0 : news.length = 0 := by rw [hlen]; have : n - (k + 1) = 0 := by omega
                                      rw [this, Nat.zero_mul]
      rw [List.length_eq_zero_iff.1 h0] at hu
      simp at hu
    · refine ⟨⟨g, (k + 1) * 2, none⟩, by rw [if_neg h], fun t u hu => ?_⟩
      have htl := (List.getElem?_eq_some_iff.1 hu).1
      rw [Lib.add_plain]
      show w.cell? _ = _
      rw [hrow _ (by rw [hlen, Nat.sub_mul] at htl; omega), ← hu, hnews, List.getElem?_drop]
  have s2 : Hid (∀ u ∈ news, u.oneCell' = true) := fun u hu => by
    rw [hnews] at hu
    exact rowsC_one xs u (List.mem_of_mem_drop hu)
  have s3 : Hid (∀ t, t < news.length → (w.drew.cell? ⟨g, 0 + k * 2 + t, none⟩).isSome = true ∧ w.drew.frozen? ⟨g, 0 + k * 2 + t, none⟩ = false) := fun t ht2 => by
    rw [hlen, Nat.sub_mul] at ht2
    refine ⟨?_, hfr _⟩
    show (w.cell? _).isSome = true
    rw [hcell _ (by omega), Array.getElem?_eq_getElem (by omega)]; rfl
  obtain ⟨W1, hW1⟩ : ∃ W1, W1 = w.drew.setCells g (0 + k * 2) news := ⟨_, rfl⟩
  have hH0 : w.drew.heap[g]? = some (.cells cur 64 (0, 0)) := hH
  obtain ⟨cur1, hH1, hs1⟩ := setCells_blk g news (0 + k * 2) w.drew cur hH0 (by rw [hlen, Nat.sub_mul]; omega)
  rw [← hW1] at hH1
  have hz : ∀ w, (zeroValue 64).run Tryz.prog w = .ok (Value.agg #[.string ⟨#[]⟩, .int .i64 0]) w := Tryz.zeroValue64
  have hcl : ∀ ty, (Builtin.clear_ #[61] ty #[.slice (some ⟨g, (n - 1) * 2, none⟩) 1 (cp - (n - 1))]).run Tryz.prog W1 = .ok (.tuple #[]) (W1.setCells g ((n - 1) * 2) (Value.agg #[.string ⟨#[]⟩, .int .i64 0]).cells.toList) :=
    fun ty => run_clear_one W1 _ _ ty _ Tryz.underlying61 hz (by decide) g _ _ (fun j hj => by
      have hj : j < 2 := hj
      rw [blk_cell hH1, Array.getElem?_eq_getElem (by rw [hs1]; omega)]; rfl) (fun j _ => blk_frozen hH1 _)
  obtain ⟨W2, hW2⟩ : ∃ W2, W2 = W1.setCells g ((n - 1) * 2) (Value.agg #[.string ⟨#[]⟩, .int .i64 0]).cells.toList := ⟨_, rfl⟩
  have hend : CurAt W2 (some ⟨g, 0, none⟩) (xs.eraseIdx k) ∧ Below g w W2 := by
    constructor
    · refine curAt_of ?_ ?_
      · rw [hW2, hW1]
        have : ∀ (vs : List Value) (o : Nat) (w : World), (w.setCells g o vs).heap.size = w.heap.size := fun vs => by
          induction vs with
          | nil => intro o w; rfl
          | cons v r ih => intro o w; show ((w.setCell ⟨g, o, none⟩ v).setCells g (o + 1) r).heap.size = _; rw [ih]; simp
        rw [this, this]; exact hlt
      · intro i x hx r hr
        have hil := (List.getElem?_eq_some_iff.1 hx).1
        rw [List.length_eraseIdx_of_lt (by omega), hn] at hil
        rw [hW2, World.cell?_setCells_out g _ _ _ _ (fun _ _ => .inl (by show 0 + i * 2 + r < _; omega))]
        rw [hW1]
        by_cases hik : i < k
        · rw [World.cell?_setCells_out g _ _ _ _ (fun _ _ => .inl (by show 0 + i * 2 + r < _; omega))]
          show w.cell? _ = _
          rw [List.getElem?_eraseIdx_of_lt hik] at hx
          rw [hrow _ (by omega), Nat.zero_add, rowsC_at hx hr]
        · rw [List.getElem?_eraseIdx_of_ge (by omega)] at hx
          obtain ⟨t, rfl⟩ : ∃ t, i = k + t := ⟨i - k, by omega⟩
          have e5 : 0 + (k + t) * 2 + r = 0 + k * 2 + (t * 2 + r) := by omega
          have hj : t * 2 + r < news.length := by rw [hlen, Nat.sub_mul]; omega
          rw [e5, World.cell?_setCells_in g news _ _ (fun j hj => (s3.out j hj).1) _ hj, ← List.getElem?_eq_getElem hj, hnews, List.getElem?_drop, show (k + 1) * 2 + (t * 2 + r) = (k + t + 1) * 2 + r by omega, rowsC_at hx hr]
    · rw [hW2, hW1]
      exact Lib.below_setCells g (Nat.le_refl _) _ _ (Lib.below_setCells g (Nat.le_refl _) _ _ ⟨rfl, rfl, rfl, Nat.le_refl _, fun _ _ => rfl⟩)
  have HE := Lib.hid hend
  have s1 : Hid (news.length = (n - (k + 1)) * 2) := hlen
  have hW : Hid (W1 = w.drew.setCells g (0 + k * 2) news) := hW1
  have hX : Hid (W2 = W1.setCells g ((n - 1) * 2) (Value.agg #[.string ⟨#[]⟩, .int .i64 0]).cells.toList) := hW2
  simp only [← hX.out] at hcl
  have HK : Hid (k + (n - (k + 1)) = n - 1) := by show _ = _; omega
  have hcl2 : ∀ ty, (Builtin.clear_ #[61] ty #[.slice (some ⟨g, (k + (n - (k + 1))) * 2, none⟩) (n - (k + (n - (k + 1)))) (cp - (k + (n - (k + 1))))]).run Tryz.prog W1 = .ok (.tuple #[]) W2 := fun ty => by rw [HK.out, show n - (n - 1) = 1 by omega]; exact hcl ty
  clear hcl
  have hic : k ≤ cp := by omega
  have hk0 : (0 : Int) ≤ (k : Int) + 1 := by omega
  have hkn : (k : Int) + 1 ≤ (n : Int) := by omega
  have mixed : Tryz.prog.follows .mixedOrders = true := by kernel_rfl
  have hjc : k + 1 ≤ cp := by omega
  clear hend hW1 hW2 hH1 hH hH0 hs1 hcell hrow hfr hnews hlen hz ht hsz hlt hn
  go_enter Tryz.func49, Tryz.ntmps49
  go_wp2_with fail
  go_region_law_o (refine step_append_room rfl (.tmp 22) (.tmp 25) 61 rfl 64 i0 2 Tryz.underlying61 e0 e2 g 0 k cp (by simp [Act.eval, Act.put]) A (n - (k + 1)) (cp - (k + 1)) news (by simp [Act.eval, Act.put]) s1.out hsrc.out s2.out (by omega) s3.out ?_; rw [← hW.out])
  go_wp2
  go_ret
  exact ⟨by rw [HK.out]; rfl, HE.out⟩
theorem own_belowC {w w' : World} {B k sz : Nat} {ty : TypeId} {v : Value} {cs : List Value} (h : w.ownsRow B ty sz v k cs) (hb : Below w.heap.size w w') : w'.ownsRow B ty sz v k cs := by
  refine ⟨h.1, ?_⟩
  rcases h.2 with h2 | ⟨g, cap, cur, e, hB, hg, r⟩
  · exact .inl h2
  · exact .inr ⟨g, cap, cur, e, hB, (hb.block g (Array.getElem?_eq_some_iff.1 hg).1).trans hg, r⟩
theorem own_baseC {w : World} {B B' k sz : Nat} {ty : TypeId} {v : Value} {cs : List Value} (h : w.ownsRow B ty sz v k cs) (hb : B' ≤ B) : w.ownsRow B' ty sz v k cs := by
  refine ⟨h.1, ?_⟩
  rcases h.2 with h2 | ⟨g, cap, cur, e, hB, r⟩
  · exact .inl h2
  · exact .inr ⟨g, cap, cur, e, Nat.le_trans hb hB, r⟩
theorem own_blkC {w : World} {base n sz : Nat} {ty : TypeId} {v : Value} {cs : List Value} (h : w.ownsRow base ty sz v n cs) : ∀ j, v.ownBlock = some j → base ≤ j := fun j hj => by
  rcases h.2 with ⟨e0, -⟩ | ⟨g, cap, cur, e0, hB, -⟩
  · rw [e0] at hj; cases hj
  · rw [e0] at hj; simp [Value.ownBlock] at hj; omega
theorem own_openC {w : World} {base n sz : Nat} {ty : TypeId} {v : Value} {cs : List Value} (h : w.ownsRow base ty sz v n cs) (h0 : 0 < n) : ∃ C cq, v = .slice C n cq ∧ n ≤ cq := by
  rcases h.2 with ⟨-, h1⟩ | ⟨g, cap, cur, e0, hB, -, hc, -⟩
  · omega
  · exact ⟨_, _, e0, hc⟩
end Go.Proofs.YtgnppdkeiihlfaaGreatDoor
namespace Go.Proofs.YtgnppdkeiihlfaaGreatDoor
open Go.ChangeShapes Go.WideShapes Go.ChangeAt Go.RowKit Go.Deep
theorem cell_plain' {w : World} {a : Addr} {v : Value} (h : w.cell? a = some v) : a.spot = none ∧ a.block < w.heap.size := by
  unfold World.cell? at h
  split at h
  · next he =>
    split at h
    · cases h
    · next hs => exact ⟨by simpa using hs, (Array.getElem?_eq_some_iff.1 he).1⟩
  · cases h
theorem czk_int : Tryz.prog.cellsOf 3 = 1 := by kernel_rfl
theorem czk_str : Tryz.prog.cellsOf 9 = 1 := by kernel_rfl
theorem czk_cur : Tryz.prog.cellsOf 64 = 2 := by kernel_rfl
section
variable {H : Type} {enc : TypeId × Value → H} {w : World} {base : Nat} {spare : Nat → Bool} {held : Bool}
theorem field_at' {n : Nat} {fs : Array Field} {cs : List Value} {xs : List (DataW H × List MemPlace)} (hf : ∀ (i : Nat) (f : Field), fs[i]? = some f → DataW.trod enc Tryz.prog w base spare held n f.type ((cs.drop f.offset).take (Tryz.prog.cellsOf f.type)) = xs[i]?)
    (i : Nat) (ty : TypeId) (off : Nat) (f : Field) (h1 : fs[i]? = some f) (h2 : f.type = ty) (h3 : f.offset = off) (k : Nat) (h4 : Tryz.prog.cellsOf ty = k) (h5 : i < xs.length) : DataW.trod enc Tryz.prog w base spare held n ty ((cs.drop off).take k) = some (xs[i]'h5) := by
  have h := hf i f h1
  rw [h2, h3, h4, List.getElem?_eq_getElem h5] at h
  exact h
set_option maxRecDepth 10000 in
theorem cur_of_trod {fuel : Nat} {cs : List Value} {x : DataW H × List MemPlace} (h : DataW.trod enc Tryz.prog w base spare held fuel 64 cs = some x) : ∃ t : Cur, cs = [.string ⟨t.code.toArray⟩, .int .i64 t.places] ∧ t.code.length ≤ 9223372036854775807 := by
  obtain ⟨xs, n, -, -, hlen, hxl, hf⟩ := DataW.trod_struct Tryz.underlying64 h
  rw [czk_cur] at hlen
  have hxl : xs.length = 2 := hxl
  match cs, hlen with
  | [c0, c1], _ =>
    have h0 : DataW.trod enc Tryz.prog w base spare held n 9 [c0] = some (xs[0]'(by omega)) := field_at' hf 0 9 0 _ rfl rfl rfl 1 czk_str (by omega)
    have h1 : DataW.trod enc Tryz.prog w base spare held n 3 [c1] = some (xs[1]'(by omega)) := field_at' hf 1 3 1 _ rfl rfl rfl 1 czk_int (by omega)
    obtain ⟨s0, e0, -, w0⟩ := DataW.trod_string Tryz.underlying9 h0
    obtain ⟨s1, e1, -, -⟩ := DataW.trod_int Tryz.underlying3 h1
    injection e0 with e0
    injection e1 with e1
    subst e0 e1
    unfold maxLen at w0
    refine ⟨⟨s0.data.toList, s1⟩, rfl, ?_⟩
    show s0.data.toList.length ≤ _
    have : s0.size = s0.data.toList.length := by show s0.data.size = _; simp
    omega
set_option maxRecDepth 10000 in
theorem open_curs {r : Reach} {b0 : Nat} {v : Value} {d : DataW H} {p : List MemPlace} (hv : Value.okWide Tryz.prog w r b0 61 v) (h : DataW.Trod enc Tryz.prog w base spare held 61 v d p) :
    ∃ (A : Option Addr) (n c : Nat) (ts : List Cur), v = .slice A n c ∧ ts.length = n ∧ n ≤ c ∧ n ≤ 9223372036854775807 ∧ ShortC ts ∧ CurAt w A ts := by
  obtain ⟨A, n, c, rfl⟩ := okWide_slice Tryz.underlying61 hv
  obtain ⟨fuel, hf⟩ := h
  rcases open_slice Tryz.underlying61 hf with ⟨hcs, -⟩ | ⟨a, len, cap, m, k, D, Pl, hcs, -, hl, hm, hmm, -, hi⟩
  · have hcs : [Value.slice A n c] = [.slice none 0 0] := hcs
    injection hcs with hcs
    injection hcs with h1 h2 h3
    subst h1 h2 h3
    exact ⟨none, 0, 0, [], rfl, rfl, Nat.le_refl _, by omega, fun t ht => by simp at ht, fun i x hx => by simp at hx⟩
  · have hcs : [Value.slice A n c] = [.slice (some a) len cap] := hcs
    injection hcs with hcs
    injection hcs with h1 h2 h3
    subst h1 h2 h3
    have hnm : n ≤ m := by rw [hmm]; split <;> omega
    unfold maxLen at hm
    rw [czk_cur] at hi
    have hy : ∀ i, i < n → ∃ t : Cur, (w.cell? ((a.add (i * 2)).add 0) = some (.string ⟨t.code.toArray⟩) ∧ w.cell? ((a.add (i * 2)).add 1) = some (.int .i64 t.places)) ∧ t.code.length ≤ 9223372036854775807 := fun i hin => by
      obtain ⟨cs', hc, ht⟩ := hi i (by omega)
      obtain ⟨t, hy, hlen⟩ := cur_of_trod ht
      obtain ⟨_, hcl, hat⟩ := World.cells?_some hc
      exact ⟨t, ⟨by rw [hat 0 (by decide), hy]; rfl, by rw [hat 1 (by decide), hy]; rfl⟩, hlen⟩
    have hget : ∀ i t, ((List.range n).map fun i => if hin : i < n then (hy i hin).choose else ⟨[], 0⟩)[i]? = some t → ∃ hin : i < n, (hy i hin).choose = t := fun i t hx => by
      have hin : i < n := by
        have := (List.getElem?_eq_some_iff.1 hx).1
        simpa using this
      rw [List.getElem?_map, List.getElem?_range hin] at hx
      simp only [Option.map_some, dif_pos hin, Option.some.injEq] at hx
      exact ⟨hin, hx⟩
    refine ⟨some a, n, c, (List.range n).map fun i => if hin : i < n then (hy i hin).choose else ⟨[], 0⟩, rfl, by simp, hl, by omega, ?_, ?_⟩
    · intro t ht
      obtain ⟨i, hi⟩ := List.getElem?_of_mem ht
      obtain ⟨hin, rfl⟩ := hget i t hi
      exact (hy i hin).choose_spec.2
    · intro i t hx
      obtain ⟨hin, rfl⟩ := hget i t hx
      have hcell := (hy i hin).choose_spec.1
      obtain ⟨hs0, hbl⟩ := cell_plain' (hy 0 (by omega)).choose_spec.1.1
      generalize (hy i hin).choose = t at hcell ⊢
      obtain ⟨b, o, s⟩ := a
      have hz : ((⟨b, o, s⟩ : Addr).add (0 * 2)).add 0 = ⟨b, o, s⟩ := by simp [Addr.add]
      rw [hz] at hs0 hbl
      have hs0 : s = none := hs0
      subst hs0
      rw [Lib.add_plain, Lib.add_plain, Lib.add_plain] at hcell
      exact ⟨b, o, rfl, hbl, hcell.1, hcell.2⟩
end
end Go.Proofs.YtgnppdkeiihlfaaGreatDoor
namespace Go.Proofs.YtgnppdkeiihlfaaGreatDoor
open Go.RowKit
section
variable {P : Program} {md : Region.Mode}
section
variable {L T : List Oper} {st : Oper} {listed listed0 : Array Bool}
end
end
end Go.Proofs.YtgnppdkeiihlfaaGreatDoor
namespace Go.Proofs.YtgnppdkeiihlfaaGreatDoor
open Go.RowKit
/-- the frame, as a function of what the operations with fresh results yield -/
abbrev SV := (Nat → Value) → Act
/-- what is known of a fresh result, in each world -/
abbrev BV := Nat → Option (World → Value → Prop)
inductive OutV where
  | val (v : Value)
  | new (R : World → Value → Prop)
def OutV.at (i : Nat) (ρ : Nat → Value) : OutV → Value
  | .val v => v
  | .new _ => ρ i
def OutV.bx (i : Nat) (B : BV) : OutV → BV
  | .val _ => B
  | .new R => fun k => if k = i then some R else B k
def updV (ρ : Nat → Value) (i : Nat) (v : Value) : Nat → Value := fun k => if k = i then v else ρ k
def valUpon (P : Program) (w : World) (v : Value) : Result Next → Prop
  | .ok (.value u) w' => w' = w ∧ u = v
  | .ok .skip w' => w' = w ∧ v = undef
  | .ok (.enter f args) w' => w' = w ∧ Calls P f args w (fun e w'' => e = .returned v ∧ Below w.heap.size w w'')
  | _ => False
def newUpon (P : Program) (w : World) (R : World → Value → Prop) : Result Next → Prop
  | .ok (.value u) w' => Below w.heap.size w w' ∧ R w' u
  | .ok (.enter f args) w' => w' = w ∧ Calls P f args w (fun e w'' => ∃ u, e = .returned u ∧ Below w.heap.size w w'' ∧ R w'' u)
  | _ => False
section
variable {P : Program} {ops : Array Oper} {md : Region.Mode} {C : World → Prop}
def YieldsV (P : Program) (ops : Array Oper) (C : World → Prop) (o : Oper) (a : SV) : OutV → Prop
  | .val v => (∀ ρ, Region.wanted o (yielded ops (a ρ).tmps) = true ∧ ∀ w, C w → valUpon P w v ((execOp (a ρ).eval o).run P w)) ∨ ((∀ ρ, Region.wanted o (yielded ops (a ρ).tmps) = false) ∧ v = undef)
  | .new R => (∀ w w' u, R w u → Below w.heap.size w w' → R w' u) ∧ ∀ ρ, Region.wanted o (yielded ops (a ρ).tmps) = true ∧ ∀ w, C w → newUpon P w R ((execOp (a ρ).eval o).run P w)
theorem YieldsV.of_same {o : Oper} {x : OutV} {a a' : SV} (hy : YieldsV P ops C o a x) (he : ∀ ρ, execOp (a' ρ).eval o = execOp (a ρ).eval o)
    (hw : ∀ ρ, Region.wanted o (yielded ops (a' ρ).tmps) = Region.wanted o (yielded ops (a ρ).tmps)) : YieldsV P ops C o a' x := by
  cases x <;> simp only [YieldsV, he, hw] at * <;> exact hy
def vOp (P : Program) (ops : Array Oper) (C : World → Prop) (i : Nat) (K : SV → BV → Prop) (a : SV) (B : BV) : Prop :=
  match ops[i]? with
  | none => K a B
  | some o => ∃ x : OutV, YieldsV P ops C o a x ∧ K (fun ρ => (a ρ).put o.dst (x.at i ρ)) (x.bx i B)
theorem vOp_mono {i : Nat} {a : SV} {B : BV} {K K' : SV → BV → Prop} (h : ∀ a B, K a B → K' a B) (hh : vOp P ops C i K a B) : vOp P ops C i K' a B := by
  unfold vOp at *
  split
  · exact h _ _ (by simpa [*] using hh)
  · rename_i o ho
    simp only [ho] at hh
    obtain ⟨x, h1, h2⟩ := hh
    exact ⟨x, h1, h _ _ h2⟩
def wpAnyV (P : Program) (md : Region.Mode) (ops : Array Oper) (C : World → Prop) (Q : SV → BV → Prop) : Nat → Array Bool → SV → BV → Prop
  | 0, listed, a, B => Region.ready md ops listed = [] ∧ Q a B
  | fuel + 1, listed, a, B =>
    (Region.ready md ops listed = [] → Q a B) ∧
    ∀ i ∈ Region.ready md ops listed, vOp P ops C i (wpAnyV P md ops C Q fuel (listed.setIfInBounds i true)) a B
theorem bv_move {i j : Nat} (h : i ≠ j) (x y : OutV) (B : BV) : y.bx j (x.bx i B) = x.bx i (y.bx j B) := by
  cases x <;> cases y <;> try rfl
  funext k
  simp only [OutV.bx]
  by_cases h1 : k = j
  · rw [if_pos h1, if_neg (by omega), if_pos h1]
  · rw [if_neg h1]
    by_cases h2 : k = i
    · rw [if_pos h2, if_pos h2]
    · rw [if_neg h2, if_neg h2, if_neg h1]
theorem vOp_put {i j : Nat} {oi oj : Oper} {x : OutV} (hij : i ≠ j) (hj : ops[j]? = some oj) (hap : oi.apart ops oj = true)
    (hsi : ∀ cs b, oi.op ≠ .select cs b) (hsj : ∀ cs b, oj.op ≠ .select cs b) {K : SV → BV → Prop} {a : SV} {B : BV}
    (hy : YieldsV P ops C oi a x) (h : vOp P ops C j K (fun ρ => (a ρ).put oi.dst (x.at i ρ)) (x.bx i B)) :
    vOp P ops C j (fun a' B' => YieldsV P ops C oi a' x ∧ K (fun ρ => (a' ρ).put oi.dst (x.at i ρ)) (x.bx i B')) a B := by
  obtain ⟨h1, h2, h3⟩ := Oper.apart_spec hap
  unfold vOp at *
  simp only [hj] at *
  obtain ⟨y, hy', hK⟩ := h
  refine ⟨y, hy'.of_same (fun ρ => (execOp_put oj hsj (a ρ) oi.dst _ h1).symm) (fun ρ => (wanted_put oj (a ρ) oi.dst _ h1).symm),
    hy.of_same (fun ρ => execOp_put oi hsi (a ρ) oj.dst _ h3) (fun ρ => wanted_put oi (a ρ) oj.dst _ h3), ?_⟩
  have e1 : (fun ρ => ((a ρ).put oj.dst (y.at j ρ)).put oi.dst (x.at i ρ)) = fun ρ => ((a ρ).put oi.dst (x.at i ρ)).put oj.dst (y.at j ρ) := by
    funext ρ; exact (Act.put_comm (a ρ) _ _ h2).symm
  rw [e1, ← bv_move hij]
  exact hK
theorem wpAnyV_first {Q : SV → BV → Prop} {i : Nat} {oi : Oper} {x : OutV} (hi : ops[i]? = some oi) (hsel : ∀ (j : Nat) (o : Oper) cs b, ops[j]? = some o → o.op ≠ .select cs b) :
    ∀ (fuel : Nat) (listed : Array Bool) (a : SV) (B : BV),
      (∀ j oj, ops[j]? = some oj → j ≠ i → listed.getD j true = false → (∀ e ∈ oj.after, Region.binds md e = true → e.on ≠ i) → oi.apart ops oj = true) →
      i ∈ Region.ready md ops listed → YieldsV P ops C oi a x →
      wpAnyV P md ops C Q fuel (listed.setIfInBounds i true) (fun ρ => (a ρ).put oi.dst (x.at i ρ)) (x.bx i B) → wpAnyV P md ops C Q (fuel + 1) listed a B := by
  intro fuel
  induction fuel with
  | zero =>
    intro listed a B _ hr hy H
    refine ⟨fun h => (by rw [h] at hr; cases hr), fun j hj => ?_⟩
    by_cases hji : j = i
    · subst hji; unfold vOp; simp only [hi]; exact ⟨x, hy, H⟩
    · have := ready_mono hj hji
      rw [H.1] at this
      cases this
  | succ fuel ih =>
    intro listed a B hfree hr hy H
    refine ⟨fun h => (by rw [h] at hr; cases hr), fun j hj => ?_⟩
    by_cases hji : j = i
    · subst hji; unfold vOp; simp only [hi]; exact ⟨x, hy, H⟩
    · have h1 := H.2 j (ready_mono hj hji)
      obtain ⟨hjun, oj, hoj, hall⟩ := mem_ready.1 hj
      have hnot : ∀ e ∈ oj.after, Region.binds md e = true → e.on ≠ i := fun e he hb heq => by
        have h1 := hall e he hb
        have h0 := (mem_ready.1 hr).1
        rw [heq] at h1
        rcases Nat.lt_or_ge i listed.size with h' | h'
        · simp [h'] at h0 h1; rw [h0] at h1; cases h1
        · simp [Array.getElem?_eq_none h'] at h1
      have h2 := vOp_put (Ne.symm hji) hoj (hfree j oj hoj hji hjun hnot) (fun cs b => hsel i oi cs b hi) (fun cs b => hsel j oj cs b hoj) hy h1
      have hfree' : ∀ k ok, ops[k]? = some ok → k ≠ i → (listed.setIfInBounds j true).getD k true = false →
          (∀ e ∈ ok.after, Region.binds md e = true → e.on ≠ i) → oi.apart ops ok = true := fun k ok hk hki hun hno => by
        refine hfree k ok hk hki ?_ hno
        by_cases hjk : j = k
        · subst hjk; exact hjun
        · rw [getD_set_ne true hjk] at hun; exact hun
      refine vOp_mono (fun a' B' h3 => ih (listed.setIfInBounds j true) a' B' hfree' (ready_mono hr (Ne.symm hji)) h3.1 ?_) h2
      rw [Array.setIfInBounds_comm _ _ hji]
      exact h3.2
def wpFresh (P : Program) (ops : Array Oper) (C : World → Prop) (Q : SV → BV → Prop) : List Oper → Nat → SV → BV → Prop
  | [], _, a, B => Q a B
  | o :: rest, i, a, B => ∃ x : OutV, YieldsV P ops C o a x ∧ wpFresh P ops C Q rest (i + 1) (fun ρ => (a ρ).put o.dst (x.at i ρ)) (x.bx i B)
theorem wpAnyV_lex {Q : SV → BV → Prop} (hs : Region.noSelect ops = true) : ∀ (l : List Oper) (k : Nat) (listed : Array Bool) (a : SV) (B : BV), (∀ j, l[j]? = ops[k + j]?) →
    Region.lexFrom md ops l.length k listed = true → wpFresh P ops C Q l k a B → wpAnyV P md ops C Q l.length listed a B
  | [], _, _, _, _, _, hB, h => ⟨by simpa [Region.lexFrom] using hB, h⟩
  | o :: l, k, listed, a, B, hl, hB, h => by
    have h0 : ops[k]? = some o := by simpa using (hl 0).symm
    simp only [List.length_cons, Region.lexFrom, Bool.and_eq_true] at hB
    obtain ⟨⟨hr, hf⟩, hB'⟩ := hB
    obtain ⟨x, hy, hK⟩ := h
    exact wpAnyV_first h0 (Region.noSelect_spec hs) l.length listed a B (Region.free_spec h0 hf) (by simpa using hr) hy
      (wpAnyV_lex hs l (k + 1) _ _ _ (fun j => by have := hl (j + 1); simpa [Nat.add_assoc, Nat.add_comm 1 j] using this) hB' hK)
/-- what is known of the memory behind the region -/
structure FitsV (w0 : World) (ρ : Nat → Value) (B : BV) (w : World) : Prop where
  below : Below w0.heap.size w0 w
  box : ∀ i R, B i = some R → R w (ρ i) ∧ ∀ w w' u, R w u → Below w.heap.size w w' → R w' u
theorem FitsV.go {w0 w w' : World} {ρ : Nat → Value} {B : BV} (h : FitsV w0 ρ B w) (hb : Below w.heap.size w w') : FitsV w0 ρ B w' :=
  ⟨h.below.trans (hb.mono h.below.size), fun i R hi => ⟨(h.box i R hi).2 _ _ _ (h.box i R hi).1 hb, (h.box i R hi).2⟩⟩
theorem FitsV.new {w0 w w' : World} {ρ : Nat → Value} {B : BV} (h : FitsV w0 ρ B w) (hb : Below w.heap.size w w') (i : Nat) {R : World → Value → Prop} {u : Value} (hR : R w' u) (hs : ∀ w w' u, R w u → Below w.heap.size w w' → R w' u) :
    FitsV w0 (updV ρ i u) ((OutV.new R).bx i B) w' := by
  have h' := h.go hb
  refine ⟨h'.below, fun k R' hk => ?_⟩
  simp only [OutV.bx, updV] at *
  by_cases hki : k = i
  · rw [if_pos hki] at hk ⊢
    injection hk with hk
    subst hk
    exact ⟨hR, hs⟩
  · rw [if_neg hki] at hk ⊢
    exact h'.box k R' hk
def FreeV (listed : Array Bool) (a : SV) : Prop := ∀ (i : Nat) (ρ : Nat → Value) (b : Value), listed.getD i true = false → a (updV ρ i b) = a ρ
theorem FreeV.put {listed : Array Bool} {a : SV} (h : FreeV listed a) {i : Nat} (hi : listed.getD i true = false) (d : Option Tmp) (x : OutV) :
    FreeV (listed.setIfInBounds i true) (fun ρ => (a ρ).put d (x.at i ρ)) := by
  intro k ρ b hk
  have hlt : i < listed.size := by
    rcases Nat.lt_or_ge i listed.size with h' | h'
    · exact h'
    · simp [Array.getElem?_eq_none h'] at hi
  have hki : k ≠ i := fun e => by subst e; simp [hlt] at hk
  have hk' : listed.getD k true = false := by rwa [getD_set_ne true (Ne.symm hki)] at hk
  show (a (updV ρ k b)).put d _ = _
  rw [h k ρ b hk']
  cases x with
  | val v => rfl
  | new R =>
    show (a ρ).put d (updV ρ k b i) = (a ρ).put d (ρ i)
    have : updV ρ k b i = ρ i := if_neg (Ne.symm hki)
    rw [this]
theorem wpAny_of_fresh {w0 : World} {Q : SV → BV → Prop} {Q' : Exit → Act → World → Prop} (hQ : ∀ a B ρ w, FitsV w0 ρ B w → Q a B → Q' .normal (a ρ) w) :
    ∀ (fuel : Nat) (listed : Array Bool) (a : SV) (B : BV) (ρ : Nat → Value) (w : World), FitsV w0 ρ B w → FreeV listed a →
    wpAnyV P md ops (fun w => Below w0.heap.size w0 w) Q fuel listed a B → wpAny P md ops Q' fuel listed (a ρ) w
  | 0, _, _, _, _, _, hf, _, h => ⟨h.1, hQ _ _ _ _ hf h.2⟩
  | fuel + 1, listed, a, B, ρ, w, hf, hfr, h => by
    refine ⟨fun h0 => hQ _ _ _ _ hf (h.1 h0), fun i hi => ?_⟩
    have h1 := h.2 i hi
    obtain ⟨hun, o, ho, _⟩ := mem_ready.1 hi
    unfold vOp at h1
    simp only [ho] at h1
    obtain ⟨x, hy, hK⟩ := h1
    have hfr' := hfr.put hun o.dst x
    unfold wpOp
    simp only [ho]
    cases x with
    | val v =>
      simp only [YieldsV] at hy
      rcases hy with hy | ⟨hw, rfl⟩
      · obtain ⟨hw, hr⟩ := hy ρ
        simp only [hw, if_true]
        refine .inl ?_
        have h3 := hr w hf.below
        unfold Oper.wp
        generalize (execOp (a ρ).eval o).run P w = r at *
        cases r with
        | ok n w' =>
          cases n <;> simp only [valUpon] at h3 <;> simp only [Oper.upon]
          case value u =>
            obtain ⟨e1, e2⟩ := h3
            rw [e1, e2]
            exact wpAny_of_fresh hQ fuel _ _ B ρ w hf hfr' hK
          case skip =>
            obtain ⟨e1, e2⟩ := h3
            rw [e1, ← e2]
            exact wpAny_of_fresh hQ fuel _ _ B ρ w hf hfr' hK
          case enter f args =>
            obtain ⟨e1, hc⟩ := h3
            rw [e1]
            exact hc.mono fun e w'' ⟨he, hw''⟩ => by subst he; exact wpAny_of_fresh hQ fuel _ _ B ρ w'' (hf.go hw'') hfr' hK
        | halt x w' => simp only [valUpon] at h3
      · simp only [hw ρ, Bool.false_eq_true, if_false]
        exact wpAny_of_fresh hQ fuel _ _ B ρ w hf hfr' hK
    | new R =>
      simp only [YieldsV] at hy
      obtain ⟨hs, hy⟩ := hy
      obtain ⟨hw, hr⟩ := hy ρ
      simp only [hw, if_true]
      refine .inl ?_
      have h3 := hr w hf.below
      have key : ∀ u w', Below w.heap.size w w' → R w' u → wpAny P md ops Q' fuel (listed.setIfInBounds i true) ((a ρ).put o.dst u) w' := fun u w' hb hR => by
        have h5 := wpAny_of_fresh hQ fuel _ _ _ (updV ρ i u) w' (hf.new hb i hR hs) hfr' hK
        have e1 : (a (updV ρ i u)).put o.dst ((OutV.new R).at i (updV ρ i u)) = (a ρ).put o.dst u := by
          show (a (updV ρ i u)).put o.dst (updV ρ i u i) = _
          rw [hfr i ρ _ hun]
          have : updV ρ i u i = u := if_pos rfl
          rw [this]
        rwa [e1] at h5
      unfold Oper.wp
      generalize (execOp (a ρ).eval o).run P w = r at *
      cases r with
      | ok n w' =>
        cases n <;> simp only [newUpon] at h3 <;> simp only [Oper.upon]
        case value u => exact key u w' h3.1 h3.2
        case enter f args =>
          obtain ⟨e1, hc⟩ := h3
          rw [e1]
          exact hc.mono fun e w'' ⟨u, he, hw'', hR⟩ => by subst he; exact key u w'' hw'' hR
      | halt x w' => simp only [newUpon] at h3
theorem wp_region_fresh2 {id : Nat} {Q : Exit → Act → World → Prop} {a : Act} {w : World} {l : List Oper} {s1 s2 : Oper} (hm : P.follows .mixedOrders = true) (hB : Region.lexB .any l.toArray = true) (hU1 : usedB .any l s1 = true) (hU2 : usedB .any (l ++ [s1]) s2 = true) (hg : (l ++ [s1] ++ [s2]).all (fun o => o.guard.isNone) = true)
    (h : wpFresh P l.toArray (fun w' => Below w.heap.size w w') (fun a' B => ∀ ρ w', FitsV w ρ B w' → wpList P (l ++ [s1] ++ [s2]).toArray Q [s1, s2] (a' ρ) w') l 0 (fun _ => a) (fun _ => none)) : (Code.region id (l ++ [s1] ++ [s2]).toArray true).wp P Q a w := by
  simp only [Region.lexB, Bool.and_eq_true] at hB
  have hgs : ∀ o ∈ l ++ [s1] ++ [s2], o.guard = none := fun o ho => by
    have := (List.all_eq_true.1 hg) o ho
    simpa using this
  refine wp_region_any hm ?_
  have hf : FitsV w (fun _ => undef) (fun _ => none) { w with drawn := w.drawn + 1 } :=
    ⟨⟨rfl, rfl, rfl, Nat.le_refl _, fun _ _ => rfl⟩, fun _ _ h => (by cases h)⟩
  have h1 := wpAnyV_lex (C := fun w' => Below w.heap.size w w') (md := .any) hB.1 l 0 (Array.replicate l.toArray.size false) (fun _ => a) (fun _ => none) (by simp) (by simpa using hB.2) h
  have g1 : s1.guard = none := hgs s1 (by simp)
  have g2 : s2.guard = none := hgs s2 (by simp)
  have h2 := wpAny_of_fresh (P := P) (md := .any) (Q := fun a' B => ∀ ρ w', FitsV w ρ B w' → wpList P (l ++ [s1] ++ [s2]).toArray Q [s1, s2] (a' ρ) w') (Q' := Exit.then (wpList P (l ++ [s1]).toArray (Exit.then (wpList P (l ++ [s1] ++ [s2]).toArray Q [s2]) Q) [s1]) (Exit.then (wpList P (l ++ [s1] ++ [s2]).toArray Q [s2]) Q)) (fun a' B ρ w' hf' h' => by
    have h3 : wpList P (l ++ [s1] ++ [s2]).toArray Q [s1, s2] (a' ρ) w' := h' ρ w' hf'
    show wpList P (l ++ [s1]).toArray _ [s1] (a' ρ) w'
    rw [wpList] at h3 ⊢
    simp only [wanted_free g1, if_true] at h3 ⊢
    rcases h3 with h3 | h3
    · exact .inl (Oper.wp_mono2 (fun a w h => h) (fun _ _ _ h => h) (fun ⟨a, w, h⟩ => ⟨a, w, h⟩) h3)
    · exact .inr ⟨h3.1, (fun ⟨a, w, h⟩ => ⟨a, w, h⟩) h3.2⟩) l.toArray.size _ (fun _ => a) (fun _ => none) (fun _ => undef) _ hf (fun _ _ _ _ => rfl) (by simpa using h1)
  have h3 := wpAny_snoc (P := P) (md := .any) hU1 g1 (fun o ho => hgs o (by simp [ho])) _ _ _ a _ (tw_start l s1) h2
  have h4 := wpAny_snoc (P := P) (md := .any) hU2 g2 (fun o ho => hgs o (List.mem_append_left _ ho)) _ _ _ a _ (tw_start (l ++ [s1]) s2) h3
  simpa using h4
theorem wp_region_fresh2D {id : Nat} {Q : Exit → Act → World → Prop} {a : Act} {w : World} {L : List Oper} (hne : L ≠ []) (hne2 : L.dropLast ≠ []) (hm : P.follows .mixedOrders = true) (hB : Region.lexB .any L.dropLast.dropLast.toArray = true) (hU1 : usedB .any L.dropLast.dropLast (L.dropLast.getLast hne2) = true) (hU2 : usedB .any L.dropLast (L.getLast hne) = true) (hg : L.all (fun o => o.guard.isNone) = true)
    (h : wpFresh P L.dropLast.dropLast.toArray (fun w' => Below w.heap.size w w') (fun a' B => ∀ ρ w', FitsV w ρ B w' → wpList P L.toArray Q [L.dropLast.getLast hne2, L.getLast hne] (a' ρ) w') L.dropLast.dropLast 0 (fun _ => a) (fun _ => none)) : (Code.region id L.toArray true).wp P Q a w := by
  have e1 : L.dropLast.dropLast ++ [L.dropLast.getLast hne2] = L.dropLast := List.dropLast_concat_getLast hne2
  have e2 : L.dropLast ++ [L.getLast hne] = L := List.dropLast_concat_getLast hne
  have := wp_region_fresh2 (P := P) (id := id) (Q := Q) (a := a) (w := w) (l := L.dropLast.dropLast) (s1 := L.dropLast.getLast hne2) (s2 := L.getLast hne) hm hB hU1 (by rw [e1]; exact hU2) (by rw [e1, e2]; exact hg) (by rw [e1, e2]; exact h)
  rwa [e1, e2] at this
/-! The steps. -/
variable {Q : SV → BV → Prop} {o : Oper} {rest : List Oper} {i : Nat} {a : SV} {B : BV}
theorem fresh_val (v : Value) (hw : ∀ ρ, Region.wanted o (yielded ops (a ρ).tmps) = true) (h : ∀ ρ w, C w → (execOp (a ρ).eval o).run P w = .ok (.value v) w)
    (hn : wpFresh P ops C Q rest (i + 1) (fun ρ => (a ρ).put o.dst v) B) : wpFresh P ops C Q (o :: rest) i a B :=
  ⟨.val v, .inl fun ρ => ⟨hw ρ, fun w hc => by rw [h ρ w hc]; exact ⟨rfl, rfl⟩⟩, hn⟩
theorem fresh_new (f : FuncId) (args : Array Value) (R : World → Value → Prop) (hs : ∀ w w' u, R w u → Below w.heap.size w w' → R w' u) (hw : ∀ ρ, Region.wanted o (yielded ops (a ρ).tmps) = true) (h : ∀ ρ w, C w → (execOp (a ρ).eval o).run P w = .ok (.enter f args) w)
    (hc : ∀ w, C w → Calls P f args w fun e w' => ∃ u, e = .returned u ∧ Below w.heap.size w w' ∧ R w' u)
    (hn : wpFresh P ops C Q rest (i + 1) (fun ρ => (a ρ).put o.dst (ρ i)) (fun k => if k = i then some R else B k)) : wpFresh P ops C Q (o :: rest) i a B :=
  ⟨.new R, ⟨hs, fun ρ => ⟨hw ρ, fun w hC => by rw [h ρ w hC]; exact ⟨rfl, hc w hC⟩⟩⟩, hn⟩
theorem fresh_box (mk : Nat → Value) (ob : Obj) (hw : ∀ ρ, Region.wanted o (yielded ops (a ρ).tmps) = true) (h : ∀ ρ w, C w → (execOp (a ρ).eval o).run P w = .ok (.value (mk w.heap.size)) (w.alloc ob)) (w0 : World) (hC : ∀ w, C w → w0.heap.size ≤ w.heap.size)
    (hn : wpFresh P ops C Q rest (i + 1) (fun ρ => (a ρ).put o.dst (ρ i)) (fun k => if k = i then some (fun w u => ∃ b, u = mk b ∧ w0.heap.size ≤ b ∧ w.heap[b]? = some ob) else B k)) : wpFresh P ops C Q (o :: rest) i a B :=
  ⟨.new (fun w u => ∃ b, u = mk b ∧ w0.heap.size ≤ b ∧ w.heap[b]? = some ob), ⟨fun w w' u ⟨b, e, h0, h1⟩ hb => ⟨b, e, h0, (hb.block _ (Array.getElem?_eq_some_iff.1 h1).1).trans h1⟩, fun ρ => ⟨hw ρ, fun w hc => by
    rw [h ρ w hc]
    exact ⟨below_alloc w ob, w.heap.size, rfl, hC w hc, heap_alloc_new w ob⟩⟩⟩, hn⟩
end
end Go.Proofs.YtgnppdkeiihlfaaGreatDoor
