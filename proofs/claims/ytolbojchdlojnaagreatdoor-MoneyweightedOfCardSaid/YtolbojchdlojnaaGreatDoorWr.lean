/- Rows of payments that grow; payments of one period taken together. -/
import Derived.Test.YtolbojchdlojnaaGreatDoorLm5
import Derived.Test.YtolbojchdlojnaaGreatDoorBr
namespace Go.Proofs.YtolbojchdlojnaaGreatDoor
open Go.RowKit Num
section
variable {P : Program} {w : World}
theorem run_append_fresh (base : Nat) (t ty e : TypeId) (i : TypeInfo) (z : Value) (size bytes : Nat) (ht : P.underlying t = some (.slice e)) (hi : P.info? e = some i) (hz : i.zero = some z)
    (hsize : i.size = size) (hby : i.bytes = bytes) (hzs : z.cells.size = size) (hsz : 0 < size)
    (v : Value) (n : Nat) (xs : List Value) (hown : w.ownsRow base e size v n xs)
    (a : Addr) (m c : Nat) (news : List Value) (hl : news.length = m * size) (hnews : ∀ j u, news[j]? = some u → w.cell? (a.add j) = some u) (h1 : ∀ u ∈ news, u.oneCell' = true)
    (h63 : n + m ≤ maxLen) (hbytes : (n + m) * bytes ≤ 140737488355328) {v' : Value} {w' : World} (hr : (Builtin.append_ #[t, t] ty #[v, .slice (some a) m c]).run P w = .ok v' w') :
    ∀ g, v'.ownBlock = some g → v.ownBlock = some g ∨ w.heap.size ≤ g := by
  intro g hg
  have hsmall : n + m ≤ 9223372036854775807 := by simp only [maxLen] at h63; omega
  rcases hown.2 with ⟨rfl, rfl⟩ | ⟨g0, cap, cur, rfl, hbg, hgg, hnc, hcm, hcs, htake⟩
  · obtain ⟨v2, w2, hr2, h2, -, -⟩ := run_append_own (P := P) w w.heap.size t ty e i z size bytes ht hi hz hsize hby hzs hsz (.slice none 0 0) 0 [] (World.ownsRow_nil w w.heap.size e size) a m c news hl hnews h1 h63 hbytes (Nat.le_refl _)
    rw [hr] at hr2
    injection hr2 with e1 e2
    subst e1 e2
    exact .inr (h2.lt g hg).1
  · subst hsize
    subst hby
    by_cases hroom : n + m ≤ cap
    · have hfit : n * i.size + news.length ≤ cur.size := by rw [hl, hcs, ← Nat.add_mul]; exact Nat.mul_le_mul_right _ hroom
      have hr2 := run_append_room (P := P) w t ty e i ht hi g0 n cap cur hgg a m c news hl hnews h1 hroom hfit
      rw [hr] at hr2
      injection hr2 with e1 e2
      subst e1
      exact .inl hg
    · have holds : ∀ j u, xs[j]? = some u → w.cell? ((⟨g0, 0, none⟩ : Addr).add j) = some u := hown.cells (g := g0) rfl
      have hr2 := run_append_grow (P := P) w t ty e i z ht hi hz ⟨g0, 0, none⟩ n cap xs hown.1 holds a m c news hl hnews (by omega) (by omega) (growslice_fits (by omega) hbytes)
      rw [hr] at hr2
      injection hr2 with e1 e2
      subst e1
      injection hg with hg
      exact .inr (Nat.le_of_eq hg)
theorem wpList_append_fresh {ops : Array Oper} {rest : List Oper} {o : Oper} {a : Act} {Q : Exit → Act → World → Prop} (hgd : o.guard = none) (s x : Operand) (t : TypeId)
    (ho : o.op = .call { callee := .builtin .append, args := #[s, x], argTypes := #[t, t] })
    (base : Nat) (e : TypeId) (i : TypeInfo) (z : Value) (size bytes : Nat) (ht : P.underlying t = some (.slice e)) (hi : P.info? e = some i) (hz : i.zero = some z)
    (hsize : i.size = size) (hby : i.bytes = bytes) (hzs : z.cells.size = size) (hsz : 0 < size)
    (v : Value) (n : Nat) (xs : List Value) (hs : a.eval s = v) (hown : w.ownsRow base e size v n xs)
    (ad : Addr) (m c : Nat) (news : List Value) (hx : a.eval x = .slice (some ad) m c) (hl : news.length = m * size) (hnews : ∀ j u, news[j]? = some u → w.cell? (ad.add j) = some u) (h1 : ∀ u ∈ news, u.oneCell' = true)
    (h63 : n + m ≤ maxLen) (hbytes : (n + m) * bytes ≤ 140737488355328) (hbase : base ≤ w.heap.size)
    (h : ∀ v' w', w'.ownsRow base e size v' (n + m) (xs ++ news) → w.grownBy w' v.ownBlock → (∀ g, v'.ownBlock = some g → v.ownBlock = some g ∨ w.heap.size ≤ g) → wpList P ops Q rest (a.put o.dst v') w') : wpList P ops Q (o :: rest) a w :=
  wpList_plain hgd fun _ hK => by
    obtain ⟨v', w', hr, h2, h3, -⟩ := run_append_own (P := P) w base t o.type e i z size bytes ht hi hz hsize hby hzs hsz v n xs hown ad m c news hl hnews h1 h63 hbytes hbase
    have h5 := run_append_fresh (P := P) base t o.type e i z size bytes ht hi hz hsize hby hzs hsz v n xs hown ad m c news hl hnews h1 h63 hbytes hr
    unfold Oper.wp execOp
    simp only [ho, resolve, invoke, builtin, Sem.run_bind, Sem.run_pure, Result.andThen_ok, List.map_toArray, List.map_cons, List.map_nil, hs, hx, hr]
    exact hK _ _ (h v' w' h2 h3 h5)
end
/-- two rows that do not share their block -/
def Dis (u v : Value) : Prop := ∀ g, u.ownBlock = some g → v.ownBlock ≠ some g
theorem Dis.symm {u v : Value} (h : Dis u v) : Dis v u := fun g hv hu => h g hu hv
theorem FBox.grown {w w' : World} {b : Nat} {u v : Value} {row : Option Nat} (h : FBox w b u v) (hg : w.grownBy w' row) (hn : row ≠ some b) : FBox w' b u v := by
  have hk := hg.block b h.lt (fun e => hn e.symm)
  refine ⟨(World.cell?_of_block (a := ⟨b, 0, none⟩) hk).trans h.c0, (World.cell?_of_block (a := ⟨b, 1, none⟩) hk).trans h.c1, (World.frozen?_of_block (a := ⟨b, 0, none⟩) hk).trans h.f0, (World.frozen?_of_block (a := ⟨b, 1, none⟩) hk).trans h.f1, Nat.lt_of_lt_of_le h.lt hg.size⟩
def ORow (w : World) (B : Nat) (v : Value) (xs : List Pay) : Prop := w.ownsRow B 27 2 v xs.length (rowsP xs)
section
variable {w w' : World} {B b i : Nat} {u v v' : Value} {xs : List Pay}
theorem ORow.grown (h : ORow w B v xs) (hg : w.grownBy w' u.ownBlock) (hd : Dis v u) : ORow w' B v xs := World.ownsRow.kept h hg (by
  cases hv : v.ownBlock with
  | none => exact .inl rfl
  | some g => exact .inr (fun e => hd g hv e.symm))
theorem ORow.below (h : ORow w B v xs) (hb : Below w.heap.size w w') : ORow w' B v xs := by
  refine ⟨h.1, ?_⟩
  rcases h.2 with h2 | ⟨g, cap, cur, e, hB, hg, r⟩
  · exact .inl h2
  · exact .inr ⟨g, cap, cur, e, hB, (hb.block g (Array.getElem?_eq_some_iff.1 hg).1).trans hg, r⟩
theorem ORow.block (h : ORow w B v xs) : ∀ g, v.ownBlock = some g → B ≤ g ∧ g < w.heap.size := World.ownsRow.lt h
theorem ORow.form (h : ORow w B v xs) : ∃ A c, v = .slice A xs.length c := by
  rcases h.2 with ⟨e, hn⟩ | ⟨g, cap, cur, e, -⟩
  · exact ⟨none, 0, by rw [e, hn]⟩
  · exact ⟨_, _, e⟩
theorem ORow.row (h : ORow w B v xs) (h0 : 0 < xs.length) : ∃ g c, v = .slice (some ⟨g, 0, none⟩) xs.length c ∧ B ≤ g ∧ PRow w g xs := by
  obtain ⟨A, c, rfl⟩ := h.form
  obtain ⟨g, rfl, hB, hp⟩ := own_prow (show w.ownsRow B 27 2 (.slice A xs.length c) xs.length (rowsP xs) from h) rfl h0
  exact ⟨g, c, rfl, hB, hp⟩
theorem ORow.payAt (h : ORow w B v xs) {A : Option Addr} {n c : Nat} (e : v = .slice A n c) : PayAt w A xs := by
  by_cases h0 : 0 < xs.length
  · obtain ⟨g, c', e2, -, hp⟩ := h.row h0
    rw [e] at e2
    injection e2 with e2
    subst e2
    exact hp.payAt
  · have : xs = [] := List.eq_nil_of_length_eq_zero (by omega)
    subst this
    exact fun i x hx => by simp at hx
theorem ORow.set {c : Nat} {g : Nat} {x : Pay} (h : ORow w B (.slice (some ⟨g, 0, none⟩) xs.length c) xs) (hx : xs[i]? = some x) (a : List UInt8) : ORow (w.setCell ⟨g, i * 2 + 1, none⟩ (.string ⟨a.toArray⟩)) B (.slice (some ⟨g, 0, none⟩) xs.length c) (xs.set i ⟨x.per, a⟩) := by
  have hl : (xs.set i ⟨x.per, a⟩).length = xs.length := List.length_set ..
  refine ⟨by rw [rowsP_len], ?_⟩
  rcases h.2 with ⟨e, hn⟩ | ⟨g', cap, cur, e, hB, hg, h1, h2, h3, h4⟩
  · cases e
  · injection e with e1 e2 e3
    injection e1 with e1
    injection e1 with e1
    subst e1 e3
    refine .inr ⟨g, c, cur.setIfInBounds (i * 2 + 1) (.string ⟨a.toArray⟩), by rw [hl], hB, ?_, by rw [hl]; exact h1, h2, by rw [Array.size_setIfInBounds]; exact h3, ?_⟩
    · obtain ⟨hlt, hk⟩ := Array.getElem?_eq_some_iff.1 hg
      show (w.heap.modify g _)[g]? = _
      rw [Array.getElem?_eq_getElem (by rw [Array.size_modify]; exact hlt), Array.getElem_modify_self, hk]
      simp
    · rw [hl, Array.toList_setIfInBounds, List.take_set, h4, rowsP_set a hx]
theorem ORow.far (h : ORow w B v xs) (hn : v.ownBlock ≠ some b) : ORow (w.setCell ⟨b, i, none⟩ u) B v xs := by
  refine ⟨h.1, ?_⟩
  rcases h.2 with h2 | ⟨g, cap, cur, e, hB, hg, r⟩
  · exact .inl h2
  · refine .inr ⟨g, cap, cur, e, hB, (Below.heap_setCell w ⟨b, i, none⟩ u g (fun hgb => hn (by rw [e]; exact congrArg some hgb))).trans hg, r⟩
theorem below_grown {w0 : World} (h : Below w0.heap.size w0 w) (hg : w.grownBy w' v.ownBlock) (ho : ∀ g, v.ownBlock = some g → w0.heap.size ≤ g) : Below w0.heap.size w0 w' := h.grown hg h.size (fun k hk => ho k hk)
end
/-- what is taken together behind k payments -/
def grpT (pe c : Int) (l : List PZ) : List PZ := if l.head?.map (·.1) = some pe then grpL c l else (pe, c) :: grpL 0 l
structure Tg (ps : List Pay) (k : Nat) (acc : List Pay) : Prop where
  el : ∀ q ∈ acc, q.amt = canon (val q.amt) ∧ (val q.amt).natAbs < 10 ^ (13 + k) ∧ ∃ p ∈ ps, p.per = q.per
  len : acc.length ≤ k
  rel : (k = 0 ∧ acc = []) ∨ ∃ init y, acc = init ++ [y] ∧ pzs init ++ grpT y.per (val y.amt) (pzs (ps.drop k)) = grpL 0 (pzs ps)
theorem pzs_app (xs ys : List Pay) : pzs (xs ++ ys) = pzs xs ++ pzs ys := List.map_append
theorem pow_more {a k : Nat} (h : a < 10 ^ (13 + k)) : a < 10 ^ (13 + (k + 1)) := Nat.lt_of_lt_of_le h (Nat.pow_le_pow_right (by decide) (by omega))
theorem Tg.start (ps : List Pay) : Tg ps 0 [] := ⟨fun q hq => (by cases hq), Nat.le_refl _, .inl ⟨rfl, rfl⟩⟩
theorem grpL_step (p : PZ) (r : List PZ) (s : Int) : grpL s (p :: r) = grpT p.1 (s + p.2) r := rfl
theorem Tg.new {ps : List Pay} {k : Nat} {acc : List Pay} {t : Pay} (h : Tg ps k acc) (ht : ps[k]? = some t) (hc : t.amt = canon (val t.amt)) (hv : (val t.amt).natAbs < 10 ^ 13) (hn : ∀ y, acc[acc.length - 1]? = some y → y.per ≠ t.per) : Tg ps (k + 1) (acc ++ [t]) := by
  obtain ⟨hk, rfl⟩ := List.getElem?_eq_some_iff.1 ht
  have hd : pzs (ps.drop k) = (ps[k].per, val ps[k].amt) :: pzs (ps.drop (k + 1)) := by rw [List.drop_eq_getElem_cons hk]; rfl
  refine ⟨fun q hq => ?_, by rw [List.length_append, List.length_singleton]; have := h.len; omega, .inr ⟨acc, ps[k], rfl, ?_⟩⟩
  · rcases List.mem_append.1 hq with hq | hq
    · obtain ⟨a1, a2, a3⟩ := h.el q hq
      exact ⟨a1, pow_more a2, a3⟩
    · obtain rfl : q = ps[k] := by simpa using hq
      exact ⟨hc, Nat.lt_of_lt_of_le hv (Nat.pow_le_pow_right (by decide) (by omega)), _, List.getElem_mem hk, rfl⟩
  · rcases h.rel with ⟨h0, rfl⟩ | ⟨init, y, rfl, hr⟩
    · subst h0
      rw [List.drop_zero] at hd
      rw [hd, grpL_step, Int.zero_add]; rfl
    · have hy := hn y (by simp)
      rw [← hr, hd, pzs_app, List.append_assoc]
      congr 1
      have e2 : grpT y.per (val y.amt) ((ps[k].per, val ps[k].amt) :: pzs (ps.drop (k + 1))) = (y.per, val y.amt) :: grpL 0 ((ps[k].per, val ps[k].amt) :: pzs (ps.drop (k + 1))) :=
        if_neg (by intro e; simp only [List.head?_cons, Option.map_some, Option.some.injEq] at e; exact hy e.symm)
      rw [e2, grpL_step, Int.zero_add]
      rfl
theorem Tg.merge {ps : List Pay} {k : Nat} {acc : List Pay} {t y : Pay} (h : Tg ps k acc) (ht : ps[k]? = some t) (hv : (val t.amt).natAbs < 10 ^ 13) (hy : acc[acc.length - 1]? = some y) (hp : y.per = t.per) : Tg ps (k + 1) (acc.set (acc.length - 1) ⟨y.per, canon (val y.amt + val t.amt)⟩) := by
  obtain ⟨hk, rfl⟩ := List.getElem?_eq_some_iff.1 ht
  have hd : pzs (ps.drop k) = (ps[k].per, val ps[k].amt) :: pzs (ps.drop (k + 1)) := by rw [List.drop_eq_getElem_cons hk]; rfl
  have hym := h.el y (List.mem_of_getElem? hy)
  refine ⟨fun q hq => ?_, by rw [List.length_set]; have := h.len; omega, ?_⟩
  · rcases List.mem_or_eq_of_mem_set hq with hq | rfl
    · obtain ⟨a1, a2, a3⟩ := h.el q hq
      exact ⟨a1, pow_more a2, a3⟩
    · refine ⟨cfix _, ?_, hym.2.2⟩
      show (val (canon _)).natAbs < _
      rw [val_canon]
      exact abs_step hym.2.1 (Nat.lt_of_lt_of_le hv (Nat.pow_le_pow_right (by decide) (by omega)))
  · rcases h.rel with ⟨h0, rfl⟩ | ⟨init, y', rfl, hr⟩
    · simp at hy
    · have e : y' = y := by simpa using hy
      subst e
      refine .inr ⟨init, ⟨y'.per, canon (val y'.amt + val ps[k].amt)⟩, ?_, ?_⟩
      · rw [List.length_append, List.length_singleton, Nat.add_sub_cancel, List.set_append_right _ _ (Nat.le_refl _), Nat.sub_self]; rfl
      · rw [← hr, hd]
        congr 1
        show grpT y'.per (val (canon _)) _ = _
        rw [val_canon]
        unfold grpT
        rw [if_pos (c := (Option.map (fun x => x.1) (List.head? ((ps[k].per, val ps[k].amt) :: pzs (ps.drop (k + 1))))) = some y'.per) (by simp [hp])]
        rw [grpL_step]
        show _ = grpT ps[k].per _ _
        rw [← hp]; rfl
theorem Tg.done {ps : List Pay} {n : Nat} {acc : List Pay} (h : Tg ps n acc) (hn : ps.length = n) (h0 : 0 < n) : pzs acc = grpL 0 (pzs ps) ∧ 0 < acc.length := by
  rcases h.rel with ⟨h1, -⟩ | ⟨init, y, rfl, hr⟩
  · omega
  · rw [List.drop_of_length_le (by omega)] at hr
    refine ⟨?_, by simp⟩
    rw [← hr, pzs_app]; rfl
def shP (d : Int) (ps : List Pay) : List Pay := ps.map fun x => ⟨x.per + d, x.amt⟩
theorem shP_len (d : Int) (ps : List Pay) : (shP d ps).length = ps.length := List.length_map _
theorem shP_at {d : Int} {ps : List Pay} {k : Nat} {x : Pay} (h : ps[k]? = some x) : (shP d ps)[k]? = some ⟨x.per + d, x.amt⟩ := by unfold shP; rw [List.getElem?_map, h]; rfl
theorem pz_sh (d : Int) (ps : List Pay) : pzs (shP d ps) = shiftL d (pzs ps) := by
  unfold pzs shP shiftL
  rw [List.map_map, List.map_map]
  apply List.map_congr_left
  intro x _; rfl
theorem take_next {T : List Pay} {k : Nat} {y : Pay} (h : T[k]? = some y) : T.take k ++ [y] = T.take (k + 1) := by
  obtain ⟨hk, rfl⟩ := List.getElem?_eq_some_iff.1 h
  exact (List.take_succ_eq_append_getElem hk).symm
/-- payments in order, of the known sizes, are accepted -/
theorem payL_of_up : ∀ (T : List Pay) (o : Option Int) (a : Int), UpL a (pzs T) → (∀ q, o = some q → q ≤ a) → (∀ q ∈ T, 0 ≤ q.per ∧ q.per ≤ 400 ∧ q.amt = canon (val q.amt)) → payL o T = 0
  | [], _, _, _, _, _ => rfl
  | p :: r, o, a, hu, ho, he => by
    obtain ⟨e1, e2, e3⟩ := he p (List.mem_cons_self ..)
    have hup : a ≤ p.per := hu.1
    unfold payL
    rw [if_neg (by omega), if_neg (by
      cases o with
      | none => exact fun h => by cases h
      | some q =>
        have := ho q rfl
        intro h
        have h2 : q > p.per := of_decide_eq_true h
        omega), if_neg (fun h => h e3)]
    exact payL_of_up r (some p.per) p.per hu.2 (fun q hq => by injection hq with hq; omega) (fun q hq => he q (List.mem_cons_of_mem _ hq))
theorem upL_shift (d : Int) : ∀ (l : List PZ) (a : Int), UpL a l → UpL (a + d) (shiftL d l)
  | [], _, _ => trivial
  | p :: r, a, h => ⟨by have := h.1; show a + d ≤ p.1 + d; omega, upL_shift d r p.1 h.2⟩
theorem upL_scale (k : Int) : ∀ (l : List PZ) (a : Int), UpL a l → UpL a (scaleL k l)
  | [], _, _ => trivial
  | p :: r, _, h => ⟨h.1, upL_scale k r p.1 h.2⟩
theorem bndV_val {ps : List Pay} {p z : Int} (h0 : payE ps = 0) (hp0 : 0 ≤ p) (hp : p ≤ 12) (hs : chN (sumsL 0 (pzs ps)) = 1) : bndV ps p z = .tuple #[(Value.agg #[Value.string ⟨List.toArray (fN (Rat.divInt z ((10 ^ p.toNat : Nat) : Int)))⟩, Value.string ⟨List.toArray (fD (Rat.divInt z ((10 ^ p.toNat : Nat) : Int)))⟩]), (Value.agg #[Value.string ⟨List.toArray (fN (Rat.divInt (topZ (pzs ps) ((10 ^ p.toNat : Nat) : Int) z) ((10 ^ p.toNat : Nat) : Int)))⟩, Value.string ⟨List.toArray (fD (Rat.divInt (topZ (pzs ps) ((10 ^ p.toNat : Nat) : Int) z) ((10 ^ p.toNat : Nat) : Int)))⟩]), .int .i64 0] := by
  unfold bndV
  rw [if_neg (fun h => h h0), if_neg (by omega), if_neg (fun h => h hs)]
/-- what Bounds returns for payments with the same places as ps -/
theorem same_bnd {ps T : List Pay} {m : Nat} {a p z : Int} (hok : payE ps = 0) (hch : chN (sumsL 0 (pzs ps)) = 1) (hz : Root (pzs ps) ((10 ^ p.toNat : Nat) : Int) z) (hp0 : 0 ≤ p) (hp : p ≤ 12)
    (hu : UpL a (pzs T)) (hT : T.length = m) (hm0 : 0 < m) (hm8 : m ≤ 8) (hel : ∀ q ∈ T, 0 ≤ q.per ∧ q.per ≤ 400 ∧ q.amt = canon (val q.amt) ∧ (val q.amt).natAbs < 10 ^ 26) (hspan : ∀ q r, q ∈ T → r ∈ T → r.per - q.per ≤ 12)
    (hs : chN (sumsL 0 (pzs T)) = 1) (hpl : ∀ x : Rat, placeQ (sg1 (sumsL 0 (pzs T))) (pzs T) x = placeQ (sg1 (sumsL 0 (pzs ps))) (pzs ps) x) :
    payE T = 0 ∧ BndOk T p z 41 ∧ bndV T p z = bndV ps p z ∧ ∀ q ∈ T, q.amt.length ≤ 1000 := by
  have h0 : payE T = 0 := by
    unfold payE
    rw [if_neg (by omega), if_neg (by omega)]
    exact payL_of_up T none a hu (fun q hq => by cases hq) (fun q hq => ⟨(hel q hq).1, (hel q hq).2.1, (hel q hq).2.2.1⟩)
  have hlen : ∀ q ∈ T, q.amt.length ≤ 1000 := fun q hq => by
    rw [(hel q hq).2.2.1]; exact Nat.le_trans (canon_len_le _ _ (hel q hq).2.2.2) (by decide)
  obtain ⟨z', hz'⟩ := root_is (pzs T) a ((10 ^ p.toNat : Nat) : Int) hu hs (u_pos p)
  have hzz : z' = z := Root.uniq hz' hz (fun x _ => hpl x) (u_pos p)
  subst hzz
  refine ⟨h0, bnd_root (M := 26) hT hm8 (fun q r h1 h2 => hspan q r (List.mem_of_getElem? h1) (List.mem_of_getElem? h2)) h0 (by decide) (by decide) (fun q hq => ⟨(hel q hq).2.2.2, hlen q hq⟩) hp0 hp hz', ?_, hlen⟩
  have ht : topZ (pzs T) ((10 ^ p.toNat : Nat) : Int) z' = topZ (pzs ps) ((10 ^ p.toNat : Nat) : Int) z' := by unfold topZ; rw [hpl]
  rw [bndV_val h0 hp0 hp hs, bndV_val hok hp0 hp hch, ht]
theorem upL_ge : ∀ {T : List Pay} {a : Int}, UpL a (pzs T) → ∀ q ∈ T, a ≤ q.per
  | [], _, _ => fun q hq => by cases hq
  | p :: r, a, h => fun q hq => by
    have h1 : a ≤ p.per := h.1
    rcases List.mem_cons.1 hq with rfl | hq
    · exact h1
    · exact Int.le_trans h1 (upL_ge (T := r) h.2 q hq)
theorem ORow.formN {w : World} {B n : Nat} {v : Value} {xs : List Pay} (h : ORow w B v xs) (hn : xs.length = n) : ∃ A c, v = .slice A n c := by rw [← hn]; exact h.form
theorem ORow.app {w : World} {B n : Nat} {v : Value} {xs : List Pay} {x : Pay} (h : w.ownsRow B 27 2 v (n + 1) (rowsP xs ++ [.int .i64 x.per, .string ⟨x.amt.toArray⟩])) (hn : xs.length = n) : ORow w B v (xs ++ [x]) := by
  unfold ORow
  rw [List.length_append, List.length_singleton, hn, rowsP_app]
  exact h
theorem Dis.fresh {u u' v : Value} {N : Nat} (h : Dis u v) (hf : ∀ g, u'.ownBlock = some g → u.ownBlock = some g ∨ N ≤ g) (hv : ∀ g, v.ownBlock = some g → g < N) : Dis u' v := fun g hu hg => by
  rcases hf g hu with h1 | h1
  · exact h g h1 hg
  · have := hv g hg; omega
theorem no_fresh {u u' : Value} {N b : Nat} (h : u.ownBlock ≠ some b) (hf : ∀ g, u'.ownBlock = some g → u.ownBlock = some g ∨ N ≤ g) (hb : b < N) : u'.ownBlock ≠ some b := fun hu => by
  rcases hf b hu with h1 | h1
  · exact h h1
  · omega
theorem dis_nil (v : Value) : Dis (.slice none 0 0) v := fun g h => by cases h
theorem orow_nil (w : World) (B : Nat) : ORow w B (.slice none 0 0) [] := World.ownsRow_nil w B _ 2
theorem ps_span {ps : List Pay} {n : Nat} (hg : GoodP ps n) (hok : payE ps = 0) : ∀ q r, q ∈ ps → r ∈ ps → r.per - q.per ≤ 12 := by
  intro q r hq hr
  obtain ⟨h1, h2, h3, h4⟩ := payE_ok hok
  have hlen := hg.len
  have hn8 : n ≤ 8 := by have := hg.sz; omega
  obtain ⟨a, ha⟩ : ∃ a, ps[0]? = some a := ⟨_, List.getElem?_eq_getElem (by omega)⟩
  obtain ⟨z, hz⟩ : ∃ z, ps[n - 1]? = some z := ⟨_, List.getElem?_eq_getElem (by omega)⟩
  have hs := hg.span hok hn8 a z ha hz
  have h5 := up_last ps 0 r h3 hr z (by rw [hlen]; exact hz)
  have h6 : a.per ≤ q.per := by
    have hup : UpL a.per (pzs ps) := by
      have h5 : UpL 0 (pzs (ps.drop 0)) := by rw [List.drop_zero]; exact h3
      obtain ⟨-, h6⟩ := up_next ha h5
      obtain ⟨hk, rfl⟩ := List.getElem?_eq_some_iff.1 ha
      have e : pzs (ps.drop 0) = (ps[0].per, val ps[0].amt) :: pzs (ps.drop 1) := by rw [List.drop_eq_getElem_cons hk]; rfl
      rw [List.drop_zero] at e
      rw [e]
      exact ⟨Int.le_refl _, h6⟩
    exact upL_ge hup q hq
  omega
end Go.Proofs.YtolbojchdlojnaaGreatDoor
