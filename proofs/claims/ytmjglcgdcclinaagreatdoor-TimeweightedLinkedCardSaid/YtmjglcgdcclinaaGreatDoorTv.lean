/- timeweighted: Cut; slices.DeleteFunc at points. -/
import Derived.Lib.SlBuf
import Derived.Lib.SliceRun
import Derived.Laws.IdiomCopy
import Derived.Test.YtmjglcgdcclinaaGreatDoorTj
import Derived.Test.YtmjglcgdcclinaaGreatDoorTq
namespace Go.Proofs.YtmjglcgdcclinaaGreatDoor
open Go.RowKit Num
theorem run_clear_many {P : Program} (w : World) (t e ty : TypeId) (z : Value) (ht : P.underlying t = some (.slice e)) (hv : ∀ w, (zeroValue e).run P w = .ok z w) (m : Nat) (hm : 0 < m) (h1 : ∀ u ∈ (Builtin.zeroCells z.cells m).toList, u.oneCell' = true) (b o c : Nat)
    (hc : ∀ j, j < (Builtin.zeroCells z.cells m).toList.length → (w.cell? ⟨b, o + j, none⟩).isSome = true) (hf : ∀ j, j < (Builtin.zeroCells z.cells m).toList.length → w.frozen? ⟨b, o + j, none⟩ = false) :
    (Builtin.clear_ #[t] ty #[.slice (some ⟨b, o, none⟩) m c]).run P w = .ok (.tuple #[]) (w.setCells b o (Builtin.zeroCells z.cells m).toList) := by
  have hst := run_storeCells_cells (P := P) b o (Builtin.zeroCells z.cells m).toList 0 w hc hf h1
  simp only [Nat.add_zero] at hst
  obtain ⟨k, rfl⟩ : ∃ k, m = k + 1 := ⟨m - 1, by omega⟩
  simp [Builtin.clear_, run_underlying ht, hv, hst]
theorem zero_len (cs : Array Value) (m : Nat) : (Builtin.zeroCells cs m).toList.length = m * cs.size := by unfold Builtin.zeroCells; simp
theorem zero_mem {cs : Array Value} {m : Nat} {u : Value} (h : u ∈ (Builtin.zeroCells cs m).toList) (hp : ∀ v ∈ cs.toList, v.oneCell' = true) : u.oneCell' = true := by
  obtain ⟨i, hi⟩ := List.mem_iff_getElem?.1 h
  obtain ⟨hlt, rfl⟩ := List.getElem?_eq_some_iff.1 hi
  have hl : i < m * cs.size := by rw [← zero_len]; exact hlt
  have hcs : 0 < cs.size := by
    rcases Nat.eq_zero_or_pos cs.size with h | h
    · rw [h, Nat.mul_zero] at hl; omega
    · exact h
  have hm := Nat.mod_lt i hcs
  refine hp _ ?_
  unfold Builtin.zeroCells
  simp [hm]
section
variable {w w' : World} {g b i : Nat} {ty : TypeId} {cs : List Value} {u v : Value}
theorem CRow.pre (h : CRow w g ty cs) (k : Nat) : CRow w g ty (cs.take k) := by
  obtain ⟨cur, hh, ht, hs⟩ := h
  refine ⟨cur, hh, ?_, by rw [List.length_take]; omega⟩
  conv => rhs; rw [← ht]
  rw [List.take_take, List.length_take]
theorem CRow.setMany : ∀ (vs : List Value) (o : Nat) (w : World), CRow w g ty cs → cs.length ≤ o → CRow (w.setCells g o vs) g ty cs
  | [], _, _, h, _ => h
  | v :: r, o, _, h, hl => by
    have h1 := h.set o v
    rw [List.set_eq_of_length_le hl] at h1
    exact CRow.setMany r (o + 1) _ h1 (by omega)
theorem below_many {w0 : World} (hg : w0.heap.size ≤ g) : ∀ (vs : List Value) (o : Nat) (w : World), Below w0.heap.size w0 w → Below w0.heap.size w0 (w.setCells g o vs)
  | [], _, _, h => h
  | v :: r, o, _, h => below_many hg r (o + 1) _ (h.setCell (p := ⟨g, o, none⟩) hg v)
end
theorem rowsQ_set3 {xs : List Pnt} {i : Nat} (t : Pnt) {x : Pnt} (h : xs[i]? = some x) : (((rowsQ xs).set (i * 3) (.int .i64 t.day)).set (i * 3 + 1) (.string ⟨t.vl.toArray⟩)).set (i * 3 + 2) (.string ⟨t.fl.toArray⟩) = rowsQ (xs.set i t) := by
  induction xs generalizing i with
  | nil => simp at h
  | cons y xs ih =>
    cases i with
    | zero => rfl
    | succ i =>
      have h1 := ih (i := i) (by simpa using h)
      rw [rowsQ_cons, show (i + 1) * 3 = i * 3 + 1 + 1 + 1 by omega]
      show (.int .i64 y.day :: .string ⟨y.vl.toArray⟩ :: .string ⟨y.fl.toArray⟩ :: (((rowsQ xs).set (i * 3) _).set (i * 3 + 1) _).set (i * 3 + 2) _) = _
      rw [h1]; rfl
theorem enter_cut1 (args : Array Value) (w : World) : (callFunc 123 args).run Tryz.prog w = .ok (.enter 123 args) w := by kernel_rfl
set_option maxHeartbeats 1000000 in
set_option maxRecDepth 100000 in
theorem cutClo (t : Pnt) (a b : Int) (b3 : Nat) (w : World) (hbl : Blk w b3 #[.int .i64 a, .int .i64 b]) :
    Calls Tryz.prog 123 #[.agg #[.int .i64 t.day, .string ⟨t.vl.toArray⟩, .string ⟨t.fl.toArray⟩], .pointer (some ⟨b3, 0, none⟩)] w fun e w' => e = .returned (.bool (!inPer a b t)) ∧ Below w.heap.size w w' := by
  have hb := below_alloc w (.cells #[.int .i64 t.day, .string ⟨t.vl.toArray⟩, .string ⟨t.fl.toArray⟩] 50)
  have x1 := Blk.new w #[.int .i64 t.day, .string ⟨t.vl.toArray⟩, .string ⟨t.fl.toArray⟩] 50
  have y1 := hbl.below hb
  have q0 := x1.c 0
  have p0 := y1.c 0
  have p1 := y1.c 1
  clear x1 y1 hbl
  by_cases h1 : t.day < a
  · have e1 : decide (t.day < a) = true := decide_eq_true h1
    have HV : Hid ((!inPer a b t) = true) := by show _ = _; unfold inPer; rw [decide_eq_false (by omega)]; rfl
    go_enter Tryz.func123, Tryz.ntmps123
    go_wp2
    go_ret
    exact ⟨retb HV.out.symm, hb⟩
  · have e1 : decide (t.day < a) = false := decide_eq_false h1
    by_cases h2 : b < t.day
    · have e2 : decide (b < t.day) = true := decide_eq_true h2
      have HV : Hid ((!inPer a b t) = true) := by show _ = _; unfold inPer; rw [decide_eq_false (p := t.day ≤ b) (by omega), Bool.and_false]; rfl
      go_enter Tryz.func123, Tryz.ntmps123
      go_wp2
      go_ret
      exact ⟨retb HV.out.symm, hb⟩
    · have e2 : decide (b < t.day) = false := decide_eq_false h2
      have HV : Hid ((!inPer a b t) = false) := by show _ = _; unfold inPer; rw [decide_eq_true (by omega), decide_eq_true (by omega)]; rfl
      go_enter Tryz.func123, Tryz.ntmps123
      go_wp2
      go_ret
      exact ⟨retb HV.out.symm, hb⟩
def idxP (a b : Int) : List Pnt → Nat → Int
  | [], _ => -1
  | t :: r, k => if inPer a b t = true then idxP a b r (k + 1) else (k : Int)
theorem idxP_drop {a b : Int} {zs : List Pnt} {k : Nat} {y : Pnt} (h : zs[k]? = some y) : idxP a b (zs.drop k) k = if inPer a b y = true then idxP a b (zs.drop (k + 1)) (k + 1) else (k : Int) := by
  obtain ⟨hk, rfl⟩ := List.getElem?_eq_some_iff.1 h
  rw [List.drop_eq_getElem_cons hk]; rfl
theorem idxP_cases (a b : Int) : ∀ (zs : List Pnt) (k : Nat), (idxP a b zs k = -1 ∧ zs.filter (inPer a b) = zs) ∨ ∃ i : Nat, i < zs.length ∧ idxP a b zs k = ((k + i : Nat) : Int) ∧ (zs.take i).filter (inPer a b) = zs.take i ∧ ∃ t, zs[i]? = some t ∧ inPer a b t = false
  | [], _ => .inl ⟨rfl, rfl⟩
  | t :: r, k => by
    cases h : inPer a b t
    · exact .inr ⟨0, by simp, by show (if inPer a b t = true then _ else (k : Int)) = _; rw [h]; rfl, rfl, t, rfl, h⟩
    · have e : idxP a b (t :: r) k = idxP a b r (k + 1) := by show (if inPer a b t = true then _ else (k : Int)) = _; rw [h]; rfl
      rcases idxP_cases a b r (k + 1) with ⟨h1, h2⟩ | ⟨i, h1, h2, h3, x, h4, h5⟩
      · exact .inl ⟨by rw [e, h1], by rw [List.filter_cons, if_pos h, h2]⟩
      · exact .inr ⟨i + 1, by simp; omega, by rw [e, h2]; congr 1; omega, by rw [List.take_succ_cons, List.filter_cons, if_pos h, h3], x, by simpa using h4, h5⟩
set_option maxHeartbeats 2000000 in
set_option maxRecDepth 100000 in
theorem idxPts46 (A : Option Addr) (ts : List Pnt) (n c : Nat) (a bb : Int) (b3 : Nat) (w : World) (hn : ts.length = n) (hn2 : n ≤ 1000000000) (h : PntAt w A ts) (hbl : Blk w b3 #[.int .i64 a, .int .i64 bb]) :
    Calls Tryz.prog 178 #[.slice A n c, .func (Fn.func 123) #[] #[.pointer (some ⟨b3, 0, none⟩)]] w fun e w' => e = .returned (.int .i64 (idxP a bb ts 0)) ∧ Below w.heap.size w w' := by
  have HI := Lib.hid h
  have HN := Lib.hid hn
  clear h hn
  go_enter Tryz.func178, Tryz.ntmps178
  go_wp2_with fail
  go_loopw [8] (fun iv wr => ∃ k : Nat, k ≤ n ∧ iv = .int .i64 (k : Int) ∧ Hid (idxP a bb ts 0 = idxP a bb (ts.drop k) k) ∧ Below w.heap.size w wr) (fun iv _ => n - (intOf iv).toNat)
  case atStart => exact ⟨0, Nat.zero_le _, rfl, rfl, Below.refl _ _⟩
  case round =>
    obtain ⟨k, hk, rfl, HK, hb⟩ := hrel
    by_cases hlt : k < n
    · obtain ⟨t, ht⟩ : ∃ t, ts[k]? = some t := ⟨_, List.getElem?_eq_getElem (by rw [HN.out]; omega)⟩
      obtain ⟨b, o, rfl, hbs, p0, p1, p2⟩ := (HI.out.below hb) k t ht
      have HD := Lib.hid (idxP_drop (a := a) (b := bb) ht)
      have CP := Lib.hid (cutClo t a bb b3 wr (hbl.below hb))
      have hcall := enter_cut1
      clear ht
      go_wp2_with fail
      ((with_reducible refine CP.out.mono ?_); rintro e w2 ⟨rfl, hb2⟩)
      replace hb := bto hb hb2
      clear hb2 CP p0 p1 p2 hcall
      cases hq : inPer a bb t
      · have HV : Hid (idxP a bb ts 0 = k) := by show _ = _; rw [HK.out, HD.out, if_neg (by rw [hq]; decide)]
        clear hq HK HD
        go_wp2
        go_ret
        exact ⟨reti HV.out.symm, hb⟩
      · have HV : Hid (idxP a bb ts 0 = idxP a bb (ts.drop (k + 1)) (k + 1)) := by show _ = _; rw [HK.out, HD.out, if_pos hq]
        clear hq HK HD
        go_wp2
        go_roundw
        case rel => exact ⟨k + 1, by omega, by go_num, HV, hb⟩
        case measure => simp [intOf]; omega
    · have HV : Hid (idxP a bb ts 0 = -1) := by show _ = _; rw [HK.out, List.drop_of_length_le (by rw [HN.out]; omega)]; rfl
      go_wp2
      go_ret
      exact ⟨reti HV.out.symm, hb⟩
set_option maxHeartbeats 8000000 in
set_option maxRecDepth 100000 in
theorem delPts (g n cp : Nat) (ts : List Pnt) (a bb : Int) (b3 : Nat) (w0 w : World) (hn : ts.length = n) (hn2 : n ≤ 1000000) (hcp : n ≤ cp) (HR : CRow w g 50 (rowsQ ts)) (hbl : Blk w b3 #[.int .i64 a, .int .i64 bb]) (hne : b3 ≠ g) (hb : Below w0.heap.size w0 w) (hg : w0.heap.size ≤ g) :
    Calls Tryz.prog 122 #[.slice (some ⟨g, 0, none⟩) n cp, .func (Fn.func 123) #[] #[.pointer (some ⟨b3, 0, none⟩)]] w fun e w' => ∃ m cp', e = .returned (.slice (some ⟨g, 0, none⟩) m cp') ∧ m ≤ cp' ∧ (ts.filter (inPer a bb)).length = m ∧ CRow w' g 50 (rowsQ (ts.filter (inPer a bb))) ∧ Below w0.heap.size w0 w' := by
  have C1 := Lib.hid (idxPts46 (some ⟨g, 0, none⟩) ts n cp a bb b3 w hn (by omega) (crow_pnt HR) hbl)
  rcases idxP_cases a bb ts 0 with ⟨hi, hfl⟩ | ⟨i0, hi0, hi, hpre, t0, ht0, hf0⟩
  · rw [hi] at C1
    rw [hfl]
    have HR' := Lib.hid HR
    have HN := Lib.hid hn
    clear hi hfl HR hn
    go_enter Tryz.func122, Tryz.ntmps122
    go_wp2_with fail
    ((with_reducible refine C1.out.mono ?_); rintro e w2 ⟨rfl, hb2⟩)
    go_wp2
    go_ret
    exact ⟨n, cp, rfl, hcp, HN.out, HR'.out.below hb2, bto hb hb2⟩
  rw [Nat.zero_add] at hi
  rw [hi] at C1
  have hin : i0 < n := by omega
  have e1 : (((i0 : Nat) : Int) == -1) = false := intbne (by omega)
  have HN := Lib.hid hn
  have HP := Lib.hid hpre
  have HT0 := Lib.hid ht0
  have HF0 := Lib.hid hf0
  obtain ⟨fl, hflt⟩ : ∃ fl, fl = inPer a bb := ⟨_, rfl⟩
  have HFl := Lib.hid hflt
  clear hi hpre ht0 hf0 hi0 hn hflt
  go_enter Tryz.func122, Tryz.ntmps122
  go_wp2_with fail
  ((with_reducible refine C1.out.mono ?_); rintro e w2 ⟨rfl, hb2⟩)
  replace HR := HR.below hb2
  replace hbl := hbl.below hb2
  replace hb := bto hb hb2
  clear hb2 C1
  go_wp2_with fail
  go_loopw [5, 6] (fun iv jv wr => ∃ (i j : Nat) (X : List Pnt), i < j ∧ j ≤ n ∧ iv = .int .i64 (i : Int) ∧ jv = .int .i64 (j : Int) ∧ CRow wr g 50 (rowsQ X) ∧ X.length = n ∧ Hid (X.take i = (ts.take j).filter (inPer a bb)) ∧ Hid (X.drop j = ts.drop j) ∧ Blk wr b3 #[.int .i64 a, .int .i64 bb] ∧ Below w0.heap.size w0 wr) (fun _ jv _ => n - (intOf jv).toNat)
  case atStart => exact ⟨i0, i0 + 1, ts, by omega, by omega, rfl, by go_num, HR, HN.out, by
    show _ = _
    rw [take_snoc HT0.out, List.filter_append, HP.out, List.filter_cons, if_neg (by rw [HF0.out]; decide)]
    simp, rfl, hbl, hb⟩
  case round =>
    clear hb HR hbl
    obtain ⟨i, j, X, hij, hjn, rfl, rfl, HR, hXl, HX1, HX2, hbl, hb⟩ := hrel
    by_cases hlt : j < n
    · obtain ⟨t, ht⟩ : ∃ t, ts[j]? = some t := ⟨_, List.getElem?_eq_getElem (by rw [HN.out]; omega)⟩
      have hXt : X[j]? = some t := by
        have h1 := congrArg (fun l => l[0]?) HX2.out
        simp only [List.getElem?_drop, Nat.add_zero] at h1
        rw [h1]; exact ht
      obtain ⟨x, hx⟩ : ∃ x, X[i]? = some x := ⟨_, List.getElem?_eq_getElem (by omega)⟩
      obtain ⟨c0, c1, c2⟩ := rowsQ_at hXt
      have q0 := HR.cell c0
      have q1 := HR.cell c1
      have q2 := HR.cell c2
      have x7 := Blk.new wr #[.int .i64 t.day, .string ⟨t.vl.toArray⟩, .string ⟨t.fl.toArray⟩] 50
      have hbA := below_alloc wr (.cells #[.int .i64 t.day, .string ⟨t.vl.toArray⟩, .string ⟨t.fl.toArray⟩] 50)
      have hbl2 := hbl.below hbA
      have HR2 := HR.below hbA
      have hb2 := bto hb hbA
      have CP := Lib.hid (cutClo t a bb b3 (wr.alloc (.cells #[.int .i64 t.day, .string ⟨t.vl.toArray⟩, .string ⟨t.fl.toArray⟩] 50)) hbl2)
      have hcall := enter_cut1
      have p0 := x7.c 0
      have p1 := x7.c 1
      have p2 := x7.c 2
      have hgl := HR.lt
      clear hbA hbl HR hb c0 c1 c2
      go_wp2_with fail
      ((with_reducible refine CP.out.mono ?_); rintro e w3 ⟨rfl, hb3⟩)
      replace x7 := x7.below hb3
      have HR := HR2.below hb3
      have hbl := hbl2.below hb3
      have hb := bto hb2 hb3
      clear hb3 CP p0 p1 p2 q0 q1 q2 hcall HR2 hbl2 hb2
      cases hq : inPer a bb t
      · have HV1 : Hid (X.take i = (ts.take (j + 1)).filter (inPer a bb)) := by
          show _ = _
          rw [take_snoc ht, List.filter_append, ← HX1.out, List.filter_cons, if_neg (by rw [hq]; decide)]
          simp
        have HV2 : Hid (X.drop (j + 1) = ts.drop (j + 1)) := by
          show _ = _
          rw [← List.drop_drop, ← List.drop_drop, HX2.out]
        clear hq HX1 HX2 ht hXt hx x7
        go_wp2
        go_roundw
        case rel => exact ⟨i, j + 1, X, by omega, by omega, rfl, by go_num, HR, hXl, HV1.out, HV2.out, hbl, hb⟩
        case measure => simp [intOf]; omega
      · have HV1 : Hid ((X.set i t).take (i + 1) = (ts.take (j + 1)).filter (inPer a bb)) := by
          show _ = _
          rw [take_snoc ht, List.filter_append, ← HX1.out, List.filter_cons, if_pos hq, List.filter_nil, take_snoc (show (X.set i t)[i]? = some t from by rw [List.getElem?_set_self (by omega)]), List.take_set_of_le (Nat.le_refl i)]
        have HV2 : Hid ((X.set i t).drop (j + 1) = ts.drop (j + 1)) := by
          show _ = _
          rw [List.drop_set_of_lt (by omega), ← List.drop_drop, ← List.drop_drop, HX2.out]
        have HV3 : Hid ((X.set i t).length = n) := by show _ = _; rw [List.length_set]; exact hXl
        obtain ⟨c0, c1, c2⟩ := rowsQ_at hx
        have q0 := HR.cell c0
        have q1 := HR.cell c1
        have q2 := HR.cell c2
        have k0 := HR.free (i * 3)
        have k1 := HR.free (i * 3 + 1)
        have k2 := HR.free (i * 3 + 2)
        have p0 := x7.c 0
        have p1 := x7.c 1
        have p2 := x7.c 2
        have HR3 := ((HR.set (i * 3) (.int .i64 t.day)).set (i * 3 + 1) (.string ⟨t.vl.toArray⟩)).set (i * 3 + 2) (.string ⟨t.fl.toArray⟩)
        rw [rowsQ_set3 t hx] at HR3
        have HR3' := Lib.hid HR3
        have hbl3 := Lib.hid (((hbl.setO (i := i * 3) (u := .int .i64 t.day) hne).setO (i := i * 3 + 1) (u := .string ⟨t.vl.toArray⟩) hne).setO (i := i * 3 + 2) (u := .string ⟨t.fl.toArray⟩) hne)
        have hb3 := Lib.hid (((hb.setCell (p := ⟨g, i * 3, none⟩) hg (.int .i64 t.day)).setCell (p := ⟨g, i * 3 + 1, none⟩) hg (.string ⟨t.vl.toArray⟩)).setCell (p := ⟨g, i * 3 + 2, none⟩) hg (.string ⟨t.fl.toArray⟩))
        have hin2 : i < n := by omega
        clear hq HX1 HX2 ht hXt hx x7 HR3 HR hbl hb c0 c1 c2
        go_wp2
        go_roundw
        case rel => exact ⟨i + 1, j + 1, X.set i t, by omega, by omega, by go_num, by go_num, HR3'.out, HV3.out, HV1.out, HV2.out, hbl3.out, hb3.out⟩
        case measure => simp [intOf]; omega
    obtain rfl : j = n := by omega
    have hfil : ts.filter (inPer a bb) = X.take i := by
      rw [HX1.out, List.take_of_length_le (by rw [HN.out]; exact Nat.le_refl j)]
    have HFIL := Lib.hid hfil
    have hzv : ∀ w, (zeroValue 50).run Tryz.prog w = .ok (.agg #[.int .i64 0, .string ⟨#[]⟩, .string ⟨#[]⟩]) w := fun w => by kernel_rfl
    obtain ⟨W2, hW2⟩ : ∃ W2, W2 = wr.setCells g (i * 3) (Builtin.zeroCells (Value.agg #[.int .i64 0, .string ⟨#[]⟩, .string ⟨#[]⟩]).cells (j - i)).toList := ⟨_, rfl⟩
    have hcl : ∀ ty, (Builtin.clear_ #[39] ty #[.slice (some ⟨g, i * 3, none⟩) (j - i) (cp - i)]).run Tryz.prog wr = .ok (.tuple #[]) W2 := fun ty => by
      rw [hW2]
      refine run_clear_many wr _ _ ty _ Tryz.underlying39 hzv (j - i) (by omega) (fun u hu => zero_mem hu (fun v hv => ?_)) g (i * 3) _ (fun k hk => ?_) (fun k _ => HR.free _)
      · have hv2 : v ∈ [Value.int .i64 0, .string ⟨#[]⟩, .string ⟨#[]⟩] := hv
        simp at hv2
        rcases hv2 with rfl | rfl <;> rfl
      · rw [zero_len] at hk
        have hk2 : k < (j - i) * 3 := hk
        have hlen : i * 3 + k < (rowsQ X).length := by rw [rowsQ_len, hXl]; omega
        rw [HR.cell (List.getElem?_eq_getElem hlen)]; rfl
    have HR4 : CRow W2 g 50 (rowsQ (X.take i)) := by
      have h1 := HR.pre (i * 3)
      have h2 : (rowsQ X).take (i * 3) = rowsQ (X.take i) := by
        have h3 : rowsQ X = rowsQ (X.take i) ++ rowsQ (X.drop i) := by rw [← rowsQ_app, List.take_append_drop]
        rw [h3, List.take_left' (by rw [rowsQ_len, List.length_take]; omega)]
      rw [h2] at h1
      rw [hW2]
      exact CRow.setMany _ _ _ h1 (by rw [rowsQ_len, List.length_take]; omega)
    have hb4 : Below w0.heap.size w0 W2 := by rw [hW2]; exact below_many hg _ _ _ hb
    have HR5 := Lib.hid HR4
    have HB5 := Lib.hid hb4
    have hil : (X.take i).length = i := by rw [List.length_take]; omega
    have HIL := Lib.hid hil
    have hi1 : i ≤ j := by omega
    have hi2 : i ≤ cp := by omega
    have hi3 : (i : Int) ≤ (j : Int) := by omega
    have hi4 : (i : Int) ≤ (cp : Int) := by omega
    clear HR4 hb4 HR hW2 hfil HX1 HX2 hXl hil hzv
    go_wp2
    go_ret
    exact ⟨i, _, rfl, by omega, by rw [HFIL.out]; exact HIL.out, by rw [HFIL.out]; exact HR5.out, HB5.out⟩
end Go.Proofs.YtmjglcgdcclinaaGreatDoor
