/- Rows of api.Int; slices.ContainsFunc at them. -/
import Derived.Test.YtolbojchdlojnaaGreatDoorWp
namespace Go.Proofs.YtolbojchdlojnaaGreatDoor
open Go.RowKit Num
def SAt (w : World) (A : Option Addr) (os : List (List UInt8)) : Prop := ∀ i x, os[i]? = some x → ∃ b o, A = some ⟨b, o, none⟩ ∧ b < w.heap.size ∧ w.cell? ⟨b, o + i, none⟩ = some (.string ⟨x.toArray⟩)
theorem SAt.below {w w' : World} {A : Option Addr} {os : List (List UInt8)} (h : SAt w A os) (hb : Below w.heap.size w w') : SAt w' A os := fun i x hx => by
  obtain ⟨b, o, h1, h2, h3⟩ := h i x hx
  refine ⟨b, o, h1, Nat.lt_of_lt_of_le h2 hb.size, ?_⟩
  exact (hb.cell (p := ⟨b, o + i, none⟩) h2).trans h3
def badI (x : List UInt8) : Bool := decide (13 < x.length) || decide (¬ x = canon (val x))
theorem call_lin1 (args : Array Value) (w : World) : (callFunc 52 args).run Tryz.prog w = .ok (.enter 52 args) w := by kernel_rfl
set_option maxHeartbeats 1000000 in
set_option maxRecDepth 100000 in
theorem linClo (x : List UInt8) : Ret 52 #[.string ⟨x.toArray⟩] (.bool (badI x)) := fun w hG => by
  by_cases h : 13 < x.length
  · have e1 : badI x = true := by unfold badI; rw [decide_eq_true h]; rfl
    rw [e1]
    have e2 : decide ((13 : Int) < (x.length : Int)) = true := decide_eq_true (by omega)
    clear e1
    go_enter Tryz.func52, Tryz.ntmps52
    go_wp2
    go_ret
    exact ⟨by first | done | rfl | (simp; omega) | simp_all, Below.refl _ _⟩
  · have e3 : decide ((13 : Int) < (x.length : Int)) = false := decide_eq_false (by omega)
    by_cases g : x = canon (val x)
    · have e1 : badI x = false := by unfold badI; rw [decide_eq_false h, decide_eq_false (fun f => f g)]; rfl
      rw [e1]
      have C1 := Lib.hid (riCheck (l := x) (c := 0) (by omega) (if_pos g))
      clear e1 g
      go_enter Tryz.func52, Tryz.ntmps52
      go_wp2_with fail
      ((with_reducible refine (C1.out.of hG (Below.refl _ _)).mono ?_); rintro e w2 ⟨rfl, hb2⟩)
      go_wp2
      go_ret
      exact ⟨by first | done | rfl | (simp; omega) | simp_all, hb2⟩
    · have e1 : badI x = true := by unfold badI; rw [decide_eq_false h, decide_eq_true g]; rfl
      rw [e1]
      have C1 := Lib.hid (riCheck (l := x) (c := 1) (by omega) (if_neg g))
      clear e1 g
      go_enter Tryz.func52, Tryz.ntmps52
      go_wp2_with fail
      ((with_reducible refine (C1.out.of hG (Below.refl _ _)).mono ?_); rintro e w2 ⟨rfl, hb2⟩)
      go_wp2
      go_ret
      exact ⟨by first | done | rfl | (simp; omega) | simp_all, hb2⟩
def idxS : List (List UInt8) → Nat → Int
  | [], _ => -1
  | a :: t, k => if badI a = true then (k : Int) else idxS t (k + 1)
theorem idxS_drop {zs : List (List UInt8)} {k : Nat} {y : List UInt8} (h : zs[k]? = some y) : idxS (zs.drop k) k = if badI y = true then (k : Int) else idxS (zs.drop (k + 1)) (k + 1) := by
  obtain ⟨hk, rfl⟩ := List.getElem?_eq_some_iff.1 h
  rw [List.drop_eq_getElem_cons hk]; rfl
theorem idxS_neg : ∀ (zs : List (List UInt8)) (k : Nat), idxS zs k < 0 → ∀ x ∈ zs, x.length ≤ 13 ∧ x = canon (val x)
  | [], _, _ => fun x hx => by cases hx
  | a :: t, k, h => fun x hx => by
    unfold idxS at h
    split at h
    · omega
    · rename_i hb
      rcases List.mem_cons.1 hx with rfl | hx
      · unfold badI at hb
        have h2 : ¬ 13 < x.length ∧ x = canon (val x) := by simpa using hb
        exact ⟨by omega, h2.2⟩
      · exact idxS_neg t (k + 1) h x hx
set_option maxHeartbeats 2000000 in
set_option maxRecDepth 100000 in
theorem idxInts (A : Option Addr) (ts : List (List UInt8)) (n c : Nat) (w : World) (hG : Glob w) (hn : ts.length = n) (hn2 : n ≤ 9223372036854775807) (h : SAt w A ts) :
    Calls Tryz.prog 104 #[.slice A n c, .func (Fn.func 52) #[] #[]] w fun e w' => e = .returned (.int .i64 (idxS ts 0)) ∧ Below w.heap.size w w' := by
  have HI := Lib.hid h
  have hcall := call_lin1
  have hn1 : ts.length ≤ n := by omega
  have hn3 : n ≤ ts.length := by omega
  clear h hn
  go_enter Tryz.func104, Tryz.ntmps104
  go_wp2_with fail
  go_loopw [8] (fun iv wr => ∃ k : Nat, k ≤ n ∧ iv = .int .i64 (k : Int) ∧ Hid (idxS ts 0 = idxS (ts.drop k) k) ∧ Below w.heap.size w wr) (fun iv _ => n - (intOf iv).toNat)
  case atStart => exact ⟨0, Nat.zero_le _, rfl, rfl, Below.refl _ _⟩
  case round =>
    obtain ⟨k, hk, rfl, HK, hb⟩ := hrel
    by_cases hlt : k < n
    · obtain ⟨x, hx⟩ : ∃ x, ts[k]? = some x := ⟨_, List.getElem?_eq_getElem (by omega)⟩
      obtain ⟨b, o, rfl, hbs, p0⟩ := (HI.out.below hb) k x hx
      have HD := Lib.hid (idxS_drop hx)
      have CP := Lib.hid (linClo x)
      clear hx
      go_wp2_with fail
      ((with_reducible refine (CP.out.of hG hb).mono ?_); rintro e w2 ⟨rfl, hb2⟩)
      replace hb := bto hb hb2
      clear hb2 CP p0
      cases hq : badI x
      rotate_left
      · have HV : Hid (idxS ts 0 = k) := by show _ = _; rw [HK.out, HD.out, if_pos hq]
        clear hq HK HD
        go_wp2
        go_ret
        exact ⟨reti HV.out.symm, hb⟩
      · have HV : Hid (idxS ts 0 = idxS (ts.drop (k + 1)) (k + 1)) := by show _ = _; rw [HK.out, HD.out, if_neg (by rw [hq]; decide)]
        clear hq HK HD
        go_wp2
        go_roundw
        case rel => exact ⟨k + 1, by omega, by go_num, HV, hb⟩
        case measure => simp [intOf]; omega
    · have HV : Hid (idxS ts 0 = -1) := by show _ = _; rw [HK.out, List.drop_of_length_le (by omega)]; rfl
      go_wp2
      go_ret
      exact ⟨reti HV.out.symm, hb⟩
set_option maxHeartbeats 1000000 in
set_option maxRecDepth 100000 in
theorem hasBad (A : Option Addr) (ts : List (List UInt8)) (n c : Nat) (w : World) (hG : Glob w) (hn : ts.length = n) (hn2 : n ≤ 9223372036854775807) (h : SAt w A ts) :
    Calls Tryz.prog 51 #[.slice A n c, .func (Fn.func 52) #[] #[]] w fun e w' => e = .returned (.bool (decide (0 ≤ idxS ts 0))) ∧ Below w.heap.size w w' := by
  have C1 := Lib.hid (idxInts A ts n c w hG hn hn2 h)
  clear h hn
  generalize idxS ts 0 = i at *
  go_enter Tryz.func51, Tryz.ntmps51
  go_wp2_with fail
  ((with_reducible refine C1.out.mono ?_); rintro e w2 ⟨rfl, hb2⟩)
  go_wp2
  go_ret
  exact ⟨rfl, hb2⟩
/-- the first k of T, then the rest of p -/
def mixL (T p : List Pay) (k : Nat) : List Pay := T.take k ++ p.drop k
theorem mix0 (T p : List Pay) : mixL T p 0 = p := by unfold mixL; simp
theorem mix_end {T p : List Pay} {k : Nat} (h : T.length ≤ k) (h' : p.length ≤ k) : mixL T p k = T := by unfold mixL; rw [List.take_of_length_le h, List.drop_of_length_le h']; simp
theorem mix_get {T p : List Pay} {k : Nat} {x : Pay} (hx : p[k]? = some x) (hT : T.length = p.length) : (mixL T p k)[k]? = some x := by
  have hk := (List.getElem?_eq_some_iff.1 hx).1
  unfold mixL
  rw [List.getElem?_append_right (by rw [List.length_take]; omega), List.length_take, List.getElem?_drop, show k + (k - min k T.length) = k by omega]
  exact hx
theorem mix_set {T p : List Pay} {k : Nat} {y : Pay} (hy : T[k]? = some y) (hT : T.length = p.length) : (mixL T p k).set k y = mixL T p (k + 1) := by
  obtain ⟨hk, rfl⟩ := List.getElem?_eq_some_iff.1 hy
  have hl : (T.take k).length = k := by rw [List.length_take]; omega
  unfold mixL
  rw [List.set_append_right k _ (by omega), hl, Nat.sub_self, List.take_succ_eq_append_getElem hk, List.append_assoc]
  congr 1
  rw [List.drop_eq_getElem_cons (i := k) (l := p) (by omega)]
  rfl
theorem mix_len {T p : List Pay} {k : Nat} (hT : T.length = p.length) : (mixL T p k).length = p.length := by
  unfold mixL; rw [List.length_append, List.length_take, List.length_drop]; omega
/-- the three rows -/
def scP (z : Int) (ps : List Pay) : List Pay := ps.map fun x => ⟨x.per, canon (val x.amt * z)⟩
def seP : List Pay → List (List UInt8) → List Pay
  | [], _ => []
  | p :: ps, os => ⟨p.per, os.head?.getD []⟩ :: seP ps os.tail
def suP : List Pay → List (List UInt8) → List Pay
  | [], _ => []
  | p :: ps, os => ⟨p.per, canon (val p.amt + val (os.head?.getD []))⟩ :: suP ps os.tail
theorem scP_len (z : Int) (ps : List Pay) : (scP z ps).length = ps.length := List.length_map _
theorem seP_len : ∀ (ps : List Pay) (os : List (List UInt8)), (seP ps os).length = ps.length
  | [], _ => rfl
  | _ :: ps, os => congrArg (· + 1) (seP_len ps os.tail)
theorem suP_len : ∀ (ps : List Pay) (os : List (List UInt8)), (suP ps os).length = ps.length
  | [], _ => rfl
  | _ :: ps, os => congrArg (· + 1) (suP_len ps os.tail)
theorem scP_at {z : Int} {ps : List Pay} {k : Nat} {x : Pay} (h : ps[k]? = some x) : (scP z ps)[k]? = some ⟨x.per, canon (val x.amt * z)⟩ := by unfold scP; rw [List.getElem?_map, h]; rfl
theorem seP_at : ∀ {ps : List Pay} {os : List (List UInt8)} {k : Nat} {x : Pay}, ps[k]? = some x → (seP ps os)[k]? = some ⟨x.per, (os[k]?).getD []⟩
  | [], _, _, _, h => by simp at h
  | p :: ps, os, 0, x, h => by
    have : p = x := by simpa using h
    subst this
    cases os <;> rfl
  | p :: ps, os, k + 1, x, h => by
    show (seP ps os.tail)[k]? = _
    rw [seP_at (by simpa using h)]
    cases os <;> simp
theorem suP_at : ∀ {ps : List Pay} {os : List (List UInt8)} {k : Nat} {x : Pay}, ps[k]? = some x → (suP ps os)[k]? = some ⟨x.per, canon (val x.amt + val ((os[k]?).getD []))⟩
  | [], _, _, _, h => by simp at h
  | p :: ps, os, 0, x, h => by
    have : p = x := by simpa using h
    subst this
    cases os <;> rfl
  | p :: ps, os, k + 1, x, h => by
    show (suP ps os.tail)[k]? = _
    rw [suP_at (by simpa using h)]
    cases os <;> simp
theorem pz_sc (z : Int) (ps : List Pay) : pzs (scP z ps) = scaleL z (pzs ps) := by
  unfold pzs scP scaleL
  rw [List.map_map, List.map_map]
  apply List.map_congr_left
  intro x _
  show (x.per, val (canon (val x.amt * z))) = (x.per, val x.amt * z)
  rw [val_canon]
theorem pz_add : ∀ (ps : List Pay) (os : List (List UInt8)), pzs (suP ps os) = addL (pzs ps) (pzs (seP ps os)) ∧ (pzs ps).map (·.1) = (pzs (seP ps os)).map (·.1)
  | [], _ => ⟨rfl, rfl⟩
  | p :: ps, os => by
    obtain ⟨h1, h2⟩ := pz_add ps os.tail
    constructor
    · show (p.per, val (canon (val p.amt + val (os.head?.getD [])))) :: pzs (suP ps os.tail) = (p.per, val p.amt + val (os.head?.getD [])) :: addL (pzs ps) (pzs (seP ps os.tail))
      rw [val_canon, h1]
    · show p.per :: (pzs ps).map (·.1) = p.per :: (pzs (seP ps os.tail)).map (·.1)
      rw [h2]
end Go.Proofs.YtolbojchdlojnaaGreatDoor
