/- Package integer: (number).text. -/
import Derived.Test.YtjhafnnfkaejgaaGreatDoorInta
import Derived.Deep.DeepCutAuto
namespace Go.Proofs.YtjhafnnfkaejgaaGreatDoor
open Go.RowKit Num

def sgn (neg : Bool) (n : Nat) : Int := if neg then -(n : Int) else n
theorem cutZ_take (l : List Nat) : cutZ l = l.take (cutZ l).length := by
  obtain ⟨k, hk⟩ : ∃ k, k = l.length := ⟨_, rfl⟩
  induction k generalizing l with
  | zero => have : l = [] := List.eq_nil_of_length_eq_zero hk.symm
            subst this; rfl
  | succ k ih =>
    rcases List.eq_nil_or_concat l with rfl | ⟨m, b, rfl⟩
    · rfl
    · simp only [List.concat_eq_append] at *
      by_cases hb : b = 0
      · subst hb
        have h1 := ih m (by simp at hk; omega)
        rw [cutZ_snoc_zero]
        have hle : (cutZ m).length ≤ m.length := by rw [h1]; simp; omega
        rw [List.take_append_of_le_length hle]
        exact h1
      · rw [cutZ_snoc _ _ hb, List.take_of_length_le (Nat.le_refl _)]
theorem own_cut {w : World} {base n c : Nat} {A : Option Addr} {l : List Nat} {e : TypeId} (h : w.ownsRow base e 1 (.slice A n c) n (U l)) :
    w.ownsRow base e 1 (.slice A (cutZ l).length c) (cutZ l).length (U (cutZ l)) := by
  have hl := own_len h
  have h1 := cutZ_take l
  have hle : (cutZ l).length ≤ l.length := by rw [h1]; simp; omega
  by_cases hA : A = none
  · rcases h.2 with ⟨_, h0⟩ | ⟨g, cap, cur, hv, _⟩
    · have : l = [] := List.eq_nil_of_length_eq_zero (by omega)
      subst this
      subst h0
      exact h
    · injection hv with h5; rw [hA] at h5; cases h5
  · have h2 := own_take h (k := (cutZ l).length) (by omega) hA
    rw [← h1] at h2
    exact h2

/-! The builder of the text. -/
def Bld (B b : Nat) (bs : List UInt8) (w : World) : Prop := Lib.IsBuilder 107 5 B b (Lib.byteCells bs) w
theorem builderAt_below {w w' : World} {B b : Nat} {p : Value} {bs : List Value} {T e : TypeId} (h : Lib.BuilderAt T e B b p bs w) (hb : Below w.heap.size w w') : Lib.BuilderAt T e B b p bs w' := by
  have hlt := h.lt
  obtain ⟨h1, v, h2, h3, h4⟩ := h
  exact ⟨h1, v, (hb.block b hlt).trans h2, own_below h3 hb, h4⟩
theorem Bld.below {w w' : World} {B b : Nat} {bs : List UInt8} (h : Bld B b bs w) (hb : Below w.heap.size w w') : Bld B b bs w' := by
  rcases h with h | h
  · exact .inl (builderAt_below h hb)
  · exact .inr (builderAt_below h hb)
theorem bld_new (w : World) : Bld w.heap.size w.heap.size [] (w.alloc (.cells #[.pointer none, .slice none 0 0] 107)) :=
  .inl ⟨Nat.le_refl _, _, heap_alloc_new w _, World.ownsRow_nil _ _ _ _, by simp [Value.ownBlock]⟩
theorem wbyte_any (B b : Nat) (bs : List UInt8) (w : World) (h : Bld B b bs w) (hlen : bs.length ≤ 100000000000) (hBw : B ≤ w.heap.size) :
    Calls Tryz.prog 100 #[.pointer (some ⟨b, 0, none⟩), .int .u8 45] w fun e w' => e = .returned .nilIface ∧ Bld B b (bs ++ [45]) w' ∧ Below B w w' := by
  refine (Tryz.Builder_WriteByte B b (Lib.byteCells bs) 45 w h (by rw [Lib.byteCells_length]; omega) hBw).mono ?_
  rintro e w' ⟨rfl, h1, h2⟩
  refine ⟨rfl, .inr ?_, h2⟩
  have : Lib.byteCells (bs ++ [45]) = Lib.byteCells bs ++ [.int .u8 45] := by simp [Lib.byteCells]
  rw [this]; exact h1
theorem wstr_any (B b : Nat) (bs t : List UInt8) (w : World) (h : Bld B b bs w) (hlen : bs.length ≤ 100000000000) (ht : t.length ≤ 100000000000) (hBw : B ≤ w.heap.size) :
    Calls Tryz.prog 101 #[.pointer (some ⟨b, 0, none⟩), .string ⟨t.toArray⟩] w fun e w' => e = .returned (.tuple #[.int .i64 t.length, .nilIface]) ∧ Bld B b (bs ++ t) w' ∧ Below B w w' := by
  refine (Tryz.Builder_WriteString B b (Lib.byteCells bs) ⟨t.toArray⟩ w h (by rw [Lib.byteCells_length]; show bs.length + t.toArray.size ≤ _; simp; omega) hBw).mono ?_
  rintro e w' ⟨rfl, h1, h2⟩
  refine ⟨by simp [ByteArray.size], .inr ?_, h2⟩
  have : Lib.byteCells (bs ++ t) = Lib.byteCells bs ++ Lib.strCells ⟨t.toArray⟩ := by simp [Lib.byteCells, Lib.strCells]
  rw [this]; exact h1
theorem bstring_any (B b : Nat) (bs : List UInt8) (w : World) (h : Bld B b bs w) (hBw : B ≤ w.heap.size) :
    Calls Tryz.prog 104 #[.pointer (some ⟨b, 0, none⟩)] w fun e w' => e = .returned (.string ⟨bs.toArray⟩) ∧ Below B w w' := Tryz.Builder_String_any B b bs w h hBw

theorem str_add (x y : List UInt8) (hx : x.length ≤ 1000000) (hy : y.length ≤ 1000000) (W : World) : (Op.stringOp .add ⟨x.toArray⟩ ⟨y.toArray⟩).run Tryz.prog W = .ok (.string ⟨(x ++ y).toArray⟩) W := by
  have := run_string_add_lists (P := Tryz.prog) W x y (by omega) (by omega)
  exact this

set_option maxHeartbeats 1000000 in
set_option maxRecDepth 100000 in
theorem text_zero (neg : Bool) (A : Option Addr) (n c : Nat) (l : List Nat) (w : World) (base : Nat) (h : w.ownsRow base 95 1 (.slice A n c) n (U l)) (h0 : cutZ l = []) :
    Calls Tryz.prog 69 #[.agg #[.bool neg, .slice A n c]] w fun e w' => e = .returned (.string ⟨#[]⟩) ∧ Below w.heap.size w w' := by
  have h' := own_below h ((Below.refl _ w).alloc (Nat.le_refl _) (.cells #[.bool neg, .slice A n c] 70))
  have hl0 : (cutZ l).length = 0 := by rw [h0]; rfl
  go_enter Tryz.func69, Tryz.ntmps69
  go_wp2_with (go_at_call 99; refine (cut_any A n c l _ base h').mono ?_; rintro e w1 ⟨rfl, rfl⟩)
  go_ret
  exact ⟨rfl, (Below.refl _ _).alloc (Nat.le_refl _) _⟩

theorem txt_len (l : List Nat) (hs : small l) : (txt l).length ≤ 9 * l.length := by
  induction l with
  | nil => simp [txt]
  | cons g l ih =>
    have hg : g < 10 ^ 9 := hs g (by simp)
    have := ih (fun x hx => hs x (by simp [hx]))
    simp only [txt, List.length_cons]
    split
    · have := fmt_len_le g 9 (by omega) hg; omega
    · rw [List.length_append, pad_len 9 g (by omega) hg]; omega
def pre (neg : Bool) : List UInt8 := if neg then [45] else []
theorem pre_len (neg : Bool) : (pre neg).length ≤ 1 := by cases neg <;> simp [pre]
theorem canon_pre (neg : Bool) (l : List Nat) (hs : small l) (h0 : cutZ l ≠ []) : pre neg ++ txt (cutZ l) = canon (sgn neg (gv l)) := by
  have h1 := txt_dec _ (cutZ_small l hs) (cutZ_norm l)
  rw [gv_cutZ] at h1
  rw [h1]
  have h2 : gv l ≠ 0 := by
    intro e
    rw [cutZ_eq l hs, e] at h0
    exact h0 rfl
  cases neg
  · unfold pre sgn canon
    simp only [Bool.false_eq_true, if_false, List.nil_append]
    rw [if_neg (by omega)]; simp
  · unfold pre sgn canon
    simp only [if_true]
    rw [if_pos (by omega)]; simp
theorem txt_step (g : List Nat) (k x : Nat) (h : g[k]? = some x) (hk : k + 1 < g.length) : txt (g.drop k) = txt (g.drop (k + 1)) ++ pad 9 x := by
  obtain ⟨h1, rfl⟩ := List.getElem?_eq_some_iff.1 h
  exact txt_drop g k hk

set_option maxHeartbeats 2000000 in
set_option maxRecDepth 100000 in
theorem text_pos (neg : Bool) (A : Option Addr) (n c : Nat) (l : List Nat) (w : World) (base : Nat) (h : w.ownsRow base 95 1 (.slice A n c) n (U l)) (hs : small l) (hG : Glob w) (hn : n ≤ 1000000000) (h0 : cutZ l ≠ []) :
    Calls Tryz.prog 69 #[.agg #[.bool neg, .slice A n c]] w fun e w' => e = .returned (.string ⟨(pre neg ++ txt (cutZ l)).toArray⟩) ∧ Below w.heap.size w w' := by
  have hbox := (Below.refl w.heap.size w).alloc (Nat.le_refl _) (.cells #[.bool neg, .slice A n c] 70)
  have h' := own_below h hbox
  have hcz := own_cut h
  have hlen := own_len h
  obtain ⟨g, hg⟩ : ∃ g, g = cutZ l := ⟨_, rfl⟩
  have hgs : small g := by rw [hg]; exact cutZ_small l hs
  have hgl : g.length ≤ 1000000000 := by
    have := congrArg List.length (cutZ_take l)
    rw [List.length_take, ← hg] at this
    omega
  rw [← hg] at hcz h0 ⊢
  have hg1 : 1 ≤ g.length := List.length_pos_iff.2 h0
  have Hg := Lib.hid hg
  clear hg
  obtain ⟨hc1, hc2⟩ := own_cap hcz
  unfold maxLen at hc2
  have HG := Lib.hid hG
  have HGS := Lib.hid hgs
  clear hG hgs h0 hs hlen
  go_enter Tryz.func69, Tryz.ntmps69
  go_upto_if 14 with (go_at_call 99; refine (cut_any A n c l _ base h').mono ?_; rintro e w1 ⟨he, rfl⟩; rw [← Hg.out] at he; subst he)
  go_cut [] (fun wx => Bld (w.heap.size + 1) (w.heap.size + 1) (pre neg) wx ∧ Below (w.heap.size + 1) (w.alloc (.cells #[.bool neg, .slice A n c] 70)) wx)
  case first =>
    have hbn := bld_new (w.alloc (.cells #[.bool neg, .slice A n c] 70))
    simp only [World.size_alloc] at hbn
    cases neg
    · go_wp2_with fail
      go_meet
      exact ⟨hbn, (Below.refl _ _).alloc (by simp) _⟩
    · go_wp2_with (go_at_call 100; refine (wbyte_any _ _ _ _ hbn (by simp) (by simp)).mono ?_; rintro e w2 ⟨rfl, hbn2, hb2⟩)
      go_meet
      exact ⟨hbn2, ((Below.refl _ _).alloc (by simp) _).trans hb2⟩
  case rest =>
    obtain ⟨hbd, hbw⟩ := hcut
    have hbw' := below_of_alloc hbw
    have hown := own_below hcz hbw'
    have hGc := HG.out.below hbw'
    have hz := hbw.size
    simp only [World.size_alloc] at hz
    have hpl := pre_len neg
    obtain ⟨ga, x, rfl, hx, _, _, hcell, _⟩ := own_at hown (k := g.length - 1) (by omega)
    have hxb : x < 1000000000 := HGS.out x (List.mem_of_getElem? hx)
    have HX := Lib.hid hx
    have HF : Hid (pre neg ++ fmt x = pre neg ++ txt (g.drop (g.length - 1))) := by show _ = _; rw [txt_last g x HX.out]
    have hfl := fmt_len_le x 9 (by omega) hxb
    clear hx hown
    have HH := Lib.hid h
    have HH' := Lib.hid h'
    have HCZ := Lib.hid hcz
    clear h h' hcz
    go_wp2_with (first
      | (go_at_call 102; refine (format_any x (by omega) _ hGc).mono ?_; rintro e w2 ⟨rfl, hb2⟩; have hbd2 := hbd.below hb2; have hz2 := hb2.size)
      | (go_at_call 101; refine (wstr_any _ _ _ _ _ hbd2 (by omega) (by omega) (by omega)).mono ?_; rintro e w3 ⟨rfl, hbd3, hb3⟩; have hz3 := hb3.size))
    rw [HF.out] at hbd3
    have hb3' : Below (w.heap.size + 1) (w.alloc (.cells #[.bool neg, .slice (some ⟨ga, 0, none⟩) n c] 70)) w3 := (hbw.trans (hb2.mono (by omega))).trans hb3
    clear hbd hbd2 hb2 hb3 hbw hcell hGc hbw'
    clear HX HF hxb hfl
    go_loopw [5] (fun i wr => ∃ k : Nat, k + 1 ≤ g.length ∧ i = .int .i64 ((k : Int) - 1) ∧ Bld (w.heap.size + 1) (w.heap.size + 1) (pre neg ++ txt (g.drop k)) wr ∧ Below (w.heap.size + 1) (w.alloc (.cells #[.bool neg, .slice (some ⟨ga, 0, none⟩) n c] 70)) wr) (fun i _ => (intOf i + 1).toNat)
    case atStart => exact ⟨g.length - 1, by omega, by congr 1; omega, hbd3, hb3'⟩
    case round =>
      obtain ⟨k, hk, rfl, hbd, hbw⟩ := hrel
      clear hbd3 hb3' hz hz2 hz3
      have hbw' := below_of_alloc hbw
      have hz := hbw.size
      simp only [World.size_alloc] at hz
      by_cases hk0 : k = 0
      · subst hk0
        have HT : Hid ((pre neg ++ txt (g.drop 0)) = pre neg ++ txt g) := by show _ = _; rw [List.drop_zero]
        rw [HT.out] at hbd
        go_wp2_with (go_at_call 104; refine (bstring_any _ _ _ _ hbd (by omega)).mono ?_; rintro e w4 ⟨rfl, hb4⟩)
        go_ret
        exact ⟨rfl, hbw'.trans (hb4.mono (by omega))⟩
      · obtain ⟨j, rfl⟩ : ∃ j, k = j + 1 := ⟨k - 1, by omega⟩
        have hown := own_below HCZ.out hbw'
        have hGc := HG.out.below hbw'
        obtain ⟨ga', x', hga, hx, _, _, hcell, _⟩ := own_at hown (k := j) (by omega)
        obtain rfl : ga' = ga := by injection hga with h1; injection h1 with h2; exact h2.symm
        have hxb : x' < 1000000000 := HGS.out x' (List.mem_of_getElem? hx)
        have HT : Hid ((pre neg ++ txt (g.drop (j + 1))) ++ (List.replicate (9 - (fmt x').length) 48 ++ fmt x') = pre neg ++ txt (g.drop j)) := by
          show _ = _; rw [txt_step g j x' hx (by omega), List.append_assoc]; rfl
        have hfl := fmt_len_le x' 9 (by omega) hxb
        have htl := txt_len (g.drop (j + 1)) (small_drop HGS.out _)
        rw [List.length_drop] at htl
        have hadd := str_add (List.replicate (9 - (fmt x').length) 48) (fmt x') (by simp; omega) (by omega)
        clear hx hown hga
        go_wp2_with (first
          | (go_at_call 102; refine (format_any x' (by omega) _ hGc).mono ?_; rintro e w2 ⟨rfl, hb2⟩; have hbd2 := hbd.below hb2; have hz2 := hb2.size)
          | (go_at_call 103; refine (repeat_int _ (9 - (fmt x').length) _ (by omega) (by omega)).mono ?_; rintro e w3 ⟨rfl, hb3⟩; have hbd3 := hbd2.below hb3; have hz3 := hb3.size)
          | (go_at_call 101; refine (wstr_any _ _ _ _ _ hbd3 (by simp; omega) (by simp; omega) (by omega)).mono ?_; rintro e w4 ⟨rfl, hbd4, hb4⟩))
        go_roundw
        case rel => exact ⟨j, by omega, by go_num, by rw [← HT.out]; exact hbd4, ((hbw.trans (hb2.mono (by omega))).trans (hb3.mono (by omega))).trans hb4⟩
        case measure => simp [intOf]

/-- the canonical text of a signed magnitude -/
theorem text_any (neg : Bool) (A : Option Addr) (n c : Nat) (l : List Nat) (w : World) (base : Nat) (h : w.ownsRow base 95 1 (.slice A n c) n (U l)) (hs : small l) (hG : Glob w) (hn : n ≤ 1000000000) :
    Calls Tryz.prog 69 #[.agg #[.bool neg, .slice A n c]] w fun e w' => e = .returned (.string ⟨(canon (sgn neg (gv l))).toArray⟩) ∧ Below w.heap.size w w' := by
  by_cases h0 : cutZ l = []
  · have hv : gv l = 0 := by rw [← gv_cutZ, h0]; rfl
    have hz : canon (sgn neg (gv l)) = [] := by rw [hv]; cases neg <;> rfl
    rw [hz]
    exact text_zero neg A n c l w base h h0
  · rw [← canon_pre neg l hs h0]
    exact text_pos neg A n c l w base h hs hG hn h0
end Go.Proofs.YtjhafnnfkaejgaaGreatDoor
