/- Package integer: digits, read, (number).text, Canonical, Check, Print, Parse. -/
import Derived.Test.YtjhafnnfkaejgaaGreatDoorLib
import Derived.Test.YtjhafnnfkaejgaaGreatDoorCut
namespace Go.Proofs.YtjhafnnfkaejgaaGreatDoor
open Go.RowKit Num

theorem digs_ok {l : List UInt8} (h : (rest l).all isDig = true) : digs l = sig (rest l) := by unfold digs okDig; rw [if_pos h]
theorem digs_no {l : List UInt8} (h : (rest l).all isDig = false) : digs l = [] := by unfold digs okDig; rw [h]; rfl
theorem negB_ok {l : List UInt8} (h : (rest l).all isDig = true) : negB l = (isNeg l && !(sig (rest l)).isEmpty) := by unfold negB; rw [digs_ok h]
theorem negB_no {l : List UInt8} (h : (rest l).all isDig = false) : negB l = false := by unfold negB; rw [digs_no h]; simp
theorem rest_len (l : List UInt8) : (rest l).length ≤ l.length := by unfold rest; split <;> simp
theorem ret2 {a b c d : Value} (h : a = b) (k : c = d) : Ending.returned (.tuple #[a, c]) = .returned (.tuple #[b, d]) := by rw [h, k]
theorem str_eq {a b : List UInt8} (h : a = b) : Value.string ⟨a.toArray⟩ = .string ⟨b.toArray⟩ := by rw [h]

set_option maxHeartbeats 400000 in
theorem digits_any (l : List UInt8) (w : World) (hl : l.length ≤ 1000000000) :
    Calls Tryz.prog 97 #[.string ⟨l.toArray⟩] w fun e w' => e = .returned (.tuple #[.string ⟨(digs l).toArray⟩, .bool (negB l)]) ∧ Below w.heap.size w w' := by
  have hr := rest_len l
  go_enter Tryz.func97, Tryz.ntmps97
  go_wp2_with (go_at_call 115; refine (cutPrefix_any l _).mono ?_; rintro e w' ⟨rfl, rfl⟩)
  refine (trim_any (rest l) _ (by omega)).mono ?_
  rintro e w1 ⟨⟨t, ht, rfl⟩, hb1⟩
  by_cases hd : (rest l).all isDig = true
  · have ht0 : t = [] := by rw [hd] at ht; exact List.isEmpty_iff.1 ht
    subst ht0
    have HD := Lib.hid hd
    clear hd ht
    go_wp2_with (go_at_call 117; refine (trimLeft_any (rest l) _).mono ?_; rintro e w2 ⟨rfl, hb2⟩)
    all_goals go_ret2
    · have hn : isNeg l = true := by assumption
      exact ⟨ret2 (str_eq (digs_ok HD.out).symm) (by rw [negB_ok HD.out, hn]; simp), bto hb1 hb2⟩
    · have hn : isNeg l = false := by rename_i h; simpa using h
      exact ⟨ret2 (str_eq (digs_ok HD.out).symm) (by rw [negB_ok HD.out, hn]; simp), bto hb1 hb2⟩
  · have hd' : (rest l).all isDig = false := by simpa using hd
    have ht0 : t.isEmpty = false := by rw [ht, hd']
    have ht1 : (!t.isEmpty) = true := by rw [ht0]; rfl
    have HD := Lib.hid hd'
    clear hd ht hd'
    go_wp2_with fail
    go_ret2
    exact ⟨ret2 (str_eq (digs_no HD.out).symm) (by rw [negB_no HD.out]; rfl), hb1⟩

/-- a magnitude of value m, in a row from block 'base' on -/
def Mag (w : World) (base : Nat) (v : Value) (m : Nat) : Prop := w.ownsRow base 95 1 v (grp m).length (U (grp m))
theorem Mag.form {w : World} {base : Nat} {v : Value} {m : Nat} (h : Mag w base v m) : ∃ A c, v = .slice A (grp m).length c := by
  rcases h.2 with ⟨rfl, h0⟩ | ⟨g, cap, cur, rfl, _⟩
  · exact ⟨none, 0, by rw [h0]⟩
  · exact ⟨_, _, rfl⟩
theorem mag_of {w : World} {base n : Nat} {v : Value} {l : List Nat} {m : Nat} (h : w.ownsRow base 95 1 v n (U l)) (hl : l = grp m) : Mag w base v m := by
  subst hl
  have h1 : (grp m).length = n := by have := h.1; simpa using this
  subst h1
  exact h
theorem Mag.below {w w' : World} {base : Nat} {v : Value} {m : Nat} (h : Mag w base v m) (hb : Below w.heap.size w w') : Mag w' base v m := own_below h hb
theorem Mag.base {w : World} {base base' : Nat} {v : Value} {m : Nat} (h : Mag w base v m) (hb : base' ≤ base) : Mag w base' v m := own_base h hb
theorem grp_read (t : List UInt8) (h0 : t ≠ []) (hd : t.all isDig = true) (hh : t.head? ≠ some 48) : grp (nat t) = nat (t.drop (t.length - 9)) :: grp (nat (t.take (t.length - 9))) := by
  have h1 := readG_grp (t.length + 1) t (by omega) hd hh
  rw [← h1, readG, if_neg h0]
  congr 1
  apply readG_grp
  · simp
  · rw [List.all_eq_true] at *; intro x hx; exact hd x (List.mem_of_mem_take hx)
  · cases t with
    | nil => simp at h0
    | cons a t =>
      cases h : (a :: t).length - 9 with
      | zero => simp
      | succ k => simpa using hh
theorem extract_list (l : List UInt8) (a b : Nat) : (⟨l.toArray⟩ : ByteArray).extract a b = ⟨((l.take b).drop a).toArray⟩ := by
  apply ByteArray.ext
  apply Array.ext'
  rw [Lib.extract_data]
  simp only
  rw [List.drop_take]
theorem read_step {s : List UInt8} {G : List Nat} {e : Nat} (he : 0 < e) (hl : e ≤ s.length) (hd : s.all isDig = true) (hh : s.head? ≠ some 48) (h : G ++ grp (nat (s.take e)) = grp (nat s)) :
    (G ++ [nat ((s.take e).drop (e - 9))]) ++ grp (nat (s.take (e - 9))) = grp (nat s) := by
  have hlen : (s.take e).length = e := by simp; omega
  have h1 := grp_read (s.take e) (by intro h0; rw [h0] at hlen; simp at hlen; omega) (by rw [List.all_eq_true] at *; intro x hx; exact hd x (List.mem_of_mem_take hx)) (by
    cases s with
    | nil => simp
    | cons a t => cases e with
      | zero => omega
      | succ k => simpa using hh)
  rw [hlen, List.take_take, Nat.min_eq_left (by omega)] at h1
  rw [← h, h1]; simp

set_option maxHeartbeats 1000000 in
set_option maxRecDepth 100000 in
theorem read_any (l : List UInt8) (w : World) (hl : l.length ≤ 1000000000) :
    Calls Tryz.prog 68 #[.string ⟨l.toArray⟩] w fun e w' => ∃ v, e = .returned (.agg #[.bool (negB l), v]) ∧ Mag w' w.heap.size v (val l).natAbs ∧ Below w.heap.size w w' := by
  obtain ⟨i0, hi, hz0, hz1, hz2⟩ := info_parts info_u64
  obtain ⟨s, hs⟩ : ∃ s, s = digs l := ⟨_, rfl⟩
  have HN : Hid (nat s = (val l).natAbs) := by show _ = _; rw [hs, digs_dec, nat_dec]
  have hsd : s.all isDig = true := by rw [hs, digs_dec]; exact dec_digs _
  have hsh : s.head? ≠ some 48 := by rw [hs, digs_dec]; exact dec_head _
  have hsl : s.length ≤ 1000000000 := by
    refine Nat.le_trans ?_ hl
    rw [hs]; unfold digs sig
    split
    · exact Nat.le_trans (List.dropWhile_sublist _).length_le (rest_len l)
    · simp
  have HSD := Lib.hid hsd
  have HSH := Lib.hid hsh
  have HS := Lib.hid hs
  clear hsd hsh hs
  go_enter Tryz.func68, Tryz.ntmps68
  go_wp2_with (go_at_call 97; refine (digits_any l _ hl).mono ?_; rintro e w1 ⟨he, hb1⟩; rw [← HS.out] at he; subst he)
  have hz1' := hb1.size
  simp only [World.size_alloc] at hz1' hb1
  go_loopw [5, 6] (fun v i wr => ∃ (z : Int) (G : List Nat) (A : Option Addr) (c : Nat), v = .slice A G.length c ∧ i = .int .i64 z ∧ -9 < z ∧ 9 * (G.length : Int) + z ≤ s.length ∧ wr.ownsRow (w.heap.size + 1) 95 1 (.slice A G.length c) G.length (U G) ∧ Hid (G ++ grp (nat (s.take z.toNat)) = grp (nat s)) ∧ Below (w.heap.size + 1) w1 wr) (fun _ i _ => (intOf i + 9).toNat)
  case atStart => exact ⟨_, [], none, 0, rfl, rfl, by omega, by simp, World.ownsRow_nil _ _ _ _, by show _ = _; simp, Below.refl _ _⟩
  case round =>
    obtain ⟨z, G, A, c, rfl, rfl, hz, hGl, hown, HG, hbw⟩ := hrel
    have hblk := blk_new (hb1.trans hbw)
    have c0 : wr.cell? ⟨w.heap.size, 0, none⟩ = some (.bool false) := blk_cell hblk 0
    have c1 : wr.cell? ⟨w.heap.size, 1, none⟩ = some (.slice none 0 0) := blk_cell hblk 1
    have f0 := blk_frozen hblk 0
    have f1 := blk_frozen hblk 1
    clear hblk
    by_cases hz0' : z ≤ 0
    · clear hi hz0 hz1 hz2 i0
      go_wp2
      refine bodyPost_ret (v := .agg #[.bool (negB l), .slice A G.length c]) (by simp [results, Tryz.results68, go_sem, c0, c1]) rfl ?_
      have hG : G = grp (val l).natAbs := by
        have h1 := HG.out
        rw [show z.toNat = 0 by omega, List.take_zero, nat_nil, grp_zero, List.append_nil, HN.out] at h1
        exact h1
      subst hG
      have hbb : Below w.heap.size w wr := below_of_alloc (hb1.trans hbw)
      refine ⟨_, rfl, ?_, (hbb.setCell (p := ⟨w.heap.size, 0, none⟩) (Nat.le_refl _) _).setCell (p := ⟨w.heap.size, 1, none⟩) (Nat.le_refl _) _⟩
      exact own_base (ownsRow_setCell_below (a := ⟨w.heap.size, 1, none⟩) (ownsRow_setCell_below (a := ⟨w.heap.size, 0, none⟩) hown (Nat.lt_succ_self _) _) (Nat.lt_succ_self _) _) (Nat.le_succ _)
    · obtain ⟨e, rfl⟩ : ∃ e : Nat, z = e := ⟨z.toNat, by omega⟩
      obtain ⟨t, ht⟩ : ∃ t, t = (s.take e).drop (e - 9) := ⟨_, rfl⟩
      have hx : (⟨s.toArray⟩ : ByteArray).extract (max 0 ((e : Int) - 9)).toNat e = ⟨t.toArray⟩ := by rw [extract_list, ht, show (max 0 ((e : Int) - 9)).toNat = e - 9 by omega]
      have HT := Lib.hid ht
      have htl : t.length ≤ 9 := by rw [ht]; simp; omega
      have ht0 : t ≠ [] := by intro h0; rw [h0] at ht; have := congrArg List.length ht; simp at this; omega
      have htd : t.all isDig = true := by
        rw [ht, List.all_eq_true]; intro x hx'; exact (List.all_eq_true.1 HSD.out) x (List.mem_of_mem_take (List.mem_of_mem_drop hx'))
      have HT0 := Lib.hid ht0
      have HTD := Lib.hid htd
      clear ht ht0 htd
      have hz2' := hbw.size
      go_wp2_with (first
        | (go_at_call 98; refine (parse_any t _ HT0.out HTD.out htl).mono ?_; rintro e1 w2 ⟨rfl, hb2⟩; have hown2 := own_below hown hb2; have hz3 := hb2.size)
        | (at_builtin; refine wpList_append_own _ rfl _ _ 68 rfl (w.heap.size + 1) 95 i0 (.int .u64 0) 1 8 Tryz.underlying68 hi hz0 hz1 hz2 rfl (by decide) _ _ _ rfl (hown2.alloc _) ⟨w2.heap.size, 0, none⟩ 1 1 [.int .u64 (nat t : Nat)] rfl rfl ?c1 ?c2 ?c3 ?c4 ?c5 ?_))
      case c1 => exact cell_one_new _ _ _
      case c2 => intro u hu; simp at hu; subst hu; rfl
      case c3 => unfold maxLen; omega
      case c4 => omega
      case c5 => simp; omega
      intro v' w3 hown' hgrow _
      have hb3 : Below (w.heap.size + 1) w1 w3 := (((hbw.trans (hb2.mono (by omega))).alloc (by omega) _).grown hgrow (by simp; omega) (own_block_ge hown))
      obtain ⟨A', c', rfl⟩ := own_form hown'
      have HT' : Hid ((G ++ [nat t]) ++ grp (nat (s.take (e - 9))) = grp (nat s)) := by
        show _ = _
        have h1 := HG.out
        rw [Int.toNat_natCast] at h1
        rw [HT.out]
        exact read_step (by omega) (by omega) HSD.out HSH.out h1
      clear hown hown2 hgrow hb2 c0 c1 f0 f1 hx
      go_wp2
      go_roundw
      case rel => exact ⟨(e : Int) - 9, G ++ [nat t], A', c', by simp, rfl, by omega, by simp; omega, by simpa using hown', by rw [show ((e : Int) - 9).toNat = e - 9 by omega]; exact HT', hb3⟩
      case measure => simp [intOf]; omega
end Go.Proofs.YtjhafnnfkaejgaaGreatDoor
