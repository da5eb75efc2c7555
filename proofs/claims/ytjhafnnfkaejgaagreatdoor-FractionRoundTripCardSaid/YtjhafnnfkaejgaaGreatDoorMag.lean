/- Words for the magnitudes of package integer in memory: a slice of uint64 at the head of a row. -/
import Derived.Test.YtjhafnnfkaejgaaGreatDoorRows
import Derived.Test.YtjhafnnfkaejgaaGreatDoorNum
import Derived.Test.YtjhafnnfkaejgaaGreatDoorNumb
import Derived.WalkKit
import Derived.WalkSpells
import Derived.WalkLawsBesides
import Derived.Deep.QuietTactic
import Derived.BigQuiet
import Derived.Lib.Hide
import Derived.Lib.ItoaMem
import Derived.Laws.Rows
import Derived.Laws.MakeOwn
import Derived.Laws.OwnMore
import Derived.Laws.CopyOwn
namespace Go.Proofs.YtjhafnnfkaejgaaGreatDoor
open Go.RowKit Num

abbrev U (l : List Nat) : List Value := l.map fun (x : Nat) => Value.int .u64 (x : Int)
def sLen : Value → Nat
  | .slice _ n _ => n
  | _ => 0
@[simp] theorem sLen_slice (A : Option Addr) (n c : Nat) : sLen (.slice A n c) = n := rfl

theorem U_one (l : List Nat) : ∀ u ∈ U l, u.oneCell' = true := by
  intro u hu; simp at hu; obtain ⟨q, _, rfl⟩ := hu; rfl
section
variable {w w' : World} {base n c : Nat} {A : Option Addr} {l : List Nat} {e : TypeId}
theorem own_len (h : w.ownsRow base e 1 (.slice A n c) n (U l)) : l.length = n := by
  have := h.1; simpa using this
theorem own_cap (h : w.ownsRow base e 1 (.slice A n c) n (U l)) : n ≤ c ∧ c ≤ maxLen := by
  rcases h.2 with ⟨hv, hn⟩ | ⟨g, cap, cur, hv, _, _, h1, h2, _⟩
  · injection hv with _ h1 h2; subst h1 h2; exact ⟨by omega, by unfold maxLen; omega⟩
  · injection hv with _ _ h3; subst h3; exact ⟨h1, h2⟩
theorem own_at {k : Nat} (h : w.ownsRow base e 1 (.slice A n c) n (U l)) (hk : k < n) :
    ∃ (g x : Nat), A = some ⟨g, 0, none⟩ ∧ l[k]? = some x ∧ base ≤ g ∧ g < w.heap.size ∧ w.cell? ⟨g, k, none⟩ = some (.int .u64 (x : Int)) ∧ w.frozen? ⟨g, k, none⟩ = false := by
  have hl := own_len h
  rcases h.2 with ⟨_, hn⟩ | ⟨g, cap, cur, hv, hb, hh, _⟩
  · omega
  · injection hv with h1 _ h3
    subst h1 h3
    refine ⟨g, l[k]'(by omega), rfl, List.getElem?_eq_getElem (by omega), hb, ?_, ?_, h.frozenAt k⟩
    · exact (Array.getElem?_eq_some_iff.1 hh).1
    · rw [h.cellAt k (by omega)]
      simp [U, List.getElem?_eq_getElem (show k < l.length by omega)]
theorem own_below {v : Value} {xs : List Value} (h : w.ownsRow base e 1 v n xs) (hb : Below w.heap.size w w') : w'.ownsRow base e 1 v n xs := by
  refine ⟨h.1, ?_⟩
  rcases h.2 with h0 | ⟨g, cap, cur, hv, hb1, hh, hr⟩
  · exact .inl h0
  · exact .inr ⟨g, cap, cur, hv, hb1, (hb.block g (Array.getElem?_eq_some_iff.1 hh).1).trans hh, hr⟩
theorem own_base {base' : Nat} {v : Value} {xs : List Value} (h : w.ownsRow base e 1 v n xs) (hb : base' ≤ base) : w.ownsRow base' e 1 v n xs := by
  refine ⟨h.1, ?_⟩
  rcases h.2 with h0 | ⟨g, cap, cur, hv, hb1, hr⟩
  · exact .inl h0
  · exact .inr ⟨g, cap, cur, hv, by omega, hr⟩
theorem own_take (h : w.ownsRow base e 1 (.slice A n c) n (U l)) {k : Nat} (hk : k ≤ n) (hA : A ≠ none) : w.ownsRow base e 1 (.slice A k c) k (U (l.take k)) := by
  have hl := own_len h
  refine ⟨by simp; omega, ?_⟩
  rcases h.2 with ⟨hv, _⟩ | ⟨g, cap, cur, hv, hb1, hh, h1, h2, h3, h4⟩
  · injection hv with h5; exact absurd h5 hA
  · injection hv with h5 _ h6
    subst h5 h6
    refine .inr ⟨g, c, cur, rfl, hb1, hh, by omega, h2, h3, ?_⟩
    rw [show k * 1 = min k (n * 1) by omega, ← List.take_take, h4]
    simp
end

theorem own_at_below {w w' : World} {base n c k : Nat} {A : Option Addr} {l : List Nat} {e : TypeId} (h : w.ownsRow base e 1 (.slice A n c) n (U l)) (hb : Below w.heap.size w w') (hk : k < n) :
    ∃ (g x : Nat), A = some ⟨g, 0, none⟩ ∧ l[k]? = some x ∧ g < w.heap.size ∧ w'.cell? ⟨g, k, none⟩ = some (.int .u64 (x : Int)) := by
  obtain ⟨g, x, h1, h2, _, h3, h4, _⟩ := own_at h hk
  exact ⟨g, x, h1, h2, h3, (hb.cell (p := ⟨g, k, none⟩) h3).trans h4⟩
theorem own_block_ge {w : World} {base n : Nat} {e : TypeId} {v : Value} {xs : List Value} (h : w.ownsRow base e 1 v n xs) (g : Nat) (hg : v.ownBlock = some g) : base ≤ g := by
  rcases h.2 with ⟨rfl, _⟩ | ⟨g', cap, cur, rfl, hb, _⟩
  · simp [Value.ownBlock] at hg
  · simp only [Value.ownBlock, Option.some.injEq] at hg; omega
theorem own_form {w : World} {base n : Nat} {e : TypeId} {v : Value} {xs : List Value} (h : w.ownsRow base e 1 v n xs) : ∃ A c, v = .slice A n c := by
  rcases h.2 with ⟨rfl, h0⟩ | ⟨g, cap, cur, rfl, _⟩
  · exact ⟨none, 0, by rw [h0]⟩
  · exact ⟨_, _, rfl⟩
theorem blk_new {w wr : World} {o : Obj} (h : Below (w.heap.size + 1) (w.alloc o) wr) : wr.heap[w.heap.size]? = some o :=
  (h.block w.heap.size (by omega)).trans (heap_alloc_new w o)
theorem blk_cell {w : World} {g : Nat} {cs : Array Value} {t : TypeId} (h : w.heap[g]? = some (.cells cs t (0, 0))) (i : Nat) : w.cell? ⟨g, i, none⟩ = cs[i]? := cell_of_row w g i cs t (0, 0) h
theorem blk_frozen {w : World} {g : Nat} {cs : Array Value} {t : TypeId} (h : w.heap[g]? = some (.cells cs t (0, 0))) (i : Nat) : w.frozen? ⟨g, i, none⟩ = false := by simp [World.frozen?, h]
theorem below_of_alloc {w wr : World} {o : Obj} (h : Below (w.heap.size + 1) (w.alloc o) wr) : Below w.heap.size w wr :=
  ((Below.refl _ w).alloc (Nat.le_refl _) o).trans (h.mono (Nat.le_succ _))

/-! A row of numbers that is known whole. -/
def Row (w : World) (g : Nat) (xs : List Nat) : Prop := w.heap[g]? = some (.cells (U xs).toArray 95 (0, 0))
section
variable {w w' : World} {g : Nat} {xs : List Nat}
theorem Row.lt (h : Row w g xs) : g < w.heap.size := (Array.getElem?_eq_some_iff.1 h).1
theorem Row.cell (h : Row w g xs) {k x : Nat} (hx : xs[k]? = some x) : w.cell? ⟨g, k, none⟩ = some (.int .u64 (x : Int)) := by
  rw [blk_cell h k]; simp [hx]
theorem Row.frozen (h : Row w g xs) (k : Nat) : w.frozen? ⟨g, k, none⟩ = false := blk_frozen h k
theorem Row.set_ (h : Row w g xs) (k y : Nat) : Row (w.setCell ⟨g, k, none⟩ (.int .u64 (y : Int))) g (xs.set k y) := by
  unfold Row at h ⊢
  simp [World.setCell, Array.getElem?_modify, h, List.map_set]
theorem Row.setI (h : Row w g xs) (k y : Nat) {z : Int} (hz : z = y) : Row (w.setCell ⟨g, k, none⟩ (.int .u64 z)) g (xs.set k y) := by
  subst hz; exact h.set_ k y
theorem Row.drewN (h : Row w g xs) (n : Nat) : Row (w.drewN n) g xs := h
theorem Row.drew (h : Row w g xs) : Row w.drew g xs := h
theorem Row.alloc (h : Row w g xs) (o : Obj) : Row (w.alloc o) g xs := (Below.heap_alloc w o g h.lt).trans h
theorem Row.below (h : Row w g xs) (hb : Below w.heap.size w w') : Row w' g xs := (hb.block g h.lt).trans h
theorem Row.own (h : Row w g xs) {base n : Nat} (hb : base ≤ g) (hn : n ≤ xs.length) (hm : xs.length ≤ maxLen) : w.ownsRow base 95 1 (.slice (some ⟨g, 0, none⟩) n xs.length) n (U (xs.take n)) := by
  refine ⟨by simp; omega, .inr ⟨g, xs.length, (U xs).toArray, rfl, hb, h, hn, hm, by simp, ?_⟩⟩
  simp [List.map_take]
end
theorem run_make_rowN {P : Program} (t e : TypeId) (i : TypeInfo) (z : Value) (ht : P.underlying t = some (.slice e)) (hi : P.info? e = some i) (hz : i.zero = some z)
    (kl kc : IntKind) (n c : Nat) (hnc : n ≤ c) (hbytes : i.bytes * c ≤ 281474976710656) (h63 : c ≤ 9223372036854775807) (w : World) :
    (Instr.makeSlice t (.int kl (n : Int)) (.int kc (c : Int))).run P w = .ok (.slice (some ⟨w.heap.size, 0, none⟩) n c) (w.alloc (.cells (madeCells z.cells (c * i.size)) e)) := by
  have hb : (i.bytes : Int) * (c : Int) ≤ 281474976710656 := by
    have h : ((i.bytes * c : Nat) : Int) ≤ 281474976710656 := by omega
    rwa [Int.natCast_mul] at h
  have hr := run_make (P := P) w t e i z ht hi hz kl kc n c (by omega) (by omega) hb (by omega)
  simp only [Int.toNat_natCast] at hr
  exact hr
theorem info_u64 : (Tryz.prog.info? 95).map (fun i => (i.zero, i.size, i.bytes)) = some (some (.int .u64 0), 1, 8) := by kernel_rfl
def zrow (c : Nat) : Obj := .cells (U (List.replicate c 0)).toArray 95
theorem make_u64 (t : TypeId) (ht : Tryz.prog.underlying t = some (.slice 95)) (n c : Nat) (zc : Int) (hzc : zc = c) (hnc : n ≤ c) (hc : c ≤ 10000000000) (w : World) :
    (Instr.makeSlice t (.int .i64 (n : Int)) (.int .i64 zc)).run Tryz.prog w = .ok (.slice (some ⟨w.heap.size, 0, none⟩) n c) (w.alloc (zrow c)) := by
  subst hzc
  obtain ⟨i0, hi, hz0, hz1, hz2⟩ := info_parts info_u64
  rw [run_make_rowN t 95 i0 (.int .u64 0) ht hi hz0 .i64 .i64 n c hnc (by rw [hz2]; omega) (by omega) w, hz1]
  have : madeCells (Value.int .u64 0).cells (c * 1) = (U (List.replicate c 0)).toArray := by
    apply Array.ext'
    show (madeCells #[Value.int .u64 0] (c * 1)).toList = _
    rw [toList_madeCells_one]; simp
  rw [this]; rfl
theorem splice_zero (c : Nat) (l : List Nat) : splice (U (List.replicate c 0)) 0 (U l) = U (l ++ List.replicate (c - l.length) 0) := by
  simp [splice]
theorem size_u64 : (Tryz.prog.info? 95).map (·.size) = some 1 := by kernel_rfl
/-- 'copy(out, m)' into a new row of zeros -/
theorem wp_copy_row {w : World} {ops : Array Oper} {rest : List Oper} {o : Oper} {act : Act} {Q : Exit → Act → World → Prop} (hgd : o.guard = none) (d s : Operand) (T : TypeId)
    (ho : o.op = .call { callee := .builtin .copy, args := #[d, s], argTypes := #[T, T] }) (hu : Tryz.prog.underlying T = some (.slice 95))
    (A : Option Addr) (g n c m base : Nat) (l : List Nat) (hd : act.eval d = .slice (some ⟨g, 0, none⟩) n m) (hs : act.eval s = .slice A n c)
    (hown : w.ownsRow base 95 1 (.slice A n c) n (U l)) (hrow : Row w g (List.replicate m 0)) (hnm : n ≤ m) (B : Nat) (w0 : World) (hb : Below B w0 w) (hBg : B ≤ g)
    (h : ∀ w', Row w' g (l ++ List.replicate (m - n) 0) → Below B w0 w' → wpList Tryz.prog ops Q rest (act.put o.dst (goInt n)) w') : wpList Tryz.prog ops Q (o :: rest) act w := by
  have hl := own_len hown
  refine wpList_copy_splice hgd d s T T ho 95 hu size_u64 (some ⟨g, 0, none⟩) A n m n c hd hs g 0 (U (List.replicate m 0)) 95 hrow (U l) (by simp; omega) ?_ (by simp; omega) ?_ B w0 hb hBg ?_
  · intro hp
    refine ⟨rfl, ?_⟩
    rcases hown.2 with ⟨_, h0⟩ | ⟨g', cap, cur, hv, hbg, hh, _⟩
    · simp at hp; omega
    · injection hv with hA _ hc'
      subst hA hc'
      refine ⟨_, rfl, fun j v hj => ?_⟩
      rw [Lib.add_plain, Nat.zero_add, hown.cellAt j (by have := (List.getElem?_eq_some_iff.1 hj).1; simp at this; omega)]
      exact hj
  · intro v hv; simp at hv; obtain ⟨q, _, rfl⟩ := hv; rfl
  · intro w' h1 h2
    have e : (U l).length = n := by simp; omega
    rw [e]
    refine h w' ?_ h2
    have h3 := h1.out
    rw [splice_zero, hl] at h3
    exact h3
theorem zrow_row (w : World) (c : Nat) : Row (w.alloc (zrow c)) w.heap.size (List.replicate c 0) := heap_alloc_new w _
end Go.Proofs.YtjhafnnfkaejgaaGreatDoor
