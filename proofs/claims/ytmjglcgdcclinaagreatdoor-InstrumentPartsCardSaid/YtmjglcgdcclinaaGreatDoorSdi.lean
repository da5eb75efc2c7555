/- slices.Delete at instruments. -/
import Derived.Test.YtmjglcgdcclinaaGreatDoorIx
import Derived.Test.YtmjglcgdcclinaaGreatDoorSd
namespace Go.Proofs.YtmjglcgdcclinaaGreatDoor
open Go.RowKit Num
theorem insAt_of {w : World} {g : Nat} {xs : List Ins} (h1 : g < w.heap.size) (h : ∀ i x, xs[i]? = some x → ∀ r, r < 15 → w.cell? ⟨g, 0 + i * 15 + r, none⟩ = (#[Value.string ⟨List.toArray x.id⟩, Value.int .i64 x.kind, Value.string ⟨List.toArray x.cur⟩, Value.int .i64 x.places, Value.int .i64 x.issued, Value.int .i64 x.matures, Value.string ⟨List.toArray x.fn⟩, Value.string ⟨List.toArray x.fd⟩, Value.string ⟨List.toArray x.cn⟩, Value.string ⟨List.toArray x.cd⟩, Value.int .i64 x.months, Value.int .i64 x.count, Value.string ⟨List.toArray x.other⟩, Value.string ⟨List.toArray x.sn⟩, Value.string ⟨List.toArray x.sd⟩])[r]?) : InsAt w (some ⟨g, 0, none⟩) xs := fun i x hx => by
  have key := h i x hx
  exact ⟨g, 0, rfl, h1, key 0 (by decide), key 1 (by decide), key 2 (by decide), key 3 (by decide), key 4 (by decide), key 5 (by decide), key 6 (by decide), key 7 (by decide), key 8 (by decide), key 9 (by decide), key 10 (by decide), key 11 (by decide), key 12 (by decide), key 13 (by decide), key 14 (by decide)⟩
set_option maxHeartbeats 4000000 in
set_option maxRecDepth 1000000 in
/-- slices.Delete of one element -/
theorem delI (g n cp k : Nat) (cur : Array Value) (xs : List Ins) (w : World) (hn : xs.length = n) (hk : k < n) (hcap : n ≤ cp) (hH : w.heap[g]? = some (.cells cur 34 (0, 0))) (hsz : n * 15 ≤ cur.size) (ht : cur.toList.take (n * 15) = rowsI xs) :
    Calls Tryz.prog 18 #[.slice (some ⟨g, 0, none⟩) n cp, .int .i64 (k : Int), .int .i64 ((k : Int) + 1)] w fun e w' => e = .returned (.slice (some ⟨g, 0, none⟩) (n - 1) cp) ∧ InsAt w' (some ⟨g, 0, none⟩) (xs.eraseIdx k) ∧ Below g w w' := by
  have hlt := (Array.getElem?_eq_some_iff.1 hH).1
  have hcell : ∀ j, j < cur.size → w.cell? ⟨g, j, none⟩ = cur[j]? := fun j _ => blk_cell hH j
  have hrow : ∀ j, j < n * 15 → w.cell? ⟨g, j, none⟩ = (rowsI xs)[j]? := fun j hj => by
    rw [hcell j (by omega), ← ht, List.getElem?_take, if_pos hj, Array.getElem?_toList]
  have hfr : ∀ j, w.frozen? ⟨g, j, none⟩ = false := fun j => blk_frozen hH j
  obtain ⟨i0, e0, e1, e2, e3⟩ := info_parts info_ins
  obtain ⟨news, hnews⟩ : ∃ news, news = (rowsI xs).drop ((k + 1) * 15) := ⟨_, rfl⟩
  have hlen : news.length = (n - (k + 1)) * 15 := by rw [hnews, List.length_drop, rowsI_len, hn, Nat.sub_mul]
  obtain ⟨A, hA, hsrc⟩ : ∃ A : Addr, (if cp = k + 1 then (some ⟨g, 0, none⟩ : Option Addr) else some ⟨g, (k + 1) * 15, none⟩) = some A ∧ Hid (∀ t u, news[t]? = some u → w.drew.cell? (A.add t) = some u) := by
    by_cases h : cp = k + 1
    · refine ⟨⟨g, 0, none⟩, by rw [if_pos h], fun t u hu => ?_⟩
      have h0 : news.length = 0 := by rw [hlen]; have : n - (k + 1) = 0 := by omega
                                      rw [this, Nat.zero_mul]
      rw [List.length_eq_zero_iff.1 h0] at hu
      simp at hu
    · refine ⟨⟨g, (k + 1) * 15, none⟩, by rw [if_neg h], fun t u hu => ?_⟩
      have htl := (List.getElem?_eq_some_iff.1 hu).1
      rw [Lib.add_plain]
      show w.cell? _ = _
      rw [hrow _ (by rw [hlen, Nat.sub_mul] at htl; omega), ← hu, hnews, List.getElem?_drop]
  have s2 : Hid (∀ u ∈ news, u.oneCell' = true) := fun u hu => by
    rw [hnews] at hu
    exact rowsI_one xs u (List.mem_of_mem_drop hu)
  have s3 : Hid (∀ t, t < news.length → (w.drew.cell? ⟨g, 0 + k * 15 + t, none⟩).isSome = true ∧ w.drew.frozen? ⟨g, 0 + k * 15 + t, none⟩ = false) := fun t ht2 => by
    rw [hlen, Nat.sub_mul] at ht2
    refine ⟨?_, hfr _⟩
    show (w.cell? _).isSome = true
    rw [hcell _ (by omega), Array.getElem?_eq_getElem (by omega)]; rfl
  obtain ⟨W1, hW1⟩ : ∃ W1, W1 = w.drew.setCells g (0 + k * 15) news := ⟨_, rfl⟩
  have hH0 : w.drew.heap[g]? = some (.cells cur 34 (0, 0)) := hH
  obtain ⟨cur1, hH1, hs1⟩ := setCells_blk g news (0 + k * 15) w.drew cur hH0 (by rw [hlen, Nat.sub_mul]; omega)
  rw [← hW1] at hH1
  have hz : ∀ w, (zeroValue 34).run Tryz.prog w = .ok (Value.agg #[.string ⟨#[]⟩, .int .i64 0, .string ⟨#[]⟩, .int .i64 0, .int .i64 0, .int .i64 0, .string ⟨#[]⟩, .string ⟨#[]⟩, .string ⟨#[]⟩, .string ⟨#[]⟩, .int .i64 0, .int .i64 0, .string ⟨#[]⟩, .string ⟨#[]⟩, .string ⟨#[]⟩]) w := Tryz.zeroValue34
  have hcl : ∀ ty, (Builtin.clear_ #[22] ty #[.slice (some ⟨g, (n - 1) * 15, none⟩) 1 (cp - (n - 1))]).run Tryz.prog W1 = .ok (.tuple #[]) (W1.setCells g ((n - 1) * 15) (Value.agg #[.string ⟨#[]⟩, .int .i64 0, .string ⟨#[]⟩, .int .i64 0, .int .i64 0, .int .i64 0, .string ⟨#[]⟩, .string ⟨#[]⟩, .string ⟨#[]⟩, .string ⟨#[]⟩, .int .i64 0, .int .i64 0, .string ⟨#[]⟩, .string ⟨#[]⟩, .string ⟨#[]⟩]).cells.toList) :=
    fun ty => run_clear_one W1 _ _ ty _ Tryz.underlying22 hz (by decide) g _ _ (fun j hj => by
      have hj : j < 15 := hj
      rw [blk_cell hH1, Array.getElem?_eq_getElem (by rw [hs1]; omega)]; rfl) (fun j _ => blk_frozen hH1 _)
  obtain ⟨W2, hW2⟩ : ∃ W2, W2 = W1.setCells g ((n - 1) * 15) (Value.agg #[.string ⟨#[]⟩, .int .i64 0, .string ⟨#[]⟩, .int .i64 0, .int .i64 0, .int .i64 0, .string ⟨#[]⟩, .string ⟨#[]⟩, .string ⟨#[]⟩, .string ⟨#[]⟩, .int .i64 0, .int .i64 0, .string ⟨#[]⟩, .string ⟨#[]⟩, .string ⟨#[]⟩]).cells.toList := ⟨_, rfl⟩
  have hend : InsAt W2 (some ⟨g, 0, none⟩) (xs.eraseIdx k) ∧ Below g w W2 := by
    constructor
    · refine insAt_of ?_ ?_
      · rw [hW2, hW1]
        have : ∀ (vs : List Value) (o : Nat) (w : World), (w.setCells g o vs).heap.size = w.heap.size := fun vs => by
          induction vs with
          | nil => intro o w; rfl
          | cons v r ih => intro o w; show ((w.setCell ⟨g, o, none⟩ v).setCells g (o + 1) r).heap.size = _; rw [ih]; simp
        rw [this, this]; exact hlt
      · intro i x hx r hr
        have hil := (List.getElem?_eq_some_iff.1 hx).1
        rw [List.length_eraseIdx_of_lt (by omega), hn] at hil
        rw [hW2, World.cell?_setCells_out g _ _ _ _ (fun _ _ => .inl (by show 0 + i * 15 + r < _; omega))]
        rw [hW1]
        by_cases hik : i < k
        · rw [World.cell?_setCells_out g _ _ _ _ (fun _ _ => .inl (by show 0 + i * 15 + r < _; omega))]
          show w.cell? _ = _
          rw [List.getElem?_eraseIdx_of_lt hik] at hx
          rw [hrow _ (by omega), Nat.zero_add, rowsI_at hx hr]
        · rw [List.getElem?_eraseIdx_of_ge (by omega)] at hx
          obtain ⟨t, rfl⟩ : ∃ t, i = k + t := ⟨i - k, by omega⟩
          have e5 : 0 + (k + t) * 15 + r = 0 + k * 15 + (t * 15 + r) := by omega
          have hj : t * 15 + r < news.length := by rw [hlen, Nat.sub_mul]; omega
          rw [e5, World.cell?_setCells_in g news _ _ (fun j hj => (s3.out j hj).1) _ hj, ← List.getElem?_eq_getElem hj, hnews, List.getElem?_drop, show (k + 1) * 15 + (t * 15 + r) = (k + t + 1) * 15 + r by omega, rowsI_at hx hr]
    · rw [hW2, hW1]
      exact Lib.below_setCells g (Nat.le_refl _) _ _ (Lib.below_setCells g (Nat.le_refl _) _ _ ⟨rfl, rfl, rfl, Nat.le_refl _, fun _ _ => rfl⟩)
  have HE := Lib.hid hend
  have s1 : Hid (news.length = (n - (k + 1)) * 15) := hlen
  have hW : Hid (W1 = w.drew.setCells g (0 + k * 15) news) := hW1
  have hX : Hid (W2 = W1.setCells g ((n - 1) * 15) (Value.agg #[.string ⟨#[]⟩, .int .i64 0, .string ⟨#[]⟩, .int .i64 0, .int .i64 0, .int .i64 0, .string ⟨#[]⟩, .string ⟨#[]⟩, .string ⟨#[]⟩, .string ⟨#[]⟩, .int .i64 0, .int .i64 0, .string ⟨#[]⟩, .string ⟨#[]⟩, .string ⟨#[]⟩]).cells.toList) := hW2
  simp only [← hX.out] at hcl
  have HK : Hid (k + (n - (k + 1)) = n - 1) := by show _ = _; omega
  have hcl2 : ∀ ty, (Builtin.clear_ #[22] ty #[.slice (some ⟨g, (k + (n - (k + 1))) * 15, none⟩) (n - (k + (n - (k + 1)))) (cp - (k + (n - (k + 1))))]).run Tryz.prog W1 = .ok (.tuple #[]) W2 := fun ty => by rw [HK.out, show n - (n - 1) = 1 by omega]; exact hcl ty
  clear hcl
  have hic : k ≤ cp := by omega
  have hk0 : (0 : Int) ≤ (k : Int) + 1 := by omega
  have hkn : (k : Int) + 1 ≤ (n : Int) := by omega
  have mixed : Tryz.prog.follows .mixedOrders = true := by kernel_rfl
  have hjc : k + 1 ≤ cp := by omega
  clear hend hW1 hW2 hH1 hH hH0 hs1 hcell hrow hfr hnews hlen hz ht hsz hlt hn
  go_enter Tryz.func18, Tryz.ntmps18
  go_wp2_with fail
  go_region_law_o (refine step_append_room rfl (.tmp 22) (.tmp 25) 22 rfl 34 i0 15 Tryz.underlying22 e0 e2 g 0 k cp (by simp [Act.eval, Act.put]) A (n - (k + 1)) (cp - (k + 1)) news (by simp [Act.eval, Act.put]) s1.out hsrc.out s2.out (by omega) s3.out ?_; rw [← hW.out])
  go_wp2
  go_ret
  exact ⟨by rw [HK.out]; rfl, HE.out⟩
end Go.Proofs.YtmjglcgdcclinaaGreatDoor
