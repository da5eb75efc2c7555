/- Texts put together: Vf Vg Vh Ig Vi. -/
import Derived.Test.YtgnppdkeiihlfaaGreatDoorF5
namespace Go.Proofs.YtgnppdkeiihlfaaGreatDoor
open Go.RowKit Num
def DBox (w : World) (b : Nat) (x : Ins) (q : List UInt8) : Prop := Blk w b #[Value.string ⟨List.toArray x.id⟩, Value.int .i64 x.kind, Value.string ⟨List.toArray x.cur⟩, Value.int .i64 x.places, Value.int .i64 x.issued, Value.int .i64 x.matures, Value.string ⟨List.toArray x.fn⟩, Value.string ⟨List.toArray x.fd⟩, Value.string ⟨List.toArray x.cn⟩, Value.string ⟨List.toArray x.cd⟩, Value.int .i64 x.months, Value.int .i64 x.count, Value.string ⟨List.toArray x.other⟩, Value.string ⟨List.toArray x.sn⟩, Value.string ⟨List.toArray x.sd⟩, Value.string ⟨List.toArray q⟩]
section
variable {w w' : World} {b : Nat} {x : Ins} {q : List UInt8}
theorem DBox.new (w : World) (x : Ins) (q : List UInt8) (t : TypeId) : DBox (w.alloc (.cells #[Value.string ⟨List.toArray x.id⟩, Value.int .i64 x.kind, Value.string ⟨List.toArray x.cur⟩, Value.int .i64 x.places, Value.int .i64 x.issued, Value.int .i64 x.matures, Value.string ⟨List.toArray x.fn⟩, Value.string ⟨List.toArray x.fd⟩, Value.string ⟨List.toArray x.cn⟩, Value.string ⟨List.toArray x.cd⟩, Value.int .i64 x.months, Value.int .i64 x.count, Value.string ⟨List.toArray x.other⟩, Value.string ⟨List.toArray x.sn⟩, Value.string ⟨List.toArray x.sd⟩, Value.string ⟨List.toArray q⟩] t)) w.heap.size x q := Blk.new w _ t
theorem DBox.below (h : DBox w b x q) (hb : Below w.heap.size w w') : DBox w' b x q := Blk.below h hb
theorem DBox.c0 (h : DBox w b x q) : w.cell? ⟨b, 0, none⟩ = some (Value.string ⟨List.toArray x.id⟩) := Blk.c h 0
theorem DBox.c1 (h : DBox w b x q) : w.cell? ⟨b, 1, none⟩ = some (Value.int .i64 x.kind) := Blk.c h 1
theorem DBox.c2 (h : DBox w b x q) : w.cell? ⟨b, 2, none⟩ = some (Value.string ⟨List.toArray x.cur⟩) := Blk.c h 2
theorem DBox.c3 (h : DBox w b x q) : w.cell? ⟨b, 3, none⟩ = some (Value.int .i64 x.places) := Blk.c h 3
theorem DBox.c4 (h : DBox w b x q) : w.cell? ⟨b, 4, none⟩ = some (Value.int .i64 x.issued) := Blk.c h 4
theorem DBox.c5 (h : DBox w b x q) : w.cell? ⟨b, 5, none⟩ = some (Value.int .i64 x.matures) := Blk.c h 5
theorem DBox.c6 (h : DBox w b x q) : w.cell? ⟨b, 6, none⟩ = some (Value.string ⟨List.toArray x.fn⟩) := Blk.c h 6
theorem DBox.c7 (h : DBox w b x q) : w.cell? ⟨b, 7, none⟩ = some (Value.string ⟨List.toArray x.fd⟩) := Blk.c h 7
theorem DBox.c8 (h : DBox w b x q) : w.cell? ⟨b, 8, none⟩ = some (Value.string ⟨List.toArray x.cn⟩) := Blk.c h 8
theorem DBox.c9 (h : DBox w b x q) : w.cell? ⟨b, 9, none⟩ = some (Value.string ⟨List.toArray x.cd⟩) := Blk.c h 9
theorem DBox.c10 (h : DBox w b x q) : w.cell? ⟨b, 10, none⟩ = some (Value.int .i64 x.months) := Blk.c h 10
theorem DBox.c11 (h : DBox w b x q) : w.cell? ⟨b, 11, none⟩ = some (Value.int .i64 x.count) := Blk.c h 11
theorem DBox.c12 (h : DBox w b x q) : w.cell? ⟨b, 12, none⟩ = some (Value.string ⟨List.toArray x.other⟩) := Blk.c h 12
theorem DBox.c13 (h : DBox w b x q) : w.cell? ⟨b, 13, none⟩ = some (Value.string ⟨List.toArray x.sn⟩) := Blk.c h 13
theorem DBox.c14 (h : DBox w b x q) : w.cell? ⟨b, 14, none⟩ = some (Value.string ⟨List.toArray x.sd⟩) := Blk.c h 14
theorem DBox.c15 (h : DBox w b x q) : w.cell? ⟨b, 15, none⟩ = some (Value.string ⟨List.toArray q⟩) := Blk.c h 15
end
theorem retS0 {V : List UInt8 × Int} {z : Int} (h : V = ([], z)) : Ending.returned (.tuple #[.string ⟨#[]⟩, .int .i64 z]) = .returned (.tuple #[.string ⟨V.1.toArray⟩, .int .i64 V.2]) := by rw [h]
theorem retS {V : List UInt8 × Int} {l : List UInt8} {z : Int} (h : V = (l, z)) : Ending.returned (.tuple #[.string ⟨l.toArray⟩, .int .i64 z]) = .returned (.tuple #[.string ⟨V.1.toArray⟩, .int .i64 V.2]) := by rw [h]
theorem or3_1 {a b c : Prop} [Decidable a] [Decidable b] [Decidable c] (h : a) : (decide a || decide b || decide c) = true := by rw [decide_eq_true h]; rfl
theorem or3_2 {a b c : Prop} [Decidable a] [Decidable b] [Decidable c] (h : b) : (decide a || decide b || decide c) = true := by rw [decide_eq_true h]; simp
theorem or3_3 {a b c : Prop} [Decidable a] [Decidable b] [Decidable c] (h : c) : (decide a || decide b || decide c) = true := by rw [decide_eq_true h]; simp
theorem or3_no {a b c : Prop} [Decidable a] [Decidable b] [Decidable c] (h1 : ¬ a) (h2 : ¬ b) (h3 : ¬ c) : ¬ (decide a || decide b || decide c) = true := by
  rw [decide_eq_false h1, decide_eq_false h2, decide_eq_false h3]; simp
set_option maxHeartbeats 4000000 in
set_option maxRecDepth 100000 in
theorem fOf (x : Ins) (hx : x.Small) (q : List UInt8) (hq : q.length ≤ 1000) (A : Option Addr) (rs : List Fp2) (n c : Nat) (w : World) (hG : Glob w) (hn : rs.length = n) (hn2 : n ≤ 1000000000) (h : FrAt w A rs) (hl : ∀ r ∈ rs, r.1.length ≤ 1000 ∧ r.2.length ≤ 1000) :
    Calls Tryz.prog 70 #[(Value.agg #[Value.string ⟨List.toArray x.id⟩, Value.int .i64 x.kind, Value.string ⟨List.toArray x.cur⟩, Value.int .i64 x.places, Value.int .i64 x.issued, Value.int .i64 x.matures, Value.string ⟨List.toArray x.fn⟩, Value.string ⟨List.toArray x.fd⟩, Value.string ⟨List.toArray x.cn⟩, Value.string ⟨List.toArray x.cd⟩, Value.int .i64 x.months, Value.int .i64 x.count, Value.string ⟨List.toArray x.other⟩, Value.string ⟨List.toArray x.sn⟩, Value.string ⟨List.toArray x.sd⟩]), .string ⟨q.toArray⟩, .slice A n c] w fun e w' => e = .returned (.tuple #[(Value.agg #[Value.string ⟨List.toArray x.id⟩, Value.int .i64 x.kind, Value.string ⟨List.toArray x.cur⟩, Value.int .i64 x.places, Value.int .i64 x.issued, Value.int .i64 x.matures, Value.string ⟨List.toArray x.fn⟩, Value.string ⟨List.toArray x.fd⟩, Value.string ⟨List.toArray x.cn⟩, Value.string ⟨List.toArray x.cd⟩, Value.int .i64 x.months, Value.int .i64 x.count, Value.string ⟨List.toArray x.other⟩, Value.string ⟨List.toArray x.sn⟩, Value.string ⟨List.toArray x.sd⟩, Value.string ⟨List.toArray q⟩]), .bool (okB x q && rs.all canB)]) ∧ Below w.heap.size w w' := by
  have C1 := Lib.hid (fCheck x hx)
  have C2 := Lib.hid (riCheck (l := q) (by omega) (c := if q = canon (val q) then 0 else 1) rfl)
  have C3 := Lib.hid (fun w' (hb : Below w.heap.size w w') => fCanon A rs n c w' (hG.below hb) hn hn2 (h.below hb) hl)
  have x3 := IBox.new w x 27
  have hb0 := below_alloc w (.cells #[Value.string ⟨List.toArray x.id⟩, Value.int .i64 x.kind, Value.string ⟨List.toArray x.cur⟩, Value.int .i64 x.places, Value.int .i64 x.issued, Value.int .i64 x.matures, Value.string ⟨List.toArray x.fn⟩, Value.string ⟨List.toArray x.fd⟩, Value.string ⟨List.toArray x.cn⟩, Value.string ⟨List.toArray x.cd⟩, Value.int .i64 x.months, Value.int .i64 x.count, Value.string ⟨List.toArray x.other⟩, Value.string ⟨List.toArray x.sn⟩, Value.string ⟨List.toArray x.sd⟩] 27)
  obtain ⟨w0, hw0⟩ : ∃ w0, w0 = w.alloc (.cells #[Value.string ⟨List.toArray x.id⟩, Value.int .i64 x.kind, Value.string ⟨List.toArray x.cur⟩, Value.int .i64 x.places, Value.int .i64 x.issued, Value.int .i64 x.matures, Value.string ⟨List.toArray x.fn⟩, Value.string ⟨List.toArray x.fd⟩, Value.string ⟨List.toArray x.cn⟩, Value.string ⟨List.toArray x.cd⟩, Value.int .i64 x.months, Value.int .i64 x.count, Value.string ⟨List.toArray x.other⟩, Value.string ⟨List.toArray x.sn⟩, Value.string ⟨List.toArray x.sd⟩] 27) := ⟨_, rfl⟩
  have hsz0 : w.heap.size + 1 = w0.heap.size := by rw [hw0]; exact (World.size_alloc _ _).symm
  rw [← hw0] at x3 hb0
  have hb1 := below_alloc w0 (.cells #[.string ⟨#[]⟩, .int .i64 0, .string ⟨#[]⟩, .int .i64 0, .int .i64 0, .int .i64 0, .string ⟨#[]⟩, .string ⟨#[]⟩, .string ⟨#[]⟩, .string ⟨#[]⟩, .int .i64 0, .int .i64 0, .string ⟨#[]⟩, .string ⟨#[]⟩, .string ⟨#[]⟩, .string ⟨#[]⟩] 98)
  have hbx := heap_alloc_new w0 (.cells #[.string ⟨#[]⟩, .int .i64 0, .string ⟨#[]⟩, .int .i64 0, .int .i64 0, .int .i64 0, .string ⟨#[]⟩, .string ⟨#[]⟩, .string ⟨#[]⟩, .string ⟨#[]⟩, .int .i64 0, .int .i64 0, .string ⟨#[]⟩, .string ⟨#[]⟩, .string ⟨#[]⟩, .string ⟨#[]⟩] 98)
  have HW0 := Lib.hid hw0
  generalize hT : (rs.all canB) = T at *
  have HT := Lib.hid hT
  clear hn h hl hw0 hT
  by_cases g1 : fkE x = 0
  rotate_left
  · have b1 : (fkE x == 0) = false := intbne g1
    have HV : Hid ((okB x q && T) = false) := by show _ = _; unfold okB; rw [decide_eq_false g1]; rfl
    generalize fkE x = E at *
    clear g1
    go_enter Tryz.func70, Tryz.ntmps70
    go_wp2_with fail
    rw [← HW0.out]
    (try rw [hsz0])
    refine wp_region_kept_at 20 w0.heap.size 6 _ (by kernel_rfl) (by kernel_rfl) (by decide) hb1 (Nat.le_refl _) hbx rfl ?_
    simp only [Act.put, List.setIfInBounds_toArray, List.set_cons_zero, List.set_cons_succ]
    clear hbx hsz0
    refine kept_val _ (fun _ => rfl) (fun ρ w hw => by have q0 := (x3.below hw).c0; have q1 := (x3.below hw).c1; have q2 := (x3.below hw).c2; have q3 := (x3.below hw).c3; have q4 := (x3.below hw).c4; have q5 := (x3.below hw).c5; have q6 := (x3.below hw).c6; have q7 := (x3.below hw).c7; have q8 := (x3.below hw).c8; have q9 := (x3.below hw).c9; have q10 := (x3.below hw).c10; have q11 := (x3.below hw).c11; have q12 := (x3.below hw).c12; have q13 := (x3.below hw).c13; have q14 := (x3.below hw).c14; go_simp; first | done | with_reducible rfl) ?_
    iterate 2
      simp only [Act.put, List.setIfInBounds_toArray, List.set_cons_zero, List.set_cons_succ, Nat.reduceAdd]
      refine kept_val _ (fun _ => rfl) (fun ρ w hw => by go_simp; first | done | with_reducible rfl) ?_
    simp only [Act.put, List.setIfInBounds_toArray, List.set_cons_zero, List.set_cons_succ, Nat.reduceAdd]
    refine kept_val _ (fun _ => rfl) (fun ρ w hw => by have q0 := (x3.below hw).c0; have q1 := (x3.below hw).c1; have q2 := (x3.below hw).c2; have q3 := (x3.below hw).c3; have q4 := (x3.below hw).c4; have q5 := (x3.below hw).c5; have q6 := (x3.below hw).c6; have q7 := (x3.below hw).c7; have q8 := (x3.below hw).c8; have q9 := (x3.below hw).c9; have q10 := (x3.below hw).c10; have q11 := (x3.below hw).c11; have q12 := (x3.below hw).c12; have q13 := (x3.below hw).c13; have q14 := (x3.below hw).c14; go_simp; first | done | with_reducible rfl) ?_
    simp only [Act.put, List.setIfInBounds_toArray, List.set_cons_zero, List.set_cons_succ, Nat.reduceAdd]
    refine kept_call _ _ _ (fun _ => rfl) (fun ρ w hw => by go_simp; first | done | with_reducible rfl) (fun w hw => C1.out.of hG (bto hb0 hw)) ?_
    iterate 2
      simp only [Act.put, List.setIfInBounds_toArray, List.set_cons_zero, List.set_cons_succ, Nat.reduceAdd]
      refine kept_val _ (fun _ => rfl) (fun ρ w hw => by go_simp; first | done | with_reducible rfl) ?_
    iterate 3
      simp only [Act.put, List.setIfInBounds_toArray, List.set_cons_zero, List.set_cons_succ, Nat.reduceAdd]
      refine kept_off (fun _ => rfl) ?_
    iterate 2
      simp only [Act.put, List.setIfInBounds_toArray, List.set_cons_zero, List.set_cons_succ, Nat.reduceAdd]
      refine kept_val _ (fun _ => rfl) (fun ρ w hw => by go_simp; first | done | with_reducible rfl) ?_
    iterate 2
      simp only [Act.put, List.setIfInBounds_toArray, List.set_cons_zero, List.set_cons_succ, Nat.reduceAdd]
      refine kept_off (fun _ => rfl) ?_
    simp only [Act.put, List.setIfInBounds_toArray, List.set_cons_zero, List.set_cons_succ, Nat.reduceAdd]
    refine kept_val _ (fun _ => rfl) (fun ρ w hw => by go_simp; first | done | with_reducible rfl) ?_
    simp only [Act.put, List.setIfInBounds_toArray, List.set_cons_zero, List.set_cons_succ, Nat.reduceAdd]
    refine kept_putRow 20 _ #[Value.string ⟨List.toArray x.id⟩, Value.int .i64 x.kind, Value.string ⟨List.toArray x.cur⟩, Value.int .i64 x.places, Value.int .i64 x.issued, Value.int .i64 x.matures, Value.string ⟨List.toArray x.fn⟩, Value.string ⟨List.toArray x.fd⟩, Value.string ⟨List.toArray x.cn⟩, Value.string ⟨List.toArray x.cd⟩, Value.int .i64 x.months, Value.int .i64 x.count, Value.string ⟨List.toArray x.other⟩, Value.string ⟨List.toArray x.sn⟩, Value.string ⟨List.toArray x.sd⟩, Value.string ⟨List.toArray q⟩] _ _ _ _ rfl rfl rfl (fun _ => rfl) (fun _ => rfl) (fun _ => rfl) (by kernel_rfl) rfl (by simp [Value.oneCell']) ?_
    simp only [Act.put, Nat.reduceAdd]
    refine kept_val _ (fun _ => rfl) (fun ρ w hw => by go_simp; first | done | with_reducible rfl) ?_
    simp only [Act.put, List.setIfInBounds_toArray, List.set_cons_zero, List.set_cons_succ, Nat.reduceAdd]
    refine kept_end (fun ρ w3 hF => ?_)
    have hb := bto hb0 hF.below
    have x6 : DBox _ _ x q := ⟨_, (hF.box 20 _ _ rfl).2⟩
    generalize ρ 20 = b6 at *
    clear hF
    have qx6_0 := x6.c0
    have qx6_1 := x6.c1
    have qx6_2 := x6.c2
    have qx6_3 := x6.c3
    have qx6_4 := x6.c4
    have qx6_5 := x6.c5
    have qx6_6 := x6.c6
    have qx6_7 := x6.c7
    have qx6_8 := x6.c8
    have qx6_9 := x6.c9
    have qx6_10 := x6.c10
    have qx6_11 := x6.c11
    have qx6_12 := x6.c12
    have qx6_13 := x6.c13
    have qx6_14 := x6.c14
    have qx6_15 := x6.c15
    go_wp2
    refine bodyPost_ret (v := .tuple #[(Value.agg #[Value.string ⟨List.toArray x.id⟩, Value.int .i64 x.kind, Value.string ⟨List.toArray x.cur⟩, Value.int .i64 x.places, Value.int .i64 x.issued, Value.int .i64 x.matures, Value.string ⟨List.toArray x.fn⟩, Value.string ⟨List.toArray x.fd⟩, Value.string ⟨List.toArray x.cn⟩, Value.string ⟨List.toArray x.cd⟩, Value.int .i64 x.months, Value.int .i64 x.count, Value.string ⟨List.toArray x.other⟩, Value.string ⟨List.toArray x.sn⟩, Value.string ⟨List.toArray x.sd⟩, Value.string ⟨List.toArray q⟩]), .bool false]) (by simp [results, Tryz.results70, go_sem, qx6_0, qx6_1, qx6_2, qx6_3, qx6_4, qx6_5, qx6_6, qx6_7, qx6_8, qx6_9, qx6_10, qx6_11, qx6_12, qx6_13, qx6_14, qx6_15]) rfl ?_
    exact ⟨by rw [HV.out], hb⟩
  have b1 : (fkE x == 0) = true := intbeq g1
  by_cases g2 : q = canon (val q)
  rotate_left
  · rw [if_neg g2] at C2
    have HV : Hid ((okB x q && T) = false) := by show _ = _; unfold okB; rw [decide_eq_false g2, Bool.and_false]; rfl
    clear g2
    go_enter Tryz.func70, Tryz.ntmps70
    go_wp2_with fail
    rw [← HW0.out]
    (try rw [hsz0])
    refine wp_region_kept_at 20 w0.heap.size 6 _ (by kernel_rfl) (by kernel_rfl) (by decide) hb1 (Nat.le_refl _) hbx rfl ?_
    simp only [Act.put, List.setIfInBounds_toArray, List.set_cons_zero, List.set_cons_succ]
    clear hbx hsz0
    refine kept_val _ (fun _ => rfl) (fun ρ w hw => by have q0 := (x3.below hw).c0; have q1 := (x3.below hw).c1; have q2 := (x3.below hw).c2; have q3 := (x3.below hw).c3; have q4 := (x3.below hw).c4; have q5 := (x3.below hw).c5; have q6 := (x3.below hw).c6; have q7 := (x3.below hw).c7; have q8 := (x3.below hw).c8; have q9 := (x3.below hw).c9; have q10 := (x3.below hw).c10; have q11 := (x3.below hw).c11; have q12 := (x3.below hw).c12; have q13 := (x3.below hw).c13; have q14 := (x3.below hw).c14; go_simp; first | done | with_reducible rfl) ?_
    iterate 2
      simp only [Act.put, List.setIfInBounds_toArray, List.set_cons_zero, List.set_cons_succ, Nat.reduceAdd]
      refine kept_val _ (fun _ => rfl) (fun ρ w hw => by go_simp; first | done | with_reducible rfl) ?_
    simp only [Act.put, List.setIfInBounds_toArray, List.set_cons_zero, List.set_cons_succ, Nat.reduceAdd]
    refine kept_val _ (fun _ => rfl) (fun ρ w hw => by have q0 := (x3.below hw).c0; have q1 := (x3.below hw).c1; have q2 := (x3.below hw).c2; have q3 := (x3.below hw).c3; have q4 := (x3.below hw).c4; have q5 := (x3.below hw).c5; have q6 := (x3.below hw).c6; have q7 := (x3.below hw).c7; have q8 := (x3.below hw).c8; have q9 := (x3.below hw).c9; have q10 := (x3.below hw).c10; have q11 := (x3.below hw).c11; have q12 := (x3.below hw).c12; have q13 := (x3.below hw).c13; have q14 := (x3.below hw).c14; go_simp; first | done | with_reducible rfl) ?_
    simp only [Act.put, List.setIfInBounds_toArray, List.set_cons_zero, List.set_cons_succ, Nat.reduceAdd]
    refine kept_call _ _ _ (fun _ => rfl) (fun ρ w hw => by go_simp; first | done | with_reducible rfl) (fun w hw => C1.out.of hG (bto hb0 hw)) ?_
    iterate 3
      simp only [Act.put, List.setIfInBounds_toArray, List.set_cons_zero, List.set_cons_succ, Nat.reduceAdd]
      refine kept_val _ (fun _ => rfl) (fun ρ w hw => by go_simp; first | done | with_reducible rfl) ?_
    simp only [Act.put, List.setIfInBounds_toArray, List.set_cons_zero, List.set_cons_succ, Nat.reduceAdd]
    refine kept_call _ _ _ (fun _ => rfl) (fun ρ w hw => by go_simp; first | done | with_reducible rfl) (fun w hw => C2.out.of hG (bto hb0 hw)) ?_
    iterate 3
      simp only [Act.put, List.setIfInBounds_toArray, List.set_cons_zero, List.set_cons_succ, Nat.reduceAdd]
      refine kept_val _ (fun _ => rfl) (fun ρ w hw => by go_simp; first | done | with_reducible rfl) ?_
    iterate 2
      simp only [Act.put, List.setIfInBounds_toArray, List.set_cons_zero, List.set_cons_succ, Nat.reduceAdd]
      refine kept_off (fun _ => rfl) ?_
    simp only [Act.put, List.setIfInBounds_toArray, List.set_cons_zero, List.set_cons_succ, Nat.reduceAdd]
    refine kept_val _ (fun _ => rfl) (fun ρ w hw => by go_simp; first | done | with_reducible rfl) ?_
    simp only [Act.put, List.setIfInBounds_toArray, List.set_cons_zero, List.set_cons_succ, Nat.reduceAdd]
    refine kept_putRow 20 _ #[Value.string ⟨List.toArray x.id⟩, Value.int .i64 x.kind, Value.string ⟨List.toArray x.cur⟩, Value.int .i64 x.places, Value.int .i64 x.issued, Value.int .i64 x.matures, Value.string ⟨List.toArray x.fn⟩, Value.string ⟨List.toArray x.fd⟩, Value.string ⟨List.toArray x.cn⟩, Value.string ⟨List.toArray x.cd⟩, Value.int .i64 x.months, Value.int .i64 x.count, Value.string ⟨List.toArray x.other⟩, Value.string ⟨List.toArray x.sn⟩, Value.string ⟨List.toArray x.sd⟩, Value.string ⟨List.toArray q⟩] _ _ _ _ rfl rfl rfl (fun _ => rfl) (fun _ => rfl) (fun _ => rfl) (by kernel_rfl) rfl (by simp [Value.oneCell']) ?_
    simp only [Act.put, Nat.reduceAdd]
    refine kept_val _ (fun _ => rfl) (fun ρ w hw => by go_simp; first | done | with_reducible rfl) ?_
    simp only [Act.put, List.setIfInBounds_toArray, List.set_cons_zero, List.set_cons_succ, Nat.reduceAdd]
    refine kept_end (fun ρ w3 hF => ?_)
    have hb := bto hb0 hF.below
    have x6 : DBox _ _ x q := ⟨_, (hF.box 20 _ _ rfl).2⟩
    generalize ρ 20 = b6 at *
    clear hF
    have qx6_0 := x6.c0
    have qx6_1 := x6.c1
    have qx6_2 := x6.c2
    have qx6_3 := x6.c3
    have qx6_4 := x6.c4
    have qx6_5 := x6.c5
    have qx6_6 := x6.c6
    have qx6_7 := x6.c7
    have qx6_8 := x6.c8
    have qx6_9 := x6.c9
    have qx6_10 := x6.c10
    have qx6_11 := x6.c11
    have qx6_12 := x6.c12
    have qx6_13 := x6.c13
    have qx6_14 := x6.c14
    have qx6_15 := x6.c15
    go_wp2
    refine bodyPost_ret (v := .tuple #[(Value.agg #[Value.string ⟨List.toArray x.id⟩, Value.int .i64 x.kind, Value.string ⟨List.toArray x.cur⟩, Value.int .i64 x.places, Value.int .i64 x.issued, Value.int .i64 x.matures, Value.string ⟨List.toArray x.fn⟩, Value.string ⟨List.toArray x.fd⟩, Value.string ⟨List.toArray x.cn⟩, Value.string ⟨List.toArray x.cd⟩, Value.int .i64 x.months, Value.int .i64 x.count, Value.string ⟨List.toArray x.other⟩, Value.string ⟨List.toArray x.sn⟩, Value.string ⟨List.toArray x.sd⟩, Value.string ⟨List.toArray q⟩]), .bool false]) (by simp [results, Tryz.results70, go_sem, qx6_0, qx6_1, qx6_2, qx6_3, qx6_4, qx6_5, qx6_6, qx6_7, qx6_8, qx6_9, qx6_10, qx6_11, qx6_12, qx6_13, qx6_14, qx6_15]) rfl ?_
    exact ⟨by rw [HV.out], hb⟩
  rw [if_pos g2] at C2
  have HV : Hid ((okB x q && T) = T) := by show _ = _; rw [ok_iff.2 ⟨g1, g2⟩]; rfl
  clear g2
  go_enter Tryz.func70, Tryz.ntmps70
  go_wp2_with fail
  rw [← HW0.out]
  (try rw [hsz0])
  refine wp_region_kept_at 20 w0.heap.size 6 _ (by kernel_rfl) (by kernel_rfl) (by decide) hb1 (Nat.le_refl _) hbx rfl ?_
  simp only [Act.put, List.setIfInBounds_toArray, List.set_cons_zero, List.set_cons_succ]
  clear hbx hsz0
  refine kept_val _ (fun _ => rfl) (fun ρ w hw => by have q0 := (x3.below hw).c0; have q1 := (x3.below hw).c1; have q2 := (x3.below hw).c2; have q3 := (x3.below hw).c3; have q4 := (x3.below hw).c4; have q5 := (x3.below hw).c5; have q6 := (x3.below hw).c6; have q7 := (x3.below hw).c7; have q8 := (x3.below hw).c8; have q9 := (x3.below hw).c9; have q10 := (x3.below hw).c10; have q11 := (x3.below hw).c11; have q12 := (x3.below hw).c12; have q13 := (x3.below hw).c13; have q14 := (x3.below hw).c14; go_simp; first | done | with_reducible rfl) ?_
  iterate 2
    simp only [Act.put, List.setIfInBounds_toArray, List.set_cons_zero, List.set_cons_succ, Nat.reduceAdd]
    refine kept_val _ (fun _ => rfl) (fun ρ w hw => by go_simp; first | done | with_reducible rfl) ?_
  simp only [Act.put, List.setIfInBounds_toArray, List.set_cons_zero, List.set_cons_succ, Nat.reduceAdd]
  refine kept_val _ (fun _ => rfl) (fun ρ w hw => by have q0 := (x3.below hw).c0; have q1 := (x3.below hw).c1; have q2 := (x3.below hw).c2; have q3 := (x3.below hw).c3; have q4 := (x3.below hw).c4; have q5 := (x3.below hw).c5; have q6 := (x3.below hw).c6; have q7 := (x3.below hw).c7; have q8 := (x3.below hw).c8; have q9 := (x3.below hw).c9; have q10 := (x3.below hw).c10; have q11 := (x3.below hw).c11; have q12 := (x3.below hw).c12; have q13 := (x3.below hw).c13; have q14 := (x3.below hw).c14; go_simp; first | done | with_reducible rfl) ?_
  simp only [Act.put, List.setIfInBounds_toArray, List.set_cons_zero, List.set_cons_succ, Nat.reduceAdd]
  refine kept_call _ _ _ (fun _ => rfl) (fun ρ w hw => by go_simp; first | done | with_reducible rfl) (fun w hw => C1.out.of hG (bto hb0 hw)) ?_
  iterate 3
    simp only [Act.put, List.setIfInBounds_toArray, List.set_cons_zero, List.set_cons_succ, Nat.reduceAdd]
    refine kept_val _ (fun _ => rfl) (fun ρ w hw => by go_simp; first | done | with_reducible rfl) ?_
  simp only [Act.put, List.setIfInBounds_toArray, List.set_cons_zero, List.set_cons_succ, Nat.reduceAdd]
  refine kept_call _ _ _ (fun _ => rfl) (fun ρ w hw => by go_simp; first | done | with_reducible rfl) (fun w hw => C2.out.of hG (bto hb0 hw)) ?_
  iterate 4
    simp only [Act.put, List.setIfInBounds_toArray, List.set_cons_zero, List.set_cons_succ, Nat.reduceAdd]
    refine kept_val _ (fun _ => rfl) (fun ρ w hw => by go_simp; first | done | with_reducible rfl) ?_
  simp only [Act.put, List.setIfInBounds_toArray, List.set_cons_zero, List.set_cons_succ, Nat.reduceAdd]
  refine kept_call _ _ _ (fun _ => rfl) (fun ρ w hw => by go_simp; first | done | with_reducible rfl) (fun w hw => C3.out _ (bto hb0 hw)) ?_
  simp only [Act.put, List.setIfInBounds_toArray, List.set_cons_zero, List.set_cons_succ, Nat.reduceAdd]
  refine kept_val _ (fun _ => rfl) (fun ρ w hw => by go_simp; first | done | with_reducible rfl) ?_
  simp only [Act.put, List.setIfInBounds_toArray, List.set_cons_zero, List.set_cons_succ, Nat.reduceAdd]
  refine kept_putRow 20 _ #[Value.string ⟨List.toArray x.id⟩, Value.int .i64 x.kind, Value.string ⟨List.toArray x.cur⟩, Value.int .i64 x.places, Value.int .i64 x.issued, Value.int .i64 x.matures, Value.string ⟨List.toArray x.fn⟩, Value.string ⟨List.toArray x.fd⟩, Value.string ⟨List.toArray x.cn⟩, Value.string ⟨List.toArray x.cd⟩, Value.int .i64 x.months, Value.int .i64 x.count, Value.string ⟨List.toArray x.other⟩, Value.string ⟨List.toArray x.sn⟩, Value.string ⟨List.toArray x.sd⟩, Value.string ⟨List.toArray q⟩] _ _ _ _ rfl rfl rfl (fun _ => rfl) (fun _ => rfl) (fun _ => rfl) (by kernel_rfl) rfl (by simp [Value.oneCell']) ?_
  simp only [Act.put, Nat.reduceAdd]
  refine kept_val _ (fun _ => rfl) (fun ρ w hw => by go_simp; first | done | with_reducible rfl) ?_
  simp only [Act.put, List.setIfInBounds_toArray, List.set_cons_zero, List.set_cons_succ, Nat.reduceAdd]
  refine kept_end (fun ρ w3 hF => ?_)
  have hb := bto hb0 hF.below
  have x6 : DBox _ _ x q := ⟨_, (hF.box 20 _ _ rfl).2⟩
  generalize ρ 20 = b6 at *
  clear hF
  have qx6_0 := x6.c0
  have qx6_1 := x6.c1
  have qx6_2 := x6.c2
  have qx6_3 := x6.c3
  have qx6_4 := x6.c4
  have qx6_5 := x6.c5
  have qx6_6 := x6.c6
  have qx6_7 := x6.c7
  have qx6_8 := x6.c8
  have qx6_9 := x6.c9
  have qx6_10 := x6.c10
  have qx6_11 := x6.c11
  have qx6_12 := x6.c12
  have qx6_13 := x6.c13
  have qx6_14 := x6.c14
  have qx6_15 := x6.c15
  go_wp2
  refine bodyPost_ret (v := .tuple #[(Value.agg #[Value.string ⟨List.toArray x.id⟩, Value.int .i64 x.kind, Value.string ⟨List.toArray x.cur⟩, Value.int .i64 x.places, Value.int .i64 x.issued, Value.int .i64 x.matures, Value.string ⟨List.toArray x.fn⟩, Value.string ⟨List.toArray x.fd⟩, Value.string ⟨List.toArray x.cn⟩, Value.string ⟨List.toArray x.cd⟩, Value.int .i64 x.months, Value.int .i64 x.count, Value.string ⟨List.toArray x.other⟩, Value.string ⟨List.toArray x.sn⟩, Value.string ⟨List.toArray x.sd⟩, Value.string ⟨List.toArray q⟩]), .bool T]) (by simp [results, Tryz.results70, go_sem, qx6_0, qx6_1, qx6_2, qx6_3, qx6_4, qx6_5, qx6_6, qx6_7, qx6_8, qx6_9, qx6_10, qx6_11, qx6_12, qx6_13, qx6_14, qx6_15]) rfl ?_
  exact ⟨by rw [HV.out], hb⟩
set_option maxHeartbeats 2000000 in
set_option maxRecDepth 100000 in
theorem fTimes (x : Ins) {q l l' : List UInt8} {p r : Rat} (hq : q.length ≤ 1000) (h : IsQ l l' p) (er : qZ q * p = r) : Ret 78 #[(Value.agg #[Value.string ⟨List.toArray x.id⟩, Value.int .i64 x.kind, Value.string ⟨List.toArray x.cur⟩, Value.int .i64 x.places, Value.int .i64 x.issued, Value.int .i64 x.matures, Value.string ⟨List.toArray x.fn⟩, Value.string ⟨List.toArray x.fd⟩, Value.string ⟨List.toArray x.cn⟩, Value.string ⟨List.toArray x.cd⟩, Value.int .i64 x.months, Value.int .i64 x.count, Value.string ⟨List.toArray x.other⟩, Value.string ⟨List.toArray x.sn⟩, Value.string ⟨List.toArray x.sd⟩, Value.string ⟨List.toArray q⟩]), (Value.agg #[Value.string ⟨List.toArray l⟩, Value.string ⟨List.toArray l'⟩])] (Value.agg #[Value.string ⟨List.toArray (fN r)⟩, Value.string ⟨List.toArray (fD r)⟩]) := fun w hG => by
  have bq := bd_q hq (by decide)
  have C1 := Lib.hid (rOf (l := q) (by omega) rfl)
  have C2 := Lib.hid (rMul (isq_fr bq (by decide)) h er)
  unfold qZ at C2
  generalize ((val q : Int) : Rat) = Z at *
  have x2 := DBox.new w x q 98
  have hbA := below_alloc w (.cells #[Value.string ⟨List.toArray x.id⟩, Value.int .i64 x.kind, Value.string ⟨List.toArray x.cur⟩, Value.int .i64 x.places, Value.int .i64 x.issued, Value.int .i64 x.matures, Value.string ⟨List.toArray x.fn⟩, Value.string ⟨List.toArray x.fd⟩, Value.string ⟨List.toArray x.cn⟩, Value.string ⟨List.toArray x.cd⟩, Value.int .i64 x.months, Value.int .i64 x.count, Value.string ⟨List.toArray x.other⟩, Value.string ⟨List.toArray x.sn⟩, Value.string ⟨List.toArray x.sd⟩, Value.string ⟨List.toArray q⟩] 98)
  obtain ⟨w1, hw1⟩ : ∃ w1, w1 = w.alloc (.cells #[Value.string ⟨List.toArray x.id⟩, Value.int .i64 x.kind, Value.string ⟨List.toArray x.cur⟩, Value.int .i64 x.places, Value.int .i64 x.issued, Value.int .i64 x.matures, Value.string ⟨List.toArray x.fn⟩, Value.string ⟨List.toArray x.fd⟩, Value.string ⟨List.toArray x.cn⟩, Value.string ⟨List.toArray x.cd⟩, Value.int .i64 x.months, Value.int .i64 x.count, Value.string ⟨List.toArray x.other⟩, Value.string ⟨List.toArray x.sn⟩, Value.string ⟨List.toArray x.sd⟩, Value.string ⟨List.toArray q⟩] 98) := ⟨_, rfl⟩
  have hsz1 : w.heap.size + 1 = w1.heap.size := by rw [hw1]; exact (World.size_alloc _ _).symm
  rw [← hw1] at x2 hbA
  have x3 := FBox.new w1 (.string ⟨l.toArray⟩) (.string ⟨l'.toArray⟩) 25
  have hbB := below_alloc w1 (.cells #[.string ⟨l.toArray⟩, .string ⟨l'.toArray⟩] 25)
  obtain ⟨w0, hw0⟩ : ∃ w0, w0 = w1.alloc (.cells #[.string ⟨l.toArray⟩, .string ⟨l'.toArray⟩] 25) := ⟨_, rfl⟩
  have hsz2 : w1.heap.size + 1 = w0.heap.size := by rw [hw0]; exact (World.size_alloc _ _).symm
  rw [← hw0] at x3 hbB
  replace x2 := x2.below hbB
  have hb0 := bto hbA hbB
  have hb1 := below_alloc w0 (.cells #[.string ⟨#[]⟩, .string ⟨#[]⟩] 25)
  have hbx := heap_alloc_new w0 (.cells #[.string ⟨#[]⟩, .string ⟨#[]⟩] 25)
  have HW1 := Lib.hid hw1
  have HW0 := Lib.hid hw0
  clear hw1 hw0 h er bq hq hbA hbB
  go_enter Tryz.func78, Tryz.ntmps78
  go_wp2_with fail
  rw [← HW1.out]
  (try rw [hsz1])
  rw [← HW0.out]
  (try rw [hsz2])
  refine wp_region_kept_at 20 w0.heap.size 4 _ (by kernel_rfl) (by kernel_rfl) (by decide) hb1 (Nat.le_refl _) hbx rfl ?_
  simp only [Act.put, List.setIfInBounds_toArray, List.set_cons_zero, List.set_cons_succ]
  clear hbx hsz1 hsz2
  refine kept_val _ (fun _ => rfl) (fun ρ w hw => by go_simp; first | done | with_reducible rfl) ?_
  simp only [Act.put, List.setIfInBounds_toArray, List.set_cons_zero, List.set_cons_succ, Nat.reduceAdd]
  refine kept_val _ (fun _ => rfl) (fun ρ w hw => by have q15 := (x2.below hw).c15; go_simp; first | done | with_reducible rfl) ?_
  simp only [Act.put, List.setIfInBounds_toArray, List.set_cons_zero, List.set_cons_succ, Nat.reduceAdd]
  refine kept_call _ _ _ (fun _ => rfl) (fun ρ w hw => by go_simp; first | done | with_reducible rfl) (fun w hw => C1.out.of hG (bto hb0 hw)) ?_
  simp only [Act.put, List.setIfInBounds_toArray, List.set_cons_zero, List.set_cons_succ, Nat.reduceAdd]
  refine kept_val _ (fun _ => rfl) (fun ρ w hw => by have q0 := (x3.below hw).c0; have q1 := (x3.below hw).c1; go_simp; first | done | with_reducible rfl) ?_
  simp only [Act.put, List.setIfInBounds_toArray, List.set_cons_zero, List.set_cons_succ, Nat.reduceAdd]
  refine kept_call _ _ _ (fun _ => rfl) (fun ρ w hw => by go_simp; first | done | with_reducible rfl) (fun w hw => C2.out.of hG (bto hb0 hw)) ?_
  simp only [Act.put, List.setIfInBounds_toArray, List.set_cons_zero, List.set_cons_succ, Nat.reduceAdd]
  refine kept_putK 20 _ _ _ _ _ rfl rfl (fun _ => rfl) (fun ρ w hw q0 q1 q2 q3 => by go_simp; first | done | with_reducible rfl) ?_
  simp only [Act.put, Nat.reduceAdd]
  refine kept_end (fun ρ w3 hF => ?_)
  have hb := bto hb0 hF.below
  have x4 := FBox.ofB (hF.box 20 _ _ rfl).2
  generalize ρ 20 = b4 at *
  clear hF
  have d0 := x4.c0
  have d1 := x4.c1
  go_wp2
  refine bodyPost_ret (v := (Value.agg #[Value.string ⟨List.toArray (fN r)⟩, Value.string ⟨List.toArray (fD r)⟩])) (by simp [results, Tryz.results78, go_sem, d0, d1]) rfl ?_
  exact ⟨rfl, hb⟩
set_option maxHeartbeats 2000000 in
set_option maxRecDepth 100000 in
theorem fGain (x : Ins) (hx : x.Small) {q l l' : List UInt8} {p r : Rat} {k : Nat} (hq : q.length ≤ 1000) (h : IsQ l l' p) (b : Bd k p) (hk : k ≤ 1000) (er : qZ q * (p - stk x) = r) : Ret 74 #[(Value.agg #[Value.string ⟨List.toArray x.id⟩, Value.int .i64 x.kind, Value.string ⟨List.toArray x.cur⟩, Value.int .i64 x.places, Value.int .i64 x.issued, Value.int .i64 x.matures, Value.string ⟨List.toArray x.fn⟩, Value.string ⟨List.toArray x.fd⟩, Value.string ⟨List.toArray x.cn⟩, Value.string ⟨List.toArray x.cd⟩, Value.int .i64 x.months, Value.int .i64 x.count, Value.string ⟨List.toArray x.other⟩, Value.string ⟨List.toArray x.sn⟩, Value.string ⟨List.toArray x.sd⟩, Value.string ⟨List.toArray q⟩]), (Value.agg #[Value.string ⟨List.toArray l⟩, Value.string ⟨List.toArray l'⟩])] (Value.agg #[Value.string ⟨List.toArray (fN r)⟩, Value.string ⟨List.toArray (fD r)⟩]) := fun w hG => by
  have bs : Bd 60 (stk x) := bd_of (r := (x.sn, x.sd)) ⟨hx.sn, hx.sd⟩ (by decide)
  have bd := bd_sub b bs
  have C1 := Lib.hid (rSub h (isq_raw hx.sn hx.sd (by decide)) (r := p - stk x) rfl)
  have C2 := Lib.hid (fTimes x hq (isq_fr bd (by omega)) er)
  generalize p - stk x = Z at *
  have x2 := DBox.new w x q 98
  have hbA := below_alloc w (.cells #[Value.string ⟨List.toArray x.id⟩, Value.int .i64 x.kind, Value.string ⟨List.toArray x.cur⟩, Value.int .i64 x.places, Value.int .i64 x.issued, Value.int .i64 x.matures, Value.string ⟨List.toArray x.fn⟩, Value.string ⟨List.toArray x.fd⟩, Value.string ⟨List.toArray x.cn⟩, Value.string ⟨List.toArray x.cd⟩, Value.int .i64 x.months, Value.int .i64 x.count, Value.string ⟨List.toArray x.other⟩, Value.string ⟨List.toArray x.sn⟩, Value.string ⟨List.toArray x.sd⟩, Value.string ⟨List.toArray q⟩] 98)
  obtain ⟨w1, hw1⟩ : ∃ w1, w1 = w.alloc (.cells #[Value.string ⟨List.toArray x.id⟩, Value.int .i64 x.kind, Value.string ⟨List.toArray x.cur⟩, Value.int .i64 x.places, Value.int .i64 x.issued, Value.int .i64 x.matures, Value.string ⟨List.toArray x.fn⟩, Value.string ⟨List.toArray x.fd⟩, Value.string ⟨List.toArray x.cn⟩, Value.string ⟨List.toArray x.cd⟩, Value.int .i64 x.months, Value.int .i64 x.count, Value.string ⟨List.toArray x.other⟩, Value.string ⟨List.toArray x.sn⟩, Value.string ⟨List.toArray x.sd⟩, Value.string ⟨List.toArray q⟩] 98) := ⟨_, rfl⟩
  have hsz1 : w.heap.size + 1 = w1.heap.size := by rw [hw1]; exact (World.size_alloc _ _).symm
  rw [← hw1] at x2 hbA
  have x3 := FBox.new w1 (.string ⟨l.toArray⟩) (.string ⟨l'.toArray⟩) 25
  have hbB := below_alloc w1 (.cells #[.string ⟨l.toArray⟩, .string ⟨l'.toArray⟩] 25)
  obtain ⟨w0, hw0⟩ : ∃ w0, w0 = w1.alloc (.cells #[.string ⟨l.toArray⟩, .string ⟨l'.toArray⟩] 25) := ⟨_, rfl⟩
  have hsz2 : w1.heap.size + 1 = w0.heap.size := by rw [hw0]; exact (World.size_alloc _ _).symm
  rw [← hw0] at x3 hbB
  replace x2 := x2.below hbB
  have hb0 := bto hbA hbB
  have hb1 := below_alloc w0 (.cells #[.string ⟨#[]⟩, .string ⟨#[]⟩] 25)
  have hbx := heap_alloc_new w0 (.cells #[.string ⟨#[]⟩, .string ⟨#[]⟩] 25)
  have HW1 := Lib.hid hw1
  have HW0 := Lib.hid hw0
  clear hw1 hw0 h er bs bd b hk hq hx hbA hbB
  go_enter Tryz.func74, Tryz.ntmps74
  go_wp2_with fail
  rw [← HW1.out]
  (try rw [hsz1])
  rw [← HW0.out]
  (try rw [hsz2])
  refine wp_region_kept_at 20 w0.heap.size 4 _ (by kernel_rfl) (by kernel_rfl) (by decide) hb1 (Nat.le_refl _) hbx rfl ?_
  simp only [Act.put, List.setIfInBounds_toArray, List.set_cons_zero, List.set_cons_succ]
  clear hbx hsz1 hsz2
  refine kept_val _ (fun _ => rfl) (fun ρ w hw => by have q0 := (x2.below hw).c0; have q1 := (x2.below hw).c1; have q2 := (x2.below hw).c2; have q3 := (x2.below hw).c3; have q4 := (x2.below hw).c4; have q5 := (x2.below hw).c5; have q6 := (x2.below hw).c6; have q7 := (x2.below hw).c7; have q8 := (x2.below hw).c8; have q9 := (x2.below hw).c9; have q10 := (x2.below hw).c10; have q11 := (x2.below hw).c11; have q12 := (x2.below hw).c12; have q13 := (x2.below hw).c13; have q14 := (x2.below hw).c14; have q15 := (x2.below hw).c15; go_simp; first | done | with_reducible rfl) ?_
  simp only [Act.put, List.setIfInBounds_toArray, List.set_cons_zero, List.set_cons_succ, Nat.reduceAdd]
  refine kept_val _ (fun _ => rfl) (fun ρ w hw => by have q0 := (x3.below hw).c0; have q1 := (x3.below hw).c1; go_simp; first | done | with_reducible rfl) ?_
  iterate 2
    simp only [Act.put, List.setIfInBounds_toArray, List.set_cons_zero, List.set_cons_succ, Nat.reduceAdd]
    refine kept_val _ (fun _ => rfl) (fun ρ w hw => by go_simp; first | done | with_reducible rfl) ?_
  simp only [Act.put, List.setIfInBounds_toArray, List.set_cons_zero, List.set_cons_succ, Nat.reduceAdd]
  refine kept_val _ (fun _ => rfl) (fun ρ w hw => by have q13 := (x2.below hw).c13; have q14 := (x2.below hw).c14; go_simp; first | done | with_reducible rfl) ?_
  simp only [Act.put, List.setIfInBounds_toArray, List.set_cons_zero, List.set_cons_succ, Nat.reduceAdd]
  refine kept_call _ _ _ (fun _ => rfl) (fun ρ w hw => by go_simp; first | done | with_reducible rfl) (fun w hw => C1.out.of hG (bto hb0 hw)) ?_
  simp only [Act.put, List.setIfInBounds_toArray, List.set_cons_zero, List.set_cons_succ, Nat.reduceAdd]
  refine kept_call _ _ _ (fun _ => rfl) (fun ρ w hw => by go_simp; first | done | with_reducible rfl) (fun w hw => C2.out.of hG (bto hb0 hw)) ?_
  simp only [Act.put, List.setIfInBounds_toArray, List.set_cons_zero, List.set_cons_succ, Nat.reduceAdd]
  refine kept_putK 20 _ _ _ _ _ rfl rfl (fun _ => rfl) (fun ρ w hw q0 q1 q2 q3 => by go_simp; first | done | with_reducible rfl) ?_
  simp only [Act.put, Nat.reduceAdd]
  refine kept_end (fun ρ w3 hF => ?_)
  have hb := bto hb0 hF.below
  have x4 := FBox.ofB (hF.box 20 _ _ rfl).2
  generalize ρ 20 = b4 at *
  clear hF
  have d0 := x4.c0
  have d1 := x4.c1
  go_wp2
  refine bodyPost_ret (v := (Value.agg #[Value.string ⟨List.toArray (fN r)⟩, Value.string ⟨List.toArray (fD r)⟩])) (by simp [results, Tryz.results74, go_sem, d0, d1]) rfl ?_
  exact ⟨rfl, hb⟩
end Go.Proofs.YtgnppdkeiihlfaaGreatDoor
namespace Go.Proofs.YtgnppdkeiihlfaaGreatDoor
open Go.RowKit Num
set_option maxHeartbeats 8000000 in
set_option maxRecDepth 100000 in
theorem fPresent (x : Ins) (hx : x.Small) (q : List UInt8) (hq : q.length ≤ 200) (r i y : Fp2) (hr : r.1.length ≤ 200 ∧ r.2.length ≤ 200) (hi : i.1.length ≤ 200 ∧ i.2.length ≤ 200) (hy : y.1.length ≤ 200 ∧ y.2.length ≤ 200) : Ret 22 #[(Value.agg #[Value.string ⟨List.toArray x.id⟩, Value.int .i64 x.kind, Value.string ⟨List.toArray x.cur⟩, Value.int .i64 x.places, Value.int .i64 x.issued, Value.int .i64 x.matures, Value.string ⟨List.toArray x.fn⟩, Value.string ⟨List.toArray x.fd⟩, Value.string ⟨List.toArray x.cn⟩, Value.string ⟨List.toArray x.cd⟩, Value.int .i64 x.months, Value.int .i64 x.count, Value.string ⟨List.toArray x.other⟩, Value.string ⟨List.toArray x.sn⟩, Value.string ⟨List.toArray x.sd⟩]), .string ⟨q.toArray⟩, (Value.agg #[Value.string ⟨List.toArray (r.1)⟩, Value.string ⟨List.toArray (r.2)⟩]), (Value.agg #[Value.string ⟨List.toArray (i.1)⟩, Value.string ⟨List.toArray (i.2)⟩]), (Value.agg #[Value.string ⟨List.toArray (y.1)⟩, Value.string ⟨List.toArray (y.2)⟩])] (.tuple #[.string ⟨(presV x q r i y).1.toArray⟩, .int .i64 (presV x q r i y).2]) := fun w hG => by
  have ir := isq_raw hr.1 hr.2 (by decide)
  have ii := isq_raw hi.1 hi.2 (by decide)
  have iy := isq_raw hy.1 hy.2 (by decide)
  have br : Bd 200 (fv r.1 r.2) := bd_of hr (by decide)
  have bi : Bd 200 (fv i.1 i.2) := bd_of hi (by decide)
  have b_y : Bd 200 (fv y.1 y.2) := bd_of hy (by decide)
  have bu : Bd 402 (upQ i y) := bd_up hi hy (by decide) (by decide)
  have bs : Bd 60 (stk x) := bd_of (r := (x.sn, x.sd)) ⟨hx.sn, hx.sd⟩ (by decide)
  have bg : Bd 461 (qZ q * (fv r.1 r.2 - stk x)) := bd_mul (bd_q hq (by decide)) (bd_sub br bs)
  have bz : Bd 863 (qZ q * (fv r.1 r.2 - stk x) / upQ i y) := bd_div bg bu (by decide)
  have GU := Lib.hid (fGrow ii iy (bd_mul bi b_y) (by decide) (r := upQ i y) rfl)
  obtain ⟨k0, e0⟩ : ∃ c, cmpQ (fv r.1 r.2) 0 = c := ⟨_, rfl⟩
  have S0 := Lib.hid (fSign ir e0)
  have E0 := Lib.hid (cmpQ_sgn e0)
  obtain ⟨k1, e1⟩ : ∃ c, cmpQ (fv y.1 y.2) 0 = c := ⟨_, rfl⟩
  have S1 := Lib.hid (fSign iy e1)
  have E1 := Lib.hid (cmpQ_sgn e1)
  obtain ⟨k2, e2⟩ : ∃ c, cmpQ (upQ i y) 0 = c := ⟨_, rfl⟩
  have S2 := Lib.hid (fSign (isq_fr bu (by decide)) e2)
  have E2 := Lib.hid (cmpQ_sgn e2)
  have CG := Lib.hid (fGain x hx (by omega) ir br (by decide) (r := qZ q * (fv r.1 r.2 - stk x)) rfl)
  have CQ := Lib.hid (fun h0 => rQuo (isq_fr bg (by decide)) (isq_fr bu (by decide)) h0 (r := qZ q * (fv r.1 r.2 - stk x) / upQ i y) rfl)
  have CR := Lib.hid (fRounded (isq_fr bz (by decide)) bz (by decide) rfl)
  clear ir ii iy br bi b_y bu bs bg bz e0 e1 e2
  go_enter Tryz.func22, Tryz.ntmps22
  go_wp2_with fail
  refine (fOf x hx q (by omega) _ [r, i, y] 3 3 _ (hG.below (bto (bto (bto (bto (below_alloc _ _) (below_alloc _ _)) (below_alloc _ _)) (below_alloc _ _)) (below_alloc _ _))) rfl (by decide) (frAt_of (by first | (simp; done) | (simp; omega)) (fun i hi => by
    have hi : i = 0 ∨ i = 1 ∨ i = 2 := by simp at hi; omega
    rcases hi with rfl | rfl | rfl <;> simp [go_sem])) (fun u hu => by
    simp only [List.mem_cons, List.not_mem_nil, or_false] at hu
    rcases hu with rfl | rfl | rfl
    · exact ⟨Nat.le_trans hr.1 (by decide), Nat.le_trans hr.2 (by decide)⟩
    · exact ⟨Nat.le_trans hi.1 (by decide), Nat.le_trans hi.2 (by decide)⟩
    · exact ⟨Nat.le_trans hy.1 (by decide), Nat.le_trans hy.2 (by decide)⟩)).mono ?_
  rintro e w1 ⟨rfl, hb1⟩
  have x7 : FBox w1 (w.heap.size + 1) (.string ⟨r.1.toArray⟩) (.string ⟨r.2.toArray⟩) := FBox.below ⟨by simp [go_sem], by simp [go_sem], by simp [go_sem], by simp [go_sem], by first | (simp; done) | (simp; omega)⟩ hb1
  have x8 : FBox w1 (w.heap.size + 2) (.string ⟨i.1.toArray⟩) (.string ⟨i.2.toArray⟩) := FBox.below ⟨by simp [go_sem], by simp [go_sem], by simp [go_sem], by simp [go_sem], by first | (simp; done) | (simp; omega)⟩ hb1
  have x9 : FBox w1 (w.heap.size + 3) (.string ⟨y.1.toArray⟩) (.string ⟨y.2.toArray⟩) := FBox.below ⟨by simp [go_sem], by simp [go_sem], by simp [go_sem], by simp [go_sem], by first | (simp; done) | (simp; omega)⟩ hb1
  have hb : Below w.heap.size w w1 := bto (bto (bto (bto (bto (below_alloc _ _) (below_alloc _ _)) (below_alloc _ _)) (below_alloc _ _)) (below_alloc _ _)) hb1
  clear hb1
  obtain ⟨T, hT⟩ : ∃ T, T = (okB x q && [r, i, y].all canB) := ⟨_, rfl⟩
  rw [← hT]
  have x12 := DBox.new w1 x q 98
  have hbD := below_alloc w1 (.cells #[Value.string ⟨List.toArray x.id⟩, Value.int .i64 x.kind, Value.string ⟨List.toArray x.cur⟩, Value.int .i64 x.places, Value.int .i64 x.issued, Value.int .i64 x.matures, Value.string ⟨List.toArray x.fn⟩, Value.string ⟨List.toArray x.fd⟩, Value.string ⟨List.toArray x.cn⟩, Value.string ⟨List.toArray x.cd⟩, Value.int .i64 x.months, Value.int .i64 x.count, Value.string ⟨List.toArray x.other⟩, Value.string ⟨List.toArray x.sn⟩, Value.string ⟨List.toArray x.sd⟩, Value.string ⟨List.toArray q⟩] 98)
  replace x7 := x7.below hbD
  replace x8 := x8.below hbD
  replace x9 := x9.below hbD
  replace hb := bto hb hbD
  clear hbD
  cases T with
  | false =>
    have HV : Hid (presV x q r i y = ([], 1)) := by show _ = _; unfold presV; rw [← hT]; rfl
    clear hT
    go_wp2
    go_ret2
    exact ⟨retS0 HV.out, hb⟩
  | true =>
    have HC := Lib.hid hT
    clear hT
    have q80 := x8.c0
    have q81 := x8.c1
    have q90 := x9.c0
    have q91 := x9.c1
    go_wp2_with fail
    ((with_reducible refine (GU.out.of hG hb).mono ?_); rintro e w3 ⟨rfl, hb3⟩)
    clear q80 q81 q90 q91
    have hbA := below_alloc w3 (.cells #[.string ⟨(fN (upQ i y)).toArray⟩, .string ⟨(fD (upQ i y)).toArray⟩] 25)
    have x14 := FBox.new w3 (.string ⟨(fN (upQ i y)).toArray⟩) (.string ⟨(fD (upQ i y)).toArray⟩) 25
    have hbC := bto hb3 hbA
    replace x7 := x7.below hbC
    replace x8 := x8.below hbC
    replace x9 := x9.below hbC
    replace x12 := x12.below hbC
    replace hb := bto hb hbC
    clear hb3 hbA hbC
    by_cases g0 : k0 < 0
    · have t0 : decide (k0 < 0) = true := decide_eq_true g0
      have HV : Hid (presV x q r i y = ([], 2)) := by show _ = _; unfold presV; rw [if_neg (fun h => h HC.out.symm), if_pos (show presB r i y = true from or3_1 (E0.out.2.1.1 g0))]
      have qx70 := x7.c0
      have qx71 := x7.c1
      go_wp2_with fail
      ((with_reducible refine (S0.out.of hG hb).mono ?_); rintro e ws0 ⟨rfl, hbs0⟩)
      replace x7 := x7.below hbs0
      replace x9 := x9.below hbs0
      replace x12 := x12.below hbs0
      replace x14 := x14.below hbs0
      replace hb := bto hb hbs0
      clear hbs0
      clear qx70 qx71
      clear g0
      go_wp2
      go_ret2
      exact ⟨retS0 HV.out, hb⟩
    have t0 : decide (k0 < 0) = false := decide_eq_false g0
    have G0 := Lib.hid (Int.not_lt.1 g0)
    clear g0
    have qx70 := x7.c0
    have qx71 := x7.c1
    go_wp2_with fail
    ((with_reducible refine (S0.out.of hG hb).mono ?_); rintro e ws0 ⟨rfl, hbs0⟩)
    replace x7 := x7.below hbs0
    replace x9 := x9.below hbs0
    replace x12 := x12.below hbs0
    replace x14 := x14.below hbs0
    replace hb := bto hb hbs0
    clear hbs0
    clear qx70 qx71
    by_cases g1 : k1 < 0
    · have t1 : decide (k1 < 0) = true := decide_eq_true g1
      have HV : Hid (presV x q r i y = ([], 2)) := by show _ = _; unfold presV; rw [if_neg (fun h => h HC.out.symm), if_pos (show presB r i y = true from or3_2 (E1.out.2.1.1 g1))]
      have qx90 := x9.c0
      have qx91 := x9.c1
      go_wp2_with fail
      ((with_reducible refine (S1.out.of hG hb).mono ?_); rintro e ws1 ⟨rfl, hbs1⟩)
      replace x7 := x7.below hbs1
      replace x9 := x9.below hbs1
      replace x12 := x12.below hbs1
      replace x14 := x14.below hbs1
      replace hb := bto hb hbs1
      clear hbs1
      clear qx90 qx91
      clear g1
      go_wp2
      go_ret2
      exact ⟨retS0 HV.out, hb⟩
    have t1 : decide (k1 < 0) = false := decide_eq_false g1
    have G1 := Lib.hid (Int.not_lt.1 g1)
    clear g1
    have qx90 := x9.c0
    have qx91 := x9.c1
    go_wp2_with fail
    ((with_reducible refine (S1.out.of hG hb).mono ?_); rintro e ws1 ⟨rfl, hbs1⟩)
    replace x7 := x7.below hbs1
    replace x9 := x9.below hbs1
    replace x12 := x12.below hbs1
    replace x14 := x14.below hbs1
    replace hb := bto hb hbs1
    clear hbs1
    clear qx90 qx91
    by_cases g2 : k2 ≤ 0
    · have t2 : decide (k2 ≤ 0) = true := decide_eq_true g2
      have HV : Hid (presV x q r i y = ([], 2)) := by show _ = _; unfold presV; rw [if_neg (fun h => h HC.out.symm), if_pos (show presB r i y = true from or3_3 (E2.out.1.1 g2))]
      have qx140 := x14.c0
      have qx141 := x14.c1
      go_wp2_with fail
      ((with_reducible refine (S2.out.of hG hb).mono ?_); rintro e ws2 ⟨rfl, hbs2⟩)
      replace x7 := x7.below hbs2
      replace x9 := x9.below hbs2
      replace x12 := x12.below hbs2
      replace x14 := x14.below hbs2
      replace hb := bto hb hbs2
      clear hbs2
      clear qx140 qx141
      clear g2
      go_wp2
      go_ret2
      exact ⟨retS0 HV.out, hb⟩
    have t2 : decide (k2 ≤ 0) = false := decide_eq_false g2
    have G2 := Lib.hid (Int.not_le.1 g2)
    clear g2
    have qx140 := x14.c0
    have qx141 := x14.c1
    go_wp2_with fail
    ((with_reducible refine (S2.out.of hG hb).mono ?_); rintro e ws2 ⟨rfl, hbs2⟩)
    replace x7 := x7.below hbs2
    replace x9 := x9.below hbs2
    replace x12 := x12.below hbs2
    replace x14 := x14.below hbs2
    replace hb := bto hb hbs2
    clear hbs2
    clear qx140 qx141
    have h0 : upQ i y ≠ 0 := fun h => by have a := G2.out; have b := E2.out.1.2 (by rw [h]; exact Rat.le_refl); omega
    replace CQ := Lib.hid (CQ.out h0)
    have HV : Hid (presV x q r i y = (canon (rnd (qZ q * (fv r.1 r.2 - stk x) / upQ i y) 1), 0)) := by show _ = _; unfold presV; rw [if_neg (fun h => h HC.out.symm), if_neg (show ¬ presB r i y = true from or3_no (fun h => by have a := G0.out; have b := E0.out.2.1.2 h; omega) (fun h => by have a := G1.out; have b := E1.out.2.1.2 h; omega) (fun h => by have a := G2.out; have b := E2.out.1.2 h; omega))]
    clear h0 G0 G1 G2 E0 E1 E2
    generalize qZ q * (fv r.1 r.2 - stk x) / upQ i y = ZN at *
    generalize qZ q * (fv r.1 r.2 - stk x) = GN at *
    generalize upQ i y = UN at *
    go_wp2_with fail
    refine wp_region_kept (by kernel_rfl) (by kernel_rfl) ?_
    refine kept_val _ (fun _ => rfl) (fun ρ w hw => by have q0 := (x12.below hw).c0; have q1 := (x12.below hw).c1; have q2 := (x12.below hw).c2; have q3 := (x12.below hw).c3; have q4 := (x12.below hw).c4; have q5 := (x12.below hw).c5; have q6 := (x12.below hw).c6; have q7 := (x12.below hw).c7; have q8 := (x12.below hw).c8; have q9 := (x12.below hw).c9; have q10 := (x12.below hw).c10; have q11 := (x12.below hw).c11; have q12 := (x12.below hw).c12; have q13 := (x12.below hw).c13; have q14 := (x12.below hw).c14; have q15 := (x12.below hw).c15; go_simp; first | done | with_reducible rfl) ?_
    simp only [Act.put, List.setIfInBounds_toArray, List.set_cons_zero, List.set_cons_succ, Nat.reduceAdd]
    refine kept_val _ (fun _ => rfl) (fun ρ w hw => by have q0 := (x7.below hw).c0; have q1 := (x7.below hw).c1; go_simp; first | done | with_reducible rfl) ?_
    simp only [Act.put, List.setIfInBounds_toArray, List.set_cons_zero, List.set_cons_succ, Nat.reduceAdd]
    refine kept_call _ _ _ (fun _ => rfl) (fun ρ w hw => by go_simp; first | done | with_reducible rfl) (fun w hw => CG.out.of hG (bto hb hw)) ?_
    simp only [Act.put, List.setIfInBounds_toArray, List.set_cons_zero, List.set_cons_succ, Nat.reduceAdd]
    refine kept_val _ (fun _ => rfl) (fun ρ w hw => by have q0 := (x14.below hw).c0; have q1 := (x14.below hw).c1; go_simp; first | done | with_reducible rfl) ?_
    simp only [Act.put, List.setIfInBounds_toArray, List.set_cons_zero, List.set_cons_succ, Nat.reduceAdd]
    refine kept_call _ _ _ (fun _ => rfl) (fun ρ w hw => by go_simp; first | done | with_reducible rfl) (fun w hw => CQ.out.of hG (bto hb hw)) ?_
    iterate 3
      simp only [Act.put, List.setIfInBounds_toArray, List.set_cons_zero, List.set_cons_succ, Nat.reduceAdd]
      refine kept_val _ (fun _ => rfl) (fun ρ w hw => by go_simp; first | done | with_reducible rfl) ?_
    simp only [Act.put, List.setIfInBounds_toArray, List.set_cons_zero, List.set_cons_succ, Nat.reduceAdd]
    refine kept_box (fun b => .pointer (some ⟨b, 0, none⟩)) _ rfl (fun _ => rfl) (fun ρ w hw => by go_simp; first | done | with_reducible rfl) ?_
    simp only [Act.put, List.setIfInBounds_toArray, List.set_cons_zero, List.set_cons_succ, Nat.reduceAdd]
    refine kept_put2 8 _ 15 _ _ _ _ _ rfl rfl rfl (by decide) (fun _ => rfl) (fun ρ w hw q0 q1 q2 q3 => by go_simp; first | done | with_reducible rfl) ?_
    simp only [Act.put, Nat.reduceAdd]
    refine kept_val _ (fun _ => rfl) (fun ρ w hw => by go_simp; first | done | with_reducible rfl) ?_
    simp only [Act.put, List.setIfInBounds_toArray, List.set_cons_zero, List.set_cons_succ, Nat.reduceAdd]
    refine kept_end (fun ρ w61 hF => ?_)
    replace x7 := x7.below hF.below
    replace x12 := x12.below hF.below
    replace x14 := x14.below hF.below
    replace hb := bto hb hF.below
    have x15 := FBox.ofB (hF.box 8 _ _ rfl).2
    generalize ρ 8 = b15 at *
    clear hF
    have q150 := x15.c0
    have q151 := x15.c1
    go_wp2_with fail
    ((with_reducible refine (CR.out.of hG hb).mono ?_); rintro e w90 ⟨rfl, hb90⟩)
    replace hb := bto hb hb90
    clear q150 q151 hb90
    go_wp2
    go_ret2
    exact ⟨retS HV.out, hb⟩
set_option maxHeartbeats 2000000 in
set_option maxRecDepth 100000 in
theorem fValue (x : Ins) (hx : x.Small) (q : List UInt8) (hq : q.length ≤ 200) (r : Fp2) (hr : r.1.length ≤ 200 ∧ r.2.length ≤ 200) : Ret 19 #[(Value.agg #[Value.string ⟨List.toArray x.id⟩, Value.int .i64 x.kind, Value.string ⟨List.toArray x.cur⟩, Value.int .i64 x.places, Value.int .i64 x.issued, Value.int .i64 x.matures, Value.string ⟨List.toArray x.fn⟩, Value.string ⟨List.toArray x.fd⟩, Value.string ⟨List.toArray x.cn⟩, Value.string ⟨List.toArray x.cd⟩, Value.int .i64 x.months, Value.int .i64 x.count, Value.string ⟨List.toArray x.other⟩, Value.string ⟨List.toArray x.sn⟩, Value.string ⟨List.toArray x.sd⟩]), .string ⟨q.toArray⟩, (Value.agg #[Value.string ⟨List.toArray (r.1)⟩, Value.string ⟨List.toArray (r.2)⟩])] (.tuple #[.string ⟨(presV x q r ([], []) ([], [])).1.toArray⟩, .int .i64 (presV x q r ([], []) ([], [])).2]) := fun w hG => by
  have C1 := Lib.hid (fPresent x hx q hq r ([], []) ([], []) hr ⟨by decide, by decide⟩ ⟨by decide, by decide⟩)
  generalize (presV x q r ([], []) ([], [])).1 = v1 at *
  generalize (presV x q r ([], []) ([], [])).2 = v2 at *
  go_enter Tryz.func19, Tryz.ntmps19
  go_wp2_with fail
  ((with_reducible refine (C1.out.of hG (bto (below_alloc _ _) (below_alloc _ _))).mono ?_); rintro e w1 ⟨rfl, hb1⟩)
  have hb : Below w.heap.size w w1 := bto (bto (below_alloc _ _) (below_alloc _ _)) hb1
  clear hb1 C1
  go_wp2
  go_ret2
  exact ⟨rfl, hb⟩
end Go.Proofs.YtgnppdkeiihlfaaGreatDoor
namespace Go.Proofs.YtgnppdkeiihlfaaGreatDoor
open Go.RowKit Num
def setL (x : Ins) (q : List UInt8) : List Mon := putL (putL [] ⟨x.cur, q⟩) ⟨x.other, canon (paidZ x q)⟩
def setV (x : Ins) (q : List UInt8) : List Mon × Int := if ¬ okB x q = true then ([], 1) else (setL x q, 0)
theorem put_bg {a : List Mon} {k L : Nat} {m : Mon} (h : BG a k L) (hm : codeB m.cur = true) (hv : (val m.amt).natAbs < 10 ^ k) : BG (putL a m) (k + 1) (L + 1) :=
  ⟨put_bag h.bag m, codes_sum h.bag.srt (one_srt m) h.codes (fun t ht => by rw [List.mem_singleton.1 ht]; exact hm), put_lt h.bag h.amt hv, Nat.le_trans (smL_len _ _) (by have := h.len; simp; omega)⟩
theorem bg_nil (k : Nat) : BG [] k 0 := ⟨bag_nil, fun x hx => (by cases hx), fun x hx => (by cases hx), Nat.le_refl _⟩
theorem pow_up {n a b : Nat} (h : n < 10 ^ a) (hab : a ≤ b) : n < 10 ^ b := Nat.lt_of_lt_of_le h (Nat.pow_le_pow_right (by decide) hab)
def Ins.Tiny (x : Ins) : Prop := x.sn.length ≤ 20 ∧ x.sd.length ≤ 20
theorem paid_lt {x : Ins} {q : List UInt8} (ht : x.Tiny) (hq : q.length ≤ 20) : (paidZ x q).natAbs < 10 ^ 41 := by
  have bs : Bd 20 (stk x) := bd_of (r := (x.sn, x.sd)) ht (by decide)
  have := bd_rnd (bd_mul (bd_q hq (by decide)) bs) 1
  unfold paidZ
  rw [Int.natAbs_neg]
  exact this
theorem set_bg1 {x : Ins} {q : List UInt8} (h : Fwd x) (hq : q.length ≤ 20) : BG (putL [] ⟨x.cur, q⟩) 42 1 :=
  put_bg (bg_nil 41) h.cur (pow_up (val_lt_of hq) (by decide))
theorem set_bg2 {x : Ins} {q : List UInt8} (h : Fwd x) (ht : x.Tiny) (hq : q.length ≤ 20) : BG (setL x q) 43 2 :=
  put_bg (set_bg1 h hq) h.oth (by rw [val_canon]; exact pow_up (paid_lt ht hq) (by decide))
theorem paid_len {x : Ins} {q : List UInt8} (ht : x.Tiny) (hq : q.length ≤ 20) : (canon (paidZ x q)).length ≤ 42 := canon_len_le _ 41 (paid_lt ht hq)
theorem frAt_nil (w : World) : FrAt w none [] := fun i r hr => by simp at hr
set_option maxHeartbeats 8000000 in
set_option maxRecDepth 100000 in
theorem fSettle (x : Ins) (hx : x.Small) (ht : x.Tiny) (q : List UInt8) (hq : q.length ≤ 20) (w : World) (hG : Glob w) : Calls Tryz.prog 24 #[(Value.agg #[Value.string ⟨List.toArray x.id⟩, Value.int .i64 x.kind, Value.string ⟨List.toArray x.cur⟩, Value.int .i64 x.places, Value.int .i64 x.issued, Value.int .i64 x.matures, Value.string ⟨List.toArray x.fn⟩, Value.string ⟨List.toArray x.fd⟩, Value.string ⟨List.toArray x.cn⟩, Value.string ⟨List.toArray x.cd⟩, Value.int .i64 x.months, Value.int .i64 x.count, Value.string ⟨List.toArray x.other⟩, Value.string ⟨List.toArray x.sn⟩, Value.string ⟨List.toArray x.sd⟩]), .string ⟨q.toArray⟩] w (MonEnd (setV x q).1 (setV x q).2 w) := by
  have bs : Bd 20 (stk x) := bd_of (r := (x.sn, x.sd)) ht (by decide)
  have bm : Bd 40 (qZ q * stk x) := bd_mul (bd_q hq (by decide)) bs
  have CT := Lib.hid (fTimes x (by omega) (isq_raw hx.sn hx.sd (by decide)) (q := q) (r := qZ q * stk x) rfl)
  have CR := Lib.hid (fRounded (isq_fr bm (by decide)) bm (by decide) rfl)
  have CN := Lib.hid (riNeg (l := canon (rnd (qZ q * stk x) 1)) (Nat.le_trans (canon_len_le _ 41 (bd_rnd bm 1)) (by decide)) (show -val (canon (rnd (qZ q * stk x) 1)) = paidZ x q by rw [val_canon]; rfl))
  generalize qZ q * stk x = MN at *
  clear bs bm
  go_enter Tryz.func24, Tryz.ntmps24
  have x2 := IBox.new w x 27
  have qx2_0 := x2.c0
  have qx2_1 := x2.c1
  have qx2_2 := x2.c2
  have qx2_3 := x2.c3
  have qx2_4 := x2.c4
  have qx2_5 := x2.c5
  have qx2_6 := x2.c6
  have qx2_7 := x2.c7
  have qx2_8 := x2.c8
  have qx2_9 := x2.c9
  have qx2_10 := x2.c10
  have qx2_11 := x2.c11
  have qx2_12 := x2.c12
  have qx2_13 := x2.c13
  have qx2_14 := x2.c14
  go_wp2_with fail
  refine (fOf x hx q (by omega) none [] 0 0 _ (hG.below (below_alloc _ _)) rfl (by decide) (frAt_nil _) (fun u hu => by cases hu)).mono ?_
  rintro e w1 ⟨rfl, hb1⟩
  have hb : Below w.heap.size w w1 := bto (below_alloc _ _) hb1
  clear qx2_0 qx2_1 qx2_2 qx2_3 qx2_4 qx2_5 qx2_6 qx2_7 qx2_8 qx2_9 qx2_10 qx2_11 qx2_12 qx2_13 qx2_14
  clear hb1 x2
  rw [List.all_nil, Bool.and_true]
  obtain ⟨T, hT⟩ : ∃ T, T = okB x q := ⟨_, rfl⟩
  rw [← hT]
  have x6 := DBox.new w1 x q 98
  have hbD := below_alloc w1 (.cells #[Value.string ⟨List.toArray x.id⟩, Value.int .i64 x.kind, Value.string ⟨List.toArray x.cur⟩, Value.int .i64 x.places, Value.int .i64 x.issued, Value.int .i64 x.matures, Value.string ⟨List.toArray x.fn⟩, Value.string ⟨List.toArray x.fd⟩, Value.string ⟨List.toArray x.cn⟩, Value.string ⟨List.toArray x.cd⟩, Value.int .i64 x.months, Value.int .i64 x.count, Value.string ⟨List.toArray x.other⟩, Value.string ⟨List.toArray x.sn⟩, Value.string ⟨List.toArray x.sd⟩, Value.string ⟨List.toArray q⟩] 98)
  replace hb := bto hb hbD
  clear hbD
  cases T with
  | false =>
    have HV : Hid (setV x q = ([], 1)) := by show _ = _; unfold setV; rw [← hT]; rfl
    clear hT x6
    go_wp2
    go_ret2
    exact monEnd_no HV.out hb
  | true =>
    have HV : Hid (setV x q = (setL x q, 0)) := by show _ = _; unfold setV; rw [← hT]; rfl
    obtain ⟨hf, hcq⟩ := ok_iff.1 hT.symm
    have hF := fwd_of hf
    have C1 := Lib.hid (fun (w' : World) (hb : Below w.heap.size w w') => mPutG (A := none) (n := 0) (c := 0) (m := ⟨x.cur, q⟩) (hG.below hb) (bg_nil 41) (by decide) (AtM.nil w') hF.cur hcq (by show q.length ≤ 100; omega) (zs := putL [] ⟨x.cur, q⟩) rfl (by decide) (Nat.le_trans (set_bg1 hF hq).len (by decide)))
    have C2 := Lib.hid (fun (w' : World) (B : Option Addr) (m c : Nat) (hb : Below w.heap.size w w') (hA : AtM w' B (putL [] ⟨x.cur, q⟩) m c) => mPutG (m := ⟨x.other, canon (paidZ x q)⟩) (hG.below hb) (set_bg1 hF hq) (by decide) hA hF.oth (by show canon _ = canon _; rw [val_canon]) (Nat.le_trans (paid_len ht hq) (by decide)) (zs := setL x q) rfl (Nat.le_trans (set_bg1 hF hq).len (by decide)) (Nat.le_trans (set_bg2 hF ht hq).len (by decide)))
    generalize setL x q = ZL at *
    generalize putL [] ⟨x.cur, q⟩ = XL at *
    generalize canon (paidZ x q) = PA at *
    clear hT hf hcq hF ht hx hq
    have qx6_0 := x6.c0
    have qx6_1 := x6.c1
    have qx6_2 := x6.c2
    have qx6_3 := x6.c3
    have qx6_4 := x6.c4
    have qx6_5 := x6.c5
    have qx6_6 := x6.c6
    have qx6_7 := x6.c7
    have qx6_8 := x6.c8
    have qx6_9 := x6.c9
    have qx6_10 := x6.c10
    have qx6_11 := x6.c11
    have qx6_12 := x6.c12
    have qx6_13 := x6.c13
    have qx6_14 := x6.c14
    have qx6_15 := x6.c15
    go_wp2_with fail
    refine (C1.out _ hb).mono ?_
    rintro e w2 ⟨B, m, cp, rfl, hA, hb2⟩
    clear qx6_0 qx6_1 qx6_2 qx6_3 qx6_4 qx6_5 qx6_6 qx6_7 qx6_8 qx6_9 qx6_10 qx6_11 qx6_12 qx6_13 qx6_14 qx6_15
    replace x6 := x6.below hb2
    replace hb := bto hb hb2
    clear hb2 C1
    have C3 := Lib.hid (fun (w' : World) (hb' : Below w2.heap.size w2 w') => C2.out w' B m cp (bto hb hb') (hA.below hb'))
    clear C2 hA
    go_wp2_with fail
    refine wp_region_gain (by kernel_rfl) (by kernel_rfl) ?_
    refine gain_val _ (fun _ => rfl) (fun ρ w hw => by go_simp; first | done | with_reducible rfl) ?_
    simp only [Act.put, List.setIfInBounds_toArray, List.set_cons_zero, List.set_cons_succ, Nat.reduceAdd]
    refine gain_val _ (fun _ => rfl) (fun ρ w hw => by go_simp; first | done | with_reducible rfl) ?_
    simp only [Act.put, List.setIfInBounds_toArray, List.set_cons_zero, List.set_cons_succ, Nat.reduceAdd]
    refine gain_val _ (fun _ => rfl) (fun ρ w hw => by go_simp; first | done | with_reducible rfl) ?_
    simp only [Act.put, List.setIfInBounds_toArray, List.set_cons_zero, List.set_cons_succ, Nat.reduceAdd]
    refine gain_val _ (fun _ => rfl) (fun ρ w hw => by have q12 := (x6.below hw).c12; go_simp; first | done | with_reducible rfl) ?_
    simp only [Act.put, List.setIfInBounds_toArray, List.set_cons_zero, List.set_cons_succ, Nat.reduceAdd]
    refine gain_val _ (fun _ => rfl) (fun ρ w hw => by have q0 := (x6.below hw).c0; have q1 := (x6.below hw).c1; have q2 := (x6.below hw).c2; have q3 := (x6.below hw).c3; have q4 := (x6.below hw).c4; have q5 := (x6.below hw).c5; have q6 := (x6.below hw).c6; have q7 := (x6.below hw).c7; have q8 := (x6.below hw).c8; have q9 := (x6.below hw).c9; have q10 := (x6.below hw).c10; have q11 := (x6.below hw).c11; have q12 := (x6.below hw).c12; have q13 := (x6.below hw).c13; have q14 := (x6.below hw).c14; have q15 := (x6.below hw).c15; go_simp; first | done | with_reducible rfl) ?_
    simp only [Act.put, List.setIfInBounds_toArray, List.set_cons_zero, List.set_cons_succ, Nat.reduceAdd]
    refine gain_val _ (fun _ => rfl) (fun ρ w hw => by go_simp; first | done | with_reducible rfl) ?_
    simp only [Act.put, List.setIfInBounds_toArray, List.set_cons_zero, List.set_cons_succ, Nat.reduceAdd]
    refine gain_val _ (fun _ => rfl) (fun ρ w hw => by go_simp; first | done | with_reducible rfl) ?_
    simp only [Act.put, List.setIfInBounds_toArray, List.set_cons_zero, List.set_cons_succ, Nat.reduceAdd]
    refine gain_val _ (fun _ => rfl) (fun ρ w hw => by have q13 := (x6.below hw).c13; have q14 := (x6.below hw).c14; go_simp; first | done | with_reducible rfl) ?_
    simp only [Act.put, List.setIfInBounds_toArray, List.set_cons_zero, List.set_cons_succ, Nat.reduceAdd]
    refine gain_call _ _ _ (fun _ => rfl) (fun ρ w hw => by go_simp; first | done | with_reducible rfl) (fun w hw => CT.out.of hG (bto hb hw)) ?_
    simp only [Act.put, List.setIfInBounds_toArray, List.set_cons_zero, List.set_cons_succ, Nat.reduceAdd]
    refine gain_call _ _ _ (fun _ => rfl) (fun ρ w hw => by go_simp; first | done | with_reducible rfl) (fun w hw => CR.out.of hG (bto hb hw)) ?_
    simp only [Act.put, List.setIfInBounds_toArray, List.set_cons_zero, List.set_cons_succ, Nat.reduceAdd]
    refine gain_call _ _ _ (fun _ => rfl) (fun ρ w hw => by go_simp; first | done | with_reducible rfl) (fun w hw => CN.out.of hG (bto hb hw)) ?_
    simp only [Act.put, List.setIfInBounds_toArray, List.set_cons_zero, List.set_cons_succ, Nat.reduceAdd]
    refine gain_val _ (fun _ => rfl) (fun ρ w hw => by go_simp; first | done | with_reducible rfl) ?_
    simp only [Act.put, List.setIfInBounds_toArray, List.set_cons_zero, List.set_cons_succ, Nat.reduceAdd]
    refine gain_new _ _ (fun wz u => ∃ B m cp, u = .tuple #[.slice B m cp, .int .i64 0] ∧ AtM wz B ZL m cp) rfl (fun w1 w2 u ⟨B, m, cp, e, h⟩ hb => ⟨B, m, cp, e, h.below hb⟩) (fun _ => rfl) (fun ρ w hw => by go_simp; first | done | with_reducible rfl) (fun w hw => (C3.out w hw).mono fun e w' ⟨B, m, cp, he, h1, h2⟩ => ⟨_, he, h2, B, m, cp, rfl, h1⟩) ?_
    simp only [Act.put, List.setIfInBounds_toArray, List.set_cons_zero, List.set_cons_succ, Nat.reduceAdd]
    refine gain_newN 12 (fun wz u => ∃ B m cp, u = .tuple #[.slice B m cp, .int .i64 0] ∧ AtM wz B ZL m cp) (fun wz u => ∃ B m cp, u = .slice B m cp ∧ AtM wz B ZL m cp) _ 39 rfl (fun w1 w2 u ⟨B, m, cp, e, h⟩ hb => ⟨B, m, cp, e, h.below hb⟩) rfl rfl rfl (by decide) (fun _ => rfl) (fun ρ w hw ⟨B, m, cp, e, h⟩ => ⟨.slice B m cp, by simp only [e]; go_simp; first | done | with_reducible rfl, B, m, cp, rfl, h⟩) ?_
    simp only [Act.put, List.setIfInBounds_toArray, List.set_cons_zero, List.set_cons_succ, Nat.reduceAdd]
    refine gain_valN 12 (fun wz u => ∃ B m cp, u = .tuple #[.slice B m cp, .int .i64 0] ∧ AtM wz B ZL m cp) (.int .i64 0) _ 39 rfl rfl rfl (by decide) (fun _ => rfl) (fun ρ w hw ⟨B, m, cp, e, h⟩ => by simp only [e]; go_simp; first | done | with_reducible rfl) ?_
    simp only [Act.put, List.setIfInBounds_toArray, List.set_cons_zero, List.set_cons_succ, Nat.reduceAdd]
    refine gain_newN 13 (fun wz u => ∃ B m cp, u = .slice B m cp ∧ AtM wz B ZL m cp) (fun wz u => ∃ B m cp, u = .slice B m cp ∧ AtM wz B ZL m cp) _ 40 rfl (fun w1 w2 u ⟨B, m, cp, e, h⟩ hb => ⟨B, m, cp, e, h.below hb⟩) rfl rfl rfl (by decide) (fun _ => rfl) (fun ρ w hw ⟨B, m, cp, e, h⟩ => ⟨.slice B m cp, by simp only [e]; go_simp; first | done | with_reducible rfl, B, m, cp, rfl, h⟩) ?_
    simp only [Act.put, List.setIfInBounds_toArray, List.set_cons_zero, List.set_cons_succ, Nat.reduceAdd]
    refine gain_val _ (fun _ => rfl) (fun ρ w hw => by go_simp; first | done | with_reducible rfl) ?_
    simp only [Act.put, List.setIfInBounds_toArray, List.set_cons_zero, List.set_cons_succ, Nat.reduceAdd]
    intro ρ w3 hF
    obtain ⟨⟨B3, m3, c3, e3, hm3⟩, -⟩ := hF.box 15 _ rfl
    have hb3 := hF.below
    simp only [e3]
    clear hF
    go_wp2
    go_ret2
    refine ⟨B3, m3, c3, by rw [HV.out]; first | rfl | (go_simp; done), by rw [HV.out]; exact hm3.len, hm3.cap, by rw [HV.out]; exact hm3.mem, bto hb hb3⟩
set_option maxHeartbeats 8000000 in
set_option maxRecDepth 100000 in
theorem fEven (x : Ins) (hx : x.Small) (q v : List UInt8) (hq : q.length ≤ 60) (hv : v.length ≤ 60) : Ret 34 #[(Value.agg #[Value.string ⟨List.toArray x.id⟩, Value.int .i64 x.kind, Value.string ⟨List.toArray x.cur⟩, Value.int .i64 x.places, Value.int .i64 x.issued, Value.int .i64 x.matures, Value.string ⟨List.toArray x.fn⟩, Value.string ⟨List.toArray x.fd⟩, Value.string ⟨List.toArray x.cn⟩, Value.string ⟨List.toArray x.cd⟩, Value.int .i64 x.months, Value.int .i64 x.count, Value.string ⟨List.toArray x.other⟩, Value.string ⟨List.toArray x.sn⟩, Value.string ⟨List.toArray x.sd⟩]), .string ⟨q.toArray⟩, .string ⟨v.toArray⟩] (.tuple #[(Value.agg #[Value.string ⟨List.toArray (fN ((evenV x q v).1))⟩, Value.string ⟨List.toArray (fD ((evenV x q v).1))⟩]), .int .i64 (evenV x q v).2]) := fun w hG => by
  have CK := Lib.hid (riCheck (l := v) (by omega) (c := if v = canon (val v) then 0 else 1) rfl)
  have N0 := Lib.hid (fun h0 => rNew0 (l := v) (l' := q) (by omega) h0)
  have N1 := Lib.hid (fun h0 => rNew (l := v) (l' := q) (by omega) (by omega) h0 (r := Rat.divInt (val v) (val q)) rfl)
  have CA := Lib.hid (fun (h0 : val q ≠ 0) => rAdd (isq_raw hx.sn hx.sd (by decide)) (isq_fr (bd_divInt (val_lt_of hv) (val_lt_of hq) h0) (by decide)) (r := stk x + Rat.divInt (val v) (val q)) rfl)
  go_enter Tryz.func34, Tryz.ntmps34
  have x3 := (IBox.new w x 27).below (below_alloc _ (.cells #[.string ⟨#[]⟩, .string ⟨#[]⟩] 25))
  have qx3_0 := x3.c0
  have qx3_1 := x3.c1
  have qx3_2 := x3.c2
  have qx3_3 := x3.c3
  have qx3_4 := x3.c4
  have qx3_5 := x3.c5
  have qx3_6 := x3.c6
  have qx3_7 := x3.c7
  have qx3_8 := x3.c8
  have qx3_9 := x3.c9
  have qx3_10 := x3.c10
  have qx3_11 := x3.c11
  have qx3_12 := x3.c12
  have qx3_13 := x3.c13
  have qx3_14 := x3.c14
  go_wp2_with fail
  refine (fOf x hx q (by omega) none [] 0 0 _ (hG.below (bto (below_alloc _ _) (below_alloc _ _))) rfl (by decide) (frAt_nil _) (fun u hu => by cases hu)).mono ?_
  rintro e w1 ⟨rfl, hb1⟩
  have z6 : w1.heap[w.heap.size + 1]? = some (.cells #[.string ⟨#[]⟩, .string ⟨#[]⟩] 25) := (hb1.block _ (by first | (simp; done) | (simp; omega))).trans (by simp [World.alloc, Array.getElem_push, -World.alloc_eq])
  have hb : Below w.heap.size w w1 := bto (bto (below_alloc _ _) (below_alloc _ _)) hb1
  clear qx3_0 qx3_1 qx3_2 qx3_3 qx3_4 qx3_5 qx3_6 qx3_7 qx3_8 qx3_9 qx3_10 qx3_11 qx3_12 qx3_13 qx3_14
  clear hb1 x3
  rw [List.all_nil, Bool.and_true]
  obtain ⟨T, hT⟩ : ∃ T, T = okB x q := ⟨_, rfl⟩
  rw [← hT]
  have x8 := DBox.new w1 x q 98
  have hbD := below_alloc w1 (.cells #[Value.string ⟨List.toArray x.id⟩, Value.int .i64 x.kind, Value.string ⟨List.toArray x.cur⟩, Value.int .i64 x.places, Value.int .i64 x.issued, Value.int .i64 x.matures, Value.string ⟨List.toArray x.fn⟩, Value.string ⟨List.toArray x.fd⟩, Value.string ⟨List.toArray x.cn⟩, Value.string ⟨List.toArray x.cd⟩, Value.int .i64 x.months, Value.int .i64 x.count, Value.string ⟨List.toArray x.other⟩, Value.string ⟨List.toArray x.sn⟩, Value.string ⟨List.toArray x.sd⟩, Value.string ⟨List.toArray q⟩] 98)
  replace z6 := (hbD.block _ (Array.getElem?_eq_some_iff.1 z6).1).trans z6
  replace hb := bto hb hbD
  clear hbD
  cases T with
  | false =>
    have q0 := (FBox.ofB z6).c0
    have q1 := (FBox.ofB z6).c1
    have q2 := (FBox.ofB z6).f0
    have q3 := (FBox.ofB z6).f1
    have HV : Hid (evenV x q v = (0, 1)) := by show _ = _; unfold evenV; rw [← hT]; rfl
    clear hT x8
    go_wp2
    have hy := (FBox.ofB z6).set (.string ⟨#[]⟩) (.string ⟨#[]⟩)
    have d0 := hy.c0
    have d1 := hy.c1
    refine bodyPost_ret (v := .tuple #[.agg #[.string ⟨#[]⟩, .string ⟨#[]⟩], .int .i64 1]) (by simp [results, Tryz.results34, go_sem, d0, d1]) rfl ?_
    exact ⟨ret0 HV.out, below_set2 (b := w.heap.size + 1) hb (by omega) _ _⟩
  | true =>
    have HT := Lib.hid hT.symm
    clear hT
    by_cases gv : v = canon (val v)
    rotate_left
    · rw [if_neg gv] at CK
      go_wp2_with fail
      ((with_reducible refine (CK.out.of hG hb).mono ?_); rintro e w2 ⟨rfl, hb2⟩)
      replace z6 := (hb2.block _ (Array.getElem?_eq_some_iff.1 z6).1).trans z6
      replace hb := bto hb hb2
      clear hb2
      have q0 := (FBox.ofB z6).c0
      have q1 := (FBox.ofB z6).c1
      have q2 := (FBox.ofB z6).f0
      have q3 := (FBox.ofB z6).f1
      have HV : Hid (evenV x q v = (0, 1)) := by show _ = _; unfold evenV; rw [HT.out, decide_eq_false gv]; rfl
      clear gv x8
      go_wp2
      have hy := (FBox.ofB z6).set (.string ⟨#[]⟩) (.string ⟨#[]⟩)
      have d0 := hy.c0
      have d1 := hy.c1
      refine bodyPost_ret (v := .tuple #[.agg #[.string ⟨#[]⟩, .string ⟨#[]⟩], .int .i64 1]) (by simp [results, Tryz.results34, go_sem, d0, d1]) rfl ?_
      exact ⟨ret0 HV.out, below_set2 (b := w.heap.size + 1) hb (by omega) _ _⟩
    rw [if_pos gv] at CK
    have HG := Lib.hid (show (okB x q && decide (v = canon (val v))) = true by rw [HT.out, decide_eq_true gv]; rfl)
    clear gv
    go_wp2_with fail
    ((with_reducible refine (CK.out.of hG hb).mono ?_); rintro e w2 ⟨rfl, hb2⟩)
    replace z6 := (hb2.block _ (Array.getElem?_eq_some_iff.1 z6).1).trans z6
    replace x8 := x8.below hb2
    replace hb := bto hb hb2
    clear hb2 CK
    by_cases g0 : val q = 0
    · replace N0 := Lib.hid (N0.out g0)
      have HZ := Lib.hid g0
      clear g0
      go_wp2_with fail
      ((with_reducible refine (N0.out.of hG hb).mono ?_); rintro e w3 ⟨rfl, hb3⟩)
      have hbA := below_alloc w3 (.cells #[.string ⟨#[]⟩, .string ⟨#[]⟩] 25)
      have hbC := bto hb3 hbA
      replace z6 := (hbC.block _ (Array.getElem?_eq_some_iff.1 z6).1).trans z6
      replace hb := bto hb hbC
      clear hb3 hbA hbC N0
      have q0 := (FBox.ofB z6).c0
      have q1 := (FBox.ofB z6).c1
      have q2 := (FBox.ofB z6).f0
      have q3 := (FBox.ofB z6).f1
      have HV : Hid (evenV x q v = (0, 10)) := by show _ = _; unfold evenV; rw [if_neg (fun h => h HG.out), if_pos HZ.out]
      clear x8
      go_wp2
      have hy := (FBox.ofB z6).set (.string ⟨#[]⟩) (.string ⟨#[]⟩)
      have d0 := hy.c0
      have d1 := hy.c1
      refine bodyPost_ret (v := .tuple #[.agg #[.string ⟨#[]⟩, .string ⟨#[]⟩], .int .i64 10]) (by simp [results, Tryz.results34, go_sem, d0, d1]) rfl ?_
      exact ⟨ret0 HV.out, below_set2 (b := w.heap.size + 1) hb (by omega) _ _⟩
    replace N1 := Lib.hid (N1.out g0)
    replace CA := Lib.hid (CA.out g0)
    have HV : Hid (evenV x q v = (stk x + Rat.divInt (val v) (val q), 0)) := by show _ = _; unfold evenV; rw [if_neg (fun h => h HG.out), if_neg g0]
    generalize stk x + Rat.divInt (val v) (val q) = RN at *
    generalize fN (Rat.divInt (val v) (val q)) = u1 at *
    generalize fD (Rat.divInt (val v) (val q)) = u2 at *
    clear g0 HG HT N0
    go_wp2_with fail
    ((with_reducible refine (N1.out.of hG hb).mono ?_); rintro e w3 ⟨rfl, hb3⟩)
    have hbA := below_alloc w3 (.cells #[.string ⟨u1.toArray⟩, .string ⟨u2.toArray⟩] 25)
    have x10 := FBox.new w3 (.string ⟨u1.toArray⟩) (.string ⟨u2.toArray⟩) 25
    have hbC := bto hb3 hbA
    replace z6 := (hbC.block _ (Array.getElem?_eq_some_iff.1 z6).1).trans z6
    replace x8 := x8.below hbC
    replace hb := bto hb hbC
    clear hb3 hbA hbC N1
    have q813 := x8.c13
    have q814 := x8.c14
    have q100 := x10.c0
    have q101 := x10.c1
    go_wp2_with fail
    ((with_reducible refine (CA.out.of hG hb).mono ?_); rintro e w4 ⟨rfl, hb4⟩)
    replace z6 := (hb4.block _ (Array.getElem?_eq_some_iff.1 z6).1).trans z6
    replace hb := bto hb hb4
    clear hb4 q813 q814 q100 q101 x8 x10 CA
    obtain ⟨v1, hv1⟩ : ∃ v1, v1 = fN RN := ⟨_, rfl⟩
    obtain ⟨v2, hv2⟩ : ∃ v2, v2 = fD RN := ⟨_, rfl⟩
    rw [← hv1, ← hv2]
    have H1 := Lib.hid hv1
    have H2 := Lib.hid hv2
    clear hv1 hv2
    have q0 := (FBox.ofB z6).c0
    have q1 := (FBox.ofB z6).c1
    have q2 := (FBox.ofB z6).f0
    have q3 := (FBox.ofB z6).f1
    go_wp2
    have hy := (FBox.ofB z6).set (.string ⟨v1.toArray⟩) (.string ⟨v2.toArray⟩)
    have d0 := hy.c0
    have d1 := hy.c1
    refine bodyPost_ret (v := .tuple #[.agg #[.string ⟨v1.toArray⟩, .string ⟨v2.toArray⟩], .int .i64 0]) (by simp [results, Tryz.results34, go_sem, d0, d1]) rfl ?_
    exact ⟨by rw [H1.out, H2.out]; exact retq HV.out, below_set2 (b := w.heap.size + 1) hb (by omega) _ _⟩
end Go.Proofs.YtgnppdkeiihlfaaGreatDoor
namespace Go.Proofs.YtgnppdkeiihlfaaGreatDoor
open Go.RowKit Num
structure IsJ (l l' : List UInt8) (q : Rat) : Prop where
  num : l.length ≤ 900
  den : l'.length ≤ 900
  eq : fv l l' = q
theorem isj_raw {l l' : List UInt8} (h : l.length ≤ 900) (h' : l'.length ≤ 900) : IsJ l l' (fv l l') := ⟨h, h', rfl⟩
theorem isj_p {r : Fp2} {k : Nat} (h : r.1.length ≤ k ∧ r.2.length ≤ k) (hk : k ≤ 900) : IsJ r.1 r.2 (fv r.1 r.2) := ⟨Nat.le_trans h.1 hk, Nat.le_trans h.2 hk, rfl⟩
theorem isj_fr {q : Rat} {k : Nat} (h : Bd k q) (hk : k ≤ 899) : IsJ (fN q) (fD q) q := ⟨Nat.le_trans (bd_len h).1 (by omega), Nat.le_trans (bd_len h).2 (by omega), fv_frac q⟩
section
variable {l l' k k' : List UInt8} {p q r : Rat}
theorem tMul (h : IsJ l l' p) (h' : IsJ k k' q) (e : p * q = r) : Ret 87 #[(Value.agg #[Value.string ⟨List.toArray l⟩, Value.string ⟨List.toArray l'⟩]), (Value.agg #[Value.string ⟨List.toArray k⟩, Value.string ⟨List.toArray k'⟩])] (Value.agg #[Value.string ⟨List.toArray (fN r)⟩, Value.string ⟨List.toArray (fD r)⟩]) := sMul h.num h.den h'.num h'.den (by rw [h.eq, h'.eq]; exact e)
theorem tAdd (h : IsJ l l' p) (h' : IsJ k k' q) (e : p + q = r) : Ret 96 #[(Value.agg #[Value.string ⟨List.toArray l⟩, Value.string ⟨List.toArray l'⟩]), (Value.agg #[Value.string ⟨List.toArray k⟩, Value.string ⟨List.toArray k'⟩])] (Value.agg #[Value.string ⟨List.toArray (fN r)⟩, Value.string ⟨List.toArray (fD r)⟩]) := sAdd h.num h.den h'.num h'.den (by rw [h.eq, h'.eq]; exact e)
theorem tSub {j : Nat} (h : IsJ l l' p) (h' : IsJ k k' q) (b : Bd j q) (hj : j ≤ 899) (e : p - q = r) : Ret 88 #[(Value.agg #[Value.string ⟨List.toArray l⟩, Value.string ⟨List.toArray l'⟩]), (Value.agg #[Value.string ⟨List.toArray k⟩, Value.string ⟨List.toArray k'⟩])] (Value.agg #[Value.string ⟨List.toArray (fN r)⟩, Value.string ⟨List.toArray (fD r)⟩]) := by
  have hb := bd_len (bd_neg b)
  exact sSub h.num h.den h'.num h'.den (by rw [h'.eq]; exact Nat.le_trans hb.1 (by omega)) (by rw [h'.eq]; exact Nat.le_trans hb.2 (by omega)) (by rw [h.eq, h'.eq]; exact e)
theorem tQuo (h : IsJ l l' p) (h' : IsJ k k' q) (h0 : q ≠ 0) (e : p / q = r) : Ret 86 #[(Value.agg #[Value.string ⟨List.toArray l⟩, Value.string ⟨List.toArray l'⟩]), (Value.agg #[Value.string ⟨List.toArray k⟩, Value.string ⟨List.toArray k'⟩])] (.tuple #[(Value.agg #[Value.string ⟨List.toArray (fN r)⟩, Value.string ⟨List.toArray (fD r)⟩]), .int .i64 0]) := sQuo h.num h.den h'.num h'.den (by rw [h'.eq]; exact h0) (by rw [h.eq, h'.eq]; exact e)
theorem tQuo0 (h : IsJ l l' p) (h' : IsJ k k' q) (h0 : q = 0) : Ret 86 #[(Value.agg #[Value.string ⟨List.toArray l⟩, Value.string ⟨List.toArray l'⟩]), (Value.agg #[Value.string ⟨List.toArray k⟩, Value.string ⟨List.toArray k'⟩])] (.tuple #[.agg #[.string ⟨#[]⟩, .string ⟨#[]⟩], .int .i64 10]) := sQuo0 h.num h.den h'.num h'.den (by rw [h'.eq]; exact h0)
theorem tCompare (h : IsJ l l' p) (h' : IsJ k k' q) {c : Int} (e : cmpQ p q = c) : Ret 147 #[(Value.agg #[Value.string ⟨List.toArray l⟩, Value.string ⟨List.toArray l'⟩]), (Value.agg #[Value.string ⟨List.toArray k⟩, Value.string ⟨List.toArray k'⟩])] (.int .i64 c) := sCompare h.num h.den h'.num h'.den (by rw [h.eq, h'.eq]; exact e)
theorem isj_zero : IsJ [] [] 0 := ⟨by decide, by decide, by decide +kernel⟩
end
theorem one_div (z : Int) : Rat.divInt z 1 = (z : Rat) := Rat.num_divInt_den (z : Rat)
theorem tOf {l : List UInt8} (hl : l.length ≤ 3900) {z : Int} (e : val l = z) : Ret 89 #[.string ⟨l.toArray⟩] (Value.agg #[Value.string ⟨List.toArray (fN ((z : Rat)))⟩, Value.string ⟨List.toArray (fD ((z : Rat)))⟩]) := sOf hl (by rw [e]; exact one_div z)
def posB (r : Fp2) : Bool := decide (0 < fv r.1 r.2)
set_option maxHeartbeats 2000000 in
set_option maxRecDepth 100000 in
theorem jCanonL (A : Option Addr) (rs : List Fp2) (n c : Nat) (w : World) (hG : Glob w) (hn : rs.length = n) (hn2 : n ≤ 1000000000) (h : FrAt w A rs) (hl : ∀ r ∈ rs, r.1.length ≤ 900 ∧ r.2.length ≤ 900) :
    Calls Tryz.prog 82 #[.slice A n c] w fun e w' => e = .returned (.bool (rs.all canB)) ∧ Below w.heap.size w w' := by
  have HI := Lib.hid h
  have HS := Lib.hid hl
  have hn1 : rs.length ≤ n := by omega
  have hn3 : n ≤ rs.length := by omega
  clear h hl hn
  go_enter Tryz.func82, Tryz.ntmps82
  go_wp2_with fail
  go_loopw [3] (fun iv wr => ∃ k : Nat, k ≤ n ∧ iv = .int .i64 (k : Int) ∧ Hid (rs.all canB = (rs.drop k).all canB) ∧ Below w.heap.size w wr) (fun iv _ => n - (intOf iv).toNat)
  case atStart => exact ⟨0, Nat.zero_le _, rfl, rfl, Below.refl _ _⟩
  case round =>
    obtain ⟨k, hk, rfl, HK, hb⟩ := hrel
    by_cases hlt : k < n
    · obtain ⟨x, hx⟩ : ∃ x, rs[k]? = some x := ⟨_, List.getElem?_eq_getElem (by omega)⟩
      obtain ⟨b, o, rfl, hbs, p0, p1⟩ := (HI.out.below hb) k x hx
      have hd : rs.drop k = x :: rs.drop (k + 1) := by
        obtain ⟨hk2, rfl⟩ := List.getElem?_eq_some_iff.1 hx
        exact List.drop_eq_getElem_cons hk2
      have HD := Lib.hid hd
      have hxl := HS.out x (List.mem_of_getElem? hx)
      have c1 := sCheck (l := x.1) (l' := x.2) (q := fv x.1 x.2) (Nat.le_trans hxl.1 (by decide)) (Nat.le_trans hxl.2 (by decide)) rfl (c := if (x.1 = fN (fv x.1 x.2) ∧ x.2 = fD (fv x.1 x.2)) then 0 else 1) rfl
      by_cases g : canB x = true
      · have g2 := canB_eq g
        rw [if_pos g2] at c1
        have C1 := Lib.hid c1
        have HV : Hid (rs.all canB = (rs.drop (k + 1)).all canB) := by show _ = _; rw [HK.out, HD.out, List.all_cons, g]; rfl
        clear g g2 c1
        clear hd hx hxl
        go_wp2_with fail
        ((with_reducible refine (C1.out.of hG hb).mono ?_); rintro e w2 ⟨rfl, hb2⟩)
        replace hb := bto hb hb2
        clear hb2 C1 p0 p1 HK HD
        go_wp2
        go_roundw
        case rel => exact ⟨k + 1, by omega, by go_num, HV, hb⟩
        case measure => simp [intOf]; omega
      · rw [if_neg (fun h => g (decide_eq_true h))] at c1
        have C1 := Lib.hid c1
        have HV : Hid (rs.all canB = false) := by show _ = _; rw [HK.out, HD.out, List.all_cons, not_true_b g]; rfl
        clear g c1
        clear hd hx hxl
        go_wp2_with fail
        ((with_reducible refine (C1.out.of hG hb).mono ?_); rintro e w2 ⟨rfl, hb2⟩)
        replace hb := bto hb hb2
        clear hb2 C1 p0 p1 HK HD
        go_wp2
        go_ret
        exact ⟨retb HV.out.symm, hb⟩
    · have HV : Hid (rs.all canB = true) := by show _ = _; rw [HK.out, List.drop_of_length_le (by omega)]; rfl
      go_wp2
      go_ret
      exact ⟨retb HV.out.symm, hb⟩
set_option maxHeartbeats 2000000 in
set_option maxRecDepth 100000 in
theorem jPosL (A : Option Addr) (rs : List Fp2) (n c : Nat) (w : World) (hG : Glob w) (hn : rs.length = n) (hn2 : n ≤ 1000000000) (h : FrAt w A rs) (hl : ∀ r ∈ rs, r.1.length ≤ 900 ∧ r.2.length ≤ 900) :
    Calls Tryz.prog 84 #[.slice A n c] w fun e w' => e = .returned (.bool (rs.all posB)) ∧ Below w.heap.size w w' := by
  have HI := Lib.hid h
  have HS := Lib.hid hl
  have hn1 : rs.length ≤ n := by omega
  have hn3 : n ≤ rs.length := by omega
  clear h hl hn
  go_enter Tryz.func84, Tryz.ntmps84
  go_wp2_with fail
  go_loopw [3] (fun iv wr => ∃ k : Nat, k ≤ n ∧ iv = .int .i64 (k : Int) ∧ Hid (rs.all posB = (rs.drop k).all posB) ∧ Below w.heap.size w wr) (fun iv _ => n - (intOf iv).toNat)
  case atStart => exact ⟨0, Nat.zero_le _, rfl, rfl, Below.refl _ _⟩
  case round =>
    obtain ⟨k, hk, rfl, HK, hb⟩ := hrel
    by_cases hlt : k < n
    · obtain ⟨x, hx⟩ : ∃ x, rs[k]? = some x := ⟨_, List.getElem?_eq_getElem (by omega)⟩
      obtain ⟨b, o, rfl, hbs, p0, p1⟩ := (HI.out.below hb) k x hx
      have hd : rs.drop k = x :: rs.drop (k + 1) := by
        obtain ⟨hk2, rfl⟩ := List.getElem?_eq_some_iff.1 hx
        exact List.drop_eq_getElem_cons hk2
      have HD := Lib.hid hd
      have hxl := HS.out x (List.mem_of_getElem? hx)
      obtain ⟨kc, ek⟩ : ∃ c, cmpQ (fv x.1 x.2) 0 = c := ⟨_, rfl⟩
      have C1 := Lib.hid (tCompare (isj_raw hxl.1 hxl.2) isj_zero ek)
      have HE := Lib.hid (cmpQ_sgn ek)
      clear ek
      by_cases g : kc ≤ 0
      · have e1 : decide (kc ≤ 0) = true := decide_eq_true g
        have HV : Hid (rs.all posB = false) := by show _ = _; rw [HK.out, HD.out, List.all_cons, show posB x = false from decide_eq_false (Rat.not_lt.2 (HE.out.1.1 g))]; rfl
        clear g HE
        clear hd hx hxl
        go_wp2_with fail
        ((with_reducible refine (C1.out.of hG hb).mono ?_); rintro e w2 ⟨rfl, hb2⟩)
        replace hb := bto hb hb2
        clear hb2 C1 p0 p1 HK HD
        go_wp2
        go_ret
        exact ⟨retb HV.out.symm, hb⟩
      · have e1 : decide (kc ≤ 0) = false := decide_eq_false g
        have HV : Hid (rs.all posB = (rs.drop (k + 1)).all posB) := by show _ = _; rw [HK.out, HD.out, List.all_cons, show posB x = true from decide_eq_true (Rat.not_le.1 (fun h => g (HE.out.1.2 h)))]; rfl
        clear g HE
        clear hd hx hxl
        go_wp2_with fail
        ((with_reducible refine (C1.out.of hG hb).mono ?_); rintro e w2 ⟨rfl, hb2⟩)
        replace hb := bto hb hb2
        clear hb2 C1 p0 p1 HK HD
        go_wp2
        go_roundw
        case rel => exact ⟨k + 1, by omega, by go_num, HV, hb⟩
        case measure => simp [intOf]; omega
    · have HV : Hid (rs.all posB = true) := by show _ = _; rw [HK.out, List.drop_of_length_le (by omega)]; rfl
      go_wp2
      go_ret
      exact ⟨retb HV.out.symm, hb⟩
set_option maxHeartbeats 1000000 in
set_option maxRecDepth 100000 in
theorem jNegative {l l' : List UInt8} {q : Rat} (h : IsJ l l' q) : Ret 83 #[(Value.agg #[Value.string ⟨List.toArray l⟩, Value.string ⟨List.toArray l'⟩])] (.bool (decide (q < 0))) := fun w hG => by
  obtain ⟨kc, ek⟩ : ∃ c, cmpQ q 0 = c := ⟨_, rfl⟩
  have C1 := Lib.hid (tCompare h isj_zero ek)
  have HV : Hid (decide (kc < 0) = decide (q < 0)) := by show _ = _; rw [decide_eq_decide]; exact (cmpQ_sgn ek).2.1
  have x1 := FBox.new w (.string ⟨l.toArray⟩) (.string ⟨l'.toArray⟩) 25
  have hb := below_alloc w (.cells #[.string ⟨l.toArray⟩, .string ⟨l'.toArray⟩] 25)
  have q0 := x1.c0
  have q1 := x1.c1
  clear h ek
  go_enter Tryz.func83, Tryz.ntmps83
  go_wp2_with fail
  ((with_reducible refine (C1.out.of hG hb).mono ?_); rintro e w2 ⟨rfl, hb2⟩)
  replace hb := bto hb hb2
  clear hb2 C1 x1 q0 q1
  go_wp2
  go_ret
  exact ⟨retb HV.out, hb⟩
set_option maxHeartbeats 2000000 in
set_option maxRecDepth 100000 in
theorem jGrow {l l' m m' : List UInt8} {p q r : Rat} {k : Nat} (h : IsJ l l' p) (h' : IsJ m m' q) (b : Bd k (p * q)) (hk : k ≤ 890) (er : 1 + p * q = r) : Ret 85 #[(Value.agg #[Value.string ⟨List.toArray l⟩, Value.string ⟨List.toArray l'⟩]), (Value.agg #[Value.string ⟨List.toArray m⟩, Value.string ⟨List.toArray m'⟩])] (Value.agg #[Value.string ⟨List.toArray (fN r)⟩, Value.string ⟨List.toArray (fD r)⟩]) := fun w hG => by
  have c1 := tOf (l := [49]) (by decide) (show val [49] = 1 by decide)
  have c2 := tMul h h' rfl
  have c3 := tAdd (isj_fr (q := ((1 : Int) : Rat)) (k := 1) (by constructor <;> decide) (by decide)) (isj_fr b (by omega)) er
  generalize fN (p * q) = M at *
  generalize fD (p * q) = E at *
  generalize fN ((1 : Int) : Rat) = M1 at *
  generalize fD ((1 : Int) : Rat) = E1 at *
  generalize fN r = N at *
  generalize fD r = D at *
  have C1 := Lib.hid c1
  have C2 := Lib.hid c2
  have C3 := Lib.hid c3
  have x2 := FBox.new w (.string ⟨l.toArray⟩) (.string ⟨l'.toArray⟩) 25
  have hb0 := below_alloc w (.cells #[.string ⟨l.toArray⟩, .string ⟨l'.toArray⟩] 25)
  obtain ⟨w1, hw1⟩ : ∃ w1, w1 = w.alloc (.cells #[.string ⟨l.toArray⟩, .string ⟨l'.toArray⟩] 25) := ⟨_, rfl⟩
  have hsz1 : w.heap.size + 1 = w1.heap.size := by rw [hw1]; exact (World.size_alloc _ _).symm
  rw [← hw1] at x2 hb0
  have x3 := FBox.new w1 (.string ⟨m.toArray⟩) (.string ⟨m'.toArray⟩) 25
  have hb1 := below_alloc w1 (.cells #[.string ⟨m.toArray⟩, .string ⟨m'.toArray⟩] 25)
  obtain ⟨w0, hw0⟩ : ∃ w0, w0 = w1.alloc (.cells #[.string ⟨m.toArray⟩, .string ⟨m'.toArray⟩] 25) := ⟨_, rfl⟩
  have hsz2 : w1.heap.size + 1 = w0.heap.size := by rw [hw0]; exact (World.size_alloc _ _).symm
  rw [← hw0] at x3 hb1
  replace x2 := x2.below hb1
  replace hb0 := bto hb0 hb1
  have hb1 := below_alloc w0 (.cells #[.string ⟨#[]⟩, .string ⟨#[]⟩] 25)
  have hbx := heap_alloc_new w0 (.cells #[.string ⟨#[]⟩, .string ⟨#[]⟩] 25)
  have HW1 := Lib.hid hw1
  have HW0 := Lib.hid hw0
  clear c1 c2 c3 er h h' b hw1 hw0
  go_enter Tryz.func85, Tryz.ntmps85
  go_wp2_with fail
  rw [← HW1.out]
  (try rw [hsz1])
  rw [← HW0.out]
  (try rw [hsz2])
  refine wp_region_kept_at 6 w0.heap.size 4 _ (by kernel_rfl) (by kernel_rfl) (by decide) hb1 (Nat.le_refl _) hbx rfl ?_
  simp only [Act.put, List.setIfInBounds_toArray, List.set_cons_zero, List.set_cons_succ]
  clear hbx hsz1 hsz2
  refine kept_call _ _ _ (fun _ => rfl) (fun ρ w hw => by go_simp; first | done | with_reducible rfl) (fun w hw => C1.out.of hG (bto hb0 hw)) ?_
  simp only [Act.put, List.setIfInBounds_toArray, List.set_cons_zero, List.set_cons_succ, Nat.reduceAdd]
  refine kept_val _ (fun _ => rfl) (fun ρ w hw => by have q0 := (x2.below hw).c0; have q1 := (x2.below hw).c1; go_simp; first | done | with_reducible rfl) ?_
  simp only [Act.put, List.setIfInBounds_toArray, List.set_cons_zero, List.set_cons_succ, Nat.reduceAdd]
  refine kept_val _ (fun _ => rfl) (fun ρ w hw => by have q0 := (x3.below hw).c0; have q1 := (x3.below hw).c1; go_simp; first | done | with_reducible rfl) ?_
  simp only [Act.put, List.setIfInBounds_toArray, List.set_cons_zero, List.set_cons_succ, Nat.reduceAdd]
  refine kept_call _ _ _ (fun _ => rfl) (fun ρ w hw => by go_simp; first | done | with_reducible rfl) (fun w hw => C2.out.of hG (bto hb0 hw)) ?_
  simp only [Act.put, List.setIfInBounds_toArray, List.set_cons_zero, List.set_cons_succ, Nat.reduceAdd]
  refine kept_call _ _ _ (fun _ => rfl) (fun ρ w hw => by go_simp; first | done | with_reducible rfl) (fun w hw => C3.out.of hG (bto hb0 hw)) ?_
  simp only [Act.put, List.setIfInBounds_toArray, List.set_cons_zero, List.set_cons_succ, Nat.reduceAdd]
  refine kept_putK 6 _ _ _ _ _ rfl rfl (fun _ => rfl) (fun ρ w hw q0 q1 q2 q3 => by go_simp; first | done | with_reducible rfl) ?_
  simp only [Act.put, Nat.reduceAdd]
  refine kept_end (fun ρ w3 hF => ?_)
  have hb := bto hb0 hF.below
  have x4 := FBox.ofB (hF.box 6 _ _ rfl).2
  generalize ρ 6 = b4 at *
  clear hF
  have d0 := x4.c0
  have d1 := x4.c1
  go_wp2
  refine bodyPost_ret (v := .agg #[.string ⟨N.toArray⟩, .string ⟨D.toArray⟩]) (by simp [results, Tryz.results85, go_sem, d0, d1]) rfl ?_
  exact ⟨rfl, hb⟩
end Go.Proofs.YtgnppdkeiihlfaaGreatDoor
