/- Texts put together: Mp Mz Mr Bq Br Tr Bt Ms Pw Wa Ws. -/
import Derived.Test.YtgnppdkeiihlfaaGreatDoorG2
import Derived.Test.YtgnppdkeiihlfaaGreatDoorGBk
import Derived.Test.YtgnppdkeiihlfaaGreatDoorGBd
import Derived.Test.YtgnppdkeiihlfaaGreatDoorGCd
import Derived.Shelf.SlicesE.Clone
import Derived.Laws.StructEq
import Derived.OrdersIn
import Derived.TacticsIn
import Derived.RangeFuncBox
import Derived.OwnWalkIn
import Derived.TacticsInMore
import Derived.RegionIn
import Derived.LoopNIn
import Derived.LoopIn
namespace Go.Proofs.YtgnppdkeiihlfaaGreatDoor
open Num Go.Op
structure Mon where
  cur : List UInt8
  amt : List UInt8
theorem mon_eq {x y : Mon} (h1 : x.cur = y.cur) (h2 : x.amt = y.amt) : x = y := by
  cases x; cases y; simp at h1 h2; rw [h1, h2]
theorem ltS_irr : ∀ a : List UInt8, bytesLess a a = false
  | [] => rfl
  | a :: x => by
    have h := ltS_irr x
    simp [bytesLess, h]
theorem ltS_nil (b : List UInt8) : bytesLess b [] = false := by cases b <;> rfl
theorem ltS_cons {a b : UInt8} {x y : List UInt8} : bytesLess (a :: x) (b :: y) = true ↔ a < b ∨ (a = b ∧ bytesLess x y = true) := by simp [bytesLess]
theorem ltS_trans : ∀ {a b c : List UInt8}, bytesLess a b = true → bytesLess b c = true → bytesLess a c = true
  | _, _, [], _, h2 => by rw [ltS_nil] at h2; cases h2
  | _, [], _ :: _, h1, _ => by rw [ltS_nil] at h1; cases h1
  | [], _ :: _, _ :: _, _, _ => rfl
  | a :: x, b :: y, c :: z, h1, h2 => by
    rw [ltS_cons] at *
    rcases h1 with h1 | ⟨rfl, h1⟩
    · rcases h2 with h2 | ⟨rfl, h2⟩
      · exact .inl (UInt8.lt_trans h1 h2)
      · exact .inl h1
    · rcases h2 with h2 | ⟨rfl, h2⟩
      · exact .inl h2
      · exact .inr ⟨rfl, ltS_trans h1 h2⟩
theorem ltS_tri : ∀ a b : List UInt8, bytesLess a b = true ∨ a = b ∨ bytesLess b a = true
  | [], [] => .inr (.inl rfl)
  | [], _ :: _ => .inl rfl
  | _ :: _, [] => .inr (.inr rfl)
  | a :: x, b :: y => by
    rw [ltS_cons, ltS_cons]
    rcases Nat.lt_trichotomy a.toNat b.toNat with h | h | h
    · exact .inl (.inl (UInt8.lt_iff_toNat_lt.2 h))
    · obtain rfl := UInt8.toNat_inj.1 h
      rcases ltS_tri x y with h | h | h
      · exact .inl (.inr ⟨rfl, h⟩)
      · exact .inr (.inl (by rw [h]))
      · exact .inr (.inr (.inr ⟨rfl, h⟩))
    · exact .inr (.inr (.inl (UInt8.lt_iff_toNat_lt.2 h)))
theorem ltS_ne {a b : List UInt8} (h : bytesLess a b = true) : a ≠ b := fun e => by rw [e, ltS_irr] at h; cases h
theorem ltS_asym {a b : List UInt8} (h : bytesLess a b = true) : bytesLess b a = false := by
  cases h2 : bytesLess b a with
  | false => rfl
  | true => have := ltS_trans h h2; rw [ltS_irr] at this; cases this
def Srt (xs : List Mon) : Prop := xs.Pairwise (fun x y => bytesLess x.cur y.cur = true)
def Can (xs : List Mon) : Prop := ∀ x ∈ xs, x.amt = canon (val x.amt) ∧ x.amt ≠ []
def zAt : List Mon → List UInt8 → Int
  | [], _ => 0
  | x :: r, c => if x.cur = c then val x.amt else zAt r c
theorem zAt_no : ∀ {xs : List Mon} {c : List UInt8}, (∀ x ∈ xs, x.cur ≠ c) → zAt xs c = 0
  | [], _, _ => rfl
  | x :: r, c, h => by
    show (if x.cur = c then val x.amt else zAt r c) = 0
    rw [if_neg (h x (List.mem_cons_self ..))]
    exact zAt_no fun y hy => h y (List.mem_cons_of_mem _ hy)
theorem srt_tail {x : Mon} {r : List Mon} (h : Srt (x :: r)) : Srt r := (List.pairwise_cons.1 h).2
theorem srt_head {x : Mon} {r : List Mon} (h : Srt (x :: r)) : ∀ y ∈ r, bytesLess x.cur y.cur = true := (List.pairwise_cons.1 h).1
theorem can_tail {x : Mon} {r : List Mon} (h : Can (x :: r)) : Can r := fun y hy => h y (List.mem_cons_of_mem _ hy)
theorem zAt_low {x : Mon} {r : List Mon} {c : List UInt8} (h : Srt (x :: r)) (hc : bytesLess c x.cur = true) : zAt (x :: r) c = 0 := by
  refine zAt_no fun y hy => ?_
  rcases List.mem_cons.1 hy with rfl | hy
  · exact (ltS_ne hc).symm
  · exact (ltS_ne (ltS_trans hc (srt_head h y hy))).symm
theorem zAt_tail {x : Mon} {r : List Mon} (h : Srt (x :: r)) : zAt r x.cur = 0 := zAt_no fun y hy => (ltS_ne (srt_head h y hy)).symm
theorem val_ne {l : List UInt8} (hc : l = canon (val l)) (h : l ≠ []) : val l ≠ 0 := fun e => h (by rw [hc, e]; rfl)
theorem bag_ext : ∀ {xs ys : List Mon}, Srt xs → Srt ys → Can xs → Can ys → (∀ c, zAt xs c = zAt ys c) → xs = ys
  | [], [], _, _, _, _, _ => rfl
  | [], y :: s, _, _, _, h, he => by
    have h1 := he y.cur
    have h2 := h y (List.mem_cons_self ..)
    simp only [zAt, if_pos] at h1
    exact absurd h1.symm (val_ne h2.1 h2.2)
  | x :: r, [], _, _, h, _, he => by
    have h1 := he x.cur
    have h2 := h x (List.mem_cons_self ..)
    simp only [zAt, if_pos] at h1
    exact absurd h1 (val_ne h2.1 h2.2)
  | x :: r, y :: s, hx, hy, cx, cy, he => by
    have h1 := cx x (List.mem_cons_self ..)
    have h2 := cy y (List.mem_cons_self ..)
    have hc : x.cur = y.cur := by
      rcases ltS_tri x.cur y.cur with h | h | h
      · have e := he x.cur
        rw [zAt_low hy h] at e
        simp only [zAt, if_pos] at e
        exact absurd e (val_ne h1.1 h1.2)
      · exact h
      · have e := he y.cur
        rw [zAt_low hx h] at e
        simp only [zAt, if_pos] at e
        exact absurd e.symm (val_ne h2.1 h2.2)
    have hv : x.amt = y.amt := by
      have e := he x.cur
      simp only [zAt, if_pos] at e
      rw [if_pos hc.symm] at e
      rw [h1.1, h2.1, e]
    have hr : r = s := by
      refine bag_ext (srt_tail hx) (srt_tail hy) (can_tail cx) (can_tail cy) fun c => ?_
      by_cases g : x.cur = c
      · rw [← g, zAt_tail hx, hc, zAt_tail hy]
      · have e := he c
        simp only [zAt, if_neg g] at e
        rw [if_neg (by rw [← hc]; exact g)] at e
        exact e
    rw [mon_eq hc hv, hr]
abbrev Yl := List UInt8 × List UInt8 × List UInt8
def bothM (x : Mon) (f : List Mon → List Yl) : List Mon → List Yl
  | [] => (x.cur, x.amt, []) :: f []
  | y :: s => if x.cur = y.cur then (x.cur, x.amt, y.amt) :: f s else if bytesLess x.cur y.cur = true then (x.cur, x.amt, []) :: f (y :: s) else (y.cur, [], y.amt) :: bothM x f s
def bothL : List Mon → List Mon → List Yl
  | [], b => b.map (fun y => (y.cur, [], y.amt))
  | x :: r, b => bothM x (bothL r) b
theorem both_nil (x : Mon) (r : List Mon) : bothL (x :: r) [] = (x.cur, x.amt, []) :: bothL r [] := rfl
theorem both_eq {x y : Mon} (h : x.cur = y.cur) (r s : List Mon) : bothL (x :: r) (y :: s) = (x.cur, x.amt, y.amt) :: bothL r s := by
  show bothM x (bothL r) (y :: s) = _
  rw [bothM, if_pos h]
theorem both_lt {x y : Mon} (h : bytesLess x.cur y.cur = true) (r s : List Mon) : bothL (x :: r) (y :: s) = (x.cur, x.amt, []) :: bothL r (y :: s) := by
  show bothM x (bothL r) (y :: s) = _
  rw [bothM, if_neg (ltS_ne h), if_pos h]
theorem both_gt {x y : Mon} (h : bytesLess y.cur x.cur = true) (r s : List Mon) : bothL (x :: r) (y :: s) = (y.cur, [], y.amt) :: bothL (x :: r) s := by
  show bothM x (bothL r) (y :: s) = _
  rw [bothM, if_neg (ltS_ne h).symm, if_neg (by rw [ltS_asym h]; decide)]
  rfl
def keepL : List Yl → List Mon
  | [] => []
  | y :: r => if val y.2.1 + val y.2.2 = 0 then keepL r else ⟨y.1, canon (val y.2.1 + val y.2.2)⟩ :: keepL r
def smL (a b : List Mon) : List Mon := keepL (bothL a b)
def zY : List Yl → List UInt8 → Int
  | [], _ => 0
  | y :: r, c => if y.1 = c then val y.2.1 + val y.2.2 else zY r c
def SrtY (ys : List Yl) : Prop := ys.Pairwise (fun x y => bytesLess x.1 y.1 = true)
structure BothOk (a b : List Mon) : Prop where
  srt : SrtY (bothL a b)
  key : ∀ y ∈ bothL a b, (∃ x ∈ a, x.cur = y.1) ∨ (∃ x ∈ b, x.cur = y.1)
  val : ∀ c, zY (bothL a b) c = zAt a c + zAt b c
theorem both_ok : ∀ a b : List Mon, Srt a → Srt b → BothOk a b
  | [], b, _, hb => by
    refine ⟨List.pairwise_map.2 hb, fun y hy => ?_, fun c => ?_⟩
    · obtain ⟨x, hx, rfl⟩ := List.mem_map.1 hy
      exact .inr ⟨x, hx, rfl⟩
    · show zY (b.map _) c = 0 + zAt b c
      rw [Int.zero_add]
      clear hb
      induction b with
      | nil => rfl
      | cons y s ih =>
        show (if y.cur = c then Num.val [] + Num.val y.amt else zY (s.map _) c) = if y.cur = c then Num.val y.amt else zAt s c
        rw [ih, val_nil, Int.zero_add]
  | x :: r, [], ha, hb => by
    have ih := both_ok r [] (srt_tail ha) hb
    rw [show BothOk (x :: r) [] = BothOk (x :: r) [] from rfl]
    refine ⟨?_, ?_, fun c => ?_⟩
    · rw [both_nil]
      refine List.pairwise_cons.2 ⟨fun y hy => ?_, ih.srt⟩
      rcases ih.key y hy with ⟨z, hz, e⟩ | ⟨z, hz, e⟩
      · rw [← e]; exact srt_head ha z hz
      · cases hz
    · rw [both_nil]
      intro y hy
      rcases List.mem_cons.1 hy with rfl | hy
      · exact .inl ⟨x, List.mem_cons_self .., rfl⟩
      · rcases ih.key y hy with ⟨z, hz, e⟩ | ⟨z, hz, e⟩
        · exact .inl ⟨z, List.mem_cons_of_mem _ hz, e⟩
        · cases hz
    · rw [both_nil]
      show (if x.cur = c then Num.val x.amt + Num.val [] else zY (bothL r []) c) = (if x.cur = c then Num.val x.amt else zAt r c) + 0
      rw [ih.val c, val_nil]
      split <;> simp [zAt]
  | x :: r, y :: s, ha, hb => by
    rcases ltS_tri x.cur y.cur with h | h | h
    · have ih := both_ok r (y :: s) (srt_tail ha) hb
      have e := both_lt h r s
      refine ⟨?_, ?_, fun c => ?_⟩
      · rw [e]
        refine List.pairwise_cons.2 ⟨fun u hu => ?_, ih.srt⟩
        rcases ih.key u hu with ⟨z, hz, e⟩ | ⟨z, hz, e⟩
        · rw [← e]; exact srt_head ha z hz
        · rw [← e]
          rcases List.mem_cons.1 hz with rfl | hz
          · exact h
          · exact ltS_trans h (srt_head hb z hz)
      · rw [e]
        intro u hu
        rcases List.mem_cons.1 hu with rfl | hu
        · exact .inl ⟨x, List.mem_cons_self .., rfl⟩
        · rcases ih.key u hu with ⟨z, hz, e⟩ | ⟨z, hz, e⟩
          · exact .inl ⟨z, List.mem_cons_of_mem _ hz, e⟩
          · exact .inr ⟨z, hz, e⟩
      · rw [e]
        show (if x.cur = c then Num.val x.amt + Num.val [] else zY (bothL r (y :: s)) c) = (if x.cur = c then Num.val x.amt else zAt r c) + zAt (y :: s) c
        rw [ih.val c, val_nil]
        by_cases g : x.cur = c
        · rw [if_pos g, if_pos g, ← g, zAt_low hb h]
        · rw [if_neg g, if_neg g]
    · have ih := both_ok r s (srt_tail ha) (srt_tail hb)
      have e := both_eq h r s
      refine ⟨?_, ?_, fun c => ?_⟩
      · rw [e]
        refine List.pairwise_cons.2 ⟨fun u hu => ?_, ih.srt⟩
        rcases ih.key u hu with ⟨z, hz, e⟩ | ⟨z, hz, e⟩
        · rw [← e]; exact srt_head ha z hz
        · rw [← e]; show bytesLess x.cur z.cur = true; rw [h]; exact srt_head hb z hz
      · rw [e]
        intro u hu
        rcases List.mem_cons.1 hu with rfl | hu
        · exact .inl ⟨x, List.mem_cons_self .., rfl⟩
        · rcases ih.key u hu with ⟨z, hz, e⟩ | ⟨z, hz, e⟩
          · exact .inl ⟨z, List.mem_cons_of_mem _ hz, e⟩
          · exact .inr ⟨z, List.mem_cons_of_mem _ hz, e⟩
      · rw [e]
        show (if x.cur = c then Num.val x.amt + Num.val y.amt else zY (bothL r s) c) = (if x.cur = c then Num.val x.amt else zAt r c) + (if y.cur = c then Num.val y.amt else zAt s c)
        rw [ih.val c, ← h]
        split <;> rfl
    · have ih := both_ok (x :: r) s ha (srt_tail hb)
      have e := both_gt h r s
      refine ⟨?_, ?_, fun c => ?_⟩
      · rw [e]
        refine List.pairwise_cons.2 ⟨fun u hu => ?_, ih.srt⟩
        rcases ih.key u hu with ⟨z, hz, e⟩ | ⟨z, hz, e⟩
        · rw [← e]
          rcases List.mem_cons.1 hz with rfl | hz
          · exact h
          · exact ltS_trans h (srt_head ha z hz)
        · rw [← e]; exact srt_head hb z hz
      · rw [e]
        intro u hu
        rcases List.mem_cons.1 hu with rfl | hu
        · exact .inr ⟨y, List.mem_cons_self .., rfl⟩
        · rcases ih.key u hu with ⟨z, hz, e⟩ | ⟨z, hz, e⟩
          · exact .inl ⟨z, hz, e⟩
          · exact .inr ⟨z, List.mem_cons_of_mem _ hz, e⟩
      · rw [e]
        show (if y.cur = c then Num.val [] + Num.val y.amt else zY (bothL (x :: r) s) c) = zAt (x :: r) c + (if y.cur = c then Num.val y.amt else zAt s c)
        rw [ih.val c, val_nil]
        by_cases g : y.cur = c
        · rw [if_pos g, if_pos g, ← g, zAt_low ha h]
        · rw [if_neg g, if_neg g]
theorem keep_key : ∀ {ys : List Yl} {x : Mon}, x ∈ keepL ys → ∃ y ∈ ys, y.1 = x.cur
  | y :: r, x, h => by
    unfold keepL at h
    split at h
    · obtain ⟨z, hz, e⟩ := keep_key h
      exact ⟨z, List.mem_cons_of_mem _ hz, e⟩
    · rcases List.mem_cons.1 h with rfl | h
      · exact ⟨y, List.mem_cons_self .., rfl⟩
      · obtain ⟨z, hz, e⟩ := keep_key h
        exact ⟨z, List.mem_cons_of_mem _ hz, e⟩
theorem keep_can : ∀ ys : List Yl, Can (keepL ys)
  | [] => fun x hx => by cases hx
  | y :: r => fun x hx => by
    unfold keepL at hx
    split at hx
    · exact keep_can r x hx
    · next h =>
      rcases List.mem_cons.1 hx with rfl | hx
      · exact ⟨by show canon _ = canon (Num.val (canon _)); rw [val_canon], fun e => h ((canon_eq_nil _).1 e)⟩
      · exact keep_can r x hx
theorem keep_srt : ∀ {ys : List Yl}, SrtY ys → Srt (keepL ys)
  | [], _ => List.Pairwise.nil
  | y :: r, h => by
    obtain ⟨h1, h2⟩ := List.pairwise_cons.1 h
    unfold keepL
    split
    · exact keep_srt h2
    · refine List.pairwise_cons.2 ⟨fun x hx => ?_, keep_srt h2⟩
      obtain ⟨z, hz, e⟩ := keep_key hx
      show bytesLess y.1 x.cur = true
      rw [← e]; exact h1 z hz
theorem keep_val : ∀ {ys : List Yl}, SrtY ys → ∀ c, zAt (keepL ys) c = zY ys c
  | [], _, _ => rfl
  | y :: r, h, c => by
    obtain ⟨h1, h2⟩ := List.pairwise_cons.1 h
    have ih := keep_val h2 c
    show zAt (if Num.val y.2.1 + Num.val y.2.2 = 0 then keepL r else ⟨y.1, canon (Num.val y.2.1 + Num.val y.2.2)⟩ :: keepL r) c = if y.1 = c then Num.val y.2.1 + Num.val y.2.2 else zY r c
    by_cases g : Num.val y.2.1 + Num.val y.2.2 = 0
    · rw [if_pos g]
      by_cases e : y.1 = c
      · rw [if_pos e, g]
        refine zAt_no fun x hx => ?_
        obtain ⟨z, hz, e2⟩ := keep_key hx
        rw [← e, ← e2]
        exact (ltS_ne (h1 z hz)).symm
      · rw [if_neg e]; exact ih
    · rw [if_neg g]
      show (if y.1 = c then Num.val (canon _) else zAt (keepL r) c) = _
      rw [val_canon, ih]
theorem sum_srt {a b : List Mon} (ha : Srt a) (hb : Srt b) : Srt (smL a b) := keep_srt (both_ok a b ha hb).srt
theorem sum_can (a b : List Mon) : Can (smL a b) := keep_can _
theorem sum_val {a b : List Mon} (ha : Srt a) (hb : Srt b) (c : List UInt8) : zAt (smL a b) c = zAt a c + zAt b c := (keep_val (both_ok a b ha hb).srt c).trans ((both_ok a b ha hb).val c)
theorem sum_key {a b : List Mon} (ha : Srt a) (hb : Srt b) {x : Mon} (hx : x ∈ smL a b) : (∃ y ∈ a, y.cur = x.cur) ∨ (∃ y ∈ b, y.cur = x.cur) := by
  obtain ⟨y, hy, e⟩ := keep_key hx
  rw [← e]; exact (both_ok a b ha hb).key y hy
def keepN (x : Mon) (l : List Mon) : List Mon := if x.amt = [] then l else x :: l
def withS (m : Mon) : Bool → List Mon → List Mon
  | d, [] => if d = true then [] else [m]
  | d, x :: r => if d = false ∧ bytesLess x.cur m.cur = false then (if x.cur = m.cur then keepN ⟨x.cur, canon (val x.amt + val m.amt)⟩ (withS m true r) else m :: keepN x (withS m true r)) else keepN x (withS m d r)
def withG (xs : List Mon) (m : Mon) : List Mon := withS m (m.amt == []) xs
theorem with_done (m : Mon) : ∀ {xs : List Mon}, Can xs → withS m true xs = xs
  | [], _ => rfl
  | x :: r, h => by
    unfold withS
    rw [if_neg (fun h => by cases h.1), with_done m (can_tail h)]
    unfold keepN
    rw [if_neg (h x (List.mem_cons_self ..)).2]
structure WithOk (xs : List Mon) (m : Mon) (W : List Mon) : Prop where
  srt : Srt W
  can : Can W
  key : ∀ y ∈ W, y.cur = m.cur ∨ ∃ x ∈ xs, x.cur = y.cur
  val : ∀ c, zAt W c = zAt xs c + if m.cur = c then val m.amt else 0
  len : W.length ≤ xs.length + 1
theorem can_cons {x : Mon} {r : List Mon} (h1 : x.amt = canon (val x.amt) ∧ x.amt ≠ []) (h : Can r) : Can (x :: r) := fun y hy => by
  rcases List.mem_cons.1 hy with rfl | hy
  · exact h1
  · exact h y hy
theorem with_not {m : Mon} (hm : m.amt = canon (val m.amt)) (h0 : m.amt ≠ []) : ∀ {xs : List Mon}, Srt xs → Can xs → WithOk xs m (withS m false xs)
  | [], _, _ => by
    refine ⟨List.pairwise_singleton _ _, can_cons ⟨hm, h0⟩ (fun x hx => by cases hx), fun y hy => ?_, fun c => ?_, Nat.le_refl _⟩
    · rcases List.mem_cons.1 hy with rfl | hy
      · exact .inl rfl
      · cases hy
    · show (if m.cur = c then Num.val m.amt else 0) = 0 + _
      rw [Int.zero_add]
  | x :: r, hs, hc => by
    have hx := hc x (List.mem_cons_self ..)
    have hr := can_tail hc
    rcases ltS_tri x.cur m.cur with h | h | h
    · have ih := with_not hm h0 (srt_tail hs) hr
      have e : withS m false (x :: r) = x :: withS m false r := by
        rw [withS, if_neg (fun g => by rw [h] at g; cases g.2)]
        unfold keepN
        rw [if_neg hx.2]
      rw [e]
      refine ⟨List.pairwise_cons.2 ⟨fun y hy => ?_, ih.srt⟩, can_cons hx ih.can, fun y hy => ?_, fun c => ?_, by simpa using ih.len⟩
      · rcases ih.key y hy with e | ⟨z, hz, e⟩
        · rw [e]; exact h
        · rw [← e]; exact srt_head hs z hz
      · rcases List.mem_cons.1 hy with rfl | hy
        · exact .inr ⟨y, List.mem_cons_self .., rfl⟩
        · rcases ih.key y hy with e | ⟨z, hz, e⟩
          · exact .inl e
          · exact .inr ⟨z, List.mem_cons_of_mem _ hz, e⟩
      · show (if x.cur = c then Num.val x.amt else zAt (withS m false r) c) = (if x.cur = c then Num.val x.amt else zAt r c) + _
        rw [ih.val c]
        by_cases g : x.cur = c
        · rw [if_pos g, if_pos g, if_neg (fun e => ltS_ne h (g.trans e.symm))]; simp
        · rw [if_neg g, if_neg g]
    · have e : withS m false (x :: r) = keepN ⟨x.cur, canon (Num.val x.amt + Num.val m.amt)⟩ r := by
        rw [withS, if_pos ⟨rfl, by rw [h]; exact ltS_irr _⟩, if_pos h, with_done m hr]
      rw [e]
      unfold keepN
      by_cases z : Num.val x.amt + Num.val m.amt = 0
      · rw [if_pos ((canon_eq_nil _).2 z)]
        refine ⟨srt_tail hs, hr, fun y hy => .inr ⟨y, List.mem_cons_of_mem _ hy, rfl⟩, fun c => ?_, by simp; omega⟩
        show zAt r c = (if x.cur = c then Num.val x.amt else zAt r c) + _
        by_cases g : x.cur = c
        · rw [if_pos g, if_pos (h.symm.trans g), z, ← g]; exact zAt_tail hs
        · rw [if_neg g, if_neg (fun e => g (h.trans e)), Int.add_zero]
      · have z2 : canon (Num.val x.amt + Num.val m.amt) ≠ [] := fun e => z ((canon_eq_nil _).1 e)
        rw [if_neg z2]
        refine ⟨List.pairwise_cons.2 ⟨fun y hy => srt_head hs y hy, srt_tail hs⟩, can_cons ⟨by show canon _ = canon (Num.val (canon _)); rw [val_canon], z2⟩ hr, fun y hy => ?_, fun c => ?_, by simp⟩
        · rcases List.mem_cons.1 hy with rfl | hy
          · exact .inl h
          · exact .inr ⟨y, List.mem_cons_of_mem _ hy, rfl⟩
        · show (if x.cur = c then Num.val (canon _) else zAt r c) = (if x.cur = c then Num.val x.amt else zAt r c) + _
          rw [val_canon]
          by_cases g : x.cur = c
          · rw [if_pos g, if_pos g, if_pos (h.symm.trans g)]
          · rw [if_neg g, if_neg g, if_neg (fun e => g (h.trans e)), Int.add_zero]
    · have e : withS m false (x :: r) = m :: x :: r := by
        rw [withS, if_pos ⟨rfl, ltS_asym h⟩, if_neg (ltS_ne h).symm, with_done m hr]
        unfold keepN
        rw [if_neg hx.2]
      rw [e]
      refine ⟨List.pairwise_cons.2 ⟨fun y hy => ?_, hs⟩, can_cons ⟨hm, h0⟩ hc, fun y hy => ?_, fun c => ?_, by simp⟩
      · rcases List.mem_cons.1 hy with rfl | hy
        · exact h
        · exact ltS_trans h (srt_head hs y hy)
      · rcases List.mem_cons.1 hy with rfl | hy
        · exact .inl rfl
        · exact .inr ⟨y, hy, rfl⟩
      · show (if m.cur = c then Num.val m.amt else zAt (x :: r) c) = _
        by_cases g : m.cur = c
        · rw [if_pos g, if_pos g, ← g, zAt_low hs h, Int.zero_add]
        · rw [if_neg g, if_neg g, Int.add_zero]
theorem with_ok {m : Mon} (hm : m.amt = canon (val m.amt)) {xs : List Mon} (hs : Srt xs) (hc : Can xs) : WithOk xs m (withG xs m) := by
  unfold withG
  by_cases h0 : m.amt = []
  · have e : (m.amt == []) = true := by rw [beq_iff_eq]; exact h0
    rw [e, with_done m hc]
    exact ⟨hs, hc, fun y hy => .inr ⟨y, hy, rfl⟩, fun c => by rw [h0, val_nil]; split <;> simp, by omega⟩
  · have e : (m.amt == []) = false := by rw [beq_eq_false_iff_ne]; exact h0
    rw [e]
    exact with_not hm h0 hs hc
theorem srt_one (m : Mon) : Srt [m] := List.pairwise_singleton _ _
theorem zAt_one (m : Mon) (c : List UInt8) : zAt [m] c = if m.cur = c then val m.amt else 0 := rfl
theorem with_sum {a : List Mon} {m : Mon} (h1 : Srt a) (h2 : Can a) (hm : m.amt = canon (val m.amt)) : withG a m = smL a [m] := by
  have w := with_ok hm h1 h2
  exact bag_ext w.srt (sum_srt h1 (srt_one m)) w.can (sum_can a [m]) fun c => by rw [w.val, sum_val h1 (srt_one m), zAt_one]
end Go.Proofs.YtgnppdkeiihlfaaGreatDoor
namespace Go.Proofs.YtgnppdkeiihlfaaGreatDoor
open Num Go.Op
structure Bag (xs : List Mon) : Prop where
  srt : Srt xs
  can : Can xs
theorem bag_nil : Bag [] := ⟨List.Pairwise.nil, fun x hx => by cases hx⟩
theorem both_len : ∀ a b : List Mon, (bothL a b).length ≤ a.length + b.length
  | [], b => by simp [bothL]
  | x :: r, b => by
    show (bothM x (bothL r) b).length ≤ _
    induction b with
    | nil =>
      have := both_len r []
      simp [bothM] at this ⊢; omega
    | cons y s ih =>
      unfold bothM
      split
      · have := both_len r s; simp; omega
      · split
        · have := both_len r (y :: s); simp at this ⊢; omega
        · simp at ih ⊢; omega
theorem keep_len : ∀ ys : List Yl, (keepL ys).length ≤ ys.length
  | [] => Nat.le_refl _
  | y :: r => by
    have := keep_len r
    unfold keepL
    split <;> simp <;> omega
theorem smL_len (a b : List Mon) : (smL a b).length ≤ a.length + b.length := Nat.le_trans (keep_len _) (both_len a b)
def AmtLt (k : Nat) (xs : List Mon) : Prop := ∀ x ∈ xs, (val x.amt).natAbs < 10 ^ k
theorem zAt_lt {k : Nat} : ∀ {xs : List Mon}, AmtLt k xs → ∀ c, (zAt xs c).natAbs < 10 ^ k
  | [], _, _ => Nat.pow_pos (by decide)
  | x :: r, h, c => by
    show (if x.cur = c then Num.val x.amt else zAt r c).natAbs < _
    split
    · exact h x (List.mem_cons_self ..)
    · exact zAt_lt (fun y hy => h y (List.mem_cons_of_mem _ hy)) c
theorem zAt_mem : ∀ {xs : List Mon}, Srt xs → ∀ x ∈ xs, zAt xs x.cur = val x.amt
  | x :: r, h, y, hy => by
    show (if x.cur = y.cur then Num.val x.amt else zAt r y.cur) = _
    rcases List.mem_cons.1 hy with rfl | hy
    · rw [if_pos rfl]
    · rw [if_neg (ltS_ne (srt_head h y hy))]; exact zAt_mem (srt_tail h) y hy
theorem sum_lt {k : Nat} {a b : List Mon} (ha : Srt a) (hb : Srt b) (h : AmtLt k a) (h' : AmtLt k b) : AmtLt (k + 1) (smL a b) := fun x hx => by
  have e := zAt_mem (sum_srt ha hb) x hx
  rw [sum_val ha hb] at e
  have h1 := zAt_lt h x.cur
  have h2 := zAt_lt h' x.cur
  rw [← e, Nat.pow_succ]
  omega
theorem one_srt (m : Mon) : Srt [m] := List.pairwise_singleton _ _
def putL (a : List Mon) (m : Mon) : List Mon := smL a [m]
theorem put_bag {a : List Mon} (h : Bag a) (m : Mon) : Bag (putL a m) := ⟨sum_srt h.srt (one_srt m), sum_can _ _⟩
theorem put_lt {k : Nat} {a : List Mon} (h : Bag a) (h1 : AmtLt k a) {m : Mon} (hm : (val m.amt).natAbs < 10 ^ k) : AmtLt (k + 1) (putL a m) :=
  sum_lt h.srt (one_srt m) h1 (fun x hx => by rw [List.mem_singleton.1 hx]; exact hm)
theorem can_len {k : Nat} {xs : List Mon} (h : Can xs) (h2 : AmtLt k xs) : ∀ x ∈ xs, x.amt.length ≤ k + 1 := fun x hx => by
  rw [(h x hx).1]; exact canon_len_le _ _ (h2 x hx)
end Go.Proofs.YtgnppdkeiihlfaaGreatDoor
namespace Go.Proofs
open Go.Shelf
end Go.Proofs
namespace Go.Proofs.YtgnppdkeiihlfaaGreatDoor
open Go.RowKit Num
def CRow (w : World) (g : Nat) (ty : TypeId) (cs : List Value) : Prop := ∃ cur : Array Value, w.heap[g]? = some (.cells cur ty (0, 0)) ∧ cur.toList.take cs.length = cs ∧ cs.length ≤ cur.size
section
variable {w w' : World} {g b i : Nat} {ty : TypeId} {cs : List Value} {u v : Value}
theorem CRow.lt (h : CRow w g ty cs) : g < w.heap.size := by obtain ⟨cur, h, -⟩ := h; exact (Array.getElem?_eq_some_iff.1 h).1
theorem CRow.cell (h : CRow w g ty cs) (hx : cs[i]? = some v) : w.cell? ⟨g, i, none⟩ = some v := by
  obtain ⟨cur, hh, ht, hs⟩ := h
  have hi := (List.getElem?_eq_some_iff.1 hx).1
  rw [blk_cell hh, ← hx, ← ht, List.getElem?_take, if_pos hi, Array.getElem?_toList]
end
def MonAt (w : World) (A : Option Addr) (ts : List Mon) : Prop := ∀ i t, ts[i]? = some t → ∃ b o, A = some ⟨b, o, none⟩ ∧ b < w.heap.size ∧ w.cell? ⟨b, o + i * 2, none⟩ = some (.string ⟨t.cur.toArray⟩) ∧ w.cell? ⟨b, o + i * 2 + 1, none⟩ = some (.string ⟨t.amt.toArray⟩)
theorem MonAt.below {w w' : World} {A : Option Addr} {ts : List Mon} (h : MonAt w A ts) (hb : Below w.heap.size w w') : MonAt w' A ts := fun i t ht => by
  obtain ⟨b, o, h0, h1, h2, h3⟩ := h i t ht
  exact ⟨b, o, h0, Nat.lt_of_lt_of_le h1 hb.size, (hb.cell (p := ⟨b, o + i * 2, none⟩) h1).trans h2, (hb.cell (p := ⟨b, o + i * 2 + 1, none⟩) h1).trans h3⟩
def rowsM (xs : List Mon) : List Value := xs.flatMap (fun t => [.string ⟨t.cur.toArray⟩, .string ⟨t.amt.toArray⟩])
theorem rowsM_cons (t : Mon) (xs : List Mon) : rowsM (t :: xs) = .string ⟨t.cur.toArray⟩ :: .string ⟨t.amt.toArray⟩ :: rowsM xs := rfl
theorem rowsM_len : ∀ xs : List Mon, (rowsM xs).length = xs.length * 2
  | [] => rfl
  | x :: xs => by rw [rowsM_cons]; simp only [List.length_cons]; rw [rowsM_len xs]; omega
theorem rowsM_app (xs ys : List Mon) : rowsM (xs ++ ys) = rowsM xs ++ rowsM ys := List.flatMap_append
theorem rowsM_at : ∀ {xs : List Mon} {i : Nat} {t : Mon}, xs[i]? = some t → (rowsM xs)[i * 2]? = some (.string ⟨t.cur.toArray⟩) ∧ (rowsM xs)[i * 2 + 1]? = some (.string ⟨t.amt.toArray⟩)
  | [], i, x, h => by simp at h
  | y :: xs, 0, x, h => by
    have : y = x := by simpa using h
    subst this; exact ⟨rfl, rfl⟩
  | y :: xs, i + 1, x, h => by
    have hh := rowsM_at (xs := xs) (i := i) (t := x) (by simpa using h)
    rw [rowsM_cons, show (i + 1) * 2 = i * 2 + 1 + 1 by omega]
    simpa [Nat.add_right_comm, Nat.add_assoc] using hh
theorem crow_mon {w : World} {g : Nat} {ty : TypeId} {xs : List Mon} (h : CRow w g ty (rowsM xs)) : MonAt w (some ⟨g, 0, none⟩) xs := fun i t ht => by
  obtain ⟨h0, h1⟩ := rowsM_at ht
  exact ⟨g, 0, rfl, h.lt, by rw [Nat.zero_add]; exact h.cell h0, by rw [Nat.zero_add]; exact h.cell h1⟩
theorem info_mon : (Tryz.prog.info? 48).map (fun i => (i.zero, i.size, i.bytes)) = some (some (.agg #[.string ⟨#[]⟩, .string ⟨#[]⟩]), 2, 32) := by kernel_rfl
theorem eqf_step {P : Program} {w : World} {d : Nat} {xs ys : Array Value} {f : Field} {fs : List Field} {a b : Value} {r B : Bool} (hn : f.name ≠ "_") (h1 : (part f.type xs f.offset).run P w = .ok a w) (h2 : (part f.type ys f.offset).run P w = .ok b w) (h3 : (Op.equalIn d f.type a b).run P w = .ok r w) (h4 : (Op.eqFields d xs ys fs).run P w = .ok B w) :
    (Op.eqFields d xs ys (f :: fs)).run P w = .ok (r && B) w := by
  unfold Op.eqFields
  rw [if_pos hn]
  simp only [Sem.run_bind, h1, h2, h3, Result.andThen_ok]
  cases r
  · simp
  · simp [h4]
theorem eqf_nil {P : Program} {w : World} {d : Nat} {xs ys : Array Value} : (Op.eqFields d xs ys []).run P w = .ok true w := by unfold Op.eqFields; simp
def sameM (x y : Mon) : Bool := (x.cur == y.cur) && ((x.amt == y.amt) && true)
set_option maxRecDepth 100000 in
theorem eqM1 (x y : Mon) (w : World) : (Op.equalIn 10000 48 (.agg #[.string ⟨x.cur.toArray⟩, .string ⟨x.amt.toArray⟩]) (.agg #[.string ⟨y.cur.toArray⟩, .string ⟨y.amt.toArray⟩])).run Tryz.prog w = .ok (sameM x y) w := by
  have hS : Tryz.prog.underlying 48 = some (.struct (Tryz.prog.fieldsOf 48)) := by kernel_rfl
  have hp : Tryz.prog.stoodInHeld 48 = false := by kernel_rfl
  rw [show (10000 : Nat) = 9999 + 1 from rfl, run_equalIn_agg w 9999 48 _ _ hS hp]
  simp only [Program.fieldsOf, Tryz.underlying48]
  unfold sameM
  exact (eqf_step (by decide) (a := .string ⟨x.cur.toArray⟩) (b := .string ⟨y.cur.toArray⟩) (by go_simp) (by go_simp) (by rw [run_equalIn_string w 9998 _ _ _ Tryz.underlying9]; simp) (eqf_step (by decide) (a := .string ⟨x.amt.toArray⟩) (b := .string ⟨y.amt.toArray⟩) (by go_simp) (by go_simp) (by rw [run_equalIn_string w 9998 _ _ _ Tryz.underlying23]; simp) eqf_nil))
theorem guardM : Tryz.prog.eqGuardType Tryz.prog.depth 48 = false := by kernel_rfl
def sameMs : List Mon → List Mon → Bool
  | [], [] => true
  | x :: xs, y :: ys => sameM x y && sameMs xs ys
  | _, _ => false
theorem sameMs_len : ∀ {xs ys : List Mon}, xs.length ≠ ys.length → sameMs xs ys = false
  | [], [], h => absurd rfl h
  | [], _ :: _, _ => rfl
  | _ :: _, [], _ => rfl
  | x :: xs, y :: ys, h => by
    have : sameMs xs ys = false := sameMs_len (fun e => h (by simp [e]))
    simp [sameMs, this]
theorem sameMs_self : ∀ xs : List Mon, sameMs xs xs = true
  | [] => rfl
  | x :: xs => by simp [sameMs, sameM, sameMs_self xs]
theorem sameMs_drop {xs ys : List Mon} {k : Nat} {x y : Mon} (hx : xs[k]? = some x) (hy : ys[k]? = some y) : sameMs (xs.drop k) (ys.drop k) = (sameM x y && sameMs (xs.drop (k + 1)) (ys.drop (k + 1))) := by
  obtain ⟨h1, rfl⟩ := List.getElem?_eq_some_iff.1 hx
  obtain ⟨h2, rfl⟩ := List.getElem?_eq_some_iff.1 hy
  rw [List.drop_eq_getElem_cons h1, List.drop_eq_getElem_cons h2]; rfl
set_option maxHeartbeats 4000000 in
set_option maxRecDepth 100000 in
theorem eqMs (A B : Option Addr) (xs ys : List Mon) (n m c c' : Nat) (w : World) (hn : xs.length = n) (hm : ys.length = m) (hn2 : n ≤ 1000000000) (hm2 : m ≤ 1000000000) (h : MonAt w A xs) (h' : MonAt w B ys) :
    Calls Tryz.prog 26 #[.slice A n c, .slice B m c'] w fun e w' => e = .returned (.bool (sameMs xs ys)) ∧ Below w.heap.size w w' := by
  by_cases hnm : n = m
  rotate_left
  · have HV : Hid (sameMs xs ys = false) := sameMs_len (by omega)
    have e1 : ((n : Int) == (m : Int)) = false := intbne (by omega)
    have e2 := bneq' e1
    rw [HV.out]
    clear h h' hn hm hnm
    go_enter Tryz.func26, Tryz.ntmps26
    go_wp2
    go_ret
    exact ⟨rfl, Below.refl _ _⟩
  subst hnm
  have H1 := Lib.hid h
  have H2 := Lib.hid h'
  have hn1 : xs.length ≤ n := by omega
  have hn3 : n ≤ xs.length := by omega
  have hm1 : ys.length ≤ n := by omega
  have hm3 : n ≤ ys.length := by omega
  clear h h' hn hm
  go_enter Tryz.func26, Tryz.ntmps26
  go_wp2_with fail
  go_loopw [13] (fun iv wr => ∃ k : Nat, k ≤ n ∧ iv = .int .i64 (k : Int) ∧ Hid (sameMs xs ys = sameMs (xs.drop k) (ys.drop k)) ∧ Below w.heap.size w wr) (fun iv _ => n - (intOf iv).toNat)
  case atStart => exact ⟨0, Nat.zero_le _, rfl, rfl, Below.refl _ _⟩
  case round =>
    obtain ⟨k, hk, rfl, HK, hb⟩ := hrel
    by_cases hlt : k < n
    · obtain ⟨x, hx⟩ : ∃ x, xs[k]? = some x := ⟨_, List.getElem?_eq_getElem (by omega)⟩
      obtain ⟨y, hy⟩ : ∃ y, ys[k]? = some y := ⟨_, List.getElem?_eq_getElem (by omega)⟩
      obtain ⟨b, o, rfl, hbs, px0, px1⟩ := (H1.out.below hb) k x hx
      obtain ⟨b', o', rfl, hds, py0, py1⟩ := (H2.out.below hb) k y hy
      have HD := Lib.hid (sameMs_drop hx hy)
      clear hx hy
      go_wp2_with fail
      refine wp_region_kept (by kernel_rfl) (by kernel_rfl) ?_
      iterate 3
        refine kept_val _ (fun _ => rfl) (fun ρ w hw => by go_simp; first | done | with_reducible rfl) ?_
        simp only [Act.put, StT, StZ, StS, Nat.reduceAdd]
      refine kept_val _ (fun _ => rfl) (fun ρ w hw => by have q0 := (hw.cell (p := ⟨b, o + k * 2, none⟩) hbs).trans px0; have q1 := (hw.cell (p := ⟨b, o + k * 2 + 1, none⟩) hbs).trans px1; go_simp; first | done | with_reducible rfl) ?_
      iterate 3
        simp only [Act.put, StT, StZ, StS, Nat.reduceAdd]
        refine kept_val _ (fun _ => rfl) (fun ρ w hw => by go_simp; first | done | with_reducible rfl) ?_
      simp only [Act.put, StT, StZ, StS, Nat.reduceAdd]
      refine kept_val _ (fun _ => rfl) (fun ρ w hw => by have q0 := (hw.cell (p := ⟨b', o' + k * 2, none⟩) hds).trans py0; have q1 := (hw.cell (p := ⟨b', o' + k * 2 + 1, none⟩) hds).trans py1; go_simp; first | done | with_reducible rfl) ?_
      simp only [Act.put, StT, StZ, StS, Nat.reduceAdd]
      refine kept_val _ (fun _ => rfl) (fun ρ w hw => by have hE := eqM1 x y; have hEG := guardM; go_simp; first | done | with_reducible rfl) ?_
      simp only [Act.put, StT, StZ, StS, Nat.reduceAdd]
      refine kept_end (fun ρ w6 hF => ?_)
      replace hb := bto hb hF.below
      clear hF
      cases hs : sameM x y
      · have HV : Hid (sameMs xs ys = false) := by show _ = _; rw [HK.out, HD.out, hs]; rfl
        clear hs HK HD px0 py0 px1 py1
        go_wp2
        go_ret
        exact ⟨by rw [HV.out]; first | done | rfl, hb⟩
      · have HV : Hid (sameMs xs ys = sameMs (xs.drop (k + 1)) (ys.drop (k + 1))) := by show _ = _; rw [HK.out, HD.out, hs]; rfl
        clear hs HK HD px0 py0 px1 py1
        go_wp2
        go_roundw
        case rel => exact ⟨k + 1, by omega, by go_num, HV, hb⟩
        case measure => simp [intOf]; omega
    · have HV : Hid (sameMs xs ys = true) := by show _ = _; rw [HK.out, List.drop_of_length_le (by omega), List.drop_of_length_le (by omega)]; rfl
      clear HK
      go_wp2
      go_ret
      exact ⟨by rw [HV.out]; first | done | rfl, hb⟩
end Go.Proofs.YtgnppdkeiihlfaaGreatDoor
namespace Go.Proofs.YtgnppdkeiihlfaaGreatDoor
open Go.RowKit
section
variable {P : Program} {ops : Array Oper} {C : World → Prop} {Q : St → Bx → Prop} {rest : List Oper} {i : Nat} {a : St} {B : Bx} {o : Oper}
theorem turnedC (w : World) (b j : Nat) (cs : Array Value) (x : Value) (t : TypeId) (h : w.heap[b]? = some (.cells cs t (0, 0))) : Turned w (w.setCell ⟨b, j, none⟩ x) b (.cells (cs.setIfInBounds j x) t (0, 0)) := by
  refine ⟨rfl, rfl, rfl, by simp, ?_, fun k hk => Below.heap_setCell w ⟨b, j, none⟩ x k hk⟩
  obtain ⟨hlt, hk⟩ := Array.getElem?_eq_some_iff.1 h
  show (w.heap.modify b _)[b]? = _
  rw [Array.getElem?_eq_getElem (by rw [Array.size_modify]; exact hlt), Array.getElem_modify_self, hk]
  rfl
section
variable {md : Region.Mode}
end
end
end Go.Proofs.YtgnppdkeiihlfaaGreatDoor
namespace Go.Proofs.YtgnppdkeiihlfaaGreatDoor
open Go.RowKit Go.Shelf Num
open Go.Op (bytesLess)
attribute [local go_sem] Oper.semAt_some
def lenAt (W : World) (b : Nat) : Nat := match W.cell? ⟨b, 0, none⟩ with | some (.slice _ n _) => n | _ => 0
theorem lenAt_eq {W : World} {b : Nat} {A : Option Addr} {n c : Nat} (h : Boxed W b 42 (.slice A n c)) : lenAt W b = n := by unfold lenAt; rw [h.cell]
section
variable {w W W' : World} {b b' i : Nat} {t : TypeId} {u v x : Value}
theorem bx_below (h : Boxed W b t v) (hb : Below W.heap.size W W') : Boxed W' b t v := (hb.block b h.lt).trans h
theorem bx_far (h : Boxed W b t v) (hn : b ≠ b') : Boxed (W.setCell ⟨b', i, none⟩ u) b t v := (Below.heap_setCell W ⟨b', i, none⟩ u b hn).trans h
end
structure RL (w : World) (A : Option Addr) (X : List Mon) (n : Nat) : Prop where
  len : X.length = n
  str : ∀ t ∈ X, t.cur.length ≤ 1000 ∧ t.amt.length ≤ 1000
  mem : MonAt w A X
theorem RL.next {w : World} {b o n c : Nat} {x : Mon} {r : List Mon} (h : RL w (some ⟨b, o, none⟩) (x :: r) n) (hc : n ≤ c) : RL w (if c = 1 then some ⟨b, o, none⟩ else some ⟨b, o + 2, none⟩) r (n - 1) := by
  have hl := h.len
  rw [List.length_cons] at hl
  refine ⟨by omega, fun t ht => h.str t (List.mem_cons_of_mem _ ht), ?_⟩
  by_cases h1 : c = 1
  · have : r = [] := List.eq_nil_of_length_eq_zero (by omega)
    subst this
    intro i t ht; simp at ht
  · rw [if_neg h1]
    intro i t ht
    obtain ⟨b', o', hA, h2, h3, h4⟩ := h.mem (i + 1) t (by simpa using ht)
    cases hA
    exact ⟨b, o + 2, rfl, h2, by rw [show o + 2 + i * 2 = o + (i + 1) * 2 by omega]; exact h3, by rw [show o + 2 + i * 2 + 1 = o + (i + 1) * 2 + 1 by omega]; exact h4⟩
theorem RL.head {w : World} {A : Option Addr} {n : Nat} {x : Mon} {r : List Mon} (h : RL w A (x :: r) n) : ∃ b o, A = some ⟨b, o, none⟩ ∧ b < w.heap.size ∧ w.cell? ⟨b, o, none⟩ = some (.string ⟨x.cur.toArray⟩) ∧ w.cell? ⟨b, o + 1, none⟩ = some (.string ⟨x.amt.toArray⟩) := by
  obtain ⟨b, o, h0, h1, h2, h3⟩ := h.mem 0 x rfl
  exact ⟨b, o, h0, h1, by simpa using h2, by simpa using h3⟩
theorem grownBy_setCell2 (W : World) (b i : Nat) (v : Value) : W.grownBy (W.setCell ⟨b, i, none⟩ v) (some b) :=
  ⟨rfl, rfl, rfl, (KeepsWalks.setCell W _ v).size, fun k _ hk => Below.heap_setCell _ _ _ k (fun e => hk (by rw [e]))⟩
theorem below_drw (W : World) : Below W.heap.size W W.drew := ⟨rfl, rfl, rfl, Nat.le_refl _, fun _ _ => rfl⟩
theorem set_cells {W : World} {b j : Nat} {cs : Array Value} {t : TypeId} (x : Value) (h : W.heap[b]? = some (.cells cs t (0, 0))) : (W.setCell ⟨b, j, none⟩ x).heap[b]? = some (.cells (cs.setIfInBounds j x) t (0, 0)) := (turnedC W b j cs x t h).new
set_option maxHeartbeats 8000000 in
set_option maxRecDepth 100000 in
theorem both1_in (m lw ab bb ob : Nat) (xs ys : List Mon) (N : Nat) (w : World) (S : List Yl → World → Prop)
    (hSB : ∀ zs W, S zs W → Below w.heap.size w W) (hSm : ∀ zs W W', S zs W → Below W.heap.size W W' → S zs W')
    (hSs : ∀ zs W W' b cs t, S zs W → W.heap[b]? = some (.cells cs t (0, 0)) → t ≠ 48 → b ≠ ob → w.heap.size ≤ b → W.grownBy W' (some b) → S zs W')
    (hob : ∀ zs W, S zs W → ob < W.heap.size) (hao : ab ≠ ob) (hbo : bb ≠ ob) (hab : w.heap.size ≤ ab) (hbb : w.heap.size ≤ bb)
    (hYd : ∀ zs (y : Yl) W u v, S zs W → y.1.length ≤ 1000 → y.2.1.length ≤ 1000 → y.2.2.length ≤ 1000 → zs.length < N → Boxed W ab 42 u → Boxed W bb 42 v →
      YieldAt Fence.wide (m - 1) Tryz.prog lw #[.string ⟨y.1.toArray⟩, .agg #[.string ⟨y.2.1.toArray⟩, .string ⟨y.2.2.toArray⟩]] W fun e W' => e = .returned (.bool true) ∧ S (zs ++ [y]) W' ∧ Boxed W' ab 42 u ∧ Boxed W' bb 42 v)
    (hne : ab ≠ bb) (hN : xs.length + ys.length ≤ N) (A B : Option Addr) (n c n' c' : Nat) (hX : RL w A xs n) (hY : RL w B ys n') (hc : n ≤ c) (hc' : n' ≤ c') (hn63 : n ≤ 1000000 ∧ n' ≤ 1000000)
    (W : World) (hS : S [] W) (ha : Boxed W ab 42 (.slice A n c)) (hb : Boxed W bb 42 (.slice B n' c')) :
    CallsIn Fence.wide m Tryz.prog 255 #[.func (.yield lw) #[] #[], .pointer (some ⟨ab, 0, none⟩), .pointer (some ⟨bb, 0, none⟩)] W fun e W' => (∃ v, e = .returned v) ∧ S (bothL xs ys) W' := by
  have HB := Lib.hid hSB
  have HM := Lib.hid hSm
  have HSs := Lib.hid hSs
  have HO := Lib.hid hob
  have HY := Lib.hid hYd
  have HX := Lib.hid hS
  have HXL := Lib.hid hX
  have HYL := Lib.hid hY
  clear hSB hSm hSs hYd hS hX hY hob
  refine callsIn_of_wp Tryz.func255 rfl trivial ?_ rfl
  simp only [Tryz.ntmps255, List.size_toArray, List.length_cons, List.length_nil, Nat.reduceAdd, Nat.reduceSub, Array.replicate_succ, Array.replicate_zero, List.push_toArray, List.append_toArray, List.nil_append, List.cons_append]
  gi_wp2_with fail
  gi_loopw [4] (fun _ wr => ∃ (X Y : List Mon) (A B : Option Addr) (n c n' c' : Nat) (zs : List Yl), Hid (RL w A X n) ∧ Hid (RL w B Y n') ∧ n ≤ c ∧ n' ≤ c' ∧ n ≤ 1000000 ∧ n' ≤ 1000000 ∧ Hid (zs ++ bothL X Y = bothL xs ys) ∧ zs.length + n + n' ≤ N ∧ Hid (S zs wr) ∧ Hid (Boxed wr ab 42 (.slice A n c)) ∧ Hid (Boxed wr bb 42 (.slice B n' c'))) (fun _ wr => lenAt wr ab + lenAt wr bb)
  case atStart => exact ⟨xs, ys, A, B, n, c, n', c', [], HXL.out, HYL.out, hc, hc', hn63.1, hn63.2, rfl, by have := HXL.out.len; have := HYL.out.len; simp; omega, HX.out, ha, hb⟩
  case round =>
    clear HX HXL HYL ha hb hc hc' hn63 hN
    obtain ⟨X, Y, A, B, n, c, n', c', zs, HXL, HYL, hc, hc', hn, hn', HQ, hzl, HX, HA, HBb⟩ := hrel
    have hb := HB.out _ _ HX.out
    have la := lenAt_eq HA.out
    have lb := lenAt_eq HBb.out
    have qa := HA.out.cell
    have qb := HBb.out.cell
    cases X with
    | nil =>
      obtain rfl : n = 0 := HXL.out.len.symm
      cases Y with
      | nil =>
        obtain rfl : n' = 0 := HYL.out.len.symm
        have HE : Hid (S (bothL xs ys) wr) := by
          have h1 := HQ.out
          rw [show bothL [] [] = [] from rfl, List.append_nil] at h1
          show S _ wr
          rw [← h1]; exact HX.out
        clear HX HQ la lb hb
        gi_wp2
        go_end0
        exact ⟨⟨_, rfl⟩, HE.out⟩
      | cons y s =>
        obtain ⟨m1, rfl⟩ : ∃ k, n' = k + 1 := ⟨s.length, by have := HYL.out.len; simpa using this.symm⟩
        obtain ⟨b', o', rfl, hbs', h0, h1⟩ := HYL.out.head
        have R0 := Lib.hid h0
        have R1 := Lib.hid h1
        clear h0 h1
        obtain ⟨hy1, hy2⟩ := HYL.out.str y (List.mem_cons_self ..)
        have hyn := HYL.out.next hc'
        obtain ⟨D, hD⟩ : ∃ D, (if c' = 1 then (some ⟨b', o', none⟩ : Option Addr) else some ⟨b', o' + 2, none⟩) = D := ⟨_, rfl⟩
        rw [hD] at hyn
        have HYN := Lib.hid hyn
        have HD := Lib.hid hD
        clear hyn hD
        have kb : 0 < m1 + 1 := by omega
        have kd : (1 : Int) ≤ (m1 : Int) + 1 := by omega
        have kb1 : ((m1 : Int) + 1 == 0) = false := intbne (by omega)
        have HQ2 : Hid (zs ++ [(y.cur, [], y.amt)] ++ bothL [] s = bothL xs ys) := by
          have h1 := HQ.out
          rw [show bothL [] (y :: s) = (y.cur, [], y.amt) :: bothL [] s from rfl] at h1
          show _ = _
          rw [List.append_assoc, List.singleton_append]; exact h1
        clear HQ
        gi_wp2_with fail
        have hbA := below_alloc wr (.cells #[.string ⟨#[]⟩, .string ⟨#[]⟩] 201)
        have HN0 : (wr.alloc (.cells #[.string ⟨#[]⟩, .string ⟨#[]⟩] 201)).heap[wr.heap.size]? = some (.cells #[.string ⟨#[]⟩, .string ⟨#[]⟩] 201 (0, 0)) := heap_alloc_new wr _
        have na : wr.heap.size ≠ ab := by have := HA.out.lt; omega
        have nb : wr.heap.size ≠ bb := by have := HBb.out.lt; omega
        have no : wr.heap.size ≠ ob := by have := HO.out _ _ HX.out; omega
        have nw := hb.size
        obtain ⟨W1, hW1⟩ : ∃ W1, W1 = wr.alloc (.cells #[.string ⟨#[]⟩, .string ⟨#[]⟩] 201) := ⟨_, rfl⟩
        rw [← hW1] at hbA HN0 ⊢
        replace HX := Lib.hid (HM.out _ _ _ HX.out hbA)
        replace HA := Lib.hid (bx_below HA.out hbA)
        replace HBb := Lib.hid (bx_below HBb.out hbA)
        generalize wr.heap.size = nn at *
        have HLa := Lib.hid la
        have HLb := Lib.hid lb
        clear hW1 hbA qa qb la lb
        replace hb := HB.out _ _ HX.out
        refine wpIn_wide.2 ?_
        refine wp_region_kept (by kernel_rfl) (by kernel_rfl) ?_
        refine kept_val _ (fun _ => rfl) (fun ρ w hw => by have q0 := (bx_below HBb.out hw).cell; go_simp; first | done | with_reducible rfl) ?_
        iterate 3
          simp only [Act.put, StT, StZ, StS, Nat.reduceAdd]
          refine kept_val _ (fun _ => rfl) (fun ρ w hw => by go_simp; first | done | with_reducible rfl) ?_
        simp only [Act.put, StT, StZ, StS, Nat.reduceAdd]
        refine kept_val _ (fun _ => rfl) (fun ρ w hw => by have q0 := (bx_below HA.out hw).cell; go_simp; first | done | with_reducible rfl) ?_
        iterate 3
          simp only [Act.put, StT, StZ, StS, Nat.reduceAdd]
          refine kept_val _ (fun _ => rfl) (fun ρ w hw => by go_simp; first | done | with_reducible rfl) ?_
        iterate 9
          simp only [Act.put, StT, StZ, StS, Nat.reduceAdd]
          refine kept_off (fun _ => rfl) ?_
        iterate 3
          simp only [Act.put, StT, StZ, StS, Nat.reduceAdd]
          refine kept_val _ (fun _ => rfl) (fun ρ w hw => by go_simp; first | done | with_reducible rfl) ?_
        simp only [Act.put, StT, StZ, StS, Nat.reduceAdd]
        refine kept_end (fun ρ W2 hF => ?_)
        have hF := hF.below
        replace HX := Lib.hid (HM.out _ _ _ HX.out hF)
        replace HA := Lib.hid (bx_below HA.out hF)
        replace HBb := Lib.hid (bx_below HBb.out hF)
        replace HN0 := (hF.block nn (Array.getElem?_eq_some_iff.1 HN0).1).trans HN0
        replace hb := HB.out _ _ HX.out
        clear hF
        have qa := HA.out.cell
        have qb := HBb.out.cell
        have r0 := (hb.cell (p := ⟨b', o', none⟩) hbs').trans R0.out
        gi_wp2_with fail
        clear qa qb r0
        have r1 := (hb.cell (p := ⟨b', o' + 1, none⟩) hbs').trans R1.out
        have hbl := Nat.lt_of_lt_of_le hbs' hb.size
        have f0 := blk_cell HN0 1
        have f1 := blk_frozen HN0 1
        have f2 := HBb.out.cell
        have f3 := HBb.out.frozen
        have f4 := HD.out
        have f5 := Ne.symm nb
        gi_region
        have hs1 := HSs.out zs _ _ nn _ _ HX.out HN0 (by decide) no nw (grownBy_setCell2 _ nn 1 (.string ⟨(y.amt).toArray⟩))
        have hA1 := bx_far (i := 1) (u := (.string ⟨(y.amt).toArray⟩)) HBb.out (Ne.symm nb)
        have hB1 := bx_far (i := 1) (u := (.string ⟨(y.amt).toArray⟩)) HA.out (Ne.symm na)
        have hN1 := set_cells (.string ⟨(y.amt).toArray⟩) (j := 1) HN0
        have hs2 := HSs.out zs _ _ bb _ _ hs1 hA1 (by decide) hbo hbb (grownBy_setCell' _ bb (.slice D m1 (c' - 1)))
        replace hs2 := HM.out _ _ _ hs2 (below_drw _)
        have hA2 : Boxed _ bb 42 _ := (bx_below (Boxed.set (.slice D m1 (c' - 1)) hA1) (below_drw _))
        have hB2 : Boxed _ ab 42 _ := bx_below (bx_far (i := 0) (u := (.slice D m1 (c' - 1))) hB1 hne) (below_drw _)
        have hN2 := (Below.heap_setCell _ ⟨bb, 0, none⟩ (.slice D m1 (c' - 1)) nn nb).trans hN1
        obtain ⟨W3, hWb⟩ : ∃ Wb, Wb = ((W2.setCell ⟨nn, 1, none⟩ (.string ⟨(y.amt).toArray⟩)).setCell ⟨bb, 0, none⟩ (.slice D m1 (c' - 1))).drew := ⟨_, rfl⟩
        replace hN2 : W3.heap[nn]? = _ := (congrArg (fun W : World => W.heap[nn]?) hWb).trans hN2
        rw [← hWb] at hs2 hA2 hB2 ⊢
        clear HX HA HBb HN0 hb
        have HX := Lib.hid hs2
        have HBb := Lib.hid hA2
        have HA := Lib.hid hB2
        have HN0 := hN2
        have hb := HB.out _ _ HX.out
        clear hWb f0 f1 f2 f3 f4 f5 hs1 hs2 hA1 hB1 hN1 hA2 hB2 hN2 hbl r1
        have qa := HA.out.cell
        have qb := HBb.out.cell
        have r0 := (hb.cell (p := ⟨b', o', none⟩) hbs').trans R0.out
        have u0 := blk_cell HN0 0
        have u1 := blk_cell HN0 1
        have hyy := HY.out zs (y.cur, [], y.amt) _ _ _ HX.out hy1 (Nat.zero_le 1000) hy2 (by omega) HA.out HBb.out
        have hyz : YieldAt Fence.wide (m - 1) Tryz.prog lw #[.string ⟨y.cur.toArray⟩, .agg #[.string ⟨#[]⟩, .string ⟨y.amt.toArray⟩]] _ _ := hyy
        clear hyy
        obtain ⟨fn, tmps, assign, body, hyr, hR⟩ := hyz
        gi_wp2
        refine ⟨fun h => (by cases h), hR.mono ?_⟩
        rintro e W9 ⟨rfl, hS9, hA9, hB9⟩
        have HS9 := Lib.hid hS9
        have HA9 := Lib.hid hA9
        have HB9 := Lib.hid hB9
        clear hS9 hA9 hB9 hR hyr HX HA HBb HN0 u0 u1 hb qa qb r0
        gi_wp2
        go_roundw
        case rel => exact ⟨[], s, A, D, 0, c, m1, c' - 1, zs ++ [(y.cur, [], y.amt)], HXL.out, HYN.out, by omega, by omega, by omega, by omega, HQ2.out, by rw [List.length_append, List.length_singleton]; omega, HS9.out, HA9.out, HB9.out⟩
        case measure =>
          have e1 := lenAt_eq HA9.out
          have e2 := lenAt_eq HB9.out
          have e3 := HLa.out
          have e4 := HLb.out
          rw [e1, e2, e3, e4]
          omega
    | cons x r =>
      cases Y with
      | nil =>
        obtain ⟨n1, rfl⟩ : ∃ k, n = k + 1 := ⟨r.length, by have := HXL.out.len; simpa using this.symm⟩
        obtain ⟨b, o, rfl, hbs, h0, h1⟩ := HXL.out.head
        have P0 := Lib.hid h0
        have P1 := Lib.hid h1
        clear h0 h1
        obtain ⟨hx1, hx2⟩ := HXL.out.str x (List.mem_cons_self ..)
        have hxn := HXL.out.next hc
        obtain ⟨C, hC⟩ : ∃ C, (if c = 1 then (some ⟨b, o, none⟩ : Option Addr) else some ⟨b, o + 2, none⟩) = C := ⟨_, rfl⟩
        rw [hC] at hxn
        have HXN := Lib.hid hxn
        have HC := Lib.hid hC
        clear hxn hC
        have ka : 0 < n1 + 1 := by omega
        have kc : (1 : Int) ≤ (n1 : Int) + 1 := by omega
        have ka1 : ((n1 : Int) + 1 == 0) = false := intbne (by omega)
        obtain rfl : n' = 0 := HYL.out.len.symm
        have HQ2 : Hid (zs ++ [(x.cur, x.amt, [])] ++ bothL r [] = bothL xs ys) := by
          have h1 := HQ.out
          rw [show bothL (x :: r) [] = (x.cur, x.amt, []) :: bothL r [] from both_nil x r] at h1
          show _ = _
          rw [List.append_assoc, List.singleton_append]; exact h1
        clear HQ
        gi_wp2_with fail
        have hbA := below_alloc wr (.cells #[.string ⟨#[]⟩, .string ⟨#[]⟩] 201)
        have HN0 : (wr.alloc (.cells #[.string ⟨#[]⟩, .string ⟨#[]⟩] 201)).heap[wr.heap.size]? = some (.cells #[.string ⟨#[]⟩, .string ⟨#[]⟩] 201 (0, 0)) := heap_alloc_new wr _
        have na : wr.heap.size ≠ ab := by have := HA.out.lt; omega
        have nb : wr.heap.size ≠ bb := by have := HBb.out.lt; omega
        have no : wr.heap.size ≠ ob := by have := HO.out _ _ HX.out; omega
        have nw := hb.size
        obtain ⟨W1, hW1⟩ : ∃ W1, W1 = wr.alloc (.cells #[.string ⟨#[]⟩, .string ⟨#[]⟩] 201) := ⟨_, rfl⟩
        rw [← hW1] at hbA HN0 ⊢
        replace HX := Lib.hid (HM.out _ _ _ HX.out hbA)
        replace HA := Lib.hid (bx_below HA.out hbA)
        replace HBb := Lib.hid (bx_below HBb.out hbA)
        generalize wr.heap.size = nn at *
        have HLa := Lib.hid la
        have HLb := Lib.hid lb
        clear hW1 hbA qa qb la lb
        replace hb := HB.out _ _ HX.out
        refine wpIn_wide.2 ?_
        refine wp_region_kept (by kernel_rfl) (by kernel_rfl) ?_
        refine kept_val _ (fun _ => rfl) (fun ρ w hw => by have q0 := (bx_below HBb.out hw).cell; go_simp; first | done | with_reducible rfl) ?_
        iterate 3
          simp only [Act.put, StT, StZ, StS, Nat.reduceAdd]
          refine kept_val _ (fun _ => rfl) (fun ρ w hw => by go_simp; first | done | with_reducible rfl) ?_
        iterate 14
          simp only [Act.put, StT, StZ, StS, Nat.reduceAdd]
          refine kept_off (fun _ => rfl) ?_
        iterate 2
          simp only [Act.put, StT, StZ, StS, Nat.reduceAdd]
          refine kept_val _ (fun _ => rfl) (fun ρ w hw => by go_simp; first | done | with_reducible rfl) ?_
        simp only [Act.put, StT, StZ, StS, Nat.reduceAdd]
        refine kept_end (fun ρ W2 hF => ?_)
        have hF := hF.below
        replace HX := Lib.hid (HM.out _ _ _ HX.out hF)
        replace HA := Lib.hid (bx_below HA.out hF)
        replace HBb := Lib.hid (bx_below HBb.out hF)
        replace HN0 := (hF.block nn (Array.getElem?_eq_some_iff.1 HN0).1).trans HN0
        replace hb := HB.out _ _ HX.out
        clear hF
        have qa := HA.out.cell
        have qb := HBb.out.cell
        have p0 := (hb.cell (p := ⟨b, o, none⟩) hbs).trans P0.out
        gi_wp2_with fail
        clear qa qb p0
        have p1 := (hb.cell (p := ⟨b, o + 1, none⟩) hbs).trans P1.out
        have hbl := Nat.lt_of_lt_of_le hbs hb.size
        have f0 := blk_cell HN0 0
        have f1 := blk_frozen HN0 0
        have f2 := HA.out.cell
        have f3 := HA.out.frozen
        have f4 := HC.out
        have f5 := Ne.symm na
        gi_region
        have hs1 := HSs.out zs _ _ nn _ _ HX.out HN0 (by decide) no nw (grownBy_setCell2 _ nn 0 (.string ⟨(x.amt).toArray⟩))
        have hA1 := bx_far (i := 0) (u := (.string ⟨(x.amt).toArray⟩)) HA.out (Ne.symm na)
        have hB1 := bx_far (i := 0) (u := (.string ⟨(x.amt).toArray⟩)) HBb.out (Ne.symm nb)
        have hN1 := set_cells (.string ⟨(x.amt).toArray⟩) (j := 0) HN0
        have hs2 := HSs.out zs _ _ ab _ _ hs1 hA1 (by decide) hao hab (grownBy_setCell' _ ab (.slice C n1 (c - 1)))
        replace hs2 := HM.out _ _ _ hs2 (below_drw _)
        have hA2 : Boxed _ ab 42 _ := (bx_below (Boxed.set (.slice C n1 (c - 1)) hA1) (below_drw _))
        have hB2 : Boxed _ bb 42 _ := bx_below (bx_far (i := 0) (u := (.slice C n1 (c - 1))) hB1 hne.symm) (below_drw _)
        have hN2 := (Below.heap_setCell _ ⟨ab, 0, none⟩ (.slice C n1 (c - 1)) nn na).trans hN1
        obtain ⟨W3, hWb⟩ : ∃ Wb, Wb = ((W2.setCell ⟨nn, 0, none⟩ (.string ⟨(x.amt).toArray⟩)).setCell ⟨ab, 0, none⟩ (.slice C n1 (c - 1))).drew := ⟨_, rfl⟩
        replace hN2 : W3.heap[nn]? = _ := (congrArg (fun W : World => W.heap[nn]?) hWb).trans hN2
        rw [← hWb] at hs2 hA2 hB2 ⊢
        clear HX HA HBb HN0 hb
        have HX := Lib.hid hs2
        have HA := Lib.hid hA2
        have HBb := Lib.hid hB2
        have HN0 := hN2
        have hb := HB.out _ _ HX.out
        clear hWb f0 f1 f2 f3 f4 f5 hs1 hs2 hA1 hB1 hN1 hA2 hB2 hN2 hbl p1
        have qa := HA.out.cell
        have qb := HBb.out.cell
        have p0 := (hb.cell (p := ⟨b, o, none⟩) hbs).trans P0.out
        have u0 := blk_cell HN0 0
        have u1 := blk_cell HN0 1
        have hyy := HY.out zs (x.cur, x.amt, []) _ _ _ HX.out hx1 hx2 (Nat.zero_le 1000) (by omega) HA.out HBb.out
        have hyz : YieldAt Fence.wide (m - 1) Tryz.prog lw #[.string ⟨x.cur.toArray⟩, .agg #[.string ⟨x.amt.toArray⟩, .string ⟨#[]⟩]] _ _ := hyy
        clear hyy
        obtain ⟨fn, tmps, assign, body, hyr, hR⟩ := hyz
        gi_wp2
        refine ⟨fun h => (by cases h), hR.mono ?_⟩
        rintro e W9 ⟨rfl, hS9, hA9, hB9⟩
        have HS9 := Lib.hid hS9
        have HA9 := Lib.hid hA9
        have HB9 := Lib.hid hB9
        clear hS9 hA9 hB9 hR hyr HX HA HBb HN0 u0 u1 hb qa qb p0
        gi_wp2
        go_roundw
        case rel => exact ⟨r, [], C, B, n1, c - 1, 0, c', zs ++ [(x.cur, x.amt, [])], HXN.out, HYL.out, by omega, by omega, by omega, by omega, HQ2.out, by rw [List.length_append, List.length_singleton]; omega, HS9.out, HA9.out, HB9.out⟩
        case measure =>
          have e1 := lenAt_eq HA9.out
          have e2 := lenAt_eq HB9.out
          have e3 := HLa.out
          have e4 := HLb.out
          rw [e1, e2, e3, e4]
          omega
      | cons y s =>
        rcases ltS_tri x.cur y.cur with hlt | heq | hgt
        · skip
          obtain ⟨n1, rfl⟩ : ∃ k, n = k + 1 := ⟨r.length, by have := HXL.out.len; simpa using this.symm⟩
          obtain ⟨b, o, rfl, hbs, h0, h1⟩ := HXL.out.head
          have P0 := Lib.hid h0
          have P1 := Lib.hid h1
          clear h0 h1
          obtain ⟨hx1, hx2⟩ := HXL.out.str x (List.mem_cons_self ..)
          have hxn := HXL.out.next hc
          obtain ⟨C, hC⟩ : ∃ C, (if c = 1 then (some ⟨b, o, none⟩ : Option Addr) else some ⟨b, o + 2, none⟩) = C := ⟨_, rfl⟩
          rw [hC] at hxn
          have HXN := Lib.hid hxn
          have HC := Lib.hid hC
          clear hxn hC
          have ka : 0 < n1 + 1 := by omega
          have kc : (1 : Int) ≤ (n1 : Int) + 1 := by omega
          have ka1 : ((n1 : Int) + 1 == 0) = false := intbne (by omega)
          obtain ⟨m1, rfl⟩ : ∃ k, n' = k + 1 := ⟨s.length, by have := HYL.out.len; simpa using this.symm⟩
          obtain ⟨b', o', rfl, hbs', h0, h1⟩ := HYL.out.head
          have R0 := Lib.hid h0
          have R1 := Lib.hid h1
          clear h0 h1
          obtain ⟨hy1, hy2⟩ := HYL.out.str y (List.mem_cons_self ..)
          have hyn := HYL.out.next hc'
          obtain ⟨D, hD⟩ : ∃ D, (if c' = 1 then (some ⟨b', o', none⟩ : Option Addr) else some ⟨b', o' + 2, none⟩) = D := ⟨_, rfl⟩
          rw [hD] at hyn
          have HYN := Lib.hid hyn
          have HD := Lib.hid hD
          clear hyn hD
          have kb : 0 < m1 + 1 := by omega
          have kd : (1 : Int) ≤ (m1 : Int) + 1 := by omega
          have kb1 : ((m1 : Int) + 1 == 0) = false := intbne (by omega)
          have HQ2 : Hid (zs ++ [(x.cur, x.amt, [])] ++ bothL r (y :: s) = bothL xs ys) := by
            have h1 := HQ.out
            rw [show bothL (x :: r) (y :: s) = (x.cur, x.amt, []) :: bothL r (y :: s) from both_lt hlt r s] at h1
            show _ = _
            rw [List.append_assoc, List.singleton_append]; exact h1
          have g1 := hlt
          have g2 : (y.cur == x.cur) = false := by rw [beq_eq_false_iff_ne]; exact (ltS_ne hlt).symm
          clear hlt
          clear HQ
          gi_wp2_with fail
          have hbA := below_alloc wr (.cells #[.string ⟨#[]⟩, .string ⟨#[]⟩] 201)
          have HN0 : (wr.alloc (.cells #[.string ⟨#[]⟩, .string ⟨#[]⟩] 201)).heap[wr.heap.size]? = some (.cells #[.string ⟨#[]⟩, .string ⟨#[]⟩] 201 (0, 0)) := heap_alloc_new wr _
          have na : wr.heap.size ≠ ab := by have := HA.out.lt; omega
          have nb : wr.heap.size ≠ bb := by have := HBb.out.lt; omega
          have no : wr.heap.size ≠ ob := by have := HO.out _ _ HX.out; omega
          have nw := hb.size
          obtain ⟨W1, hW1⟩ : ∃ W1, W1 = wr.alloc (.cells #[.string ⟨#[]⟩, .string ⟨#[]⟩] 201) := ⟨_, rfl⟩
          rw [← hW1] at hbA HN0 ⊢
          replace HX := Lib.hid (HM.out _ _ _ HX.out hbA)
          replace HA := Lib.hid (bx_below HA.out hbA)
          replace HBb := Lib.hid (bx_below HBb.out hbA)
          generalize wr.heap.size = nn at *
          have HLa := Lib.hid la
          have HLb := Lib.hid lb
          clear hW1 hbA qa qb la lb
          replace hb := HB.out _ _ HX.out
          refine wpIn_wide.2 ?_
          refine wp_region_kept (by kernel_rfl) (by kernel_rfl) ?_
          refine kept_val _ (fun _ => rfl) (fun ρ w hw => by have q0 := (bx_below HBb.out hw).cell; go_simp; first | done | with_reducible rfl) ?_
          iterate 3
            simp only [Act.put, StT, StZ, StS, Nat.reduceAdd]
            refine kept_val _ (fun _ => rfl) (fun ρ w hw => by go_simp; first | done | with_reducible rfl) ?_
          simp only [Act.put, StT, StZ, StS, Nat.reduceAdd]
          refine kept_val _ (fun _ => rfl) (fun ρ w hw => by have q0 := (bx_below HA.out hw).cell; go_simp; first | done | with_reducible rfl) ?_
          iterate 3
            simp only [Act.put, StT, StZ, StS, Nat.reduceAdd]
            refine kept_val _ (fun _ => rfl) (fun ρ w hw => by go_simp; first | done | with_reducible rfl) ?_
          simp only [Act.put, StT, StZ, StS, Nat.reduceAdd]
          refine kept_val _ (fun _ => rfl) (fun ρ w hw => by have q0 := (bx_below HA.out hw).cell; go_simp; first | done | with_reducible rfl) ?_
          iterate 2
            simp only [Act.put, StT, StZ, StS, Nat.reduceAdd]
            refine kept_val _ (fun _ => rfl) (fun ρ w hw => by go_simp; first | done | with_reducible rfl) ?_
          simp only [Act.put, StT, StZ, StS, Nat.reduceAdd]
          refine kept_val _ (fun _ => rfl) (fun ρ w hw => by have q0 := ((bto hb hw).cell (p := ⟨b, o, none⟩) hbs).trans P0.out; go_simp; first | done | with_reducible rfl) ?_
          simp only [Act.put, StT, StZ, StS, Nat.reduceAdd]
          refine kept_val _ (fun _ => rfl) (fun ρ w hw => by have q0 := (bx_below HBb.out hw).cell; go_simp; first | done | with_reducible rfl) ?_
          iterate 2
            simp only [Act.put, StT, StZ, StS, Nat.reduceAdd]
            refine kept_val _ (fun _ => rfl) (fun ρ w hw => by go_simp; first | done | with_reducible rfl) ?_
          simp only [Act.put, StT, StZ, StS, Nat.reduceAdd]
          refine kept_val _ (fun _ => rfl) (fun ρ w hw => by have q0 := ((bto hb hw).cell (p := ⟨b', o', none⟩) hbs').trans R0.out; go_simp; first | done | with_reducible rfl) ?_
          iterate 4
            simp only [Act.put, StT, StZ, StS, Nat.reduceAdd]
            refine kept_val _ (fun _ => rfl) (fun ρ w hw => by go_simp; first | done | with_reducible rfl) ?_
          simp only [Act.put, StT, StZ, StS, Nat.reduceAdd]
          refine kept_end (fun ρ W2 hF => ?_)
          have hF := hF.below
          replace HX := Lib.hid (HM.out _ _ _ HX.out hF)
          replace HA := Lib.hid (bx_below HA.out hF)
          replace HBb := Lib.hid (bx_below HBb.out hF)
          replace HN0 := (hF.block nn (Array.getElem?_eq_some_iff.1 HN0).1).trans HN0
          replace hb := HB.out _ _ HX.out
          clear hF
          have qa := HA.out.cell
          have qb := HBb.out.cell
          have p0 := (hb.cell (p := ⟨b, o, none⟩) hbs).trans P0.out
          have r0 := (hb.cell (p := ⟨b', o', none⟩) hbs').trans R0.out
          gi_wp2_with fail
          clear qa qb p0 r0
          have p1 := (hb.cell (p := ⟨b, o + 1, none⟩) hbs).trans P1.out
          have hbl := Nat.lt_of_lt_of_le hbs hb.size
          have f0 := blk_cell HN0 0
          have f1 := blk_frozen HN0 0
          have f2 := HA.out.cell
          have f3 := HA.out.frozen
          have f4 := HC.out
          have f5 := Ne.symm na
          gi_region
          have hs1 := HSs.out zs _ _ nn _ _ HX.out HN0 (by decide) no nw (grownBy_setCell2 _ nn 0 (.string ⟨(x.amt).toArray⟩))
          have hA1 := bx_far (i := 0) (u := (.string ⟨(x.amt).toArray⟩)) HA.out (Ne.symm na)
          have hB1 := bx_far (i := 0) (u := (.string ⟨(x.amt).toArray⟩)) HBb.out (Ne.symm nb)
          have hN1 := set_cells (.string ⟨(x.amt).toArray⟩) (j := 0) HN0
          have hs2 := HSs.out zs _ _ ab _ _ hs1 hA1 (by decide) hao hab (grownBy_setCell' _ ab (.slice C n1 (c - 1)))
          replace hs2 := HM.out _ _ _ hs2 (below_drw _)
          have hA2 : Boxed _ ab 42 _ := (bx_below (Boxed.set (.slice C n1 (c - 1)) hA1) (below_drw _))
          have hB2 : Boxed _ bb 42 _ := bx_below (bx_far (i := 0) (u := (.slice C n1 (c - 1))) hB1 hne.symm) (below_drw _)
          have hN2 := (Below.heap_setCell _ ⟨ab, 0, none⟩ (.slice C n1 (c - 1)) nn na).trans hN1
          obtain ⟨W3, hWb⟩ : ∃ Wb, Wb = ((W2.setCell ⟨nn, 0, none⟩ (.string ⟨(x.amt).toArray⟩)).setCell ⟨ab, 0, none⟩ (.slice C n1 (c - 1))).drew := ⟨_, rfl⟩
          replace hN2 : W3.heap[nn]? = _ := (congrArg (fun W : World => W.heap[nn]?) hWb).trans hN2
          rw [← hWb] at hs2 hA2 hB2 ⊢
          clear HX HA HBb HN0 hb
          have HX := Lib.hid hs2
          have HA := Lib.hid hA2
          have HBb := Lib.hid hB2
          have HN0 := hN2
          have hb := HB.out _ _ HX.out
          clear hWb f0 f1 f2 f3 f4 f5 hs1 hs2 hA1 hB1 hN1 hA2 hB2 hN2 hbl p1
          have qa := HA.out.cell
          have qb := HBb.out.cell
          have p0 := (hb.cell (p := ⟨b, o, none⟩) hbs).trans P0.out
          have r0 := (hb.cell (p := ⟨b', o', none⟩) hbs').trans R0.out
          have u0 := blk_cell HN0 0
          have u1 := blk_cell HN0 1
          have hyy := HY.out zs (x.cur, x.amt, []) _ _ _ HX.out hx1 hx2 (Nat.zero_le 1000) (by omega) HA.out HBb.out
          have hyz : YieldAt Fence.wide (m - 1) Tryz.prog lw #[.string ⟨x.cur.toArray⟩, .agg #[.string ⟨x.amt.toArray⟩, .string ⟨#[]⟩]] _ _ := hyy
          clear hyy
          obtain ⟨fn, tmps, assign, body, hyr, hR⟩ := hyz
          gi_wp2
          refine ⟨fun h => (by cases h), hR.mono ?_⟩
          rintro e W9 ⟨rfl, hS9, hA9, hB9⟩
          have HS9 := Lib.hid hS9
          have HA9 := Lib.hid hA9
          have HB9 := Lib.hid hB9
          clear hS9 hA9 hB9 hR hyr HX HA HBb HN0 u0 u1 hb qa qb p0 r0
          gi_wp2
          go_roundw
          case rel => exact ⟨r, y :: s, C, _, n1, c - 1, m1 + 1, c', zs ++ [(x.cur, x.amt, [])], HXN.out, HYL.out, by omega, by omega, by omega, by omega, HQ2.out, by rw [List.length_append, List.length_singleton]; omega, HS9.out, HA9.out, HB9.out⟩
          case measure =>
            have e1 := lenAt_eq HA9.out
            have e2 := lenAt_eq HB9.out
            have e3 := HLa.out
            have e4 := HLb.out
            rw [e1, e2, e3, e4]
            omega
        · skip
          obtain ⟨n1, rfl⟩ : ∃ k, n = k + 1 := ⟨r.length, by have := HXL.out.len; simpa using this.symm⟩
          obtain ⟨b, o, rfl, hbs, h0, h1⟩ := HXL.out.head
          have P0 := Lib.hid h0
          have P1 := Lib.hid h1
          clear h0 h1
          obtain ⟨hx1, hx2⟩ := HXL.out.str x (List.mem_cons_self ..)
          have hxn := HXL.out.next hc
          obtain ⟨C, hC⟩ : ∃ C, (if c = 1 then (some ⟨b, o, none⟩ : Option Addr) else some ⟨b, o + 2, none⟩) = C := ⟨_, rfl⟩
          rw [hC] at hxn
          have HXN := Lib.hid hxn
          have HC := Lib.hid hC
          clear hxn hC
          have ka : 0 < n1 + 1 := by omega
          have kc : (1 : Int) ≤ (n1 : Int) + 1 := by omega
          have ka1 : ((n1 : Int) + 1 == 0) = false := intbne (by omega)
          obtain ⟨m1, rfl⟩ : ∃ k, n' = k + 1 := ⟨s.length, by have := HYL.out.len; simpa using this.symm⟩
          obtain ⟨b', o', rfl, hbs', h0, h1⟩ := HYL.out.head
          have R0 := Lib.hid h0
          have R1 := Lib.hid h1
          clear h0 h1
          obtain ⟨hy1, hy2⟩ := HYL.out.str y (List.mem_cons_self ..)
          have hyn := HYL.out.next hc'
          obtain ⟨D, hD⟩ : ∃ D, (if c' = 1 then (some ⟨b', o', none⟩ : Option Addr) else some ⟨b', o' + 2, none⟩) = D := ⟨_, rfl⟩
          rw [hD] at hyn
          have HYN := Lib.hid hyn
          have HD := Lib.hid hD
          clear hyn hD
          have kb : 0 < m1 + 1 := by omega
          have kd : (1 : Int) ≤ (m1 : Int) + 1 := by omega
          have kb1 : ((m1 : Int) + 1 == 0) = false := intbne (by omega)
          have HQ2 : Hid (zs ++ [(x.cur, x.amt, y.amt)] ++ bothL r s = bothL xs ys) := by
            have h1 := HQ.out
            rw [show bothL (x :: r) (y :: s) = (x.cur, x.amt, y.amt) :: bothL r s from both_eq heq r s] at h1
            show _ = _
            rw [List.append_assoc, List.singleton_append]; exact h1
          have g1 : bytesLess x.cur y.cur = false := by rw [heq]; exact ltS_irr _
          have g2 : (x.cur == y.cur) = true := by rw [beq_iff_eq]; exact heq
          have g3 : (y.cur == x.cur) = true := by rw [beq_iff_eq]; exact heq.symm
          clear heq
          clear HQ
          gi_wp2_with fail
          have hbA := below_alloc wr (.cells #[.string ⟨#[]⟩, .string ⟨#[]⟩] 201)
          have HN0 : (wr.alloc (.cells #[.string ⟨#[]⟩, .string ⟨#[]⟩] 201)).heap[wr.heap.size]? = some (.cells #[.string ⟨#[]⟩, .string ⟨#[]⟩] 201 (0, 0)) := heap_alloc_new wr _
          have na : wr.heap.size ≠ ab := by have := HA.out.lt; omega
          have nb : wr.heap.size ≠ bb := by have := HBb.out.lt; omega
          have no : wr.heap.size ≠ ob := by have := HO.out _ _ HX.out; omega
          have nw := hb.size
          obtain ⟨W1, hW1⟩ : ∃ W1, W1 = wr.alloc (.cells #[.string ⟨#[]⟩, .string ⟨#[]⟩] 201) := ⟨_, rfl⟩
          rw [← hW1] at hbA HN0 ⊢
          replace HX := Lib.hid (HM.out _ _ _ HX.out hbA)
          replace HA := Lib.hid (bx_below HA.out hbA)
          replace HBb := Lib.hid (bx_below HBb.out hbA)
          generalize wr.heap.size = nn at *
          have HLa := Lib.hid la
          have HLb := Lib.hid lb
          clear hW1 hbA qa qb la lb
          replace hb := HB.out _ _ HX.out
          refine wpIn_wide.2 ?_
          refine wp_region_kept (by kernel_rfl) (by kernel_rfl) ?_
          refine kept_val _ (fun _ => rfl) (fun ρ w hw => by have q0 := (bx_below HBb.out hw).cell; go_simp; first | done | with_reducible rfl) ?_
          iterate 3
            simp only [Act.put, StT, StZ, StS, Nat.reduceAdd]
            refine kept_val _ (fun _ => rfl) (fun ρ w hw => by go_simp; first | done | with_reducible rfl) ?_
          simp only [Act.put, StT, StZ, StS, Nat.reduceAdd]
          refine kept_val _ (fun _ => rfl) (fun ρ w hw => by have q0 := (bx_below HA.out hw).cell; go_simp; first | done | with_reducible rfl) ?_
          iterate 3
            simp only [Act.put, StT, StZ, StS, Nat.reduceAdd]
            refine kept_val _ (fun _ => rfl) (fun ρ w hw => by go_simp; first | done | with_reducible rfl) ?_
          simp only [Act.put, StT, StZ, StS, Nat.reduceAdd]
          refine kept_val _ (fun _ => rfl) (fun ρ w hw => by have q0 := (bx_below HA.out hw).cell; go_simp; first | done | with_reducible rfl) ?_
          iterate 2
            simp only [Act.put, StT, StZ, StS, Nat.reduceAdd]
            refine kept_val _ (fun _ => rfl) (fun ρ w hw => by go_simp; first | done | with_reducible rfl) ?_
          simp only [Act.put, StT, StZ, StS, Nat.reduceAdd]
          refine kept_val _ (fun _ => rfl) (fun ρ w hw => by have q0 := ((bto hb hw).cell (p := ⟨b, o, none⟩) hbs).trans P0.out; go_simp; first | done | with_reducible rfl) ?_
          simp only [Act.put, StT, StZ, StS, Nat.reduceAdd]
          refine kept_val _ (fun _ => rfl) (fun ρ w hw => by have q0 := (bx_below HBb.out hw).cell; go_simp; first | done | with_reducible rfl) ?_
          iterate 2
            simp only [Act.put, StT, StZ, StS, Nat.reduceAdd]
            refine kept_val _ (fun _ => rfl) (fun ρ w hw => by go_simp; first | done | with_reducible rfl) ?_
          simp only [Act.put, StT, StZ, StS, Nat.reduceAdd]
          refine kept_val _ (fun _ => rfl) (fun ρ w hw => by have q0 := ((bto hb hw).cell (p := ⟨b', o', none⟩) hbs').trans R0.out; go_simp; first | done | with_reducible rfl) ?_
          iterate 4
            simp only [Act.put, StT, StZ, StS, Nat.reduceAdd]
            refine kept_val _ (fun _ => rfl) (fun ρ w hw => by go_simp; first | done | with_reducible rfl) ?_
          simp only [Act.put, StT, StZ, StS, Nat.reduceAdd]
          refine kept_end (fun ρ W2 hF => ?_)
          have hF := hF.below
          replace HX := Lib.hid (HM.out _ _ _ HX.out hF)
          replace HA := Lib.hid (bx_below HA.out hF)
          replace HBb := Lib.hid (bx_below HBb.out hF)
          replace HN0 := (hF.block nn (Array.getElem?_eq_some_iff.1 HN0).1).trans HN0
          replace hb := HB.out _ _ HX.out
          clear hF
          have qa := HA.out.cell
          have qb := HBb.out.cell
          have p0 := (hb.cell (p := ⟨b, o, none⟩) hbs).trans P0.out
          have r0 := (hb.cell (p := ⟨b', o', none⟩) hbs').trans R0.out
          gi_wp2_with fail
          clear qa qb p0 r0
          have p1 := (hb.cell (p := ⟨b, o + 1, none⟩) hbs).trans P1.out
          have hbl := Nat.lt_of_lt_of_le hbs hb.size
          have f0 := blk_cell HN0 0
          have f1 := blk_frozen HN0 0
          have f2 := HA.out.cell
          have f3 := HA.out.frozen
          have f4 := HC.out
          have f5 := Ne.symm na
          gi_region
          have hs1 := HSs.out zs _ _ nn _ _ HX.out HN0 (by decide) no nw (grownBy_setCell2 _ nn 0 (.string ⟨(x.amt).toArray⟩))
          have hA1 := bx_far (i := 0) (u := (.string ⟨(x.amt).toArray⟩)) HA.out (Ne.symm na)
          have hB1 := bx_far (i := 0) (u := (.string ⟨(x.amt).toArray⟩)) HBb.out (Ne.symm nb)
          have hN1 := set_cells (.string ⟨(x.amt).toArray⟩) (j := 0) HN0
          have hs2 := HSs.out zs _ _ ab _ _ hs1 hA1 (by decide) hao hab (grownBy_setCell' _ ab (.slice C n1 (c - 1)))
          replace hs2 := HM.out _ _ _ hs2 (below_drw _)
          have hA2 : Boxed _ ab 42 _ := (bx_below (Boxed.set (.slice C n1 (c - 1)) hA1) (below_drw _))
          have hB2 : Boxed _ bb 42 _ := bx_below (bx_far (i := 0) (u := (.slice C n1 (c - 1))) hB1 hne.symm) (below_drw _)
          have hN2 := (Below.heap_setCell _ ⟨ab, 0, none⟩ (.slice C n1 (c - 1)) nn na).trans hN1
          obtain ⟨W3, hWb⟩ : ∃ Wb, Wb = ((W2.setCell ⟨nn, 0, none⟩ (.string ⟨(x.amt).toArray⟩)).setCell ⟨ab, 0, none⟩ (.slice C n1 (c - 1))).drew := ⟨_, rfl⟩
          replace hN2 : W3.heap[nn]? = _ := (congrArg (fun W : World => W.heap[nn]?) hWb).trans hN2
          rw [← hWb] at hs2 hA2 hB2 ⊢
          clear HX HA HBb HN0 hb
          have HX := Lib.hid hs2
          have HA := Lib.hid hA2
          have HBb := Lib.hid hB2
          have HN0 := hN2
          have hb := HB.out _ _ HX.out
          clear hWb f0 f1 f2 f3 f4 f5 hs1 hs2 hA1 hB1 hN1 hA2 hB2 hN2 hbl p1
          have qa := HA.out.cell
          have qb := HBb.out.cell
          have p0 := (hb.cell (p := ⟨b, o, none⟩) hbs).trans P0.out
          have r0 := (hb.cell (p := ⟨b', o', none⟩) hbs').trans R0.out
          gi_wp2_with fail
          clear qa qb p0 r0
          have r1 := (hb.cell (p := ⟨b', o' + 1, none⟩) hbs').trans R1.out
          have hbl := Nat.lt_of_lt_of_le hbs' hb.size
          have f0 := blk_cell HN0 1
          have f1 := blk_frozen HN0 1
          have f2 := HBb.out.cell
          have f3 := HBb.out.frozen
          have f4 := HD.out
          have f5 := Ne.symm nb
          gi_region
          have hs1 := HSs.out zs _ _ nn _ _ HX.out HN0 (by decide) no nw (grownBy_setCell2 _ nn 1 (.string ⟨(y.amt).toArray⟩))
          have hA1 := bx_far (i := 1) (u := (.string ⟨(y.amt).toArray⟩)) HBb.out (Ne.symm nb)
          have hB1 := bx_far (i := 1) (u := (.string ⟨(y.amt).toArray⟩)) HA.out (Ne.symm na)
          have hN1 := set_cells (.string ⟨(y.amt).toArray⟩) (j := 1) HN0
          have hs2 := HSs.out zs _ _ bb _ _ hs1 hA1 (by decide) hbo hbb (grownBy_setCell' _ bb (.slice D m1 (c' - 1)))
          replace hs2 := HM.out _ _ _ hs2 (below_drw _)
          have hA2 : Boxed _ bb 42 _ := (bx_below (Boxed.set (.slice D m1 (c' - 1)) hA1) (below_drw _))
          have hB2 : Boxed _ ab 42 _ := bx_below (bx_far (i := 0) (u := (.slice D m1 (c' - 1))) hB1 hne) (below_drw _)
          have hN2 := (Below.heap_setCell _ ⟨bb, 0, none⟩ (.slice D m1 (c' - 1)) nn nb).trans hN1
          obtain ⟨W4, hWb⟩ : ∃ Wb, Wb = ((W3.setCell ⟨nn, 1, none⟩ (.string ⟨(y.amt).toArray⟩)).setCell ⟨bb, 0, none⟩ (.slice D m1 (c' - 1))).drew := ⟨_, rfl⟩
          replace hN2 : W4.heap[nn]? = _ := (congrArg (fun W : World => W.heap[nn]?) hWb).trans hN2
          rw [← hWb] at hs2 hA2 hB2 ⊢
          clear HX HA HBb HN0 hb
          have HX := Lib.hid hs2
          have HBb := Lib.hid hA2
          have HA := Lib.hid hB2
          have HN0 := hN2
          have hb := HB.out _ _ HX.out
          clear hWb f0 f1 f2 f3 f4 f5 hs1 hs2 hA1 hB1 hN1 hA2 hB2 hN2 hbl r1
          have qa := HA.out.cell
          have qb := HBb.out.cell
          have p0 := (hb.cell (p := ⟨b, o, none⟩) hbs).trans P0.out
          have r0 := (hb.cell (p := ⟨b', o', none⟩) hbs').trans R0.out
          have u0 := blk_cell HN0 0
          have u1 := blk_cell HN0 1
          have hyy := HY.out zs (x.cur, x.amt, y.amt) _ _ _ HX.out hx1 hx2 hy2 (by omega) HA.out HBb.out
          have hyz : YieldAt Fence.wide (m - 1) Tryz.prog lw #[.string ⟨x.cur.toArray⟩, .agg #[.string ⟨x.amt.toArray⟩, .string ⟨y.amt.toArray⟩]] _ _ := hyy
          clear hyy
          obtain ⟨fn, tmps, assign, body, hyr, hR⟩ := hyz
          gi_wp2
          refine ⟨fun h => (by cases h), hR.mono ?_⟩
          rintro e W9 ⟨rfl, hS9, hA9, hB9⟩
          have HS9 := Lib.hid hS9
          have HA9 := Lib.hid hA9
          have HB9 := Lib.hid hB9
          clear hS9 hA9 hB9 hR hyr HX HA HBb HN0 u0 u1 hb qa qb p0 r0
          gi_wp2
          go_roundw
          case rel => exact ⟨r, s, C, D, n1, c - 1, m1, c' - 1, zs ++ [(x.cur, x.amt, y.amt)], HXN.out, HYN.out, by omega, by omega, by omega, by omega, HQ2.out, by rw [List.length_append, List.length_singleton]; omega, HS9.out, HA9.out, HB9.out⟩
          case measure =>
            have e1 := lenAt_eq HA9.out
            have e2 := lenAt_eq HB9.out
            have e3 := HLa.out
            have e4 := HLb.out
            rw [e1, e2, e3, e4]
            omega
        · skip
          obtain ⟨n1, rfl⟩ : ∃ k, n = k + 1 := ⟨r.length, by have := HXL.out.len; simpa using this.symm⟩
          obtain ⟨b, o, rfl, hbs, h0, h1⟩ := HXL.out.head
          have P0 := Lib.hid h0
          have P1 := Lib.hid h1
          clear h0 h1
          obtain ⟨hx1, hx2⟩ := HXL.out.str x (List.mem_cons_self ..)
          have hxn := HXL.out.next hc
          obtain ⟨C, hC⟩ : ∃ C, (if c = 1 then (some ⟨b, o, none⟩ : Option Addr) else some ⟨b, o + 2, none⟩) = C := ⟨_, rfl⟩
          rw [hC] at hxn
          have HXN := Lib.hid hxn
          have HC := Lib.hid hC
          clear hxn hC
          have ka : 0 < n1 + 1 := by omega
          have kc : (1 : Int) ≤ (n1 : Int) + 1 := by omega
          have ka1 : ((n1 : Int) + 1 == 0) = false := intbne (by omega)
          obtain ⟨m1, rfl⟩ : ∃ k, n' = k + 1 := ⟨s.length, by have := HYL.out.len; simpa using this.symm⟩
          obtain ⟨b', o', rfl, hbs', h0, h1⟩ := HYL.out.head
          have R0 := Lib.hid h0
          have R1 := Lib.hid h1
          clear h0 h1
          obtain ⟨hy1, hy2⟩ := HYL.out.str y (List.mem_cons_self ..)
          have hyn := HYL.out.next hc'
          obtain ⟨D, hD⟩ : ∃ D, (if c' = 1 then (some ⟨b', o', none⟩ : Option Addr) else some ⟨b', o' + 2, none⟩) = D := ⟨_, rfl⟩
          rw [hD] at hyn
          have HYN := Lib.hid hyn
          have HD := Lib.hid hD
          clear hyn hD
          have kb : 0 < m1 + 1 := by omega
          have kd : (1 : Int) ≤ (m1 : Int) + 1 := by omega
          have kb1 : ((m1 : Int) + 1 == 0) = false := intbne (by omega)
          have HQ2 : Hid (zs ++ [(y.cur, [], y.amt)] ++ bothL (x :: r) s = bothL xs ys) := by
            have h1 := HQ.out
            rw [show bothL (x :: r) (y :: s) = (y.cur, [], y.amt) :: bothL (x :: r) s from both_gt hgt r s] at h1
            show _ = _
            rw [List.append_assoc, List.singleton_append]; exact h1
          have g1 := ltS_asym hgt
          have g2 : (x.cur == y.cur) = false := by rw [beq_eq_false_iff_ne]; exact (ltS_ne hgt).symm
          clear hgt
          clear HQ
          gi_wp2_with fail
          have hbA := below_alloc wr (.cells #[.string ⟨#[]⟩, .string ⟨#[]⟩] 201)
          have HN0 : (wr.alloc (.cells #[.string ⟨#[]⟩, .string ⟨#[]⟩] 201)).heap[wr.heap.size]? = some (.cells #[.string ⟨#[]⟩, .string ⟨#[]⟩] 201 (0, 0)) := heap_alloc_new wr _
          have na : wr.heap.size ≠ ab := by have := HA.out.lt; omega
          have nb : wr.heap.size ≠ bb := by have := HBb.out.lt; omega
          have no : wr.heap.size ≠ ob := by have := HO.out _ _ HX.out; omega
          have nw := hb.size
          obtain ⟨W1, hW1⟩ : ∃ W1, W1 = wr.alloc (.cells #[.string ⟨#[]⟩, .string ⟨#[]⟩] 201) := ⟨_, rfl⟩
          rw [← hW1] at hbA HN0 ⊢
          replace HX := Lib.hid (HM.out _ _ _ HX.out hbA)
          replace HA := Lib.hid (bx_below HA.out hbA)
          replace HBb := Lib.hid (bx_below HBb.out hbA)
          generalize wr.heap.size = nn at *
          have HLa := Lib.hid la
          have HLb := Lib.hid lb
          clear hW1 hbA qa qb la lb
          replace hb := HB.out _ _ HX.out
          refine wpIn_wide.2 ?_
          refine wp_region_kept (by kernel_rfl) (by kernel_rfl) ?_
          refine kept_val _ (fun _ => rfl) (fun ρ w hw => by have q0 := (bx_below HBb.out hw).cell; go_simp; first | done | with_reducible rfl) ?_
          iterate 3
            simp only [Act.put, StT, StZ, StS, Nat.reduceAdd]
            refine kept_val _ (fun _ => rfl) (fun ρ w hw => by go_simp; first | done | with_reducible rfl) ?_
          simp only [Act.put, StT, StZ, StS, Nat.reduceAdd]
          refine kept_val _ (fun _ => rfl) (fun ρ w hw => by have q0 := (bx_below HA.out hw).cell; go_simp; first | done | with_reducible rfl) ?_
          iterate 3
            simp only [Act.put, StT, StZ, StS, Nat.reduceAdd]
            refine kept_val _ (fun _ => rfl) (fun ρ w hw => by go_simp; first | done | with_reducible rfl) ?_
          simp only [Act.put, StT, StZ, StS, Nat.reduceAdd]
          refine kept_val _ (fun _ => rfl) (fun ρ w hw => by have q0 := (bx_below HA.out hw).cell; go_simp; first | done | with_reducible rfl) ?_
          iterate 2
            simp only [Act.put, StT, StZ, StS, Nat.reduceAdd]
            refine kept_val _ (fun _ => rfl) (fun ρ w hw => by go_simp; first | done | with_reducible rfl) ?_
          simp only [Act.put, StT, StZ, StS, Nat.reduceAdd]
          refine kept_val _ (fun _ => rfl) (fun ρ w hw => by have q0 := ((bto hb hw).cell (p := ⟨b, o, none⟩) hbs).trans P0.out; go_simp; first | done | with_reducible rfl) ?_
          simp only [Act.put, StT, StZ, StS, Nat.reduceAdd]
          refine kept_val _ (fun _ => rfl) (fun ρ w hw => by have q0 := (bx_below HBb.out hw).cell; go_simp; first | done | with_reducible rfl) ?_
          iterate 2
            simp only [Act.put, StT, StZ, StS, Nat.reduceAdd]
            refine kept_val _ (fun _ => rfl) (fun ρ w hw => by go_simp; first | done | with_reducible rfl) ?_
          simp only [Act.put, StT, StZ, StS, Nat.reduceAdd]
          refine kept_val _ (fun _ => rfl) (fun ρ w hw => by have q0 := ((bto hb hw).cell (p := ⟨b', o', none⟩) hbs').trans R0.out; go_simp; first | done | with_reducible rfl) ?_
          iterate 4
            simp only [Act.put, StT, StZ, StS, Nat.reduceAdd]
            refine kept_val _ (fun _ => rfl) (fun ρ w hw => by go_simp; first | done | with_reducible rfl) ?_
          simp only [Act.put, StT, StZ, StS, Nat.reduceAdd]
          refine kept_end (fun ρ W2 hF => ?_)
          have hF := hF.below
          replace HX := Lib.hid (HM.out _ _ _ HX.out hF)
          replace HA := Lib.hid (bx_below HA.out hF)
          replace HBb := Lib.hid (bx_below HBb.out hF)
          replace HN0 := (hF.block nn (Array.getElem?_eq_some_iff.1 HN0).1).trans HN0
          replace hb := HB.out _ _ HX.out
          clear hF
          have qa := HA.out.cell
          have qb := HBb.out.cell
          have p0 := (hb.cell (p := ⟨b, o, none⟩) hbs).trans P0.out
          have r0 := (hb.cell (p := ⟨b', o', none⟩) hbs').trans R0.out
          gi_wp2_with fail
          clear qa qb p0 r0
          have r1 := (hb.cell (p := ⟨b', o' + 1, none⟩) hbs').trans R1.out
          have hbl := Nat.lt_of_lt_of_le hbs' hb.size
          have f0 := blk_cell HN0 1
          have f1 := blk_frozen HN0 1
          have f2 := HBb.out.cell
          have f3 := HBb.out.frozen
          have f4 := HD.out
          have f5 := Ne.symm nb
          gi_region
          have hs1 := HSs.out zs _ _ nn _ _ HX.out HN0 (by decide) no nw (grownBy_setCell2 _ nn 1 (.string ⟨(y.amt).toArray⟩))
          have hA1 := bx_far (i := 1) (u := (.string ⟨(y.amt).toArray⟩)) HBb.out (Ne.symm nb)
          have hB1 := bx_far (i := 1) (u := (.string ⟨(y.amt).toArray⟩)) HA.out (Ne.symm na)
          have hN1 := set_cells (.string ⟨(y.amt).toArray⟩) (j := 1) HN0
          have hs2 := HSs.out zs _ _ bb _ _ hs1 hA1 (by decide) hbo hbb (grownBy_setCell' _ bb (.slice D m1 (c' - 1)))
          replace hs2 := HM.out _ _ _ hs2 (below_drw _)
          have hA2 : Boxed _ bb 42 _ := (bx_below (Boxed.set (.slice D m1 (c' - 1)) hA1) (below_drw _))
          have hB2 : Boxed _ ab 42 _ := bx_below (bx_far (i := 0) (u := (.slice D m1 (c' - 1))) hB1 hne) (below_drw _)
          have hN2 := (Below.heap_setCell _ ⟨bb, 0, none⟩ (.slice D m1 (c' - 1)) nn nb).trans hN1
          obtain ⟨W3, hWb⟩ : ∃ Wb, Wb = ((W2.setCell ⟨nn, 1, none⟩ (.string ⟨(y.amt).toArray⟩)).setCell ⟨bb, 0, none⟩ (.slice D m1 (c' - 1))).drew := ⟨_, rfl⟩
          replace hN2 : W3.heap[nn]? = _ := (congrArg (fun W : World => W.heap[nn]?) hWb).trans hN2
          rw [← hWb] at hs2 hA2 hB2 ⊢
          clear HX HA HBb HN0 hb
          have HX := Lib.hid hs2
          have HBb := Lib.hid hA2
          have HA := Lib.hid hB2
          have HN0 := hN2
          have hb := HB.out _ _ HX.out
          clear hWb f0 f1 f2 f3 f4 f5 hs1 hs2 hA1 hB1 hN1 hA2 hB2 hN2 hbl r1
          have qa := HA.out.cell
          have qb := HBb.out.cell
          have p0 := (hb.cell (p := ⟨b, o, none⟩) hbs).trans P0.out
          have r0 := (hb.cell (p := ⟨b', o', none⟩) hbs').trans R0.out
          have u0 := blk_cell HN0 0
          have u1 := blk_cell HN0 1
          have hyy := HY.out zs (y.cur, [], y.amt) _ _ _ HX.out hy1 (Nat.zero_le 1000) hy2 (by omega) HA.out HBb.out
          have hyz : YieldAt Fence.wide (m - 1) Tryz.prog lw #[.string ⟨y.cur.toArray⟩, .agg #[.string ⟨#[]⟩, .string ⟨y.amt.toArray⟩]] _ _ := hyy
          clear hyy
          obtain ⟨fn, tmps, assign, body, hyr, hR⟩ := hyz
          gi_wp2
          refine ⟨fun h => (by cases h), hR.mono ?_⟩
          rintro e W9 ⟨rfl, hS9, hA9, hB9⟩
          have HS9 := Lib.hid hS9
          have HA9 := Lib.hid hA9
          have HB9 := Lib.hid hB9
          clear hS9 hA9 hB9 hR hyr HX HA HBb HN0 u0 u1 hb qa qb p0 r0
          gi_wp2
          go_roundw
          case rel => exact ⟨x :: r, s, _, D, n1 + 1, c, m1, c' - 1, zs ++ [(y.cur, [], y.amt)], HXL.out, HYN.out, by omega, by omega, by omega, by omega, HQ2.out, by rw [List.length_append, List.length_singleton]; omega, HS9.out, HA9.out, HB9.out⟩
          case measure =>
            have e1 := lenAt_eq HA9.out
            have e2 := lenAt_eq HB9.out
            have e3 := HLa.out
            have e4 := HLb.out
            rw [e1, e2, e3, e4]
            omega
end Go.Proofs.YtgnppdkeiihlfaaGreatDoor
namespace Go.Proofs.YtgnppdkeiihlfaaGreatDoor
open Go.RowKit Num
def RetB (w : World) (f : Nat) (args : Array Value) (v : Value) : Prop := ∀ w' : World, Below w.heap.size w w' → Calls Tryz.prog f args w' fun e w'' => e = .returned v ∧ Below w'.heap.size w' w''
theorem RetB.of {w w' : World} {f : Nat} {args : Array Value} {v : Value} (h : RetB w f args v) (_ : Glob w) (hb : Below w.heap.size w w') : Calls Tryz.prog f args w' fun e w'' => e = .returned v ∧ Below w'.heap.size w' w'' := h w' hb
end Go.Proofs.YtgnppdkeiihlfaaGreatDoor
namespace Go.Proofs.YtgnppdkeiihlfaaGreatDoor
open Go.RowKit Num
section
variable {l l' : List UInt8}
theorem qCheck (hl : l.length ≤ 1000000) {c : Int} (e : (if l = canon (val l) then 0 else 1) = c) : Ret 52 #[.string ⟨l.toArray⟩] (.int .i64 c) := fun w hG => by
  have c1 := qCanonical (l := l) hl rfl
  have hb := Below.refl w.heap.size w
  obtain ⟨X, hX⟩ : ∃ X, X = canon (val l) := ⟨_, rfl⟩
  rw [← hX] at c1 e
  have H1 := Lib.hid c1
  clear c1 hX
  by_cases h : l = X
  · rw [if_pos h] at e
    subst e
    subst h
    go_enter Tryz.func52, Tryz.ntmps52
    go_wp2_with fail
    ((with_reducible refine (H1.out.of hG hb).mono ?_); rintro e w2 ⟨rfl, hb2⟩)
    go_wp2
    go_ret
    exact ⟨rfl, bto hb hb2⟩
  · rw [if_neg h] at e
    subst e
    have e1 : (X == l) = false := by rw [beq_eq_false_iff_ne]; exact fun h1 => h h1.symm
    go_enter Tryz.func52, Tryz.ntmps52
    go_wp2_with fail
    ((with_reducible refine (H1.out.of hG hb).mono ?_); rintro e w2 ⟨rfl, hb2⟩)
    go_wp2
    go_ret
    exact ⟨rfl, bto hb hb2⟩
end
end Go.Proofs.YtgnppdkeiihlfaaGreatDoor
