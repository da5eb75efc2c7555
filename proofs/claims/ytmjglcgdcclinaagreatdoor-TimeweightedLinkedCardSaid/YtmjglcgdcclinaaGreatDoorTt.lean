/- timeweighted: Link. -/
import Derived.Test.YtmjglcgdcclinaaGreatDoorTo
namespace Go.Proofs.YtmjglcgdcclinaaGreatDoor
open Go.RowKit Go.Shelf Num
attribute [local go_sem] Oper.semAt_some
theorem call_link1 (args : Array Value) (w : World) : (callFunc 115 args).run Tryz.prog w = .ok (.enter 115 args) w := by kernel_rfl
theorem enter_v1 (args : Array Value) (w : World) : (callFunc 175 args).run Tryz.prog w = .ok (.enter 175 args) w := by kernel_rfl
set_option maxHeartbeats 1000000 in
set_option maxRecDepth 100000 in
theorem linkClo (t : Fs) (h1 : t.1.length ≤ 60) (h2 : t.2.length ≤ 60) : Ret 115 #[(Value.agg #[Value.string ⟨List.toArray (t.1)⟩, Value.string ⟨List.toArray (t.2)⟩])] (.bool (!canB t)) := fun w hG => by
  have hb := below_alloc w (.cells #[.string ⟨t.1.toArray⟩, .string ⟨t.2.toArray⟩] 32)
  have x1 := FBox.new w (.string ⟨t.1.toArray⟩) (.string ⟨t.2.toArray⟩) 32
  have q0 := x1.c0
  have q1 := x1.c1
  cases gc : canB t
  · have C1 := Lib.hid (rCheck (isq_raw (k := 60) h1 h2 (by decide)) (if_neg (of_decide_eq_false gc)))
    clear gc h1 h2 x1
    go_enter Tryz.func115, Tryz.ntmps115
    go_wp2_with fail
    ((with_reducible refine (C1.out.of hG hb).mono ?_); rintro e w2 ⟨rfl, hb2⟩)
    go_wp2
    go_ret
    exact ⟨rfl, bto hb hb2⟩
  · have C1 := Lib.hid (rCheck (isq_raw (k := 60) h1 h2 (by decide)) (if_pos (of_decide_eq_true gc)))
    clear gc h1 h2 x1
    go_enter Tryz.func115, Tryz.ntmps115
    go_wp2_with fail
    ((with_reducible refine (C1.out.of hG hb).mono ?_); rintro e w2 ⟨rfl, hb2⟩)
    go_wp2
    go_ret
    exact ⟨rfl, bto hb hb2⟩
def idxF : List Fs → Nat → Int
  | [], _ => -1
  | a :: t, k => if canB a = true then idxF t (k + 1) else (k : Int)
theorem idxF_drop {zs : List Fs} {k : Nat} {y : Fs} (h : zs[k]? = some y) : idxF (zs.drop k) k = if canB y = true then idxF (zs.drop (k + 1)) (k + 1) else (k : Int) := by
  obtain ⟨hk, rfl⟩ := List.getElem?_eq_some_iff.1 h
  rw [List.drop_eq_getElem_cons hk]; rfl
theorem idxF_all : ∀ (zs : List Fs) (k : Nat), decide (0 ≤ idxF zs k) = !(zs.all canB)
  | [], _ => rfl
  | a :: t, k => by
    show decide (0 ≤ if canB a = true then idxF t (k + 1) else (k : Int)) = !(canB a && t.all canB)
    cases canB a
    · simp
    · simpa using idxF_all t (k + 1)
set_option maxHeartbeats 2000000 in
set_option maxRecDepth 100000 in
theorem idxFrs (A : Option Addr) (ts : List Fs) (n c : Nat) (w : World) (hG : Glob w) (hn : ts.length = n) (hn2 : n ≤ 1000000000) (hs : ∀ t ∈ ts, t.1.length ≤ 60 ∧ t.2.length ≤ 60) (h : FsAt w A ts) :
    Calls Tryz.prog 174 #[.slice A n c, .func (Fn.func 115) #[] #[]] w fun e w' => e = .returned (.int .i64 (idxF ts 0)) ∧ Below w.heap.size w w' := by
  have HI := Lib.hid h
  have HN := Lib.hid hn
  have HS := Lib.hid hs
  clear h hn hs
  go_enter Tryz.func174, Tryz.ntmps174
  go_wp2_with fail
  go_loopw [8] (fun iv wr => ∃ k : Nat, k ≤ n ∧ iv = .int .i64 (k : Int) ∧ Hid (idxF ts 0 = idxF (ts.drop k) k) ∧ Below w.heap.size w wr) (fun iv _ => n - (intOf iv).toNat)
  case atStart => exact ⟨0, Nat.zero_le _, rfl, rfl, Below.refl _ _⟩
  case round =>
    obtain ⟨k, hk, rfl, HK, hb⟩ := hrel
    by_cases hlt : k < n
    · obtain ⟨t, ht⟩ : ∃ t, ts[k]? = some t := ⟨_, List.getElem?_eq_getElem (by rw [HN.out]; omega)⟩
      obtain ⟨b, o, rfl, hbs, p0, p1⟩ := (HI.out.below hb) k t ht
      have HD := Lib.hid (idxF_drop ht)
      have hst := HS.out t (List.mem_of_getElem? ht)
      have CP := Lib.hid (linkClo t hst.1 hst.2)
      have hcall := call_link1
      clear ht hst
      go_wp2_with fail
      ((with_reducible refine (CP.out.of hG hb).mono ?_); rintro e w2 ⟨rfl, hb2⟩)
      replace hb := bto hb hb2
      clear hb2 CP p0 p1 hcall
      cases hq : canB t
      · have HV : Hid (idxF ts 0 = k) := by show _ = _; rw [HK.out, HD.out, if_neg (by rw [hq]; decide)]
        clear hq HK HD
        go_wp2
        go_ret
        exact ⟨reti HV.out.symm, hb⟩
      · have HV : Hid (idxF ts 0 = idxF (ts.drop (k + 1)) (k + 1)) := by show _ = _; rw [HK.out, HD.out, if_pos hq]
        clear hq HK HD
        go_wp2
        go_roundw
        case rel => exact ⟨k + 1, by omega, by go_num, HV, hb⟩
        case measure => simp [intOf]; omega
    · have HV : Hid (idxF ts 0 = -1) := by show _ = _; rw [HK.out, List.drop_of_length_le (by rw [HN.out]; omega)]; rfl
      go_wp2
      go_ret
      exact ⟨reti HV.out.symm, hb⟩
set_option maxHeartbeats 1000000 in
set_option maxRecDepth 100000 in
theorem hasFrs (A : Option Addr) (ts : List Fs) (n c : Nat) (w : World) (hG : Glob w) (hn : ts.length = n) (hn2 : n ≤ 1000000000) (hs : ∀ t ∈ ts, t.1.length ≤ 60 ∧ t.2.length ≤ 60) (h : FsAt w A ts) :
    Calls Tryz.prog 114 #[.slice A n c, .func (Fn.func 115) #[] #[]] w fun e w' => e = .returned (.bool (!(ts.all canB))) ∧ Below w.heap.size w w' := by
  have C1 := Lib.hid (idxFrs A ts n c w hG hn hn2 hs h)
  have HV := Lib.hid (idxF_all ts 0)
  clear h hn hs
  generalize idxF ts 0 = i at *
  go_enter Tryz.func114, Tryz.ntmps114
  go_wp2_with fail
  ((with_reducible refine C1.out.mono ?_); rintro e w2 ⟨rfl, hb2⟩)
  go_wp2
  go_ret
  exact ⟨retb HV.out, hb2⟩
theorem can_frs {fs : List Fs} (h : fs.all canB = true) : fs = frs (fs.map fsV) := by
  unfold frs
  rw [List.map_map]
  conv => lhs; rw [← List.map_id fs]
  refine List.map_congr_left (fun t ht => ?_)
  have h1 : t.1 = fN (fv t.1 t.2) ∧ t.2 = fD (fv t.1 t.2) := of_decide_eq_true (List.all_eq_true.1 h t ht)
  exact Prod.ext h1.1 h1.2
set_option maxHeartbeats 4000000 in
set_option maxRecDepth 100000 in
theorem vals1_in (bl : Nat) (A : Option Addr) (qs : List Rat) (n c M : Nat) (w : World) (hn : qs.length = n) (hn3 : n ≤ 1000) (hq : ∀ q ∈ qs, Bd M q) (h : FsAt w A (frs qs)) (hbl : Blk w bl #[.slice A n c]) :
    IterOk w 175 #[.pointer (some ⟨bl, 0, none⟩)] qs M := by
  intro m lw S hSB hSm hY W hS
  have HI := Lib.hid h
  have HB := Lib.hid hSB
  have HM := Lib.hid hSm
  have HY := Lib.hid hY
  have HX := Lib.hid hS
  have HN := Lib.hid hn
  have HQq := Lib.hid hq
  have q0 : W.cell? ⟨bl, 0, none⟩ = some (.slice A n c) := (hbl.below (HB.out _ _ HX.out)).c 0
  clear h hSB hSm hY hS hn hq
  show CallsIn Fence.wide m Tryz.prog 175 #[.func (.yield lw) #[] #[], .pointer (some ⟨bl, 0, none⟩)] W _
  refine callsIn_of_wp Tryz.func175 rfl trivial ?_ rfl
  simp only [Tryz.ntmps175, List.size_toArray, List.length_cons, List.length_nil, Nat.reduceAdd, Nat.reduceSub, Array.replicate_succ, Array.replicate_zero, List.push_toArray, List.append_toArray, List.nil_append, List.cons_append]
  gi_wp2_with fail
  clear q0
  gi_loopw [7] (fun iv wr => ∃ k : Nat, k ≤ n ∧ iv = .int .i64 (k : Int) ∧ Hid (S (qs.take k) wr)) (fun iv _ => n - (intOf iv).toNat)
  case atStart => exact ⟨0, Nat.zero_le _, rfl, HX.out⟩
  case round =>
    clear HX
    obtain ⟨k, hk, rfl, HX⟩ := hrel
    by_cases hlk : k < n
    rotate_left
    · have HE : Hid (S qs wr) := by
        show S _ _
        have h1 := HX.out
        rwa [List.take_of_length_le (by rw [HN.out]; omega)] at h1
      have e1 : decide ((k : Int) < n) = false := decide_eq_false (by omega)
      clear HX
      gi_wp2
      go_end0
      exact ⟨⟨_, rfl⟩, HE.out⟩
    have e1 : decide ((k : Int) < n) = true := decide_eq_true (by omega)
    obtain ⟨y, hy⟩ : ∃ y, qs[k]? = some y := ⟨_, List.getElem?_eq_getElem (by rw [HN.out]; omega)⟩
    obtain ⟨b, o, rfl, hbs, p0, p1⟩ := (HI.out.below (HB.out _ _ HX.out)) k (fN y, fD y) (by unfold frs; rw [List.getElem?_map, hy]; rfl)
    have HS2 : Hid (qs.take k ++ [y] = qs.take (k + 1)) := (take_snoc hy).symm
    have HYY : Hid (∀ W, S (qs.take k) W → YieldAt Fence.wide (m - 1) Tryz.prog lw #[(Value.agg #[Value.string ⟨List.toArray (fN y)⟩, Value.string ⟨List.toArray (fD y)⟩])] W fun e W' => e = .returned (.bool true) ∧ S (qs.take (k + 1)) W') := fun W h1 => by
      rw [← HS2.out]
      exact HY.out _ y W h1 (HQq.out y (List.mem_of_getElem? hy)) (by rw [List.length_take, HN.out]; omega)
    have x4 := FBox.new wr (.string ⟨(fN y).toArray⟩) (.string ⟨(fD y).toArray⟩) 32
    have HX3 := Lib.hid (HM.out _ _ _ HX.out (below_alloc wr (.cells #[.string ⟨(fN (y)).toArray⟩, .string ⟨(fD (y)).toArray⟩] 32)))
    have g0 := x4.c0
    have g1 := x4.c1
    obtain ⟨fn, tmps, assign, body, hyr, hR⟩ := HYY.out _ HX3.out
    clear hy x4 HX
    gi_wp2
    refine ⟨fun h => (by cases h), hR.mono ?_⟩
    rintro e W3 ⟨rfl, hS3⟩
    have HX4 := Lib.hid hS3
    clear hS3 hR hyr
    gi_wp2
    go_roundw
    case rel => exact ⟨k + 1, by omega, by go_num, HX4.out⟩
    case measure => simp [intOf]; omega
theorem vals_any (A : Option Addr) (n c : Nat) (w : World) :
    Calls Tryz.prog 116 #[.slice A n c] w fun e w' => e = .returned (.func (.func 175) #[] #[.pointer (some ⟨w.heap.size, 0, none⟩)]) ∧ w' = w.alloc (.cells #[.slice A n c] 41) := by
  go_enter Tryz.func116, Tryz.ntmps116
  go_wp2_with fail
  go_ret
  exact ⟨rfl, rfl⟩
set_option maxHeartbeats 2000000 in
set_option maxRecDepth 100000 in
theorem twLink {w : World} {A : Option Addr} {fs : List Fs} {n : Nat} (hG : Glob w) (h : FL w A fs n) (c : Nat) : RetB w 50 #[.slice A n c] (linkV fs) := fun w' hbw => by
  replace hG := hG.below hbw
  replace h := h.below hbw
  clear hbw
  have x2 := FBox.new w' (.string ⟨#[]⟩) (.string ⟨#[]⟩) 32
  have hb := below_alloc w' (.cells #[.string ⟨#[]⟩, .string ⟨#[]⟩] 32)
  by_cases h4 : 400 < n
  · have HV : Hid (linkV fs = .tuple #[.agg #[.string ⟨#[]⟩, .string ⟨#[]⟩], .int .i64 4]) := if_pos (by rw [h.len]; exact h4)
    have e1 : decide (400 < n) = true := decide_eq_true h4
    clear h
    go_enter Tryz.func50, Tryz.ntmps50
    go_wp2
    refine bodyPost_ret (v := .tuple #[.agg #[.string ⟨#[]⟩, .string ⟨#[]⟩], .int .i64 4]) (by simp [results, Tryz.results50, go_sem]) rfl ?_
    exact ⟨by rw [HV.out], hb⟩
  have e1 : decide (400 < n) = false := decide_eq_false h4
  have h12 : n ≤ 12 := by have := h.gap; omega
  have C1 := Lib.hid (fun (w1 : World) (hb : Below w'.heap.size w' w1) => hasFrs A fs n c w1 (hG.below hb) h.len (by omega) h.str (h.mem.below hb))
  cases ga : fs.all canB
  · have HV : Hid (linkV fs = .tuple #[.agg #[.string ⟨#[]⟩, .string ⟨#[]⟩], .int .i64 1]) := by show _ = _; unfold linkV; rw [if_neg (by rw [h.len]; exact h4), if_neg (by rw [ga]; decide)]
    rw [ga] at C1
    clear h ga
    go_enter Tryz.func50, Tryz.ntmps50
    go_wp2_with fail
    refine (C1.out _ hb).mono ?_
    rintro e w1 ⟨rfl, hb1⟩
    replace x2 := x2.below hb1
    replace hb := bto hb hb1
    clear hb1 C1
    have g0 := x2.c0
    have g1 := x2.c1
    have g2 := x2.f0
    have g3 := x2.f1
    go_wp2
    have hy := x2.set (.string ⟨#[]⟩) (.string ⟨#[]⟩)
    have d0 := hy.c0
    have d1 := hy.c1
    refine bodyPost_ret (v := .tuple #[.agg #[.string ⟨#[]⟩, .string ⟨#[]⟩], .int .i64 1]) (by simp [results, Tryz.results50, go_sem, d0, d1]) rfl ?_
    exact ⟨by rw [HV.out], below_set2 hb (Nat.le_refl _) _ _⟩
  have HV : Hid (linkV fs = .tuple #[(Value.agg #[Value.string ⟨List.toArray (fN (prodQ 1 (fs.map fsV)))⟩, Value.string ⟨List.toArray (fD (prodQ 1 (fs.map fsV)))⟩]), .int .i64 0]) := by show _ = _; unfold linkV; rw [if_neg (by rw [h.len]; exact h4), if_pos ga]
  rw [ga] at C1
  have hfr := can_frs ga
  have hbq : ∀ q ∈ fs.map fsV, Bd 60 q := fun q hq => by
    obtain ⟨t, ht, rfl⟩ := List.mem_map.1 hq
    exact bd_fv (h.str t ht).1 (h.str t ht).2 (by decide)
  have hlen : (fs.map fsV).length = n := by rw [List.length_map, h.len]
  have CI : Hid (∀ w1, Below w'.heap.size w' w1 → IterOk (w1.alloc (.cells #[.slice A n c] 41)) 175 #[.pointer (some ⟨w1.heap.size, 0, none⟩)] (fs.map fsV) 60) := fun w1 hb1 =>
    vals1_in w1.heap.size A (fs.map fsV) n c 60 _ hlen (by omega) hbq (by rw [← hfr]; exact h.mem.below (bto hb1 (below_alloc _ _))) (Blk.new _ _ _)
  generalize fs.map fsV = qs at *
  clear h ga hfr hbq
  go_enter Tryz.func50, Tryz.ntmps50
  go_wp2_with fail
  refine (C1.out _ hb).mono ?_
  rintro e w1 ⟨rfl, hb1⟩
  replace x2 := x2.below hb1
  replace hb := bto hb hb1
  clear hb1 C1
  go_wp2_with fail
  refine (vals_any A n c _).mono ?_
  rintro e w2 ⟨rfl, rfl⟩
  have C2 := Lib.hid (twProduct 175 #[.pointer (some ⟨w1.heap.size, 0, none⟩)] qs 60 (w1.alloc (.cells #[.slice A n c] 41)) (hG.below (bto hb (below_alloc _ _))) enter_v1 (CI.out w1 hb) (by omega))
  replace x2 := x2.below (below_alloc _ (.cells #[.slice A n c] 41))
  replace hb := bto hb (below_alloc _ (.cells #[.slice A n c] 41))
  go_wp2_with fail
  refine C2.out.mono ?_
  rintro e w3 ⟨rfl, hb3⟩
  replace x2 := x2.below hb3
  replace hb := bto hb hb3
  clear hb3 C2 CI
  have g0 := x2.c0
  have g1 := x2.c1
  have g2 := x2.f0
  have g3 := x2.f1
  go_wp2
  have hy := x2.set (.string ⟨(fN (prodQ 1 qs)).toArray⟩) (.string ⟨(fD (prodQ 1 qs)).toArray⟩)
  have d0 := hy.c0
  have d1 := hy.c1
  refine bodyPost_ret (v := .tuple #[.agg #[.string ⟨(fN (prodQ 1 qs)).toArray⟩, .string ⟨(fD (prodQ 1 qs)).toArray⟩], .int .i64 0]) (by simp [results, Tryz.results50, go_sem, d0, d1]) rfl ?_
  exact ⟨by rw [HV.out], below_set2 hb (Nat.le_refl _) _ _⟩
end Go.Proofs.YtmjglcgdcclinaaGreatDoor
