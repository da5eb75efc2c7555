/- trancheref10.CheckAll. -/
import Derived.Test.YtmmhimgkpfcokaaGreatDoorIp
namespace Go.Proofs.YtmmhimgkpfcokaaGreatDoor
open Go.RowKit Num
set_option maxHeartbeats 4000000 in
set_option maxRecDepth 100000 in
theorem jCheckAll (A : Option Addr) (xs : List Ins) (n c : Nat) (A2 : Option Addr) (ts : List Cur) (m c2 : Nat) (w : World) (hG : Glob w) (hn : xs.length = n) (hx : ∀ x ∈ xs, x.Small) (h : InsAt w A xs) (hm : ts.length = m) (hs : ShortC ts) (h2 : CurAt w A2 ts) (hm2 : m ≤ 1000000000) :
    Calls Tryz.prog 28 #[.slice A n c, .slice A2 m c2] w fun e w' => e = .returned (.int .i64 (allE xs ts)) ∧ Below w.heap.size w w' := by
  have CT := Lib.hid (jTable A2 ts m c2 w hG hm hs h2)
  have HI := Lib.hid h
  have HX := Lib.hid hx
  have H2 := Lib.hid h2
  have hn1 : xs.length ≤ n := by omega
  have hn2 : n ≤ xs.length := by omega
  have HM := Lib.hid hm
  clear h hx h2 hn hm hs
  by_cases g0 : tabE ts = 0
  rotate_left
  · have e1 : (tabE ts == 0) = false := by rw [beq_eq_false_iff_ne]; exact g0
    have e2 := bneq' e1
    have HV : Hid (allE xs ts = 1) := if_pos g0
    clear g0
    go_enter Tryz.func28, Tryz.ntmps28
    go_wp2_with fail
    ((with_reducible refine CT.out.mono ?_); rintro e w1 ⟨rfl, hb⟩)
    go_wp2
    go_ret
    exact ⟨reti HV.out.symm, hb⟩
  have HV0 : Hid (allE xs ts = if 64 < xs.length then 4 else allL ts [] xs) := if_neg (fun h => h g0)
  rw [g0] at CT
  clear g0
  by_cases g1 : 64 < n
  · have e1 : decide (64 < n) = true := decide_eq_true g1
    have HV : Hid (allE xs ts = 4) := by show _ = _; rw [HV0.out, if_pos (by omega)]
    go_enter Tryz.func28, Tryz.ntmps28
    go_wp2_with fail
    ((with_reducible refine CT.out.mono ?_); rintro e w1 ⟨rfl, hb⟩)
    go_wp2
    go_ret
    exact ⟨reti HV.out.symm, hb⟩
  have e1 : decide (64 < n) = false := decide_eq_false g1
  have HV : Hid (allE xs ts = allL ts [] xs) := by show _ = _; rw [HV0.out, if_neg (by omega)]
  clear HV0
  go_enter Tryz.func28, Tryz.ntmps28
  go_wp2_with fail
  ((with_reducible refine CT.out.mono ?_); rintro e w1 ⟨rfl, hb1⟩)
  go_wp2_with fail
  clear e1 CT
  go_loopw [5] (fun iv wr => ∃ k : Nat, k ≤ n ∧ iv = .int .i64 (k : Int) ∧ Hid (allL ts [] xs = allL ts (xs.take k) (xs.drop k)) ∧ Below w.heap.size w wr) (fun iv _ => n - (intOf iv).toNat)
  case atStart => exact ⟨0, Nat.zero_le _, rfl, rfl, hb1⟩
  case round =>
    obtain ⟨k, hk, rfl, HK, hb⟩ := hrel
    by_cases hlk : k < n
    rotate_left
    · have HQ : Hid (allL ts [] xs = 0) := by show _ = _; rw [HK.out, List.drop_of_length_le (by omega)]; rfl
      go_wp2
      go_ret
      exact ⟨reti (HV.out.trans HQ.out).symm, hb⟩
    obtain ⟨x, hxk⟩ : ∃ x, xs[k]? = some x := ⟨_, List.getElem?_eq_getElem (by omega)⟩
    obtain ⟨b, o, rfl, hbs, hc0⟩ := (HI.out.below hb) k x hxk
    have HD := Lib.hid (allL_step (ts := ts) hxk)
    have hsm := HX.out x (List.mem_of_getElem? hxk)
    have HT := Lib.hid (idx_take hxk (p := isId x.id) (by unfold isId; rw [beq_iff_eq]))
    clear hxk
    have p0 := hc0.c0
    have p1 := hc0.c1
    have p2 := hc0.c2
    have p3 := hc0.c3
    have p4 := hc0.c4
    have p5 := hc0.c5
    have p6 := hc0.c6
    have p7 := hc0.c7
    have p8 := hc0.c8
    have p9 := hc0.c9
    have p10 := hc0.c10
    have p11 := hc0.c11
    have p12 := hc0.c12
    have p13 := hc0.c13
    have p14 := hc0.c14
    have C1 := Lib.hid (jCheck x hsm)
    go_wp2_with fail
    ((with_reducible refine (C1.out.of hG hb).mono ?_); rintro e w2 ⟨rfl, hb2⟩)
    replace hc0 := hc0.below hbs hb2
    replace hbs := Nat.lt_of_lt_of_le hbs hb2.size
    replace hb := bto hb hb2
    clear hb2 C1 p0 p1 p2 p3 p4 p5 p6 p7 p8 p9 p10 p11 p12 p13 p14
    by_cases g2 : chkE x = 0
    rotate_left
    · have e1 : (chkE x == 0) = false := by rw [beq_eq_false_iff_ne]; exact g2
      have e2 := bneq' e1
      have HQ : Hid (allL ts [] xs = chkE x) := by show _ = _; rw [HK.out, HD.out, if_pos g2]
      clear g2 HK HD
      go_wp2
      go_ret
      exact ⟨reti (HV.out.trans HQ.out).symm, hb⟩
    have e1 : (chkE x == 0) = true := by rw [beq_iff_eq]; exact g2
    have e2 := bneq e1
    have HQ : Hid (allL ts [] xs = if (xs.take k).any (isId x.id) = true then 5 else if ¬ knownE x ts = 0 then 12 else allL ts (xs.take (k + 1)) (xs.drop (k + 1))) := by show _ = _; rw [HK.out, HD.out, if_neg (fun h => h g2)]
    clear g2 HK HD
    have cF := jFind _ xs n c x.id w2 (by omega) (by omega) (HI.out.below hb)
    unfold findV at cF
    generalize max (idxB (isId x.id) xs 0) 0 = fi at cF HT
    generalize decide (0 ≤ idxB (isId x.id) xs 0) = fx at cF
    generalize (xs.take k).any (isId x.id) = fb at HT HQ
    have CF := Lib.hid cF
    have p0 := hc0.c0
    clear cF
    go_wp2_with fail
    ((with_reducible refine CF.out.mono ?_); rintro e w3 ⟨rfl, hb3⟩)
    replace hc0 := hc0.below hbs hb3
    replace hbs := Nat.lt_of_lt_of_le hbs hb3.size
    replace hb := bto hb hb3
    clear hb3 CF p0 e1 e2
    have CH : ∀ s : List UInt8, Calls Tryz.prog 93 #[.slice A2 m c2, .string ⟨s.toArray⟩] w3 (fun e w' => e = .returned (.bool (findT ts s).isSome) ∧ w3 = w') := fun s => jHas A2 ts m c2 s w3 HM.out hm2 (H2.out.below hb)
    cases fb with
    | true =>
      have e3 : decide (fi < (k : Int)) = true := HT.out
      have e4 : fi < (k : Int) := of_decide_eq_true e3
      clear CH
      go_wp2
      go_ret
      exact ⟨reti (HV.out.trans HQ.out).symm, hb⟩
    | false =>
      have e3 : decide (fi < (k : Int)) = false := HT.out
      have e4 : ¬ fi < (k : Int) := of_decide_eq_false e3
      have HQ2 : Hid (allL ts [] xs = if ¬ knownE x ts = 0 then 12 else allL ts (xs.take (k + 1)) (xs.drop (k + 1))) := HQ.out
      have p1 := hc0.c1
      have p2 := hc0.c2
      have p12 := hc0.c12
      have HCu := Lib.hid (CH x.cur)
      have HOt := Lib.hid (CH x.other)
      by_cases k5 : x.kind = 5
      · have f5 : (x.kind == 5) = true := by rw [beq_iff_eq]; exact k5
        have hke : knownE x ts = if ((findT ts x.cur).isSome && (findT ts x.other).isSome) = true then 0 else 12 := by unfold knownE codesOf; rw [if_pos k5]; simp
        rw [hke] at HQ2
        clear hke k5 CH
        generalize (findT ts x.cur).isSome = hcu at HQ2 HCu
        generalize (findT ts x.other).isSome = hot at HQ2 HOt
        cases hcu with
        | false =>
          have HR : Hid (allL ts [] xs = 12) := HQ2.out
          go_wp2_with fail
          ((with_reducible refine (HCu.out).mono ?_); rintro e wq ⟨rfl, rfl⟩)
          go_wp2
          go_ret
          exact ⟨reti (HV.out.trans HR.out).symm, hb⟩
        | true =>
          cases hot with
          | false =>
            have HR : Hid (allL ts [] xs = 12) := HQ2.out
            go_wp2_with fail
            ((with_reducible refine (HCu.out).mono ?_); rintro e wq ⟨rfl, rfl⟩)
            go_wp2_with fail
            ((with_reducible refine (HOt.out).mono ?_); rintro e wq ⟨rfl, rfl⟩)
            go_wp2
            go_ret
            exact ⟨reti (HV.out.trans HR.out).symm, hb⟩
          | true =>
            have HR : Hid (allL ts [] xs = allL ts (xs.take (k + 1)) (xs.drop (k + 1))) := HQ2.out
            go_wp2_with fail
            ((with_reducible refine (HCu.out).mono ?_); rintro e wq ⟨rfl, rfl⟩)
            go_wp2_with fail
            ((with_reducible refine (HOt.out).mono ?_); rintro e wq ⟨rfl, rfl⟩)
            go_wp2
            go_roundw
            case rel => exact ⟨k + 1, by omega, by go_num, HR, hb⟩
            case measure => simp [intOf]; omega
      · have f5 : (x.kind == 5) = false := by rw [beq_eq_false_iff_ne]; exact k5
        have hke : knownE x ts = if (findT ts x.cur).isSome = true then 0 else 12 := by unfold knownE codesOf; rw [if_neg k5]; simp
        rw [hke] at HQ2
        clear hke k5 CH HOt
        generalize (findT ts x.cur).isSome = hcu at HQ2 HCu
        cases hcu with
        | false =>
          have HR : Hid (allL ts [] xs = 12) := HQ2.out
          go_wp2_with fail
          ((with_reducible refine (HCu.out).mono ?_); rintro e wq ⟨rfl, rfl⟩)
          go_wp2
          go_ret
          exact ⟨reti (HV.out.trans HR.out).symm, hb⟩
        | true =>
          have HR : Hid (allL ts [] xs = allL ts (xs.take (k + 1)) (xs.drop (k + 1))) := HQ2.out
          go_wp2_with fail
          ((with_reducible refine (HCu.out).mono ?_); rintro e wq ⟨rfl, rfl⟩)
          go_wp2
          go_roundw
          case rel => exact ⟨k + 1, by omega, by go_num, HR, hb⟩
          case measure => simp [intOf]; omega

end Go.Proofs.YtmmhimgkpfcokaaGreatDoor
