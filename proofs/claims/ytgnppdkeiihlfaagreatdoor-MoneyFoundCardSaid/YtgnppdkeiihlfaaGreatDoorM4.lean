/- Texts put together: De Bs Df Dg Ea Eb Na Ec Ed. -/
import Derived.Test.YtgnppdkeiihlfaaGreatDoorM3
import Derived.Test.YtgnppdkeiihlfaaGreatDoorMBe
import Derived.Test.YtgnppdkeiihlfaaGreatDoorMCd
import Derived.Shelf.Strings.Trim
import Derived.Shelf.Strconv.Itoa3
import Derived.Shelf.Strings.Search3
import Derived.Shelf.Strings.Prefix
import Derived.Lib.AppendIntMem
import Derived.BigQuiet
namespace Go.Proofs.YtgnppdkeiihlfaaGreatDoor
open Go.RowKit Num
theorem decQ_bd {s : List UInt8} {K : Nat} (hK : s.length + s.length < K) (hd : (decW s ++ decP s).all isDig = true) : Bd K (decQ s) := by
  have hW := decW_len s
  have hP := decP_len s
  unfold decQ
  refine bd_divInt ?_ ?_ ?_
  · have h1 : (decZ s).natAbs = decN' s := by unfold decZ; split <;> omega
    rw [h1]
    unfold decN'
    exact Nat.lt_of_lt_of_le (nat_lt _ hd) (Nat.pow_le_pow_right (by decide) (by rw [List.length_append]; omega))
  · rw [Int.natAbs_natCast]; exact Nat.pow_lt_pow_right (by decide) (by omega)
  · have := Nat.pow_pos (n := (decP s).length) (show 0 < 10 by decide); omega


theorem decOk_dig {s : List UInt8} (h : decOk s = true) : (decW s ++ decP s).all isDig = true := by
  obtain ⟨h1, h2, -, -⟩ := decOk_parts h
  rw [List.all_append, (okW_fmt h1).2.2, h2]; rfl
/-- what Parse returns -/
def ParseV (s : List UInt8) (p : Nat) : Value :=
  if decOk s = true then (if (decQ s * tenQ p).den = 1 then .tuple #[.string ⟨(canon (decQ s * tenQ p).num).toArray⟩, .int .i64 0] else .tuple #[.string ⟨#[]⟩, .int .i64 22]) else .tuple #[.string ⟨#[]⟩, .int .i64 3]
theorem parseV_f {s : List UInt8} {p : Nat} (h : decOk s = false) : ParseV s p = .tuple #[.string ⟨#[]⟩, .int .i64 3] := if_neg (by rw [h]; decide)
theorem parseV_1 {s : List UInt8} {p : Nat} (h : decOk s = true) (h1 : (decQ s * tenQ p).den = 1) : ParseV s p = .tuple #[.string ⟨(canon (decQ s * tenQ p).num).toArray⟩, .int .i64 0] := by unfold ParseV; rw [if_pos h, if_pos h1]
theorem parseV_0 {s : List UInt8} {p : Nat} (h : decOk s = true) (h1 : ¬ (decQ s * tenQ p).den = 1) : ParseV s p = .tuple #[.string ⟨#[]⟩, .int .i64 22] := by unfold ParseV; rw [if_pos h, if_neg h1]
theorem cmp_one (d : Nat) : cmpZ (d : Int) 1 = 0 ↔ d = 1 := by
  unfold cmpZ
  split
  · constructor <;> intro h <;> omega
  · split
    · constructor <;> intro h <;> omega
    · constructor <;> intro h <;> omega
set_option maxHeartbeats 2000000 in
set_option maxRecDepth 100000 in
theorem dParse {s : List UInt8} (hs : s.length ≤ 1000) {p : Nat} (hp : p ≤ 12) : Ret 172 #[.string ⟨s.toArray⟩, .int .i64 (p : Int)] (ParseV s p) := fun w hG => by
  have C1 := Lib.hid (dPlaces (n := (p : Int)) (by omega) (by omega))
  have c2 := dFrac hs
  have hb := Below.refl w.heap.size w
  cases hok : decOk s
  · rw [fracV_f hok] at c2
    have HV := Lib.hid (parseV_f (p := p) hok)
    have C2 := Lib.hid c2
    clear c2 hok hs hp
    go_enter Tryz.func172, Tryz.ntmps172
    go_wp2_with fail
    ((with_reducible refine (C1.out.of hG hb).mono ?_); rintro e w1 ⟨rfl, hb1⟩)
    replace hb := bto hb hb1
    go_wp2_with fail
    ((with_reducible refine (C2.out.of hG hb).mono ?_); rintro e w2 ⟨rfl, hb2⟩)
    replace hb := bto hb hb2
    go_wp2
    go_ret2
    exact ⟨by rw [HV.out]; first | done | rfl, bto hb (below_alloc _ _)⟩
  · rw [fracV_t hok] at c2
    obtain ⟨K, hK1, hK2⟩ : ∃ K, s.length + s.length < K ∧ K ≤ 2001 := ⟨2001, by omega, by omega⟩
    have bq := decQ_bd hK1 (decOk_dig hok)
    have hV1 := parseV_1 (p := p) hok
    have hV0 := parseV_0 (p := p) hok
    have iq := isq_fr bq (by omega)
    have bs := bd_mul bq (bd_ten p)
    have c3 := dShift iq hp rfl
    have c4 := rParts (isq_fr bs (by omega))
    have hde : ((decQ s * tenQ p).den : Int).natAbs < 10 ^ (K + (p + 1)) := by rw [Int.natAbs_natCast]; exact bs.2
    have c5 := riCompare (l := canon ((decQ s * tenQ p).den : Int)) (l' := [49]) (canon_len_of hde (by omega)) (by decide) (show cmpZ (val (canon ((decQ s * tenQ p).den : Int))) (val [49]) = cmpZ ((decQ s * tenQ p).den : Int) 1 by rw [val_canon]; rfl)
    have hone := cmp_one (decQ s * tenQ p).den
    have HN : Hid (fN (decQ s * tenQ p) = canon (decQ s * tenQ p).num) := rfl
    rw [← HN.out] at hV1
    clear HN hde bs iq bq hok hs hK1
    generalize canon ((decQ s * tenQ p).den : Int) = E at *
    generalize cmpZ ((decQ s * tenQ p).den : Int) 1 = c at *
    generalize (decQ s * tenQ p).den = d at *
    generalize fN (decQ s * tenQ p) = M at *
    generalize fD (decQ s * tenQ p) = M' at *
    generalize fN (decQ s) = N at *
    generalize fD (decQ s) = D at *
    generalize ParseV s p = V at *
    have C2 := Lib.hid c2
    have C3 := Lib.hid c3
    have C4 := Lib.hid c4
    have C5 := Lib.hid c5
    have HV1 := Lib.hid hV1
    have HV0 := Lib.hid hV0
    have HO := Lib.hid hone
    clear c2 c3 c4 c5 hV1 hV0 hone hp
    go_enter Tryz.func172, Tryz.ntmps172
    go_wp2_with fail
    ((with_reducible refine (C1.out.of hG hb).mono ?_); rintro e w2 ⟨rfl, hb2⟩)
    replace hb := bto hb hb2
    clear hb2
    go_wp2_with fail
    ((with_reducible refine (C2.out.of hG hb).mono ?_); rintro e w3 ⟨rfl, hb3⟩)
    replace hb := bto hb hb3
    clear hb3
    have x7 := FBox.new w3 (.string ⟨N.toArray⟩) (.string ⟨D.toArray⟩) 25
    replace hb := bto hb (below_alloc w3 (.cells #[.string ⟨N.toArray⟩, .string ⟨D.toArray⟩] 25))
    have qx7_0 := x7.c0
    have qx7_1 := x7.c1
    go_wp2_with fail
    ((with_reducible refine (C3.out.of hG hb).mono ?_); rintro e w4 ⟨rfl, hb4⟩)
    clear qx7_0 qx7_1
    replace x7 := x7.below hb4
    replace hb := bto hb hb4
    clear hb4
    go_wp2_with fail
    ((with_reducible refine (C4.out.of hG hb).mono ?_); rintro e w5 ⟨rfl, hb5⟩)
    replace x7 := x7.below hb5
    replace hb := bto hb hb5
    clear hb5
    go_wp2_with fail
    ((with_reducible refine (C5.out.of hG hb).mono ?_); rintro e w6 ⟨rfl, hb6⟩)
    replace x7 := x7.below hb6
    replace hb := bto hb hb6
    clear hb6
    clear x7
    by_cases h1 : c = 0
    · have e1 := intbeq h1
      have e2 := bneq e1
      have HV := Lib.hid (HV1.out (HO.out.1 h1))
      clear h1
      go_wp2
      go_ret2
      exact ⟨by rw [HV.out]; first | done | rfl, hb⟩
    · have e1 := intbne h1
      have e2 := bneq' e1
      have HV := Lib.hid (HV0.out (fun h => h1 (HO.out.2 h)))
      clear h1
      go_wp2
      go_ret2
      exact ⟨by rw [HV.out]; first | done | rfl, hb⟩
end Go.Proofs.YtgnppdkeiihlfaaGreatDoor
namespace Go.Proofs
open Go.Shelf
end Go.Proofs
namespace Go.Proofs.YtgnppdkeiihlfaaGreatDoor
open Go.RowKit Num
end Go.Proofs.YtgnppdkeiihlfaaGreatDoor
namespace Go.Proofs.YtgnppdkeiihlfaaGreatDoor
open Go.RowKit Num
end Go.Proofs.YtgnppdkeiihlfaaGreatDoor
namespace Go.Proofs.YtgnppdkeiihlfaaGreatDoor
open Go.RowKit Num
end Go.Proofs.YtgnppdkeiihlfaaGreatDoor
namespace Go.Proofs.YtgnppdkeiihlfaaGreatDoor
open Go.RowKit Num
end Go.Proofs.YtgnppdkeiihlfaaGreatDoor
namespace Go.Proofs.YtgnppdkeiihlfaaGreatDoor
open Go.RowKit Num
end Go.Proofs.YtgnppdkeiihlfaaGreatDoor
namespace Go.Proofs.YtgnppdkeiihlfaaGreatDoor
open Go.RowKit Num
/-- a table within the statements' sizes, in memory -/
structure TL (w : World) (A : Option Addr) (ts : List Cur) (n c : Nat) : Prop where
  len : ts.length = n
  cap : n ≤ c
  sm : n ≤ 1000
  str : ∀ t ∈ ts, t.code.length ≤ 1000
  mem : CurAt w A ts
theorem TL.below {w w' : World} {A : Option Addr} {ts : List Cur} {n c : Nat} (h : TL w A ts n c) (hb : Below w.heap.size w w') : TL w' A ts n c := ⟨h.len, h.cap, h.sm, h.str, h.mem.below hb⟩
theorem TL.short {w : World} {A : Option Addr} {ts : List Cur} {n c : Nat} (h : TL w A ts n c) : ShortC ts := fun t ht => Nat.le_trans (h.str t ht) (by decide)
theorem mTableB {w : World} {A : Option Addr} {ts : List Cur} {n c : Nat} (hG : Glob w) (h : TL w A ts n c) : RetB w 47 #[.slice A n c] (.int .i64 (tabE ts)) := fun w' hb => mTable A ts n c w' (hG.below hb) h.len h.cap h.short (h.mem.below hb)
theorem jTableB {w : World} {A : Option Addr} {ts : List Cur} {n c : Nat} (hG : Glob w) (h : TL w A ts n c) : RetB w 48 #[.slice A n c] (.int .i64 (tabE ts)) := fun w' hb => jTable A ts n c w' (hG.below hb) h.len h.short (h.mem.below hb)
theorem mFindB {w : World} {A : Option Addr} {ts : List Cur} {n c : Nat} (h : TL w A ts n c) (code : List UInt8) : RetB w 45 #[.slice A n c, .string ⟨code.toArray⟩] (curV (findT ts code)) := fun w' hb => mFind A ts n c code w' h.len (Nat.le_trans h.sm (by decide)) (h.mem.below hb)
set_option maxHeartbeats 1000000 in
set_option maxRecDepth 100000 in
theorem jFind5 (A : Option Addr) (ts : List Cur) (n c : Nat) (code : List UInt8) (w : World) (hn : ts.length = n) (hn2 : n ≤ 1000000000) (h : CurAt w A ts) :
    Calls Tryz.prog 46 #[.slice A n c, .string ⟨code.toArray⟩] w fun e w' => e = .returned (curV (findT ts code)) ∧ Below w.heap.size w w' := by
  have HI := Lib.hid h
  have hn1 : ts.length ≤ n := by omega
  have hn3 : n ≤ ts.length := by omega
  have x4 := FBox.new w (.string ⟨#[]⟩) (.int .i64 0) 64
  have hb0 := below_alloc w (.cells #[.string ⟨#[]⟩, .int .i64 0] 64)
  clear h hn
  go_enter Tryz.func46, Tryz.ntmps46
  go_wp2_with fail
  go_loopw [6] (fun iv wr => ∃ k : Nat, k ≤ n ∧ iv = .int .i64 (k : Int) ∧ Hid (findT ts code = findT (ts.drop k) code) ∧ FBox wr w.heap.size (.string ⟨#[]⟩) (.int .i64 0) ∧ Below w.heap.size w wr) (fun iv _ => n - (intOf iv).toNat)
  case atStart => exact ⟨0, Nat.zero_le _, rfl, rfl, x4, hb0⟩
  case round =>
    clear x4 hb0
    obtain ⟨k, hk, rfl, HK, y4, hb⟩ := hrel
    by_cases hlk : k < n
    · obtain ⟨t, ht⟩ : ∃ t, ts[k]? = some t := ⟨_, List.getElem?_eq_getElem (by omega)⟩
      obtain ⟨b, o, rfl, hbs, p0, p1⟩ := (HI.out.below hb) k t ht
      have HD := Lib.hid (findT_drop (code := code) ht)
      clear ht
      by_cases he : t.code = code
      · have e1 : (t.code == code) = true := by rw [beq_iff_eq]; exact he
        have HV : Hid (curV (findT ts code) = curV (some t)) := by show _ = _; rw [HK.out, HD.out, if_pos he]
        clear he HK HD
        have q0 := y4.c0
        have q1 := y4.c1
        have q2 := y4.f0
        have q3 := y4.f1
        go_wp2
        have hy := y4.set (.string ⟨t.code.toArray⟩) (.int .i64 t.places)
        have d0 := hy.c0
        have d1 := hy.c1
        refine bodyPost_ret (v := .tuple #[.agg #[.string ⟨t.code.toArray⟩, .int .i64 t.places], .bool true]) (by simp [results, Tryz.results46, go_sem, d0, d1]) rfl ?_
        exact ⟨by rw [HV.out]; rfl, below_set2 hb (Nat.le_refl _) _ _⟩
      · have e1 : (t.code == code) = false := by rw [beq_eq_false_iff_ne]; exact he
        have HV : Hid (findT ts code = findT (ts.drop (k + 1)) code) := by show _ = _; rw [HK.out, HD.out, if_neg he]
        clear he HK HD
        go_wp2
        go_roundw
        case rel => exact ⟨k + 1, by omega, by go_num, HV, y4, hb⟩
        case measure => simp [intOf]; omega
    · have HV : Hid (curV (findT ts code) = curV none) := by show _ = _; rw [HK.out, List.drop_of_length_le (by omega)]; rfl
      have q0 := y4.c0
      have q1 := y4.c1
      have q2 := y4.f0
      have q3 := y4.f1
      go_wp2
      have hy := y4.set (.string ⟨#[]⟩) (.int .i64 0)
      have d0 := hy.c0
      have d1 := hy.c1
      refine bodyPost_ret (v := .tuple #[.agg #[.string ⟨#[]⟩, .int .i64 0], .bool false]) (by simp [results, Tryz.results46, go_sem, d0, d1]) rfl ?_
      exact ⟨by rw [HV.out]; rfl, below_set2 hb (Nat.le_refl _) _ _⟩
theorem jFindB {w : World} {A : Option Addr} {ts : List Cur} {n c : Nat} (h : TL w A ts n c) (code : List UInt8) : RetB w 46 #[.slice A n c, .string ⟨code.toArray⟩] (curV (findT ts code)) := fun w' hb => jFind5 A ts n c code w' h.len (Nat.le_trans h.sm (by decide)) (h.mem.below hb)
/-- what Text returns -/
def textV (ts : List Cur) (m : Mon) : List UInt8 × Int :=
  if ¬ tabE ts = 0 then ([], 1) else match findT ts m.cur with
    | none => ([], 12)
    | some c => if ¬ m.amt = canon (val m.amt) then ([], 1) else (textD (val m.amt) c.places.toNat ++ 32 :: m.cur, 0)
theorem findT_some {ts : List Cur} {code : List UInt8} {c : Cur} (h : findT ts code = some c) : c ∈ ts ∧ c.code = code := by
  unfold findT at h
  refine ⟨List.mem_of_find?_eq_some h, ?_⟩
  have := List.find?_some h
  simpa using this
theorem tabL_ok : ∀ (ts seen : List Cur), tabL seen ts = 0 → ∀ t ∈ ts, codeB t.code = true ∧ 0 ≤ t.places ∧ t.places ≤ 12
  | t :: r, seen, h, u, hu => by
    have h : (if ¬ codeB t.code = true then (23 : Int) else if t.places < 0 ∨ 12 < t.places then 2 else if (findT seen t.code).isSome = true then 5 else tabL (seen ++ [t]) r) = 0 := h
    by_cases g1 : codeB t.code = true
    rotate_left
    · rw [if_pos g1] at h; cases h
    by_cases g2 : t.places < 0 ∨ 12 < t.places
    · rw [if_neg (fun h => h g1), if_pos g2] at h; cases h
    by_cases g3 : (findT seen t.code).isSome = true
    · rw [if_neg (fun h => h g1), if_neg g2, if_pos g3] at h; cases h
    rw [if_neg (fun h => h g1), if_neg g2, if_neg g3] at h
    rcases List.mem_cons.1 hu with rfl | hu
    · exact ⟨g1, by omega, by omega⟩
    · exact tabL_ok r _ h u hu
theorem tabE_ok {ts : List Cur} (h : tabE ts = 0) : ts.length ≤ 16 ∧ ∀ t ∈ ts, codeB t.code = true ∧ 0 ≤ t.places ∧ t.places ≤ 12 := by
  unfold tabE at h
  by_cases h0 : 16 < ts.length
  · rw [if_pos h0] at h; cases h
  rw [if_neg h0] at h
  exact ⟨by omega, tabL_ok ts [] h⟩
theorem str_addM (a b : List UInt8) (h : a.length + b.length ≤ 1000000) (w : World) : (Go.Op.stringOp .add ⟨a.toArray⟩ ⟨b.toArray⟩).run Tryz.prog w = .ok (.string ⟨(a ++ b).toArray⟩) w := by
  have h2 : (⟨a.toArray⟩ : ByteArray).size + (⟨b.toArray⟩ : ByteArray).size ≤ 9223372036854775807 := by
    show a.toArray.size + b.toArray.size ≤ _
    simp; omega
  rw [run_string_add_sum w ⟨a.toArray⟩ ⟨b.toArray⟩ h2]
  congr 2

set_option maxHeartbeats 4000000 in
set_option maxRecDepth 100000 in
theorem mText (A : Option Addr) (ts : List Cur) (n c : Nat) (m : Mon) (w : World) (hG : Glob w) (hT : TL w A ts n c) (h1 : m.cur.length ≤ 1000) (h2 : m.amt.length ≤ 200) :
    Calls Tryz.prog 103 #[.slice A n c, (.agg #[.string ⟨m.cur.toArray⟩, .string ⟨m.amt.toArray⟩])] w fun e w' => e = .returned (.tuple #[.string ⟨(textV ts m).1.toArray⟩, .int .i64 (textV ts m).2]) ∧ Below w.heap.size w w' := by
  have CB := Lib.hid (mTableB hG hT)
  have CFn := Lib.hid (mFindB hT m.cur)
  have hb := below_alloc w (.cells #[.string ⟨m.cur.toArray⟩, .string ⟨m.amt.toArray⟩] 48)
  have x3 := FBox.new w (.string ⟨m.cur.toArray⟩) (.string ⟨m.amt.toArray⟩) 48
  clear hT
  by_cases g0 : tabE ts = 0
  rotate_left
  · have HV : Hid (textV ts m = ([], 1)) := if_pos g0
    have e1 : (tabE ts != 0) = true := bneq' (intbne g0)
    generalize tabE ts = E at *
    clear g0
    go_enter Tryz.func103, Tryz.ntmps103
    go_wp2_with fail
    ((with_reducible refine (CB.out.of hG hb).mono ?_); rintro e w2 ⟨rfl, hb2⟩)
    replace x3 := x3.below hb2
    replace hb := bto hb hb2
    clear hb2
    clear CB x3
    go_wp2
    go_ret2
    exact ⟨by rw [HV.out]; rfl, hb⟩
  have HV0 : Hid (textV ts m = match findT ts m.cur with | none => ([], 12) | some c => if ¬ m.amt = canon (val m.amt) then ([], 1) else (textD (val m.amt) c.places.toNat ++ 32 :: m.cur, 0)) := if_neg (fun h => h g0)
  have HT := Lib.hid (fun c (h : findT ts m.cur = some c) => (And.intro ((tabE_ok g0).2 c (findT_some h).1).2 (findT_some h).2))
  rw [g0] at CB
  clear g0
  generalize findT ts m.cur = fo at *
  cases fo with
  | none =>
    have HV : Hid (textV ts m = ([], 12)) := HV0.out
    unfold curV at CFn
    clear HV0 HT
    go_enter Tryz.func103, Tryz.ntmps103
    go_wp2_with fail
    ((with_reducible refine (CB.out.of hG hb).mono ?_); rintro e w2 ⟨rfl, hb2⟩)
    replace x3 := x3.below hb2
    replace hb := bto hb hb2
    clear hb2
    have q0 := x3.c0
    clear CB
    go_wp2_with fail
    ((with_reducible refine (CFn.out.of hG hb).mono ?_); rintro e w3 ⟨rfl, hb3⟩)
    replace x3 := x3.below hb3
    replace hb := bto hb hb3
    clear hb3
    clear CFn q0 x3
    go_wp2
    go_ret2
    exact ⟨by rw [HV.out]; rfl, bto hb (below_alloc _ _)⟩
  | some t =>
    obtain ⟨⟨ht0, ht12⟩, htc⟩ := HT.out t rfl
    obtain ⟨p, hp⟩ : ∃ p : Nat, p = t.places.toNat := ⟨_, rfl⟩
    have hp2 : t.places = (p : Int) := by omega
    have hp12 : p ≤ 12 := by omega
    have cfq : RetB w 45 #[.slice A n c, .string ⟨m.cur.toArray⟩] (.tuple #[.agg #[.string ⟨t.code.toArray⟩, .int .i64 t.places], .bool true]) := CFn.out
    rw [hp2, htc] at cfq
    clear CFn
    have CFn := Lib.hid cfq
    clear cfq
    have HV1 : Hid (textV ts m = if ¬ m.amt = canon (val m.amt) then ([], 1) else (textD (val m.amt) p ++ 32 :: m.cur, 0)) := by rw [hp]; exact HV0.out
    clear HV0 HT ht0 ht12 htc hp hp2
    by_cases gv : m.amt = canon (val m.amt)
    rotate_left
    · have HV : Hid (textV ts m = ([], 1)) := HV1.out.trans (if_pos gv)
      have CC := Lib.hid (riCheck (l := m.amt) (c := 1) (by omega) (if_neg gv))
      clear gv HV1
      go_enter Tryz.func103, Tryz.ntmps103
      go_wp2_with fail
      ((with_reducible refine (CB.out.of hG hb).mono ?_); rintro e w2 ⟨rfl, hb2⟩)
      replace x3 := x3.below hb2
      replace hb := bto hb hb2
      clear hb2
      have q0 := x3.c0
      clear CB
      go_wp2_with fail
      ((with_reducible refine (CFn.out.of hG hb).mono ?_); rintro e w3 ⟨rfl, hb3⟩)
      replace x3 := x3.below hb3
      replace hb := bto hb hb3
      clear hb3
      have hbA := below_alloc w3 (.cells #[.string ⟨m.cur.toArray⟩, .int .i64 (p : Int)] 64)
      have x6 := FBox.new w3 (.string ⟨m.cur.toArray⟩) (.int .i64 (p : Int)) 64
      replace x3 := x3.below hbA
      replace hb := bto hb hbA
      clear hbA
      clear CFn q0
      have q1 := x3.c1
      go_wp2_with fail
      ((with_reducible refine (CC.out.of hG hb).mono ?_); rintro e w4 ⟨rfl, hb4⟩)
      replace x3 := x3.below hb4
      replace hb := bto hb hb4
      clear hb4
      clear CC q1 x3 x6
      go_wp2
      go_ret2
      exact ⟨by rw [HV.out]; rfl, hb⟩
    have HV : Hid (textV ts m = (textD (val m.amt) p ++ 32 :: m.cur, 0)) := HV1.out.trans (if_neg (fun h => h gv))
    have CC := Lib.hid (riCheck (l := m.amt) (c := 0) (by omega) (if_pos gv))
    have CX := Lib.hid (dText (l := m.amt) (by omega) rfl (p := p) hp12)
    have hdl : (dec (val m.amt).natAbs).length ≤ 201 := by
      have h3 := canon_len_le (val m.amt) 200 (val_lt_of h2)
      have h4 : (dec (val m.amt).natAbs).length ≤ (canon (val m.amt)).length := by unfold canon; split <;> simp
      omega
    have htl := textD_len (val m.amt) p
    have ha1 := str_addM (textD (val m.amt) p) [32] (by simp; omega)
    have ha2 := str_addM (textD (val m.amt) p ++ [32]) m.cur (by simp; omega)
    rw [List.append_assoc] at ha2
    have ha3 : ∀ w, (Go.Op.stringOp .add ⟨(textD (val m.amt) p ++ [32]).toArray⟩ ⟨m.cur.toArray⟩).run Tryz.prog w = .ok (.string ⟨(textD (val m.amt) p ++ 32 :: m.cur).toArray⟩) w := ha2
    clear ha2 gv HV1 hdl htl
    generalize textD (val m.amt) p = T at *
    go_enter Tryz.func103, Tryz.ntmps103
    go_wp2_with fail
    ((with_reducible refine (CB.out.of hG hb).mono ?_); rintro e w2 ⟨rfl, hb2⟩)
    replace x3 := x3.below hb2
    replace hb := bto hb hb2
    clear hb2
    have q0 := x3.c0
    clear CB
    go_wp2_with fail
    ((with_reducible refine (CFn.out.of hG hb).mono ?_); rintro e w3 ⟨rfl, hb3⟩)
    replace x3 := x3.below hb3
    replace hb := bto hb hb3
    clear hb3
    have hbA := below_alloc w3 (.cells #[.string ⟨m.cur.toArray⟩, .int .i64 (p : Int)] 64)
    have x6 := FBox.new w3 (.string ⟨m.cur.toArray⟩) (.int .i64 (p : Int)) 64
    replace x3 := x3.below hbA
    replace hb := bto hb hbA
    clear hbA
    clear CFn q0
    have q1 := x3.c1
    go_wp2_with fail
    ((with_reducible refine (CC.out.of hG hb).mono ?_); rintro e w4 ⟨rfl, hb4⟩)
    replace x3 := x3.below hb4
    replace x6 := x6.below hb4
    replace hb := bto hb hb4
    clear hb4
    clear CC q1
    have q1 := x3.c1
    have q3 := x6.c1
    go_wp2_with fail
    ((with_reducible refine (CX.out.of hG hb).mono ?_); rintro e w6 ⟨rfl, hb6⟩)
    replace x3 := x3.below hb6
    replace x6 := x6.below hb6
    replace hb := bto hb hb6
    clear hb6
    clear q1 q3
    have q2 := x6.c0
    go_wp2
    go_ret2
    exact ⟨by rw [HV.out]; rfl, hb⟩

end Go.Proofs.YtgnppdkeiihlfaaGreatDoor
namespace Go.Proofs.YtgnppdkeiihlfaaGreatDoor
open Go.RowKit Num
end Go.Proofs.YtgnppdkeiihlfaaGreatDoor
namespace Go.Proofs.YtgnppdkeiihlfaaGreatDoor
open Go.RowKit Num
end Go.Proofs.YtgnppdkeiihlfaaGreatDoor
