/-
  Contracts of the line's functions: ValidLine on both sides.
-/
import Derived.Test.YtmfichdcomaaeaaW1
import Derived.Test.YtmfichdcomaaeaaL5
import Derived.BigRegion
import Derived.RegionTactic
namespace Go.Proofs.Ytmfichdcomaaeaa
set_option linter.unusedVariables false
set_option linter.unusedSimpArgs false
open Go.RowKit Go.Sort
set_option maxRecDepth 100000

/-- How many numbers the text of a line mentions. -/
def lineN (k : Int) : Nat := if k = 1 then 2 else if k = 2 then 3 else if k = 3 then 1 else 0
/-- One number of a line. -/
def okL (n i : Nat) (x : Int) : Bool := withinB x 0 999 && (decide (i < n) || decide (x = 0))
def lineL (n : Nat) (l : List Int) : Bool := (List.range 3).all fun i => okL n i (l.getD i 0)
/-- A valid line. -/
def lineB (k a b c : Int) : Bool := lineL (lineN k) [a, b, c] && decide (0 < lineN k)
theorem lineN_le (k : Int) : lineN k ≤ 3 := by unfold lineN; split <;> (try split) <;> (try split) <;> omega
theorem lineN_pos {k : Int} (h1 : 1 ≤ k) (h3 : k ≤ 3) : 0 < lineN k := by
  have : k = 1 ∨ k = 2 ∨ k = 3 := by omega
  rcases this with rfl | rfl | rfl <;> decide
theorem lineN_zero {k : Int} (h : ¬ (1 ≤ k ∧ k ≤ 3)) : lineN k = 0 := by
  unfold lineN
  rw [if_neg (by omega), if_neg (by omega), if_neg (by omega)]
theorem lineL_eq (n : Nat) (a b c : Int) : lineL n [a, b, c] = (okL n 0 a && (okL n 1 b && okL n 2 c)) := by
  simp [lineL, List.range_succ, Bool.and_assoc]

set_option maxHeartbeats 400000 in
theorem l08Words_any (k : Int) (w : World) :
    Calls Try.prog 121 #[.int .i64 k] w fun e w' => ∃ s : ByteArray, Says (.tuple #[.string s, .int .i64 (lineN k)]) w e w' := by
  by_cases h1 : k = 1
  · subst h1
    go_enter Try.func121, Try.ntmps121
    go_wp2
    go_ret2
    exact ⟨_, rfl, Below.refl _ _⟩
  · by_cases h2 : k = 2
    · subst h2
      go_enter Try.func121, Try.ntmps121
      go_wp2
      go_ret2
      exact ⟨_, rfl, Below.refl _ _⟩
    · by_cases h3 : k = 3
      · subst h3
        go_enter Try.func121, Try.ntmps121
        go_wp2
        go_ret2
        exact ⟨_, rfl, Below.refl _ _⟩
      · rw [show lineN k = 0 by unfold lineN; rw [if_neg h1, if_neg h2, if_neg h3]]
        go_enter Try.func121, Try.ntmps121
        go_wp2
        go_ret2
        exact ⟨_, rfl, Below.refl _ _⟩

set_option maxHeartbeats 400000 in
theorem l08Numbers_any (k a b c : Int) (p T : Nat) (w : World) (h : Blk w p #[.int .i64 k, .int .i64 a, .int .i64 b, .int .i64 c] T) :
    Calls Try.prog 122 #[.pointer (some ⟨p, 0, none⟩)] w fun e w' => ∃ g, e = .returned (.slice (some ⟨g, 0, none⟩) 3 3) ∧ Blk w' g #[.int .i64 a, .int .i64 b, .int .i64 c] 2 ∧ Below w.heap.size w w' := by
  have hc := h.cell
  have h1 : w.cell? ⟨p, 1, none⟩ = some (.int .i64 a) := hc 1
  have h2 : w.cell? ⟨p, 2, none⟩ = some (.int .i64 b) := hc 2
  have h3 : w.cell? ⟨p, 3, none⟩ = some (.int .i64 c) := hc 3
  clear hc
  go_enter Try.func122, Try.ntmps122
  go_wp2
  go_region
  all_goals go_wp2
  all_goals go_ret
  all_goals exact ⟨_, rfl, by repeat (first | exact Blk.new rfl | apply Blk.drew), (by repeat (first | exact Below.refl _ _ | refine Below.alloc ?_ (by simp) _ | apply Below.drew))⟩

set_option maxHeartbeats 2000000 in
theorem l08Line_any (k a b c : Int) (p T : Nat) (w : World) (h : Blk w p #[.int .i64 k, .int .i64 a, .int .i64 b, .int .i64 c] T) :
    Calls Try.prog 65 #[.pointer (some ⟨p, 0, none⟩)] w (Says (.bool (lineB k a b c)) w) := by
  have hk0 : w.cell? ⟨p, 0, none⟩ = some (.int .i64 k) := h.cell 0
  have h' := hd h
  have hlk := hd (lineN_le k)
  obtain ⟨r, hr⟩ : ∃ r, r = lineB k a b c := ⟨_, rfl⟩
  rw [← hr]
  have hr' := hd (hr.trans (show lineB k a b c = (lineL (lineN k) [a, b, c] && decide (0 < lineN k)) from rfl))
  clear h hr
  go_enter Try.func65, Try.ntmps65
  go_wp2_with fail
  (with_reducible refine (l08Words_any _ _).mono ?_)
  rintro e p0 ⟨s, rfl, l0⟩
  have K0 := Blk.thru h'.out l0
  generalize lineN k = n at *
  have hn3 := hlk.out
  clear hk0
  go_wp2_with fail
  (with_reducible refine (l08Numbers_any _ _ _ _ _ _ _ K0).mono ?_)
  rintro e p1 ⟨g, rfl, kg, l1⟩
  have B1 : Below w.heap.size w p1 := Below.through l1 l0
  clear l0 l1 K0
  go_wp2
  go_loopw [6] (fun i wr => ∃ j : Nat, j ≤ 3 ∧ i = .int .i64 j ∧ (∀ q, q < j → okL n q ([a, b, c].getD q 0) = true) ∧ Blk wr g #[.int .i64 a, .int .i64 b, .int .i64 c] 2 ∧ Below w.heap.size w wr) (fun i _ => 3 - (intOf i).toNat)
  case atStart => exact ⟨0, by omega, rfl, fun q hq => by omega, kg, B1⟩
  case round =>
    obtain ⟨j, hj, rfl, hok0, kr, hB⟩ := hrel
    have hok := hd hok0
    clear kg B1 hok0
    by_cases hlt : j < 3
    · obtain ⟨x, hx⟩ : ∃ x, x = [a, b, c].getD j 0 := ⟨_, rfl⟩
      have hcell : wr.cell? ⟨g, j, none⟩ = some (.int .i64 x) := by
        rw [kr.cell, hx]
        match j, hlt with
        | 0, _ => rfl
        | 1, _ => rfl
        | 2, _ => rfl
      have hx' := hd hx
      have hrest := hd (show okL n j x = false → r = false from fun hf => by
        rw [hr'.out]
        have : lineL n [a, b, c] = false := by
          cases hL : lineL n [a, b, c]
          · rfl
          · have h9 := List.all_eq_true.1 hL j (List.mem_range.2 hlt)
            rw [← hx, hf] at h9
            cases h9
        rw [this]
        rfl)
      clear hx
      have kr' := hd kr
      clear kr
      cases hw : withinB x 0 999
      · have hw' := hd hw
        have hrf := hd (hrest.out (by unfold okL; rw [hw]; rfl))
        clear hw
        go_wp2_with fail
        (with_reducible refine (l00In_any _ _ _ _).mono ?_)
        rintro e q0 ⟨rfl, l0⟩
        rw [hw'.out]
        have hB' := Below.through l0 hB
        go_wp2
        go_ret
        exact ⟨by rw [hrf.out]; rfl, hB'⟩
      · have hw' := hd hw
        clear hw
        by_cases hjn : j < n
        · have hjn1 : ¬ ((n : Int) ≤ (j : Int)) := by omega
          go_wp2_with fail
          (with_reducible refine (l00In_any _ _ _ _).mono ?_)
          rintro e q0 ⟨rfl, l0⟩
          rw [hw'.out]
          have hB' := Below.through l0 hB
          have kq := hd (Blk.thru kr'.out l0)
          clear l0
          go_wp2
          go_roundw
          case rel =>
            refine ⟨j + 1, by omega, by go_num, fun q hq => ?_, kq.out, hB'⟩
            by_cases hqj : q < j
            · exact hok.out q hqj
            · obtain rfl : q = j := by omega
              rw [← hx'.out]
              unfold okL
              rw [hw'.out]
              simp [hjn]
          case measure => simp [intOf]; omega
        · have hjn1 : (n : Int) ≤ (j : Int) := by omega
          by_cases hx0 : x = 0
          · have hxb : (x != 0) = false := by simp [hx0]
            have hx0' := hd hx0
            clear hx0
            go_wp2_with fail
            (with_reducible refine (l00In_any _ _ _ _).mono ?_)
            rintro e q0 ⟨rfl, l0⟩
            rw [hw'.out]
            have hB' := Below.through l0 hB
            have kq := hd (Blk.thru kr'.out l0)
            have hcell2 : q0.cell? ⟨g, j, none⟩ = some (.int .i64 x) := by
              rw [(bcell l0).1 g j kr'.out.lt]; exact hcell
            clear l0
            go_wp2
            go_roundw
            case rel =>
              refine ⟨j + 1, by omega, by go_num, fun q hq => ?_, kq.out, hB'⟩
              by_cases hqj : q < j
              · exact hok.out q hqj
              · obtain rfl : q = j := by omega
                rw [← hx'.out]
                unfold okL
                rw [hw'.out]
                simp [hx0'.out]
            case measure => simp [intOf]; omega
          · have hxb : (x != 0) = true := by simp [hx0]
            have hrf := hd (hrest.out (by unfold okL; rw [decide_eq_false hjn, decide_eq_false hx0]; simp))
            clear hx0
            go_wp2_with fail
            (with_reducible refine (l00In_any _ _ _ _).mono ?_)
            rintro e q0 ⟨rfl, l0⟩
            rw [hw'.out]
            have hB' := Below.through l0 hB
            have hcell2 : q0.cell? ⟨g, j, none⟩ = some (.int .i64 x) := by
              rw [(bcell l0).1 g j kr'.out.lt]; exact hcell
            clear l0
            go_wp2
            go_ret
            exact ⟨by rw [hrf.out]; rfl, hB'⟩
    · obtain rfl : j = 3 := by omega
      have hall : lineL n [a, b, c] = true := List.all_eq_true.2 (fun q hq => hok.out q (List.mem_range.1 hq))
      have hfin := hd (show r = decide (0 < n) by rw [hr'.out, hall]; rfl)
      clear hall
      by_cases hn0 : 0 < n
      · have hn1 : (0 : Int) < (n : Int) := by omega
        have hfin' := hd (show r = true by rw [hfin.out]; simp [hn0])
        go_wp2
        go_ret
        exact ⟨by rw [hfin'.out]; rfl, hB⟩
      · have hn1 : ¬ (0 : Int) < (n : Int) := by omega
        have hfin' := hd (show r = false by rw [hfin.out]; simp [hn0])
        go_wp2
        go_ret
        exact ⟨by rw [hfin'.out]; rfl, hB⟩

set_option maxHeartbeats 1000000 in
theorem specValidLine_any (k a b c : Int) (w : World) :
    Calls Try.prog 15 #[.agg #[.int .i64 k, .int .i64 a, .int .i64 b, .int .i64 c]] w (Says (.bool (lineB k a b c)) w) := by
  go_enter Try.func15, Try.ntmps15
  go_wp2_with fail
  (with_reducible refine (l08Line_any _ _ _ _ _ _ _ (Blk.new rfl)).mono ?_)
  rintro e p0 ⟨rfl, l0⟩
  generalize lineB k a b c = r at *
  go_wp2
  go_ret
  exact ⟨rfl, Below.through l0 (by repeat (first | exact Below.refl _ _ | refine Below.alloc ?_ (by simp) _ | apply Below.drew))⟩

/-! ### The program's -/
def GaveI (l : List Int) (c : Nat) (w : World) (e : Ending) (w' : World) : Prop :=
  ∃ g, e = .returned (.slice (some ⟨g, 0, none⟩) l.length c) ∧ Ints w' (.slice (some ⟨g, 0, none⟩) l.length c) l [g] ∧ w.heap.size ≤ g ∧ Below w.heap.size w w'
theorem take_len3 (a b c : Int) (n : Nat) (hn : n ≤ 3) : ([a, b, c].take n).length = n := by simp; omega
set_option maxHeartbeats 1000000 in
theorem lineMent_any (k a b c : Int) (w : World) (h1 : 1 ≤ k) (h3 : k ≤ 3) (ia : I64 a) (ib : I64 b) (ic : I64 c) :
    Calls Try.prog 66 #[.agg #[.int .i64 k, .int .i64 a, .int .i64 b, .int .i64 c]] w (GaveI ([a, b, c].take (lineN k)) 3 w) := by
  obtain ⟨i, rfl⟩ : ∃ i : Nat, k = (i : Int) + 1 := ⟨(k - 1).toNat, by omega⟩
  have hi : i < 3 := by omega
  have hcell : ∀ h, ([Value.int .i64 2, .int .i64 3, .int .i64 1] : List Value)[i]'h = .int .i64 (lineN ((i : Int) + 1)) := by
    intro h
    match i, hi with
    | 0, _ => rfl
    | 1, _ => rfl
    | 2, _ => rfl
  have hn := lineN_le ((i : Int) + 1)
  generalize lineN ((i : Int) + 1) = n at *
  have hlen := take_len3 a b c n hn
  have hel : ∀ (j : Nat) (x : Int), ([a, b, c].take n)[j]? = some x → (#[Value.int .i64 a, .int .i64 b, .int .i64 c] : Array Value)[j]? = some (Value.int .i64 x) ∧ I64 x := by
    intro j x hx
    rw [List.getElem?_take] at hx
    split at hx
    · match j, hx with
      | 0, hx => cases hx; exact ⟨rfl, ia⟩
      | 1, hx => cases hx; exact ⟨rfl, ib⟩
      | 2, hx => cases hx; exact ⟨rfl, ic⟩
      | j + 3, hx => simp at hx
    · cases hx
  generalize [a, b, c].take n = L at *
  subst hlen
  have hel' := hd hel
  clear hel
  go_enter Try.func66, Try.ntmps66
  go_wp2
  go_region
  all_goals go_wp2
  all_goals go_ret
  all_goals
    refine ⟨_, rfl, Ints.of_cells rfl hn (by unfold maxLen; omega) (fun j x hx => ⟨?_, (hel'.out j x hx).2⟩), by omega, (by repeat (first | exact Below.refl _ _ | refine Below.alloc ?_ (by simp; try omega) _ | apply Below.drew))⟩
    rw [Nat.zero_add]
    refine (Blk.cell (arr := #[.int .i64 a, .int .i64 b, .int .i64 c]) (T := 2) ?_ j).trans (hel'.out j x hx).1
    repeat (first | apply Blk.drew | (refine Blk.new ?_; simp; done) | refine Blk.old ?_ _)

theorem lineB_eq (k a b c : Int) : lineB k a b c = (withinB k 1 3 && (areValuesB 1000 [a, b, c] 3 && !([a, b, c].drop (lineN k)).any (fun n => n != 0))) := by
  have h : ∀ x, isValueB 1000 x = withinB x 0 999 := fun x => isValueB_of (size := 1000) ⟨by decide, by decide⟩ (by decide) x
  by_cases hk : 1 ≤ k ∧ k ≤ 3
  · rw [(withinB_iff k 1 3).2 hk]
    have h3 : k = 1 ∨ k = 2 ∨ k = 3 := by omega
    unfold lineB
    rw [lineL_eq]
    rcases h3 with rfl | rfl | rfl
    all_goals
      simp [lineN, okL, areValuesB, h, Bool.and_assoc, bne, Bool.beq_eq_decide_eq]
    all_goals
      cases withinB a 0 999 <;> cases withinB b 0 999 <;> cases withinB c 0 999 <;> simp
  · rw [(withinB_false k 1 3).2 hk]
    unfold lineB
    rw [lineN_zero hk]
    simp

theorem lineV1_any (n : Int) (w : World) : Calls Try.prog 67 #[.int .i64 n] w (Says (.bool (n != 0)) w) := by
  cases h : (n != 0)
  all_goals
    go_enter Try.func67, Try.ntmps67
    go_wp2
    go_ret
    exact ⟨rfl, Below.refl _ _⟩

set_option maxHeartbeats 2000000 in
theorem implValidLine_any (k a b c : Int) (w : World) (ia : I64 a) (ib : I64 b) (ic : I64 c) :
    Calls Try.prog 17 #[.agg #[.int .i64 k, .int .i64 a, .int .i64 b, .int .i64 c]] w (Says (.bool (lineB k a b c)) w) := by
  have eg : ∀ args w, (callFunc 67 args).run Try.prog w = .ok (.enter 67 args) w := enters_of Try.func67 (by kernel_rfl) rfl
  have eg' := hd eg
  clear eg
  rw [lineB_eq]
  have hI : ∀ x ∈ [a, b, c], I64 x := by intro x hx; simp at hx; rcases hx with rfl | rfl | rfl <;> assumption
  have hI' := hd hI
  clear hI
  cases hk : withinB k 1 3
  · rw [Bool.false_and]
    have hk' := hd hk
    clear hk
    go_enter Try.func17, Try.ntmps17
    go_wp2_with fail
    (with_reducible refine (within_any _ _ _ _).mono ?_)
    rintro e p0 ⟨rfl, l0⟩
    rw [hk'.out]
    go_wp2
    go_ret
    exact ⟨rfl, Below.through l0 (by repeat (first | exact Below.refl _ _ | refine Below.alloc ?_ (by simp; try omega) _ | apply Below.drew))⟩
  · obtain ⟨hk1, hk3⟩ := (withinB_iff _ _ _).1 hk
    have hk' := hd hk
    clear hk
    rw [Bool.true_and]
    cases hv : areValuesB 1000 [a, b, c] 3
    · have hv' := hd hv
      rw [Bool.false_and]
      clear hv
      go_enter Try.func17, Try.ntmps17
      go_wp2_with fail
      (with_reducible refine (within_any _ _ _ _).mono ?_)
      rintro e p0 ⟨rfl, l0⟩
      rw [hk'.out]
      have K0 : Blk p0 (w.heap.size + 1) #[.int .i64 a, .int .i64 b, .int .i64 c] 2 := Blk.thru (Blk.new (by simp)) l0
      have B0 : Below w.heap.size w p0 := Below.through l0 (by repeat (first | exact Below.refl _ _ | refine Below.alloc ?_ (by simp; try omega) _ | apply Below.drew))
      go_wp2_with fail
      (with_reducible refine (areValues_any _ _ _ [a, b, c] [w.heap.size + 1] _ ?_ ?_).mono ?_)
      · exact Ints.of_blk [a, b, c] K0 rfl hI'.out (by unfold maxLen; simp)
      · intro c hc; rw [List.mem_singleton] at hc; subst hc; exact K0.lt
      rintro e p1 ⟨rfl, l1⟩
      rw [hv'.out]
      go_wp2
      go_ret
      exact ⟨rfl, Below.through l1 B0⟩
    · have hv' := hd hv
      rw [Bool.true_and]
      clear hv
      obtain ⟨r, hr⟩ : ∃ r, r = !([a, b, c].drop (lineN k)).any (fun n => n != 0) := ⟨_, rfl⟩
      rw [← hr]
      have hl' := hd (show ([a, b, c].drop (lineN k)).any (fun n => n != 0) = !r by rw [hr, Bool.not_not])
      clear hr
      have hn3 : lineN k = 1 ∨ lineN k = 2 ∨ lineN k = 3 := by have := lineN_le k; have := lineN_pos hk1 hk3; omega
      have hn3' := hd hn3
      have hmen := hd (fun w => lineMent_any k a b c w hk1 hk3 ia ib ic)
      have htl : ([a, b, c].take (lineN k)).length = lineN k := take_len3 a b c _ (lineN_le k)
      have htl' := hd htl
      clear hn3 htl
      generalize lineN k = n at *
      have hn2 : n ≤ 3 := by have := hn3'.out; omega
      go_enter Try.func17, Try.ntmps17
      go_wp2_with fail
      (with_reducible refine (within_any _ _ _ _).mono ?_)
      rintro e p0 ⟨rfl, l0⟩
      rw [hk'.out]
      have K0 : Blk p0 (w.heap.size + 1) #[.int .i64 a, .int .i64 b, .int .i64 c] 2 := Blk.thru (Blk.new (by simp)) l0
      have KD : Blk p0 w.heap.size #[.int .i64 k, .int .i64 a, .int .i64 b, .int .i64 c] 31 := Blk.thru (Blk.old (Blk.new rfl) _) l0
      have B0 : Below w.heap.size w p0 := Below.through l0 (by repeat (first | exact Below.refl _ _ | refine Below.alloc ?_ (by simp; try omega) _ | apply Below.drew))
      clear l0
      go_wp2_with fail
      (with_reducible refine (areValues_any _ _ _ [a, b, c] [w.heap.size + 1] _ ?_ ?_).mono ?_)
      · exact Ints.of_blk [a, b, c] K0 rfl hI'.out (by unfold maxLen; simp)
      · intro c hc; rw [List.mem_singleton] at hc; subst hc; exact K0.lt
      rintro e p1 ⟨rfl, l1⟩
      rw [hv'.out]
      have K1 := Blk.thru K0 l1
      have KD1 := Blk.thru KD l1
      have B1 := Below.through l1 B0
      have C1 := KD1.cell
      clear l1
      go_wp2_with fail
      (with_reducible refine (hmen.out _).mono ?_)
      rintro e p2 ⟨g, rfl, -, -, l2⟩
      rw [htl'.out]
      have K2 := Blk.thru K1 l2
      have B2 := Below.through l2 B1
      clear l2 C1
      rcases hn3'.out with rfl | rfl | rfl
      · go_wp2_with fail
        (with_reducible refine (containsI_any _ ([a, b, c].drop 1) [w.heap.size + 1] _ ?_ ?_ _ _ (fun n => n != 0) eg'.out ?_).mono ?_)
        · refine Ints.of_cells (l := [a, b, c].drop 1) rfl (by decide) (by unfold maxLen; omega) (fun i x hx => ?_)
          rw [K2.cell]
          match i, hx with
          | 0, hx => cases hx; exact ⟨rfl, ib⟩
          | 1, hx => cases hx; exact ⟨rfl, ic⟩
          | i + 2, hx => simp at hx
        · intro c hc; rw [List.mem_singleton] at hc; subst hc; exact K2.lt
        · intro x _ W _
          exact lineV1_any x W
        rintro e p3 ⟨rfl, l3⟩
        rw [hl'.out]
        go_wp2
        go_ret
        exact ⟨rfl, Below.through l3 B2⟩
      · go_wp2_with fail
        (with_reducible refine (containsI_any _ ([a, b, c].drop 2) [w.heap.size + 1] _ ?_ ?_ _ _ (fun n => n != 0) eg'.out ?_).mono ?_)
        · refine Ints.of_cells (l := [a, b, c].drop 2) rfl (by decide) (by unfold maxLen; omega) (fun i x hx => ?_)
          rw [K2.cell]
          match i, hx with
          | 0, hx => cases hx; exact ⟨rfl, ic⟩
          | i + 1, hx => simp at hx
        · intro c hc; rw [List.mem_singleton] at hc; subst hc; exact K2.lt
        · intro x _ W _
          exact lineV1_any x W
        rintro e p3 ⟨rfl, l3⟩
        rw [hl'.out]
        go_wp2
        go_ret
        exact ⟨rfl, Below.through l3 B2⟩
      · go_wp2_with fail
        (with_reducible refine (containsI_any _ ([a, b, c].drop 3) [w.heap.size + 1] _ ?_ ?_ _ _ (fun n => n != 0) eg'.out ?_).mono ?_)
        · refine Ints.of_cells (l := [a, b, c].drop 3) rfl (by decide) (by unfold maxLen; omega) (fun i x hx => ?_)
          rw [K2.cell]
          match i, hx with
          | i, hx => simp at hx
        · intro c hc; rw [List.mem_singleton] at hc; subst hc; exact K2.lt
        · intro x _ W _
          exact lineV1_any x W
        rintro e p3 ⟨rfl, l3⟩
        rw [hl'.out]
        go_wp2
        go_ret
        exact ⟨rfl, Below.through l3 B2⟩
end Go.Proofs.Ytmfichdcomaaeaa
