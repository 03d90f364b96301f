/-
  Contracts of the deed's and the line's functions: ValidDeed, ValidLine on both sides.
-/
import Derived.Test.YtmfichdcomaaeaaW1
import Derived.Test.YtmfichdcomaaeaaL5
import Derived.BigRegion
import Derived.RegionTactic
namespace Go.Proofs.Ytmfichdcomaaeaa
set_option linter.unusedVariables false
set_option linter.unusedSimpArgs false
open Go.RowKit Go.Sort
set_option maxRecDepth 100000

/-- How many numbers the text of a deed mentions. -/
def deedN (k : Int) : Nat := if k = 1 then 2 else if k ≤ 6 then 1 else 0

def Gave (n : Nat) (w : World) (e : Ending) (w' : World) : Prop := ∃ g, e = .returned (.slice (some ⟨g, 0, none⟩) n 2) ∧ Below w.heap.size w w'
theorem deed_kinds {k : Int} (h1 : 1 ≤ k) (h8 : k ≤ 8) : k = 1 ∨ k = 2 ∨ k = 3 ∨ k = 4 ∨ k = 5 ∨ k = 6 ∨ k = 7 ∨ k = 8 := by omega

set_option maxHeartbeats 1000000 in
theorem mentioned_any (k a b : Int) (w : World) (h1 : 1 ≤ k) (h8 : k ≤ 8) :
    Calls Try.prog 63 #[.agg #[.int .i64 k, .int .i64 a, .int .i64 b]] w (Gave (deedN k) w) := by
  obtain ⟨i, rfl⟩ : ∃ i : Nat, k = (i : Int) + 1 := ⟨(k - 1).toNat, by omega⟩
  have hi : i < 8 := by omega
  have hcell : ∀ h, ([Value.int .i64 2, .int .i64 1, .int .i64 1, .int .i64 1, .int .i64 1, .int .i64 1, .int .i64 0, .int .i64 0] : List Value)[i]'h = .int .i64 (deedN ((i : Int) + 1)) := by
    intro h
    match i, hi with
    | 0, _ => rfl
    | 1, _ => rfl
    | 2, _ => rfl
    | 3, _ => rfl
    | 4, _ => rfl
    | 5, _ => rfl
    | 6, _ => rfl
    | 7, _ => rfl
  have hn : deedN ((i : Int) + 1) ≤ 2 := by unfold deedN; split <;> (try split) <;> omega
  generalize deedN ((i : Int) + 1) = n at *
  go_enter Try.func63, Try.ntmps63
  go_wp2
  go_region
  all_goals go_wp2
  all_goals go_ret
  all_goals exact ⟨_, rfl, by repeat (first | exact Below.refl _ _ | refine Below.alloc ?_ (by simp; try omega) _ | apply Below.drew)⟩

/-- A valid deed. -/
def deedB (k a b : Int) : Bool := withinB k 1 8 && (withinB a 0 999 && (withinB b 0 999 && ((decide (0 < deedN k) || decide (a = 0)) && (decide (1 < deedN k) || decide (b = 0)))))
theorem areD (a b : Int) : areValuesB 1000 [a, b] 2 = (withinB a 0 999 && withinB b 0 999) := by
  have h : ∀ x, isValueB 1000 x = withinB x 0 999 := fun x => isValueB_of (size := 1000) ⟨by decide, by decide⟩ (by decide) x
  simp [areValuesB, h]

theorem deedV1_any (n : Int) (w : World) : Calls Try.prog 64 #[.int .i64 n] w (Says (.bool (n != 0)) w) := by
  cases h : (n != 0)
  all_goals
    go_enter Try.func64, Try.ntmps64
    go_wp2
    go_ret
    exact ⟨rfl, Below.refl _ _⟩

set_option maxHeartbeats 2000000 in
theorem implValidDeed_any (k a b : Int) (w : World) (ha : I64 a) (hb : I64 b) :
    Calls Try.prog 14 #[.agg #[.int .i64 k, .int .i64 a, .int .i64 b]] w (Says (.bool (deedB k a b)) w) := by
  have eg : ∀ args w, (callFunc 64 args).run Try.prog w = .ok (.enter 64 args) w := enters_of Try.func64 (by kernel_rfl) rfl
  have eg' := hd eg
  clear eg
  cases hk : withinB k 1 8
  · have hk' := hd hk
    rw [show deedB k a b = false by unfold deedB; rw [hk]; rfl]
    clear hk
    go_enter Try.func14, Try.ntmps14
    go_wp2_with fail
    (with_reducible refine (within_any _ _ _ _).mono ?_)
    rintro e p0 ⟨rfl, l0⟩
    rw [hk'.out]
    go_wp2
    go_ret
    exact ⟨rfl, Below.through l0 (by repeat (first | exact Below.refl _ _ | refine Below.alloc ?_ (by simp) _))⟩
  · obtain ⟨hk1, hk8⟩ := (withinB_iff _ _ _).1 hk
    have hk' := hd hk
    clear hk
    cases hv : areValuesB 1000 [a, b] 2
    · have hv' := hd hv
      rw [show deedB k a b = false by unfold deedB; rw [← Bool.and_assoc (withinB a 0 999), ← areD, hv]; simp]
      clear hv
      go_enter Try.func14, Try.ntmps14
      go_wp2_with fail
      (with_reducible refine (within_any _ _ _ _).mono ?_)
      rintro e p0 ⟨rfl, l0⟩
      rw [hk'.out]
      have K0 : Blk p0 (w.heap.size + 1) #[.int .i64 a, .int .i64 b] 2 := Blk.thru (Blk.new (by simp)) l0
      have B0 : Below w.heap.size w p0 := Below.through l0 (by repeat (first | exact Below.refl _ _ | refine Below.alloc ?_ (by simp) _))
      go_wp2_with fail
      (with_reducible refine (areValues_any _ _ _ [a, b] [w.heap.size + 1] _ ?_ ?_).mono ?_)
      · exact Ints.of_blk [a, b] K0 rfl (by intro x hx; simp at hx; rcases hx with rfl | rfl <;> assumption) (by unfold maxLen; simp)
      · intro c hc; rw [List.mem_singleton] at hc; subst hc; exact K0.lt
      rintro e p1 ⟨rfl, l1⟩
      rw [hv'.out]
      go_wp2
      go_ret
      exact ⟨rfl, Below.through l1 B0⟩
    · have hv' := hd hv
      have hval : deedB k a b = ((decide (0 < deedN k) || decide (a = 0)) && (decide (1 < deedN k) || decide (b = 0))) := by unfold deedB; rw [← Bool.and_assoc (withinB a 0 999), ← areD, hv, hk'.out]; simp
      clear hv
      have hlast : deedB k a b = !([a, b].drop (deedN k)).any (fun n => n != 0) := by
        rw [hval]
        have h3 : deedN k = 0 ∨ deedN k = 1 ∨ deedN k = 2 := by unfold deedN; split <;> (try split) <;> simp
        rcases h3 with h | h | h <;> rw [h] <;> simp [bne, Bool.beq_eq_decide_eq]
      have hn3 : deedN k = 0 ∨ deedN k = 1 ∨ deedN k = 2 := by unfold deedN; split <;> (try split) <;> simp
      obtain ⟨r, hr⟩ : ∃ r, r = deedB k a b := ⟨_, rfl⟩
      rw [← hr] at hlast ⊢
      have hl' := hd (show ([a, b].drop (deedN k)).any (fun n => n != 0) = !r by rw [hlast, Bool.not_not])
      clear hr
      have hn3' := hd hn3
      have hmen := hd (fun w => mentioned_any k a b w hk1 hk8)
      clear hlast hval hn3
      generalize deedN k = n at *
      have hn2 : n ≤ 2 := by have := hn3'.out; omega
      go_enter Try.func14, Try.ntmps14
      go_wp2_with fail
      (with_reducible refine (within_any _ _ _ _).mono ?_)
      rintro e p0 ⟨rfl, l0⟩
      rw [hk'.out]
      have K0 : Blk p0 (w.heap.size + 1) #[.int .i64 a, .int .i64 b] 2 := Blk.thru (Blk.new (by simp)) l0
      have KD : Blk p0 w.heap.size #[.int .i64 k, .int .i64 a, .int .i64 b] 25 := Blk.thru (Blk.old (Blk.new rfl) _) l0
      have B0 : Below w.heap.size w p0 := Below.through l0 (by repeat (first | exact Below.refl _ _ | refine Below.alloc ?_ (by simp) _))
      clear l0
      go_wp2_with fail
      (with_reducible refine (areValues_any _ _ _ [a, b] [w.heap.size + 1] _ ?_ ?_).mono ?_)
      · exact Ints.of_blk [a, b] K0 rfl (by intro x hx; simp at hx; rcases hx with rfl | rfl <;> assumption) (by unfold maxLen; simp)
      · intro c hc; rw [List.mem_singleton] at hc; subst hc; exact K0.lt
      rintro e p1 ⟨rfl, l1⟩
      rw [hv'.out]
      have K1 := Blk.thru K0 l1
      have KD1 := Blk.thru KD l1
      have B1 := Below.through l1 B0
      have C1 := KD1.cell
      clear l1
      go_wp2_with fail
      (with_reducible refine (hmen.out _).mono ?_)
      rintro e p2 ⟨g, rfl, l2⟩
      have K2 := Blk.thru K1 l2
      have B2 := Below.through l2 B1
      clear l2 C1
      rcases hn3'.out with rfl | rfl | rfl
      · go_wp2_with fail
        (with_reducible refine (containsI_any _ ([a, b].drop 0) [w.heap.size + 1] _ ?_ ?_ _ _ (fun n => n != 0) eg'.out ?_).mono ?_)
        · refine Ints.of_cells (l := [a, b].drop 0) rfl (by decide) (by unfold maxLen; omega) (fun i x hx => ?_)
          rw [K2.cell]
          match i, hx with
          | 0, hx => cases hx; exact ⟨rfl, ha⟩
          | 1, hx => cases hx; exact ⟨rfl, hb⟩
          | i + 2, hx => simp at hx
        · intro c hc; rw [List.mem_singleton] at hc; subst hc; exact K2.lt
        · intro x _ W _
          exact deedV1_any x W
        rintro e p3 ⟨rfl, l3⟩
        rw [hl'.out]
        go_wp2
        go_ret
        exact ⟨rfl , Below.through l3 B2⟩
      · go_wp2_with fail
        (with_reducible refine (containsI_any _ ([a, b].drop 1) [w.heap.size + 1] _ ?_ ?_ _ _ (fun n => n != 0) eg'.out ?_).mono ?_)
        · refine Ints.of_cells (l := [a, b].drop 1) rfl (by decide) (by unfold maxLen; omega) (fun i x hx => ?_)
          rw [K2.cell]
          match i, hx with
          | 0, hx => cases hx; exact ⟨rfl, hb⟩
          | i + 1, hx => simp at hx
        · intro c hc; rw [List.mem_singleton] at hc; subst hc; exact K2.lt
        · intro x _ W _
          exact deedV1_any x W
        rintro e p3 ⟨rfl, l3⟩
        rw [hl'.out]
        go_wp2
        go_ret
        exact ⟨rfl , Below.through l3 B2⟩
      · go_wp2_with fail
        (with_reducible refine (containsI_any _ ([a, b].drop 2) [w.heap.size + 1] _ ?_ ?_ _ _ (fun n => n != 0) eg'.out ?_).mono ?_)
        · refine Ints.of_cells (l := [a, b].drop 2) rfl (by decide) (by unfold maxLen; omega) (fun i x hx => ?_)
          rw [K2.cell]
          match i, hx with
          | i, hx => simp at hx
        · intro c hc; rw [List.mem_singleton] at hc; subst hc; exact K2.lt
        · intro x _ W _
          exact deedV1_any x W
        rintro e p3 ⟨rfl, l3⟩
        rw [hl'.out]
        go_wp2
        go_ret
        exact ⟨rfl , Below.through l3 B2⟩

def wordsOf : Array Value := #[.int .i64 0, .int .i64 2, .int .i64 1, .int .i64 1, .int .i64 1, .int .i64 1, .int .i64 1, .int .i64 0, .int .i64 0]
def GaveWords (w : World) (e : Ending) (w' : World) : Prop :=
  ∃ g1 g2 arr T, e = .returned (.tuple #[.slice (some ⟨g1, 0, none⟩) 9 9, .slice (some ⟨g2, 0, none⟩) 9 9]) ∧ Blk w' g1 arr T ∧ (∀ i, i < 9 → ∃ s, arr[i]? = some (.string s)) ∧ Blk w' g2 wordsOf 3 ∧ Below w.heap.size w w'
theorem l10Words_any (w : World) : Calls Try.prog 117 #[] w (GaveWords w) := by
  go_enter Try.func117, Try.ntmps117
  go_wp2
  go_ret2
  refine ⟨_, _, _, _, rfl, Blk.old (Blk.new rfl) _, fun i hi => ?_, Blk.new (by simp), by repeat (first | exact Below.refl _ _ | refine Below.alloc ?_ (by simp) _)⟩
  match i, hi with
  | 0, _ => exact ⟨_, rfl⟩
  | 1, _ => exact ⟨_, rfl⟩
  | 2, _ => exact ⟨_, rfl⟩
  | 3, _ => exact ⟨_, rfl⟩
  | 4, _ => exact ⟨_, rfl⟩
  | 5, _ => exact ⟨_, rfl⟩
  | 6, _ => exact ⟨_, rfl⟩
  | 7, _ => exact ⟨_, rfl⟩
  | 8, _ => exact ⟨_, rfl⟩

set_option maxHeartbeats 2000000 in
theorem l10Deed_any (k a b : Int) (w : World) :
    Calls Try.prog 59 #[.agg #[.int .i64 k, .int .i64 a, .int .i64 b]] w (Says (.bool (deedB k a b)) w) := by
  cases hk : withinB k 1 8
  · rw [show deedB k a b = false by unfold deedB; rw [hk]; rfl]
    have hk' := hd hk
    clear hk
    go_enter Try.func59, Try.ntmps59
    go_wp2_with fail
    (with_reducible refine (l00In_any _ _ _ _).mono ?_)
    rintro e p0 ⟨rfl, l0⟩
    rw [hk'.out]
    go_wp2
    go_ret
    exact ⟨rfl, Below.through l0 (by repeat (first | exact Below.refl _ _ | refine Below.alloc ?_ (by simp) _))⟩
  · obtain ⟨hk1, hk8⟩ := (withinB_iff _ _ _).1 hk
    have hk' := hd hk
    clear hk
    cases ha : withinB a 0 999
    · rw [show deedB k a b = false by unfold deedB; rw [ha]; simp]
      have ha' := hd ha
      clear ha
      go_enter Try.func59, Try.ntmps59
      go_wp2_with fail
      (with_reducible refine (l00In_any _ _ _ _).mono ?_)
      rintro e p0 ⟨rfl, l0⟩
      rw [hk'.out]
      have KD : Blk p0 w.heap.size #[.int .i64 k, .int .i64 a, .int .i64 b] 25 := Blk.thru (Blk.new rfl) l0
      have B0 : Below w.heap.size w p0 := Below.through l0 (by repeat (first | exact Below.refl _ _ | refine Below.alloc ?_ (by simp) _))
      have C0 := KD.cell
      go_wp2_with fail
      (with_reducible refine (l00In_any _ _ _ _).mono ?_)
      rintro e p1 ⟨rfl, l1⟩
      rw [ha'.out]
      go_wp2
      go_ret
      exact ⟨rfl, Below.through l1 B0⟩
    · have ha' := hd ha
      cases hb : withinB b 0 999
      · rw [show deedB k a b = false by unfold deedB; rw [hb]; simp]
        have hb' := hd hb
        clear ha hb
        go_enter Try.func59, Try.ntmps59
        go_wp2_with fail
        (with_reducible refine (l00In_any _ _ _ _).mono ?_)
        rintro e p0 ⟨rfl, l0⟩
        rw [hk'.out]
        have KD : Blk p0 w.heap.size #[.int .i64 k, .int .i64 a, .int .i64 b] 25 := Blk.thru (Blk.new rfl) l0
        have B0 : Below w.heap.size w p0 := Below.through l0 (by repeat (first | exact Below.refl _ _ | refine Below.alloc ?_ (by simp) _))
        have C0 := KD.cell
        go_wp2_with fail
        (with_reducible refine (l00In_any _ _ _ _).mono ?_)
        rintro e p1 ⟨rfl, l1⟩
        rw [ha'.out]
        have KD1 := Blk.thru KD l1
        have B1 := Below.through l1 B0
        have C1 := KD1.cell
        clear C0
        go_wp2_with fail
        (with_reducible refine (l00In_any _ _ _ _).mono ?_)
        rintro e p2 ⟨rfl, l2⟩
        rw [hb'.out]
        go_wp2
        go_ret
        exact ⟨rfl, Below.through l2 B1⟩
      · have hb' := hd hb
        have hval : deedB k a b = ((decide (0 < deedN k) || decide (a = 0)) && (decide (1 < deedN k) || decide (b = 0))) := by unfold deedB; rw [hk'.out, ha, hb]; simp
        rw [hval]
        clear ha hb hval
        obtain ⟨i, rfl⟩ : ∃ i : Nat, k = (i : Int) := ⟨k.toNat, by omega⟩
        have hi1 : 1 ≤ i := by omega
        have hi8 : i ≤ 8 := by omega
        have hcell : wordsOf[i]? = some (.int .i64 (deedN (i : Int))) := by
          match i, hi1, hi8 with
          | 1, _, _ => rfl
          | 2, _, _ => rfl
          | 3, _, _ => rfl
          | 4, _, _ => rfl
          | 5, _, _ => rfl
          | 6, _, _ => rfl
          | 7, _, _ => rfl
          | 8, _, _ => rfl
        have hcell' := hd hcell
        have hn3 : deedN (i : Int) = 0 ∨ deedN (i : Int) = 1 ∨ deedN (i : Int) = 2 := by unfold deedN; split <;> (try split) <;> simp
        generalize deedN (i : Int) = n at *
        clear hcell
        by_cases ha0 : a = 0
        · subst ha0
          by_cases hb0 : b = 0
          · subst hb0
            rcases hn3 with rfl | rfl | rfl
            all_goals
              go_enter Try.func59, Try.ntmps59
              go_wp2_with fail
              (with_reducible refine (l00In_any _ _ _ _).mono ?_)
              rintro e p0 ⟨rfl, l0⟩
              rw [hk'.out]
              have KD : Blk p0 w.heap.size #[.int .i64 i, .int .i64 _, .int .i64 _] 25 := Blk.thru (Blk.new rfl) l0
              have B0 : Below w.heap.size w p0 := Below.through l0 (by repeat (first | exact Below.refl _ _ | refine Below.alloc ?_ (by simp) _))
              have C0 := KD.cell
              go_wp2_with fail
              (with_reducible refine (l00In_any _ _ _ _).mono ?_)
              rintro e p1 ⟨rfl, l1⟩
              rw [ha'.out]
              have KD1 := Blk.thru KD l1
              have B1 := Below.through l1 B0
              have C1 := KD1.cell
              clear C0
              go_wp2_with fail
              (with_reducible refine (l00In_any _ _ _ _).mono ?_)
              rintro e p2 ⟨rfl, l2⟩
              rw [hb'.out]
              have KD2 := Blk.thru KD1 l2
              have B2 := Below.through l2 B1
              clear C1
              go_wp2_with fail
              (with_reducible refine (l10Words_any _).mono ?_)
              rintro e p3 ⟨g1, g2, arr, T, rfl, -, -, kw, l3⟩
              have C3 := (Blk.thru KD2 l3).cell
              have B3 := Below.through l3 B2
              have cw := (kw.cell i).trans hcell'.out
              clear l0 l1 l2 l3 KD KD1 KD2 kw
              go_wp2
              go_ret
              exact ⟨rfl, B3⟩
          · have hbb : (b == 0) = false := by simp [hb0]
            rw [decide_eq_false hb0]
            rcases hn3 with rfl | rfl | rfl
            all_goals
              go_enter Try.func59, Try.ntmps59
              go_wp2_with fail
              (with_reducible refine (l00In_any _ _ _ _).mono ?_)
              rintro e p0 ⟨rfl, l0⟩
              rw [hk'.out]
              have KD : Blk p0 w.heap.size #[.int .i64 i, .int .i64 _, .int .i64 _] 25 := Blk.thru (Blk.new rfl) l0
              have B0 : Below w.heap.size w p0 := Below.through l0 (by repeat (first | exact Below.refl _ _ | refine Below.alloc ?_ (by simp) _))
              have C0 := KD.cell
              go_wp2_with fail
              (with_reducible refine (l00In_any _ _ _ _).mono ?_)
              rintro e p1 ⟨rfl, l1⟩
              rw [ha'.out]
              have KD1 := Blk.thru KD l1
              have B1 := Below.through l1 B0
              have C1 := KD1.cell
              clear C0
              go_wp2_with fail
              (with_reducible refine (l00In_any _ _ _ _).mono ?_)
              rintro e p2 ⟨rfl, l2⟩
              rw [hb'.out]
              have KD2 := Blk.thru KD1 l2
              have B2 := Below.through l2 B1
              clear C1
              go_wp2_with fail
              (with_reducible refine (l10Words_any _).mono ?_)
              rintro e p3 ⟨g1, g2, arr, T, rfl, -, -, kw, l3⟩
              have C3 := (Blk.thru KD2 l3).cell
              have B3 := Below.through l3 B2
              have cw := (kw.cell i).trans hcell'.out
              clear l0 l1 l2 l3 KD KD1 KD2 kw
              go_wp2
              go_ret
              exact ⟨rfl, B3⟩
        · have haa : (a == 0) = false := by simp [ha0]
          rw [decide_eq_false ha0]
          by_cases hb0 : b = 0
          · subst hb0
            rcases hn3 with rfl | rfl | rfl
            all_goals
              go_enter Try.func59, Try.ntmps59
              go_wp2_with fail
              (with_reducible refine (l00In_any _ _ _ _).mono ?_)
              rintro e p0 ⟨rfl, l0⟩
              rw [hk'.out]
              have KD : Blk p0 w.heap.size #[.int .i64 i, .int .i64 _, .int .i64 _] 25 := Blk.thru (Blk.new rfl) l0
              have B0 : Below w.heap.size w p0 := Below.through l0 (by repeat (first | exact Below.refl _ _ | refine Below.alloc ?_ (by simp) _))
              have C0 := KD.cell
              go_wp2_with fail
              (with_reducible refine (l00In_any _ _ _ _).mono ?_)
              rintro e p1 ⟨rfl, l1⟩
              rw [ha'.out]
              have KD1 := Blk.thru KD l1
              have B1 := Below.through l1 B0
              have C1 := KD1.cell
              clear C0
              go_wp2_with fail
              (with_reducible refine (l00In_any _ _ _ _).mono ?_)
              rintro e p2 ⟨rfl, l2⟩
              rw [hb'.out]
              have KD2 := Blk.thru KD1 l2
              have B2 := Below.through l2 B1
              clear C1
              go_wp2_with fail
              (with_reducible refine (l10Words_any _).mono ?_)
              rintro e p3 ⟨g1, g2, arr, T, rfl, -, -, kw, l3⟩
              have C3 := (Blk.thru KD2 l3).cell
              have B3 := Below.through l3 B2
              have cw := (kw.cell i).trans hcell'.out
              clear l0 l1 l2 l3 KD KD1 KD2 kw
              go_wp2
              go_ret
              exact ⟨rfl, B3⟩
          · have hbb : (b == 0) = false := by simp [hb0]
            rw [decide_eq_false hb0]
            rcases hn3 with rfl | rfl | rfl
            all_goals
              go_enter Try.func59, Try.ntmps59
              go_wp2_with fail
              (with_reducible refine (l00In_any _ _ _ _).mono ?_)
              rintro e p0 ⟨rfl, l0⟩
              rw [hk'.out]
              have KD : Blk p0 w.heap.size #[.int .i64 i, .int .i64 _, .int .i64 _] 25 := Blk.thru (Blk.new rfl) l0
              have B0 : Below w.heap.size w p0 := Below.through l0 (by repeat (first | exact Below.refl _ _ | refine Below.alloc ?_ (by simp) _))
              have C0 := KD.cell
              go_wp2_with fail
              (with_reducible refine (l00In_any _ _ _ _).mono ?_)
              rintro e p1 ⟨rfl, l1⟩
              rw [ha'.out]
              have KD1 := Blk.thru KD l1
              have B1 := Below.through l1 B0
              have C1 := KD1.cell
              clear C0
              go_wp2_with fail
              (with_reducible refine (l00In_any _ _ _ _).mono ?_)
              rintro e p2 ⟨rfl, l2⟩
              rw [hb'.out]
              have KD2 := Blk.thru KD1 l2
              have B2 := Below.through l2 B1
              clear C1
              go_wp2_with fail
              (with_reducible refine (l10Words_any _).mono ?_)
              rintro e p3 ⟨g1, g2, arr, T, rfl, -, -, kw, l3⟩
              have C3 := (Blk.thru KD2 l3).cell
              have B3 := Below.through l3 B2
              have cw := (kw.cell i).trans hcell'.out
              clear l0 l1 l2 l3 KD KD1 KD2 kw
              go_wp2
              go_ret
              exact ⟨rfl, B3⟩

end Go.Proofs.Ytmfichdcomaaeaa
