/-
  Contracts of the laws' own helpers: of lists of numbers, lists of lists. Printed by gen_law.py.
-/
import Derived.Test.YtjjdbdlbjdoebaaDoorRows
import Derived.Test.YtjjdbdlbjdoebaaDoorT
import Derived.BigQuiet
import Derived.Lib.QuietBelow

namespace Go.Proofs.YtjjdbdlbjdoebaaDoor
set_option linter.unusedVariables false
set_option linter.unusedSimpArgs false
open Go.RowKit Go.Sort
set_option maxRecDepth 100000
set_option maxHeartbeats 1000000 in
theorem toInt64S_any (v : Value) (l : List Int) (bs : List Nat) (w : World) (h : Sl 1 RInt w v l bs) (hm : InMem bs w) (hs : l.length ≤ 1048576) :
    Calls Tryd.prog 126 #[v] w (RetSl 1 RInt l w) := by
  have hl : l.length ≤ 1048576 := hs
  obtain ⟨a, c, rfl, hc1, hc2, hc3, hat0⟩ := h.open
  have hat := hd hat0
  have hs' := hd hs
  clear hat0 hc3 h hs
  have hmk := make_n (P := Tryd.prog) (t := 66) (e := 2) (z := .int .i64 0) (size := 1) (bytes := 8) (by kernel_rfl) (by kernel_rfl) l.length (by omega) (by omega)
  go_enter Tryd.func126, Tryd.ntmps126
  go_wp2
  go_loopw [4] (fun i wr => ∃ (k : Nat) (cur : Array Value) (bss : List (List Nat)), k ≤ l.length ∧ i = .int .i64 k ∧ Made 1 RInt 2 w l w.heap.size l.length k wr cur bss) (fun i _ => l.length - (intOf i).toNat)
  case atStart => exact ⟨0, _, [], Nat.zero_le _, rfl, Made.start 1 RInt _ w l l.length _ (by simp [size_madeCells])⟩
  case round =>
    obtain ⟨k, cur, bss, hk, rfl, hM⟩ := hrel
    by_cases hlt : k < l.length
    · obtain ⟨b, o, bss', bi, rfl, rfl, hE, hbi, hsub, hr0⟩ := hat.out k hlt
      clear hE
      obtain ⟨x, hx0, hx1⟩ : ∃ x, l[k]? = some x ∧ x = l[k] := ⟨_, List.getElem?_eq_getElem hlt, rfl⟩
      rw [← hx1] at hr0
      have hx := hd hx0
      clear hx0 hx1
      have hr : RInt wr (fun j => wr.cell? ⟨b, o + k * 1 + j, none⟩) x bi := RInt.fr _ _ _ _ _ _ hr0 (fun c hc => hM.below.block c (hm c (hsub c hc))) (fun j _ => (bcell hM.below).1 b _ (hm b (by simp)))
      have hbw : InMem bi wr := (fun c hc => Nat.lt_of_lt_of_le (hm c (hsub c hc)) hM.below.size)
      clear hr0 hm hsub hbi
      obtain ⟨c0, r0, rfl⟩ := hr
      simp only [Nat.mul_one, Nat.add_zero] at c0
      obtain ⟨⟨u0, e0⟩, f0⟩ := hM.room hlt (Below.refl _ _) 0 (by omega)
      rw [Nat.mul_one, Nat.add_zero] at e0 f0
      go_wp2
      go_round
      case rel =>
        obtain ⟨cur', hM'⟩ := hM.step RInt.fr hlt (Below.refl _ _) (vs := [.int .i64 x]) rfl hx.out (bi := []) ⟨rfl, r0, rfl⟩ (Own.nil _ _)
        rw [Nat.mul_one] at hM'
        exact ⟨k + 1, cur', _, hlt, by go_num, hM'⟩
      case measure => simp [intOf]; omega
    · obtain rfl : k = l.length := by omega
      go_wp2
      go_ret
      exact ⟨_, _, rfl, (hM.done RInt.fr (by unfold maxLen; omega)).1, (hM.done RInt.fr (by unfold maxLen; omega)).2, hM.below⟩

set_option maxHeartbeats 1000000 in
theorem szInt64S_any (v : Value) (l : List Int) (left : Int) (bs : List Nat) (w : World) (h : Sl 1 RInt w v l bs) (_hm : InMem bs w) (h0 : 0 ≤ left) (h1 : left ≤ 1048576) :
    Calls Tryd.prog 125 #[v, .int .i64 left] w (Says (.int .i64 (szR left (l.length))) w) := by
  obtain ⟨a, c, rfl, hc1, hc2, _⟩ := h.open
  clear h
  by_cases hle : (l.length : Int) ≤ left
  · rw [show szR left l.length = left - l.length from if_pos hle]
    have hle2 : ¬ (left - (l.length : Int) < 0) := by omega
    go_enter Tryd.func125, Tryd.ntmps125
    go_wp2
    go_ret
    exact ⟨rfl, Below.refl _ _⟩
  · rw [show szR left l.length = -1 from if_neg hle]
    have hle2 : left - (l.length : Int) < 0 := by omega
    go_enter Tryd.func125, Tryd.ntmps125
    go_wp2
    go_ret
    exact ⟨rfl, Below.refl _ _⟩

set_option maxHeartbeats 1000000 in
theorem eqInt64S_any (v1 v2 : Value) (l : List Int) (bs1 bs2 : List Nat) (w : World) (h1 : Sl 1 RInt w v1 l bs1) (h2 : Sl 1 RInt w v2 l bs2) (hm1 : InMem bs1 w) (hm2 : InMem bs2 w) :
    Calls Tryd.prog 127 #[v1, v2] w (Says (.bool true) w) := by
  obtain ⟨a, c, rfl, hc1, hc2, _, hat0⟩ := h1.open
  have hat := hd hat0
  clear hat0 h1
  obtain ⟨a', c', rfl, hc1', hc2', _, hat0⟩ := h2.open
  have hat' := hd hat0
  clear hat0 h2
  go_enter Tryd.func127, Tryd.ntmps127
  go_wp2
  go_loopw [5] (fun i wr => ∃ k : Nat, k ≤ l.length ∧ i = .int .i64 k ∧ Below w.heap.size w wr) (fun i _ => l.length - (intOf i).toNat)
  case atStart => exact ⟨0, Nat.zero_le _, rfl, Below.refl _ _⟩
  case round =>
    obtain ⟨k, hk, rfl, hB⟩ := hrel
    by_cases hlt : k < l.length
    · obtain ⟨b, o, bss', bi, rfl, rfl, hE, hbi, hsub, hr0⟩ := hat.out k hlt
      clear hE
      obtain ⟨b', o', bss'', bi', rfl, rfl, hE, hbi', hsub', hr0'⟩ := hat'.out k hlt
      clear hE
      obtain ⟨x, hx1⟩ : ∃ x, x = l[k] := ⟨_, rfl⟩
      rw [← hx1] at hr0 hr0'
      clear hx1
      have hr : RInt wr (fun j => wr.cell? ⟨b, o + k * 1 + j, none⟩) x bi := RInt.fr _ _ _ _ _ _ hr0 (fun c hc => hB.block c (hm1 c (hsub c hc))) (fun j _ => (bcell hB).1 b _ (hm1 b (by simp)))
      have hbw : InMem bi wr := (fun c hc => Nat.lt_of_lt_of_le (hm1 c (hsub c hc)) hB.size)
      have hr' : RInt wr (fun j => wr.cell? ⟨b', o' + k * 1 + j, none⟩) x bi' := RInt.fr _ _ _ _ _ _ hr0' (fun c hc => hB.block c (hm2 c (hsub' c hc))) (fun j _ => (bcell hB).1 b' _ (hm2 b' (by simp)))
      have hbw' : InMem bi' wr := (fun c hc => Nat.lt_of_lt_of_le (hm2 c (hsub' c hc)) hB.size)
      clear hr0 hr0' hm1 hm2 hsub hsub' hbi hbi'
      obtain ⟨c0, -, rfl⟩ := hr
      obtain ⟨c1, -, rfl⟩ := hr'
      simp only [Nat.mul_one, Nat.add_zero] at c0 c1
      have hlt' : (k : Int) < (l.length : Int) := by omega
      go_wp2
      go_quiet (fail)
      go_wp2
      go_roundw
      case rel => exact ⟨k + 1, hlt, by go_num, by repeat (first | exact hB | apply Below.drew | apply below_drewN)⟩
      case measure => simp [intOf]; omega
    · obtain rfl : k = l.length := by omega
      go_wp2
      go_ret
      exact ⟨rfl, hB⟩

end Go.Proofs.YtjjdbdlbjdoebaaDoor
