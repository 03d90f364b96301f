/-
  Contracts of the laws' own helpers: of ArcStep, PairStep, Verdict. Printed by gen_law.py.
-/
import Derived.Test.YtmfichdcomaaeaaRows
import Derived.Test.YtmfichdcomaaeaaT
import Derived.BigQuiet
import Derived.Lib.QuietBelow
import Derived.Test.YtmfichdcomaaeaaL1
namespace Go.Proofs.Ytmfichdcomaaeaa
set_option linter.unusedVariables false
set_option linter.unusedSimpArgs false
open Go.RowKit Go.Sort
set_option maxRecDepth 100000
set_option maxHeartbeats 1000000 in
theorem toArcStep_any (v : Value) (x : ArcStep) (bs : List Nat) (w : World) (h : Agg 3 RArcStep w v x bs) (_hm : InMem bs w) :
    Calls Try.prog 145 #[v] w (RetAgg 3 RArcStep x w) := by
  obtain ⟨rfl, g0, g1, g2, hbs⟩ := RArcStep.open h
  clear h
  clear hbs
  go_enter Try.func145, Try.ntmps145
  go_wp2
  refine bodyPost_ret (v := .agg #[.int .i64 x.var, .int .i64 x.value, .int .i64 x.con]) (by simp [results, Try.results145, go_sem]) rfl ?_
  refine ⟨_, _, rfl, RArcStep.mk' g0 g1 g2, ?_, ?_⟩
  · exact Own.nil _ _
  · exact (by repeat (first | with_reducible exact Below.refl _ _ | ((with_reducible refine Below.setCell ?_ ?_ _); rotate_left; focus first | (simp; done) | (simp; omega)) | ((with_reducible refine Below.alloc ?_ ?_ _); rotate_left; focus (first | (simp; done) | (simp; omega))) | with_reducible apply Below.drew))

set_option maxHeartbeats 1000000 in
theorem toArcStepS_any (v : Value) (l : List ArcStep) (bs : List Nat) (w : World) (h : Sl 3 RArcStep w v l bs) (hm : InMem bs w) (hs : l.length ≤ 1048576) :
    Calls Try.prog 89 #[v] w (RetSl 3 RArcStep l w) := by
  have hl : l.length ≤ 1048576 := hs
  obtain ⟨a, c, rfl, hc1, hc2, hc3, hat0⟩ := h.open
  have hat := hd hat0
  have hs' := hd hs
  clear hat0 hc3 h hs
  have hmk := make_n (P := Try.prog) (t := 70) (e := 133) (z := .agg #[.int .i64 0, .int .i64 0, .int .i64 0]) (size := 3) (bytes := 24) (by kernel_rfl) (by kernel_rfl) l.length (by omega) (by omega)
  go_enter Try.func89, Try.ntmps89
  go_wp2
  go_loopw [4] (fun i wr => ∃ (k : Nat) (cur : Array Value) (bss : List (List Nat)), k ≤ l.length ∧ i = .int .i64 k ∧ Made 3 RArcStep 133 w l w.heap.size l.length k wr cur bss) (fun i _ => l.length - (intOf i).toNat)
  case atStart => exact ⟨0, _, [], Nat.zero_le _, rfl, Made.start 3 RArcStep _ w l l.length _ (by simp [size_madeCells])⟩
  case round =>
    obtain ⟨k, cur, bss, hk, rfl, hM⟩ := hrel
    by_cases hlt : k < l.length
    · obtain ⟨b, o, bss', bi, rfl, rfl, hE, hbi, hsub, hr0⟩ := hat.out k hlt
      clear hE
      obtain ⟨x, hx0, hx1⟩ : ∃ x, l[k]? = some x ∧ x = l[k] := ⟨_, List.getElem?_eq_getElem hlt, rfl⟩
      rw [← hx1] at hr0
      have hx := hd hx0
      clear hx0 hx1
      have hr : RArcStep wr (fun j => wr.cell? ⟨b, o + k * 3 + j, none⟩) x bi := RArcStep.fr _ _ _ _ _ _ hr0 (fun c hc => hM.below.block c (hm c (hsub c hc))) (fun j _ => (bcell hM.below).1 b _ (hm b (by simp)))
      have hbw : InMem bi wr := (fun c hc => Nat.lt_of_lt_of_le (hm c (hsub c hc)) hM.below.size)
      clear hr0 hm hsub hbi
      have hrr := hd hr
      obtain ⟨c0, r0, c1, r1, c2, r2, hbi0⟩ := hr
      simp only [Nat.add_zero] at c0 c1 c2
      have hagg : Agg 3 RArcStep wr (.agg #[.int .i64 x.var, .int .i64 x.value, .int .i64 x.con]) x bi := Agg.of_cells RArcStep.fr hrr.out [.int .i64 x.var, .int .i64 x.value, .int .i64 x.con] rfl (fun j hj => by
        match j, hj with
        | 0, _ => exact c0.symm
        | 1, _ => exact c1.symm
        | 2, _ => exact c2.symm)
      clear hrr
      go_wp2_with fail
      (with_reducible refine (toArcStep_any _ x bi _ hagg hbw).mono ?_)
      rintro e w1 ⟨v', bs', rfl, hv, ho, hb⟩
      obtain ⟨rfl, g0, g1, g2, rfl⟩ := RArcStep.open hv
      obtain ⟨⟨u0, e0⟩, f0⟩ := hM.room hlt hb 0 (by omega)
      obtain ⟨⟨u1, e1⟩, f1⟩ := hM.room hlt hb 1 (by omega)
      obtain ⟨⟨u2, e2⟩, f2⟩ := hM.room hlt hb 2 (by omega)
      rw [Nat.add_zero] at e0 f0
      go_wp2
      go_round
      case rel =>
        obtain ⟨cur', hM'⟩ := hM.step RArcStep.fr hlt hb (vs := [.int .i64 x.var, .int .i64 x.value, .int .i64 x.con]) rfl hx.out ⟨rfl, g0, rfl, g1, rfl, g2, rfl⟩ ho
        exact ⟨k + 1, cur', _, hlt, by go_num, hM'⟩
      case measure => simp [intOf]; omega
    · obtain rfl : k = l.length := by omega
      go_wp2
      go_ret
      exact ⟨_, _, rfl, (hM.done RArcStep.fr (by unfold maxLen; omega)).1, (hM.done RArcStep.fr (by unfold maxLen; omega)).2, hM.below⟩

set_option maxHeartbeats 1000000 in
theorem toPairStep_any (v : Value) (x : PairStep) (bs : List Nat) (w : World) (h : Agg 3 RPairStep w v x bs) (_hm : InMem bs w) :
    Calls Try.prog 146 #[v] w (RetAgg 3 RPairStep x w) := by
  obtain ⟨rfl, g0, g1, g2, hbs⟩ := RPairStep.open h
  clear h
  clear hbs
  go_enter Try.func146, Try.ntmps146
  go_wp2
  refine bodyPost_ret (v := .agg #[.int .i64 x.i, .int .i64 x.j, .int .i64 x.through]) (by simp [results, Try.results146, go_sem]) rfl ?_
  refine ⟨_, _, rfl, RPairStep.mk' g0 g1 g2, ?_, ?_⟩
  · exact Own.nil _ _
  · exact (by repeat (first | with_reducible exact Below.refl _ _ | ((with_reducible refine Below.setCell ?_ ?_ _); rotate_left; focus first | (simp; done) | (simp; omega)) | ((with_reducible refine Below.alloc ?_ ?_ _); rotate_left; focus (first | (simp; done) | (simp; omega))) | with_reducible apply Below.drew))

set_option maxHeartbeats 1000000 in
theorem toPairStepS_any (v : Value) (l : List PairStep) (bs : List Nat) (w : World) (h : Sl 3 RPairStep w v l bs) (hm : InMem bs w) (hs : l.length ≤ 1048576) :
    Calls Try.prog 90 #[v] w (RetSl 3 RPairStep l w) := by
  have hl : l.length ≤ 1048576 := hs
  obtain ⟨a, c, rfl, hc1, hc2, hc3, hat0⟩ := h.open
  have hat := hd hat0
  have hs' := hd hs
  clear hat0 hc3 h hs
  have hmk := make_n (P := Try.prog) (t := 71) (e := 136) (z := .agg #[.int .i64 0, .int .i64 0, .int .i64 0]) (size := 3) (bytes := 24) (by kernel_rfl) (by kernel_rfl) l.length (by omega) (by omega)
  go_enter Try.func90, Try.ntmps90
  go_wp2
  go_loopw [4] (fun i wr => ∃ (k : Nat) (cur : Array Value) (bss : List (List Nat)), k ≤ l.length ∧ i = .int .i64 k ∧ Made 3 RPairStep 136 w l w.heap.size l.length k wr cur bss) (fun i _ => l.length - (intOf i).toNat)
  case atStart => exact ⟨0, _, [], Nat.zero_le _, rfl, Made.start 3 RPairStep _ w l l.length _ (by simp [size_madeCells])⟩
  case round =>
    obtain ⟨k, cur, bss, hk, rfl, hM⟩ := hrel
    by_cases hlt : k < l.length
    · obtain ⟨b, o, bss', bi, rfl, rfl, hE, hbi, hsub, hr0⟩ := hat.out k hlt
      clear hE
      obtain ⟨x, hx0, hx1⟩ : ∃ x, l[k]? = some x ∧ x = l[k] := ⟨_, List.getElem?_eq_getElem hlt, rfl⟩
      rw [← hx1] at hr0
      have hx := hd hx0
      clear hx0 hx1
      have hr : RPairStep wr (fun j => wr.cell? ⟨b, o + k * 3 + j, none⟩) x bi := RPairStep.fr _ _ _ _ _ _ hr0 (fun c hc => hM.below.block c (hm c (hsub c hc))) (fun j _ => (bcell hM.below).1 b _ (hm b (by simp)))
      have hbw : InMem bi wr := (fun c hc => Nat.lt_of_lt_of_le (hm c (hsub c hc)) hM.below.size)
      clear hr0 hm hsub hbi
      have hrr := hd hr
      obtain ⟨c0, r0, c1, r1, c2, r2, hbi0⟩ := hr
      simp only [Nat.add_zero] at c0 c1 c2
      have hagg : Agg 3 RPairStep wr (.agg #[.int .i64 x.i, .int .i64 x.j, .int .i64 x.through]) x bi := Agg.of_cells RPairStep.fr hrr.out [.int .i64 x.i, .int .i64 x.j, .int .i64 x.through] rfl (fun j hj => by
        match j, hj with
        | 0, _ => exact c0.symm
        | 1, _ => exact c1.symm
        | 2, _ => exact c2.symm)
      clear hrr
      go_wp2_with fail
      (with_reducible refine (toPairStep_any _ x bi _ hagg hbw).mono ?_)
      rintro e w1 ⟨v', bs', rfl, hv, ho, hb⟩
      obtain ⟨rfl, g0, g1, g2, rfl⟩ := RPairStep.open hv
      obtain ⟨⟨u0, e0⟩, f0⟩ := hM.room hlt hb 0 (by omega)
      obtain ⟨⟨u1, e1⟩, f1⟩ := hM.room hlt hb 1 (by omega)
      obtain ⟨⟨u2, e2⟩, f2⟩ := hM.room hlt hb 2 (by omega)
      rw [Nat.add_zero] at e0 f0
      go_wp2
      go_round
      case rel =>
        obtain ⟨cur', hM'⟩ := hM.step RPairStep.fr hlt hb (vs := [.int .i64 x.i, .int .i64 x.j, .int .i64 x.through]) rfl hx.out ⟨rfl, g0, rfl, g1, rfl, g2, rfl⟩ ho
        exact ⟨k + 1, cur', _, hlt, by go_num, hM'⟩
      case measure => simp [intOf]; omega
    · obtain rfl : k = l.length := by omega
      go_wp2
      go_ret
      exact ⟨_, _, rfl, (hM.done RPairStep.fr (by unfold maxLen; omega)).1, (hM.done RPairStep.fr (by unfold maxLen; omega)).2, hM.below⟩

set_option maxHeartbeats 1000000 in
theorem toVerdict_any (v : Value) (x : Verdict) (bs : List Nat) (w : World) (h : Agg 5 RVerdict w v x bs) (hm : InMem bs w) (hs : x.sz ≤ 1048576) :
    Calls Try.prog 39 #[v] w (RetAgg 5 RVerdict x w) := by
  obtain ⟨v1, v2, v3, v4, b1, b2, b3, b4, rfl, g0, g1, g2, g3, g4, hbs⟩ := RVerdict.open h
  obtain ⟨a1, n1, rfl⟩ := g1.val
  obtain ⟨a2, n2, rfl⟩ := g2.val
  obtain ⟨a3, n3, rfl⟩ := g3.val
  obtain ⟨a4, n4, rfl⟩ := g4.val
  clear h
  have hs' := hd hs
  clear hs
  have hm1 : InMem b1 w := fun c hc => hm c (by rw [hbs]; simp [hc])
  have hm2 : InMem b2 w := fun c hc => hm c (by rw [hbs]; simp [hc])
  have hm3 : InMem b3 w := fun c hc => hm c (by rw [hbs]; simp [hc])
  have hm4 : InMem b4 w := fun c hc => hm c (by rw [hbs]; simp [hc])
  clear hm hbs
  go_enter Try.func39, Try.ntmps39
  go_wp2_with fail
  (with_reducible refine (toInt64S_any _ x.values b1 _ ?_ ?_ ?_).mono ?_)
  · exact g1.same RInt.fr (hm1.same (by repeat (first | with_reducible exact Below.refl _ _ | ((with_reducible refine Below.setCell ?_ ?_ _); rotate_left; focus first | (simp; done) | (simp; omega)) | ((with_reducible refine Below.alloc ?_ ?_ _); rotate_left; focus (first | (simp; done) | (simp; omega))) | with_reducible apply Below.drew)))
  · exact hm1.le (Below.size (B := w.heap.size) (by repeat (first | with_reducible exact Below.refl _ _ | ((with_reducible refine Below.setCell ?_ ?_ _); rotate_left; focus first | (simp; done) | (simp; omega)) | ((with_reducible refine Below.alloc ?_ ?_ _); rotate_left; focus (first | (simp; done) | (simp; omega))) | with_reducible apply Below.drew)))
  · have := hs'.out; unfold Verdict.sz at this; omega
  rintro e p0 ⟨z1, d1, rfl, k1, o1, l1⟩
  obtain ⟨y1, m1, rfl⟩ := k1.val
  have B0 : Below w.heap.size w p0 := Below.through l1 (by repeat (first | with_reducible exact Below.refl _ _ | ((with_reducible refine Below.setCell ?_ ?_ _); rotate_left; focus first | (simp; done) | (simp; omega)) | ((with_reducible refine Below.alloc ?_ ?_ _); rotate_left; focus (first | (simp; done) | (simp; omega))) | with_reducible apply Below.drew))
  have K0_0 : Blk p0 w.heap.size #[.int .i64 x.kind, .slice a1 x.values.length n1, .slice a2 x.arcs.length n2, .slice a3 x.pairs.length n3, .slice a4 x.numbers.length n4] 68 := Blk.thru (by (repeat (first | with_reducible apply Blk.set_at | ((with_reducible refine Blk.set_far ?_ ?_); rotate_left; focus (first | (simp; done) | (simp; omega))) | ((with_reducible refine Blk.new ?_); simp; done) | with_reducible refine Blk.old ?_ _)); all_goals rfl) l1
  have K0_1 : Blk p0 (w.heap.size + 1) #[.int .i64 0, .slice none 0 0, .slice none 0 0, .slice none 0 0, .slice none 0 0] 73 := Blk.thru (by (repeat (first | with_reducible apply Blk.set_at | ((with_reducible refine Blk.set_far ?_ ?_); rotate_left; focus (first | (simp; done) | (simp; omega))) | ((with_reducible refine Blk.new ?_); simp; done) | with_reducible refine Blk.old ?_ _)); all_goals rfl) l1
  have K0_2 : Blk p0 (w.heap.size + 1 + 1) #[.int .i64 x.kind, .slice none 0 0, .slice none 0 0, .slice none 0 0, .slice none 0 0] 73 := Blk.thru (by (repeat (first | with_reducible apply Blk.set_at | ((with_reducible refine Blk.set_far ?_ ?_); rotate_left; focus (first | (simp; done) | (simp; omega))) | ((with_reducible refine Blk.new ?_); simp; done) | with_reducible refine Blk.old ?_ _)); all_goals rfl) l1
  have S0 := l1.size
  try simp at S0
  have C0_0 := K0_0.cell
  have F0_0 := K0_0.frozen
  have C0_1 := K0_1.cell
  have F0_1 := K0_1.frozen
  have C0_2 := K0_2.cell
  have F0_2 := K0_2.frozen
  go_wp2_with fail
  (with_reducible refine (toArcStepS_any _ x.arcs b2 _ ?_ ?_ ?_).mono ?_)
  · exact g2.same RArcStep.fr (hm2.same (by repeat (first | with_reducible exact Below.refl _ _ | with_reducible exact B0 | ((with_reducible refine Below.setCell ?_ ?_ _); rotate_left; focus first | (simp; done) | (simp; omega)) | ((with_reducible refine Below.alloc ?_ ?_ _); rotate_left; focus (first | (simp; done) | (simp; omega) | (have := B0.size; simp at *; omega))) | with_reducible apply Below.drew)))
  · exact hm2.le (Below.size (B := w.heap.size) (by repeat (first | with_reducible exact Below.refl _ _ | with_reducible exact B0 | ((with_reducible refine Below.setCell ?_ ?_ _); rotate_left; focus first | (simp; done) | (simp; omega)) | ((with_reducible refine Below.alloc ?_ ?_ _); rotate_left; focus (first | (simp; done) | (simp; omega) | (have := B0.size; simp at *; omega))) | with_reducible apply Below.drew)))
  · have := hs'.out; unfold Verdict.sz at this; omega
  rintro e p1 ⟨z2, d2, rfl, k2, o2, l2⟩
  obtain ⟨y2, m2, rfl⟩ := k2.val
  have B1 : Below w.heap.size w p1 := Below.through l2 (by repeat (first | with_reducible exact Below.refl _ _ | with_reducible exact B0 | ((with_reducible refine Below.setCell ?_ ?_ _); rotate_left; focus first | (simp; done) | (simp; omega)) | ((with_reducible refine Below.alloc ?_ ?_ _); rotate_left; focus (first | (simp; done) | (simp; omega) | (have := B0.size; simp at *; omega))) | with_reducible apply Below.drew))
  have K1_0 : Blk p1 w.heap.size #[.int .i64 x.kind, .slice a1 x.values.length n1, .slice a2 x.arcs.length n2, .slice a3 x.pairs.length n3, .slice a4 x.numbers.length n4] 68 := Blk.thru (by (repeat (first | with_reducible exact K0_0 | with_reducible apply Blk.set_at | ((with_reducible refine Blk.set_far ?_ ?_); rotate_left; focus (first | (simp; done) | (simp; omega))) | ((with_reducible refine Blk.new ?_); simp; done) | with_reducible refine Blk.old ?_ _)); all_goals rfl) l2
  have K1_1 : Blk p1 (w.heap.size + 1) #[.int .i64 0, .slice none 0 0, .slice none 0 0, .slice none 0 0, .slice none 0 0] 73 := Blk.thru (by (repeat (first | with_reducible exact K0_1 | with_reducible apply Blk.set_at | ((with_reducible refine Blk.set_far ?_ ?_); rotate_left; focus (first | (simp; done) | (simp; omega))) | ((with_reducible refine Blk.new ?_); simp; done) | with_reducible refine Blk.old ?_ _)); all_goals rfl) l2
  have K1_2 : Blk p1 (w.heap.size + 1 + 1) #[.int .i64 x.kind, .slice y1 x.values.length m1, .slice none 0 0, .slice none 0 0, .slice none 0 0] 73 := Blk.thru (by (repeat (first | with_reducible exact K0_2 | with_reducible apply Blk.set_at | ((with_reducible refine Blk.set_far ?_ ?_); rotate_left; focus (first | (simp; done) | (simp; omega))) | ((with_reducible refine Blk.new ?_); simp; done) | with_reducible refine Blk.old ?_ _)); all_goals rfl) l2
  have E0_1 : SameAt d1 p0 p1 := SameAt.thru (by repeat (first | with_reducible exact SameAt.refl _ _ | ((with_reducible refine SameAt.set ?_ ?_ _); rotate_left; focus (intro b hb; have := (o1.2 b hb).1; simp at this ⊢; omega)) | ((with_reducible refine SameAt.alloc ?_ ?_ _); rotate_left; exact (o1.inMem.le (by first | (simp; done) | (simp; omega) | (have := B0.size; simp at *; omega)))) | with_reducible apply SameAt.drew)) (o1.inMem.le (by first | (simp; done) | (simp; omega))) l2
  have S1 := l2.size
  try simp at S1
  have C1_0 := K1_0.cell
  have F1_0 := K1_0.frozen
  have C1_1 := K1_1.cell
  have F1_1 := K1_1.frozen
  have C1_2 := K1_2.cell
  have F1_2 := K1_2.frozen
  clear C0_0 F0_0 C0_1 F0_1 C0_2 F0_2
  go_wp2_with fail
  (with_reducible refine (toPairStepS_any _ x.pairs b3 _ ?_ ?_ ?_).mono ?_)
  · exact g3.same RPairStep.fr (hm3.same (by repeat (first | with_reducible exact Below.refl _ _ | with_reducible exact B1 | with_reducible exact B0 | ((with_reducible refine Below.setCell ?_ ?_ _); rotate_left; focus first | (simp; done) | (simp; omega)) | ((with_reducible refine Below.alloc ?_ ?_ _); rotate_left; focus (first | (simp; done) | (simp; omega) | (have := B1.size; simp at *; omega))) | with_reducible apply Below.drew)))
  · exact hm3.le (Below.size (B := w.heap.size) (by repeat (first | with_reducible exact Below.refl _ _ | with_reducible exact B1 | with_reducible exact B0 | ((with_reducible refine Below.setCell ?_ ?_ _); rotate_left; focus first | (simp; done) | (simp; omega)) | ((with_reducible refine Below.alloc ?_ ?_ _); rotate_left; focus (first | (simp; done) | (simp; omega) | (have := B1.size; simp at *; omega))) | with_reducible apply Below.drew)))
  · have := hs'.out; unfold Verdict.sz at this; omega
  rintro e p2 ⟨z3, d3, rfl, k3, o3, l3⟩
  obtain ⟨y3, m3, rfl⟩ := k3.val
  have B2 : Below w.heap.size w p2 := Below.through l3 (by repeat (first | with_reducible exact Below.refl _ _ | with_reducible exact B1 | with_reducible exact B0 | ((with_reducible refine Below.setCell ?_ ?_ _); rotate_left; focus first | (simp; done) | (simp; omega)) | ((with_reducible refine Below.alloc ?_ ?_ _); rotate_left; focus (first | (simp; done) | (simp; omega) | (have := B1.size; simp at *; omega))) | with_reducible apply Below.drew))
  have K2_0 : Blk p2 w.heap.size #[.int .i64 x.kind, .slice a1 x.values.length n1, .slice a2 x.arcs.length n2, .slice a3 x.pairs.length n3, .slice a4 x.numbers.length n4] 68 := Blk.thru (by (repeat (first | with_reducible exact K1_0 | with_reducible apply Blk.set_at | ((with_reducible refine Blk.set_far ?_ ?_); rotate_left; focus (first | (simp; done) | (simp; omega))) | ((with_reducible refine Blk.new ?_); simp; done) | with_reducible refine Blk.old ?_ _)); all_goals rfl) l3
  have K2_1 : Blk p2 (w.heap.size + 1) #[.int .i64 0, .slice none 0 0, .slice none 0 0, .slice none 0 0, .slice none 0 0] 73 := Blk.thru (by (repeat (first | with_reducible exact K1_1 | with_reducible apply Blk.set_at | ((with_reducible refine Blk.set_far ?_ ?_); rotate_left; focus (first | (simp; done) | (simp; omega))) | ((with_reducible refine Blk.new ?_); simp; done) | with_reducible refine Blk.old ?_ _)); all_goals rfl) l3
  have K2_2 : Blk p2 (w.heap.size + 1 + 1) #[.int .i64 x.kind, .slice y1 x.values.length m1, .slice y2 x.arcs.length m2, .slice none 0 0, .slice none 0 0] 73 := Blk.thru (by (repeat (first | with_reducible exact K1_2 | with_reducible apply Blk.set_at | ((with_reducible refine Blk.set_far ?_ ?_); rotate_left; focus (first | (simp; done) | (simp; omega))) | ((with_reducible refine Blk.new ?_); simp; done) | with_reducible refine Blk.old ?_ _)); all_goals rfl) l3
  have E0_2 : SameAt d1 p0 p2 := SameAt.thru (by repeat (first | with_reducible exact E0_1 | ((with_reducible refine SameAt.set ?_ ?_ _); rotate_left; focus (intro b hb; have := (o1.2 b hb).1; simp at this ⊢; omega)) | ((with_reducible refine SameAt.alloc ?_ ?_ _); rotate_left; exact (o1.inMem.le (by first | (simp; done) | (simp; omega) | (have := B1.size; simp at *; omega)))) | with_reducible apply SameAt.drew)) (o1.inMem.le (by first | (simp; done) | (simp; omega))) l3
  have E1_2 : SameAt d2 p1 p2 := SameAt.thru (by repeat (first | with_reducible exact SameAt.refl _ _ | ((with_reducible refine SameAt.set ?_ ?_ _); rotate_left; focus (intro b hb; have := (o2.2 b hb).1; simp at this ⊢; omega)) | ((with_reducible refine SameAt.alloc ?_ ?_ _); rotate_left; exact (o2.inMem.le (by first | (simp; done) | (simp; omega) | (have := B1.size; simp at *; omega)))) | with_reducible apply SameAt.drew)) (o2.inMem.le (by first | (simp; done) | (simp; omega))) l3
  have S2 := l3.size
  try simp at S2
  have C2_0 := K2_0.cell
  have F2_0 := K2_0.frozen
  have C2_1 := K2_1.cell
  have F2_1 := K2_1.frozen
  have C2_2 := K2_2.cell
  have F2_2 := K2_2.frozen
  clear C1_0 F1_0 C1_1 F1_1 C1_2 F1_2
  go_wp2_with fail
  (with_reducible refine (toInt64S_any _ x.numbers b4 _ ?_ ?_ ?_).mono ?_)
  · exact g4.same RInt.fr (hm4.same (by repeat (first | with_reducible exact Below.refl _ _ | with_reducible exact B2 | with_reducible exact B1 | with_reducible exact B0 | ((with_reducible refine Below.setCell ?_ ?_ _); rotate_left; focus first | (simp; done) | (simp; omega)) | ((with_reducible refine Below.alloc ?_ ?_ _); rotate_left; focus (first | (simp; done) | (simp; omega) | (have := B2.size; simp at *; omega))) | with_reducible apply Below.drew)))
  · exact hm4.le (Below.size (B := w.heap.size) (by repeat (first | with_reducible exact Below.refl _ _ | with_reducible exact B2 | with_reducible exact B1 | with_reducible exact B0 | ((with_reducible refine Below.setCell ?_ ?_ _); rotate_left; focus first | (simp; done) | (simp; omega)) | ((with_reducible refine Below.alloc ?_ ?_ _); rotate_left; focus (first | (simp; done) | (simp; omega) | (have := B2.size; simp at *; omega))) | with_reducible apply Below.drew)))
  · have := hs'.out; unfold Verdict.sz at this; omega
  rintro e p3 ⟨z4, d4, rfl, k4, o4, l4⟩
  obtain ⟨y4, m4, rfl⟩ := k4.val
  have B3 : Below w.heap.size w p3 := Below.through l4 (by repeat (first | with_reducible exact Below.refl _ _ | with_reducible exact B2 | with_reducible exact B1 | with_reducible exact B0 | ((with_reducible refine Below.setCell ?_ ?_ _); rotate_left; focus first | (simp; done) | (simp; omega)) | ((with_reducible refine Below.alloc ?_ ?_ _); rotate_left; focus (first | (simp; done) | (simp; omega) | (have := B2.size; simp at *; omega))) | with_reducible apply Below.drew))
  have K3_0 : Blk p3 w.heap.size #[.int .i64 x.kind, .slice a1 x.values.length n1, .slice a2 x.arcs.length n2, .slice a3 x.pairs.length n3, .slice a4 x.numbers.length n4] 68 := Blk.thru (by (repeat (first | with_reducible exact K2_0 | with_reducible apply Blk.set_at | ((with_reducible refine Blk.set_far ?_ ?_); rotate_left; focus (first | (simp; done) | (simp; omega))) | ((with_reducible refine Blk.new ?_); simp; done) | with_reducible refine Blk.old ?_ _)); all_goals rfl) l4
  have K3_1 : Blk p3 (w.heap.size + 1) #[.int .i64 0, .slice none 0 0, .slice none 0 0, .slice none 0 0, .slice none 0 0] 73 := Blk.thru (by (repeat (first | with_reducible exact K2_1 | with_reducible apply Blk.set_at | ((with_reducible refine Blk.set_far ?_ ?_); rotate_left; focus (first | (simp; done) | (simp; omega))) | ((with_reducible refine Blk.new ?_); simp; done) | with_reducible refine Blk.old ?_ _)); all_goals rfl) l4
  have K3_2 : Blk p3 (w.heap.size + 1 + 1) #[.int .i64 x.kind, .slice y1 x.values.length m1, .slice y2 x.arcs.length m2, .slice y3 x.pairs.length m3, .slice none 0 0] 73 := Blk.thru (by (repeat (first | with_reducible exact K2_2 | with_reducible apply Blk.set_at | ((with_reducible refine Blk.set_far ?_ ?_); rotate_left; focus (first | (simp; done) | (simp; omega))) | ((with_reducible refine Blk.new ?_); simp; done) | with_reducible refine Blk.old ?_ _)); all_goals rfl) l4
  have E0_3 : SameAt d1 p0 p3 := SameAt.thru (by repeat (first | with_reducible exact E0_2 | ((with_reducible refine SameAt.set ?_ ?_ _); rotate_left; focus (intro b hb; have := (o1.2 b hb).1; simp at this ⊢; omega)) | ((with_reducible refine SameAt.alloc ?_ ?_ _); rotate_left; exact (o1.inMem.le (by first | (simp; done) | (simp; omega) | (have := B2.size; simp at *; omega)))) | with_reducible apply SameAt.drew)) (o1.inMem.le (by first | (simp; done) | (simp; omega))) l4
  have E1_3 : SameAt d2 p1 p3 := SameAt.thru (by repeat (first | with_reducible exact E1_2 | ((with_reducible refine SameAt.set ?_ ?_ _); rotate_left; focus (intro b hb; have := (o2.2 b hb).1; simp at this ⊢; omega)) | ((with_reducible refine SameAt.alloc ?_ ?_ _); rotate_left; exact (o2.inMem.le (by first | (simp; done) | (simp; omega) | (have := B2.size; simp at *; omega)))) | with_reducible apply SameAt.drew)) (o2.inMem.le (by first | (simp; done) | (simp; omega))) l4
  have E2_3 : SameAt d3 p2 p3 := SameAt.thru (by repeat (first | with_reducible exact SameAt.refl _ _ | ((with_reducible refine SameAt.set ?_ ?_ _); rotate_left; focus (intro b hb; have := (o3.2 b hb).1; simp at this ⊢; omega)) | ((with_reducible refine SameAt.alloc ?_ ?_ _); rotate_left; exact (o3.inMem.le (by first | (simp; done) | (simp; omega) | (have := B2.size; simp at *; omega)))) | with_reducible apply SameAt.drew)) (o3.inMem.le (by first | (simp; done) | (simp; omega))) l4
  have S3 := l4.size
  try simp at S3
  have C3_0 := K3_0.cell
  have F3_0 := K3_0.frozen
  have C3_1 := K3_1.cell
  have F3_1 := K3_1.frozen
  have C3_2 := K3_2.cell
  have F3_2 := K3_2.frozen
  clear C2_0 F2_0 C2_1 F2_1 C2_2 F2_2
  go_wp2
  refine bodyPost_ret (v := .agg #[.int .i64 x.kind, .slice y1 x.values.length m1, .slice y2 x.arcs.length m2, .slice y3 x.pairs.length m3, .slice y4 x.numbers.length m4]) (by simp [results, Try.results39, go_sem, C3_1]) rfl ?_
  refine ⟨_, _, rfl, RVerdict.mk' (b1 := d1) (b2 := d2) (b3 := d3) (b4 := d4) ?_ ?_ ?_ ?_ ?_, ?_, ?_⟩
  · exact g0
  · exact (k1.same RInt.fr (by repeat (first | with_reducible exact E0_3 | ((with_reducible refine SameAt.set ?_ ?_ _); rotate_left; focus (intro b hb; have := (o1.2 b hb).1; simp at this ⊢; omega)) | ((with_reducible refine SameAt.alloc ?_ ?_ _); rotate_left; exact (o1.inMem.le (by first | (simp; done) | (simp; omega) | (have := B3.size; simp at *; omega)))) | with_reducible apply SameAt.drew)))
  · exact (k2.same RArcStep.fr (by repeat (first | with_reducible exact E1_3 | ((with_reducible refine SameAt.set ?_ ?_ _); rotate_left; focus (intro b hb; have := (o2.2 b hb).1; simp at this ⊢; omega)) | ((with_reducible refine SameAt.alloc ?_ ?_ _); rotate_left; exact (o2.inMem.le (by first | (simp; done) | (simp; omega) | (have := B3.size; simp at *; omega)))) | with_reducible apply SameAt.drew)))
  · exact (k3.same RPairStep.fr (by repeat (first | with_reducible exact E2_3 | ((with_reducible refine SameAt.set ?_ ?_ _); rotate_left; focus (intro b hb; have := (o3.2 b hb).1; simp at this ⊢; omega)) | ((with_reducible refine SameAt.alloc ?_ ?_ _); rotate_left; exact (o3.inMem.le (by first | (simp; done) | (simp; omega) | (have := B3.size; simp at *; omega)))) | with_reducible apply SameAt.drew)))
  · exact (k4.same RInt.fr (by repeat (first | with_reducible exact SameAt.refl _ _ | ((with_reducible refine SameAt.set ?_ ?_ _); rotate_left; focus (intro b hb; have := (o4.2 b hb).1; simp at this ⊢; omega)) | ((with_reducible refine SameAt.alloc ?_ ?_ _); rotate_left; exact (o4.inMem.le (by first | (simp; done) | (simp; omega) | (have := B3.size; simp at *; omega)))) | with_reducible apply SameAt.drew)))
  · have O0 := o1.mono (C := w.heap.size) (by first | (simp; done) | (simp; omega))
    have O1 := o2.mono (C := w.heap.size) (by first | (simp; done) | (simp; omega))
    have O2 := o3.mono (C := w.heap.size) (by first | (simp; done) | (simp; omega))
    have O3 := o4.mono (C := w.heap.size) (by first | (simp; done) | (simp; omega))
    refine Own.append ?_ (O3.same (by repeat (first | with_reducible exact SameAt.refl _ _ | ((with_reducible refine SameAt.set ?_ ?_ _); rotate_left; focus (intro b hb; have := (o4.2 b hb).1; simp at this ⊢; omega)) | ((with_reducible refine SameAt.alloc ?_ ?_ _); rotate_left; exact (o4.inMem.le (by first | (simp; done) | (simp; omega) | (have := B3.size; simp at *; omega)))) | with_reducible apply SameAt.drew))) (fun b hb hb' => ?_)
    rotate_left
    · have h2 := (o4.2 b hb').1
      simp only [List.mem_append] at hb
      have hs3 : b < p2.heap.size := by
        rcases hb with (hb | hb) | hb
        · have := o1.inMem b hb; omega
        · have := o2.inMem b hb; omega
        · have := o3.inMem b hb; omega
      simp at h2; omega
    refine Own.append ?_ (O2.same (by repeat (first | with_reducible exact E2_3 | ((with_reducible refine SameAt.set ?_ ?_ _); rotate_left; focus (intro b hb; have := (o3.2 b hb).1; simp at this ⊢; omega)) | ((with_reducible refine SameAt.alloc ?_ ?_ _); rotate_left; exact (o3.inMem.le (by first | (simp; done) | (simp; omega) | (have := B3.size; simp at *; omega)))) | with_reducible apply SameAt.drew))) (fun b hb hb' => ?_)
    rotate_left
    · have h2 := (o3.2 b hb').1
      simp only [List.mem_append] at hb
      have hs3 : b < p1.heap.size := by
        rcases hb with hb | hb
        · have := o1.inMem b hb; omega
        · have := o2.inMem b hb; omega
      simp at h2; omega
    refine Own.append ?_ (O1.same (by repeat (first | with_reducible exact E1_3 | ((with_reducible refine SameAt.set ?_ ?_ _); rotate_left; focus (intro b hb; have := (o2.2 b hb).1; simp at this ⊢; omega)) | ((with_reducible refine SameAt.alloc ?_ ?_ _); rotate_left; exact (o2.inMem.le (by first | (simp; done) | (simp; omega) | (have := B3.size; simp at *; omega)))) | with_reducible apply SameAt.drew))) (fun b hb hb' => ?_)
    rotate_left
    · have h2 := (o2.2 b hb').1
      have hs3 : b < p0.heap.size := by
        exact o1.inMem b hb
      simp at h2; omega
    exact O0.same (by repeat (first | with_reducible exact E0_3 | ((with_reducible refine SameAt.set ?_ ?_ _); rotate_left; focus (intro b hb; have := (o1.2 b hb).1; simp at this ⊢; omega)) | ((with_reducible refine SameAt.alloc ?_ ?_ _); rotate_left; exact (o1.inMem.le (by first | (simp; done) | (simp; omega) | (have := B3.size; simp at *; omega)))) | with_reducible apply SameAt.drew))
  · exact (by repeat (first | with_reducible exact Below.refl _ _ | with_reducible exact B3 | with_reducible exact B2 | with_reducible exact B1 | with_reducible exact B0 | ((with_reducible refine Below.setCell ?_ ?_ _); rotate_left; focus first | (simp; done) | (simp; omega)) | ((with_reducible refine Below.alloc ?_ ?_ _); rotate_left; focus (first | (simp; done) | (simp; omega) | (have := B3.size; simp at *; omega))) | with_reducible apply Below.drew))

set_option maxHeartbeats 1000000 in
theorem szArcStepS_any (v : Value) (l : List ArcStep) (left : Int) (bs : List Nat) (w : World) (h : Sl 3 RArcStep w v l bs) (_hm : InMem bs w) (h0 : 0 ≤ left) (h1 : left ≤ 1048576) :
    Calls Try.prog 85 #[v, .int .i64 left] w (Says (.int .i64 (szR left (l.length))) w) := by
  obtain ⟨a, c, rfl, hc1, hc2, _⟩ := h.open
  clear h
  by_cases hle : (l.length : Int) ≤ left
  · rw [show szR left l.length = left - l.length from if_pos hle]
    have hle2 : ¬ (left - (l.length : Int) < 0) := by omega
    go_enter Try.func85, Try.ntmps85
    go_wp2
    go_ret
    exact ⟨rfl, Below.refl _ _⟩
  · rw [show szR left l.length = -1 from if_neg hle]
    have hle2 : left - (l.length : Int) < 0 := by omega
    go_enter Try.func85, Try.ntmps85
    go_wp2
    go_ret
    exact ⟨rfl, Below.refl _ _⟩

set_option maxHeartbeats 1000000 in
theorem szPairStepS_any (v : Value) (l : List PairStep) (left : Int) (bs : List Nat) (w : World) (h : Sl 3 RPairStep w v l bs) (_hm : InMem bs w) (h0 : 0 ≤ left) (h1 : left ≤ 1048576) :
    Calls Try.prog 86 #[v, .int .i64 left] w (Says (.int .i64 (szR left (l.length))) w) := by
  obtain ⟨a, c, rfl, hc1, hc2, _⟩ := h.open
  clear h
  by_cases hle : (l.length : Int) ≤ left
  · rw [show szR left l.length = left - l.length from if_pos hle]
    have hle2 : ¬ (left - (l.length : Int) < 0) := by omega
    go_enter Try.func86, Try.ntmps86
    go_wp2
    go_ret
    exact ⟨rfl, Below.refl _ _⟩
  · rw [show szR left l.length = -1 from if_neg hle]
    have hle2 : left - (l.length : Int) < 0 := by omega
    go_enter Try.func86, Try.ntmps86
    go_wp2
    go_ret
    exact ⟨rfl, Below.refl _ _⟩

set_option maxHeartbeats 1000000 in
theorem szVerdict_any (v : Value) (x : Verdict) (left : Int) (bs : List Nat) (w : World) (h : Agg 5 RVerdict w v x bs) (hm : InMem bs w) (h0 : 0 ≤ left) (h1 : left ≤ 1048576) :
    Calls Try.prog 37 #[v, .int .i64 left] w (Says (.int .i64 (szR left x.sz)) w) := by
  obtain ⟨v1, v2, v3, v4, b1, b2, b3, b4, rfl, g0, g1, g2, g3, g4, hbs⟩ := RVerdict.open h
  obtain ⟨a1, n1, rfl⟩ := g1.val
  obtain ⟨a2, n2, rfl⟩ := g2.val
  obtain ⟨a3, n3, rfl⟩ := g3.val
  obtain ⟨a4, n4, rfl⟩ := g4.val
  clear h
  have hm1 : InMem b1 w := fun c hc => hm c (by rw [hbs]; simp [hc])
  have hm2 : InMem b2 w := fun c hc => hm c (by rw [hbs]; simp [hc])
  have hm3 : InMem b3 w := fun c hc => hm c (by rw [hbs]; simp [hc])
  have hm4 : InMem b4 w := fun c hc => hm c (by rw [hbs]; simp [hc])
  clear hm hbs
  obtain ⟨s0, hs0⟩ : ∃ n : Nat, n = x.values.length := ⟨_, rfl⟩
  obtain ⟨s1, hs1⟩ : ∃ n : Nat, n = x.arcs.length := ⟨_, rfl⟩
  obtain ⟨s2, hs2⟩ : ∃ n : Nat, n = x.pairs.length := ⟨_, rfl⟩
  obtain ⟨s3, hs3⟩ : ∃ n : Nat, n = x.numbers.length := ⟨_, rfl⟩
  have hsz := hd (show x.sz = s0 + s1 + s2 + s3 by unfold Verdict.sz; rw [hs0, hs1, hs2, hs3])
  have hs0' := hd hs0.symm
  have hs1' := hd hs1.symm
  have hs2' := hd hs2.symm
  have hs3' := hd hs3.symm
  clear hs0 hs1 hs2 hs3
  by_cases f0 : (s0 : Int) ≤ left
  rotate_left
  · rw [show szR left x.sz = -1 from if_neg (by rw [hsz.out]; omega)]
    go_enter Try.func37, Try.ntmps37
    go_wp2_with fail
    (with_reducible refine (szInt64S_any _ x.values _ b1 _ ?_ ?_ ?_ ?_).mono ?_)
    · exact g1.same RInt.fr (hm1.same (by repeat (first | with_reducible exact Below.refl _ _ | ((with_reducible refine Below.setCell ?_ ?_ _); rotate_left; focus first | (simp; done) | (simp; omega)) | ((with_reducible refine Below.alloc ?_ ?_ _); rotate_left; focus (first | (simp; done) | (simp; omega))) | with_reducible apply Below.drew)))
    · exact hm1.le (Below.size (B := w.heap.size) (by repeat (first | with_reducible exact Below.refl _ _ | ((with_reducible refine Below.setCell ?_ ?_ _); rotate_left; focus first | (simp; done) | (simp; omega)) | ((with_reducible refine Below.alloc ?_ ?_ _); rotate_left; focus (first | (simp; done) | (simp; omega))) | with_reducible apply Below.drew)))
    · omega
    · omega
    rintro e p0 ⟨rfl, l0⟩
    rw [show szR (left) (x.values.length) = -1 from if_neg (by rw [hs0'.out]; omega)]
    have B0 : Below w.heap.size w p0 := Below.through l0 (by repeat (first | with_reducible exact Below.refl _ _ | ((with_reducible refine Below.setCell ?_ ?_ _); rotate_left; focus first | (simp; done) | (simp; omega)) | ((with_reducible refine Below.alloc ?_ ?_ _); rotate_left; focus (first | (simp; done) | (simp; omega))) | with_reducible apply Below.drew))
    have K0 : Blk p0 w.heap.size #[.int .i64 x.kind, .slice a1 x.values.length n1, .slice a2 x.arcs.length n2, .slice a3 x.pairs.length n3, .slice a4 x.numbers.length n4] 68 := Blk.thru (by (repeat (first | with_reducible apply Blk.set_at | ((with_reducible refine Blk.set_far ?_ ?_); rotate_left; focus (first | (simp; done) | (simp; omega))) | ((with_reducible refine Blk.new ?_); simp; done) | with_reducible refine Blk.old ?_ _)); all_goals rfl) l0
    have C0 := K0.cell
    go_wp2
    go_ret
    exact ⟨rfl, (by repeat (first | with_reducible exact Below.refl _ _ | with_reducible exact B0 | ((with_reducible refine Below.setCell ?_ ?_ _); rotate_left; focus first | (simp; done) | (simp; omega)) | ((with_reducible refine Below.alloc ?_ ?_ _); rotate_left; focus (first | (simp; done) | (simp; omega) | (have := B0.size; simp at *; omega))) | with_reducible apply Below.drew))⟩
  by_cases f1 : (s1 : Int) ≤ left - s0
  rotate_left
  · rw [show szR left x.sz = -1 from if_neg (by rw [hsz.out]; omega)]
    go_enter Try.func37, Try.ntmps37
    go_wp2_with fail
    (with_reducible refine (szInt64S_any _ x.values _ b1 _ ?_ ?_ ?_ ?_).mono ?_)
    · exact g1.same RInt.fr (hm1.same (by repeat (first | with_reducible exact Below.refl _ _ | ((with_reducible refine Below.setCell ?_ ?_ _); rotate_left; focus first | (simp; done) | (simp; omega)) | ((with_reducible refine Below.alloc ?_ ?_ _); rotate_left; focus (first | (simp; done) | (simp; omega))) | with_reducible apply Below.drew)))
    · exact hm1.le (Below.size (B := w.heap.size) (by repeat (first | with_reducible exact Below.refl _ _ | ((with_reducible refine Below.setCell ?_ ?_ _); rotate_left; focus first | (simp; done) | (simp; omega)) | ((with_reducible refine Below.alloc ?_ ?_ _); rotate_left; focus (first | (simp; done) | (simp; omega))) | with_reducible apply Below.drew)))
    · omega
    · omega
    rintro e p0 ⟨rfl, l0⟩
    rw [show szR (left) (x.values.length) = left - s0 from (by rw [hs0'.out]; exact if_pos (by omega))]
    have z0 : ¬ (left - (s0 : Int) < 0) := by omega
    have B0 : Below w.heap.size w p0 := Below.through l0 (by repeat (first | with_reducible exact Below.refl _ _ | ((with_reducible refine Below.setCell ?_ ?_ _); rotate_left; focus first | (simp; done) | (simp; omega)) | ((with_reducible refine Below.alloc ?_ ?_ _); rotate_left; focus (first | (simp; done) | (simp; omega))) | with_reducible apply Below.drew))
    have K0 : Blk p0 w.heap.size #[.int .i64 x.kind, .slice a1 x.values.length n1, .slice a2 x.arcs.length n2, .slice a3 x.pairs.length n3, .slice a4 x.numbers.length n4] 68 := Blk.thru (by (repeat (first | with_reducible apply Blk.set_at | ((with_reducible refine Blk.set_far ?_ ?_); rotate_left; focus (first | (simp; done) | (simp; omega))) | ((with_reducible refine Blk.new ?_); simp; done) | with_reducible refine Blk.old ?_ _)); all_goals rfl) l0
    have C0 := K0.cell
    go_wp2_with fail
    (with_reducible refine (szArcStepS_any _ x.arcs _ b2 _ ?_ ?_ ?_ ?_).mono ?_)
    · exact g2.same RArcStep.fr (hm2.same (by repeat (first | with_reducible exact Below.refl _ _ | with_reducible exact B0 | ((with_reducible refine Below.setCell ?_ ?_ _); rotate_left; focus first | (simp; done) | (simp; omega)) | ((with_reducible refine Below.alloc ?_ ?_ _); rotate_left; focus (first | (simp; done) | (simp; omega) | (have := B0.size; simp at *; omega))) | with_reducible apply Below.drew)))
    · exact hm2.le (Below.size (B := w.heap.size) (by repeat (first | with_reducible exact Below.refl _ _ | with_reducible exact B0 | ((with_reducible refine Below.setCell ?_ ?_ _); rotate_left; focus first | (simp; done) | (simp; omega)) | ((with_reducible refine Below.alloc ?_ ?_ _); rotate_left; focus (first | (simp; done) | (simp; omega) | (have := B0.size; simp at *; omega))) | with_reducible apply Below.drew)))
    · omega
    · omega
    rintro e p1 ⟨rfl, l1⟩
    rw [show szR (left - s0) (x.arcs.length) = -1 from if_neg (by rw [hs1'.out]; omega)]
    have B1 : Below w.heap.size w p1 := Below.through l1 (by repeat (first | with_reducible exact Below.refl _ _ | with_reducible exact B0 | ((with_reducible refine Below.setCell ?_ ?_ _); rotate_left; focus first | (simp; done) | (simp; omega)) | ((with_reducible refine Below.alloc ?_ ?_ _); rotate_left; focus (first | (simp; done) | (simp; omega) | (have := B0.size; simp at *; omega))) | with_reducible apply Below.drew))
    have K1 : Blk p1 w.heap.size #[.int .i64 x.kind, .slice a1 x.values.length n1, .slice a2 x.arcs.length n2, .slice a3 x.pairs.length n3, .slice a4 x.numbers.length n4] 68 := Blk.thru (by (repeat (first | with_reducible exact K0 | with_reducible apply Blk.set_at | ((with_reducible refine Blk.set_far ?_ ?_); rotate_left; focus (first | (simp; done) | (simp; omega))) | ((with_reducible refine Blk.new ?_); simp; done) | with_reducible refine Blk.old ?_ _)); all_goals rfl) l1
    have C1 := K1.cell
    clear C0
    go_wp2
    go_ret
    exact ⟨rfl, (by repeat (first | with_reducible exact Below.refl _ _ | with_reducible exact B1 | with_reducible exact B0 | ((with_reducible refine Below.setCell ?_ ?_ _); rotate_left; focus first | (simp; done) | (simp; omega)) | ((with_reducible refine Below.alloc ?_ ?_ _); rotate_left; focus (first | (simp; done) | (simp; omega) | (have := B1.size; simp at *; omega))) | with_reducible apply Below.drew))⟩
  by_cases f2 : (s2 : Int) ≤ left - s0 - s1
  rotate_left
  · rw [show szR left x.sz = -1 from if_neg (by rw [hsz.out]; omega)]
    go_enter Try.func37, Try.ntmps37
    go_wp2_with fail
    (with_reducible refine (szInt64S_any _ x.values _ b1 _ ?_ ?_ ?_ ?_).mono ?_)
    · exact g1.same RInt.fr (hm1.same (by repeat (first | with_reducible exact Below.refl _ _ | ((with_reducible refine Below.setCell ?_ ?_ _); rotate_left; focus first | (simp; done) | (simp; omega)) | ((with_reducible refine Below.alloc ?_ ?_ _); rotate_left; focus (first | (simp; done) | (simp; omega))) | with_reducible apply Below.drew)))
    · exact hm1.le (Below.size (B := w.heap.size) (by repeat (first | with_reducible exact Below.refl _ _ | ((with_reducible refine Below.setCell ?_ ?_ _); rotate_left; focus first | (simp; done) | (simp; omega)) | ((with_reducible refine Below.alloc ?_ ?_ _); rotate_left; focus (first | (simp; done) | (simp; omega))) | with_reducible apply Below.drew)))
    · omega
    · omega
    rintro e p0 ⟨rfl, l0⟩
    rw [show szR (left) (x.values.length) = left - s0 from (by rw [hs0'.out]; exact if_pos (by omega))]
    have z0 : ¬ (left - (s0 : Int) < 0) := by omega
    have B0 : Below w.heap.size w p0 := Below.through l0 (by repeat (first | with_reducible exact Below.refl _ _ | ((with_reducible refine Below.setCell ?_ ?_ _); rotate_left; focus first | (simp; done) | (simp; omega)) | ((with_reducible refine Below.alloc ?_ ?_ _); rotate_left; focus (first | (simp; done) | (simp; omega))) | with_reducible apply Below.drew))
    have K0 : Blk p0 w.heap.size #[.int .i64 x.kind, .slice a1 x.values.length n1, .slice a2 x.arcs.length n2, .slice a3 x.pairs.length n3, .slice a4 x.numbers.length n4] 68 := Blk.thru (by (repeat (first | with_reducible apply Blk.set_at | ((with_reducible refine Blk.set_far ?_ ?_); rotate_left; focus (first | (simp; done) | (simp; omega))) | ((with_reducible refine Blk.new ?_); simp; done) | with_reducible refine Blk.old ?_ _)); all_goals rfl) l0
    have C0 := K0.cell
    go_wp2_with fail
    (with_reducible refine (szArcStepS_any _ x.arcs _ b2 _ ?_ ?_ ?_ ?_).mono ?_)
    · exact g2.same RArcStep.fr (hm2.same (by repeat (first | with_reducible exact Below.refl _ _ | with_reducible exact B0 | ((with_reducible refine Below.setCell ?_ ?_ _); rotate_left; focus first | (simp; done) | (simp; omega)) | ((with_reducible refine Below.alloc ?_ ?_ _); rotate_left; focus (first | (simp; done) | (simp; omega) | (have := B0.size; simp at *; omega))) | with_reducible apply Below.drew)))
    · exact hm2.le (Below.size (B := w.heap.size) (by repeat (first | with_reducible exact Below.refl _ _ | with_reducible exact B0 | ((with_reducible refine Below.setCell ?_ ?_ _); rotate_left; focus first | (simp; done) | (simp; omega)) | ((with_reducible refine Below.alloc ?_ ?_ _); rotate_left; focus (first | (simp; done) | (simp; omega) | (have := B0.size; simp at *; omega))) | with_reducible apply Below.drew)))
    · omega
    · omega
    rintro e p1 ⟨rfl, l1⟩
    rw [show szR (left - s0) (x.arcs.length) = left - s0 - s1 from (by rw [hs1'.out]; exact if_pos (by omega))]
    have z1 : ¬ (left - s0 - (s1 : Int) < 0) := by omega
    have B1 : Below w.heap.size w p1 := Below.through l1 (by repeat (first | with_reducible exact Below.refl _ _ | with_reducible exact B0 | ((with_reducible refine Below.setCell ?_ ?_ _); rotate_left; focus first | (simp; done) | (simp; omega)) | ((with_reducible refine Below.alloc ?_ ?_ _); rotate_left; focus (first | (simp; done) | (simp; omega) | (have := B0.size; simp at *; omega))) | with_reducible apply Below.drew))
    have K1 : Blk p1 w.heap.size #[.int .i64 x.kind, .slice a1 x.values.length n1, .slice a2 x.arcs.length n2, .slice a3 x.pairs.length n3, .slice a4 x.numbers.length n4] 68 := Blk.thru (by (repeat (first | with_reducible exact K0 | with_reducible apply Blk.set_at | ((with_reducible refine Blk.set_far ?_ ?_); rotate_left; focus (first | (simp; done) | (simp; omega))) | ((with_reducible refine Blk.new ?_); simp; done) | with_reducible refine Blk.old ?_ _)); all_goals rfl) l1
    have C1 := K1.cell
    clear C0
    go_wp2_with fail
    (with_reducible refine (szPairStepS_any _ x.pairs _ b3 _ ?_ ?_ ?_ ?_).mono ?_)
    · exact g3.same RPairStep.fr (hm3.same (by repeat (first | with_reducible exact Below.refl _ _ | with_reducible exact B1 | with_reducible exact B0 | ((with_reducible refine Below.setCell ?_ ?_ _); rotate_left; focus first | (simp; done) | (simp; omega)) | ((with_reducible refine Below.alloc ?_ ?_ _); rotate_left; focus (first | (simp; done) | (simp; omega) | (have := B1.size; simp at *; omega))) | with_reducible apply Below.drew)))
    · exact hm3.le (Below.size (B := w.heap.size) (by repeat (first | with_reducible exact Below.refl _ _ | with_reducible exact B1 | with_reducible exact B0 | ((with_reducible refine Below.setCell ?_ ?_ _); rotate_left; focus first | (simp; done) | (simp; omega)) | ((with_reducible refine Below.alloc ?_ ?_ _); rotate_left; focus (first | (simp; done) | (simp; omega) | (have := B1.size; simp at *; omega))) | with_reducible apply Below.drew)))
    · omega
    · omega
    rintro e p2 ⟨rfl, l2⟩
    rw [show szR (left - s0 - s1) (x.pairs.length) = -1 from if_neg (by rw [hs2'.out]; omega)]
    have B2 : Below w.heap.size w p2 := Below.through l2 (by repeat (first | with_reducible exact Below.refl _ _ | with_reducible exact B1 | with_reducible exact B0 | ((with_reducible refine Below.setCell ?_ ?_ _); rotate_left; focus first | (simp; done) | (simp; omega)) | ((with_reducible refine Below.alloc ?_ ?_ _); rotate_left; focus (first | (simp; done) | (simp; omega) | (have := B1.size; simp at *; omega))) | with_reducible apply Below.drew))
    have K2 : Blk p2 w.heap.size #[.int .i64 x.kind, .slice a1 x.values.length n1, .slice a2 x.arcs.length n2, .slice a3 x.pairs.length n3, .slice a4 x.numbers.length n4] 68 := Blk.thru (by (repeat (first | with_reducible exact K1 | with_reducible apply Blk.set_at | ((with_reducible refine Blk.set_far ?_ ?_); rotate_left; focus (first | (simp; done) | (simp; omega))) | ((with_reducible refine Blk.new ?_); simp; done) | with_reducible refine Blk.old ?_ _)); all_goals rfl) l2
    have C2 := K2.cell
    clear C1
    go_wp2
    go_ret
    exact ⟨rfl, (by repeat (first | with_reducible exact Below.refl _ _ | with_reducible exact B2 | with_reducible exact B1 | with_reducible exact B0 | ((with_reducible refine Below.setCell ?_ ?_ _); rotate_left; focus first | (simp; done) | (simp; omega)) | ((with_reducible refine Below.alloc ?_ ?_ _); rotate_left; focus (first | (simp; done) | (simp; omega) | (have := B2.size; simp at *; omega))) | with_reducible apply Below.drew))⟩
  by_cases f3 : (s3 : Int) ≤ left - s0 - s1 - s2
  rotate_left
  · rw [show szR left x.sz = -1 from if_neg (by rw [hsz.out]; omega)]
    go_enter Try.func37, Try.ntmps37
    go_wp2_with fail
    (with_reducible refine (szInt64S_any _ x.values _ b1 _ ?_ ?_ ?_ ?_).mono ?_)
    · exact g1.same RInt.fr (hm1.same (by repeat (first | with_reducible exact Below.refl _ _ | ((with_reducible refine Below.setCell ?_ ?_ _); rotate_left; focus first | (simp; done) | (simp; omega)) | ((with_reducible refine Below.alloc ?_ ?_ _); rotate_left; focus (first | (simp; done) | (simp; omega))) | with_reducible apply Below.drew)))
    · exact hm1.le (Below.size (B := w.heap.size) (by repeat (first | with_reducible exact Below.refl _ _ | ((with_reducible refine Below.setCell ?_ ?_ _); rotate_left; focus first | (simp; done) | (simp; omega)) | ((with_reducible refine Below.alloc ?_ ?_ _); rotate_left; focus (first | (simp; done) | (simp; omega))) | with_reducible apply Below.drew)))
    · omega
    · omega
    rintro e p0 ⟨rfl, l0⟩
    rw [show szR (left) (x.values.length) = left - s0 from (by rw [hs0'.out]; exact if_pos (by omega))]
    have z0 : ¬ (left - (s0 : Int) < 0) := by omega
    have B0 : Below w.heap.size w p0 := Below.through l0 (by repeat (first | with_reducible exact Below.refl _ _ | ((with_reducible refine Below.setCell ?_ ?_ _); rotate_left; focus first | (simp; done) | (simp; omega)) | ((with_reducible refine Below.alloc ?_ ?_ _); rotate_left; focus (first | (simp; done) | (simp; omega))) | with_reducible apply Below.drew))
    have K0 : Blk p0 w.heap.size #[.int .i64 x.kind, .slice a1 x.values.length n1, .slice a2 x.arcs.length n2, .slice a3 x.pairs.length n3, .slice a4 x.numbers.length n4] 68 := Blk.thru (by (repeat (first | with_reducible apply Blk.set_at | ((with_reducible refine Blk.set_far ?_ ?_); rotate_left; focus (first | (simp; done) | (simp; omega))) | ((with_reducible refine Blk.new ?_); simp; done) | with_reducible refine Blk.old ?_ _)); all_goals rfl) l0
    have C0 := K0.cell
    go_wp2_with fail
    (with_reducible refine (szArcStepS_any _ x.arcs _ b2 _ ?_ ?_ ?_ ?_).mono ?_)
    · exact g2.same RArcStep.fr (hm2.same (by repeat (first | with_reducible exact Below.refl _ _ | with_reducible exact B0 | ((with_reducible refine Below.setCell ?_ ?_ _); rotate_left; focus first | (simp; done) | (simp; omega)) | ((with_reducible refine Below.alloc ?_ ?_ _); rotate_left; focus (first | (simp; done) | (simp; omega) | (have := B0.size; simp at *; omega))) | with_reducible apply Below.drew)))
    · exact hm2.le (Below.size (B := w.heap.size) (by repeat (first | with_reducible exact Below.refl _ _ | with_reducible exact B0 | ((with_reducible refine Below.setCell ?_ ?_ _); rotate_left; focus first | (simp; done) | (simp; omega)) | ((with_reducible refine Below.alloc ?_ ?_ _); rotate_left; focus (first | (simp; done) | (simp; omega) | (have := B0.size; simp at *; omega))) | with_reducible apply Below.drew)))
    · omega
    · omega
    rintro e p1 ⟨rfl, l1⟩
    rw [show szR (left - s0) (x.arcs.length) = left - s0 - s1 from (by rw [hs1'.out]; exact if_pos (by omega))]
    have z1 : ¬ (left - s0 - (s1 : Int) < 0) := by omega
    have B1 : Below w.heap.size w p1 := Below.through l1 (by repeat (first | with_reducible exact Below.refl _ _ | with_reducible exact B0 | ((with_reducible refine Below.setCell ?_ ?_ _); rotate_left; focus first | (simp; done) | (simp; omega)) | ((with_reducible refine Below.alloc ?_ ?_ _); rotate_left; focus (first | (simp; done) | (simp; omega) | (have := B0.size; simp at *; omega))) | with_reducible apply Below.drew))
    have K1 : Blk p1 w.heap.size #[.int .i64 x.kind, .slice a1 x.values.length n1, .slice a2 x.arcs.length n2, .slice a3 x.pairs.length n3, .slice a4 x.numbers.length n4] 68 := Blk.thru (by (repeat (first | with_reducible exact K0 | with_reducible apply Blk.set_at | ((with_reducible refine Blk.set_far ?_ ?_); rotate_left; focus (first | (simp; done) | (simp; omega))) | ((with_reducible refine Blk.new ?_); simp; done) | with_reducible refine Blk.old ?_ _)); all_goals rfl) l1
    have C1 := K1.cell
    clear C0
    go_wp2_with fail
    (with_reducible refine (szPairStepS_any _ x.pairs _ b3 _ ?_ ?_ ?_ ?_).mono ?_)
    · exact g3.same RPairStep.fr (hm3.same (by repeat (first | with_reducible exact Below.refl _ _ | with_reducible exact B1 | with_reducible exact B0 | ((with_reducible refine Below.setCell ?_ ?_ _); rotate_left; focus first | (simp; done) | (simp; omega)) | ((with_reducible refine Below.alloc ?_ ?_ _); rotate_left; focus (first | (simp; done) | (simp; omega) | (have := B1.size; simp at *; omega))) | with_reducible apply Below.drew)))
    · exact hm3.le (Below.size (B := w.heap.size) (by repeat (first | with_reducible exact Below.refl _ _ | with_reducible exact B1 | with_reducible exact B0 | ((with_reducible refine Below.setCell ?_ ?_ _); rotate_left; focus first | (simp; done) | (simp; omega)) | ((with_reducible refine Below.alloc ?_ ?_ _); rotate_left; focus (first | (simp; done) | (simp; omega) | (have := B1.size; simp at *; omega))) | with_reducible apply Below.drew)))
    · omega
    · omega
    rintro e p2 ⟨rfl, l2⟩
    rw [show szR (left - s0 - s1) (x.pairs.length) = left - s0 - s1 - s2 from (by rw [hs2'.out]; exact if_pos (by omega))]
    have z2 : ¬ (left - s0 - s1 - (s2 : Int) < 0) := by omega
    have B2 : Below w.heap.size w p2 := Below.through l2 (by repeat (first | with_reducible exact Below.refl _ _ | with_reducible exact B1 | with_reducible exact B0 | ((with_reducible refine Below.setCell ?_ ?_ _); rotate_left; focus first | (simp; done) | (simp; omega)) | ((with_reducible refine Below.alloc ?_ ?_ _); rotate_left; focus (first | (simp; done) | (simp; omega) | (have := B1.size; simp at *; omega))) | with_reducible apply Below.drew))
    have K2 : Blk p2 w.heap.size #[.int .i64 x.kind, .slice a1 x.values.length n1, .slice a2 x.arcs.length n2, .slice a3 x.pairs.length n3, .slice a4 x.numbers.length n4] 68 := Blk.thru (by (repeat (first | with_reducible exact K1 | with_reducible apply Blk.set_at | ((with_reducible refine Blk.set_far ?_ ?_); rotate_left; focus (first | (simp; done) | (simp; omega))) | ((with_reducible refine Blk.new ?_); simp; done) | with_reducible refine Blk.old ?_ _)); all_goals rfl) l2
    have C2 := K2.cell
    clear C1
    go_wp2_with fail
    (with_reducible refine (szInt64S_any _ x.numbers _ b4 _ ?_ ?_ ?_ ?_).mono ?_)
    · exact g4.same RInt.fr (hm4.same (by repeat (first | with_reducible exact Below.refl _ _ | with_reducible exact B2 | with_reducible exact B1 | with_reducible exact B0 | ((with_reducible refine Below.setCell ?_ ?_ _); rotate_left; focus first | (simp; done) | (simp; omega)) | ((with_reducible refine Below.alloc ?_ ?_ _); rotate_left; focus (first | (simp; done) | (simp; omega) | (have := B2.size; simp at *; omega))) | with_reducible apply Below.drew)))
    · exact hm4.le (Below.size (B := w.heap.size) (by repeat (first | with_reducible exact Below.refl _ _ | with_reducible exact B2 | with_reducible exact B1 | with_reducible exact B0 | ((with_reducible refine Below.setCell ?_ ?_ _); rotate_left; focus first | (simp; done) | (simp; omega)) | ((with_reducible refine Below.alloc ?_ ?_ _); rotate_left; focus (first | (simp; done) | (simp; omega) | (have := B2.size; simp at *; omega))) | with_reducible apply Below.drew)))
    · omega
    · omega
    rintro e p3 ⟨rfl, l3⟩
    rw [show szR (left - s0 - s1 - s2) (x.numbers.length) = -1 from if_neg (by rw [hs3'.out]; omega)]
    have B3 : Below w.heap.size w p3 := Below.through l3 (by repeat (first | with_reducible exact Below.refl _ _ | with_reducible exact B2 | with_reducible exact B1 | with_reducible exact B0 | ((with_reducible refine Below.setCell ?_ ?_ _); rotate_left; focus first | (simp; done) | (simp; omega)) | ((with_reducible refine Below.alloc ?_ ?_ _); rotate_left; focus (first | (simp; done) | (simp; omega) | (have := B2.size; simp at *; omega))) | with_reducible apply Below.drew))
    have K3 : Blk p3 w.heap.size #[.int .i64 x.kind, .slice a1 x.values.length n1, .slice a2 x.arcs.length n2, .slice a3 x.pairs.length n3, .slice a4 x.numbers.length n4] 68 := Blk.thru (by (repeat (first | with_reducible exact K2 | with_reducible apply Blk.set_at | ((with_reducible refine Blk.set_far ?_ ?_); rotate_left; focus (first | (simp; done) | (simp; omega))) | ((with_reducible refine Blk.new ?_); simp; done) | with_reducible refine Blk.old ?_ _)); all_goals rfl) l3
    have C3 := K3.cell
    clear C2
    go_wp2
    go_ret
    exact ⟨rfl, (by repeat (first | with_reducible exact Below.refl _ _ | with_reducible exact B3 | with_reducible exact B2 | with_reducible exact B1 | with_reducible exact B0 | ((with_reducible refine Below.setCell ?_ ?_ _); rotate_left; focus first | (simp; done) | (simp; omega)) | ((with_reducible refine Below.alloc ?_ ?_ _); rotate_left; focus (first | (simp; done) | (simp; omega) | (have := B3.size; simp at *; omega))) | with_reducible apply Below.drew))⟩
  go_enter Try.func37, Try.ntmps37
  go_wp2_with fail
  (with_reducible refine (szInt64S_any _ x.values _ b1 _ ?_ ?_ ?_ ?_).mono ?_)
  · exact g1.same RInt.fr (hm1.same (by repeat (first | with_reducible exact Below.refl _ _ | ((with_reducible refine Below.setCell ?_ ?_ _); rotate_left; focus first | (simp; done) | (simp; omega)) | ((with_reducible refine Below.alloc ?_ ?_ _); rotate_left; focus (first | (simp; done) | (simp; omega))) | with_reducible apply Below.drew)))
  · exact hm1.le (Below.size (B := w.heap.size) (by repeat (first | with_reducible exact Below.refl _ _ | ((with_reducible refine Below.setCell ?_ ?_ _); rotate_left; focus first | (simp; done) | (simp; omega)) | ((with_reducible refine Below.alloc ?_ ?_ _); rotate_left; focus (first | (simp; done) | (simp; omega))) | with_reducible apply Below.drew)))
  · omega
  · omega
  rintro e p0 ⟨rfl, l0⟩
  rw [show szR (left) (x.values.length) = left - s0 from (by rw [hs0'.out]; exact if_pos (by omega))]
  have z0 : ¬ (left - (s0 : Int) < 0) := by omega
  have B0 : Below w.heap.size w p0 := Below.through l0 (by repeat (first | with_reducible exact Below.refl _ _ | ((with_reducible refine Below.setCell ?_ ?_ _); rotate_left; focus first | (simp; done) | (simp; omega)) | ((with_reducible refine Below.alloc ?_ ?_ _); rotate_left; focus (first | (simp; done) | (simp; omega))) | with_reducible apply Below.drew))
  have K0 : Blk p0 w.heap.size #[.int .i64 x.kind, .slice a1 x.values.length n1, .slice a2 x.arcs.length n2, .slice a3 x.pairs.length n3, .slice a4 x.numbers.length n4] 68 := Blk.thru (by (repeat (first | with_reducible apply Blk.set_at | ((with_reducible refine Blk.set_far ?_ ?_); rotate_left; focus (first | (simp; done) | (simp; omega))) | ((with_reducible refine Blk.new ?_); simp; done) | with_reducible refine Blk.old ?_ _)); all_goals rfl) l0
  have C0 := K0.cell
  go_wp2_with fail
  (with_reducible refine (szArcStepS_any _ x.arcs _ b2 _ ?_ ?_ ?_ ?_).mono ?_)
  · exact g2.same RArcStep.fr (hm2.same (by repeat (first | with_reducible exact Below.refl _ _ | with_reducible exact B0 | ((with_reducible refine Below.setCell ?_ ?_ _); rotate_left; focus first | (simp; done) | (simp; omega)) | ((with_reducible refine Below.alloc ?_ ?_ _); rotate_left; focus (first | (simp; done) | (simp; omega) | (have := B0.size; simp at *; omega))) | with_reducible apply Below.drew)))
  · exact hm2.le (Below.size (B := w.heap.size) (by repeat (first | with_reducible exact Below.refl _ _ | with_reducible exact B0 | ((with_reducible refine Below.setCell ?_ ?_ _); rotate_left; focus first | (simp; done) | (simp; omega)) | ((with_reducible refine Below.alloc ?_ ?_ _); rotate_left; focus (first | (simp; done) | (simp; omega) | (have := B0.size; simp at *; omega))) | with_reducible apply Below.drew)))
  · omega
  · omega
  rintro e p1 ⟨rfl, l1⟩
  rw [show szR (left - s0) (x.arcs.length) = left - s0 - s1 from (by rw [hs1'.out]; exact if_pos (by omega))]
  have z1 : ¬ (left - s0 - (s1 : Int) < 0) := by omega
  have B1 : Below w.heap.size w p1 := Below.through l1 (by repeat (first | with_reducible exact Below.refl _ _ | with_reducible exact B0 | ((with_reducible refine Below.setCell ?_ ?_ _); rotate_left; focus first | (simp; done) | (simp; omega)) | ((with_reducible refine Below.alloc ?_ ?_ _); rotate_left; focus (first | (simp; done) | (simp; omega) | (have := B0.size; simp at *; omega))) | with_reducible apply Below.drew))
  have K1 : Blk p1 w.heap.size #[.int .i64 x.kind, .slice a1 x.values.length n1, .slice a2 x.arcs.length n2, .slice a3 x.pairs.length n3, .slice a4 x.numbers.length n4] 68 := Blk.thru (by (repeat (first | with_reducible exact K0 | with_reducible apply Blk.set_at | ((with_reducible refine Blk.set_far ?_ ?_); rotate_left; focus (first | (simp; done) | (simp; omega))) | ((with_reducible refine Blk.new ?_); simp; done) | with_reducible refine Blk.old ?_ _)); all_goals rfl) l1
  have C1 := K1.cell
  clear C0
  go_wp2_with fail
  (with_reducible refine (szPairStepS_any _ x.pairs _ b3 _ ?_ ?_ ?_ ?_).mono ?_)
  · exact g3.same RPairStep.fr (hm3.same (by repeat (first | with_reducible exact Below.refl _ _ | with_reducible exact B1 | with_reducible exact B0 | ((with_reducible refine Below.setCell ?_ ?_ _); rotate_left; focus first | (simp; done) | (simp; omega)) | ((with_reducible refine Below.alloc ?_ ?_ _); rotate_left; focus (first | (simp; done) | (simp; omega) | (have := B1.size; simp at *; omega))) | with_reducible apply Below.drew)))
  · exact hm3.le (Below.size (B := w.heap.size) (by repeat (first | with_reducible exact Below.refl _ _ | with_reducible exact B1 | with_reducible exact B0 | ((with_reducible refine Below.setCell ?_ ?_ _); rotate_left; focus first | (simp; done) | (simp; omega)) | ((with_reducible refine Below.alloc ?_ ?_ _); rotate_left; focus (first | (simp; done) | (simp; omega) | (have := B1.size; simp at *; omega))) | with_reducible apply Below.drew)))
  · omega
  · omega
  rintro e p2 ⟨rfl, l2⟩
  rw [show szR (left - s0 - s1) (x.pairs.length) = left - s0 - s1 - s2 from (by rw [hs2'.out]; exact if_pos (by omega))]
  have z2 : ¬ (left - s0 - s1 - (s2 : Int) < 0) := by omega
  have B2 : Below w.heap.size w p2 := Below.through l2 (by repeat (first | with_reducible exact Below.refl _ _ | with_reducible exact B1 | with_reducible exact B0 | ((with_reducible refine Below.setCell ?_ ?_ _); rotate_left; focus first | (simp; done) | (simp; omega)) | ((with_reducible refine Below.alloc ?_ ?_ _); rotate_left; focus (first | (simp; done) | (simp; omega) | (have := B1.size; simp at *; omega))) | with_reducible apply Below.drew))
  have K2 : Blk p2 w.heap.size #[.int .i64 x.kind, .slice a1 x.values.length n1, .slice a2 x.arcs.length n2, .slice a3 x.pairs.length n3, .slice a4 x.numbers.length n4] 68 := Blk.thru (by (repeat (first | with_reducible exact K1 | with_reducible apply Blk.set_at | ((with_reducible refine Blk.set_far ?_ ?_); rotate_left; focus (first | (simp; done) | (simp; omega))) | ((with_reducible refine Blk.new ?_); simp; done) | with_reducible refine Blk.old ?_ _)); all_goals rfl) l2
  have C2 := K2.cell
  clear C1
  go_wp2_with fail
  (with_reducible refine (szInt64S_any _ x.numbers _ b4 _ ?_ ?_ ?_ ?_).mono ?_)
  · exact g4.same RInt.fr (hm4.same (by repeat (first | with_reducible exact Below.refl _ _ | with_reducible exact B2 | with_reducible exact B1 | with_reducible exact B0 | ((with_reducible refine Below.setCell ?_ ?_ _); rotate_left; focus first | (simp; done) | (simp; omega)) | ((with_reducible refine Below.alloc ?_ ?_ _); rotate_left; focus (first | (simp; done) | (simp; omega) | (have := B2.size; simp at *; omega))) | with_reducible apply Below.drew)))
  · exact hm4.le (Below.size (B := w.heap.size) (by repeat (first | with_reducible exact Below.refl _ _ | with_reducible exact B2 | with_reducible exact B1 | with_reducible exact B0 | ((with_reducible refine Below.setCell ?_ ?_ _); rotate_left; focus first | (simp; done) | (simp; omega)) | ((with_reducible refine Below.alloc ?_ ?_ _); rotate_left; focus (first | (simp; done) | (simp; omega) | (have := B2.size; simp at *; omega))) | with_reducible apply Below.drew)))
  · omega
  · omega
  rintro e p3 ⟨rfl, l3⟩
  rw [show szR (left - s0 - s1 - s2) (x.numbers.length) = left - s0 - s1 - s2 - s3 from (by rw [hs3'.out]; exact if_pos (by omega))]
  have z3 : ¬ (left - s0 - s1 - s2 - (s3 : Int) < 0) := by omega
  have B3 : Below w.heap.size w p3 := Below.through l3 (by repeat (first | with_reducible exact Below.refl _ _ | with_reducible exact B2 | with_reducible exact B1 | with_reducible exact B0 | ((with_reducible refine Below.setCell ?_ ?_ _); rotate_left; focus first | (simp; done) | (simp; omega)) | ((with_reducible refine Below.alloc ?_ ?_ _); rotate_left; focus (first | (simp; done) | (simp; omega) | (have := B2.size; simp at *; omega))) | with_reducible apply Below.drew))
  have K3 : Blk p3 w.heap.size #[.int .i64 x.kind, .slice a1 x.values.length n1, .slice a2 x.arcs.length n2, .slice a3 x.pairs.length n3, .slice a4 x.numbers.length n4] 68 := Blk.thru (by (repeat (first | with_reducible exact K2 | with_reducible apply Blk.set_at | ((with_reducible refine Blk.set_far ?_ ?_); rotate_left; focus (first | (simp; done) | (simp; omega))) | ((with_reducible refine Blk.new ?_); simp; done) | with_reducible refine Blk.old ?_ _)); all_goals rfl) l3
  have C3 := K3.cell
  clear C2
  go_wp2
  go_ret
  exact ⟨ret64 (by rw [show szR left x.sz = left - x.sz from if_pos (by rw [hsz.out]; omega), hsz.out]; try omega), (by repeat (first | with_reducible exact Below.refl _ _ | with_reducible exact B3 | with_reducible exact B2 | with_reducible exact B1 | with_reducible exact B0 | ((with_reducible refine Below.setCell ?_ ?_ _); rotate_left; focus first | (simp; done) | (simp; omega)) | ((with_reducible refine Below.alloc ?_ ?_ _); rotate_left; focus (first | (simp; done) | (simp; omega) | (have := B3.size; simp at *; omega))) | with_reducible apply Below.drew))⟩

set_option maxHeartbeats 1000000 in
theorem eqArcStep_any (v1 v2 : Value) (x : ArcStep) (bs1 bs2 : List Nat) (w : World) (h1 : Agg 3 RArcStep w v1 x bs1) (h2 : Agg 3 RArcStep w v2 x bs2) (_hm1 : InMem bs1 w) (_hm2 : InMem bs2 w) :
    Calls Try.prog 150 #[v1, v2] w (Says (.bool true) w) := by
  obtain ⟨rfl, g0, g1, g2, hbs1⟩ := RArcStep.open h1
  obtain ⟨rfl, k0, k1, k2, hbs2⟩ := RArcStep.open h2
  clear h1 h2
  clear hbs1 hbs2
  go_enter Try.func150, Try.ntmps150
  go_wp2
  go_ret
  exact ⟨rfl, (by repeat (first | with_reducible exact Below.refl _ _ | ((with_reducible refine Below.setCell ?_ ?_ _); rotate_left; focus first | (simp; done) | (simp; omega)) | ((with_reducible refine Below.alloc ?_ ?_ _); rotate_left; focus (first | (simp; done) | (simp; omega))) | with_reducible apply Below.drew))⟩

set_option maxHeartbeats 1000000 in
theorem eqArcStepS_any (v1 v2 : Value) (l : List ArcStep) (bs1 bs2 : List Nat) (w : World) (h1 : Sl 3 RArcStep w v1 l bs1) (h2 : Sl 3 RArcStep w v2 l bs2) (hm1 : InMem bs1 w) (hm2 : InMem bs2 w) :
    Calls Try.prog 96 #[v1, v2] w (Says (.bool true) w) := by
  obtain ⟨a, c, rfl, hc1, hc2, _, hat0⟩ := h1.open
  have hat := hd hat0
  clear hat0 h1
  obtain ⟨a', c', rfl, hc1', hc2', _, hat0⟩ := h2.open
  have hat' := hd hat0
  clear hat0 h2
  go_enter Try.func96, Try.ntmps96
  go_wp2
  go_loopw [5] (fun i wr => ∃ k : Nat, k ≤ l.length ∧ i = .int .i64 k ∧ Below w.heap.size w wr) (fun i _ => l.length - (intOf i).toNat)
  case atStart => exact ⟨0, Nat.zero_le _, rfl, Below.refl _ _⟩
  case round =>
    obtain ⟨k, hk, rfl, hB⟩ := hrel
    by_cases hlt : k < l.length
    · obtain ⟨b, o, bss', bi, rfl, rfl, hE, hbi, hsub, hr0⟩ := hat.out k hlt
      clear hE
      obtain ⟨b', o', bss'', bi', rfl, rfl, hE, hbi', hsub', hr0'⟩ := hat'.out k hlt
      clear hE
      obtain ⟨x, hx1⟩ : ∃ x, x = l[k] := ⟨_, rfl⟩
      rw [← hx1] at hr0 hr0'
      clear hx1
      have hr : RArcStep wr (fun j => wr.cell? ⟨b, o + k * 3 + j, none⟩) x bi := RArcStep.fr _ _ _ _ _ _ hr0 (fun c hc => hB.block c (hm1 c (hsub c hc))) (fun j _ => (bcell hB).1 b _ (hm1 b (by simp)))
      have hbw : InMem bi wr := (fun c hc => Nat.lt_of_lt_of_le (hm1 c (hsub c hc)) hB.size)
      have hr' : RArcStep wr (fun j => wr.cell? ⟨b', o' + k * 3 + j, none⟩) x bi' := RArcStep.fr _ _ _ _ _ _ hr0' (fun c hc => hB.block c (hm2 c (hsub' c hc))) (fun j _ => (bcell hB).1 b' _ (hm2 b' (by simp)))
      have hbw' : InMem bi' wr := (fun c hc => Nat.lt_of_lt_of_le (hm2 c (hsub' c hc)) hB.size)
      clear hr0 hr0' hm1 hm2 hsub hsub' hbi hbi'
      have hrr := hd hr
      have hrr' := hd hr'
      obtain ⟨c0, r0, c1, r1, c2, r2, hbi0⟩ := hr
      simp only [Nat.add_zero] at c0 c1 c2
      obtain ⟨d0, t0, d1, t1, d2, t2, hbi1⟩ := hr'
      simp only [Nat.add_zero] at d0 d1 d2
      have hagg : Agg 3 RArcStep wr (.agg #[.int .i64 x.var, .int .i64 x.value, .int .i64 x.con]) x bi := Agg.of_cells RArcStep.fr hrr.out [.int .i64 x.var, .int .i64 x.value, .int .i64 x.con] rfl (fun j hj => by
        match j, hj with
        | 0, _ => exact c0.symm
        | 1, _ => exact c1.symm
        | 2, _ => exact c2.symm)
      have hagg' : Agg 3 RArcStep wr (.agg #[.int .i64 x.var, .int .i64 x.value, .int .i64 x.con]) x bi' := Agg.of_cells RArcStep.fr hrr'.out [.int .i64 x.var, .int .i64 x.value, .int .i64 x.con] rfl (fun j hj => by
        match j, hj with
        | 0, _ => exact d0.symm
        | 1, _ => exact d1.symm
        | 2, _ => exact d2.symm)
      have cE := hd (show ∀ d os, Calls Try.prog 150 #[.agg #[.int .i64 x.var, .int .i64 x.value, .int .i64 x.con], .agg #[.int .i64 x.var, .int .i64 x.value, .int .i64 x.con]] (grow (redrawn wr d) os) fun e w'' => e = .returned (.bool true) ∧ ∃ p : Regrown, w'' = grow (redrawn wr p.d) p.os from fun d os =>
        Calls.regrown_of (eqArcStep_any _ _ x bi bi' _ (hagg.same RArcStep.fr (hbw.same (below_regrown wr d os))) (hagg'.same RArcStep.fr (hbw'.same (below_regrown wr d os))) (hbw.le (below_regrown wr d os).size) (hbw'.le (below_regrown wr d os).size)))
      have kc0 := cell_regrown c0
      have kd0 := cell_regrown d0
      have kc1 := cell_regrown c1
      have kd1 := cell_regrown d1
      have kc2 := cell_regrown c2
      have kd2 := cell_regrown d2
      have hlt' : (k : Int) < (l.length : Int) := by omega
      clear hrr hrr'
      go_wp2
      refine wp_region_quiet_below (by kernel_rfl) (by kernel_rfl) ?_
      repeat (quiet_step (exact cE.out _ _))
      refine wpQuiet_nil ?_
      intro _ hw'
      obtain ⟨⟨dq, osq⟩, hw''⟩ := hw'
      subst hw''
      have hq := below_regrown wr dq osq
      clear kc0 kd0 kc1 kd1 kc2 kd2
      go_wp2
      go_roundw
      case rel => exact ⟨k + 1, hlt, by go_num, Below.through hq hB⟩
      case measure => simp [intOf]; omega
    · obtain rfl : k = l.length := by omega
      go_wp2
      go_ret
      exact ⟨rfl, hB⟩

set_option maxHeartbeats 1000000 in
theorem eqPairStep_any (v1 v2 : Value) (x : PairStep) (bs1 bs2 : List Nat) (w : World) (h1 : Agg 3 RPairStep w v1 x bs1) (h2 : Agg 3 RPairStep w v2 x bs2) (_hm1 : InMem bs1 w) (_hm2 : InMem bs2 w) :
    Calls Try.prog 151 #[v1, v2] w (Says (.bool true) w) := by
  obtain ⟨rfl, g0, g1, g2, hbs1⟩ := RPairStep.open h1
  obtain ⟨rfl, k0, k1, k2, hbs2⟩ := RPairStep.open h2
  clear h1 h2
  clear hbs1 hbs2
  go_enter Try.func151, Try.ntmps151
  go_wp2
  go_ret
  exact ⟨rfl, (by repeat (first | with_reducible exact Below.refl _ _ | ((with_reducible refine Below.setCell ?_ ?_ _); rotate_left; focus first | (simp; done) | (simp; omega)) | ((with_reducible refine Below.alloc ?_ ?_ _); rotate_left; focus (first | (simp; done) | (simp; omega))) | with_reducible apply Below.drew))⟩

set_option maxHeartbeats 1000000 in
theorem eqPairStepS_any (v1 v2 : Value) (l : List PairStep) (bs1 bs2 : List Nat) (w : World) (h1 : Sl 3 RPairStep w v1 l bs1) (h2 : Sl 3 RPairStep w v2 l bs2) (hm1 : InMem bs1 w) (hm2 : InMem bs2 w) :
    Calls Try.prog 97 #[v1, v2] w (Says (.bool true) w) := by
  obtain ⟨a, c, rfl, hc1, hc2, _, hat0⟩ := h1.open
  have hat := hd hat0
  clear hat0 h1
  obtain ⟨a', c', rfl, hc1', hc2', _, hat0⟩ := h2.open
  have hat' := hd hat0
  clear hat0 h2
  go_enter Try.func97, Try.ntmps97
  go_wp2
  go_loopw [5] (fun i wr => ∃ k : Nat, k ≤ l.length ∧ i = .int .i64 k ∧ Below w.heap.size w wr) (fun i _ => l.length - (intOf i).toNat)
  case atStart => exact ⟨0, Nat.zero_le _, rfl, Below.refl _ _⟩
  case round =>
    obtain ⟨k, hk, rfl, hB⟩ := hrel
    by_cases hlt : k < l.length
    · obtain ⟨b, o, bss', bi, rfl, rfl, hE, hbi, hsub, hr0⟩ := hat.out k hlt
      clear hE
      obtain ⟨b', o', bss'', bi', rfl, rfl, hE, hbi', hsub', hr0'⟩ := hat'.out k hlt
      clear hE
      obtain ⟨x, hx1⟩ : ∃ x, x = l[k] := ⟨_, rfl⟩
      rw [← hx1] at hr0 hr0'
      clear hx1
      have hr : RPairStep wr (fun j => wr.cell? ⟨b, o + k * 3 + j, none⟩) x bi := RPairStep.fr _ _ _ _ _ _ hr0 (fun c hc => hB.block c (hm1 c (hsub c hc))) (fun j _ => (bcell hB).1 b _ (hm1 b (by simp)))
      have hbw : InMem bi wr := (fun c hc => Nat.lt_of_lt_of_le (hm1 c (hsub c hc)) hB.size)
      have hr' : RPairStep wr (fun j => wr.cell? ⟨b', o' + k * 3 + j, none⟩) x bi' := RPairStep.fr _ _ _ _ _ _ hr0' (fun c hc => hB.block c (hm2 c (hsub' c hc))) (fun j _ => (bcell hB).1 b' _ (hm2 b' (by simp)))
      have hbw' : InMem bi' wr := (fun c hc => Nat.lt_of_lt_of_le (hm2 c (hsub' c hc)) hB.size)
      clear hr0 hr0' hm1 hm2 hsub hsub' hbi hbi'
      have hrr := hd hr
      have hrr' := hd hr'
      obtain ⟨c0, r0, c1, r1, c2, r2, hbi0⟩ := hr
      simp only [Nat.add_zero] at c0 c1 c2
      obtain ⟨d0, t0, d1, t1, d2, t2, hbi1⟩ := hr'
      simp only [Nat.add_zero] at d0 d1 d2
      have hagg : Agg 3 RPairStep wr (.agg #[.int .i64 x.i, .int .i64 x.j, .int .i64 x.through]) x bi := Agg.of_cells RPairStep.fr hrr.out [.int .i64 x.i, .int .i64 x.j, .int .i64 x.through] rfl (fun j hj => by
        match j, hj with
        | 0, _ => exact c0.symm
        | 1, _ => exact c1.symm
        | 2, _ => exact c2.symm)
      have hagg' : Agg 3 RPairStep wr (.agg #[.int .i64 x.i, .int .i64 x.j, .int .i64 x.through]) x bi' := Agg.of_cells RPairStep.fr hrr'.out [.int .i64 x.i, .int .i64 x.j, .int .i64 x.through] rfl (fun j hj => by
        match j, hj with
        | 0, _ => exact d0.symm
        | 1, _ => exact d1.symm
        | 2, _ => exact d2.symm)
      have cE := hd (show ∀ d os, Calls Try.prog 151 #[.agg #[.int .i64 x.i, .int .i64 x.j, .int .i64 x.through], .agg #[.int .i64 x.i, .int .i64 x.j, .int .i64 x.through]] (grow (redrawn wr d) os) fun e w'' => e = .returned (.bool true) ∧ ∃ p : Regrown, w'' = grow (redrawn wr p.d) p.os from fun d os =>
        Calls.regrown_of (eqPairStep_any _ _ x bi bi' _ (hagg.same RPairStep.fr (hbw.same (below_regrown wr d os))) (hagg'.same RPairStep.fr (hbw'.same (below_regrown wr d os))) (hbw.le (below_regrown wr d os).size) (hbw'.le (below_regrown wr d os).size)))
      have kc0 := cell_regrown c0
      have kd0 := cell_regrown d0
      have kc1 := cell_regrown c1
      have kd1 := cell_regrown d1
      have kc2 := cell_regrown c2
      have kd2 := cell_regrown d2
      have hlt' : (k : Int) < (l.length : Int) := by omega
      clear hrr hrr'
      go_wp2
      refine wp_region_quiet_below (by kernel_rfl) (by kernel_rfl) ?_
      repeat (quiet_step (exact cE.out _ _))
      refine wpQuiet_nil ?_
      intro _ hw'
      obtain ⟨⟨dq, osq⟩, hw''⟩ := hw'
      subst hw''
      have hq := below_regrown wr dq osq
      clear kc0 kd0 kc1 kd1 kc2 kd2
      go_wp2
      go_roundw
      case rel => exact ⟨k + 1, hlt, by go_num, Below.through hq hB⟩
      case measure => simp [intOf]; omega
    · obtain rfl : k = l.length := by omega
      go_wp2
      go_ret
      exact ⟨rfl, hB⟩

set_option maxHeartbeats 1000000 in
theorem eqVerdict_any (v1 v2 : Value) (x : Verdict) (bs1 bs2 : List Nat) (w : World) (h1 : Agg 5 RVerdict w v1 x bs1) (h2 : Agg 5 RVerdict w v2 x bs2) (hm1 : InMem bs1 w) (hm2 : InMem bs2 w) :
    Calls Try.prog 41 #[v1, v2] w (Says (.bool true) w) := by
  obtain ⟨v1, v2, v3, v4, b1, b2, b3, b4, rfl, g0, g1, g2, g3, g4, hbs1⟩ := RVerdict.open h1
  obtain ⟨a1, n1, rfl⟩ := g1.val
  obtain ⟨a2, n2, rfl⟩ := g2.val
  obtain ⟨a3, n3, rfl⟩ := g3.val
  obtain ⟨a4, n4, rfl⟩ := g4.val
  obtain ⟨u1, u2, u3, u4, d1, d2, d3, d4, rfl, k0, k1, k2, k3, k4, hbs2⟩ := RVerdict.open h2
  obtain ⟨e1, m1, rfl⟩ := k1.val
  obtain ⟨e2, m2, rfl⟩ := k2.val
  obtain ⟨e3, m3, rfl⟩ := k3.val
  obtain ⟨e4, m4, rfl⟩ := k4.val
  clear h1 h2
  have hmb1 : InMem b1 w := fun c hc => hm1 c (by rw [hbs1]; simp [hc])
  have hmd1 : InMem d1 w := fun c hc => hm2 c (by rw [hbs2]; simp [hc])
  have hmb2 : InMem b2 w := fun c hc => hm1 c (by rw [hbs1]; simp [hc])
  have hmd2 : InMem d2 w := fun c hc => hm2 c (by rw [hbs2]; simp [hc])
  have hmb3 : InMem b3 w := fun c hc => hm1 c (by rw [hbs1]; simp [hc])
  have hmd3 : InMem d3 w := fun c hc => hm2 c (by rw [hbs2]; simp [hc])
  have hmb4 : InMem b4 w := fun c hc => hm1 c (by rw [hbs1]; simp [hc])
  have hmd4 : InMem d4 w := fun c hc => hm2 c (by rw [hbs2]; simp [hc])
  clear hm1 hm2 hbs1 hbs2
  go_enter Try.func41, Try.ntmps41
  go_wp2_with fail
  (with_reducible refine (eqInt64S_any _ _ x.values b1 d1 _ ?_ ?_ ?_ ?_).mono ?_)
  · exact g1.same RInt.fr (hmb1.same (by repeat (first | with_reducible exact Below.refl _ _ | ((with_reducible refine Below.setCell ?_ ?_ _); rotate_left; focus first | (simp; done) | (simp; omega)) | ((with_reducible refine Below.alloc ?_ ?_ _); rotate_left; focus (first | (simp; done) | (simp; omega))) | with_reducible apply Below.drew)))
  · exact k1.same RInt.fr (hmd1.same (by repeat (first | with_reducible exact Below.refl _ _ | ((with_reducible refine Below.setCell ?_ ?_ _); rotate_left; focus first | (simp; done) | (simp; omega)) | ((with_reducible refine Below.alloc ?_ ?_ _); rotate_left; focus (first | (simp; done) | (simp; omega))) | with_reducible apply Below.drew)))
  · exact hmb1.le (Below.size (B := w.heap.size) (by repeat (first | with_reducible exact Below.refl _ _ | ((with_reducible refine Below.setCell ?_ ?_ _); rotate_left; focus first | (simp; done) | (simp; omega)) | ((with_reducible refine Below.alloc ?_ ?_ _); rotate_left; focus (first | (simp; done) | (simp; omega))) | with_reducible apply Below.drew)))
  · exact hmd1.le (Below.size (B := w.heap.size) (by repeat (first | with_reducible exact Below.refl _ _ | ((with_reducible refine Below.setCell ?_ ?_ _); rotate_left; focus first | (simp; done) | (simp; omega)) | ((with_reducible refine Below.alloc ?_ ?_ _); rotate_left; focus (first | (simp; done) | (simp; omega))) | with_reducible apply Below.drew)))
  rintro e p0 ⟨rfl, l0⟩
  have B0 : Below w.heap.size w p0 := Below.through l0 (by repeat (first | with_reducible exact Below.refl _ _ | ((with_reducible refine Below.setCell ?_ ?_ _); rotate_left; focus first | (simp; done) | (simp; omega)) | ((with_reducible refine Below.alloc ?_ ?_ _); rotate_left; focus (first | (simp; done) | (simp; omega))) | with_reducible apply Below.drew))
  have K0_0 : Blk p0 w.heap.size #[.int .i64 x.kind, .slice a1 x.values.length n1, .slice a2 x.arcs.length n2, .slice a3 x.pairs.length n3, .slice a4 x.numbers.length n4] 73 := Blk.thru (by (repeat (first | with_reducible apply Blk.set_at | ((with_reducible refine Blk.set_far ?_ ?_); rotate_left; focus (first | (simp; done) | (simp; omega))) | ((with_reducible refine Blk.new ?_); simp; done) | with_reducible refine Blk.old ?_ _)); all_goals rfl) l0
  have K0_1 : Blk p0 (w.heap.size + 1) #[.int .i64 x.kind, .slice e1 x.values.length m1, .slice e2 x.arcs.length m2, .slice e3 x.pairs.length m3, .slice e4 x.numbers.length m4] 73 := Blk.thru (by (repeat (first | with_reducible apply Blk.set_at | ((with_reducible refine Blk.set_far ?_ ?_); rotate_left; focus (first | (simp; done) | (simp; omega))) | ((with_reducible refine Blk.new ?_); simp; done) | with_reducible refine Blk.old ?_ _)); all_goals rfl) l0
  have S0 := l0.size
  try simp at S0
  have C0_0 := K0_0.cell
  have F0_0 := K0_0.frozen
  have C0_1 := K0_1.cell
  have F0_1 := K0_1.frozen
  go_wp2_with fail
  (with_reducible refine (eqArcStepS_any _ _ x.arcs b2 d2 _ ?_ ?_ ?_ ?_).mono ?_)
  · exact g2.same RArcStep.fr (hmb2.same (by repeat (first | with_reducible exact Below.refl _ _ | with_reducible exact B0 | ((with_reducible refine Below.setCell ?_ ?_ _); rotate_left; focus first | (simp; done) | (simp; omega)) | ((with_reducible refine Below.alloc ?_ ?_ _); rotate_left; focus (first | (simp; done) | (simp; omega) | (have := B0.size; simp at *; omega))) | with_reducible apply Below.drew)))
  · exact k2.same RArcStep.fr (hmd2.same (by repeat (first | with_reducible exact Below.refl _ _ | with_reducible exact B0 | ((with_reducible refine Below.setCell ?_ ?_ _); rotate_left; focus first | (simp; done) | (simp; omega)) | ((with_reducible refine Below.alloc ?_ ?_ _); rotate_left; focus (first | (simp; done) | (simp; omega) | (have := B0.size; simp at *; omega))) | with_reducible apply Below.drew)))
  · exact hmb2.le (Below.size (B := w.heap.size) (by repeat (first | with_reducible exact Below.refl _ _ | with_reducible exact B0 | ((with_reducible refine Below.setCell ?_ ?_ _); rotate_left; focus first | (simp; done) | (simp; omega)) | ((with_reducible refine Below.alloc ?_ ?_ _); rotate_left; focus (first | (simp; done) | (simp; omega) | (have := B0.size; simp at *; omega))) | with_reducible apply Below.drew)))
  · exact hmd2.le (Below.size (B := w.heap.size) (by repeat (first | with_reducible exact Below.refl _ _ | with_reducible exact B0 | ((with_reducible refine Below.setCell ?_ ?_ _); rotate_left; focus first | (simp; done) | (simp; omega)) | ((with_reducible refine Below.alloc ?_ ?_ _); rotate_left; focus (first | (simp; done) | (simp; omega) | (have := B0.size; simp at *; omega))) | with_reducible apply Below.drew)))
  rintro e p1 ⟨rfl, l1⟩
  have B1 : Below w.heap.size w p1 := Below.through l1 (by repeat (first | with_reducible exact Below.refl _ _ | with_reducible exact B0 | ((with_reducible refine Below.setCell ?_ ?_ _); rotate_left; focus first | (simp; done) | (simp; omega)) | ((with_reducible refine Below.alloc ?_ ?_ _); rotate_left; focus (first | (simp; done) | (simp; omega) | (have := B0.size; simp at *; omega))) | with_reducible apply Below.drew))
  have K1_0 : Blk p1 w.heap.size #[.int .i64 x.kind, .slice a1 x.values.length n1, .slice a2 x.arcs.length n2, .slice a3 x.pairs.length n3, .slice a4 x.numbers.length n4] 73 := Blk.thru (by (repeat (first | with_reducible exact K0_0 | with_reducible apply Blk.set_at | ((with_reducible refine Blk.set_far ?_ ?_); rotate_left; focus (first | (simp; done) | (simp; omega))) | ((with_reducible refine Blk.new ?_); simp; done) | with_reducible refine Blk.old ?_ _)); all_goals rfl) l1
  have K1_1 : Blk p1 (w.heap.size + 1) #[.int .i64 x.kind, .slice e1 x.values.length m1, .slice e2 x.arcs.length m2, .slice e3 x.pairs.length m3, .slice e4 x.numbers.length m4] 73 := Blk.thru (by (repeat (first | with_reducible exact K0_1 | with_reducible apply Blk.set_at | ((with_reducible refine Blk.set_far ?_ ?_); rotate_left; focus (first | (simp; done) | (simp; omega))) | ((with_reducible refine Blk.new ?_); simp; done) | with_reducible refine Blk.old ?_ _)); all_goals rfl) l1
  have S1 := l1.size
  try simp at S1
  have C1_0 := K1_0.cell
  have F1_0 := K1_0.frozen
  have C1_1 := K1_1.cell
  have F1_1 := K1_1.frozen
  clear C0_0 F0_0 C0_1 F0_1
  go_wp2_with fail
  (with_reducible refine (eqPairStepS_any _ _ x.pairs b3 d3 _ ?_ ?_ ?_ ?_).mono ?_)
  · exact g3.same RPairStep.fr (hmb3.same (by repeat (first | with_reducible exact Below.refl _ _ | with_reducible exact B1 | with_reducible exact B0 | ((with_reducible refine Below.setCell ?_ ?_ _); rotate_left; focus first | (simp; done) | (simp; omega)) | ((with_reducible refine Below.alloc ?_ ?_ _); rotate_left; focus (first | (simp; done) | (simp; omega) | (have := B1.size; simp at *; omega))) | with_reducible apply Below.drew)))
  · exact k3.same RPairStep.fr (hmd3.same (by repeat (first | with_reducible exact Below.refl _ _ | with_reducible exact B1 | with_reducible exact B0 | ((with_reducible refine Below.setCell ?_ ?_ _); rotate_left; focus first | (simp; done) | (simp; omega)) | ((with_reducible refine Below.alloc ?_ ?_ _); rotate_left; focus (first | (simp; done) | (simp; omega) | (have := B1.size; simp at *; omega))) | with_reducible apply Below.drew)))
  · exact hmb3.le (Below.size (B := w.heap.size) (by repeat (first | with_reducible exact Below.refl _ _ | with_reducible exact B1 | with_reducible exact B0 | ((with_reducible refine Below.setCell ?_ ?_ _); rotate_left; focus first | (simp; done) | (simp; omega)) | ((with_reducible refine Below.alloc ?_ ?_ _); rotate_left; focus (first | (simp; done) | (simp; omega) | (have := B1.size; simp at *; omega))) | with_reducible apply Below.drew)))
  · exact hmd3.le (Below.size (B := w.heap.size) (by repeat (first | with_reducible exact Below.refl _ _ | with_reducible exact B1 | with_reducible exact B0 | ((with_reducible refine Below.setCell ?_ ?_ _); rotate_left; focus first | (simp; done) | (simp; omega)) | ((with_reducible refine Below.alloc ?_ ?_ _); rotate_left; focus (first | (simp; done) | (simp; omega) | (have := B1.size; simp at *; omega))) | with_reducible apply Below.drew)))
  rintro e p2 ⟨rfl, l2⟩
  have B2 : Below w.heap.size w p2 := Below.through l2 (by repeat (first | with_reducible exact Below.refl _ _ | with_reducible exact B1 | with_reducible exact B0 | ((with_reducible refine Below.setCell ?_ ?_ _); rotate_left; focus first | (simp; done) | (simp; omega)) | ((with_reducible refine Below.alloc ?_ ?_ _); rotate_left; focus (first | (simp; done) | (simp; omega) | (have := B1.size; simp at *; omega))) | with_reducible apply Below.drew))
  have K2_0 : Blk p2 w.heap.size #[.int .i64 x.kind, .slice a1 x.values.length n1, .slice a2 x.arcs.length n2, .slice a3 x.pairs.length n3, .slice a4 x.numbers.length n4] 73 := Blk.thru (by (repeat (first | with_reducible exact K1_0 | with_reducible apply Blk.set_at | ((with_reducible refine Blk.set_far ?_ ?_); rotate_left; focus (first | (simp; done) | (simp; omega))) | ((with_reducible refine Blk.new ?_); simp; done) | with_reducible refine Blk.old ?_ _)); all_goals rfl) l2
  have K2_1 : Blk p2 (w.heap.size + 1) #[.int .i64 x.kind, .slice e1 x.values.length m1, .slice e2 x.arcs.length m2, .slice e3 x.pairs.length m3, .slice e4 x.numbers.length m4] 73 := Blk.thru (by (repeat (first | with_reducible exact K1_1 | with_reducible apply Blk.set_at | ((with_reducible refine Blk.set_far ?_ ?_); rotate_left; focus (first | (simp; done) | (simp; omega))) | ((with_reducible refine Blk.new ?_); simp; done) | with_reducible refine Blk.old ?_ _)); all_goals rfl) l2
  have S2 := l2.size
  try simp at S2
  have C2_0 := K2_0.cell
  have F2_0 := K2_0.frozen
  have C2_1 := K2_1.cell
  have F2_1 := K2_1.frozen
  clear C1_0 F1_0 C1_1 F1_1
  go_wp2_with fail
  (with_reducible refine (eqInt64S_any _ _ x.numbers b4 d4 _ ?_ ?_ ?_ ?_).mono ?_)
  · exact g4.same RInt.fr (hmb4.same (by repeat (first | with_reducible exact Below.refl _ _ | with_reducible exact B2 | with_reducible exact B1 | with_reducible exact B0 | ((with_reducible refine Below.setCell ?_ ?_ _); rotate_left; focus first | (simp; done) | (simp; omega)) | ((with_reducible refine Below.alloc ?_ ?_ _); rotate_left; focus (first | (simp; done) | (simp; omega) | (have := B2.size; simp at *; omega))) | with_reducible apply Below.drew)))
  · exact k4.same RInt.fr (hmd4.same (by repeat (first | with_reducible exact Below.refl _ _ | with_reducible exact B2 | with_reducible exact B1 | with_reducible exact B0 | ((with_reducible refine Below.setCell ?_ ?_ _); rotate_left; focus first | (simp; done) | (simp; omega)) | ((with_reducible refine Below.alloc ?_ ?_ _); rotate_left; focus (first | (simp; done) | (simp; omega) | (have := B2.size; simp at *; omega))) | with_reducible apply Below.drew)))
  · exact hmb4.le (Below.size (B := w.heap.size) (by repeat (first | with_reducible exact Below.refl _ _ | with_reducible exact B2 | with_reducible exact B1 | with_reducible exact B0 | ((with_reducible refine Below.setCell ?_ ?_ _); rotate_left; focus first | (simp; done) | (simp; omega)) | ((with_reducible refine Below.alloc ?_ ?_ _); rotate_left; focus (first | (simp; done) | (simp; omega) | (have := B2.size; simp at *; omega))) | with_reducible apply Below.drew)))
  · exact hmd4.le (Below.size (B := w.heap.size) (by repeat (first | with_reducible exact Below.refl _ _ | with_reducible exact B2 | with_reducible exact B1 | with_reducible exact B0 | ((with_reducible refine Below.setCell ?_ ?_ _); rotate_left; focus first | (simp; done) | (simp; omega)) | ((with_reducible refine Below.alloc ?_ ?_ _); rotate_left; focus (first | (simp; done) | (simp; omega) | (have := B2.size; simp at *; omega))) | with_reducible apply Below.drew)))
  rintro e p3 ⟨rfl, l3⟩
  have B3 : Below w.heap.size w p3 := Below.through l3 (by repeat (first | with_reducible exact Below.refl _ _ | with_reducible exact B2 | with_reducible exact B1 | with_reducible exact B0 | ((with_reducible refine Below.setCell ?_ ?_ _); rotate_left; focus first | (simp; done) | (simp; omega)) | ((with_reducible refine Below.alloc ?_ ?_ _); rotate_left; focus (first | (simp; done) | (simp; omega) | (have := B2.size; simp at *; omega))) | with_reducible apply Below.drew))
  have K3_0 : Blk p3 w.heap.size #[.int .i64 x.kind, .slice a1 x.values.length n1, .slice a2 x.arcs.length n2, .slice a3 x.pairs.length n3, .slice a4 x.numbers.length n4] 73 := Blk.thru (by (repeat (first | with_reducible exact K2_0 | with_reducible apply Blk.set_at | ((with_reducible refine Blk.set_far ?_ ?_); rotate_left; focus (first | (simp; done) | (simp; omega))) | ((with_reducible refine Blk.new ?_); simp; done) | with_reducible refine Blk.old ?_ _)); all_goals rfl) l3
  have K3_1 : Blk p3 (w.heap.size + 1) #[.int .i64 x.kind, .slice e1 x.values.length m1, .slice e2 x.arcs.length m2, .slice e3 x.pairs.length m3, .slice e4 x.numbers.length m4] 73 := Blk.thru (by (repeat (first | with_reducible exact K2_1 | with_reducible apply Blk.set_at | ((with_reducible refine Blk.set_far ?_ ?_); rotate_left; focus (first | (simp; done) | (simp; omega))) | ((with_reducible refine Blk.new ?_); simp; done) | with_reducible refine Blk.old ?_ _)); all_goals rfl) l3
  have S3 := l3.size
  try simp at S3
  have C3_0 := K3_0.cell
  have F3_0 := K3_0.frozen
  have C3_1 := K3_1.cell
  have F3_1 := K3_1.frozen
  clear C2_0 F2_0 C2_1 F2_1
  go_wp2
  go_ret
  exact ⟨rfl, (by repeat (first | with_reducible exact Below.refl _ _ | with_reducible exact B3 | with_reducible exact B2 | with_reducible exact B1 | with_reducible exact B0 | ((with_reducible refine Below.setCell ?_ ?_ _); rotate_left; focus first | (simp; done) | (simp; omega)) | ((with_reducible refine Below.alloc ?_ ?_ _); rotate_left; focus (first | (simp; done) | (simp; omega) | (have := B3.size; simp at *; omega))) | with_reducible apply Below.drew))⟩

set_option maxHeartbeats 1000000 in
theorem markArcStepS_any (v : Value) (l : List ArcStep) (k : Int) (bs : List Nat) (B : Nat) (w : World) (h : Sl 3 RArcStep w v l bs) (ho : Own B bs w) (h0 : 0 ≤ k) (hk : k + (cntS ArcStep.ecnt l : Nat) ≤ 4611686018427387904) :
    Calls Try.prog 98 #[v, .int .i64 k] w (Marks 3 RArcStep v (mkS ArcStep.emk ArcStep.ecnt l k) bs (k + (cntS ArcStep.ecnt l : Nat)) B w) := by
  obtain ⟨a, c, rfl, hc1, hc2, hc3, -⟩ := h.open
  obtain ⟨n, hn0⟩ : ∃ n, n = l.length := ⟨_, rfl⟩
  have hn := hd hn0
  have h' : Sl 3 RArcStep w (.slice a n c) l bs := by rw [hn0]; exact h
  rw [← hn0] at hc1 ⊢
  clear h hc3 hn0
  go_enter Try.func98, Try.ntmps98
  go_wp2
  go_loopw [1, 5] (fun r i wr => ∃ j : Nat, j ≤ n ∧ i = .int .i64 j ∧ r = .int .i64 (k + (cntS ArcStep.ecnt (l.take j) : Nat)) ∧ Sl 3 RArcStep wr (.slice a n c) (mkS ArcStep.emk ArcStep.ecnt (l.take j) k ++ l.drop j) bs ∧ Own B bs wr ∧ Only bs w wr) (fun _ i _ => n - (intOf i).toNat)
  case atStart => exact ⟨0, Nat.zero_le _, rfl, by simp [cntS], h', ho, Only.refl _ _⟩
  case round =>
    obtain ⟨j, hj, rfl, rfl, hS, hO, hU⟩ := hrel
    clear h' ho
    by_cases hlt : j < n
    · obtain ⟨x, hx0⟩ : ∃ x, l[j]? = some x := ⟨_, List.getElem?_eq_getElem (by rw [← hn.out]; exact hlt)⟩
      have hget := mk_get (m := ArcStep.emk) (c := ArcStep.ecnt) hx0 k
      have hset := hd (mk_set (m := ArcStep.emk) (c := ArcStep.ecnt) hx0 k)
      have hlen := mk_len (m := ArcStep.emk) (c := ArcStep.ecnt) l j (by rw [← hn.out]; exact hj) k
      rw [← hn.out] at hlen
      generalize mkS ArcStep.emk ArcStep.ecnt (l.take j) k ++ l.drop j = L at *
      have hlt2 : j < L.length := by rw [hlen]; exact hlt
      obtain ⟨b, o, bss, bi, rfl, rfl, hE, hbi, hsub, hr, hrow⟩ := Sl.at' hS hO hlt2 hget
      have hL := hd hlen
      clear hget hlen
      have hx := hd hx0
      have hsucc := hd (cntS_take_succ (c := ArcStep.ecnt) hx0)
      have hadd := cntS_take_add (c := ArcStep.ecnt) hx0
      have hle := hd hadd
      clear hx0 hadd
      obtain ⟨hnb, hoi⟩ := Own.split hO hbi
      have hbi_in : InMem bi wr := fun c hc => hO.inMem c (hsub c hc)
      obtain ⟨c0, r0, c1, r1, c2, r2, hbi0⟩ := hr
      simp only [Nat.add_zero] at c0 c1 c2
      have hrf : ∀ m, wr.frozen? ⟨b, m, none⟩ = false := by obtain ⟨cur, e, hh⟩ := hrow; exact fun m => (Own.cell0 hh m).2
      generalize hcc : cntS ArcStep.ecnt (l.take j) = cc at *
      clear hcc
      have hec : x.ecnt = 3 := by unfold ArcStep.ecnt ArcStep.cnt; try omega
      have hec' := hd hec
      have hle2 := hle.out
      rw [hec] at hle2
      clear hec
      have hu0 : Upd b (o + j * 3) (o + j * 3 + 3) bi wr wr := Upd.refl hrow
      have hbs : b < wr.heap.size := lt_of_some hrow.choose_spec.choose_spec
      clear hrow
      go_wp2
      go_roundw
      case rel =>
        refine ⟨j + 1, hlt, by go_num, ?_, ?_, ?_, ?_⟩
        · rw [hsucc.out]; rw [hec'.out]; apply congrArg; omega
        · rw [← hset.out]
          exact Sl.upd RArcStep.fr hL.out hc1 (by unfold maxLen; omega) hE hO.1 hO.inMem hlt2 hbi (by repeat (first | with_reducible exact hu0 | with_reducible apply Upd.set' | omega)) ⟨(show World.cell? _ ⟨b, o + j * 3 + 0, none⟩ = some (.int .i64 (k + cc)) from by simp [cell_set, c0, c1, c2]), (show I64 (k + cc) from I64.of ⟨by omega, by omega⟩), (show World.cell? _ ⟨b, o + j * 3 + 1, none⟩ = some (.int .i64 (k + cc + 1)) from by simp [cell_set, c0, c1, c2]), (show I64 (k + cc + 1) from I64.of ⟨by omega, by omega⟩), (show World.cell? _ ⟨b, o + j * 3 + 2, none⟩ = some (.int .i64 (k + cc + 1 + 1)) from by simp [cell_set, c0, c1, c2]), (show I64 (k + cc + 1 + 1) from I64.of ⟨by omega, by omega⟩), hbi0⟩
        · exact Own.upd hO (lo := o + j * 3) (hi := o + j * 3 + 3) (bi := bi) (by repeat (first | with_reducible exact hu0 | with_reducible apply Upd.set' | omega)) (hbi0 ▸ Own.nil _ _)
        · exact hU.trans ((Upd.only (b := b) (lo := o + j * 3) (hi := o + j * 3 + 3) (bi := bi) (by repeat (first | with_reducible exact hu0 | with_reducible apply Upd.set' | omega))).mono (fun d hd => by rcases List.mem_cons.1 hd with rfl | hd <;> first | (simp; done) | exact hsub d hd))
      case measure => simp [intOf]; omega
    · obtain rfl : j = n := by omega
      have e1 : l.take j = l := List.take_of_length_le (by rw [← hn.out]; exact Nat.le_refl _)
      have e2 : l.drop j = [] := List.drop_of_length_le (by rw [← hn.out]; exact Nat.le_refl _)
      rw [e1, e2, List.append_nil] at hS
      rw [e1]
      clear e1 e2
      go_wp2
      go_ret
      exact ⟨rfl, hU, hS, hO⟩

set_option maxHeartbeats 1000000 in
theorem markPairStepS_any (v : Value) (l : List PairStep) (k : Int) (bs : List Nat) (B : Nat) (w : World) (h : Sl 3 RPairStep w v l bs) (ho : Own B bs w) (h0 : 0 ≤ k) (hk : k + (cntS PairStep.ecnt l : Nat) ≤ 4611686018427387904) :
    Calls Try.prog 99 #[v, .int .i64 k] w (Marks 3 RPairStep v (mkS PairStep.emk PairStep.ecnt l k) bs (k + (cntS PairStep.ecnt l : Nat)) B w) := by
  obtain ⟨a, c, rfl, hc1, hc2, hc3, -⟩ := h.open
  obtain ⟨n, hn0⟩ : ∃ n, n = l.length := ⟨_, rfl⟩
  have hn := hd hn0
  have h' : Sl 3 RPairStep w (.slice a n c) l bs := by rw [hn0]; exact h
  rw [← hn0] at hc1 ⊢
  clear h hc3 hn0
  go_enter Try.func99, Try.ntmps99
  go_wp2
  go_loopw [1, 5] (fun r i wr => ∃ j : Nat, j ≤ n ∧ i = .int .i64 j ∧ r = .int .i64 (k + (cntS PairStep.ecnt (l.take j) : Nat)) ∧ Sl 3 RPairStep wr (.slice a n c) (mkS PairStep.emk PairStep.ecnt (l.take j) k ++ l.drop j) bs ∧ Own B bs wr ∧ Only bs w wr) (fun _ i _ => n - (intOf i).toNat)
  case atStart => exact ⟨0, Nat.zero_le _, rfl, by simp [cntS], h', ho, Only.refl _ _⟩
  case round =>
    obtain ⟨j, hj, rfl, rfl, hS, hO, hU⟩ := hrel
    clear h' ho
    by_cases hlt : j < n
    · obtain ⟨x, hx0⟩ : ∃ x, l[j]? = some x := ⟨_, List.getElem?_eq_getElem (by rw [← hn.out]; exact hlt)⟩
      have hget := mk_get (m := PairStep.emk) (c := PairStep.ecnt) hx0 k
      have hset := hd (mk_set (m := PairStep.emk) (c := PairStep.ecnt) hx0 k)
      have hlen := mk_len (m := PairStep.emk) (c := PairStep.ecnt) l j (by rw [← hn.out]; exact hj) k
      rw [← hn.out] at hlen
      generalize mkS PairStep.emk PairStep.ecnt (l.take j) k ++ l.drop j = L at *
      have hlt2 : j < L.length := by rw [hlen]; exact hlt
      obtain ⟨b, o, bss, bi, rfl, rfl, hE, hbi, hsub, hr, hrow⟩ := Sl.at' hS hO hlt2 hget
      have hL := hd hlen
      clear hget hlen
      have hx := hd hx0
      have hsucc := hd (cntS_take_succ (c := PairStep.ecnt) hx0)
      have hadd := cntS_take_add (c := PairStep.ecnt) hx0
      have hle := hd hadd
      clear hx0 hadd
      obtain ⟨hnb, hoi⟩ := Own.split hO hbi
      have hbi_in : InMem bi wr := fun c hc => hO.inMem c (hsub c hc)
      obtain ⟨c0, r0, c1, r1, c2, r2, hbi0⟩ := hr
      simp only [Nat.add_zero] at c0 c1 c2
      have hrf : ∀ m, wr.frozen? ⟨b, m, none⟩ = false := by obtain ⟨cur, e, hh⟩ := hrow; exact fun m => (Own.cell0 hh m).2
      generalize hcc : cntS PairStep.ecnt (l.take j) = cc at *
      clear hcc
      have hec : x.ecnt = 3 := by unfold PairStep.ecnt PairStep.cnt; try omega
      have hec' := hd hec
      have hle2 := hle.out
      rw [hec] at hle2
      clear hec
      have hu0 : Upd b (o + j * 3) (o + j * 3 + 3) bi wr wr := Upd.refl hrow
      have hbs : b < wr.heap.size := lt_of_some hrow.choose_spec.choose_spec
      clear hrow
      go_wp2
      go_roundw
      case rel =>
        refine ⟨j + 1, hlt, by go_num, ?_, ?_, ?_, ?_⟩
        · rw [hsucc.out]; rw [hec'.out]; apply congrArg; omega
        · rw [← hset.out]
          exact Sl.upd RPairStep.fr hL.out hc1 (by unfold maxLen; omega) hE hO.1 hO.inMem hlt2 hbi (by repeat (first | with_reducible exact hu0 | with_reducible apply Upd.set' | omega)) ⟨(show World.cell? _ ⟨b, o + j * 3 + 0, none⟩ = some (.int .i64 (k + cc)) from by simp [cell_set, c0, c1, c2]), (show I64 (k + cc) from I64.of ⟨by omega, by omega⟩), (show World.cell? _ ⟨b, o + j * 3 + 1, none⟩ = some (.int .i64 (k + cc + 1)) from by simp [cell_set, c0, c1, c2]), (show I64 (k + cc + 1) from I64.of ⟨by omega, by omega⟩), (show World.cell? _ ⟨b, o + j * 3 + 2, none⟩ = some (.int .i64 (k + cc + 1 + 1)) from by simp [cell_set, c0, c1, c2]), (show I64 (k + cc + 1 + 1) from I64.of ⟨by omega, by omega⟩), hbi0⟩
        · exact Own.upd hO (lo := o + j * 3) (hi := o + j * 3 + 3) (bi := bi) (by repeat (first | with_reducible exact hu0 | with_reducible apply Upd.set' | omega)) (hbi0 ▸ Own.nil _ _)
        · exact hU.trans ((Upd.only (b := b) (lo := o + j * 3) (hi := o + j * 3 + 3) (bi := bi) (by repeat (first | with_reducible exact hu0 | with_reducible apply Upd.set' | omega))).mono (fun d hd => by rcases List.mem_cons.1 hd with rfl | hd <;> first | (simp; done) | exact hsub d hd))
      case measure => simp [intOf]; omega
    · obtain rfl : j = n := by omega
      have e1 : l.take j = l := List.take_of_length_le (by rw [← hn.out]; exact Nat.le_refl _)
      have e2 : l.drop j = [] := List.drop_of_length_le (by rw [← hn.out]; exact Nat.le_refl _)
      rw [e1, e2, List.append_nil] at hS
      rw [e1]
      clear e1 e2
      go_wp2
      go_ret
      exact ⟨rfl, hU, hS, hO⟩

set_option maxHeartbeats 1000000 in
theorem markVerdict_any (v : Value) (x : Verdict) (k : Int) (bs : List Nat) (B : Nat) (w : World) (h : Agg 5 RVerdict w v x bs) (ho : Own B bs w) (h0 : 0 ≤ k) (hk : k + (x.cnt : Nat) ≤ 4611686018427387904) :
    Calls Try.prog 42 #[v, .int .i64 k] w fun e w' => MarksT 5 RVerdict v (x.mkv k) bs (k + (x.cnt : Nat)) B w e w' := by
  obtain ⟨v1, v2, v3, v4, b1, b2, b3, b4, rfl, g0, g1, g2, g3, g4, hbs⟩ := RVerdict.open h
  obtain ⟨a1, n1, rfl⟩ := g1.val
  obtain ⟨a2, n2, rfl⟩ := g2.val
  obtain ⟨a3, n3, rfl⟩ := g3.val
  obtain ⟨a4, n4, rfl⟩ := g4.val
  clear h
  have hoi' := ho
  rw [hbs] at hoi'
  have OW0 : Own B b1 w := Own.left (Own.left (Own.left (hoi')))
  obtain ⟨y1, hy1⟩ : ∃ y : Nat, y = cntS cI x.values := ⟨_, rfl⟩
  have OW1 : Own B b2 w := Own.right (Own.left (Own.left (hoi')))
  obtain ⟨y2, hy2⟩ : ∃ y : Nat, y = cntS ArcStep.ecnt x.arcs := ⟨_, rfl⟩
  have dj0_1 : ∀ z ∈ b1, z ∉ b2 := fun z hx => Own.disj (Own.left (Own.left (hoi'))) z hx
  have dj1_0 : ∀ z ∈ b2, z ∉ b1 := fun z hx hx' => dj0_1 z hx' hx
  have OW2 : Own B b3 w := Own.right (Own.left (hoi'))
  obtain ⟨y3, hy3⟩ : ∃ y : Nat, y = cntS PairStep.ecnt x.pairs := ⟨_, rfl⟩
  have dj0_2 : ∀ z ∈ b1, z ∉ b3 := fun z hx => Own.disj (Own.left (hoi')) z (by simp [hx])
  have dj2_0 : ∀ z ∈ b3, z ∉ b1 := fun z hx hx' => dj0_2 z hx' hx
  have dj1_2 : ∀ z ∈ b2, z ∉ b3 := fun z hx => Own.disj (Own.left (hoi')) z (by simp [hx])
  have dj2_1 : ∀ z ∈ b3, z ∉ b2 := fun z hx hx' => dj1_2 z hx' hx
  have OW3 : Own B b4 w := Own.right (hoi')
  obtain ⟨y4, hy4⟩ : ∃ y : Nat, y = cntS cI x.numbers := ⟨_, rfl⟩
  have dj0_3 : ∀ z ∈ b1, z ∉ b4 := fun z hx => Own.disj (hoi') z (by simp [hx])
  have dj3_0 : ∀ z ∈ b4, z ∉ b1 := fun z hx hx' => dj0_3 z hx' hx
  have dj1_3 : ∀ z ∈ b2, z ∉ b4 := fun z hx => Own.disj (hoi') z (by simp [hx])
  have dj3_1 : ∀ z ∈ b4, z ∉ b2 := fun z hx hx' => dj1_3 z hx' hx
  have dj2_3 : ∀ z ∈ b3, z ∉ b4 := fun z hx => Own.disj (hoi') z (by simp [hx])
  have dj3_2 : ∀ z ∈ b4, z ∉ b3 := fun z hx hx' => dj2_3 z hx' hx
  have hct : x.cnt = y1 + y2 + y3 + y4 := by unfold Verdict.cnt; rw [hy1, hy2, hy3, hy4]
  rw [hct] at hk ⊢
  have hbs' := hd hbs
  clear hct hoi' hbs
  have hy1' := hd hy1.symm
  clear hy1
  have hy2' := hd hy2.symm
  clear hy2
  have hy3' := hd hy3.symm
  clear hy3
  have hy4' := hd hy4.symm
  clear hy4
  go_enter Try.func42, Try.ntmps42
  go_wp2_with fail
  (with_reducible refine (markInt64S_any _ x.values _ b1 B _ ?_ ?_ ?_ ?_).mono ?_)
  · exact g1.same RInt.fr (by repeat (first | with_reducible exact SameAt.refl _ _ | ((with_reducible refine SameAt.alloc ?_ ?_ _); rotate_left; focus exact OW0.inMem)))
  · exact OW0.same (by repeat (first | with_reducible exact SameAt.refl _ _ | ((with_reducible refine SameAt.alloc ?_ ?_ _); rotate_left; focus exact OW0.inMem)))
  · omega
  · rw [hy1'.out]; omega
  rintro e p0 ⟨rfl, l0, s0, ow0⟩
  rw [hy1'.out]
  have W0 : Only bs w p0 := (Only.of_below ((by repeat (first | with_reducible exact Below.refl _ _ | ((with_reducible refine Below.setCell ?_ ?_ _); rotate_left; focus first | (simp; done) | (simp; omega)) | ((with_reducible refine Below.alloc ?_ ?_ _); rotate_left; focus (first | (simp; done) | (simp; omega))) | with_reducible apply Below.drew)))).trans (l0.mono (fun d hx => by rw [hbs'.out]; simp [hx]))
  have K0 : Blk p0 w.heap.size #[.int .i64 x.kind, .slice a1 x.values.length n1, .slice a2 x.arcs.length n2, .slice a3 x.pairs.length n3, .slice a4 x.numbers.length n4] 73 := Blk.only (by (repeat (first | with_reducible apply Blk.set_at | ((with_reducible refine Blk.set_far ?_ ?_); rotate_left; focus (first | (simp; done) | (simp; omega))) | ((with_reducible refine Blk.new ?_); simp; done) | with_reducible refine Blk.old ?_ _)); all_goals rfl) l0 (fun hx => by have := OW0.inMem _ hx; omega)
  have C0 := K0.cell
  have D1_0 : SameAt b2 w p0 := SameAt.only (by repeat (first | with_reducible exact SameAt.refl _ _ | ((with_reducible refine SameAt.alloc ?_ ?_ _); rotate_left; focus exact OW1.inMem))) (OW1.inMem.le (by simp)) dj1_0 l0
  have D2_0 : SameAt b3 w p0 := SameAt.only (by repeat (first | with_reducible exact SameAt.refl _ _ | ((with_reducible refine SameAt.alloc ?_ ?_ _); rotate_left; focus exact OW2.inMem))) (OW2.inMem.le (by simp)) dj2_0 l0
  have D3_0 : SameAt b4 w p0 := SameAt.only (by repeat (first | with_reducible exact SameAt.refl _ _ | ((with_reducible refine SameAt.alloc ?_ ?_ _); rotate_left; focus exact OW3.inMem))) (OW3.inMem.le (by simp)) dj3_0 l0
  go_wp2_with fail
  (with_reducible refine (markArcStepS_any _ x.arcs _ b2 B _ ?_ ?_ ?_ ?_).mono ?_)
  · exact g2.same RArcStep.fr (by repeat (first | with_reducible exact D1_0 | ((with_reducible refine SameAt.alloc ?_ ?_ _); rotate_left; focus exact OW1.inMem)))
  · exact OW1.same (by repeat (first | with_reducible exact D1_0 | ((with_reducible refine SameAt.alloc ?_ ?_ _); rotate_left; focus exact OW1.inMem)))
  · omega
  · rw [hy2'.out]; omega
  rintro e p1 ⟨rfl, l1, s1, ow1⟩
  rw [hy2'.out]
  have W1 : Only bs w p1 := W0.trans (l1.mono (fun d hx => by rw [hbs'.out]; simp [hx]))
  have K1 : Blk p1 w.heap.size #[.int .i64 x.kind, .slice a1 x.values.length n1, .slice a2 x.arcs.length n2, .slice a3 x.pairs.length n3, .slice a4 x.numbers.length n4] 73 := Blk.only (by (repeat (first | with_reducible exact K0 | with_reducible apply Blk.set_at | ((with_reducible refine Blk.set_far ?_ ?_); rotate_left; focus (first | (simp; done) | (simp; omega))) | ((with_reducible refine Blk.new ?_); simp; done) | with_reducible refine Blk.old ?_ _)); all_goals rfl) l1 (fun hx => by have := OW1.inMem _ hx; omega)
  have C1 := K1.cell
  clear C0
  have E0_1 : SameAt b1 p0 p1 := SameAt.only (SameAt.refl _ _) (ow0.inMem.le (Nat.le_refl _)) dj0_1 l1
  have SZ0_1 : p0.heap.size ≤ p1.heap.size := Nat.le_trans (Nat.le_refl _) l1.size
  have D2_1 : SameAt b3 w p1 := SameAt.only (by repeat (first | with_reducible exact D2_0 | ((with_reducible refine SameAt.alloc ?_ ?_ _); rotate_left; focus exact OW2.inMem))) (OW2.inMem.le W0.size) dj2_1 l1
  have D3_1 : SameAt b4 w p1 := SameAt.only (by repeat (first | with_reducible exact D3_0 | ((with_reducible refine SameAt.alloc ?_ ?_ _); rotate_left; focus exact OW3.inMem))) (OW3.inMem.le W0.size) dj3_1 l1
  go_wp2_with fail
  (with_reducible refine (markPairStepS_any _ x.pairs _ b3 B _ ?_ ?_ ?_ ?_).mono ?_)
  · exact g3.same RPairStep.fr (by repeat (first | with_reducible exact D2_1 | ((with_reducible refine SameAt.alloc ?_ ?_ _); rotate_left; focus exact OW2.inMem)))
  · exact OW2.same (by repeat (first | with_reducible exact D2_1 | ((with_reducible refine SameAt.alloc ?_ ?_ _); rotate_left; focus exact OW2.inMem)))
  · omega
  · rw [hy3'.out]; omega
  rintro e p2 ⟨rfl, l2, s2, ow2⟩
  rw [hy3'.out]
  have W2 : Only bs w p2 := W1.trans (l2.mono (fun d hx => by rw [hbs'.out]; simp [hx]))
  have K2 : Blk p2 w.heap.size #[.int .i64 x.kind, .slice a1 x.values.length n1, .slice a2 x.arcs.length n2, .slice a3 x.pairs.length n3, .slice a4 x.numbers.length n4] 73 := Blk.only (by (repeat (first | with_reducible exact K1 | with_reducible apply Blk.set_at | ((with_reducible refine Blk.set_far ?_ ?_); rotate_left; focus (first | (simp; done) | (simp; omega))) | ((with_reducible refine Blk.new ?_); simp; done) | with_reducible refine Blk.old ?_ _)); all_goals rfl) l2 (fun hx => by have := OW2.inMem _ hx; omega)
  have C2 := K2.cell
  clear C1
  have E0_2 : SameAt b1 p0 p2 := SameAt.only (E0_1) (ow0.inMem.le SZ0_1) dj0_2 l2
  have SZ0_2 : p0.heap.size ≤ p2.heap.size := Nat.le_trans SZ0_1 l2.size
  have E1_2 : SameAt b2 p1 p2 := SameAt.only (SameAt.refl _ _) (ow1.inMem.le (Nat.le_refl _)) dj1_2 l2
  have SZ1_2 : p1.heap.size ≤ p2.heap.size := Nat.le_trans (Nat.le_refl _) l2.size
  have D3_2 : SameAt b4 w p2 := SameAt.only (by repeat (first | with_reducible exact D3_1 | ((with_reducible refine SameAt.alloc ?_ ?_ _); rotate_left; focus exact OW3.inMem))) (OW3.inMem.le W1.size) dj3_2 l2
  go_wp2_with fail
  (with_reducible refine (markInt64S_any _ x.numbers _ b4 B _ ?_ ?_ ?_ ?_).mono ?_)
  · exact g4.same RInt.fr (by repeat (first | with_reducible exact D3_2 | ((with_reducible refine SameAt.alloc ?_ ?_ _); rotate_left; focus exact OW3.inMem)))
  · exact OW3.same (by repeat (first | with_reducible exact D3_2 | ((with_reducible refine SameAt.alloc ?_ ?_ _); rotate_left; focus exact OW3.inMem)))
  · omega
  · rw [hy4'.out]; omega
  rintro e p3 ⟨rfl, l3, s3, ow3⟩
  rw [hy4'.out]
  have W3 : Only bs w p3 := W2.trans (l3.mono (fun d hx => by rw [hbs'.out]; simp [hx]))
  have K3 : Blk p3 w.heap.size #[.int .i64 x.kind, .slice a1 x.values.length n1, .slice a2 x.arcs.length n2, .slice a3 x.pairs.length n3, .slice a4 x.numbers.length n4] 73 := Blk.only (by (repeat (first | with_reducible exact K2 | with_reducible apply Blk.set_at | ((with_reducible refine Blk.set_far ?_ ?_); rotate_left; focus (first | (simp; done) | (simp; omega))) | ((with_reducible refine Blk.new ?_); simp; done) | with_reducible refine Blk.old ?_ _)); all_goals rfl) l3 (fun hx => by have := OW3.inMem _ hx; omega)
  have C3 := K3.cell
  clear C2
  have E0_3 : SameAt b1 p0 p3 := SameAt.only (E0_2) (ow0.inMem.le SZ0_2) dj0_3 l3
  have SZ0_3 : p0.heap.size ≤ p3.heap.size := Nat.le_trans SZ0_2 l3.size
  have E1_3 : SameAt b2 p1 p3 := SameAt.only (E1_2) (ow1.inMem.le SZ1_2) dj1_3 l3
  have SZ1_3 : p1.heap.size ≤ p3.heap.size := Nat.le_trans SZ1_2 l3.size
  have E2_3 : SameAt b3 p2 p3 := SameAt.only (SameAt.refl _ _) (ow2.inMem.le (Nat.le_refl _)) dj2_3 l3
  have SZ2_3 : p2.heap.size ≤ p3.heap.size := Nat.le_trans (Nat.le_refl _) l3.size
  go_wp2
  go_ret
  refine ⟨ret64 (by omega), W3, ?_, ?_⟩
  · rw [hbs'.out]; refine RVerdict.mk' (x := x.mkv k) ?_ ?_ ?_ ?_ ?_
    · exact g0
    · exact (s0.same RInt.fr E0_3)
    · exact (by have hs := s1; rw [← hy1'.out] at hs; exact hs.same RArcStep.fr E1_3)
    · exact (by have hs := s2; rw [← hy1'.out, ← hy2'.out] at hs; exact hs.same RPairStep.fr E2_3)
    · exact (by have hs := s3; rw [← hy1'.out, ← hy2'.out, ← hy3'.out] at hs; exact hs.same RInt.fr (SameAt.refl _ _))
  · rw [hbs'.out]; exact (Own.append (Own.append (Own.append (ow0.same E0_3) (ow1.same E1_3) (fun z hx => dj0_1 z hx)) (ow2.same E2_3) (fun z hx => by simp only [List.mem_append] at hx; rcases hx with hx | hx; all_goals first | exact dj0_2 z hx | exact dj1_2 z hx)) (ow3.same (SameAt.refl _ _)) (fun z hx => by simp only [List.mem_append] at hx; rcases hx with (hx | hx) | hx; all_goals first | exact dj0_3 z hx | exact dj1_3 z hx | exact dj2_3 z hx))

set_option maxHeartbeats 1000000 in
theorem heldArcStepS_any (v : Value) (l : List ArcStep) (k : Int) (bs : List Nat) (w : World) (h : Sl 3 RArcStep w v (mkS ArcStep.emk ArcStep.ecnt l k) bs) (hm : InMem bs w) (h0 : 0 ≤ k) (hk : k + (cntS ArcStep.ecnt l : Nat) ≤ 4611686018427387904) :
    Calls Try.prog 100 #[v, .int .i64 k] w (Says (.int .i64 (k + (cntS ArcStep.ecnt l : Nat))) w) := by
  obtain ⟨a, c, rfl, hc1, hc2, hc3, hat0⟩ := h.open
  have hat := hd hat0
  clear hat0 hc3 h
  have hlen := length_mkS (m := ArcStep.emk) (c := ArcStep.ecnt) l k
  obtain ⟨n, hn0⟩ : ∃ n, n = (mkS ArcStep.emk ArcStep.ecnt l k).length := ⟨_, rfl⟩
  have hn := hd (hn0.trans hlen)
  have hn' := hd hn0
  rw [← hn0] at hc1 ⊢
  clear hlen hn0
  go_enter Try.func100, Try.ntmps100
  go_wp2
  go_loopw [1, 5] (fun r i wr => ∃ j : Nat, j ≤ n ∧ i = .int .i64 j ∧ r = .int .i64 (k + (cntS ArcStep.ecnt (l.take j) : Nat)) ∧ Below w.heap.size w wr) (fun _ i _ => n - (intOf i).toNat)
  case atStart => exact ⟨0, Nat.zero_le _, rfl, by simp [cntS], Below.refl _ _⟩
  case round =>
    obtain ⟨j, hj, rfl, rfl, hB⟩ := hrel
    by_cases hlt : j < n
    · obtain ⟨x, hx0⟩ : ∃ x, l[j]? = some x := ⟨_, List.getElem?_eq_getElem (by rw [← hn.out]; exact hlt)⟩
      have hge := getElem?_mkS (m := ArcStep.emk) (c := ArcStep.ecnt) hx0 k
      obtain ⟨b, o, bss', bi, rfl, rfl, hE, hbi, hsub, hr0⟩ := hat.out j (by rw [← hn'.out]; exact hlt)
      have hge2 : (mkS ArcStep.emk ArcStep.ecnt l k)[j]'(by rw [← hn'.out]; exact hlt) = ArcStep.emk x (k + cntS ArcStep.ecnt (l.take j)) := (List.getElem?_eq_some_iff.1 hge).choose_spec
      rw [hge2] at hr0
      clear hE hge hge2
      have hsucc := hd (cntS_take_succ (c := ArcStep.ecnt) hx0)
      have hadd := cntS_take_add (c := ArcStep.ecnt) hx0
      have hle := hd hadd
      clear hx0 hadd
      have hr : RArcStep wr (fun i => wr.cell? ⟨b, o + j * 3 + i, none⟩) (ArcStep.emk x (k + cntS ArcStep.ecnt (l.take j))) bi := RArcStep.fr _ _ _ _ _ _ hr0 (fun c hc => hB.block c (hm c (hsub c hc))) (fun i _ => (bcell hB).1 b _ (hm b (by simp)))
      have hbw : InMem bi wr := (fun c hc => Nat.lt_of_lt_of_le (hm c (hsub c hc)) hB.size)
      clear hr0 hm hsub hbi
      generalize hcc : cntS ArcStep.ecnt (l.take j) = cc at *
      clear hcc
      obtain ⟨c0, r0, c1, r1, c2, r2, hbi0⟩ := hr
      simp only [Nat.add_zero] at c0 c1 c2
      have hec : x.ecnt = 3 := by unfold ArcStep.ecnt ArcStep.cnt; try omega
      have hec' := hd hec
      have hle2 := hle.out
      rw [hec] at hle2
      clear hec
      have e0 : wr.cell? ⟨b, o + j * 3, none⟩ = some (.int .i64 (k + cc)) := c0
      have e1 : wr.cell? ⟨b, o + j * 3 + 1, none⟩ = some (.int .i64 (k + cc + 1)) := c1
      have e2 : wr.cell? ⟨b, o + j * 3 + 2, none⟩ = some (.int .i64 (k + cc + 1 + 1)) := c2
      clear c0 c1 c2
      have hbl : b < wr.heap.size := by cases hw : wr.heap[b]? with | none => simp [World.cell?, hw] at e0 | some o => exact lt_of_some hw
      go_wp2
      go_roundw
      case rel => exact ⟨j + 1, hlt, by go_num, by rw [hsucc.out]; rw [hec'.out]; apply congrArg; omega, hB⟩
      case measure => simp [intOf]; omega
    · obtain rfl : j = n := by omega
      have e1 : l.take j = l := List.take_of_length_le (by rw [← hn.out]; exact Nat.le_refl _)
      rw [e1]
      clear e1
      go_wp2
      go_ret
      exact ⟨rfl, hB⟩

set_option maxHeartbeats 1000000 in
theorem heldPairStepS_any (v : Value) (l : List PairStep) (k : Int) (bs : List Nat) (w : World) (h : Sl 3 RPairStep w v (mkS PairStep.emk PairStep.ecnt l k) bs) (hm : InMem bs w) (h0 : 0 ≤ k) (hk : k + (cntS PairStep.ecnt l : Nat) ≤ 4611686018427387904) :
    Calls Try.prog 101 #[v, .int .i64 k] w (Says (.int .i64 (k + (cntS PairStep.ecnt l : Nat))) w) := by
  obtain ⟨a, c, rfl, hc1, hc2, hc3, hat0⟩ := h.open
  have hat := hd hat0
  clear hat0 hc3 h
  have hlen := length_mkS (m := PairStep.emk) (c := PairStep.ecnt) l k
  obtain ⟨n, hn0⟩ : ∃ n, n = (mkS PairStep.emk PairStep.ecnt l k).length := ⟨_, rfl⟩
  have hn := hd (hn0.trans hlen)
  have hn' := hd hn0
  rw [← hn0] at hc1 ⊢
  clear hlen hn0
  go_enter Try.func101, Try.ntmps101
  go_wp2
  go_loopw [1, 5] (fun r i wr => ∃ j : Nat, j ≤ n ∧ i = .int .i64 j ∧ r = .int .i64 (k + (cntS PairStep.ecnt (l.take j) : Nat)) ∧ Below w.heap.size w wr) (fun _ i _ => n - (intOf i).toNat)
  case atStart => exact ⟨0, Nat.zero_le _, rfl, by simp [cntS], Below.refl _ _⟩
  case round =>
    obtain ⟨j, hj, rfl, rfl, hB⟩ := hrel
    by_cases hlt : j < n
    · obtain ⟨x, hx0⟩ : ∃ x, l[j]? = some x := ⟨_, List.getElem?_eq_getElem (by rw [← hn.out]; exact hlt)⟩
      have hge := getElem?_mkS (m := PairStep.emk) (c := PairStep.ecnt) hx0 k
      obtain ⟨b, o, bss', bi, rfl, rfl, hE, hbi, hsub, hr0⟩ := hat.out j (by rw [← hn'.out]; exact hlt)
      have hge2 : (mkS PairStep.emk PairStep.ecnt l k)[j]'(by rw [← hn'.out]; exact hlt) = PairStep.emk x (k + cntS PairStep.ecnt (l.take j)) := (List.getElem?_eq_some_iff.1 hge).choose_spec
      rw [hge2] at hr0
      clear hE hge hge2
      have hsucc := hd (cntS_take_succ (c := PairStep.ecnt) hx0)
      have hadd := cntS_take_add (c := PairStep.ecnt) hx0
      have hle := hd hadd
      clear hx0 hadd
      have hr : RPairStep wr (fun i => wr.cell? ⟨b, o + j * 3 + i, none⟩) (PairStep.emk x (k + cntS PairStep.ecnt (l.take j))) bi := RPairStep.fr _ _ _ _ _ _ hr0 (fun c hc => hB.block c (hm c (hsub c hc))) (fun i _ => (bcell hB).1 b _ (hm b (by simp)))
      have hbw : InMem bi wr := (fun c hc => Nat.lt_of_lt_of_le (hm c (hsub c hc)) hB.size)
      clear hr0 hm hsub hbi
      generalize hcc : cntS PairStep.ecnt (l.take j) = cc at *
      clear hcc
      obtain ⟨c0, r0, c1, r1, c2, r2, hbi0⟩ := hr
      simp only [Nat.add_zero] at c0 c1 c2
      have hec : x.ecnt = 3 := by unfold PairStep.ecnt PairStep.cnt; try omega
      have hec' := hd hec
      have hle2 := hle.out
      rw [hec] at hle2
      clear hec
      have e0 : wr.cell? ⟨b, o + j * 3, none⟩ = some (.int .i64 (k + cc)) := c0
      have e1 : wr.cell? ⟨b, o + j * 3 + 1, none⟩ = some (.int .i64 (k + cc + 1)) := c1
      have e2 : wr.cell? ⟨b, o + j * 3 + 2, none⟩ = some (.int .i64 (k + cc + 1 + 1)) := c2
      clear c0 c1 c2
      have hbl : b < wr.heap.size := by cases hw : wr.heap[b]? with | none => simp [World.cell?, hw] at e0 | some o => exact lt_of_some hw
      go_wp2
      go_roundw
      case rel => exact ⟨j + 1, hlt, by go_num, by rw [hsucc.out]; rw [hec'.out]; apply congrArg; omega, hB⟩
      case measure => simp [intOf]; omega
    · obtain rfl : j = n := by omega
      have e1 : l.take j = l := List.take_of_length_le (by rw [← hn.out]; exact Nat.le_refl _)
      rw [e1]
      clear e1
      go_wp2
      go_ret
      exact ⟨rfl, hB⟩

set_option maxHeartbeats 1000000 in
theorem heldVerdict_any (v : Value) (x : Verdict) (k : Int) (bs : List Nat) (w : World) (h : Agg 5 RVerdict w v (x.mkv k) bs) (hm : InMem bs w) (h0 : 0 ≤ k) (hk : k + (x.cnt : Nat) ≤ 4611686018427387904) :
    Calls Try.prog 43 #[v, .int .i64 k] w (Says (.int .i64 (k + (x.cnt : Nat))) w) := by
  obtain ⟨v1, v2, v3, v4, b1, b2, b3, b4, rfl, g0, g1, g2, g3, g4, hbs⟩ := RVerdict.open h
  obtain ⟨a1, n1, rfl⟩ := g1.val
  obtain ⟨a2, n2, rfl⟩ := g2.val
  obtain ⟨a3, n3, rfl⟩ := g3.val
  obtain ⟨a4, n4, rfl⟩ := g4.val
  clear h
  have hm0 : InMem b1 w := fun c hc => hm c (by rw [hbs]; simp [hc])
  obtain ⟨y1, hy1⟩ : ∃ y : Nat, y = cntS cI x.values := ⟨_, rfl⟩
  have hm1 : InMem b2 w := fun c hc => hm c (by rw [hbs]; simp [hc])
  obtain ⟨y2, hy2⟩ : ∃ y : Nat, y = cntS ArcStep.ecnt x.arcs := ⟨_, rfl⟩
  have hm2 : InMem b3 w := fun c hc => hm c (by rw [hbs]; simp [hc])
  obtain ⟨y3, hy3⟩ : ∃ y : Nat, y = cntS PairStep.ecnt x.pairs := ⟨_, rfl⟩
  have hm3 : InMem b4 w := fun c hc => hm c (by rw [hbs]; simp [hc])
  obtain ⟨y4, hy4⟩ : ∃ y : Nat, y = cntS cI x.numbers := ⟨_, rfl⟩
  clear hm hbs
  have hct : x.cnt = y1 + y2 + y3 + y4 := by unfold Verdict.cnt; rw [hy1, hy2, hy3, hy4]
  rw [hct] at hk ⊢
  clear hct
  have hy1' := hd hy1.symm
  clear hy1
  have hy2' := hd hy2.symm
  clear hy2
  have hy3' := hd hy3.symm
  clear hy3
  have hy4' := hd hy4.symm
  clear hy4
  generalize (Verdict.mkv x k).kind = z0 at *
  generalize hq1 : (Verdict.mkv x k).values.length = z1 at *
  generalize hq2 : (Verdict.mkv x k).arcs.length = z2 at *
  generalize hq3 : (Verdict.mkv x k).pairs.length = z3 at *
  generalize hq4 : (Verdict.mkv x k).numbers.length = z4 at *
  go_enter Try.func43, Try.ntmps43
  go_wp2_with fail
  (with_reducible refine (heldInt64S_any _ x.values _ b1 _ ?_ ?_ ?_ ?_).mono ?_)
  · have hg := g1
    simp only [Verdict.mkv] at hg
    exact hg.same RInt.fr (hm0.same (by repeat (first | with_reducible exact Below.refl _ _ | ((with_reducible refine Below.setCell ?_ ?_ _); rotate_left; focus first | (simp; done) | (simp; omega)) | ((with_reducible refine Below.alloc ?_ ?_ _); rotate_left; focus (first | (simp; done) | (simp; omega))) | with_reducible apply Below.drew)))
  · exact hm0.le (Below.size (B := w.heap.size) (by repeat (first | with_reducible exact Below.refl _ _ | ((with_reducible refine Below.setCell ?_ ?_ _); rotate_left; focus first | (simp; done) | (simp; omega)) | ((with_reducible refine Below.alloc ?_ ?_ _); rotate_left; focus (first | (simp; done) | (simp; omega))) | with_reducible apply Below.drew)))
  · omega
  · rw [hy1'.out]; omega
  rintro e p0 ⟨rfl, l0⟩
  rw [hy1'.out]
  have hz0 : ¬ (k + (y1 : Int) < 0) := by omega
  have B0 : Below w.heap.size w p0 := Below.through l0 (by repeat (first | with_reducible exact Below.refl _ _ | ((with_reducible refine Below.setCell ?_ ?_ _); rotate_left; focus first | (simp; done) | (simp; omega)) | ((with_reducible refine Below.alloc ?_ ?_ _); rotate_left; focus (first | (simp; done) | (simp; omega))) | with_reducible apply Below.drew))
  have K0 : Blk p0 w.heap.size #[.int .i64 z0, .slice a1 z1 n1, .slice a2 z2 n2, .slice a3 z3 n3, .slice a4 z4 n4] 73 := Blk.thru (by (repeat (first | with_reducible apply Blk.set_at | ((with_reducible refine Blk.set_far ?_ ?_); rotate_left; focus (first | (simp; done) | (simp; omega))) | ((with_reducible refine Blk.new ?_); simp; done) | with_reducible refine Blk.old ?_ _)); all_goals rfl) l0
  have C0 := K0.cell
  go_wp2_with fail
  (with_reducible refine (heldArcStepS_any _ x.arcs _ b2 _ ?_ ?_ ?_ ?_).mono ?_)
  · have hg := g2
    simp only [Verdict.mkv, hy1'.out] at hg
    exact hg.same RArcStep.fr (hm1.same (by repeat (first | with_reducible exact Below.refl _ _ | with_reducible exact B0 | ((with_reducible refine Below.setCell ?_ ?_ _); rotate_left; focus first | (simp; done) | (simp; omega)) | ((with_reducible refine Below.alloc ?_ ?_ _); rotate_left; focus (first | (simp; done) | (simp; omega) | (have := B0.size; simp at *; omega))) | with_reducible apply Below.drew)))
  · exact hm1.le (Below.size (B := w.heap.size) (by repeat (first | with_reducible exact Below.refl _ _ | with_reducible exact B0 | ((with_reducible refine Below.setCell ?_ ?_ _); rotate_left; focus first | (simp; done) | (simp; omega)) | ((with_reducible refine Below.alloc ?_ ?_ _); rotate_left; focus (first | (simp; done) | (simp; omega) | (have := B0.size; simp at *; omega))) | with_reducible apply Below.drew)))
  · omega
  · rw [hy2'.out]; omega
  rintro e p1 ⟨rfl, l1⟩
  rw [hy2'.out]
  have hz1 : ¬ (k + y1 + (y2 : Int) < 0) := by omega
  have B1 : Below w.heap.size w p1 := Below.through l1 (by repeat (first | with_reducible exact Below.refl _ _ | with_reducible exact B0 | ((with_reducible refine Below.setCell ?_ ?_ _); rotate_left; focus first | (simp; done) | (simp; omega)) | ((with_reducible refine Below.alloc ?_ ?_ _); rotate_left; focus (first | (simp; done) | (simp; omega) | (have := B0.size; simp at *; omega))) | with_reducible apply Below.drew))
  have K1 : Blk p1 w.heap.size #[.int .i64 z0, .slice a1 z1 n1, .slice a2 z2 n2, .slice a3 z3 n3, .slice a4 z4 n4] 73 := Blk.thru (by (repeat (first | with_reducible exact K0 | with_reducible apply Blk.set_at | ((with_reducible refine Blk.set_far ?_ ?_); rotate_left; focus (first | (simp; done) | (simp; omega))) | ((with_reducible refine Blk.new ?_); simp; done) | with_reducible refine Blk.old ?_ _)); all_goals rfl) l1
  have C1 := K1.cell
  clear C0
  go_wp2_with fail
  (with_reducible refine (heldPairStepS_any _ x.pairs _ b3 _ ?_ ?_ ?_ ?_).mono ?_)
  · have hg := g3
    simp only [Verdict.mkv, hy1'.out, hy2'.out] at hg
    exact hg.same RPairStep.fr (hm2.same (by repeat (first | with_reducible exact Below.refl _ _ | with_reducible exact B1 | with_reducible exact B0 | ((with_reducible refine Below.setCell ?_ ?_ _); rotate_left; focus first | (simp; done) | (simp; omega)) | ((with_reducible refine Below.alloc ?_ ?_ _); rotate_left; focus (first | (simp; done) | (simp; omega) | (have := B1.size; simp at *; omega))) | with_reducible apply Below.drew)))
  · exact hm2.le (Below.size (B := w.heap.size) (by repeat (first | with_reducible exact Below.refl _ _ | with_reducible exact B1 | with_reducible exact B0 | ((with_reducible refine Below.setCell ?_ ?_ _); rotate_left; focus first | (simp; done) | (simp; omega)) | ((with_reducible refine Below.alloc ?_ ?_ _); rotate_left; focus (first | (simp; done) | (simp; omega) | (have := B1.size; simp at *; omega))) | with_reducible apply Below.drew)))
  · omega
  · rw [hy3'.out]; omega
  rintro e p2 ⟨rfl, l2⟩
  rw [hy3'.out]
  have hz2 : ¬ (k + y1 + y2 + (y3 : Int) < 0) := by omega
  have B2 : Below w.heap.size w p2 := Below.through l2 (by repeat (first | with_reducible exact Below.refl _ _ | with_reducible exact B1 | with_reducible exact B0 | ((with_reducible refine Below.setCell ?_ ?_ _); rotate_left; focus first | (simp; done) | (simp; omega)) | ((with_reducible refine Below.alloc ?_ ?_ _); rotate_left; focus (first | (simp; done) | (simp; omega) | (have := B1.size; simp at *; omega))) | with_reducible apply Below.drew))
  have K2 : Blk p2 w.heap.size #[.int .i64 z0, .slice a1 z1 n1, .slice a2 z2 n2, .slice a3 z3 n3, .slice a4 z4 n4] 73 := Blk.thru (by (repeat (first | with_reducible exact K1 | with_reducible apply Blk.set_at | ((with_reducible refine Blk.set_far ?_ ?_); rotate_left; focus (first | (simp; done) | (simp; omega))) | ((with_reducible refine Blk.new ?_); simp; done) | with_reducible refine Blk.old ?_ _)); all_goals rfl) l2
  have C2 := K2.cell
  clear C1
  go_wp2_with fail
  (with_reducible refine (heldInt64S_any _ x.numbers _ b4 _ ?_ ?_ ?_ ?_).mono ?_)
  · have hg := g4
    simp only [Verdict.mkv, hy1'.out, hy2'.out, hy3'.out] at hg
    exact hg.same RInt.fr (hm3.same (by repeat (first | with_reducible exact Below.refl _ _ | with_reducible exact B2 | with_reducible exact B1 | with_reducible exact B0 | ((with_reducible refine Below.setCell ?_ ?_ _); rotate_left; focus first | (simp; done) | (simp; omega)) | ((with_reducible refine Below.alloc ?_ ?_ _); rotate_left; focus (first | (simp; done) | (simp; omega) | (have := B2.size; simp at *; omega))) | with_reducible apply Below.drew)))
  · exact hm3.le (Below.size (B := w.heap.size) (by repeat (first | with_reducible exact Below.refl _ _ | with_reducible exact B2 | with_reducible exact B1 | with_reducible exact B0 | ((with_reducible refine Below.setCell ?_ ?_ _); rotate_left; focus first | (simp; done) | (simp; omega)) | ((with_reducible refine Below.alloc ?_ ?_ _); rotate_left; focus (first | (simp; done) | (simp; omega) | (have := B2.size; simp at *; omega))) | with_reducible apply Below.drew)))
  · omega
  · rw [hy4'.out]; omega
  rintro e p3 ⟨rfl, l3⟩
  rw [hy4'.out]
  have hz3 : ¬ (k + y1 + y2 + y3 + (y4 : Int) < 0) := by omega
  have B3 : Below w.heap.size w p3 := Below.through l3 (by repeat (first | with_reducible exact Below.refl _ _ | with_reducible exact B2 | with_reducible exact B1 | with_reducible exact B0 | ((with_reducible refine Below.setCell ?_ ?_ _); rotate_left; focus first | (simp; done) | (simp; omega)) | ((with_reducible refine Below.alloc ?_ ?_ _); rotate_left; focus (first | (simp; done) | (simp; omega) | (have := B2.size; simp at *; omega))) | with_reducible apply Below.drew))
  have K3 : Blk p3 w.heap.size #[.int .i64 z0, .slice a1 z1 n1, .slice a2 z2 n2, .slice a3 z3 n3, .slice a4 z4 n4] 73 := Blk.thru (by (repeat (first | with_reducible exact K2 | with_reducible apply Blk.set_at | ((with_reducible refine Blk.set_far ?_ ?_); rotate_left; focus (first | (simp; done) | (simp; omega))) | ((with_reducible refine Blk.new ?_); simp; done) | with_reducible refine Blk.old ?_ _)); all_goals rfl) l3
  have C3 := K3.cell
  clear C2
  go_wp2
  go_ret
  exact ⟨ret64 (by omega), (by repeat (first | with_reducible exact Below.refl _ _ | with_reducible exact B3 | with_reducible exact B2 | with_reducible exact B1 | with_reducible exact B0 | ((with_reducible refine Below.setCell ?_ ?_ _); rotate_left; focus first | (simp; done) | (simp; omega)) | ((with_reducible refine Below.alloc ?_ ?_ _); rotate_left; focus (first | (simp; done) | (simp; omega) | (have := B3.size; simp at *; omega))) | with_reducible apply Below.drew))⟩

end Go.Proofs.Ytmfichdcomaaeaa
