/-
  Contracts of the laws' own helpers: of Atom, Formula, Gadgets. Printed by gen_law.py.
-/
import Derived.Test.YtjjdbdlbjdoebaaDoorRows
import Derived.Test.YtjjdbdlbjdoebaaDoorT
import Derived.BigQuiet
import Derived.Lib.QuietBelow
import Derived.Test.YtjjdbdlbjdoebaaDoorL1
namespace Go.Proofs.YtjjdbdlbjdoebaaDoor
set_option linter.unusedVariables false
set_option linter.unusedSimpArgs false
open Go.RowKit Go.Sort
set_option maxRecDepth 100000
set_option maxHeartbeats 1000000 in
theorem toAtom_any (v : Value) (x : Atom) (bs : List Nat) (w : World) (h : Agg 2 RAtom w v x bs) (hm : InMem bs w) (hs : x.sz ≤ 1048576) :
    Calls Tryd.prog 107 #[v] w (RetAgg 2 RAtom x w) := by
  obtain ⟨v1, b1, rfl, g0, g1, hbs⟩ := RAtom.open h
  obtain ⟨a1, n1, rfl⟩ := g1.val
  clear h
  have hs' := hd hs
  clear hs
  have hm1 : InMem b1 w := fun c hc => hm c (by rw [hbs]; simp [hc])
  clear hm hbs
  go_enter Tryd.func107, Tryd.ntmps107
  go_wp2_with fail
  (with_reducible refine (toInt64S_any _ x.args b1 _ ?_ ?_ ?_).mono ?_)
  · exact g1.same RInt.fr (hm1.same (by repeat (first | with_reducible exact Below.refl _ _ | ((with_reducible refine Below.setCell ?_ ?_ _); rotate_left; focus first | (simp; done) | (simp; omega)) | ((with_reducible refine Below.alloc ?_ ?_ _); rotate_left; focus (first | (simp; done) | (simp; omega))) | with_reducible apply Below.drew)))
  · exact hm1.le (Below.size (B := w.heap.size) (by repeat (first | with_reducible exact Below.refl _ _ | ((with_reducible refine Below.setCell ?_ ?_ _); rotate_left; focus first | (simp; done) | (simp; omega)) | ((with_reducible refine Below.alloc ?_ ?_ _); rotate_left; focus (first | (simp; done) | (simp; omega))) | with_reducible apply Below.drew)))
  · have := hs'.out; unfold Atom.sz at this; omega
  rintro e p0 ⟨z1, d1, rfl, k1, o1, l1⟩
  obtain ⟨y1, m1, rfl⟩ := k1.val
  have B0 : Below w.heap.size w p0 := Below.through l1 (by repeat (first | with_reducible exact Below.refl _ _ | ((with_reducible refine Below.setCell ?_ ?_ _); rotate_left; focus first | (simp; done) | (simp; omega)) | ((with_reducible refine Below.alloc ?_ ?_ _); rotate_left; focus (first | (simp; done) | (simp; omega))) | with_reducible apply Below.drew))
  have K0_0 : Blk p0 w.heap.size #[.int .i64 x.rel, .slice a1 x.args.length n1] 153 := Blk.thru (by (repeat (first | with_reducible apply Blk.set_at | ((with_reducible refine Blk.set_far ?_ ?_); rotate_left; focus (first | (simp; done) | (simp; omega))) | ((with_reducible refine Blk.new ?_); simp; done) | with_reducible refine Blk.old ?_ _)); all_goals rfl) l1
  have K0_1 : Blk p0 (w.heap.size + 1) #[.int .i64 0, .slice none 0 0] 122 := Blk.thru (by (repeat (first | with_reducible apply Blk.set_at | ((with_reducible refine Blk.set_far ?_ ?_); rotate_left; focus (first | (simp; done) | (simp; omega))) | ((with_reducible refine Blk.new ?_); simp; done) | with_reducible refine Blk.old ?_ _)); all_goals rfl) l1
  have K0_2 : Blk p0 (w.heap.size + 1 + 1) #[.int .i64 x.rel, .slice none 0 0] 122 := Blk.thru (by (repeat (first | with_reducible apply Blk.set_at | ((with_reducible refine Blk.set_far ?_ ?_); rotate_left; focus (first | (simp; done) | (simp; omega))) | ((with_reducible refine Blk.new ?_); simp; done) | with_reducible refine Blk.old ?_ _)); all_goals rfl) l1
  have S0 := l1.size
  try simp at S0
  have C0_0 := K0_0.cell
  have F0_0 := K0_0.frozen
  have C0_1 := K0_1.cell
  have F0_1 := K0_1.frozen
  have C0_2 := K0_2.cell
  have F0_2 := K0_2.frozen
  go_wp2
  refine bodyPost_ret (v := .agg #[.int .i64 x.rel, .slice y1 x.args.length m1]) (by simp [results, Tryd.results107, go_sem, C0_1]) rfl ?_
  refine ⟨_, _, rfl, RAtom.mk' (b1 := d1) ?_ ?_, ?_, ?_⟩
  · exact g0
  · exact (k1.same RInt.fr (by repeat (first | with_reducible exact SameAt.refl _ _ | ((with_reducible refine SameAt.set ?_ ?_ _); rotate_left; focus (intro b hb; have := (o1.2 b hb).1; simp at this ⊢; omega)) | ((with_reducible refine SameAt.alloc ?_ ?_ _); rotate_left; exact (o1.inMem.le (by first | (simp; done) | (simp; omega) | (have := B0.size; simp at *; omega)))) | with_reducible apply SameAt.drew)))
  · have O0 := o1.mono (C := w.heap.size) (by first | (simp; done) | (simp; omega))
    exact O0.same (by repeat (first | with_reducible exact SameAt.refl _ _ | ((with_reducible refine SameAt.set ?_ ?_ _); rotate_left; focus (intro b hb; have := (o1.2 b hb).1; simp at this ⊢; omega)) | ((with_reducible refine SameAt.alloc ?_ ?_ _); rotate_left; exact (o1.inMem.le (by first | (simp; done) | (simp; omega) | (have := B0.size; simp at *; omega)))) | with_reducible apply SameAt.drew))
  · exact (by repeat (first | with_reducible exact Below.refl _ _ | with_reducible exact B0 | ((with_reducible refine Below.setCell ?_ ?_ _); rotate_left; focus first | (simp; done) | (simp; omega)) | ((with_reducible refine Below.alloc ?_ ?_ _); rotate_left; focus (first | (simp; done) | (simp; omega) | (have := B0.size; simp at *; omega))) | with_reducible apply Below.drew))

set_option maxHeartbeats 1000000 in
theorem toAtomS_any (v : Value) (l : List Atom) (bs : List Nat) (w : World) (h : Sl 2 RAtom w v l bs) (hm : InMem bs w) (hs : szS Atom.sz l ≤ 1048576) :
    Calls Tryd.prog 89 #[v] w (RetSl 2 RAtom l w) := by
  have hl : l.length ≤ 1048576 := Nat.le_trans (length_le_szS _) hs
  obtain ⟨a, c, rfl, hc1, hc2, hc3, hat0⟩ := h.open
  have hat := hd hat0
  have hs' := hd hs
  clear hat0 hc3 h hs
  have hmk := make_n (P := Tryd.prog) (t := 87) (e := 122) (z := .agg #[.int .i64 0, .slice none 0 0]) (size := 2) (bytes := 32) (by kernel_rfl) (by kernel_rfl) l.length (by omega) (by omega)
  go_enter Tryd.func89, Tryd.ntmps89
  go_wp2
  go_loopw [4] (fun i wr => ∃ (k : Nat) (cur : Array Value) (bss : List (List Nat)), k ≤ l.length ∧ i = .int .i64 k ∧ Made 2 RAtom 122 w l w.heap.size l.length k wr cur bss) (fun i _ => l.length - (intOf i).toNat)
  case atStart => exact ⟨0, _, [], Nat.zero_le _, rfl, Made.start 2 RAtom _ w l l.length _ (by simp [size_madeCells])⟩
  case round =>
    obtain ⟨k, cur, bss, hk, rfl, hM⟩ := hrel
    by_cases hlt : k < l.length
    · obtain ⟨b, o, bss', bi, rfl, rfl, hE, hbi, hsub, hr0⟩ := hat.out k hlt
      clear hE
      obtain ⟨x, hx0, hx1⟩ : ∃ x, l[k]? = some x ∧ x = l[k] := ⟨_, List.getElem?_eq_getElem hlt, rfl⟩
      rw [← hx1] at hr0
      have hx := hd hx0
      clear hx0 hx1
      have hr : RAtom wr (fun j => wr.cell? ⟨b, o + k * 2 + j, none⟩) x bi := RAtom.fr _ _ _ _ _ _ hr0 (fun c hc => hM.below.block c (hm c (hsub c hc))) (fun j _ => (bcell hM.below).1 b _ (hm b (by simp)))
      have hbw : InMem bi wr := (fun c hc => Nat.lt_of_lt_of_le (hm c (hsub c hc)) hM.below.size)
      clear hr0 hm hsub hbi
      have hrr := hd hr
      obtain ⟨v1, b1, c0, r0, c1, r1, hbi0⟩ := hr
      obtain ⟨a1, n1, rfl⟩ := r1.val
      simp only [Nat.add_zero] at c0 c1
      have hagg : Agg 2 RAtom wr (.agg #[.int .i64 x.rel, .slice a1 x.args.length n1]) x bi := Agg.of_cells RAtom.fr hrr.out [.int .i64 x.rel, .slice a1 x.args.length n1] rfl (fun j hj => by
        match j, hj with
        | 0, _ => exact c0.symm
        | 1, _ => exact c1.symm)
      clear hrr
      go_wp2_with fail
      (with_reducible refine (toAtom_any _ x bi _ hagg hbw (by have := le_szS (c := Atom.sz) hx.out; have := hs'.out; omega)).mono ?_)
      rintro e w1 ⟨v', bs', rfl, hv, ho, hb⟩
      obtain ⟨w1, d1, rfl, g0, g1, rfl⟩ := RAtom.open hv
      obtain ⟨a1', n1', rfl⟩ := g1.val
      obtain ⟨⟨u0, e0⟩, f0⟩ := hM.room hlt hb 0 (by omega)
      obtain ⟨⟨u1, e1⟩, f1⟩ := hM.room hlt hb 1 (by omega)
      rw [Nat.add_zero] at e0 f0
      go_wp2
      go_round
      case rel =>
        obtain ⟨cur', hM'⟩ := hM.step RAtom.fr hlt hb (vs := [.int .i64 x.rel, .slice a1' x.args.length n1']) rfl hx.out ⟨_, _, rfl, g0, rfl, g1, rfl⟩ ho
        exact ⟨k + 1, cur', _, hlt, by go_num, hM'⟩
      case measure => simp [intOf]; omega
    · obtain rfl : k = l.length := by omega
      go_wp2
      go_ret
      exact ⟨_, _, rfl, (hM.done RAtom.fr (by unfold maxLen; omega)).1, (hM.done RAtom.fr (by unfold maxLen; omega)).2, hM.below⟩

set_option maxHeartbeats 1000000 in
theorem toFormula_any (v : Value) (x : Formula) (bs : List Nat) (w : World) (h : Agg 3 RFormula w v x bs) (hm : InMem bs w) (hs : x.sz ≤ 1048576) :
    Calls Tryd.prog 72 #[v] w (RetAgg 3 RFormula x w) := by
  obtain ⟨v2, b2, rfl, g0, g1, g2, hbs⟩ := RFormula.open h
  obtain ⟨a2, n2, rfl⟩ := g2.val
  clear h
  have hs' := hd hs
  clear hs
  have hm2 : InMem b2 w := fun c hc => hm c (by rw [hbs]; simp [hc])
  clear hm hbs
  go_enter Tryd.func72, Tryd.ntmps72
  go_wp2_with fail
  (with_reducible refine (toAtomS_any _ x.atoms b2 _ ?_ ?_ ?_).mono ?_)
  · exact g2.same RAtom.fr (hm2.same (by repeat (first | with_reducible exact Below.refl _ _ | ((with_reducible refine Below.setCell ?_ ?_ _); rotate_left; focus first | (simp; done) | (simp; omega)) | ((with_reducible refine Below.alloc ?_ ?_ _); rotate_left; focus (first | (simp; done) | (simp; omega))) | with_reducible apply Below.drew)))
  · exact hm2.le (Below.size (B := w.heap.size) (by repeat (first | with_reducible exact Below.refl _ _ | ((with_reducible refine Below.setCell ?_ ?_ _); rotate_left; focus first | (simp; done) | (simp; omega)) | ((with_reducible refine Below.alloc ?_ ?_ _); rotate_left; focus (first | (simp; done) | (simp; omega))) | with_reducible apply Below.drew)))
  · have := hs'.out; unfold Formula.sz at this; omega
  rintro e p0 ⟨z2, d2, rfl, k2, o2, l2⟩
  obtain ⟨y2, m2, rfl⟩ := k2.val
  have B0 : Below w.heap.size w p0 := Below.through l2 (by repeat (first | with_reducible exact Below.refl _ _ | ((with_reducible refine Below.setCell ?_ ?_ _); rotate_left; focus first | (simp; done) | (simp; omega)) | ((with_reducible refine Below.alloc ?_ ?_ _); rotate_left; focus (first | (simp; done) | (simp; omega))) | with_reducible apply Below.drew))
  have K0_0 : Blk p0 w.heap.size #[.int .i64 x.free, .int .i64 x.vars, .slice a2 x.atoms.length n2] 115 := Blk.thru (by (repeat (first | with_reducible apply Blk.set_at | ((with_reducible refine Blk.set_far ?_ ?_); rotate_left; focus (first | (simp; done) | (simp; omega))) | ((with_reducible refine Blk.new ?_); simp; done) | with_reducible refine Blk.old ?_ _)); all_goals rfl) l2
  have K0_1 : Blk p0 (w.heap.size + 1) #[.int .i64 0, .int .i64 0, .slice none 0 0] 89 := Blk.thru (by (repeat (first | with_reducible apply Blk.set_at | ((with_reducible refine Blk.set_far ?_ ?_); rotate_left; focus (first | (simp; done) | (simp; omega))) | ((with_reducible refine Blk.new ?_); simp; done) | with_reducible refine Blk.old ?_ _)); all_goals rfl) l2
  have K0_2 : Blk p0 (w.heap.size + 1 + 1) #[.int .i64 x.free, .int .i64 x.vars, .slice none 0 0] 89 := Blk.thru (by (repeat (first | with_reducible apply Blk.set_at | ((with_reducible refine Blk.set_far ?_ ?_); rotate_left; focus (first | (simp; done) | (simp; omega))) | ((with_reducible refine Blk.new ?_); simp; done) | with_reducible refine Blk.old ?_ _)); all_goals rfl) l2
  have S0 := l2.size
  try simp at S0
  have C0_0 := K0_0.cell
  have F0_0 := K0_0.frozen
  have C0_1 := K0_1.cell
  have F0_1 := K0_1.frozen
  have C0_2 := K0_2.cell
  have F0_2 := K0_2.frozen
  go_wp2
  refine bodyPost_ret (v := .agg #[.int .i64 x.free, .int .i64 x.vars, .slice y2 x.atoms.length m2]) (by simp [results, Tryd.results72, go_sem, C0_1]) rfl ?_
  refine ⟨_, _, rfl, RFormula.mk' (b2 := d2) ?_ ?_ ?_, ?_, ?_⟩
  · exact g0
  · exact g1
  · exact (k2.same RAtom.fr (by repeat (first | with_reducible exact SameAt.refl _ _ | ((with_reducible refine SameAt.set ?_ ?_ _); rotate_left; focus (intro b hb; have := (o2.2 b hb).1; simp at this ⊢; omega)) | ((with_reducible refine SameAt.alloc ?_ ?_ _); rotate_left; exact (o2.inMem.le (by first | (simp; done) | (simp; omega) | (have := B0.size; simp at *; omega)))) | with_reducible apply SameAt.drew)))
  · have O0 := o2.mono (C := w.heap.size) (by first | (simp; done) | (simp; omega))
    exact O0.same (by repeat (first | with_reducible exact SameAt.refl _ _ | ((with_reducible refine SameAt.set ?_ ?_ _); rotate_left; focus (intro b hb; have := (o2.2 b hb).1; simp at this ⊢; omega)) | ((with_reducible refine SameAt.alloc ?_ ?_ _); rotate_left; exact (o2.inMem.le (by first | (simp; done) | (simp; omega) | (have := B0.size; simp at *; omega)))) | with_reducible apply SameAt.drew))
  · exact (by repeat (first | with_reducible exact Below.refl _ _ | with_reducible exact B0 | ((with_reducible refine Below.setCell ?_ ?_ _); rotate_left; focus first | (simp; done) | (simp; omega)) | ((with_reducible refine Below.alloc ?_ ?_ _); rotate_left; focus (first | (simp; done) | (simp; omega) | (have := B0.size; simp at *; omega))) | with_reducible apply Below.drew))

set_option maxHeartbeats 1000000 in
theorem toFormulaS_any (v : Value) (l : List Formula) (bs : List Nat) (w : World) (h : Sl 3 RFormula w v l bs) (hm : InMem bs w) (hs : szS Formula.sz l ≤ 1048576) :
    Calls Tryd.prog 49 #[v] w (RetSl 3 RFormula l w) := by
  have hl : l.length ≤ 1048576 := Nat.le_trans (length_le_szS _) hs
  obtain ⟨a, c, rfl, hc1, hc2, hc3, hat0⟩ := h.open
  have hat := hd hat0
  have hs' := hd hs
  clear hat0 hc3 h hs
  have hmk := make_n (P := Tryd.prog) (t := 46) (e := 89) (z := .agg #[.int .i64 0, .int .i64 0, .slice none 0 0]) (size := 3) (bytes := 40) (by kernel_rfl) (by kernel_rfl) l.length (by omega) (by omega)
  go_enter Tryd.func49, Tryd.ntmps49
  go_wp2
  go_loopw [4] (fun i wr => ∃ (k : Nat) (cur : Array Value) (bss : List (List Nat)), k ≤ l.length ∧ i = .int .i64 k ∧ Made 3 RFormula 89 w l w.heap.size l.length k wr cur bss) (fun i _ => l.length - (intOf i).toNat)
  case atStart => exact ⟨0, _, [], Nat.zero_le _, rfl, Made.start 3 RFormula _ w l l.length _ (by simp [size_madeCells])⟩
  case round =>
    obtain ⟨k, cur, bss, hk, rfl, hM⟩ := hrel
    by_cases hlt : k < l.length
    · obtain ⟨b, o, bss', bi, rfl, rfl, hE, hbi, hsub, hr0⟩ := hat.out k hlt
      clear hE
      obtain ⟨x, hx0, hx1⟩ : ∃ x, l[k]? = some x ∧ x = l[k] := ⟨_, List.getElem?_eq_getElem hlt, rfl⟩
      rw [← hx1] at hr0
      have hx := hd hx0
      clear hx0 hx1
      have hr : RFormula wr (fun j => wr.cell? ⟨b, o + k * 3 + j, none⟩) x bi := RFormula.fr _ _ _ _ _ _ hr0 (fun c hc => hM.below.block c (hm c (hsub c hc))) (fun j _ => (bcell hM.below).1 b _ (hm b (by simp)))
      have hbw : InMem bi wr := (fun c hc => Nat.lt_of_lt_of_le (hm c (hsub c hc)) hM.below.size)
      clear hr0 hm hsub hbi
      have hrr := hd hr
      obtain ⟨v2, b2, c0, r0, c1, r1, c2, r2, hbi0⟩ := hr
      obtain ⟨a2, n2, rfl⟩ := r2.val
      simp only [Nat.add_zero] at c0 c1 c2
      have hagg : Agg 3 RFormula wr (.agg #[.int .i64 x.free, .int .i64 x.vars, .slice a2 x.atoms.length n2]) x bi := Agg.of_cells RFormula.fr hrr.out [.int .i64 x.free, .int .i64 x.vars, .slice a2 x.atoms.length n2] rfl (fun j hj => by
        match j, hj with
        | 0, _ => exact c0.symm
        | 1, _ => exact c1.symm
        | 2, _ => exact c2.symm)
      clear hrr
      go_wp2_with fail
      (with_reducible refine (toFormula_any _ x bi _ hagg hbw (by have := le_szS (c := Formula.sz) hx.out; have := hs'.out; omega)).mono ?_)
      rintro e w1 ⟨v', bs', rfl, hv, ho, hb⟩
      obtain ⟨w2, d2, rfl, g0, g1, g2, rfl⟩ := RFormula.open hv
      obtain ⟨a2', n2', rfl⟩ := g2.val
      obtain ⟨⟨u0, e0⟩, f0⟩ := hM.room hlt hb 0 (by omega)
      obtain ⟨⟨u1, e1⟩, f1⟩ := hM.room hlt hb 1 (by omega)
      obtain ⟨⟨u2, e2⟩, f2⟩ := hM.room hlt hb 2 (by omega)
      rw [Nat.add_zero] at e0 f0
      go_wp2
      go_round
      case rel =>
        obtain ⟨cur', hM'⟩ := hM.step RFormula.fr hlt hb (vs := [.int .i64 x.free, .int .i64 x.vars, .slice a2' x.atoms.length n2']) rfl hx.out ⟨_, _, rfl, g0, rfl, g1, rfl, g2, rfl⟩ ho
        exact ⟨k + 1, cur', _, hlt, by go_num, hM'⟩
      case measure => simp [intOf]; omega
    · obtain rfl : k = l.length := by omega
      go_wp2
      go_ret
      exact ⟨_, _, rfl, (hM.done RFormula.fr (by unfold maxLen; omega)).1, (hM.done RFormula.fr (by unfold maxLen; omega)).2, hM.below⟩

set_option maxHeartbeats 1000000 in
theorem toGadgets_any (v : Value) (x : Gadgets) (bs : List Nat) (w : World) (h : Agg 1 RGadgets w v x bs) (hm : InMem bs w) (hs : x.sz ≤ 1048576) :
    Calls Tryd.prog 22 #[v] w (RetAgg 1 RGadgets x w) := by
  obtain ⟨v0, b0, rfl, g0, hbs⟩ := RGadgets.open h
  obtain ⟨a0, n0, rfl⟩ := g0.val
  clear h
  have hs' := hd hs
  clear hs
  have hm0 : InMem b0 w := fun c hc => hm c (by rw [hbs]; simp [hc])
  clear hm hbs
  go_enter Tryd.func22, Tryd.ntmps22
  go_wp2_with fail
  (with_reducible refine (toFormulaS_any _ x.formulas b0 _ ?_ ?_ ?_).mono ?_)
  · exact g0.same RFormula.fr (hm0.same (by repeat (first | with_reducible exact Below.refl _ _ | ((with_reducible refine Below.setCell ?_ ?_ _); rotate_left; focus first | (simp; done) | (simp; omega)) | ((with_reducible refine Below.alloc ?_ ?_ _); rotate_left; focus (first | (simp; done) | (simp; omega))) | with_reducible apply Below.drew)))
  · exact hm0.le (Below.size (B := w.heap.size) (by repeat (first | with_reducible exact Below.refl _ _ | ((with_reducible refine Below.setCell ?_ ?_ _); rotate_left; focus first | (simp; done) | (simp; omega)) | ((with_reducible refine Below.alloc ?_ ?_ _); rotate_left; focus (first | (simp; done) | (simp; omega))) | with_reducible apply Below.drew)))
  · have := hs'.out; unfold Gadgets.sz at this; omega
  rintro e p0 ⟨z0, d0, rfl, k0, o0, l0⟩
  obtain ⟨y0, m0, rfl⟩ := k0.val
  have B0 : Below w.heap.size w p0 := Below.through l0 (by repeat (first | with_reducible exact Below.refl _ _ | ((with_reducible refine Below.setCell ?_ ?_ _); rotate_left; focus first | (simp; done) | (simp; omega)) | ((with_reducible refine Below.alloc ?_ ?_ _); rotate_left; focus (first | (simp; done) | (simp; omega))) | with_reducible apply Below.drew))
  have K0_0 : Blk p0 w.heap.size #[.slice a0 x.formulas.length n0] 43 := Blk.thru (by (repeat (first | with_reducible apply Blk.set_at | ((with_reducible refine Blk.set_far ?_ ?_); rotate_left; focus (first | (simp; done) | (simp; omega))) | ((with_reducible refine Blk.new ?_); simp; done) | with_reducible refine Blk.old ?_ _)); all_goals rfl) l0
  have K0_1 : Blk p0 (w.heap.size + 1) #[.slice none 0 0] 48 := Blk.thru (by (repeat (first | with_reducible apply Blk.set_at | ((with_reducible refine Blk.set_far ?_ ?_); rotate_left; focus (first | (simp; done) | (simp; omega))) | ((with_reducible refine Blk.new ?_); simp; done) | with_reducible refine Blk.old ?_ _)); all_goals rfl) l0
  have K0_2 : Blk p0 (w.heap.size + 1 + 1) #[.slice none 0 0] 48 := Blk.thru (by (repeat (first | with_reducible apply Blk.set_at | ((with_reducible refine Blk.set_far ?_ ?_); rotate_left; focus (first | (simp; done) | (simp; omega))) | ((with_reducible refine Blk.new ?_); simp; done) | with_reducible refine Blk.old ?_ _)); all_goals rfl) l0
  have S0 := l0.size
  try simp at S0
  have C0_0 := K0_0.cell
  have F0_0 := K0_0.frozen
  have C0_1 := K0_1.cell
  have F0_1 := K0_1.frozen
  have C0_2 := K0_2.cell
  have F0_2 := K0_2.frozen
  go_wp2
  refine bodyPost_ret (v := .agg #[.slice y0 x.formulas.length m0]) (by simp [results, Tryd.results22, go_sem, C0_1]) rfl ?_
  refine ⟨_, _, rfl, RGadgets.mk' (b0 := d0) ?_, ?_, ?_⟩
  · exact (k0.same RFormula.fr (by repeat (first | with_reducible exact SameAt.refl _ _ | ((with_reducible refine SameAt.set ?_ ?_ _); rotate_left; focus (intro b hb; have := (o0.2 b hb).1; simp at this ⊢; omega)) | ((with_reducible refine SameAt.alloc ?_ ?_ _); rotate_left; exact (o0.inMem.le (by first | (simp; done) | (simp; omega) | (have := B0.size; simp at *; omega)))) | with_reducible apply SameAt.drew)))
  · have O0 := o0.mono (C := w.heap.size) (by first | (simp; done) | (simp; omega))
    exact O0.same (by repeat (first | with_reducible exact SameAt.refl _ _ | ((with_reducible refine SameAt.set ?_ ?_ _); rotate_left; focus (intro b hb; have := (o0.2 b hb).1; simp at this ⊢; omega)) | ((with_reducible refine SameAt.alloc ?_ ?_ _); rotate_left; exact (o0.inMem.le (by first | (simp; done) | (simp; omega) | (have := B0.size; simp at *; omega)))) | with_reducible apply SameAt.drew))
  · exact (by repeat (first | with_reducible exact Below.refl _ _ | with_reducible exact B0 | ((with_reducible refine Below.setCell ?_ ?_ _); rotate_left; focus first | (simp; done) | (simp; omega)) | ((with_reducible refine Below.alloc ?_ ?_ _); rotate_left; focus (first | (simp; done) | (simp; omega) | (have := B0.size; simp at *; omega))) | with_reducible apply Below.drew))

set_option maxHeartbeats 1000000 in
theorem szAtom_any (v : Value) (x : Atom) (left : Int) (bs : List Nat) (w : World) (h : Agg 2 RAtom w v x bs) (hm : InMem bs w) (h0 : 0 ≤ left) (h1 : left ≤ 1048576) :
    Calls Tryd.prog 106 #[v, .int .i64 left] w (Says (.int .i64 (szR left x.sz)) w) := by
  obtain ⟨v1, b1, rfl, g0, g1, hbs⟩ := RAtom.open h
  obtain ⟨a1, n1, rfl⟩ := g1.val
  clear h
  have hm1 : InMem b1 w := fun c hc => hm c (by rw [hbs]; simp [hc])
  clear hm hbs
  obtain ⟨s0, hs0⟩ : ∃ n : Nat, n = x.args.length := ⟨_, rfl⟩
  have hsz := hd (show x.sz = s0 by unfold Atom.sz; rw [hs0])
  have hs0' := hd hs0.symm
  clear hs0
  by_cases f0 : (s0 : Int) ≤ left
  rotate_left
  · rw [show szR left x.sz = -1 from if_neg (by rw [hsz.out]; omega)]
    go_enter Tryd.func106, Tryd.ntmps106
    go_wp2_with fail
    (with_reducible refine (szInt64S_any _ x.args _ b1 _ ?_ ?_ ?_ ?_).mono ?_)
    · exact g1.same RInt.fr (hm1.same (by repeat (first | with_reducible exact Below.refl _ _ | ((with_reducible refine Below.setCell ?_ ?_ _); rotate_left; focus first | (simp; done) | (simp; omega)) | ((with_reducible refine Below.alloc ?_ ?_ _); rotate_left; focus (first | (simp; done) | (simp; omega))) | with_reducible apply Below.drew)))
    · exact hm1.le (Below.size (B := w.heap.size) (by repeat (first | with_reducible exact Below.refl _ _ | ((with_reducible refine Below.setCell ?_ ?_ _); rotate_left; focus first | (simp; done) | (simp; omega)) | ((with_reducible refine Below.alloc ?_ ?_ _); rotate_left; focus (first | (simp; done) | (simp; omega))) | with_reducible apply Below.drew)))
    · omega
    · omega
    rintro e p0 ⟨rfl, l0⟩
    rw [show szR (left) (x.args.length) = -1 from if_neg (by rw [hs0'.out]; omega)]
    have B0 : Below w.heap.size w p0 := Below.through l0 (by repeat (first | with_reducible exact Below.refl _ _ | ((with_reducible refine Below.setCell ?_ ?_ _); rotate_left; focus first | (simp; done) | (simp; omega)) | ((with_reducible refine Below.alloc ?_ ?_ _); rotate_left; focus (first | (simp; done) | (simp; omega))) | with_reducible apply Below.drew))
    have K0 : Blk p0 w.heap.size #[.int .i64 x.rel, .slice a1 x.args.length n1] 153 := Blk.thru (by (repeat (first | with_reducible apply Blk.set_at | ((with_reducible refine Blk.set_far ?_ ?_); rotate_left; focus (first | (simp; done) | (simp; omega))) | ((with_reducible refine Blk.new ?_); simp; done) | with_reducible refine Blk.old ?_ _)); all_goals rfl) l0
    have C0 := K0.cell
    go_wp2
    go_ret
    exact ⟨rfl, (by repeat (first | with_reducible exact Below.refl _ _ | with_reducible exact B0 | ((with_reducible refine Below.setCell ?_ ?_ _); rotate_left; focus first | (simp; done) | (simp; omega)) | ((with_reducible refine Below.alloc ?_ ?_ _); rotate_left; focus (first | (simp; done) | (simp; omega) | (have := B0.size; simp at *; omega))) | with_reducible apply Below.drew))⟩
  go_enter Tryd.func106, Tryd.ntmps106
  go_wp2_with fail
  (with_reducible refine (szInt64S_any _ x.args _ b1 _ ?_ ?_ ?_ ?_).mono ?_)
  · exact g1.same RInt.fr (hm1.same (by repeat (first | with_reducible exact Below.refl _ _ | ((with_reducible refine Below.setCell ?_ ?_ _); rotate_left; focus first | (simp; done) | (simp; omega)) | ((with_reducible refine Below.alloc ?_ ?_ _); rotate_left; focus (first | (simp; done) | (simp; omega))) | with_reducible apply Below.drew)))
  · exact hm1.le (Below.size (B := w.heap.size) (by repeat (first | with_reducible exact Below.refl _ _ | ((with_reducible refine Below.setCell ?_ ?_ _); rotate_left; focus first | (simp; done) | (simp; omega)) | ((with_reducible refine Below.alloc ?_ ?_ _); rotate_left; focus (first | (simp; done) | (simp; omega))) | with_reducible apply Below.drew)))
  · omega
  · omega
  rintro e p0 ⟨rfl, l0⟩
  rw [show szR (left) (x.args.length) = left - s0 from (by rw [hs0'.out]; exact if_pos (by omega))]
  have z0 : ¬ (left - (s0 : Int) < 0) := by omega
  have B0 : Below w.heap.size w p0 := Below.through l0 (by repeat (first | with_reducible exact Below.refl _ _ | ((with_reducible refine Below.setCell ?_ ?_ _); rotate_left; focus first | (simp; done) | (simp; omega)) | ((with_reducible refine Below.alloc ?_ ?_ _); rotate_left; focus (first | (simp; done) | (simp; omega))) | with_reducible apply Below.drew))
  have K0 : Blk p0 w.heap.size #[.int .i64 x.rel, .slice a1 x.args.length n1] 153 := Blk.thru (by (repeat (first | with_reducible apply Blk.set_at | ((with_reducible refine Blk.set_far ?_ ?_); rotate_left; focus (first | (simp; done) | (simp; omega))) | ((with_reducible refine Blk.new ?_); simp; done) | with_reducible refine Blk.old ?_ _)); all_goals rfl) l0
  have C0 := K0.cell
  go_wp2
  go_ret
  exact ⟨ret64 (by rw [show szR left x.sz = left - x.sz from if_pos (by rw [hsz.out]; omega), hsz.out]; try omega), (by repeat (first | with_reducible exact Below.refl _ _ | with_reducible exact B0 | ((with_reducible refine Below.setCell ?_ ?_ _); rotate_left; focus first | (simp; done) | (simp; omega)) | ((with_reducible refine Below.alloc ?_ ?_ _); rotate_left; focus (first | (simp; done) | (simp; omega) | (have := B0.size; simp at *; omega))) | with_reducible apply Below.drew))⟩

set_option maxHeartbeats 1000000 in
theorem szAtomS_any (v : Value) (l : List Atom) (left : Int) (bs : List Nat) (w : World) (h : Sl 2 RAtom w v l bs) (hm : InMem bs w) (h0 : 0 ≤ left) (h1 : left ≤ 1048576) :
    Calls Tryd.prog 85 #[v, .int .i64 left] w (Says (.int .i64 (szR left (szS Atom.sz l))) w) := by
  obtain ⟨a, c, rfl, hc1, hc2, hc3, hat0⟩ := h.open
  have hat := hd hat0
  clear hat0 hc3 h
  by_cases hle : (l.length : Int) ≤ left
  rotate_left
  · rw [show szR left (szS Atom.sz l) = -1 from if_neg (by have := length_le_szS (c := Atom.sz) l; omega)]
    have hle2 : left - (l.length : Int) < 0 := by omega
    go_enter Tryd.func85, Tryd.ntmps85
    go_wp2
    go_ret
    exact ⟨rfl, Below.refl _ _⟩
  have hle2 : ¬ (left - (l.length : Int) < 0) := by omega
  go_enter Tryd.func85, Tryd.ntmps85
  go_wp2
  go_loopw [1, 5] (fun r i wr => ∃ k : Nat, k ≤ l.length ∧ i = .int .i64 k ∧ r = .int .i64 (left - l.length - (cntS Atom.sz (l.take k) : Nat)) ∧ (cntS Atom.sz (l.take k) : Int) ≤ left - l.length ∧ Below w.heap.size w wr) (fun _ i _ => l.length - (intOf i).toNat)
  case atStart => exact ⟨0, Nat.zero_le _, rfl, by simp [cntS], by simp [cntS]; omega, Below.refl _ _⟩
  case round =>
    obtain ⟨k, hk, rfl, rfl, hcl, hB⟩ := hrel
    by_cases hlt : k < l.length
    · obtain ⟨b, o, bss', bi, rfl, rfl, hE, hbi, hsub, hr0⟩ := hat.out k hlt
      clear hE
      obtain ⟨x, hx0, hx1⟩ : ∃ x, l[k]? = some x ∧ x = l[k] := ⟨_, List.getElem?_eq_getElem hlt, rfl⟩
      rw [← hx1] at hr0
      have hx := hd hx0
      have hsucc := hd (cntS_take_succ (c := Atom.sz) hx0)
      have hadd := cntS_take_add (c := Atom.sz) hx0
      have hadd' := hd hadd
      clear hx0 hx1 hadd
      have hr : RAtom wr (fun j => wr.cell? ⟨b, o + k * 2 + j, none⟩) x bi := RAtom.fr _ _ _ _ _ _ hr0 (fun c hc => hB.block c (hm c (hsub c hc))) (fun j _ => (bcell hB).1 b _ (hm b (by simp)))
      have hbw : InMem bi wr := (fun c hc => Nat.lt_of_lt_of_le (hm c (hsub c hc)) hB.size)
      clear hr0 hm hsub hbi
      have hrr := hd hr
      obtain ⟨v1, b1, c0, r0, c1, r1, hbi0⟩ := hr
      obtain ⟨a1, n1, rfl⟩ := r1.val
      simp only [Nat.add_zero] at c0 c1
      generalize hcc : cntS Atom.sz (l.take k) = cc at *
      clear hcc
      have hagg : Agg 2 RAtom wr (.agg #[.int .i64 x.rel, .slice a1 x.args.length n1]) x bi := Agg.of_cells RAtom.fr hrr.out [.int .i64 x.rel, .slice a1 x.args.length n1] rfl (fun j hj => by
        match j, hj with
        | 0, _ => exact c0.symm
        | 1, _ => exact c1.symm)
      by_cases hfit : (x.sz : Int) ≤ left - l.length - cc
      · have hz : ¬ (left - l.length - cc - (x.sz : Int) < 0) := by omega
        go_wp2_with fail
        (with_reducible refine (szAtom_any _ x _ bi _ hagg hbw (by omega) (by omega)).mono ?_)
        rintro e w1 ⟨rfl, hb⟩
        rw [show szR (left - l.length - cc) x.sz = left - l.length - cc - x.sz from if_pos hfit]
        have hb' := Below.through hb hB
        go_wp2
        go_roundw
        case rel => exact ⟨k + 1, hlt, by go_num, by rw [hsucc.out]; apply congrArg; omega, by rw [hsucc.out]; omega, hb'⟩
        case measure => simp [intOf]; omega
      · have hz : szR (left - l.length - cc) x.sz = -1 := if_neg hfit
        have hz' := hd hz
        clear hz
        have hneg : szR left (szS Atom.sz l) = -1 := if_neg (by have := hadd'.out; rw [szS_eq]; omega)
        have hneg' := hd hneg
        clear hneg
        go_wp2_with fail
        (with_reducible refine (szAtom_any _ x _ bi _ hagg hbw (by omega) (by omega)).mono ?_)
        rintro e w1 ⟨rfl, hb⟩
        rw [hz'.out]
        have hb' := Below.through hb hB
        go_wp2
        go_ret
        exact ⟨by rw [hneg'.out]; rfl, hb'⟩
    · obtain rfl : k = l.length := by omega
      rw [List.take_length] at hcl ⊢
      have hfin : szR left (szS Atom.sz l) = left - l.length - (cntS Atom.sz l : Nat) := by unfold szR; rw [szS_eq, if_pos (by omega)]; omega
      have hfin' := hd hfin
      clear hfin
      go_wp2
      go_ret
      exact ⟨by rw [hfin'.out]; rfl, hB⟩

set_option maxHeartbeats 1000000 in
theorem szFormula_any (v : Value) (x : Formula) (left : Int) (bs : List Nat) (w : World) (h : Agg 3 RFormula w v x bs) (hm : InMem bs w) (h0 : 0 ≤ left) (h1 : left ≤ 1048576) :
    Calls Tryd.prog 69 #[v, .int .i64 left] w (Says (.int .i64 (szR left x.sz)) w) := by
  obtain ⟨v2, b2, rfl, g0, g1, g2, hbs⟩ := RFormula.open h
  obtain ⟨a2, n2, rfl⟩ := g2.val
  clear h
  have hm2 : InMem b2 w := fun c hc => hm c (by rw [hbs]; simp [hc])
  clear hm hbs
  obtain ⟨s0, hs0⟩ : ∃ n : Nat, n = szS Atom.sz x.atoms := ⟨_, rfl⟩
  have hsz := hd (show x.sz = s0 by unfold Formula.sz; rw [hs0])
  have hs0' := hd hs0.symm
  clear hs0
  by_cases f0 : (s0 : Int) ≤ left
  rotate_left
  · rw [show szR left x.sz = -1 from if_neg (by rw [hsz.out]; omega)]
    go_enter Tryd.func69, Tryd.ntmps69
    go_wp2_with fail
    (with_reducible refine (szAtomS_any _ x.atoms _ b2 _ ?_ ?_ ?_ ?_).mono ?_)
    · exact g2.same RAtom.fr (hm2.same (by repeat (first | with_reducible exact Below.refl _ _ | ((with_reducible refine Below.setCell ?_ ?_ _); rotate_left; focus first | (simp; done) | (simp; omega)) | ((with_reducible refine Below.alloc ?_ ?_ _); rotate_left; focus (first | (simp; done) | (simp; omega))) | with_reducible apply Below.drew)))
    · exact hm2.le (Below.size (B := w.heap.size) (by repeat (first | with_reducible exact Below.refl _ _ | ((with_reducible refine Below.setCell ?_ ?_ _); rotate_left; focus first | (simp; done) | (simp; omega)) | ((with_reducible refine Below.alloc ?_ ?_ _); rotate_left; focus (first | (simp; done) | (simp; omega))) | with_reducible apply Below.drew)))
    · omega
    · omega
    rintro e p0 ⟨rfl, l0⟩
    rw [show szR (left) (szS Atom.sz x.atoms) = -1 from if_neg (by rw [hs0'.out]; omega)]
    have B0 : Below w.heap.size w p0 := Below.through l0 (by repeat (first | with_reducible exact Below.refl _ _ | ((with_reducible refine Below.setCell ?_ ?_ _); rotate_left; focus first | (simp; done) | (simp; omega)) | ((with_reducible refine Below.alloc ?_ ?_ _); rotate_left; focus (first | (simp; done) | (simp; omega))) | with_reducible apply Below.drew))
    have K0 : Blk p0 w.heap.size #[.int .i64 x.free, .int .i64 x.vars, .slice a2 x.atoms.length n2] 115 := Blk.thru (by (repeat (first | with_reducible apply Blk.set_at | ((with_reducible refine Blk.set_far ?_ ?_); rotate_left; focus (first | (simp; done) | (simp; omega))) | ((with_reducible refine Blk.new ?_); simp; done) | with_reducible refine Blk.old ?_ _)); all_goals rfl) l0
    have C0 := K0.cell
    go_wp2
    go_ret
    exact ⟨rfl, (by repeat (first | with_reducible exact Below.refl _ _ | with_reducible exact B0 | ((with_reducible refine Below.setCell ?_ ?_ _); rotate_left; focus first | (simp; done) | (simp; omega)) | ((with_reducible refine Below.alloc ?_ ?_ _); rotate_left; focus (first | (simp; done) | (simp; omega) | (have := B0.size; simp at *; omega))) | with_reducible apply Below.drew))⟩
  go_enter Tryd.func69, Tryd.ntmps69
  go_wp2_with fail
  (with_reducible refine (szAtomS_any _ x.atoms _ b2 _ ?_ ?_ ?_ ?_).mono ?_)
  · exact g2.same RAtom.fr (hm2.same (by repeat (first | with_reducible exact Below.refl _ _ | ((with_reducible refine Below.setCell ?_ ?_ _); rotate_left; focus first | (simp; done) | (simp; omega)) | ((with_reducible refine Below.alloc ?_ ?_ _); rotate_left; focus (first | (simp; done) | (simp; omega))) | with_reducible apply Below.drew)))
  · exact hm2.le (Below.size (B := w.heap.size) (by repeat (first | with_reducible exact Below.refl _ _ | ((with_reducible refine Below.setCell ?_ ?_ _); rotate_left; focus first | (simp; done) | (simp; omega)) | ((with_reducible refine Below.alloc ?_ ?_ _); rotate_left; focus (first | (simp; done) | (simp; omega))) | with_reducible apply Below.drew)))
  · omega
  · omega
  rintro e p0 ⟨rfl, l0⟩
  rw [show szR (left) (szS Atom.sz x.atoms) = left - s0 from (by rw [hs0'.out]; exact if_pos (by omega))]
  have z0 : ¬ (left - (s0 : Int) < 0) := by omega
  have B0 : Below w.heap.size w p0 := Below.through l0 (by repeat (first | with_reducible exact Below.refl _ _ | ((with_reducible refine Below.setCell ?_ ?_ _); rotate_left; focus first | (simp; done) | (simp; omega)) | ((with_reducible refine Below.alloc ?_ ?_ _); rotate_left; focus (first | (simp; done) | (simp; omega))) | with_reducible apply Below.drew))
  have K0 : Blk p0 w.heap.size #[.int .i64 x.free, .int .i64 x.vars, .slice a2 x.atoms.length n2] 115 := Blk.thru (by (repeat (first | with_reducible apply Blk.set_at | ((with_reducible refine Blk.set_far ?_ ?_); rotate_left; focus (first | (simp; done) | (simp; omega))) | ((with_reducible refine Blk.new ?_); simp; done) | with_reducible refine Blk.old ?_ _)); all_goals rfl) l0
  have C0 := K0.cell
  go_wp2
  go_ret
  exact ⟨ret64 (by rw [show szR left x.sz = left - x.sz from if_pos (by rw [hsz.out]; omega), hsz.out]; try omega), (by repeat (first | with_reducible exact Below.refl _ _ | with_reducible exact B0 | ((with_reducible refine Below.setCell ?_ ?_ _); rotate_left; focus first | (simp; done) | (simp; omega)) | ((with_reducible refine Below.alloc ?_ ?_ _); rotate_left; focus (first | (simp; done) | (simp; omega) | (have := B0.size; simp at *; omega))) | with_reducible apply Below.drew))⟩

set_option maxHeartbeats 1000000 in
theorem szFormulaS_any (v : Value) (l : List Formula) (left : Int) (bs : List Nat) (w : World) (h : Sl 3 RFormula w v l bs) (hm : InMem bs w) (h0 : 0 ≤ left) (h1 : left ≤ 1048576) :
    Calls Tryd.prog 46 #[v, .int .i64 left] w (Says (.int .i64 (szR left (szS Formula.sz l))) w) := by
  obtain ⟨a, c, rfl, hc1, hc2, hc3, hat0⟩ := h.open
  have hat := hd hat0
  clear hat0 hc3 h
  by_cases hle : (l.length : Int) ≤ left
  rotate_left
  · rw [show szR left (szS Formula.sz l) = -1 from if_neg (by have := length_le_szS (c := Formula.sz) l; omega)]
    have hle2 : left - (l.length : Int) < 0 := by omega
    go_enter Tryd.func46, Tryd.ntmps46
    go_wp2
    go_ret
    exact ⟨rfl, Below.refl _ _⟩
  have hle2 : ¬ (left - (l.length : Int) < 0) := by omega
  go_enter Tryd.func46, Tryd.ntmps46
  go_wp2
  go_loopw [1, 5] (fun r i wr => ∃ k : Nat, k ≤ l.length ∧ i = .int .i64 k ∧ r = .int .i64 (left - l.length - (cntS Formula.sz (l.take k) : Nat)) ∧ (cntS Formula.sz (l.take k) : Int) ≤ left - l.length ∧ Below w.heap.size w wr) (fun _ i _ => l.length - (intOf i).toNat)
  case atStart => exact ⟨0, Nat.zero_le _, rfl, by simp [cntS], by simp [cntS]; omega, Below.refl _ _⟩
  case round =>
    obtain ⟨k, hk, rfl, rfl, hcl, hB⟩ := hrel
    by_cases hlt : k < l.length
    · obtain ⟨b, o, bss', bi, rfl, rfl, hE, hbi, hsub, hr0⟩ := hat.out k hlt
      clear hE
      obtain ⟨x, hx0, hx1⟩ : ∃ x, l[k]? = some x ∧ x = l[k] := ⟨_, List.getElem?_eq_getElem hlt, rfl⟩
      rw [← hx1] at hr0
      have hx := hd hx0
      have hsucc := hd (cntS_take_succ (c := Formula.sz) hx0)
      have hadd := cntS_take_add (c := Formula.sz) hx0
      have hadd' := hd hadd
      clear hx0 hx1 hadd
      have hr : RFormula wr (fun j => wr.cell? ⟨b, o + k * 3 + j, none⟩) x bi := RFormula.fr _ _ _ _ _ _ hr0 (fun c hc => hB.block c (hm c (hsub c hc))) (fun j _ => (bcell hB).1 b _ (hm b (by simp)))
      have hbw : InMem bi wr := (fun c hc => Nat.lt_of_lt_of_le (hm c (hsub c hc)) hB.size)
      clear hr0 hm hsub hbi
      have hrr := hd hr
      obtain ⟨v2, b2, c0, r0, c1, r1, c2, r2, hbi0⟩ := hr
      obtain ⟨a2, n2, rfl⟩ := r2.val
      simp only [Nat.add_zero] at c0 c1 c2
      generalize hcc : cntS Formula.sz (l.take k) = cc at *
      clear hcc
      have hagg : Agg 3 RFormula wr (.agg #[.int .i64 x.free, .int .i64 x.vars, .slice a2 x.atoms.length n2]) x bi := Agg.of_cells RFormula.fr hrr.out [.int .i64 x.free, .int .i64 x.vars, .slice a2 x.atoms.length n2] rfl (fun j hj => by
        match j, hj with
        | 0, _ => exact c0.symm
        | 1, _ => exact c1.symm
        | 2, _ => exact c2.symm)
      by_cases hfit : (x.sz : Int) ≤ left - l.length - cc
      · have hz : ¬ (left - l.length - cc - (x.sz : Int) < 0) := by omega
        go_wp2_with fail
        (with_reducible refine (szFormula_any _ x _ bi _ hagg hbw (by omega) (by omega)).mono ?_)
        rintro e w1 ⟨rfl, hb⟩
        rw [show szR (left - l.length - cc) x.sz = left - l.length - cc - x.sz from if_pos hfit]
        have hb' := Below.through hb hB
        go_wp2
        go_roundw
        case rel => exact ⟨k + 1, hlt, by go_num, by rw [hsucc.out]; apply congrArg; omega, by rw [hsucc.out]; omega, hb'⟩
        case measure => simp [intOf]; omega
      · have hz : szR (left - l.length - cc) x.sz = -1 := if_neg hfit
        have hz' := hd hz
        clear hz
        have hneg : szR left (szS Formula.sz l) = -1 := if_neg (by have := hadd'.out; rw [szS_eq]; omega)
        have hneg' := hd hneg
        clear hneg
        go_wp2_with fail
        (with_reducible refine (szFormula_any _ x _ bi _ hagg hbw (by omega) (by omega)).mono ?_)
        rintro e w1 ⟨rfl, hb⟩
        rw [hz'.out]
        have hb' := Below.through hb hB
        go_wp2
        go_ret
        exact ⟨by rw [hneg'.out]; rfl, hb'⟩
    · obtain rfl : k = l.length := by omega
      rw [List.take_length] at hcl ⊢
      have hfin : szR left (szS Formula.sz l) = left - l.length - (cntS Formula.sz l : Nat) := by unfold szR; rw [szS_eq, if_pos (by omega)]; omega
      have hfin' := hd hfin
      clear hfin
      go_wp2
      go_ret
      exact ⟨by rw [hfin'.out]; rfl, hB⟩

set_option maxHeartbeats 1000000 in
theorem szGadgets_any (v : Value) (x : Gadgets) (left : Int) (bs : List Nat) (w : World) (h : Agg 1 RGadgets w v x bs) (hm : InMem bs w) (h0 : 0 ≤ left) (h1 : left ≤ 1048576) :
    Calls Tryd.prog 20 #[v, .int .i64 left] w (Says (.int .i64 (szR left x.sz)) w) := by
  obtain ⟨v0, b0, rfl, g0, hbs⟩ := RGadgets.open h
  obtain ⟨a0, n0, rfl⟩ := g0.val
  clear h
  have hm0 : InMem b0 w := fun c hc => hm c (by rw [hbs]; simp [hc])
  clear hm hbs
  obtain ⟨s0, hs0⟩ : ∃ n : Nat, n = szS Formula.sz x.formulas := ⟨_, rfl⟩
  have hsz := hd (show x.sz = s0 by unfold Gadgets.sz; rw [hs0])
  have hs0' := hd hs0.symm
  clear hs0
  by_cases f0 : (s0 : Int) ≤ left
  rotate_left
  · rw [show szR left x.sz = -1 from if_neg (by rw [hsz.out]; omega)]
    go_enter Tryd.func20, Tryd.ntmps20
    go_wp2_with fail
    (with_reducible refine (szFormulaS_any _ x.formulas _ b0 _ ?_ ?_ ?_ ?_).mono ?_)
    · exact g0.same RFormula.fr (hm0.same (by repeat (first | with_reducible exact Below.refl _ _ | ((with_reducible refine Below.setCell ?_ ?_ _); rotate_left; focus first | (simp; done) | (simp; omega)) | ((with_reducible refine Below.alloc ?_ ?_ _); rotate_left; focus (first | (simp; done) | (simp; omega))) | with_reducible apply Below.drew)))
    · exact hm0.le (Below.size (B := w.heap.size) (by repeat (first | with_reducible exact Below.refl _ _ | ((with_reducible refine Below.setCell ?_ ?_ _); rotate_left; focus first | (simp; done) | (simp; omega)) | ((with_reducible refine Below.alloc ?_ ?_ _); rotate_left; focus (first | (simp; done) | (simp; omega))) | with_reducible apply Below.drew)))
    · omega
    · omega
    rintro e p0 ⟨rfl, l0⟩
    rw [show szR (left) (szS Formula.sz x.formulas) = -1 from if_neg (by rw [hs0'.out]; omega)]
    have B0 : Below w.heap.size w p0 := Below.through l0 (by repeat (first | with_reducible exact Below.refl _ _ | ((with_reducible refine Below.setCell ?_ ?_ _); rotate_left; focus first | (simp; done) | (simp; omega)) | ((with_reducible refine Below.alloc ?_ ?_ _); rotate_left; focus (first | (simp; done) | (simp; omega))) | with_reducible apply Below.drew))
    have K0 : Blk p0 w.heap.size #[.slice a0 x.formulas.length n0] 43 := Blk.thru (by (repeat (first | with_reducible apply Blk.set_at | ((with_reducible refine Blk.set_far ?_ ?_); rotate_left; focus (first | (simp; done) | (simp; omega))) | ((with_reducible refine Blk.new ?_); simp; done) | with_reducible refine Blk.old ?_ _)); all_goals rfl) l0
    have C0 := K0.cell
    go_wp2
    go_ret
    exact ⟨rfl, (by repeat (first | with_reducible exact Below.refl _ _ | with_reducible exact B0 | ((with_reducible refine Below.setCell ?_ ?_ _); rotate_left; focus first | (simp; done) | (simp; omega)) | ((with_reducible refine Below.alloc ?_ ?_ _); rotate_left; focus (first | (simp; done) | (simp; omega) | (have := B0.size; simp at *; omega))) | with_reducible apply Below.drew))⟩
  go_enter Tryd.func20, Tryd.ntmps20
  go_wp2_with fail
  (with_reducible refine (szFormulaS_any _ x.formulas _ b0 _ ?_ ?_ ?_ ?_).mono ?_)
  · exact g0.same RFormula.fr (hm0.same (by repeat (first | with_reducible exact Below.refl _ _ | ((with_reducible refine Below.setCell ?_ ?_ _); rotate_left; focus first | (simp; done) | (simp; omega)) | ((with_reducible refine Below.alloc ?_ ?_ _); rotate_left; focus (first | (simp; done) | (simp; omega))) | with_reducible apply Below.drew)))
  · exact hm0.le (Below.size (B := w.heap.size) (by repeat (first | with_reducible exact Below.refl _ _ | ((with_reducible refine Below.setCell ?_ ?_ _); rotate_left; focus first | (simp; done) | (simp; omega)) | ((with_reducible refine Below.alloc ?_ ?_ _); rotate_left; focus (first | (simp; done) | (simp; omega))) | with_reducible apply Below.drew)))
  · omega
  · omega
  rintro e p0 ⟨rfl, l0⟩
  rw [show szR (left) (szS Formula.sz x.formulas) = left - s0 from (by rw [hs0'.out]; exact if_pos (by omega))]
  have z0 : ¬ (left - (s0 : Int) < 0) := by omega
  have B0 : Below w.heap.size w p0 := Below.through l0 (by repeat (first | with_reducible exact Below.refl _ _ | ((with_reducible refine Below.setCell ?_ ?_ _); rotate_left; focus first | (simp; done) | (simp; omega)) | ((with_reducible refine Below.alloc ?_ ?_ _); rotate_left; focus (first | (simp; done) | (simp; omega))) | with_reducible apply Below.drew))
  have K0 : Blk p0 w.heap.size #[.slice a0 x.formulas.length n0] 43 := Blk.thru (by (repeat (first | with_reducible apply Blk.set_at | ((with_reducible refine Blk.set_far ?_ ?_); rotate_left; focus (first | (simp; done) | (simp; omega))) | ((with_reducible refine Blk.new ?_); simp; done) | with_reducible refine Blk.old ?_ _)); all_goals rfl) l0
  have C0 := K0.cell
  go_wp2
  go_ret
  exact ⟨ret64 (by rw [show szR left x.sz = left - x.sz from if_pos (by rw [hsz.out]; omega), hsz.out]; try omega), (by repeat (first | with_reducible exact Below.refl _ _ | with_reducible exact B0 | ((with_reducible refine Below.setCell ?_ ?_ _); rotate_left; focus first | (simp; done) | (simp; omega)) | ((with_reducible refine Below.alloc ?_ ?_ _); rotate_left; focus (first | (simp; done) | (simp; omega) | (have := B0.size; simp at *; omega))) | with_reducible apply Below.drew))⟩

set_option maxHeartbeats 1000000 in
theorem eqAtom_any (v1 v2 : Value) (x : Atom) (bs1 bs2 : List Nat) (w : World) (h1 : Agg 2 RAtom w v1 x bs1) (h2 : Agg 2 RAtom w v2 x bs2) (hm1 : InMem bs1 w) (hm2 : InMem bs2 w) :
    Calls Tryd.prog 109 #[v1, v2] w (Says (.bool true) w) := by
  obtain ⟨v1, b1, rfl, g0, g1, hbs1⟩ := RAtom.open h1
  obtain ⟨a1, n1, rfl⟩ := g1.val
  obtain ⟨u1, d1, rfl, k0, k1, hbs2⟩ := RAtom.open h2
  obtain ⟨e1, m1, rfl⟩ := k1.val
  clear h1 h2
  have hmb1 : InMem b1 w := fun c hc => hm1 c (by rw [hbs1]; simp [hc])
  have hmd1 : InMem d1 w := fun c hc => hm2 c (by rw [hbs2]; simp [hc])
  clear hm1 hm2 hbs1 hbs2
  go_enter Tryd.func109, Tryd.ntmps109
  go_wp2_with fail
  (with_reducible refine (eqInt64S_any _ _ x.args b1 d1 _ ?_ ?_ ?_ ?_).mono ?_)
  · exact g1.same RInt.fr (hmb1.same (by repeat (first | with_reducible exact Below.refl _ _ | ((with_reducible refine Below.setCell ?_ ?_ _); rotate_left; focus first | (simp; done) | (simp; omega)) | ((with_reducible refine Below.alloc ?_ ?_ _); rotate_left; focus (first | (simp; done) | (simp; omega))) | with_reducible apply Below.drew)))
  · exact k1.same RInt.fr (hmd1.same (by repeat (first | with_reducible exact Below.refl _ _ | ((with_reducible refine Below.setCell ?_ ?_ _); rotate_left; focus first | (simp; done) | (simp; omega)) | ((with_reducible refine Below.alloc ?_ ?_ _); rotate_left; focus (first | (simp; done) | (simp; omega))) | with_reducible apply Below.drew)))
  · exact hmb1.le (Below.size (B := w.heap.size) (by repeat (first | with_reducible exact Below.refl _ _ | ((with_reducible refine Below.setCell ?_ ?_ _); rotate_left; focus first | (simp; done) | (simp; omega)) | ((with_reducible refine Below.alloc ?_ ?_ _); rotate_left; focus (first | (simp; done) | (simp; omega))) | with_reducible apply Below.drew)))
  · exact hmd1.le (Below.size (B := w.heap.size) (by repeat (first | with_reducible exact Below.refl _ _ | ((with_reducible refine Below.setCell ?_ ?_ _); rotate_left; focus first | (simp; done) | (simp; omega)) | ((with_reducible refine Below.alloc ?_ ?_ _); rotate_left; focus (first | (simp; done) | (simp; omega))) | with_reducible apply Below.drew)))
  rintro e p0 ⟨rfl, l0⟩
  have B0 : Below w.heap.size w p0 := Below.through l0 (by repeat (first | with_reducible exact Below.refl _ _ | ((with_reducible refine Below.setCell ?_ ?_ _); rotate_left; focus first | (simp; done) | (simp; omega)) | ((with_reducible refine Below.alloc ?_ ?_ _); rotate_left; focus (first | (simp; done) | (simp; omega))) | with_reducible apply Below.drew))
  have K0_0 : Blk p0 w.heap.size #[.int .i64 x.rel, .slice a1 x.args.length n1] 122 := Blk.thru (by (repeat (first | with_reducible apply Blk.set_at | ((with_reducible refine Blk.set_far ?_ ?_); rotate_left; focus (first | (simp; done) | (simp; omega))) | ((with_reducible refine Blk.new ?_); simp; done) | with_reducible refine Blk.old ?_ _)); all_goals rfl) l0
  have K0_1 : Blk p0 (w.heap.size + 1) #[.int .i64 x.rel, .slice e1 x.args.length m1] 122 := Blk.thru (by (repeat (first | with_reducible apply Blk.set_at | ((with_reducible refine Blk.set_far ?_ ?_); rotate_left; focus (first | (simp; done) | (simp; omega))) | ((with_reducible refine Blk.new ?_); simp; done) | with_reducible refine Blk.old ?_ _)); all_goals rfl) l0
  have S0 := l0.size
  try simp at S0
  have C0_0 := K0_0.cell
  have F0_0 := K0_0.frozen
  have C0_1 := K0_1.cell
  have F0_1 := K0_1.frozen
  go_wp2
  go_ret
  exact ⟨rfl, (by repeat (first | with_reducible exact Below.refl _ _ | with_reducible exact B0 | ((with_reducible refine Below.setCell ?_ ?_ _); rotate_left; focus first | (simp; done) | (simp; omega)) | ((with_reducible refine Below.alloc ?_ ?_ _); rotate_left; focus (first | (simp; done) | (simp; omega) | (have := B0.size; simp at *; omega))) | with_reducible apply Below.drew))⟩

set_option maxHeartbeats 1000000 in
theorem eqAtomS_any (v1 v2 : Value) (l : List Atom) (bs1 bs2 : List Nat) (w : World) (h1 : Sl 2 RAtom w v1 l bs1) (h2 : Sl 2 RAtom w v2 l bs2) (hm1 : InMem bs1 w) (hm2 : InMem bs2 w) :
    Calls Tryd.prog 95 #[v1, v2] w (Says (.bool true) w) := by
  obtain ⟨a, c, rfl, hc1, hc2, _, hat0⟩ := h1.open
  have hat := hd hat0
  clear hat0 h1
  obtain ⟨a', c', rfl, hc1', hc2', _, hat0⟩ := h2.open
  have hat' := hd hat0
  clear hat0 h2
  go_enter Tryd.func95, Tryd.ntmps95
  go_wp2
  go_loopw [5] (fun i wr => ∃ k : Nat, k ≤ l.length ∧ i = .int .i64 k ∧ Below w.heap.size w wr) (fun i _ => l.length - (intOf i).toNat)
  case atStart => exact ⟨0, Nat.zero_le _, rfl, Below.refl _ _⟩
  case round =>
    obtain ⟨k, hk, rfl, hB⟩ := hrel
    by_cases hlt : k < l.length
    · obtain ⟨b, o, bss', bi, rfl, rfl, hE, hbi, hsub, hr0⟩ := hat.out k hlt
      clear hE
      obtain ⟨b', o', bss'', bi', rfl, rfl, hE, hbi', hsub', hr0'⟩ := hat'.out k hlt
      clear hE
      obtain ⟨x, hx1⟩ : ∃ x, x = l[k] := ⟨_, rfl⟩
      rw [← hx1] at hr0 hr0'
      clear hx1
      have hr : RAtom wr (fun j => wr.cell? ⟨b, o + k * 2 + j, none⟩) x bi := RAtom.fr _ _ _ _ _ _ hr0 (fun c hc => hB.block c (hm1 c (hsub c hc))) (fun j _ => (bcell hB).1 b _ (hm1 b (by simp)))
      have hbw : InMem bi wr := (fun c hc => Nat.lt_of_lt_of_le (hm1 c (hsub c hc)) hB.size)
      have hr' : RAtom wr (fun j => wr.cell? ⟨b', o' + k * 2 + j, none⟩) x bi' := RAtom.fr _ _ _ _ _ _ hr0' (fun c hc => hB.block c (hm2 c (hsub' c hc))) (fun j _ => (bcell hB).1 b' _ (hm2 b' (by simp)))
      have hbw' : InMem bi' wr := (fun c hc => Nat.lt_of_lt_of_le (hm2 c (hsub' c hc)) hB.size)
      clear hr0 hr0' hm1 hm2 hsub hsub' hbi hbi'
      have hrr := hd hr
      have hrr' := hd hr'
      obtain ⟨v1, b1, c0, r0, c1, r1, hbi0⟩ := hr
      obtain ⟨a1, n1, rfl⟩ := r1.val
      simp only [Nat.add_zero] at c0 c1
      obtain ⟨u1, e1, d0, t0, d1, t1, hbi1⟩ := hr'
      obtain ⟨x1, m1, rfl⟩ := t1.val
      simp only [Nat.add_zero] at d0 d1
      have hagg : Agg 2 RAtom wr (.agg #[.int .i64 x.rel, .slice a1 x.args.length n1]) x bi := Agg.of_cells RAtom.fr hrr.out [.int .i64 x.rel, .slice a1 x.args.length n1] rfl (fun j hj => by
        match j, hj with
        | 0, _ => exact c0.symm
        | 1, _ => exact c1.symm)
      have hagg' : Agg 2 RAtom wr (.agg #[.int .i64 x.rel, .slice x1 x.args.length m1]) x bi' := Agg.of_cells RAtom.fr hrr'.out [.int .i64 x.rel, .slice x1 x.args.length m1] rfl (fun j hj => by
        match j, hj with
        | 0, _ => exact d0.symm
        | 1, _ => exact d1.symm)
      have cE := hd (show ∀ d os, Calls Tryd.prog 109 #[.agg #[.int .i64 x.rel, .slice a1 x.args.length n1], .agg #[.int .i64 x.rel, .slice x1 x.args.length m1]] (grow (redrawn wr d) os) fun e w'' => e = .returned (.bool true) ∧ ∃ p : Regrown, w'' = grow (redrawn wr p.d) p.os from fun d os =>
        Calls.regrown_of (eqAtom_any _ _ x bi bi' _ (hagg.same RAtom.fr (hbw.same (below_regrown wr d os))) (hagg'.same RAtom.fr (hbw'.same (below_regrown wr d os))) (hbw.le (below_regrown wr d os).size) (hbw'.le (below_regrown wr d os).size)))
      have kc0 := cell_regrown c0
      have kd0 := cell_regrown d0
      have kc1 := cell_regrown c1
      have kd1 := cell_regrown d1
      have hlt' : (k : Int) < (l.length : Int) := by omega
      clear hrr hrr'
      go_wp2
      refine wp_region_quiet_below (by kernel_rfl) (by kernel_rfl) ?_
      repeat (quiet_step (exact cE.out _ _))
      refine wpQuiet_nil ?_
      intro _ hw'
      obtain ⟨⟨dq, osq⟩, hw''⟩ := hw'
      subst hw''
      have hq := below_regrown wr dq osq
      clear kc0 kd0 kc1 kd1
      go_wp2
      go_roundw
      case rel => exact ⟨k + 1, hlt, by go_num, Below.through hq hB⟩
      case measure => simp [intOf]; omega
    · obtain rfl : k = l.length := by omega
      go_wp2
      go_ret
      exact ⟨rfl, hB⟩

set_option maxHeartbeats 1000000 in
theorem eqFormula_any (v1 v2 : Value) (x : Formula) (bs1 bs2 : List Nat) (w : World) (h1 : Agg 3 RFormula w v1 x bs1) (h2 : Agg 3 RFormula w v2 x bs2) (hm1 : InMem bs1 w) (hm2 : InMem bs2 w) :
    Calls Tryd.prog 75 #[v1, v2] w (Says (.bool true) w) := by
  obtain ⟨v2, b2, rfl, g0, g1, g2, hbs1⟩ := RFormula.open h1
  obtain ⟨a2, n2, rfl⟩ := g2.val
  obtain ⟨u2, d2, rfl, k0, k1, k2, hbs2⟩ := RFormula.open h2
  obtain ⟨e2, m2, rfl⟩ := k2.val
  clear h1 h2
  have hmb2 : InMem b2 w := fun c hc => hm1 c (by rw [hbs1]; simp [hc])
  have hmd2 : InMem d2 w := fun c hc => hm2 c (by rw [hbs2]; simp [hc])
  clear hm1 hm2 hbs1 hbs2
  go_enter Tryd.func75, Tryd.ntmps75
  go_wp2_with fail
  (with_reducible refine (eqAtomS_any _ _ x.atoms b2 d2 _ ?_ ?_ ?_ ?_).mono ?_)
  · exact g2.same RAtom.fr (hmb2.same (by repeat (first | with_reducible exact Below.refl _ _ | ((with_reducible refine Below.setCell ?_ ?_ _); rotate_left; focus first | (simp; done) | (simp; omega)) | ((with_reducible refine Below.alloc ?_ ?_ _); rotate_left; focus (first | (simp; done) | (simp; omega))) | with_reducible apply Below.drew)))
  · exact k2.same RAtom.fr (hmd2.same (by repeat (first | with_reducible exact Below.refl _ _ | ((with_reducible refine Below.setCell ?_ ?_ _); rotate_left; focus first | (simp; done) | (simp; omega)) | ((with_reducible refine Below.alloc ?_ ?_ _); rotate_left; focus (first | (simp; done) | (simp; omega))) | with_reducible apply Below.drew)))
  · exact hmb2.le (Below.size (B := w.heap.size) (by repeat (first | with_reducible exact Below.refl _ _ | ((with_reducible refine Below.setCell ?_ ?_ _); rotate_left; focus first | (simp; done) | (simp; omega)) | ((with_reducible refine Below.alloc ?_ ?_ _); rotate_left; focus (first | (simp; done) | (simp; omega))) | with_reducible apply Below.drew)))
  · exact hmd2.le (Below.size (B := w.heap.size) (by repeat (first | with_reducible exact Below.refl _ _ | ((with_reducible refine Below.setCell ?_ ?_ _); rotate_left; focus first | (simp; done) | (simp; omega)) | ((with_reducible refine Below.alloc ?_ ?_ _); rotate_left; focus (first | (simp; done) | (simp; omega))) | with_reducible apply Below.drew)))
  rintro e p0 ⟨rfl, l0⟩
  have B0 : Below w.heap.size w p0 := Below.through l0 (by repeat (first | with_reducible exact Below.refl _ _ | ((with_reducible refine Below.setCell ?_ ?_ _); rotate_left; focus first | (simp; done) | (simp; omega)) | ((with_reducible refine Below.alloc ?_ ?_ _); rotate_left; focus (first | (simp; done) | (simp; omega))) | with_reducible apply Below.drew))
  have K0_0 : Blk p0 w.heap.size #[.int .i64 x.free, .int .i64 x.vars, .slice a2 x.atoms.length n2] 89 := Blk.thru (by (repeat (first | with_reducible apply Blk.set_at | ((with_reducible refine Blk.set_far ?_ ?_); rotate_left; focus (first | (simp; done) | (simp; omega))) | ((with_reducible refine Blk.new ?_); simp; done) | with_reducible refine Blk.old ?_ _)); all_goals rfl) l0
  have K0_1 : Blk p0 (w.heap.size + 1) #[.int .i64 x.free, .int .i64 x.vars, .slice e2 x.atoms.length m2] 89 := Blk.thru (by (repeat (first | with_reducible apply Blk.set_at | ((with_reducible refine Blk.set_far ?_ ?_); rotate_left; focus (first | (simp; done) | (simp; omega))) | ((with_reducible refine Blk.new ?_); simp; done) | with_reducible refine Blk.old ?_ _)); all_goals rfl) l0
  have S0 := l0.size
  try simp at S0
  have C0_0 := K0_0.cell
  have F0_0 := K0_0.frozen
  have C0_1 := K0_1.cell
  have F0_1 := K0_1.frozen
  go_wp2
  go_ret
  exact ⟨rfl, (by repeat (first | with_reducible exact Below.refl _ _ | with_reducible exact B0 | ((with_reducible refine Below.setCell ?_ ?_ _); rotate_left; focus first | (simp; done) | (simp; omega)) | ((with_reducible refine Below.alloc ?_ ?_ _); rotate_left; focus (first | (simp; done) | (simp; omega) | (have := B0.size; simp at *; omega))) | with_reducible apply Below.drew))⟩

set_option maxHeartbeats 1000000 in
theorem eqFormulaS_any (v1 v2 : Value) (l : List Formula) (bs1 bs2 : List Nat) (w : World) (h1 : Sl 3 RFormula w v1 l bs1) (h2 : Sl 3 RFormula w v2 l bs2) (hm1 : InMem bs1 w) (hm2 : InMem bs2 w) :
    Calls Tryd.prog 51 #[v1, v2] w (Says (.bool true) w) := by
  obtain ⟨a, c, rfl, hc1, hc2, _, hat0⟩ := h1.open
  have hat := hd hat0
  clear hat0 h1
  obtain ⟨a', c', rfl, hc1', hc2', _, hat0⟩ := h2.open
  have hat' := hd hat0
  clear hat0 h2
  go_enter Tryd.func51, Tryd.ntmps51
  go_wp2
  go_loopw [5] (fun i wr => ∃ k : Nat, k ≤ l.length ∧ i = .int .i64 k ∧ Below w.heap.size w wr) (fun i _ => l.length - (intOf i).toNat)
  case atStart => exact ⟨0, Nat.zero_le _, rfl, Below.refl _ _⟩
  case round =>
    obtain ⟨k, hk, rfl, hB⟩ := hrel
    by_cases hlt : k < l.length
    · obtain ⟨b, o, bss', bi, rfl, rfl, hE, hbi, hsub, hr0⟩ := hat.out k hlt
      clear hE
      obtain ⟨b', o', bss'', bi', rfl, rfl, hE, hbi', hsub', hr0'⟩ := hat'.out k hlt
      clear hE
      obtain ⟨x, hx1⟩ : ∃ x, x = l[k] := ⟨_, rfl⟩
      rw [← hx1] at hr0 hr0'
      clear hx1
      have hr : RFormula wr (fun j => wr.cell? ⟨b, o + k * 3 + j, none⟩) x bi := RFormula.fr _ _ _ _ _ _ hr0 (fun c hc => hB.block c (hm1 c (hsub c hc))) (fun j _ => (bcell hB).1 b _ (hm1 b (by simp)))
      have hbw : InMem bi wr := (fun c hc => Nat.lt_of_lt_of_le (hm1 c (hsub c hc)) hB.size)
      have hr' : RFormula wr (fun j => wr.cell? ⟨b', o' + k * 3 + j, none⟩) x bi' := RFormula.fr _ _ _ _ _ _ hr0' (fun c hc => hB.block c (hm2 c (hsub' c hc))) (fun j _ => (bcell hB).1 b' _ (hm2 b' (by simp)))
      have hbw' : InMem bi' wr := (fun c hc => Nat.lt_of_lt_of_le (hm2 c (hsub' c hc)) hB.size)
      clear hr0 hr0' hm1 hm2 hsub hsub' hbi hbi'
      have hrr := hd hr
      have hrr' := hd hr'
      obtain ⟨v2, b2, c0, r0, c1, r1, c2, r2, hbi0⟩ := hr
      obtain ⟨a2, n2, rfl⟩ := r2.val
      simp only [Nat.add_zero] at c0 c1 c2
      obtain ⟨u2, e2, d0, t0, d1, t1, d2, t2, hbi1⟩ := hr'
      obtain ⟨x2, m2, rfl⟩ := t2.val
      simp only [Nat.add_zero] at d0 d1 d2
      have hagg : Agg 3 RFormula wr (.agg #[.int .i64 x.free, .int .i64 x.vars, .slice a2 x.atoms.length n2]) x bi := Agg.of_cells RFormula.fr hrr.out [.int .i64 x.free, .int .i64 x.vars, .slice a2 x.atoms.length n2] rfl (fun j hj => by
        match j, hj with
        | 0, _ => exact c0.symm
        | 1, _ => exact c1.symm
        | 2, _ => exact c2.symm)
      have hagg' : Agg 3 RFormula wr (.agg #[.int .i64 x.free, .int .i64 x.vars, .slice x2 x.atoms.length m2]) x bi' := Agg.of_cells RFormula.fr hrr'.out [.int .i64 x.free, .int .i64 x.vars, .slice x2 x.atoms.length m2] rfl (fun j hj => by
        match j, hj with
        | 0, _ => exact d0.symm
        | 1, _ => exact d1.symm
        | 2, _ => exact d2.symm)
      have cE := hd (show ∀ d os, Calls Tryd.prog 75 #[.agg #[.int .i64 x.free, .int .i64 x.vars, .slice a2 x.atoms.length n2], .agg #[.int .i64 x.free, .int .i64 x.vars, .slice x2 x.atoms.length m2]] (grow (redrawn wr d) os) fun e w'' => e = .returned (.bool true) ∧ ∃ p : Regrown, w'' = grow (redrawn wr p.d) p.os from fun d os =>
        Calls.regrown_of (eqFormula_any _ _ x bi bi' _ (hagg.same RFormula.fr (hbw.same (below_regrown wr d os))) (hagg'.same RFormula.fr (hbw'.same (below_regrown wr d os))) (hbw.le (below_regrown wr d os).size) (hbw'.le (below_regrown wr d os).size)))
      have kc0 := cell_regrown c0
      have kd0 := cell_regrown d0
      have kc1 := cell_regrown c1
      have kd1 := cell_regrown d1
      have kc2 := cell_regrown c2
      have kd2 := cell_regrown d2
      have hlt' : (k : Int) < (l.length : Int) := by omega
      clear hrr hrr'
      go_wp2
      refine wp_region_quiet_below (by kernel_rfl) (by kernel_rfl) ?_
      repeat (quiet_step (exact cE.out _ _))
      refine wpQuiet_nil ?_
      intro _ hw'
      obtain ⟨⟨dq, osq⟩, hw''⟩ := hw'
      subst hw''
      have hq := below_regrown wr dq osq
      clear kc0 kd0 kc1 kd1 kc2 kd2
      go_wp2
      go_roundw
      case rel => exact ⟨k + 1, hlt, by go_num, Below.through hq hB⟩
      case measure => simp [intOf]; omega
    · obtain rfl : k = l.length := by omega
      go_wp2
      go_ret
      exact ⟨rfl, hB⟩

set_option maxHeartbeats 1000000 in
theorem eqGadgets_any (v1 v2 : Value) (x : Gadgets) (bs1 bs2 : List Nat) (w : World) (h1 : Agg 1 RGadgets w v1 x bs1) (h2 : Agg 1 RGadgets w v2 x bs2) (hm1 : InMem bs1 w) (hm2 : InMem bs2 w) :
    Calls Tryd.prog 24 #[v1, v2] w (Says (.bool true) w) := by
  obtain ⟨v0, b0, rfl, g0, hbs1⟩ := RGadgets.open h1
  obtain ⟨a0, n0, rfl⟩ := g0.val
  obtain ⟨u0, d0, rfl, k0, hbs2⟩ := RGadgets.open h2
  obtain ⟨e0, m0, rfl⟩ := k0.val
  clear h1 h2
  have hmb0 : InMem b0 w := fun c hc => hm1 c (by rw [hbs1]; simp [hc])
  have hmd0 : InMem d0 w := fun c hc => hm2 c (by rw [hbs2]; simp [hc])
  clear hm1 hm2 hbs1 hbs2
  go_enter Tryd.func24, Tryd.ntmps24
  go_wp2_with fail
  (with_reducible refine (eqFormulaS_any _ _ x.formulas b0 d0 _ ?_ ?_ ?_ ?_).mono ?_)
  · exact g0.same RFormula.fr (hmb0.same (by repeat (first | with_reducible exact Below.refl _ _ | ((with_reducible refine Below.setCell ?_ ?_ _); rotate_left; focus first | (simp; done) | (simp; omega)) | ((with_reducible refine Below.alloc ?_ ?_ _); rotate_left; focus (first | (simp; done) | (simp; omega))) | with_reducible apply Below.drew)))
  · exact k0.same RFormula.fr (hmd0.same (by repeat (first | with_reducible exact Below.refl _ _ | ((with_reducible refine Below.setCell ?_ ?_ _); rotate_left; focus first | (simp; done) | (simp; omega)) | ((with_reducible refine Below.alloc ?_ ?_ _); rotate_left; focus (first | (simp; done) | (simp; omega))) | with_reducible apply Below.drew)))
  · exact hmb0.le (Below.size (B := w.heap.size) (by repeat (first | with_reducible exact Below.refl _ _ | ((with_reducible refine Below.setCell ?_ ?_ _); rotate_left; focus first | (simp; done) | (simp; omega)) | ((with_reducible refine Below.alloc ?_ ?_ _); rotate_left; focus (first | (simp; done) | (simp; omega))) | with_reducible apply Below.drew)))
  · exact hmd0.le (Below.size (B := w.heap.size) (by repeat (first | with_reducible exact Below.refl _ _ | ((with_reducible refine Below.setCell ?_ ?_ _); rotate_left; focus first | (simp; done) | (simp; omega)) | ((with_reducible refine Below.alloc ?_ ?_ _); rotate_left; focus (first | (simp; done) | (simp; omega))) | with_reducible apply Below.drew)))
  rintro e p0 ⟨rfl, l0⟩
  have B0 : Below w.heap.size w p0 := Below.through l0 (by repeat (first | with_reducible exact Below.refl _ _ | ((with_reducible refine Below.setCell ?_ ?_ _); rotate_left; focus first | (simp; done) | (simp; omega)) | ((with_reducible refine Below.alloc ?_ ?_ _); rotate_left; focus (first | (simp; done) | (simp; omega))) | with_reducible apply Below.drew))
  have K0_0 : Blk p0 w.heap.size #[.slice a0 x.formulas.length n0] 48 := Blk.thru (by (repeat (first | with_reducible apply Blk.set_at | ((with_reducible refine Blk.set_far ?_ ?_); rotate_left; focus (first | (simp; done) | (simp; omega))) | ((with_reducible refine Blk.new ?_); simp; done) | with_reducible refine Blk.old ?_ _)); all_goals rfl) l0
  have K0_1 : Blk p0 (w.heap.size + 1) #[.slice e0 x.formulas.length m0] 48 := Blk.thru (by (repeat (first | with_reducible apply Blk.set_at | ((with_reducible refine Blk.set_far ?_ ?_); rotate_left; focus (first | (simp; done) | (simp; omega))) | ((with_reducible refine Blk.new ?_); simp; done) | with_reducible refine Blk.old ?_ _)); all_goals rfl) l0
  have S0 := l0.size
  try simp at S0
  have C0_0 := K0_0.cell
  have F0_0 := K0_0.frozen
  have C0_1 := K0_1.cell
  have F0_1 := K0_1.frozen
  go_wp2
  go_ret
  exact ⟨rfl, (by repeat (first | with_reducible exact Below.refl _ _ | with_reducible exact B0 | ((with_reducible refine Below.setCell ?_ ?_ _); rotate_left; focus first | (simp; done) | (simp; omega)) | ((with_reducible refine Below.alloc ?_ ?_ _); rotate_left; focus (first | (simp; done) | (simp; omega) | (have := B0.size; simp at *; omega))) | with_reducible apply Below.drew))⟩

end Go.Proofs.YtjjdbdlbjdoebaaDoor
