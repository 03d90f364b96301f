/-
  Contracts of the laws' own helpers: of Atom, Formula, Gadgets. Printed by gen_law.py.
-/
import Derived.Test.YtmgdjaiaekhkgaaGreatRows
import Derived.Test.YtmgdjaiaekhkgaaGreatT
import Derived.BigQuiet
import Derived.Lib.QuietBelow
import Derived.Test.YtmgdjaiaekhkgaaGreatL1
namespace Go.Proofs.YtmgdjaiaekhkgaaGreat
open Go.Proofs.Tryz
set_option maxHeartbeats 1000000
set_option linter.unusedVariables false
set_option linter.unusedSimpArgs false
open Go.RowKit Go.Sort
set_option maxRecDepth 100000
theorem toAtom_any (v : Value) (x : Atom) (bs : List Nat) (w : World) (h : qH 2 xU w v x bs) (hm : xX bs w) (hs : x.sz ≤ 1048576) :
    Calls Tryz.prog 224 #[v] w (RetAgg 2 xU x w) := by
  obtain ⟨v1, b1, rfl, g0, g1, hbs⟩ := xU.open h
  obtain ⟨a1, n1, rfl⟩ := g1.val
  clear h
  have hs' := hd hs
  clear hs
  have hm1 : xX b1 w := fun c hc => hm c (by rw [hbs]; simp [hc])
  clear hm hbs
  go_enter func224, Tryz.ntmps224
  go_wp2_with fail
  (with_reducible refine (toInt64S_any _ x.args b1 _ ?_ ?_ ?_).mono ?_)
  · exact g1.same xK.fr (hm1.same bel1)
  · exact hm1.le (Below.size (B := w.heap.size) bel1)
  · have := hs'.out; unfold Atom.sz at this; omega
  rintro e p0 ⟨z1, d1, rfl, k1, o1, l1⟩
  obtain ⟨y1, m1, rfl⟩ := k1.val
  have B0 : Below w.heap.size w p0 := Below.through l1 bel1
  have K0_0 : vS p0 w.heap.size #[.int .i64 x.rel, .slice a1 x.args.length n1] 261 := vS.thru blk1 l1
  have K0_1 : vS p0 (w.heap.size + 1) #[.int .i64 0, .slice none 0 0] 158 := vS.thru blk1 l1
  have K0_2 : vS p0 (w.heap.size + 1 + 1) #[.int .i64 x.rel, .slice none 0 0] 158 := vS.thru blk1 l1
  have S0 := l1.size
  try simp at S0
  have C0_0 := K0_0.cell
  have F0_0 := K0_0.frozen
  have C0_1 := K0_1.cell
  have F0_1 := K0_1.frozen
  have C0_2 := K0_2.cell
  have F0_2 := K0_2.frozen
  go_wp2
  refine bodyPost_ret (v := .agg #[.int .i64 x.rel, .slice y1 x.args.length m1]) (by simp [results, Tryz.results224, go_sem, C0_1]) rfl ?_
  refine ⟨_, _, rfl, xU.mk' (b1 := d1) ?_ ?_, ?_, ?_⟩
  · exact g0
  · exact (k1.same xK.fr (by repeat (first | with_reducible exact xT.refl _ _ | ((with_reducible refine xT.set ?_ ?_ _); rotate_left; focus (intro b hb; have := (o1.2 b hb).1; simp at this ⊢; omega)) | ((with_reducible refine xT.alloc ?_ ?_ _); rotate_left; exact (o1.inMem.le (by first | (simp; done) | (simp; omega) | (have := B0.size; simp at *; omega)))) | with_reducible apply xT.drew)))
  · have O0 := o1.mono (C := w.heap.size) (by first | (simp; done) | (simp; omega))
    exact O0.same (by repeat (first | with_reducible exact xT.refl _ _ | ((with_reducible refine xT.set ?_ ?_ _); rotate_left; focus (intro b hb; have := (o1.2 b hb).1; simp at this ⊢; omega)) | ((with_reducible refine xT.alloc ?_ ?_ _); rotate_left; exact (o1.inMem.le (by first | (simp; done) | (simp; omega) | (have := B0.size; simp at *; omega)))) | with_reducible apply xT.drew))
  · exact (by repeat (first | with_reducible exact Below.refl _ _ | with_reducible exact B0 | ((with_reducible refine Below.setCell ?_ ?_ _); rotate_left; focus first | (simp; done) | (simp; omega)) | ((with_reducible refine Below.alloc ?_ ?_ _); rotate_left; focus (first | (simp; done) | (simp; omega) | (have := B0.size; simp at *; omega))) | with_reducible apply Below.drew))

theorem toAtomS_any (v : Value) (l : List Atom) (bs : List Nat) (w : World) (h : Sl 2 xU w v l bs) (hm : xX bs w) (hs : szS Atom.sz l ≤ 1048576) :
    Calls Tryz.prog 173 #[v] w (RetSl 2 xU l w) := by
  have hl : l.length ≤ 1048576 := Nat.le_trans (kL _) hs
  obtain ⟨a, c, rfl, hc1, hc2, hc3, hat0⟩ := h.open
  have hat := hd hat0
  have hs' := hd hs
  clear hat0 hc3 h hs
  have hmk := make_n (P := Tryz.prog) (t := 93) (e := 158) (z := .agg #[.int .i64 0, .slice none 0 0]) (size := 2) (bytes := 32) (by kernel_rfl) (by kernel_rfl) l.length (by omega) (by omega)
  go_enter func173, Tryz.ntmps173
  go_wp2
  go_loopw [4] (fun i wr => ∃ (k : Nat) (cur : Array Value) (bss : List (List Nat)), k ≤ l.length ∧ i = .int .i64 k ∧ Made 2 xU 158 w l w.heap.size l.length k wr cur bss) (fun i _ => l.length - (intOf i).toNat)
  case atStart => exact ⟨0, _, [], Nat.zero_le _, rfl, Made.start 2 xU _ w l l.length _ (by simp [size_madeCells])⟩
  case round =>
    obtain ⟨k, cur, bss, hk, rfl, hM⟩ := hrel
    by_cases hlt : k < l.length
    · obtain ⟨b, o, bss', bi, rfl, rfl, hE, hbi, hsub, hr0⟩ := hat.out k hlt
      clear hE
      obtain ⟨x, hx0, hx1⟩ : ∃ x, l[k]? = some x ∧ x = l[k] := ⟨_, List.getElem?_eq_getElem hlt, rfl⟩
      rw [← hx1] at hr0
      have hx := hd hx0
      clear hx0 hx1
      have hr : xU wr (fun j => wr.cell? ⟨b, o + k * 2 + j, none⟩) x bi := xU.fr _ _ _ _ _ _ hr0 (fun c hc => hM.below.block c (hm c (hsub c hc))) (fun j _ => (bcell hM.below).1 b _ (hm b (by simp)))
      have hbw : xX bi wr := (fun c hc => Nat.lt_of_lt_of_le (hm c (hsub c hc)) hM.below.size)
      clear hr0 hm hsub hbi
      have hrr := hd hr
      obtain ⟨v1, b1, c0, r0, c1, r1, hbi0⟩ := hr
      obtain ⟨a1, n1, rfl⟩ := r1.val
      simp only [Nat.add_zero] at c0 c1
      have hagg : qH 2 xU wr (.agg #[.int .i64 x.rel, .slice a1 x.args.length n1]) x bi := qH.of_cells xU.fr hrr.out [.int .i64 x.rel, .slice a1 x.args.length n1] rfl (fun j hj => by
        match j, hj with
        | 0, _ => exact c0.symm
        | 1, _ => exact c1.symm)
      clear hrr
      go_wp2_with fail
      (with_reducible refine (toAtom_any _ x bi _ hagg hbw (by have := le_szS (c := Atom.sz) hx.out; have := hs'.out; omega)).mono ?_)
      rintro e w1 ⟨v', bs', rfl, hv, ho, hb⟩
      obtain ⟨w1, d1, rfl, g0, g1, rfl⟩ := xU.open hv
      obtain ⟨a1', n1', rfl⟩ := g1.val
      obtain ⟨⟨u0, e0⟩, f0⟩ := hM.room hlt hb 0 (by omega)
      obtain ⟨⟨u1, e1⟩, f1⟩ := hM.room hlt hb 1 (by omega)
      rw [Nat.add_zero] at e0 f0
      go_wp2
      go_round
      case rel =>
        obtain ⟨cur', hM'⟩ := hM.step xU.fr hlt hb (vs := [.int .i64 x.rel, .slice a1' x.args.length n1']) rfl hx.out ⟨_, _, rfl, g0, rfl, g1, rfl⟩ ho
        exact ⟨k + 1, cur', _, hlt, by go_num, hM'⟩
      case measure => simp [intOf]; omega
    · obtain rfl : k = l.length := by omega
      go_wp2
      go_ret
      exact ⟨_, _, rfl, (hM.done xU.fr (by unfold maxLen; omega)).1, (hM.done xU.fr (by unfold maxLen; omega)).2, hM.below⟩

theorem toFormula_any (v : Value) (x : Formula) (bs : List Nat) (w : World) (h : qH 3 xL w v x bs) (hm : xX bs w) (hs : x.sz ≤ 1048576) :
    Calls Tryz.prog 99 #[v] w (RetAgg 3 xL x w) := by
  obtain ⟨v2, b2, rfl, g0, g1, g2, hbs⟩ := xL.open h
  obtain ⟨a2, n2, rfl⟩ := g2.val
  clear h
  have hs' := hd hs
  clear hs
  have hm2 : xX b2 w := fun c hc => hm c (by rw [hbs]; simp [hc])
  clear hm hbs
  go_enter func99, Tryz.ntmps99
  go_wp2_with fail
  (with_reducible refine (toAtomS_any _ x.atoms b2 _ ?_ ?_ ?_).mono ?_)
  · exact g2.same xU.fr (hm2.same bel1)
  · exact hm2.le (Below.size (B := w.heap.size) bel1)
  · have := hs'.out; unfold Formula.sz at this; omega
  rintro e p0 ⟨z2, d2, rfl, k2, o2, l2⟩
  obtain ⟨y2, m2, rfl⟩ := k2.val
  have B0 : Below w.heap.size w p0 := Below.through l2 bel1
  have K0_0 : vS p0 w.heap.size #[.int .i64 x.free, .int .i64 x.vars, .slice a2 x.atoms.length n2] 141 := vS.thru blk1 l2
  have K0_1 : vS p0 (w.heap.size + 1) #[.int .i64 0, .int .i64 0, .slice none 0 0] 95 := vS.thru blk1 l2
  have K0_2 : vS p0 (w.heap.size + 1 + 1) #[.int .i64 x.free, .int .i64 x.vars, .slice none 0 0] 95 := vS.thru blk1 l2
  have S0 := l2.size
  try simp at S0
  have C0_0 := K0_0.cell
  have F0_0 := K0_0.frozen
  have C0_1 := K0_1.cell
  have F0_1 := K0_1.frozen
  have C0_2 := K0_2.cell
  have F0_2 := K0_2.frozen
  go_wp2
  refine bodyPost_ret (v := .agg #[.int .i64 x.free, .int .i64 x.vars, .slice y2 x.atoms.length m2]) (by simp [results, Tryz.results99, go_sem, C0_1]) rfl ?_
  refine ⟨_, _, rfl, xL.mk' (b2 := d2) ?_ ?_ ?_, ?_, ?_⟩
  · exact g0
  · exact g1
  · exact (k2.same xU.fr (by repeat (first | with_reducible exact xT.refl _ _ | ((with_reducible refine xT.set ?_ ?_ _); rotate_left; focus (intro b hb; have := (o2.2 b hb).1; simp at this ⊢; omega)) | ((with_reducible refine xT.alloc ?_ ?_ _); rotate_left; exact (o2.inMem.le (by first | (simp; done) | (simp; omega) | (have := B0.size; simp at *; omega)))) | with_reducible apply xT.drew)))
  · have O0 := o2.mono (C := w.heap.size) (by first | (simp; done) | (simp; omega))
    exact O0.same (by repeat (first | with_reducible exact xT.refl _ _ | ((with_reducible refine xT.set ?_ ?_ _); rotate_left; focus (intro b hb; have := (o2.2 b hb).1; simp at this ⊢; omega)) | ((with_reducible refine xT.alloc ?_ ?_ _); rotate_left; exact (o2.inMem.le (by first | (simp; done) | (simp; omega) | (have := B0.size; simp at *; omega)))) | with_reducible apply xT.drew))
  · exact (by repeat (first | with_reducible exact Below.refl _ _ | with_reducible exact B0 | ((with_reducible refine Below.setCell ?_ ?_ _); rotate_left; focus first | (simp; done) | (simp; omega)) | ((with_reducible refine Below.alloc ?_ ?_ _); rotate_left; focus (first | (simp; done) | (simp; omega) | (have := B0.size; simp at *; omega))) | with_reducible apply Below.drew))

theorem toFormulaS_any (v : Value) (l : List Formula) (bs : List Nat) (w : World) (h : Sl 3 xL w v l bs) (hm : xX bs w) (hs : szS Formula.sz l ≤ 1048576) :
    Calls Tryz.prog 46 #[v] w (RetSl 3 xL l w) := by
  have hl : l.length ≤ 1048576 := Nat.le_trans (kL _) hs
  obtain ⟨a, c, rfl, hc1, hc2, hc3, hat0⟩ := h.open
  have hat := hd hat0
  have hs' := hd hs
  clear hat0 hc3 h hs
  have hmk := make_n (P := Tryz.prog) (t := 35) (e := 95) (z := .agg #[.int .i64 0, .int .i64 0, .slice none 0 0]) (size := 3) (bytes := 40) (by kernel_rfl) (by kernel_rfl) l.length (by omega) (by omega)
  go_enter func46, Tryz.ntmps46
  go_wp2
  go_loopw [4] (fun i wr => ∃ (k : Nat) (cur : Array Value) (bss : List (List Nat)), k ≤ l.length ∧ i = .int .i64 k ∧ Made 3 xL 95 w l w.heap.size l.length k wr cur bss) (fun i _ => l.length - (intOf i).toNat)
  case atStart => exact ⟨0, _, [], Nat.zero_le _, rfl, Made.start 3 xL _ w l l.length _ (by simp [size_madeCells])⟩
  case round =>
    obtain ⟨k, cur, bss, hk, rfl, hM⟩ := hrel
    by_cases hlt : k < l.length
    · obtain ⟨b, o, bss', bi, rfl, rfl, hE, hbi, hsub, hr0⟩ := hat.out k hlt
      clear hE
      obtain ⟨x, hx0, hx1⟩ : ∃ x, l[k]? = some x ∧ x = l[k] := ⟨_, List.getElem?_eq_getElem hlt, rfl⟩
      rw [← hx1] at hr0
      have hx := hd hx0
      clear hx0 hx1
      have hr : xL wr (fun j => wr.cell? ⟨b, o + k * 3 + j, none⟩) x bi := xL.fr _ _ _ _ _ _ hr0 (fun c hc => hM.below.block c (hm c (hsub c hc))) (fun j _ => (bcell hM.below).1 b _ (hm b (by simp)))
      have hbw : xX bi wr := (fun c hc => Nat.lt_of_lt_of_le (hm c (hsub c hc)) hM.below.size)
      clear hr0 hm hsub hbi
      have hrr := hd hr
      obtain ⟨v2, b2, c0, r0, c1, r1, c2, r2, hbi0⟩ := hr
      obtain ⟨a2, n2, rfl⟩ := r2.val
      simp only [Nat.add_zero] at c0 c1 c2
      have hagg : qH 3 xL wr (.agg #[.int .i64 x.free, .int .i64 x.vars, .slice a2 x.atoms.length n2]) x bi := qH.of_cells xL.fr hrr.out [.int .i64 x.free, .int .i64 x.vars, .slice a2 x.atoms.length n2] rfl (fun j hj => by
        match j, hj with
        | 0, _ => exact c0.symm
        | 1, _ => exact c1.symm
        | 2, _ => exact c2.symm)
      clear hrr
      go_wp2_with fail
      (with_reducible refine (toFormula_any _ x bi _ hagg hbw (by have := le_szS (c := Formula.sz) hx.out; have := hs'.out; omega)).mono ?_)
      rintro e w1 ⟨v', bs', rfl, hv, ho, hb⟩
      obtain ⟨w2, d2, rfl, g0, g1, g2, rfl⟩ := xL.open hv
      obtain ⟨a2', n2', rfl⟩ := g2.val
      obtain ⟨⟨u0, e0⟩, f0⟩ := hM.room hlt hb 0 (by omega)
      obtain ⟨⟨u1, e1⟩, f1⟩ := hM.room hlt hb 1 (by omega)
      obtain ⟨⟨u2, e2⟩, f2⟩ := hM.room hlt hb 2 (by omega)
      rw [Nat.add_zero] at e0 f0
      go_wp2
      go_round
      case rel =>
        obtain ⟨cur', hM'⟩ := hM.step xL.fr hlt hb (vs := [.int .i64 x.free, .int .i64 x.vars, .slice a2' x.atoms.length n2']) rfl hx.out ⟨_, _, rfl, g0, rfl, g1, rfl, g2, rfl⟩ ho
        exact ⟨k + 1, cur', _, hlt, by go_num, hM'⟩
      case measure => simp [intOf]; omega
    · obtain rfl : k = l.length := by omega
      go_wp2
      go_ret
      exact ⟨_, _, rfl, (hM.done xL.fr (by unfold maxLen; omega)).1, (hM.done xL.fr (by unfold maxLen; omega)).2, hM.below⟩

theorem toGadgets_any (v : Value) (x : Gadgets) (bs : List Nat) (w : World) (h : qH 1 xV w v x bs) (hm : xX bs w) (hs : x.sz ≤ 1048576) :
    Calls Tryz.prog 14 #[v] w (RetAgg 1 xV x w) := by
  obtain ⟨v0, b0, rfl, g0, hbs⟩ := xV.open h
  obtain ⟨a0, n0, rfl⟩ := g0.val
  clear h
  have hs' := hd hs
  clear hs
  have hm0 : xX b0 w := fun c hc => hm c (by rw [hbs]; simp [hc])
  clear hm hbs
  go_enter func14, Tryz.ntmps14
  go_wp2_with fail
  (with_reducible refine (toFormulaS_any _ x.formulas b0 _ ?_ ?_ ?_).mono ?_)
  · exact g0.same xL.fr (hm0.same bel1)
  · exact hm0.le (Below.size (B := w.heap.size) bel1)
  · have := hs'.out; unfold Gadgets.sz at this; omega
  rintro e p0 ⟨z0, d0, rfl, k0, o0, l0⟩
  obtain ⟨y0, m0, rfl⟩ := k0.val
  have B0 : Below w.heap.size w p0 := Below.through l0 bel1
  have K0_0 : vS p0 w.heap.size #[.slice a0 x.formulas.length n0] 27 := vS.thru blk1 l0
  have K0_1 : vS p0 (w.heap.size + 1) #[.slice none 0 0] 37 := vS.thru blk1 l0
  have K0_2 : vS p0 (w.heap.size + 1 + 1) #[.slice none 0 0] 37 := vS.thru blk1 l0
  have S0 := l0.size
  try simp at S0
  have C0_0 := K0_0.cell
  have F0_0 := K0_0.frozen
  have C0_1 := K0_1.cell
  have F0_1 := K0_1.frozen
  have C0_2 := K0_2.cell
  have F0_2 := K0_2.frozen
  go_wp2
  refine bodyPost_ret (v := .agg #[.slice y0 x.formulas.length m0]) (by simp [results, Tryz.results14, go_sem, C0_1]) rfl ?_
  refine ⟨_, _, rfl, xV.mk' (b0 := d0) ?_, ?_, ?_⟩
  · exact (k0.same xL.fr (by repeat (first | with_reducible exact xT.refl _ _ | ((with_reducible refine xT.set ?_ ?_ _); rotate_left; focus (intro b hb; have := (o0.2 b hb).1; simp at this ⊢; omega)) | ((with_reducible refine xT.alloc ?_ ?_ _); rotate_left; exact (o0.inMem.le (by first | (simp; done) | (simp; omega) | (have := B0.size; simp at *; omega)))) | with_reducible apply xT.drew)))
  · have O0 := o0.mono (C := w.heap.size) (by first | (simp; done) | (simp; omega))
    exact O0.same (by repeat (first | with_reducible exact xT.refl _ _ | ((with_reducible refine xT.set ?_ ?_ _); rotate_left; focus (intro b hb; have := (o0.2 b hb).1; simp at this ⊢; omega)) | ((with_reducible refine xT.alloc ?_ ?_ _); rotate_left; exact (o0.inMem.le (by first | (simp; done) | (simp; omega) | (have := B0.size; simp at *; omega)))) | with_reducible apply xT.drew))
  · exact (by repeat (first | with_reducible exact Below.refl _ _ | with_reducible exact B0 | ((with_reducible refine Below.setCell ?_ ?_ _); rotate_left; focus first | (simp; done) | (simp; omega)) | ((with_reducible refine Below.alloc ?_ ?_ _); rotate_left; focus (first | (simp; done) | (simp; omega) | (have := B0.size; simp at *; omega))) | with_reducible apply Below.drew))

theorem szAtom_any (v : Value) (x : Atom) (left : Int) (bs : List Nat) (w : World) (h : qH 2 xU w v x bs) (hm : xX bs w) (h0 : 0 ≤ left) (h1 : left ≤ 1048576) :
    Calls Tryz.prog 223 #[v, .int .i64 left] w (vR (.int .i64 (szR left x.sz)) w) := by
  obtain ⟨v1, b1, rfl, g0, g1, hbs⟩ := xU.open h
  obtain ⟨a1, n1, rfl⟩ := g1.val
  clear h
  have hm1 : xX b1 w := fun c hc => hm c (by rw [hbs]; simp [hc])
  clear hm hbs
  obtain ⟨s0, hs0⟩ : ∃ n : Nat, n = x.args.length := ⟨_, rfl⟩
  have hsz := hd (show x.sz = s0 by unfold Atom.sz; rw [hs0])
  have hs0' := hd hs0.symm
  clear hs0
  by_cases f0 : (s0 : Int) ≤ left
  rotate_left
  · rw [show szR left x.sz = -1 from if_neg (by rw [hsz.out]; omega)]
    go_enter func223, Tryz.ntmps223
    go_wp2_with fail
    (with_reducible refine (szInt64S_any _ x.args _ b1 _ ?_ ?_ ?_ ?_).mono ?_)
    · exact g1.same xK.fr (hm1.same bel1)
    · exact hm1.le (Below.size (B := w.heap.size) bel1)
    · omega
    · omega
    rintro e p0 ⟨rfl, l0⟩
    rw [show szR (left) (x.args.length) = -1 from if_neg (by rw [hs0'.out]; omega)]
    have B0 : Below w.heap.size w p0 := Below.through l0 bel1
    have K0 : vS p0 w.heap.size #[.int .i64 x.rel, .slice a1 x.args.length n1] 261 := vS.thru blk1 l0
    have C0 := K0.cell
    go_wp2
    go_ret
    exact ⟨rfl, (by repeat (first | with_reducible exact Below.refl _ _ | with_reducible exact B0 | ((with_reducible refine Below.setCell ?_ ?_ _); rotate_left; focus first | (simp; done) | (simp; omega)) | ((with_reducible refine Below.alloc ?_ ?_ _); rotate_left; focus (first | (simp; done) | (simp; omega) | (have := B0.size; simp at *; omega))) | with_reducible apply Below.drew))⟩
  go_enter func223, Tryz.ntmps223
  go_wp2_with fail
  (with_reducible refine (szInt64S_any _ x.args _ b1 _ ?_ ?_ ?_ ?_).mono ?_)
  · exact g1.same xK.fr (hm1.same bel1)
  · exact hm1.le (Below.size (B := w.heap.size) bel1)
  · omega
  · omega
  rintro e p0 ⟨rfl, l0⟩
  rw [show szR (left) (x.args.length) = left - s0 from (by rw [hs0'.out]; exact if_pos (by omega))]
  have z0 : ¬ (left - (s0 : Int) < 0) := by omega
  have B0 : Below w.heap.size w p0 := Below.through l0 bel1
  have K0 : vS p0 w.heap.size #[.int .i64 x.rel, .slice a1 x.args.length n1] 261 := vS.thru blk1 l0
  have C0 := K0.cell
  go_wp2
  go_ret
  exact ⟨ret64 (by rw [show szR left x.sz = left - x.sz from if_pos (by rw [hsz.out]; omega), hsz.out]; try omega), (by repeat (first | with_reducible exact Below.refl _ _ | with_reducible exact B0 | ((with_reducible refine Below.setCell ?_ ?_ _); rotate_left; focus first | (simp; done) | (simp; omega)) | ((with_reducible refine Below.alloc ?_ ?_ _); rotate_left; focus (first | (simp; done) | (simp; omega) | (have := B0.size; simp at *; omega))) | with_reducible apply Below.drew))⟩

theorem szAtomS_any (v : Value) (l : List Atom) (left : Int) (bs : List Nat) (w : World) (h : Sl 2 xU w v l bs) (hm : xX bs w) (h0 : 0 ≤ left) (h1 : left ≤ 1048576) :
    Calls Tryz.prog 171 #[v, .int .i64 left] w (vR (.int .i64 (szR left (szS Atom.sz l))) w) := by
  obtain ⟨a, c, rfl, hc1, hc2, hc3, hat0⟩ := h.open
  have hat := hd hat0
  clear hat0 hc3 h
  by_cases hle : (l.length : Int) ≤ left
  rotate_left
  · rw [show szR left (szS Atom.sz l) = -1 from if_neg (by have := kL (c := Atom.sz) l; omega)]
    have hle2 : left - (l.length : Int) < 0 := by omega
    go_enter func171, Tryz.ntmps171
    go_wp2
    go_ret
    exact ⟨rfl, Below.refl _ _⟩
  have hle2 : ¬ (left - (l.length : Int) < 0) := by omega
  go_enter func171, Tryz.ntmps171
  go_wp2
  go_loopw [1, 5] (fun r i wr => ∃ k : Nat, k ≤ l.length ∧ i = .int .i64 k ∧ r = .int .i64 (left - l.length - (qM Atom.sz (l.take k) : Nat)) ∧ (qM Atom.sz (l.take k) : Int) ≤ left - l.length ∧ Below w.heap.size w wr) (fun _ i _ => l.length - (intOf i).toNat)
  case atStart => exact ⟨0, Nat.zero_le _, rfl, by simp [qM], by simp [qM]; omega, Below.refl _ _⟩
  case round =>
    obtain ⟨k, hk, rfl, rfl, hcl, hB⟩ := hrel
    by_cases hlt : k < l.length
    · obtain ⟨b, o, bss', bi, rfl, rfl, hE, hbi, hsub, hr0⟩ := hat.out k hlt
      clear hE
      obtain ⟨x, hx0, hx1⟩ : ∃ x, l[k]? = some x ∧ x = l[k] := ⟨_, List.getElem?_eq_getElem hlt, rfl⟩
      rw [← hx1] at hr0
      have hx := hd hx0
      have hsucc := hd (vY (c := Atom.sz) hx0)
      have hadd := zU (c := Atom.sz) hx0
      have hadd' := hd hadd
      clear hx0 hx1 hadd
      have hr : xU wr (fun j => wr.cell? ⟨b, o + k * 2 + j, none⟩) x bi := xU.fr _ _ _ _ _ _ hr0 (fun c hc => hB.block c (hm c (hsub c hc))) (fun j _ => (bcell hB).1 b _ (hm b (by simp)))
      have hbw : xX bi wr := (fun c hc => Nat.lt_of_lt_of_le (hm c (hsub c hc)) hB.size)
      clear hr0 hm hsub hbi
      have hrr := hd hr
      obtain ⟨v1, b1, c0, r0, c1, r1, hbi0⟩ := hr
      obtain ⟨a1, n1, rfl⟩ := r1.val
      simp only [Nat.add_zero] at c0 c1
      generalize hcc : qM Atom.sz (l.take k) = cc at *
      clear hcc
      have hagg : qH 2 xU wr (.agg #[.int .i64 x.rel, .slice a1 x.args.length n1]) x bi := qH.of_cells xU.fr hrr.out [.int .i64 x.rel, .slice a1 x.args.length n1] rfl (fun j hj => by
        match j, hj with
        | 0, _ => exact c0.symm
        | 1, _ => exact c1.symm)
      by_cases hfit : (x.sz : Int) ≤ left - l.length - cc
      · have hz : ¬ (left - l.length - cc - (x.sz : Int) < 0) := by omega
        go_wp2_with fail
        (with_reducible refine (szAtom_any _ x _ bi _ hagg hbw (by omega) (by omega)).mono ?_)
        rintro e w1 ⟨rfl, hb⟩
        rw [show szR (left - l.length - cc) x.sz = left - l.length - cc - x.sz from if_pos hfit]
        have hb' := Below.through hb hB
        go_wp2
        go_roundw
        case rel => exact ⟨k + 1, hlt, by go_num, by rw [hsucc.out]; apply congrArg; omega, by rw [hsucc.out]; omega, hb'⟩
        case measure => simp [intOf]; omega
      · have hz : szR (left - l.length - cc) x.sz = -1 := if_neg hfit
        have hz' := hd hz
        clear hz
        have hneg : szR left (szS Atom.sz l) = -1 := if_neg (by have := hadd'.out; rw [szS_eq]; omega)
        have hneg' := hd hneg
        clear hneg
        go_wp2_with fail
        (with_reducible refine (szAtom_any _ x _ bi _ hagg hbw (by omega) (by omega)).mono ?_)
        rintro e w1 ⟨rfl, hb⟩
        rw [hz'.out]
        have hb' := Below.through hb hB
        go_wp2
        go_ret
        exact ⟨by rw [hneg'.out]; rfl, hb'⟩
    · obtain rfl : k = l.length := by omega
      rw [List.take_length] at hcl ⊢
      have hfin : szR left (szS Atom.sz l) = left - l.length - (qM Atom.sz l : Nat) := by unfold szR; rw [szS_eq, if_pos (by omega)]; omega
      have hfin' := hd hfin
      clear hfin
      go_wp2
      go_ret
      exact ⟨by rw [hfin'.out]; rfl, hB⟩

theorem szFormula_any (v : Value) (x : Formula) (left : Int) (bs : List Nat) (w : World) (h : qH 3 xL w v x bs) (hm : xX bs w) (h0 : 0 ≤ left) (h1 : left ≤ 1048576) :
    Calls Tryz.prog 97 #[v, .int .i64 left] w (vR (.int .i64 (szR left x.sz)) w) := by
  obtain ⟨v2, b2, rfl, g0, g1, g2, hbs⟩ := xL.open h
  obtain ⟨a2, n2, rfl⟩ := g2.val
  clear h
  have hm2 : xX b2 w := fun c hc => hm c (by rw [hbs]; simp [hc])
  clear hm hbs
  obtain ⟨s0, hs0⟩ : ∃ n : Nat, n = szS Atom.sz x.atoms := ⟨_, rfl⟩
  have hsz := hd (show x.sz = s0 by unfold Formula.sz; rw [hs0])
  have hs0' := hd hs0.symm
  clear hs0
  by_cases f0 : (s0 : Int) ≤ left
  rotate_left
  · rw [show szR left x.sz = -1 from if_neg (by rw [hsz.out]; omega)]
    go_enter func97, Tryz.ntmps97
    go_wp2_with fail
    (with_reducible refine (szAtomS_any _ x.atoms _ b2 _ ?_ ?_ ?_ ?_).mono ?_)
    · exact g2.same xU.fr (hm2.same bel1)
    · exact hm2.le (Below.size (B := w.heap.size) bel1)
    · omega
    · omega
    rintro e p0 ⟨rfl, l0⟩
    rw [show szR (left) (szS Atom.sz x.atoms) = -1 from if_neg (by rw [hs0'.out]; omega)]
    have B0 : Below w.heap.size w p0 := Below.through l0 bel1
    have K0 : vS p0 w.heap.size #[.int .i64 x.free, .int .i64 x.vars, .slice a2 x.atoms.length n2] 141 := vS.thru blk1 l0
    have C0 := K0.cell
    go_wp2
    go_ret
    exact ⟨rfl, (by repeat (first | with_reducible exact Below.refl _ _ | with_reducible exact B0 | ((with_reducible refine Below.setCell ?_ ?_ _); rotate_left; focus first | (simp; done) | (simp; omega)) | ((with_reducible refine Below.alloc ?_ ?_ _); rotate_left; focus (first | (simp; done) | (simp; omega) | (have := B0.size; simp at *; omega))) | with_reducible apply Below.drew))⟩
  go_enter func97, Tryz.ntmps97
  go_wp2_with fail
  (with_reducible refine (szAtomS_any _ x.atoms _ b2 _ ?_ ?_ ?_ ?_).mono ?_)
  · exact g2.same xU.fr (hm2.same bel1)
  · exact hm2.le (Below.size (B := w.heap.size) bel1)
  · omega
  · omega
  rintro e p0 ⟨rfl, l0⟩
  rw [show szR (left) (szS Atom.sz x.atoms) = left - s0 from (by rw [hs0'.out]; exact if_pos (by omega))]
  have z0 : ¬ (left - (s0 : Int) < 0) := by omega
  have B0 : Below w.heap.size w p0 := Below.through l0 bel1
  have K0 : vS p0 w.heap.size #[.int .i64 x.free, .int .i64 x.vars, .slice a2 x.atoms.length n2] 141 := vS.thru blk1 l0
  have C0 := K0.cell
  go_wp2
  go_ret
  exact ⟨ret64 (by rw [show szR left x.sz = left - x.sz from if_pos (by rw [hsz.out]; omega), hsz.out]; try omega), (by repeat (first | with_reducible exact Below.refl _ _ | with_reducible exact B0 | ((with_reducible refine Below.setCell ?_ ?_ _); rotate_left; focus first | (simp; done) | (simp; omega)) | ((with_reducible refine Below.alloc ?_ ?_ _); rotate_left; focus (first | (simp; done) | (simp; omega) | (have := B0.size; simp at *; omega))) | with_reducible apply Below.drew))⟩

theorem szFormulaS_any (v : Value) (l : List Formula) (left : Int) (bs : List Nat) (w : World) (h : Sl 3 xL w v l bs) (hm : xX bs w) (h0 : 0 ≤ left) (h1 : left ≤ 1048576) :
    Calls Tryz.prog 43 #[v, .int .i64 left] w (vR (.int .i64 (szR left (szS Formula.sz l))) w) := by
  obtain ⟨a, c, rfl, hc1, hc2, hc3, hat0⟩ := h.open
  have hat := hd hat0
  clear hat0 hc3 h
  by_cases hle : (l.length : Int) ≤ left
  rotate_left
  · rw [show szR left (szS Formula.sz l) = -1 from if_neg (by have := kL (c := Formula.sz) l; omega)]
    have hle2 : left - (l.length : Int) < 0 := by omega
    go_enter func43, Tryz.ntmps43
    go_wp2
    go_ret
    exact ⟨rfl, Below.refl _ _⟩
  have hle2 : ¬ (left - (l.length : Int) < 0) := by omega
  go_enter func43, Tryz.ntmps43
  go_wp2
  go_loopw [1, 5] (fun r i wr => ∃ k : Nat, k ≤ l.length ∧ i = .int .i64 k ∧ r = .int .i64 (left - l.length - (qM Formula.sz (l.take k) : Nat)) ∧ (qM Formula.sz (l.take k) : Int) ≤ left - l.length ∧ Below w.heap.size w wr) (fun _ i _ => l.length - (intOf i).toNat)
  case atStart => exact ⟨0, Nat.zero_le _, rfl, by simp [qM], by simp [qM]; omega, Below.refl _ _⟩
  case round =>
    obtain ⟨k, hk, rfl, rfl, hcl, hB⟩ := hrel
    by_cases hlt : k < l.length
    · obtain ⟨b, o, bss', bi, rfl, rfl, hE, hbi, hsub, hr0⟩ := hat.out k hlt
      clear hE
      obtain ⟨x, hx0, hx1⟩ : ∃ x, l[k]? = some x ∧ x = l[k] := ⟨_, List.getElem?_eq_getElem hlt, rfl⟩
      rw [← hx1] at hr0
      have hx := hd hx0
      have hsucc := hd (vY (c := Formula.sz) hx0)
      have hadd := zU (c := Formula.sz) hx0
      have hadd' := hd hadd
      clear hx0 hx1 hadd
      have hr : xL wr (fun j => wr.cell? ⟨b, o + k * 3 + j, none⟩) x bi := xL.fr _ _ _ _ _ _ hr0 (fun c hc => hB.block c (hm c (hsub c hc))) (fun j _ => (bcell hB).1 b _ (hm b (by simp)))
      have hbw : xX bi wr := (fun c hc => Nat.lt_of_lt_of_le (hm c (hsub c hc)) hB.size)
      clear hr0 hm hsub hbi
      have hrr := hd hr
      obtain ⟨v2, b2, c0, r0, c1, r1, c2, r2, hbi0⟩ := hr
      obtain ⟨a2, n2, rfl⟩ := r2.val
      simp only [Nat.add_zero] at c0 c1 c2
      generalize hcc : qM Formula.sz (l.take k) = cc at *
      clear hcc
      have hagg : qH 3 xL wr (.agg #[.int .i64 x.free, .int .i64 x.vars, .slice a2 x.atoms.length n2]) x bi := qH.of_cells xL.fr hrr.out [.int .i64 x.free, .int .i64 x.vars, .slice a2 x.atoms.length n2] rfl (fun j hj => by
        match j, hj with
        | 0, _ => exact c0.symm
        | 1, _ => exact c1.symm
        | 2, _ => exact c2.symm)
      by_cases hfit : (x.sz : Int) ≤ left - l.length - cc
      · have hz : ¬ (left - l.length - cc - (x.sz : Int) < 0) := by omega
        go_wp2_with fail
        (with_reducible refine (szFormula_any _ x _ bi _ hagg hbw (by omega) (by omega)).mono ?_)
        rintro e w1 ⟨rfl, hb⟩
        rw [show szR (left - l.length - cc) x.sz = left - l.length - cc - x.sz from if_pos hfit]
        have hb' := Below.through hb hB
        go_wp2
        go_roundw
        case rel => exact ⟨k + 1, hlt, by go_num, by rw [hsucc.out]; apply congrArg; omega, by rw [hsucc.out]; omega, hb'⟩
        case measure => simp [intOf]; omega
      · have hz : szR (left - l.length - cc) x.sz = -1 := if_neg hfit
        have hz' := hd hz
        clear hz
        have hneg : szR left (szS Formula.sz l) = -1 := if_neg (by have := hadd'.out; rw [szS_eq]; omega)
        have hneg' := hd hneg
        clear hneg
        go_wp2_with fail
        (with_reducible refine (szFormula_any _ x _ bi _ hagg hbw (by omega) (by omega)).mono ?_)
        rintro e w1 ⟨rfl, hb⟩
        rw [hz'.out]
        have hb' := Below.through hb hB
        go_wp2
        go_ret
        exact ⟨by rw [hneg'.out]; rfl, hb'⟩
    · obtain rfl : k = l.length := by omega
      rw [List.take_length] at hcl ⊢
      have hfin : szR left (szS Formula.sz l) = left - l.length - (qM Formula.sz l : Nat) := by unfold szR; rw [szS_eq, if_pos (by omega)]; omega
      have hfin' := hd hfin
      clear hfin
      go_wp2
      go_ret
      exact ⟨by rw [hfin'.out]; rfl, hB⟩

theorem szGadgets_any (v : Value) (x : Gadgets) (left : Int) (bs : List Nat) (w : World) (h : qH 1 xV w v x bs) (hm : xX bs w) (h0 : 0 ≤ left) (h1 : left ≤ 1048576) :
    Calls Tryz.prog 11 #[v, .int .i64 left] w (vR (.int .i64 (szR left x.sz)) w) := by
  obtain ⟨v0, b0, rfl, g0, hbs⟩ := xV.open h
  obtain ⟨a0, n0, rfl⟩ := g0.val
  clear h
  have hm0 : xX b0 w := fun c hc => hm c (by rw [hbs]; simp [hc])
  clear hm hbs
  obtain ⟨s0, hs0⟩ : ∃ n : Nat, n = szS Formula.sz x.formulas := ⟨_, rfl⟩
  have hsz := hd (show x.sz = s0 by unfold Gadgets.sz; rw [hs0])
  have hs0' := hd hs0.symm
  clear hs0
  by_cases f0 : (s0 : Int) ≤ left
  rotate_left
  · rw [show szR left x.sz = -1 from if_neg (by rw [hsz.out]; omega)]
    go_enter func11, Tryz.ntmps11
    go_wp2_with fail
    (with_reducible refine (szFormulaS_any _ x.formulas _ b0 _ ?_ ?_ ?_ ?_).mono ?_)
    · exact g0.same xL.fr (hm0.same bel1)
    · exact hm0.le (Below.size (B := w.heap.size) bel1)
    · omega
    · omega
    rintro e p0 ⟨rfl, l0⟩
    rw [show szR (left) (szS Formula.sz x.formulas) = -1 from if_neg (by rw [hs0'.out]; omega)]
    have B0 : Below w.heap.size w p0 := Below.through l0 bel1
    have K0 : vS p0 w.heap.size #[.slice a0 x.formulas.length n0] 27 := vS.thru blk1 l0
    have C0 := K0.cell
    go_wp2
    go_ret
    exact ⟨rfl, (by repeat (first | with_reducible exact Below.refl _ _ | with_reducible exact B0 | ((with_reducible refine Below.setCell ?_ ?_ _); rotate_left; focus first | (simp; done) | (simp; omega)) | ((with_reducible refine Below.alloc ?_ ?_ _); rotate_left; focus (first | (simp; done) | (simp; omega) | (have := B0.size; simp at *; omega))) | with_reducible apply Below.drew))⟩
  go_enter func11, Tryz.ntmps11
  go_wp2_with fail
  (with_reducible refine (szFormulaS_any _ x.formulas _ b0 _ ?_ ?_ ?_ ?_).mono ?_)
  · exact g0.same xL.fr (hm0.same bel1)
  · exact hm0.le (Below.size (B := w.heap.size) bel1)
  · omega
  · omega
  rintro e p0 ⟨rfl, l0⟩
  rw [show szR (left) (szS Formula.sz x.formulas) = left - s0 from (by rw [hs0'.out]; exact if_pos (by omega))]
  have z0 : ¬ (left - (s0 : Int) < 0) := by omega
  have B0 : Below w.heap.size w p0 := Below.through l0 bel1
  have K0 : vS p0 w.heap.size #[.slice a0 x.formulas.length n0] 27 := vS.thru blk1 l0
  have C0 := K0.cell
  go_wp2
  go_ret
  exact ⟨ret64 (by rw [show szR left x.sz = left - x.sz from if_pos (by rw [hsz.out]; omega), hsz.out]; try omega), (by repeat (first | with_reducible exact Below.refl _ _ | with_reducible exact B0 | ((with_reducible refine Below.setCell ?_ ?_ _); rotate_left; focus first | (simp; done) | (simp; omega)) | ((with_reducible refine Below.alloc ?_ ?_ _); rotate_left; focus (first | (simp; done) | (simp; omega) | (have := B0.size; simp at *; omega))) | with_reducible apply Below.drew))⟩

theorem eqAtom_any (v1 v2 : Value) (x : Atom) (bs1 bs2 : List Nat) (w : World) (h1 : qH 2 xU w v1 x bs1) (h2 : qH 2 xU w v2 x bs2) (hm1 : xX bs1 w) (hm2 : xX bs2 w) :
    Calls Tryz.prog 228 #[v1, v2] w (vR (.bool true) w) := by
  obtain ⟨v1, b1, rfl, g0, g1, hbs1⟩ := xU.open h1
  obtain ⟨a1, n1, rfl⟩ := g1.val
  obtain ⟨u1, d1, rfl, k0, k1, hbs2⟩ := xU.open h2
  obtain ⟨e1, m1, rfl⟩ := k1.val
  clear h1 h2
  have hmb1 : xX b1 w := fun c hc => hm1 c (by rw [hbs1]; simp [hc])
  have hmd1 : xX d1 w := fun c hc => hm2 c (by rw [hbs2]; simp [hc])
  clear hm1 hm2 hbs1 hbs2
  go_enter func228, Tryz.ntmps228
  go_wp2_with fail
  (with_reducible refine (eqInt64S_any _ _ x.args b1 d1 _ ?_ ?_ ?_ ?_).mono ?_)
  · exact g1.same xK.fr (hmb1.same bel1)
  · exact k1.same xK.fr (hmd1.same bel1)
  · exact hmb1.le (Below.size (B := w.heap.size) bel1)
  · exact hmd1.le (Below.size (B := w.heap.size) bel1)
  rintro e p0 ⟨rfl, l0⟩
  have B0 : Below w.heap.size w p0 := Below.through l0 bel1
  have K0_0 : vS p0 w.heap.size #[.int .i64 x.rel, .slice a1 x.args.length n1] 158 := vS.thru blk1 l0
  have K0_1 : vS p0 (w.heap.size + 1) #[.int .i64 x.rel, .slice e1 x.args.length m1] 158 := vS.thru blk1 l0
  have S0 := l0.size
  try simp at S0
  have C0_0 := K0_0.cell
  have F0_0 := K0_0.frozen
  have C0_1 := K0_1.cell
  have F0_1 := K0_1.frozen
  go_wp2
  go_ret
  exact ⟨rfl, (by repeat (first | with_reducible exact Below.refl _ _ | with_reducible exact B0 | ((with_reducible refine Below.setCell ?_ ?_ _); rotate_left; focus first | (simp; done) | (simp; omega)) | ((with_reducible refine Below.alloc ?_ ?_ _); rotate_left; focus (first | (simp; done) | (simp; omega) | (have := B0.size; simp at *; omega))) | with_reducible apply Below.drew))⟩

theorem eqAtomS_any (v1 v2 : Value) (l : List Atom) (bs1 bs2 : List Nat) (w : World) (h1 : Sl 2 xU w v1 l bs1) (h2 : Sl 2 xU w v2 l bs2) (hm1 : xX bs1 w) (hm2 : xX bs2 w) :
    Calls Tryz.prog 189 #[v1, v2] w (vR (.bool true) w) := by
  obtain ⟨a, c, rfl, hc1, hc2, _, hat0⟩ := h1.open
  have hat := hd hat0
  clear hat0 h1
  obtain ⟨a', c', rfl, hc1', hc2', _, hat0⟩ := h2.open
  have hat' := hd hat0
  clear hat0 h2
  go_enter func189, Tryz.ntmps189
  go_wp2
  go_loopw [5] (fun i wr => ∃ k : Nat, k ≤ l.length ∧ i = .int .i64 k ∧ Below w.heap.size w wr) (fun i _ => l.length - (intOf i).toNat)
  case atStart => exact ⟨0, Nat.zero_le _, rfl, Below.refl _ _⟩
  case round =>
    obtain ⟨k, hk, rfl, hB⟩ := hrel
    by_cases hlt : k < l.length
    · obtain ⟨b, o, bss', bi, rfl, rfl, hE, hbi, hsub, hr0⟩ := hat.out k hlt
      clear hE
      obtain ⟨b', o', bss'', bi', rfl, rfl, hE, hbi', hsub', hr0'⟩ := hat'.out k hlt
      clear hE
      obtain ⟨x, hx1⟩ : ∃ x, x = l[k] := ⟨_, rfl⟩
      rw [← hx1] at hr0 hr0'
      clear hx1
      have hr : xU wr (fun j => wr.cell? ⟨b, o + k * 2 + j, none⟩) x bi := xU.fr _ _ _ _ _ _ hr0 (fun c hc => hB.block c (hm1 c (hsub c hc))) (fun j _ => (bcell hB).1 b _ (hm1 b (by simp)))
      have hbw : xX bi wr := (fun c hc => Nat.lt_of_lt_of_le (hm1 c (hsub c hc)) hB.size)
      have hr' : xU wr (fun j => wr.cell? ⟨b', o' + k * 2 + j, none⟩) x bi' := xU.fr _ _ _ _ _ _ hr0' (fun c hc => hB.block c (hm2 c (hsub' c hc))) (fun j _ => (bcell hB).1 b' _ (hm2 b' (by simp)))
      have hbw' : xX bi' wr := (fun c hc => Nat.lt_of_lt_of_le (hm2 c (hsub' c hc)) hB.size)
      clear hr0 hr0' hm1 hm2 hsub hsub' hbi hbi'
      have hrr := hd hr
      have hrr' := hd hr'
      obtain ⟨v1, b1, c0, r0, c1, r1, hbi0⟩ := hr
      obtain ⟨a1, n1, rfl⟩ := r1.val
      simp only [Nat.add_zero] at c0 c1
      obtain ⟨u1, e1, d0, t0, d1, t1, hbi1⟩ := hr'
      obtain ⟨x1, m1, rfl⟩ := t1.val
      simp only [Nat.add_zero] at d0 d1
      have hagg : qH 2 xU wr (.agg #[.int .i64 x.rel, .slice a1 x.args.length n1]) x bi := qH.of_cells xU.fr hrr.out [.int .i64 x.rel, .slice a1 x.args.length n1] rfl (fun j hj => by
        match j, hj with
        | 0, _ => exact c0.symm
        | 1, _ => exact c1.symm)
      have hagg' : qH 2 xU wr (.agg #[.int .i64 x.rel, .slice x1 x.args.length m1]) x bi' := qH.of_cells xU.fr hrr'.out [.int .i64 x.rel, .slice x1 x.args.length m1] rfl (fun j hj => by
        match j, hj with
        | 0, _ => exact d0.symm
        | 1, _ => exact d1.symm)
      have cE := hd (show ∀ d os, Calls Tryz.prog 228 #[.agg #[.int .i64 x.rel, .slice a1 x.args.length n1], .agg #[.int .i64 x.rel, .slice x1 x.args.length m1]] (grow (redrawn wr d) os) fun e w'' => e = .returned (.bool true) ∧ ∃ p : Regrown, w'' = grow (redrawn wr p.d) p.os from fun d os =>
        Calls.regrown_of (eqAtom_any _ _ x bi bi' _ (hagg.same xU.fr (hbw.same (below_regrown wr d os))) (hagg'.same xU.fr (hbw'.same (below_regrown wr d os))) (hbw.le (below_regrown wr d os).size) (hbw'.le (below_regrown wr d os).size)))
      have kc0 := cell_regrown c0
      have kd0 := cell_regrown d0
      have kc1 := cell_regrown c1
      have kd1 := cell_regrown d1
      have hlt' : (k : Int) < (l.length : Int) := by omega
      clear hrr hrr'
      go_wp2
      refine wp_region_quiet_below (by kernel_rfl) (by kernel_rfl) ?_
      repeat (quiet_step (exact cE.out _ _))
      refine wpQuiet_nil ?_
      intro _ hw'
      obtain ⟨⟨dq, osq⟩, hw''⟩ := hw'
      subst hw''
      have hq := below_regrown wr dq osq
      clear kc0 kd0 kc1 kd1
      go_wp2
      go_roundw
      case rel => exact ⟨k + 1, hlt, by go_num, Below.through hq hB⟩
      case measure => simp [intOf]; omega
    · obtain rfl : k = l.length := by omega
      go_wp2
      go_ret
      exact ⟨rfl, hB⟩

theorem eqFormula_any (v1 v2 : Value) (x : Formula) (bs1 bs2 : List Nat) (w : World) (h1 : qH 3 xL w v1 x bs1) (h2 : qH 3 xL w v2 x bs2) (hm1 : xX bs1 w) (hm2 : xX bs2 w) :
    Calls Tryz.prog 107 #[v1, v2] w (vR (.bool true) w) := by
  obtain ⟨v2, b2, rfl, g0, g1, g2, hbs1⟩ := xL.open h1
  obtain ⟨a2, n2, rfl⟩ := g2.val
  obtain ⟨u2, d2, rfl, k0, k1, k2, hbs2⟩ := xL.open h2
  obtain ⟨e2, m2, rfl⟩ := k2.val
  clear h1 h2
  have hmb2 : xX b2 w := fun c hc => hm1 c (by rw [hbs1]; simp [hc])
  have hmd2 : xX d2 w := fun c hc => hm2 c (by rw [hbs2]; simp [hc])
  clear hm1 hm2 hbs1 hbs2
  go_enter func107, Tryz.ntmps107
  go_wp2_with fail
  (with_reducible refine (eqAtomS_any _ _ x.atoms b2 d2 _ ?_ ?_ ?_ ?_).mono ?_)
  · exact g2.same xU.fr (hmb2.same bel1)
  · exact k2.same xU.fr (hmd2.same bel1)
  · exact hmb2.le (Below.size (B := w.heap.size) bel1)
  · exact hmd2.le (Below.size (B := w.heap.size) bel1)
  rintro e p0 ⟨rfl, l0⟩
  have B0 : Below w.heap.size w p0 := Below.through l0 bel1
  have K0_0 : vS p0 w.heap.size #[.int .i64 x.free, .int .i64 x.vars, .slice a2 x.atoms.length n2] 95 := vS.thru blk1 l0
  have K0_1 : vS p0 (w.heap.size + 1) #[.int .i64 x.free, .int .i64 x.vars, .slice e2 x.atoms.length m2] 95 := vS.thru blk1 l0
  have S0 := l0.size
  try simp at S0
  have C0_0 := K0_0.cell
  have F0_0 := K0_0.frozen
  have C0_1 := K0_1.cell
  have F0_1 := K0_1.frozen
  go_wp2
  go_ret
  exact ⟨rfl, (by repeat (first | with_reducible exact Below.refl _ _ | with_reducible exact B0 | ((with_reducible refine Below.setCell ?_ ?_ _); rotate_left; focus first | (simp; done) | (simp; omega)) | ((with_reducible refine Below.alloc ?_ ?_ _); rotate_left; focus (first | (simp; done) | (simp; omega) | (have := B0.size; simp at *; omega))) | with_reducible apply Below.drew))⟩

theorem eqFormulaS_any (v1 v2 : Value) (l : List Formula) (bs1 bs2 : List Nat) (w : World) (h1 : Sl 3 xL w v1 l bs1) (h2 : Sl 3 xL w v2 l bs2) (hm1 : xX bs1 w) (hm2 : xX bs2 w) :
    Calls Tryz.prog 50 #[v1, v2] w (vR (.bool true) w) := by
  obtain ⟨a, c, rfl, hc1, hc2, _, hat0⟩ := h1.open
  have hat := hd hat0
  clear hat0 h1
  obtain ⟨a', c', rfl, hc1', hc2', _, hat0⟩ := h2.open
  have hat' := hd hat0
  clear hat0 h2
  go_enter func50, Tryz.ntmps50
  go_wp2
  go_loopw [5] (fun i wr => ∃ k : Nat, k ≤ l.length ∧ i = .int .i64 k ∧ Below w.heap.size w wr) (fun i _ => l.length - (intOf i).toNat)
  case atStart => exact ⟨0, Nat.zero_le _, rfl, Below.refl _ _⟩
  case round =>
    obtain ⟨k, hk, rfl, hB⟩ := hrel
    by_cases hlt : k < l.length
    · obtain ⟨b, o, bss', bi, rfl, rfl, hE, hbi, hsub, hr0⟩ := hat.out k hlt
      clear hE
      obtain ⟨b', o', bss'', bi', rfl, rfl, hE, hbi', hsub', hr0'⟩ := hat'.out k hlt
      clear hE
      obtain ⟨x, hx1⟩ : ∃ x, x = l[k] := ⟨_, rfl⟩
      rw [← hx1] at hr0 hr0'
      clear hx1
      have hr : xL wr (fun j => wr.cell? ⟨b, o + k * 3 + j, none⟩) x bi := xL.fr _ _ _ _ _ _ hr0 (fun c hc => hB.block c (hm1 c (hsub c hc))) (fun j _ => (bcell hB).1 b _ (hm1 b (by simp)))
      have hbw : xX bi wr := (fun c hc => Nat.lt_of_lt_of_le (hm1 c (hsub c hc)) hB.size)
      have hr' : xL wr (fun j => wr.cell? ⟨b', o' + k * 3 + j, none⟩) x bi' := xL.fr _ _ _ _ _ _ hr0' (fun c hc => hB.block c (hm2 c (hsub' c hc))) (fun j _ => (bcell hB).1 b' _ (hm2 b' (by simp)))
      have hbw' : xX bi' wr := (fun c hc => Nat.lt_of_lt_of_le (hm2 c (hsub' c hc)) hB.size)
      clear hr0 hr0' hm1 hm2 hsub hsub' hbi hbi'
      have hrr := hd hr
      have hrr' := hd hr'
      obtain ⟨v2, b2, c0, r0, c1, r1, c2, r2, hbi0⟩ := hr
      obtain ⟨a2, n2, rfl⟩ := r2.val
      simp only [Nat.add_zero] at c0 c1 c2
      obtain ⟨u2, e2, d0, t0, d1, t1, d2, t2, hbi1⟩ := hr'
      obtain ⟨x2, m2, rfl⟩ := t2.val
      simp only [Nat.add_zero] at d0 d1 d2
      have hagg : qH 3 xL wr (.agg #[.int .i64 x.free, .int .i64 x.vars, .slice a2 x.atoms.length n2]) x bi := qH.of_cells xL.fr hrr.out [.int .i64 x.free, .int .i64 x.vars, .slice a2 x.atoms.length n2] rfl (fun j hj => by
        match j, hj with
        | 0, _ => exact c0.symm
        | 1, _ => exact c1.symm
        | 2, _ => exact c2.symm)
      have hagg' : qH 3 xL wr (.agg #[.int .i64 x.free, .int .i64 x.vars, .slice x2 x.atoms.length m2]) x bi' := qH.of_cells xL.fr hrr'.out [.int .i64 x.free, .int .i64 x.vars, .slice x2 x.atoms.length m2] rfl (fun j hj => by
        match j, hj with
        | 0, _ => exact d0.symm
        | 1, _ => exact d1.symm
        | 2, _ => exact d2.symm)
      have cE := hd (show ∀ d os, Calls Tryz.prog 107 #[.agg #[.int .i64 x.free, .int .i64 x.vars, .slice a2 x.atoms.length n2], .agg #[.int .i64 x.free, .int .i64 x.vars, .slice x2 x.atoms.length m2]] (grow (redrawn wr d) os) fun e w'' => e = .returned (.bool true) ∧ ∃ p : Regrown, w'' = grow (redrawn wr p.d) p.os from fun d os =>
        Calls.regrown_of (eqFormula_any _ _ x bi bi' _ (hagg.same xL.fr (hbw.same (below_regrown wr d os))) (hagg'.same xL.fr (hbw'.same (below_regrown wr d os))) (hbw.le (below_regrown wr d os).size) (hbw'.le (below_regrown wr d os).size)))
      have kc0 := cell_regrown c0
      have kd0 := cell_regrown d0
      have kc1 := cell_regrown c1
      have kd1 := cell_regrown d1
      have kc2 := cell_regrown c2
      have kd2 := cell_regrown d2
      have hlt' : (k : Int) < (l.length : Int) := by omega
      clear hrr hrr'
      go_wp2
      refine wp_region_quiet_below (by kernel_rfl) (by kernel_rfl) ?_
      repeat (quiet_step (exact cE.out _ _))
      refine wpQuiet_nil ?_
      intro _ hw'
      obtain ⟨⟨dq, osq⟩, hw''⟩ := hw'
      subst hw''
      have hq := below_regrown wr dq osq
      clear kc0 kd0 kc1 kd1 kc2 kd2
      go_wp2
      go_roundw
      case rel => exact ⟨k + 1, hlt, by go_num, Below.through hq hB⟩
      case measure => simp [intOf]; omega
    · obtain rfl : k = l.length := by omega
      go_wp2
      go_ret
      exact ⟨rfl, hB⟩

theorem eqGadgets_any (v1 v2 : Value) (x : Gadgets) (bs1 bs2 : List Nat) (w : World) (h1 : qH 1 xV w v1 x bs1) (h2 : qH 1 xV w v2 x bs2) (hm1 : xX bs1 w) (hm2 : xX bs2 w) :
    Calls Tryz.prog 17 #[v1, v2] w (vR (.bool true) w) := by
  obtain ⟨v0, b0, rfl, g0, hbs1⟩ := xV.open h1
  obtain ⟨a0, n0, rfl⟩ := g0.val
  obtain ⟨u0, d0, rfl, k0, hbs2⟩ := xV.open h2
  obtain ⟨e0, m0, rfl⟩ := k0.val
  clear h1 h2
  have hmb0 : xX b0 w := fun c hc => hm1 c (by rw [hbs1]; simp [hc])
  have hmd0 : xX d0 w := fun c hc => hm2 c (by rw [hbs2]; simp [hc])
  clear hm1 hm2 hbs1 hbs2
  go_enter func17, Tryz.ntmps17
  go_wp2_with fail
  (with_reducible refine (eqFormulaS_any _ _ x.formulas b0 d0 _ ?_ ?_ ?_ ?_).mono ?_)
  · exact g0.same xL.fr (hmb0.same bel1)
  · exact k0.same xL.fr (hmd0.same bel1)
  · exact hmb0.le (Below.size (B := w.heap.size) bel1)
  · exact hmd0.le (Below.size (B := w.heap.size) bel1)
  rintro e p0 ⟨rfl, l0⟩
  have B0 : Below w.heap.size w p0 := Below.through l0 bel1
  have K0_0 : vS p0 w.heap.size #[.slice a0 x.formulas.length n0] 37 := vS.thru blk1 l0
  have K0_1 : vS p0 (w.heap.size + 1) #[.slice e0 x.formulas.length m0] 37 := vS.thru blk1 l0
  have S0 := l0.size
  try simp at S0
  have C0_0 := K0_0.cell
  have F0_0 := K0_0.frozen
  have C0_1 := K0_1.cell
  have F0_1 := K0_1.frozen
  go_wp2
  go_ret
  exact ⟨rfl, (by repeat (first | with_reducible exact Below.refl _ _ | with_reducible exact B0 | ((with_reducible refine Below.setCell ?_ ?_ _); rotate_left; focus first | (simp; done) | (simp; omega)) | ((with_reducible refine Below.alloc ?_ ?_ _); rotate_left; focus (first | (simp; done) | (simp; omega) | (have := B0.size; simp at *; omega))) | with_reducible apply Below.drew))⟩

theorem markAtomS_any (v : Value) (l : List Atom) (k : Int) (bs : List Nat) (B : Nat) (w : World) (h : Sl 2 xU w v l bs) (ho : zY B bs w) (h0 : 0 ≤ k) (hk : k + (qM Atom.ecnt l : Nat) ≤ 4611686018427387904) :
    Calls Tryz.prog 114 #[v, .int .i64 k] w (Marks 2 xU v (mkS Atom.emk Atom.ecnt l k) bs (k + (qM Atom.ecnt l : Nat)) B w) := by
  obtain ⟨a, c, rfl, hc1, hc2, hc3, -⟩ := h.open
  obtain ⟨n, hn0⟩ : ∃ n, n = l.length := ⟨_, rfl⟩
  have hn := hd hn0
  have h' : Sl 2 xU w (.slice a n c) l bs := by rw [hn0]; exact h
  rw [← hn0] at hc1 ⊢
  clear h hc3 hn0
  go_enter func114, Tryz.ntmps114
  go_wp2
  go_loopw [1, 5] (fun r i wr => ∃ j : Nat, j ≤ n ∧ i = .int .i64 j ∧ r = .int .i64 (k + (qM Atom.ecnt (l.take j) : Nat)) ∧ Sl 2 xU wr (.slice a n c) (mkS Atom.emk Atom.ecnt (l.take j) k ++ l.drop j) bs ∧ zY B bs wr ∧ Only bs w wr) (fun _ i _ => n - (intOf i).toNat)
  case atStart => exact ⟨0, Nat.zero_le _, rfl, by simp [qM], h', ho, Only.refl _ _⟩
  case round =>
    obtain ⟨j, hj, rfl, rfl, hS, hO, hU⟩ := hrel
    clear h' ho
    by_cases hlt : j < n
    · obtain ⟨x, hx0⟩ : ∃ x, l[j]? = some x := ⟨_, List.getElem?_eq_getElem (by rw [← hn.out]; exact hlt)⟩
      have hget := mk_get (m := Atom.emk) (c := Atom.ecnt) hx0 k
      have hset := hd (mk_set (m := Atom.emk) (c := Atom.ecnt) hx0 k)
      have hlen := mk_len (m := Atom.emk) (c := Atom.ecnt) l j (by rw [← hn.out]; exact hj) k
      rw [← hn.out] at hlen
      generalize mkS Atom.emk Atom.ecnt (l.take j) k ++ l.drop j = L at *
      have hlt2 : j < L.length := by rw [hlen]; exact hlt
      obtain ⟨b, o, bss, bi, rfl, rfl, hE, hbi, hsub, hr, hrow⟩ := Sl.at' hS hO hlt2 hget
      have hL := hd hlen
      clear hget hlen
      have hx := hd hx0
      have hsucc := hd (vY (c := Atom.ecnt) hx0)
      have hadd := zU (c := Atom.ecnt) hx0
      have hle := hd hadd
      clear hx0 hadd
      obtain ⟨hnb, hoi⟩ := zY.split hO hbi
      have hbi_in : xX bi wr := fun c hc => hO.inMem c (hsub c hc)
      obtain ⟨v1, b1, c0, r0, c1, r1, hbi0⟩ := hr
      obtain ⟨a1, n1, rfl⟩ := r1.val
      simp only [Nat.add_zero] at c0 c1
      have hrf : ∀ m, wr.frozen? ⟨b, m, none⟩ = false := by obtain ⟨cur, e, hh⟩ := hrow; exact fun m => (zY.cell0 hh m).2
      generalize hcc : qM Atom.ecnt (l.take j) = cc at *
      clear hcc
      obtain ⟨y1, hy1⟩ : ∃ y : Nat, y = qM cI x.args := ⟨_, rfl⟩
      have hec : x.ecnt = 1 + y1 := by unfold Atom.ecnt Atom.cnt; rw [hy1]; try omega
      have hec' := hd hec
      have hle2 := hle.out
      rw [hec] at hle2
      clear hec
      have hy1' := hd hy1.symm
      clear hy1
      have hoi' := hoi
      rw [hbi0] at hoi'
      have OW0 : zY B b1 wr := hoi'
      have hin0 : ∀ c ∈ b1, c ∈ bi := fun c hc => by rw [hbi0]; simp [hc]
      have hne0 : ∀ c ∈ b1, c ≠ b := fun c hc e => hnb (e ▸ hin0 c hc)
      have hu0 : Upd b (o + j * 2) (o + j * 2 + 2) bi wr wr := Upd.refl hrow
      have hbs : b < wr.heap.size := kX hrow.choose_spec.choose_spec
      clear hrow
      go_wp2_with fail
      (with_reducible refine (markInt64S_any _ x.args _ b1 B _ ?_ ?_ ?_ ?_).mono ?_)
      · exact r1.same xK.fr (by repeat (first | with_reducible exact xT.refl _ _ | ((with_reducible refine xT.set ?_ ?_ _); rotate_left; focus (intro c hc; exact hne0 c hc))))
      · exact OW0.same (by repeat (first | with_reducible exact xT.refl _ _ | ((with_reducible refine xT.set ?_ ?_ _); rotate_left; focus (intro c hc; exact hne0 c hc))))
      · omega
      · rw [hy1'.out]; omega
      rintro e p0 ⟨rfl, l0, s0, ow0⟩
      rw [hy1'.out]
      have U0 : Upd b (o + j * 2) (o + j * 2 + 2) bi wr p0 := Upd.call (by repeat (first | with_reducible exact hu0 | with_reducible apply Upd.set' | omega)) hin0 hnb l0
      have C0 := l0.cell (fun hc => hnb (hin0 b hc)) (by simpa using hbs)
      have hrf0 : ∀ m, p0.frozen? ⟨b, m, none⟩ = false := by obtain ⟨cur, e, hh⟩ := U0.row; exact fun m => (zY.cell0 hh m).2
      have hbs0 : b < p0.heap.size := Nat.lt_of_lt_of_le hbs U0.only.size
      go_wp2
      go_roundw
      case rel =>
        refine ⟨j + 1, hlt, by go_num, ?_, ?_, ?_, ?_⟩
        · rw [hsucc.out]; rw [hec'.out]; apply congrArg; omega
        · rw [← hset.out]
          exact Sl.upd xU.fr hL.out hc1 (by unfold maxLen; omega) hE hO.1 hO.inMem hlt2 hbi (by repeat (first | with_reducible exact U0 | with_reducible apply Upd.set' | omega)) ⟨_, b1, (show World.cell? _ ⟨b, o + j * 2 + 0, none⟩ = some (.int .i64 (k + cc)) from by simp [cell_set, C0, c0, c1]), (show xY (k + cc) from xY.of ⟨by omega, by omega⟩), (by simp [cell_set, C0, c0, c1]), (s0.same xK.fr (by repeat (first | with_reducible exact xT.refl _ _ | ((with_reducible refine xT.set ?_ ?_ _); rotate_left; focus (intro c hc; exact hne0 c hc))))), hbi0⟩
        · exact zY.upd hO (lo := o + j * 2) (hi := o + j * 2 + 2) (bi := bi) (by repeat (first | with_reducible exact U0 | with_reducible apply Upd.set' | omega)) (by rw [hbi0]; exact (ow0.same (by repeat (first | with_reducible exact xT.refl _ _ | ((with_reducible refine xT.set ?_ ?_ _); rotate_left; focus (intro c hc; exact hne0 c hc))))))
        · exact hU.trans ((Upd.only (b := b) (lo := o + j * 2) (hi := o + j * 2 + 2) (bi := bi) (by repeat (first | with_reducible exact U0 | with_reducible apply Upd.set' | omega))).mono (fun d hd => by rcases List.mem_cons.1 hd with rfl | hd <;> first | (simp; done) | exact hsub d hd))
      case measure => simp [intOf]; omega
    · obtain rfl : j = n := by omega
      have e1 : l.take j = l := List.take_of_length_le (by rw [← hn.out]; exact Nat.le_refl _)
      have e2 : l.drop j = [] := List.drop_of_length_le (by rw [← hn.out]; exact Nat.le_refl _)
      rw [e1, e2, List.append_nil] at hS
      rw [e1]
      clear e1 e2
      go_wp2
      go_ret
      exact ⟨rfl, hU, hS, hO⟩

theorem markFormulaS_any (v : Value) (l : List Formula) (k : Int) (bs : List Nat) (B : Nat) (w : World) (h : Sl 3 xL w v l bs) (ho : zY B bs w) (h0 : 0 ≤ k) (hk : k + (qM Formula.ecnt l : Nat) ≤ 4611686018427387904) :
    Calls Tryz.prog 58 #[v, .int .i64 k] w (Marks 3 xL v (mkS Formula.emk Formula.ecnt l k) bs (k + (qM Formula.ecnt l : Nat)) B w) := by
  obtain ⟨a, c, rfl, hc1, hc2, hc3, -⟩ := h.open
  obtain ⟨n, hn0⟩ : ∃ n, n = l.length := ⟨_, rfl⟩
  have hn := hd hn0
  have h' : Sl 3 xL w (.slice a n c) l bs := by rw [hn0]; exact h
  rw [← hn0] at hc1 ⊢
  clear h hc3 hn0
  go_enter func58, Tryz.ntmps58
  go_wp2
  go_loopw [1, 5] (fun r i wr => ∃ j : Nat, j ≤ n ∧ i = .int .i64 j ∧ r = .int .i64 (k + (qM Formula.ecnt (l.take j) : Nat)) ∧ Sl 3 xL wr (.slice a n c) (mkS Formula.emk Formula.ecnt (l.take j) k ++ l.drop j) bs ∧ zY B bs wr ∧ Only bs w wr) (fun _ i _ => n - (intOf i).toNat)
  case atStart => exact ⟨0, Nat.zero_le _, rfl, by simp [qM], h', ho, Only.refl _ _⟩
  case round =>
    obtain ⟨j, hj, rfl, rfl, hS, hO, hU⟩ := hrel
    clear h' ho
    by_cases hlt : j < n
    · obtain ⟨x, hx0⟩ : ∃ x, l[j]? = some x := ⟨_, List.getElem?_eq_getElem (by rw [← hn.out]; exact hlt)⟩
      have hget := mk_get (m := Formula.emk) (c := Formula.ecnt) hx0 k
      have hset := hd (mk_set (m := Formula.emk) (c := Formula.ecnt) hx0 k)
      have hlen := mk_len (m := Formula.emk) (c := Formula.ecnt) l j (by rw [← hn.out]; exact hj) k
      rw [← hn.out] at hlen
      generalize mkS Formula.emk Formula.ecnt (l.take j) k ++ l.drop j = L at *
      have hlt2 : j < L.length := by rw [hlen]; exact hlt
      obtain ⟨b, o, bss, bi, rfl, rfl, hE, hbi, hsub, hr, hrow⟩ := Sl.at' hS hO hlt2 hget
      have hL := hd hlen
      clear hget hlen
      have hx := hd hx0
      have hsucc := hd (vY (c := Formula.ecnt) hx0)
      have hadd := zU (c := Formula.ecnt) hx0
      have hle := hd hadd
      clear hx0 hadd
      obtain ⟨hnb, hoi⟩ := zY.split hO hbi
      have hbi_in : xX bi wr := fun c hc => hO.inMem c (hsub c hc)
      obtain ⟨v2, b2, c0, r0, c1, r1, c2, r2, hbi0⟩ := hr
      obtain ⟨a2, n2, rfl⟩ := r2.val
      simp only [Nat.add_zero] at c0 c1 c2
      have hrf : ∀ m, wr.frozen? ⟨b, m, none⟩ = false := by obtain ⟨cur, e, hh⟩ := hrow; exact fun m => (zY.cell0 hh m).2
      generalize hcc : qM Formula.ecnt (l.take j) = cc at *
      clear hcc
      obtain ⟨y2, hy2⟩ : ∃ y : Nat, y = qM Atom.ecnt x.atoms := ⟨_, rfl⟩
      have hec : x.ecnt = 2 + y2 := by unfold Formula.ecnt Formula.cnt; rw [hy2]; try omega
      have hec' := hd hec
      have hle2 := hle.out
      rw [hec] at hle2
      clear hec
      have hy2' := hd hy2.symm
      clear hy2
      have hoi' := hoi
      rw [hbi0] at hoi'
      have OW0 : zY B b2 wr := hoi'
      have hin0 : ∀ c ∈ b2, c ∈ bi := fun c hc => by rw [hbi0]; simp [hc]
      have hne0 : ∀ c ∈ b2, c ≠ b := fun c hc e => hnb (e ▸ hin0 c hc)
      have hu0 : Upd b (o + j * 3) (o + j * 3 + 3) bi wr wr := Upd.refl hrow
      have hbs : b < wr.heap.size := kX hrow.choose_spec.choose_spec
      clear hrow
      go_wp2_with fail
      (with_reducible refine (markAtomS_any _ x.atoms _ b2 B _ ?_ ?_ ?_ ?_).mono ?_)
      · exact r2.same xU.fr (by repeat (first | with_reducible exact xT.refl _ _ | ((with_reducible refine xT.set ?_ ?_ _); rotate_left; focus (intro c hc; exact hne0 c hc))))
      · exact OW0.same (by repeat (first | with_reducible exact xT.refl _ _ | ((with_reducible refine xT.set ?_ ?_ _); rotate_left; focus (intro c hc; exact hne0 c hc))))
      · omega
      · rw [hy2'.out]; omega
      rintro e p0 ⟨rfl, l0, s0, ow0⟩
      rw [hy2'.out]
      have U0 : Upd b (o + j * 3) (o + j * 3 + 3) bi wr p0 := Upd.call (by repeat (first | with_reducible exact hu0 | with_reducible apply Upd.set' | omega)) hin0 hnb l0
      have C0 := l0.cell (fun hc => hnb (hin0 b hc)) (by simpa using hbs)
      have hrf0 : ∀ m, p0.frozen? ⟨b, m, none⟩ = false := by obtain ⟨cur, e, hh⟩ := U0.row; exact fun m => (zY.cell0 hh m).2
      have hbs0 : b < p0.heap.size := Nat.lt_of_lt_of_le hbs U0.only.size
      go_wp2
      go_roundw
      case rel =>
        refine ⟨j + 1, hlt, by go_num, ?_, ?_, ?_, ?_⟩
        · rw [hsucc.out]; rw [hec'.out]; apply congrArg; omega
        · rw [← hset.out]
          exact Sl.upd xL.fr hL.out hc1 (by unfold maxLen; omega) hE hO.1 hO.inMem hlt2 hbi (by repeat (first | with_reducible exact U0 | with_reducible apply Upd.set' | omega)) ⟨_, b2, (show World.cell? _ ⟨b, o + j * 3 + 0, none⟩ = some (.int .i64 (k + cc)) from by simp [cell_set, C0, c0, c1, c2]), (show xY (k + cc) from xY.of ⟨by omega, by omega⟩), (show World.cell? _ ⟨b, o + j * 3 + 1, none⟩ = some (.int .i64 (k + cc + 1)) from by simp [cell_set, C0, c0, c1, c2]), (show xY (k + cc + 1) from xY.of ⟨by omega, by omega⟩), (by simp [cell_set, C0, c0, c1, c2]), (s0.same xU.fr (by repeat (first | with_reducible exact xT.refl _ _ | ((with_reducible refine xT.set ?_ ?_ _); rotate_left; focus (intro c hc; exact hne0 c hc))))), hbi0⟩
        · exact zY.upd hO (lo := o + j * 3) (hi := o + j * 3 + 3) (bi := bi) (by repeat (first | with_reducible exact U0 | with_reducible apply Upd.set' | omega)) (by rw [hbi0]; exact (ow0.same (by repeat (first | with_reducible exact xT.refl _ _ | ((with_reducible refine xT.set ?_ ?_ _); rotate_left; focus (intro c hc; exact hne0 c hc))))))
        · exact hU.trans ((Upd.only (b := b) (lo := o + j * 3) (hi := o + j * 3 + 3) (bi := bi) (by repeat (first | with_reducible exact U0 | with_reducible apply Upd.set' | omega))).mono (fun d hd => by rcases List.mem_cons.1 hd with rfl | hd <;> first | (simp; done) | exact hsub d hd))
      case measure => simp [intOf]; omega
    · obtain rfl : j = n := by omega
      have e1 : l.take j = l := List.take_of_length_le (by rw [← hn.out]; exact Nat.le_refl _)
      have e2 : l.drop j = [] := List.drop_of_length_le (by rw [← hn.out]; exact Nat.le_refl _)
      rw [e1, e2, List.append_nil] at hS
      rw [e1]
      clear e1 e2
      go_wp2
      go_ret
      exact ⟨rfl, hU, hS, hO⟩

theorem markGadgets_any (v : Value) (x : Gadgets) (k : Int) (bs : List Nat) (B : Nat) (w : World) (h : qH 1 xV w v x bs) (ho : zY B bs w) (h0 : 0 ≤ k) (hk : k + (x.cnt : Nat) ≤ 4611686018427387904) :
    Calls Tryz.prog 22 #[v, .int .i64 k] w fun e w' => MarksT 1 xV v (x.mkv k) bs (k + (x.cnt : Nat)) B w e w' := by
  obtain ⟨v0, b0, rfl, g0, hbs⟩ := xV.open h
  obtain ⟨a0, n0, rfl⟩ := g0.val
  clear h
  have hoi' := ho
  rw [hbs] at hoi'
  have OW0 : zY B b0 w := hoi'
  obtain ⟨y0, hy0⟩ : ∃ y : Nat, y = qM Formula.ecnt x.formulas := ⟨_, rfl⟩
  have hct : x.cnt = y0 := by unfold Gadgets.cnt; rw [hy0]
  rw [hct] at hk ⊢
  have hbs' := hd hbs
  clear hct hoi' hbs
  have hy0' := hd hy0.symm
  clear hy0
  go_enter func22, Tryz.ntmps22
  go_wp2_with fail
  (with_reducible refine (markFormulaS_any _ x.formulas _ b0 B _ ?_ ?_ ?_ ?_).mono ?_)
  · exact g0.same xL.fr (by repeat (first | with_reducible exact xT.refl _ _ | ((with_reducible refine xT.alloc ?_ ?_ _); rotate_left; focus exact OW0.inMem)))
  · exact OW0.same (by repeat (first | with_reducible exact xT.refl _ _ | ((with_reducible refine xT.alloc ?_ ?_ _); rotate_left; focus exact OW0.inMem)))
  · omega
  · rw [hy0'.out]; omega
  rintro e p0 ⟨rfl, l0, s0, ow0⟩
  rw [hy0'.out]
  have W0 : Only bs w p0 := (Only.of_below (bel1)).trans (l0.mono (fun d hx => by rw [hbs'.out]; simp [hx]))
  have K0 : vS p0 w.heap.size #[.slice a0 x.formulas.length n0] 37 := vS.only blk1 l0 (fun hx => by have := OW0.inMem _ hx; omega)
  have C0 := K0.cell
  go_wp2
  go_ret
  refine ⟨ret64 (by omega), W0, ?_, ?_⟩
  · rw [hbs'.out]; refine xV.mk' (x := x.mkv k) ?_
    · exact (s0.same xL.fr (xT.refl _ _))
  · rw [hbs'.out]; exact (ow0.same (xT.refl _ _))

end Go.Proofs.YtmgdjaiaekhkgaaGreat
