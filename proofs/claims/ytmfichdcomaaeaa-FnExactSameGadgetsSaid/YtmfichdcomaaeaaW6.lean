/-
  Contracts of what compares rows of structs: atoms, formulas, gadgets; on both sides.
-/
import Derived.Test.YtmfichdcomaaeaaW5
namespace Go.Proofs.Ytmfichdcomaaeaa
set_option linter.unusedVariables false
set_option linter.unusedSimpArgs false
open Go.RowKit Go.Sort
set_option maxRecDepth 100000

set_option maxHeartbeats 1000000 in
theorem equalAtoms_any (v1 v2 : Value) (l m : List Atom) (bs1 bs2 : List Nat) (w : World) (h1 : Sl 2 RAtom w v1 l bs1) (h2 : Sl 2 RAtom w v2 m bs2) (hm1 : InMem bs1 w) (hm2 : InMem bs2 w) :
    Calls Try.prog 127 #[v1, v2, .func (.func 128) #[] #[]] w (Says (.bool (eqB l m)) w) := by
  have eg' := hd (enters_of Try.func128 (by kernel_rfl) rfl : ∀ args w, (callFunc 128 args).run Try.prog w = .ok (.enter 128 args) w)
  obtain ⟨a, c, rfl, hc1, hc2, _, hat0⟩ := h1.open
  have hat := hd hat0
  clear hat0 h1
  obtain ⟨a', c', rfl, hc1', hc2', _, hat0⟩ := h2.open
  have hat' := hd hat0
  clear hat0 h2
  by_cases hlen : l.length = m.length
  · have hlen' := hd hlen
    obtain ⟨n, hn⟩ : ∃ n, n = l.length := ⟨_, rfl⟩
    have hn2 : n = m.length := hn.trans hlen
    rw [← hn] at hc1 ⊢
    rw [← hn2] at hc1' ⊢
    have hn' := hd hn
    have hn2' := hd hn2
    clear hn hn2 hlen
    go_enter Try.func127, Try.ntmps127
    go_wp2
    go_loopw [17] (fun i wr => ∃ k : Nat, k ≤ n ∧ i = .int .i64 k ∧ Below w.heap.size w wr ∧ Hd (∀ j, j < k → l[j]? = m[j]?)) (fun i _ => n - (intOf i).toNat)
    case atStart => exact ⟨0, Nat.zero_le _, rfl, Below.refl _ _, ⟨fun j hj => by omega⟩⟩
    case round =>
      obtain ⟨k, hk, rfl, hB, hall⟩ := hrel
      by_cases hlt : k < n
      · have hkl : k < l.length := by rw [← hn'.out]; exact hlt
        have hkm : k < m.length := by rw [← hn2'.out]; exact hlt
        obtain ⟨b, o, bss', bi, rfl, rfl, hE, hbi, hsub, hr0⟩ := hat.out k hkl
        clear hE
        obtain ⟨b', o', bss'', bi', rfl, rfl, hE, hbi', hsub', hr0'⟩ := hat'.out k hkm
        clear hE
        obtain ⟨x, hx1⟩ : ∃ x, x = l[k] := ⟨_, rfl⟩
        obtain ⟨y, hy1⟩ : ∃ y, y = m[k] := ⟨_, rfl⟩
        have hx := hd (show l[k]? = some x by rw [hx1]; exact List.getElem?_eq_getElem hkl)
        have hy := hd (show m[k]? = some y by rw [hy1]; exact List.getElem?_eq_getElem hkm)
        rw [← hx1] at hr0
        rw [← hy1] at hr0'
        clear hx1 hy1
        have hr : RAtom wr (fun j => wr.cell? ⟨b, o + k * 2 + j, none⟩) x bi := RAtom.fr _ _ _ _ _ _ hr0 (fun c hc => hB.block c (hm1 c (hsub c hc))) (fun j _ => (bcell hB).1 b _ (hm1 b (by simp)))
        have hbw : InMem bi wr := (fun c hc => Nat.lt_of_lt_of_le (hm1 c (hsub c hc)) hB.size)
        have hr' : RAtom wr (fun j => wr.cell? ⟨b', o' + k * 2 + j, none⟩) y bi' := RAtom.fr _ _ _ _ _ _ hr0' (fun c hc => hB.block c (hm2 c (hsub' c hc))) (fun j _ => (bcell hB).1 b' _ (hm2 b' (by simp)))
        have hbw' : InMem bi' wr := (fun c hc => Nat.lt_of_lt_of_le (hm2 c (hsub' c hc)) hB.size)
        have hbwr : b < wr.heap.size := Nat.lt_of_lt_of_le (hm1 b (by simp)) hB.size
        have hbwr' : b' < wr.heap.size := Nat.lt_of_lt_of_le (hm2 b' (by simp)) hB.size
        clear hr0 hr0' hsub hsub' hbi hbi'
        have hrr := hd hr
        have hrr' := hd hr'
        obtain ⟨v1, b1, c0, r0, c1, r1, hbi0⟩ := hr
        obtain ⟨a1, n1, rfl⟩ := r1.val
        simp only [Nat.add_zero] at c0 c1
        obtain ⟨u1, e1, d0, t0, d1, t1, hbi1⟩ := hr'
        obtain ⟨x1, m1, rfl⟩ := t1.val
        simp only [Nat.add_zero] at d0 d1
        have hagg : Agg 2 RAtom wr (.agg #[.int .i64 x.rel, .slice a1 x.args.length n1]) x bi := Agg.of_cells RAtom.fr hrr.out [.int .i64 x.rel, .slice a1 x.args.length n1] rfl (fun j hj => by
          match j, hj with
          | 0, _ => exact c0.symm
          | 1, _ => exact c1.symm)
        have hagg' : Agg 2 RAtom wr (.agg #[.int .i64 y.rel, .slice x1 y.args.length m1]) y bi' := Agg.of_cells RAtom.fr hrr'.out [.int .i64 y.rel, .slice x1 y.args.length m1] rfl (fun j hj => by
          match j, hj with
          | 0, _ => exact d0.symm
          | 1, _ => exact d1.symm)
        have hlt' : (k : Int) < (n : Int) := by omega
        clear hrr hrr' r0 r1 t0 t1 hbi0 hbi1
        go_wp2_with fail
        (with_reducible refine (sameAtom_any _ _ x y bi bi' _ ?_ ?_ ?_ ?_).mono ?_)
        · exact hagg.same RAtom.fr (hbw.same (by repeat (first | exact Below.refl _ _ | refine Below.alloc ?_ (by simp) _)))
        · exact hagg'.same RAtom.fr (hbw'.same (by repeat (first | exact Below.refl _ _ | refine Below.alloc ?_ (by simp) _)))
        · exact hbw.le (by simp; try omega)
        · exact hbw'.le (by simp; try omega)
        rintro e w1 ⟨rfl, hb1⟩
        have hB1 : Below w.heap.size w w1 := Below.through hb1 (Below.trans hB (Below.mono (B := wr.heap.size) (by repeat (first | exact Below.refl _ _ | refine Below.alloc ?_ (by simp) _)) hB.size))
        by_cases hxy : x = y
        · have hxy' := hd hxy
          rw [eqB_true hxy]
          clear hxy
          go_wp2
          go_roundw
          case rel =>
            refine ⟨k + 1, hlt, by go_num, hB1, ⟨fun j hj => ?_⟩⟩
            by_cases hjk : j < k
            · exact hall.out j hjk
            · obtain rfl : j = k := by omega
              rw [hx.out, hy.out, hxy'.out]
          case measure => simp [intOf]; omega
        · have hf := hd (eqB_false (list_ne hx.out hy.out hxy))
          rw [eqB_false hxy]
          clear hxy
          go_wp2
          go_ret
          exact ⟨by rw [hf.out]; rfl, hB1⟩
      · obtain rfl : k = n := by omega
        have hf := hd (eqB_true (list_eq hlen'.out (by rw [← hn'.out]; exact hall.out)))
        go_wp2
        go_ret
        exact ⟨by rw [hf.out]; rfl, hB⟩
  · have hf := hd (eqB_false (fun h : l = m => hlen (by rw [h])))
    have hl1 : ((l.length : Int) != (m.length : Int)) = true := by simp; omega
    clear hlen
    go_enter Try.func127, Try.ntmps127
    go_wp2
    go_ret
    exact ⟨by rw [hf.out]; rfl, Below.refl _ _⟩

set_option maxHeartbeats 1000000 in
theorem sameFormula_any (v1 v2 : Value) (x y : Formula) (bs1 bs2 : List Nat) (w : World) (h1 : Agg 3 RFormula w v1 x bs1) (h2 : Agg 3 RFormula w v2 y bs2) (hm1 : InMem bs1 w) (hm2 : InMem bs2 w) :
    Calls Try.prog 76 #[v1, v2] w (Says (.bool (eqB x y)) w) := by
  obtain ⟨v1, b1, rfl, g0, g1, g2, hbs1⟩ := RFormula.open h1
  obtain ⟨a1, n1, rfl⟩ := g2.val
  obtain ⟨u1, d1, rfl, k0, k1, k2, hbs2⟩ := RFormula.open h2
  obtain ⟨e1, m1, rfl⟩ := k2.val
  clear h1 h2
  have hmb1 : InMem b1 w := fun c hc => hm1 c (by rw [hbs1]; simp [hc])
  have hmd1 : InMem d1 w := fun c hc => hm2 c (by rw [hbs2]; simp [hc])
  clear hm1 hm2 hbs1 hbs2 g0 g1 k0 k1
  by_cases hr : x.free = y.free
  · have hrb : (x.free == y.free) = true := by simp [hr]
    by_cases hv : x.vars = y.vars
    · have hvb : (x.vars == y.vars) = true := by simp [hv]
      have he := hd (eqB_congr (x := x) (y := y) (z := x.atoms) (u := y.atoms) ⟨fun h => by rw [h], fun h => by cases x; cases y; simp_all⟩)
      clear hr hv
      go_enter Try.func76, Try.ntmps76
      go_wp2_with fail
      (with_reducible refine (equalAtoms_any _ _ x.atoms y.atoms b1 d1 _ ?_ ?_ ?_ ?_).mono ?_)
      · exact g2.same RAtom.fr (hmb1.same (by repeat (first | with_reducible exact Below.refl _ _ | ((with_reducible refine Below.setCell ?_ ?_ _); rotate_left; focus first | (simp; done) | (simp; omega)) | ((with_reducible refine Below.alloc ?_ ?_ _); rotate_left; focus (first | (simp; done) | (simp; omega))) | with_reducible apply Below.drew)))
      · exact k2.same RAtom.fr (hmd1.same (by repeat (first | with_reducible exact Below.refl _ _ | ((with_reducible refine Below.setCell ?_ ?_ _); rotate_left; focus first | (simp; done) | (simp; omega)) | ((with_reducible refine Below.alloc ?_ ?_ _); rotate_left; focus (first | (simp; done) | (simp; omega))) | with_reducible apply Below.drew)))
      · exact hmb1.le (Below.size (B := w.heap.size) (by repeat (first | with_reducible exact Below.refl _ _ | ((with_reducible refine Below.setCell ?_ ?_ _); rotate_left; focus first | (simp; done) | (simp; omega)) | ((with_reducible refine Below.alloc ?_ ?_ _); rotate_left; focus (first | (simp; done) | (simp; omega))) | with_reducible apply Below.drew)))
      · exact hmd1.le (Below.size (B := w.heap.size) (by repeat (first | with_reducible exact Below.refl _ _ | ((with_reducible refine Below.setCell ?_ ?_ _); rotate_left; focus first | (simp; done) | (simp; omega)) | ((with_reducible refine Below.alloc ?_ ?_ _); rotate_left; focus (first | (simp; done) | (simp; omega))) | with_reducible apply Below.drew)))
      rintro e p0 ⟨rfl, l0⟩
      have B0 : Below w.heap.size w p0 := Below.through l0 (by repeat (first | with_reducible exact Below.refl _ _ | ((with_reducible refine Below.setCell ?_ ?_ _); rotate_left; focus first | (simp; done) | (simp; omega)) | ((with_reducible refine Below.alloc ?_ ?_ _); rotate_left; focus (first | (simp; done) | (simp; omega))) | with_reducible apply Below.drew))
      rw [← he.out]
      go_wp2
      go_ret
      exact ⟨rfl, (by repeat (first | with_reducible exact Below.refl _ _ | with_reducible exact B0 | ((with_reducible refine Below.setCell ?_ ?_ _); rotate_left; focus first | (simp; done) | (simp; omega)) | ((with_reducible refine Below.alloc ?_ ?_ _); rotate_left; focus (first | (simp; done) | (simp; omega) | (have := B0.size; simp at *; omega))) | with_reducible apply Below.drew))⟩
    · have hvb : (x.vars == y.vars) = false := by simp [hv]
      have hf := hd (eqB_false (fun h : x = y => hv (by rw [h])))
      clear hr hv
      go_enter Try.func76, Try.ntmps76
      go_wp2
      go_ret
      exact ⟨by rw [hf.out]; rfl, (by repeat (first | with_reducible exact Below.refl _ _ | ((with_reducible refine Below.setCell ?_ ?_ _); rotate_left; focus first | (simp; done) | (simp; omega)) | ((with_reducible refine Below.alloc ?_ ?_ _); rotate_left; focus (first | (simp; done) | (simp; omega))) | with_reducible apply Below.drew))⟩
  · have hrb : (x.free == y.free) = false := by simp [hr]
    have hf := hd (eqB_false (fun h : x = y => hr (by rw [h])))
    clear hr
    go_enter Try.func76, Try.ntmps76
    go_wp2
    go_ret
    exact ⟨by rw [hf.out]; rfl, (by repeat (first | with_reducible exact Below.refl _ _ | ((with_reducible refine Below.setCell ?_ ?_ _); rotate_left; focus first | (simp; done) | (simp; omega)) | ((with_reducible refine Below.alloc ?_ ?_ _); rotate_left; focus (first | (simp; done) | (simp; omega))) | with_reducible apply Below.drew))⟩

set_option maxHeartbeats 1000000 in
theorem equalFormulas_any (v1 v2 : Value) (l m : List Formula) (bs1 bs2 : List Nat) (w : World) (h1 : Sl 3 RFormula w v1 l bs1) (h2 : Sl 3 RFormula w v2 m bs2) (hm1 : InMem bs1 w) (hm2 : InMem bs2 w) :
    Calls Try.prog 75 #[v1, v2, .func (.func 76) #[] #[]] w (Says (.bool (eqB l m)) w) := by
  have eg' := hd (enters_of Try.func76 (by kernel_rfl) rfl : ∀ args w, (callFunc 76 args).run Try.prog w = .ok (.enter 76 args) w)
  obtain ⟨a, c, rfl, hc1, hc2, _, hat0⟩ := h1.open
  have hat := hd hat0
  clear hat0 h1
  obtain ⟨a', c', rfl, hc1', hc2', _, hat0⟩ := h2.open
  have hat' := hd hat0
  clear hat0 h2
  by_cases hlen : l.length = m.length
  · have hlen' := hd hlen
    obtain ⟨n, hn⟩ : ∃ n, n = l.length := ⟨_, rfl⟩
    have hn2 : n = m.length := hn.trans hlen
    rw [← hn] at hc1 ⊢
    rw [← hn2] at hc1' ⊢
    have hn' := hd hn
    have hn2' := hd hn2
    clear hn hn2 hlen
    go_enter Try.func75, Try.ntmps75
    go_wp2
    go_loopw [17] (fun i wr => ∃ k : Nat, k ≤ n ∧ i = .int .i64 k ∧ Below w.heap.size w wr ∧ Hd (∀ j, j < k → l[j]? = m[j]?)) (fun i _ => n - (intOf i).toNat)
    case atStart => exact ⟨0, Nat.zero_le _, rfl, Below.refl _ _, ⟨fun j hj => by omega⟩⟩
    case round =>
      obtain ⟨k, hk, rfl, hB, hall⟩ := hrel
      by_cases hlt : k < n
      · have hkl : k < l.length := by rw [← hn'.out]; exact hlt
        have hkm : k < m.length := by rw [← hn2'.out]; exact hlt
        obtain ⟨b, o, bss', bi, rfl, rfl, hE, hbi, hsub, hr0⟩ := hat.out k hkl
        clear hE
        obtain ⟨b', o', bss'', bi', rfl, rfl, hE, hbi', hsub', hr0'⟩ := hat'.out k hkm
        clear hE
        obtain ⟨x, hx1⟩ : ∃ x, x = l[k] := ⟨_, rfl⟩
        obtain ⟨y, hy1⟩ : ∃ y, y = m[k] := ⟨_, rfl⟩
        have hx := hd (show l[k]? = some x by rw [hx1]; exact List.getElem?_eq_getElem hkl)
        have hy := hd (show m[k]? = some y by rw [hy1]; exact List.getElem?_eq_getElem hkm)
        rw [← hx1] at hr0
        rw [← hy1] at hr0'
        clear hx1 hy1
        have hr : RFormula wr (fun j => wr.cell? ⟨b, o + k * 3 + j, none⟩) x bi := RFormula.fr _ _ _ _ _ _ hr0 (fun c hc => hB.block c (hm1 c (hsub c hc))) (fun j _ => (bcell hB).1 b _ (hm1 b (by simp)))
        have hbw : InMem bi wr := (fun c hc => Nat.lt_of_lt_of_le (hm1 c (hsub c hc)) hB.size)
        have hr' : RFormula wr (fun j => wr.cell? ⟨b', o' + k * 3 + j, none⟩) y bi' := RFormula.fr _ _ _ _ _ _ hr0' (fun c hc => hB.block c (hm2 c (hsub' c hc))) (fun j _ => (bcell hB).1 b' _ (hm2 b' (by simp)))
        have hbw' : InMem bi' wr := (fun c hc => Nat.lt_of_lt_of_le (hm2 c (hsub' c hc)) hB.size)
        have hbwr : b < wr.heap.size := Nat.lt_of_lt_of_le (hm1 b (by simp)) hB.size
        have hbwr' : b' < wr.heap.size := Nat.lt_of_lt_of_le (hm2 b' (by simp)) hB.size
        clear hr0 hr0' hsub hsub' hbi hbi'
        have hrr := hd hr
        have hrr' := hd hr'
        obtain ⟨v1, b1, c0, r0, c1, r1, c2, r2, hbi0⟩ := hr
        obtain ⟨a1, n1, rfl⟩ := r2.val
        simp only [Nat.add_zero] at c0 c1 c2
        obtain ⟨u1, e1, d0, t0, d1, t1, d2, t2, hbi1⟩ := hr'
        obtain ⟨x1, m1, rfl⟩ := t2.val
        simp only [Nat.add_zero] at d0 d1 d2
        have hagg : Agg 3 RFormula wr (.agg #[.int .i64 x.free, .int .i64 x.vars, .slice a1 x.atoms.length n1]) x bi := Agg.of_cells RFormula.fr hrr.out [.int .i64 x.free, .int .i64 x.vars, .slice a1 x.atoms.length n1] rfl (fun j hj => by
          match j, hj with
          | 0, _ => exact c0.symm
          | 1, _ => exact c1.symm
          | 2, _ => exact c2.symm)
        have hagg' : Agg 3 RFormula wr (.agg #[.int .i64 y.free, .int .i64 y.vars, .slice x1 y.atoms.length m1]) y bi' := Agg.of_cells RFormula.fr hrr'.out [.int .i64 y.free, .int .i64 y.vars, .slice x1 y.atoms.length m1] rfl (fun j hj => by
          match j, hj with
          | 0, _ => exact d0.symm
          | 1, _ => exact d1.symm
          | 2, _ => exact d2.symm)
        have hlt' : (k : Int) < (n : Int) := by omega
        clear hrr hrr' r0 r1 r2 t0 t1 t2 hbi0 hbi1
        go_wp2_with fail
        (with_reducible refine (sameFormula_any _ _ x y bi bi' _ ?_ ?_ ?_ ?_).mono ?_)
        · exact hagg.same RFormula.fr (hbw.same (by repeat (first | exact Below.refl _ _ | refine Below.alloc ?_ (by simp) _)))
        · exact hagg'.same RFormula.fr (hbw'.same (by repeat (first | exact Below.refl _ _ | refine Below.alloc ?_ (by simp) _)))
        · exact hbw.le (by simp; try omega)
        · exact hbw'.le (by simp; try omega)
        rintro e w1 ⟨rfl, hb1⟩
        have hB1 : Below w.heap.size w w1 := Below.through hb1 (Below.trans hB (Below.mono (B := wr.heap.size) (by repeat (first | exact Below.refl _ _ | refine Below.alloc ?_ (by simp) _)) hB.size))
        by_cases hxy : x = y
        · have hxy' := hd hxy
          rw [eqB_true hxy]
          clear hxy
          go_wp2
          go_roundw
          case rel =>
            refine ⟨k + 1, hlt, by go_num, hB1, ⟨fun j hj => ?_⟩⟩
            by_cases hjk : j < k
            · exact hall.out j hjk
            · obtain rfl : j = k := by omega
              rw [hx.out, hy.out, hxy'.out]
          case measure => simp [intOf]; omega
        · have hf := hd (eqB_false (list_ne hx.out hy.out hxy))
          rw [eqB_false hxy]
          clear hxy
          go_wp2
          go_ret
          exact ⟨by rw [hf.out]; rfl, hB1⟩
      · obtain rfl : k = n := by omega
        have hf := hd (eqB_true (list_eq hlen'.out (by rw [← hn'.out]; exact hall.out)))
        go_wp2
        go_ret
        exact ⟨by rw [hf.out]; rfl, hB⟩
  · have hf := hd (eqB_false (fun h : l = m => hlen (by rw [h])))
    have hl1 : ((l.length : Int) != (m.length : Int)) = true := by simp; omega
    clear hlen
    go_enter Try.func75, Try.ntmps75
    go_wp2
    go_ret
    exact ⟨by rw [hf.out]; rfl, Below.refl _ _⟩

set_option maxHeartbeats 1000000 in
theorem sameGadgets_any (v1 v2 : Value) (x y : Gadgets) (bs1 bs2 : List Nat) (w : World) (h1 : Agg 1 RGadgets w v1 x bs1) (h2 : Agg 1 RGadgets w v2 y bs2) (hm1 : InMem bs1 w) (hm2 : InMem bs2 w) :
    Calls Try.prog 26 #[v1, v2] w (Says (.bool (eqB x y)) w) := by
  obtain ⟨v1, b1, rfl, g0, hbs1⟩ := RGadgets.open h1
  obtain ⟨a1, n1, rfl⟩ := g0.val
  obtain ⟨u1, d1, rfl, k0, hbs2⟩ := RGadgets.open h2
  obtain ⟨e1, m1, rfl⟩ := k0.val
  clear h1 h2
  have hmb1 : InMem b1 w := fun c hc => hm1 c (by rw [hbs1]; simp [hc])
  have hmd1 : InMem d1 w := fun c hc => hm2 c (by rw [hbs2]; simp [hc])
  clear hm1 hm2 hbs1 hbs2
  have he := hd (eqB_congr (x := x) (y := y) (z := x.formulas) (u := y.formulas) ⟨fun h => by rw [h], fun h => by cases x; cases y; simp_all⟩)
  go_enter Try.func26, Try.ntmps26
  go_wp2_with fail
  (with_reducible refine (equalFormulas_any _ _ x.formulas y.formulas b1 d1 _ ?_ ?_ ?_ ?_).mono ?_)
  · exact g0.same RFormula.fr (hmb1.same (by repeat (first | with_reducible exact Below.refl _ _ | ((with_reducible refine Below.setCell ?_ ?_ _); rotate_left; focus first | (simp; done) | (simp; omega)) | ((with_reducible refine Below.alloc ?_ ?_ _); rotate_left; focus (first | (simp; done) | (simp; omega))) | with_reducible apply Below.drew)))
  · exact k0.same RFormula.fr (hmd1.same (by repeat (first | with_reducible exact Below.refl _ _ | ((with_reducible refine Below.setCell ?_ ?_ _); rotate_left; focus first | (simp; done) | (simp; omega)) | ((with_reducible refine Below.alloc ?_ ?_ _); rotate_left; focus (first | (simp; done) | (simp; omega))) | with_reducible apply Below.drew)))
  · exact hmb1.le (Below.size (B := w.heap.size) (by repeat (first | with_reducible exact Below.refl _ _ | ((with_reducible refine Below.setCell ?_ ?_ _); rotate_left; focus first | (simp; done) | (simp; omega)) | ((with_reducible refine Below.alloc ?_ ?_ _); rotate_left; focus (first | (simp; done) | (simp; omega))) | with_reducible apply Below.drew)))
  · exact hmd1.le (Below.size (B := w.heap.size) (by repeat (first | with_reducible exact Below.refl _ _ | ((with_reducible refine Below.setCell ?_ ?_ _); rotate_left; focus first | (simp; done) | (simp; omega)) | ((with_reducible refine Below.alloc ?_ ?_ _); rotate_left; focus (first | (simp; done) | (simp; omega))) | with_reducible apply Below.drew)))
  rintro e p0 ⟨rfl, l0⟩
  have B0 : Below w.heap.size w p0 := Below.through l0 (by repeat (first | with_reducible exact Below.refl _ _ | ((with_reducible refine Below.setCell ?_ ?_ _); rotate_left; focus first | (simp; done) | (simp; omega)) | ((with_reducible refine Below.alloc ?_ ?_ _); rotate_left; focus (first | (simp; done) | (simp; omega))) | with_reducible apply Below.drew))
  rw [← he.out]
  go_wp2
  go_ret
  exact ⟨rfl, (by repeat (first | with_reducible exact Below.refl _ _ | with_reducible exact B0 | ((with_reducible refine Below.setCell ?_ ?_ _); rotate_left; focus first | (simp; done) | (simp; omega)) | ((with_reducible refine Below.alloc ?_ ?_ _); rotate_left; focus (first | (simp; done) | (simp; omega) | (have := B0.size; simp at *; omega))) | with_reducible apply Below.drew))⟩
end Go.Proofs.Ytmfichdcomaaeaa
