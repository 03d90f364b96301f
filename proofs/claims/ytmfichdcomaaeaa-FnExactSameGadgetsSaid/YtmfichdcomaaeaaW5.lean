/-
  Contracts of what compares: lists of numbers, atoms, formulas, gadgets; on both sides.
-/
import Derived.Test.YtmfichdcomaaeaaW1
import Derived.Test.YtmfichdcomaaeaaA
import Derived.Test.YtmfichdcomaaeaaL3
import Derived.BigRegion
import Derived.RegionTactic
import Derived.Lib.QuietBelow
namespace Go.Proofs.Ytmfichdcomaaeaa
set_option linter.unusedVariables false
set_option linter.unusedSimpArgs false
open Go.RowKit Go.Sort
set_option maxRecDepth 100000

/-- Are two data one? -/
noncomputable def eqB {α : Type} (x y : α) : Bool := @decide (x = y) (Classical.propDecidable _)
theorem eqB_true {α : Type} {x y : α} (h : x = y) : eqB x y = true := by unfold eqB; exact @decide_eq_true _ (Classical.propDecidable _) h
theorem eqB_false {α : Type} {x y : α} (h : x ≠ y) : eqB x y = false := by unfold eqB; exact @decide_eq_false _ (Classical.propDecidable _) h
theorem eqB_iff {α : Type} {x y : α} : eqB x y = true ↔ x = y := by unfold eqB; exact @decide_eq_true_iff _ (Classical.propDecidable _)
theorem eqB_congr {α β : Type} {x y : α} {z u : β} (h : x = y ↔ z = u) : eqB x y = eqB z u := by
  rw [Bool.eq_iff_iff, eqB_iff, eqB_iff]; exact h
theorem list_eq {α : Type} {l m : List α} (hl : l.length = m.length) (h : ∀ i, i < l.length → l[i]? = m[i]?) : l = m :=
  List.ext_getElem? fun i => if hi : i < l.length then h i hi else by rw [List.getElem?_eq_none (by omega), List.getElem?_eq_none (by omega)]
theorem list_ne {α : Type} {l m : List α} {k : Nat} {x y : α} (hx : l[k]? = some x) (hy : m[k]? = some y) (h : x ≠ y) : l ≠ m := by
  rintro rfl
  rw [hx] at hy
  exact h (Option.some.inj hy)

set_option maxHeartbeats 1000000 in
theorem l00Same_any (v1 v2 : Value) (l m : List Int) (bs1 bs2 : List Nat) (w : World) (h1 : Ints w v1 l bs1) (h2 : Ints w v2 m bs2) (hm1 : InMem bs1 w) (hm2 : InMem bs2 w) :
    Calls Try.prog 172 #[v1, v2] w (Says (.bool (eqB l m)) w) := by
  obtain ⟨a, c, rfl, hc1, hc2, _, hat0⟩ := h1.at
  have hat := hd hat0
  clear hat0 h1
  obtain ⟨a', c', rfl, hc1', hc2', _, hat0⟩ := h2.at
  have hat' := hd hat0
  clear hat0 h2
  by_cases hlen : l.length = m.length
  · have hlen' := hd hlen
    obtain ⟨n, hn⟩ : ∃ n, n = l.length := ⟨_, rfl⟩
    have hn2 : n = m.length := hn.trans hlen
    rw [← hn] at hc1 ⊢
    rw [← hn2] at hc1' ⊢
    have hn' := hd hn
    have hn2' := hd hn2
    clear hn hn2 hlen
    go_enter Try.func172, Try.ntmps172
    go_wp2
    go_loopw [5] (fun i wr => ∃ k : Nat, k ≤ n ∧ i = .int .i64 k ∧ Below w.heap.size w wr ∧ Hd (∀ j, j < k → l[j]? = m[j]?)) (fun i _ => n - (intOf i).toNat)
    case atStart => exact ⟨0, Nat.zero_le _, rfl, Below.refl _ _, ⟨fun j hj => by omega⟩⟩
    case round =>
      obtain ⟨k, hk, rfl, hB, hall⟩ := hrel
      by_cases hlt : k < n
      · obtain ⟨x, b, o, hx0, rfl, hb, -, hcell⟩ := hat.out k (by rw [← hn'.out]; exact hlt)
        obtain ⟨y, b', o', hy0, rfl, hb', -, hcell'⟩ := hat'.out k (by rw [← hn2'.out]; exact hlt)
        have hx := hd hx0
        have hy := hd hy0
        have hcr : wr.cell? ⟨b, o + k, none⟩ = some (.int .i64 x) := ((bcell hB).1 b _ (hm1 b hb)).trans hcell
        have hcr' : wr.cell? ⟨b', o' + k, none⟩ = some (.int .i64 y) := ((bcell hB).1 b' _ (hm2 b' hb')).trans hcell'
        clear hcell hcell' hx0 hy0
        have hlt' : (k : Int) < (n : Int) := by omega
        by_cases hxy : x = y
        · subst hxy
          go_wp2
          go_quiet (fail)
          go_wp2
          go_roundw
          case rel =>
            refine ⟨k + 1, hlt, by go_num, by repeat (first | exact hB | apply Below.drew | apply below_drewN), ⟨fun j hj => ?_⟩⟩
            by_cases hjk : j < k
            · exact hall.out j hjk
            · obtain rfl : j = k := by omega
              rw [hx.out, hy.out]
          case measure => simp [intOf]; omega
        · have hb1 : (x != y) = true := by simp [hxy]
          have hf := hd (eqB_false (list_ne hx.out hy.out hxy))
          clear hxy
          go_wp2
          go_quiet (fail)
          go_wp2
          go_ret
          exact ⟨by rw [hf.out]; rfl, by repeat (first | exact hB | apply Below.drew | apply below_drewN)⟩
      · obtain rfl : k = n := by omega
        have hf := hd (eqB_true (list_eq hlen'.out (by rw [← hn'.out]; exact hall.out)))
        go_wp2
        go_ret
        exact ⟨by rw [hf.out]; rfl, hB⟩
  · have hf := hd (eqB_false (fun h : l = m => hlen (by rw [h])))
    have hl1 : ((l.length : Int) != (m.length : Int)) = true := by simp; omega
    clear hlen
    go_enter Try.func172, Try.ntmps172
    go_wp2
    go_ret
    exact ⟨by rw [hf.out]; rfl, Below.refl _ _⟩
set_option maxHeartbeats 1000000 in
theorem equalI_any (v1 v2 : Value) (l m : List Int) (bs1 bs2 : List Nat) (w : World) (h1 : Ints w v1 l bs1) (h2 : Ints w v2 m bs2) (hm1 : InMem bs1 w) (hm2 : InMem bs2 w) :
    Calls Try.prog 163 #[v1, v2] w (Says (.bool (eqB l m)) w) := by
  obtain ⟨a, c, rfl, hc1, hc2, _, hat0⟩ := h1.at
  have hat := hd hat0
  clear hat0 h1
  obtain ⟨a', c', rfl, hc1', hc2', _, hat0⟩ := h2.at
  have hat' := hd hat0
  clear hat0 h2
  by_cases hlen : l.length = m.length
  · have hlen' := hd hlen
    obtain ⟨n, hn⟩ : ∃ n, n = l.length := ⟨_, rfl⟩
    have hn2 : n = m.length := hn.trans hlen
    rw [← hn] at hc1 ⊢
    rw [← hn2] at hc1' ⊢
    have hn' := hd hn
    have hn2' := hd hn2
    clear hn hn2 hlen
    go_enter Try.func163, Try.ntmps163
    go_wp2
    go_loopw [13] (fun i wr => ∃ k : Nat, k ≤ n ∧ i = .int .i64 k ∧ Below w.heap.size w wr ∧ Hd (∀ j, j < k → l[j]? = m[j]?)) (fun i _ => n - (intOf i).toNat)
    case atStart => exact ⟨0, Nat.zero_le _, rfl, Below.refl _ _, ⟨fun j hj => by omega⟩⟩
    case round =>
      obtain ⟨k, hk, rfl, hB, hall⟩ := hrel
      by_cases hlt : k < n
      · obtain ⟨x, b, o, hx0, rfl, hb, -, hcell⟩ := hat.out k (by rw [← hn'.out]; exact hlt)
        obtain ⟨y, b', o', hy0, rfl, hb', -, hcell'⟩ := hat'.out k (by rw [← hn2'.out]; exact hlt)
        have hx := hd hx0
        have hy := hd hy0
        have hcr : wr.cell? ⟨b, o + k, none⟩ = some (.int .i64 x) := ((bcell hB).1 b _ (hm1 b hb)).trans hcell
        have hcr' : wr.cell? ⟨b', o' + k, none⟩ = some (.int .i64 y) := ((bcell hB).1 b' _ (hm2 b' hb')).trans hcell'
        clear hcell hcell' hx0 hy0
        have hlt' : (k : Int) < (n : Int) := by omega
        by_cases hxy : x = y
        · subst hxy
          go_wp2
          go_quiet (fail)
          go_wp2
          go_roundw
          case rel =>
            refine ⟨k + 1, hlt, by go_num, by repeat (first | exact hB | apply Below.drew | apply below_drewN), ⟨fun j hj => ?_⟩⟩
            by_cases hjk : j < k
            · exact hall.out j hjk
            · obtain rfl : j = k := by omega
              rw [hx.out, hy.out]
          case measure => simp [intOf]; omega
        · have hb1 : (x != y) = true := by simp [hxy]
          have hf := hd (eqB_false (list_ne hx.out hy.out hxy))
          clear hxy
          go_wp2
          go_quiet (fail)
          go_wp2
          go_ret
          exact ⟨by rw [hf.out]; rfl, by repeat (first | exact hB | apply Below.drew | apply below_drewN)⟩
      · obtain rfl : k = n := by omega
        have hf := hd (eqB_true (list_eq hlen'.out (by rw [← hn'.out]; exact hall.out)))
        go_wp2
        go_ret
        exact ⟨by rw [hf.out]; rfl, hB⟩
  · have hf := hd (eqB_false (fun h : l = m => hlen (by rw [h])))
    have hl1 : ((l.length : Int) != (m.length : Int)) = true := by simp; omega
    clear hlen
    go_enter Try.func163, Try.ntmps163
    go_wp2
    go_ret
    exact ⟨by rw [hf.out]; rfl, Below.refl _ _⟩

set_option maxHeartbeats 1000000 in
theorem sameAtom_any (v1 v2 : Value) (x y : Atom) (bs1 bs2 : List Nat) (w : World) (h1 : Agg 2 RAtom w v1 x bs1) (h2 : Agg 2 RAtom w v2 y bs2) (hm1 : InMem bs1 w) (hm2 : InMem bs2 w) :
    Calls Try.prog 128 #[v1, v2] w (Says (.bool (eqB x y)) w) := by
  obtain ⟨v1, b1, rfl, g0, g1, hbs1⟩ := RAtom.open h1
  obtain ⟨a1, n1, rfl⟩ := g1.val
  obtain ⟨u1, d1, rfl, k0, k1, hbs2⟩ := RAtom.open h2
  obtain ⟨e1, m1, rfl⟩ := k1.val
  clear h1 h2
  have hmb1 : InMem b1 w := fun c hc => hm1 c (by rw [hbs1]; simp [hc])
  have hmd1 : InMem d1 w := fun c hc => hm2 c (by rw [hbs2]; simp [hc])
  clear hm1 hm2 hbs1 hbs2
  by_cases hr : x.rel = y.rel
  · have hrb : (x.rel == y.rel) = true := by simp [hr]
    have he := hd (eqB_congr (x := x) (y := y) (z := x.args) (u := y.args) ⟨fun h => by rw [h], fun h => by cases x; cases y; simp_all⟩)
    clear hr
    go_enter Try.func128, Try.ntmps128
    go_wp2_with fail
    (with_reducible refine (equalI_any _ _ x.args y.args b1 d1 _ ?_ ?_ ?_ ?_).mono ?_)
    · exact g1.same RInt.fr (hmb1.same (by repeat (first | with_reducible exact Below.refl _ _ | ((with_reducible refine Below.setCell ?_ ?_ _); rotate_left; focus first | (simp; done) | (simp; omega)) | ((with_reducible refine Below.alloc ?_ ?_ _); rotate_left; focus (first | (simp; done) | (simp; omega))) | with_reducible apply Below.drew)))
    · exact k1.same RInt.fr (hmd1.same (by repeat (first | with_reducible exact Below.refl _ _ | ((with_reducible refine Below.setCell ?_ ?_ _); rotate_left; focus first | (simp; done) | (simp; omega)) | ((with_reducible refine Below.alloc ?_ ?_ _); rotate_left; focus (first | (simp; done) | (simp; omega))) | with_reducible apply Below.drew)))
    · exact hmb1.le (Below.size (B := w.heap.size) (by repeat (first | with_reducible exact Below.refl _ _ | ((with_reducible refine Below.setCell ?_ ?_ _); rotate_left; focus first | (simp; done) | (simp; omega)) | ((with_reducible refine Below.alloc ?_ ?_ _); rotate_left; focus (first | (simp; done) | (simp; omega))) | with_reducible apply Below.drew)))
    · exact hmd1.le (Below.size (B := w.heap.size) (by repeat (first | with_reducible exact Below.refl _ _ | ((with_reducible refine Below.setCell ?_ ?_ _); rotate_left; focus first | (simp; done) | (simp; omega)) | ((with_reducible refine Below.alloc ?_ ?_ _); rotate_left; focus (first | (simp; done) | (simp; omega))) | with_reducible apply Below.drew)))
    rintro e p0 ⟨rfl, l0⟩
    have B0 : Below w.heap.size w p0 := Below.through l0 (by repeat (first | with_reducible exact Below.refl _ _ | ((with_reducible refine Below.setCell ?_ ?_ _); rotate_left; focus first | (simp; done) | (simp; omega)) | ((with_reducible refine Below.alloc ?_ ?_ _); rotate_left; focus (first | (simp; done) | (simp; omega))) | with_reducible apply Below.drew))
    rw [← he.out]
    go_wp2
    go_ret
    exact ⟨rfl, (by repeat (first | with_reducible exact Below.refl _ _ | with_reducible exact B0 | ((with_reducible refine Below.setCell ?_ ?_ _); rotate_left; focus first | (simp; done) | (simp; omega)) | ((with_reducible refine Below.alloc ?_ ?_ _); rotate_left; focus (first | (simp; done) | (simp; omega) | (have := B0.size; simp at *; omega))) | with_reducible apply Below.drew))⟩
  · have hrb : (x.rel == y.rel) = false := by simp [hr]
    have hf := hd (eqB_false (fun h : x = y => hr (by rw [h])))
    clear hr
    go_enter Try.func128, Try.ntmps128
    go_wp2
    go_ret
    exact ⟨by rw [hf.out]; rfl, (by repeat (first | with_reducible exact Below.refl _ _ | ((with_reducible refine Below.setCell ?_ ?_ _); rotate_left; focus first | (simp; done) | (simp; omega)) | ((with_reducible refine Below.alloc ?_ ?_ _); rotate_left; focus (first | (simp; done) | (simp; omega))) | with_reducible apply Below.drew))⟩

set_option maxHeartbeats 1000000 in
theorem l03SameAtom_any (v1 v2 : Value) (x y : Atom) (bs1 bs2 : List Nat) (p1 o1 p2 o2 : Nat) (w : World) (c1 : w.cell? ⟨p1, o1, none⟩ = some (.int .i64 x.rel)) (c2 : w.cell? ⟨p1, o1 + 1, none⟩ = some v1) (d1 : w.cell? ⟨p2, o2, none⟩ = some (.int .i64 y.rel)) (d2 : w.cell? ⟨p2, o2 + 1, none⟩ = some v2)
    (h1 : Ints w v1 x.args bs1) (h2 : Ints w v2 y.args bs2) (hm1 : InMem bs1 w) (hm2 : InMem bs2 w) :
    Calls Try.prog 161 #[.pointer (some ⟨p1, o1, none⟩), .pointer (some ⟨p2, o2, none⟩)] w (Says (.bool (eqB x y)) w) := by
  obtain ⟨a1, n1, rfl⟩ := h1.val
  obtain ⟨e1, m1, rfl⟩ := h2.val
  by_cases hr : x.rel = y.rel
  · have hrb : (x.rel == y.rel) = true := by simp [hr]
    have he := hd (eqB_congr (x := x) (y := y) (z := x.args) (u := y.args) ⟨fun h => by rw [h], fun h => by cases x; cases y; simp_all⟩)
    clear hr
    have cE := hd (show ∀ d os, Calls Try.prog 172 #[.slice a1 x.args.length n1, .slice e1 y.args.length m1] (grow (redrawn w d) os) fun e w'' => e = .returned (.bool (eqB x y)) ∧ ∃ p : Regrown, w'' = grow (redrawn w p.d) p.os from fun d os =>
        he.out ▸ Calls.regrown_of (l00Same_any _ _ x.args y.args bs1 bs2 _ (h1.same RInt.fr (hm1.same (below_regrown w d os))) (h2.same RInt.fr (hm2.same (below_regrown w d os))) (hm1.le (below_regrown w d os).size) (hm2.le (below_regrown w d os).size)))
    have kc1 := cell_regrown c1
    have kc2 := cell_regrown c2
    have kd1 := cell_regrown d1
    have kd2 := cell_regrown d2
    clear h1 h2 he
    go_enter Try.func161, Try.ntmps161
    go_wp2
    refine wp_region_quiet_below (by kernel_rfl) (by kernel_rfl) ?_
    repeat (quiet_step (exact cE.out _ _))
    refine wpQuiet_nil ?_
    intro _ hw'
    obtain ⟨⟨dq, osq⟩, hw''⟩ := hw'
    subst hw''
    have hq := below_regrown w dq osq
    go_wp2
    go_ret
    exact ⟨rfl, hq⟩
  · have hrb : (x.rel == y.rel) = false := by simp [hr]
    have hf := hd (eqB_false (fun h : x = y => hr (by rw [h])))
    clear hr
    go_enter Try.func161, Try.ntmps161
    go_wp2
    go_quiet (fail)
    go_wp2
    go_ret
    exact ⟨by rw [hf.out]; rfl, by repeat (first | exact Below.refl _ _ | apply Below.drew | apply below_drewN)⟩
end Go.Proofs.Ytmfichdcomaaeaa
