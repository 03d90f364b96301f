/-
  Contracts of the laws' own helpers: of Deed, Line, Literal, Equation. Printed by gen_law.py.
-/
import Derived.Test.YtjjdbdlbjdoebaaDoorRows
import Derived.Test.YtjjdbdlbjdoebaaDoorT
import Derived.BigQuiet
import Derived.Lib.QuietBelow
import Derived.Test.YtjjdbdlbjdoebaaDoorL1
namespace Go.Proofs.YtjjdbdlbjdoebaaDoor
set_option linter.unusedVariables false
set_option linter.unusedSimpArgs false
open Go.RowKit Go.Sort
set_option maxRecDepth 100000
set_option maxHeartbeats 1000000 in
theorem toDeed_any (v : Value) (x : Deed) (bs : List Nat) (w : World) (h : Agg 3 RDeed w v x bs) (_hm : InMem bs w) :
    Calls Tryd.prog 18 #[v] w (RetAgg 3 RDeed x w) := by
  obtain ⟨rfl, g0, g1, g2, hbs⟩ := RDeed.open h
  clear h
  clear hbs
  go_enter Tryd.func18, Tryd.ntmps18
  go_wp2
  refine bodyPost_ret (v := .agg #[.int .i64 x.kind, .int .i64 x.a, .int .i64 x.b]) (by simp [results, Tryd.results18, go_sem]) rfl ?_
  refine ⟨_, _, rfl, RDeed.mk' g0 g1 g2, ?_, ?_⟩
  · exact Own.nil _ _
  · exact (by repeat (first | with_reducible exact Below.refl _ _ | ((with_reducible refine Below.setCell ?_ ?_ _); rotate_left; focus first | (simp; done) | (simp; omega)) | ((with_reducible refine Below.alloc ?_ ?_ _); rotate_left; focus (first | (simp; done) | (simp; omega))) | with_reducible apply Below.drew))

set_option maxHeartbeats 1000000 in
theorem toLine_any (v : Value) (x : Line) (bs : List Nat) (w : World) (h : Agg 4 RLine w v x bs) (_hm : InMem bs w) :
    Calls Tryd.prog 10 #[v] w (RetAgg 4 RLine x w) := by
  obtain ⟨rfl, g0, g1, g2, g3, hbs⟩ := RLine.open h
  clear h
  clear hbs
  go_enter Tryd.func10, Tryd.ntmps10
  go_wp2
  refine bodyPost_ret (v := .agg #[.int .i64 x.kind, .int .i64 x.var, .int .i64 x.value, .int .i64 x.con]) (by simp [results, Tryd.results10, go_sem]) rfl ?_
  refine ⟨_, _, rfl, RLine.mk' g0 g1 g2 g3, ?_, ?_⟩
  · exact Own.nil _ _
  · exact (by repeat (first | with_reducible exact Below.refl _ _ | ((with_reducible refine Below.setCell ?_ ?_ _); rotate_left; focus first | (simp; done) | (simp; omega)) | ((with_reducible refine Below.alloc ?_ ?_ _); rotate_left; focus (first | (simp; done) | (simp; omega))) | with_reducible apply Below.drew))

set_option maxHeartbeats 1000000 in
theorem toLineS_any (v : Value) (l : List Line) (bs : List Nat) (w : World) (h : Sl 4 RLine w v l bs) (hm : InMem bs w) (hs : l.length ≤ 1048576) :
    Calls Tryd.prog 14 #[v] w (RetSl 4 RLine l w) := by
  have hl : l.length ≤ 1048576 := hs
  obtain ⟨a, c, rfl, hc1, hc2, hc3, hat0⟩ := h.open
  have hat := hd hat0
  have hs' := hd hs
  clear hat0 hc3 h hs
  have hmk := make_n (P := Tryd.prog) (t := 31) (e := 25) (z := .agg #[.int .i64 0, .int .i64 0, .int .i64 0, .int .i64 0]) (size := 4) (bytes := 32) (by kernel_rfl) (by kernel_rfl) l.length (by omega) (by omega)
  go_enter Tryd.func14, Tryd.ntmps14
  go_wp2
  go_loopw [4] (fun i wr => ∃ (k : Nat) (cur : Array Value) (bss : List (List Nat)), k ≤ l.length ∧ i = .int .i64 k ∧ Made 4 RLine 25 w l w.heap.size l.length k wr cur bss) (fun i _ => l.length - (intOf i).toNat)
  case atStart => exact ⟨0, _, [], Nat.zero_le _, rfl, Made.start 4 RLine _ w l l.length _ (by simp [size_madeCells])⟩
  case round =>
    obtain ⟨k, cur, bss, hk, rfl, hM⟩ := hrel
    by_cases hlt : k < l.length
    · obtain ⟨b, o, bss', bi, rfl, rfl, hE, hbi, hsub, hr0⟩ := hat.out k hlt
      clear hE
      obtain ⟨x, hx0, hx1⟩ : ∃ x, l[k]? = some x ∧ x = l[k] := ⟨_, List.getElem?_eq_getElem hlt, rfl⟩
      rw [← hx1] at hr0
      have hx := hd hx0
      clear hx0 hx1
      have hr : RLine wr (fun j => wr.cell? ⟨b, o + k * 4 + j, none⟩) x bi := RLine.fr _ _ _ _ _ _ hr0 (fun c hc => hM.below.block c (hm c (hsub c hc))) (fun j _ => (bcell hM.below).1 b _ (hm b (by simp)))
      have hbw : InMem bi wr := (fun c hc => Nat.lt_of_lt_of_le (hm c (hsub c hc)) hM.below.size)
      clear hr0 hm hsub hbi
      have hrr := hd hr
      obtain ⟨c0, r0, c1, r1, c2, r2, c3, r3, hbi0⟩ := hr
      simp only [Nat.add_zero] at c0 c1 c2 c3
      have hagg : Agg 4 RLine wr (.agg #[.int .i64 x.kind, .int .i64 x.var, .int .i64 x.value, .int .i64 x.con]) x bi := Agg.of_cells RLine.fr hrr.out [.int .i64 x.kind, .int .i64 x.var, .int .i64 x.value, .int .i64 x.con] rfl (fun j hj => by
        match j, hj with
        | 0, _ => exact c0.symm
        | 1, _ => exact c1.symm
        | 2, _ => exact c2.symm
        | 3, _ => exact c3.symm)
      clear hrr
      go_wp2_with fail
      (with_reducible refine (toLine_any _ x bi _ hagg hbw).mono ?_)
      rintro e w1 ⟨v', bs', rfl, hv, ho, hb⟩
      obtain ⟨rfl, g0, g1, g2, g3, rfl⟩ := RLine.open hv
      obtain ⟨⟨u0, e0⟩, f0⟩ := hM.room hlt hb 0 (by omega)
      obtain ⟨⟨u1, e1⟩, f1⟩ := hM.room hlt hb 1 (by omega)
      obtain ⟨⟨u2, e2⟩, f2⟩ := hM.room hlt hb 2 (by omega)
      obtain ⟨⟨u3, e3⟩, f3⟩ := hM.room hlt hb 3 (by omega)
      rw [Nat.add_zero] at e0 f0
      go_wp2
      go_round
      case rel =>
        obtain ⟨cur', hM'⟩ := hM.step RLine.fr hlt hb (vs := [.int .i64 x.kind, .int .i64 x.var, .int .i64 x.value, .int .i64 x.con]) rfl hx.out ⟨rfl, g0, rfl, g1, rfl, g2, rfl, g3, rfl⟩ ho
        exact ⟨k + 1, cur', _, hlt, by go_num, hM'⟩
      case measure => simp [intOf]; omega
    · obtain rfl : k = l.length := by omega
      go_wp2
      go_ret
      exact ⟨_, _, rfl, (hM.done RLine.fr (by unfold maxLen; omega)).1, (hM.done RLine.fr (by unfold maxLen; omega)).2, hM.below⟩

set_option maxHeartbeats 1000000 in
theorem szLineS_any (v : Value) (l : List Line) (left : Int) (bs : List Nat) (w : World) (h : Sl 4 RLine w v l bs) (_hm : InMem bs w) (h0 : 0 ≤ left) (h1 : left ≤ 1048576) :
    Calls Tryd.prog 12 #[v, .int .i64 left] w (Says (.int .i64 (szR left (l.length))) w) := by
  obtain ⟨a, c, rfl, hc1, hc2, _⟩ := h.open
  clear h
  by_cases hle : (l.length : Int) ≤ left
  · rw [show szR left l.length = left - l.length from if_pos hle]
    have hle2 : ¬ (left - (l.length : Int) < 0) := by omega
    go_enter Tryd.func12, Tryd.ntmps12
    go_wp2
    go_ret
    exact ⟨rfl, Below.refl _ _⟩
  · rw [show szR left l.length = -1 from if_neg hle]
    have hle2 : left - (l.length : Int) < 0 := by omega
    go_enter Tryd.func12, Tryd.ntmps12
    go_wp2
    go_ret
    exact ⟨rfl, Below.refl _ _⟩

set_option maxHeartbeats 1000000 in
theorem eqDeed_any (v1 v2 : Value) (x : Deed) (bs1 bs2 : List Nat) (w : World) (h1 : Agg 3 RDeed w v1 x bs1) (h2 : Agg 3 RDeed w v2 x bs2) (_hm1 : InMem bs1 w) (_hm2 : InMem bs2 w) :
    Calls Tryd.prog 27 #[v1, v2] w (Says (.bool true) w) := by
  obtain ⟨rfl, g0, g1, g2, hbs1⟩ := RDeed.open h1
  obtain ⟨rfl, k0, k1, k2, hbs2⟩ := RDeed.open h2
  clear h1 h2
  clear hbs1 hbs2
  go_enter Tryd.func27, Tryd.ntmps27
  go_wp2
  go_ret
  exact ⟨rfl, (by repeat (first | with_reducible exact Below.refl _ _ | ((with_reducible refine Below.setCell ?_ ?_ _); rotate_left; focus first | (simp; done) | (simp; omega)) | ((with_reducible refine Below.alloc ?_ ?_ _); rotate_left; focus (first | (simp; done) | (simp; omega))) | with_reducible apply Below.drew))⟩

set_option maxHeartbeats 1000000 in
theorem eqLine_any (v1 v2 : Value) (x : Line) (bs1 bs2 : List Nat) (w : World) (h1 : Agg 4 RLine w v1 x bs1) (h2 : Agg 4 RLine w v2 x bs2) (_hm1 : InMem bs1 w) (_hm2 : InMem bs2 w) :
    Calls Tryd.prog 30 #[v1, v2] w (Says (.bool true) w) := by
  obtain ⟨rfl, g0, g1, g2, g3, hbs1⟩ := RLine.open h1
  obtain ⟨rfl, k0, k1, k2, k3, hbs2⟩ := RLine.open h2
  clear h1 h2
  clear hbs1 hbs2
  go_enter Tryd.func30, Tryd.ntmps30
  go_wp2
  go_ret
  exact ⟨rfl, (by repeat (first | with_reducible exact Below.refl _ _ | ((with_reducible refine Below.setCell ?_ ?_ _); rotate_left; focus first | (simp; done) | (simp; omega)) | ((with_reducible refine Below.alloc ?_ ?_ _); rotate_left; focus (first | (simp; done) | (simp; omega))) | with_reducible apply Below.drew))⟩

set_option maxHeartbeats 1000000 in
theorem eqLineS_any (v1 v2 : Value) (l : List Line) (bs1 bs2 : List Nat) (w : World) (h1 : Sl 4 RLine w v1 l bs1) (h2 : Sl 4 RLine w v2 l bs2) (hm1 : InMem bs1 w) (hm2 : InMem bs2 w) :
    Calls Tryd.prog 16 #[v1, v2] w (Says (.bool true) w) := by
  obtain ⟨a, c, rfl, hc1, hc2, _, hat0⟩ := h1.open
  have hat := hd hat0
  clear hat0 h1
  obtain ⟨a', c', rfl, hc1', hc2', _, hat0⟩ := h2.open
  have hat' := hd hat0
  clear hat0 h2
  go_enter Tryd.func16, Tryd.ntmps16
  go_wp2
  go_loopw [5] (fun i wr => ∃ k : Nat, k ≤ l.length ∧ i = .int .i64 k ∧ Below w.heap.size w wr) (fun i _ => l.length - (intOf i).toNat)
  case atStart => exact ⟨0, Nat.zero_le _, rfl, Below.refl _ _⟩
  case round =>
    obtain ⟨k, hk, rfl, hB⟩ := hrel
    by_cases hlt : k < l.length
    · obtain ⟨b, o, bss', bi, rfl, rfl, hE, hbi, hsub, hr0⟩ := hat.out k hlt
      clear hE
      obtain ⟨b', o', bss'', bi', rfl, rfl, hE, hbi', hsub', hr0'⟩ := hat'.out k hlt
      clear hE
      obtain ⟨x, hx1⟩ : ∃ x, x = l[k] := ⟨_, rfl⟩
      rw [← hx1] at hr0 hr0'
      clear hx1
      have hr : RLine wr (fun j => wr.cell? ⟨b, o + k * 4 + j, none⟩) x bi := RLine.fr _ _ _ _ _ _ hr0 (fun c hc => hB.block c (hm1 c (hsub c hc))) (fun j _ => (bcell hB).1 b _ (hm1 b (by simp)))
      have hbw : InMem bi wr := (fun c hc => Nat.lt_of_lt_of_le (hm1 c (hsub c hc)) hB.size)
      have hr' : RLine wr (fun j => wr.cell? ⟨b', o' + k * 4 + j, none⟩) x bi' := RLine.fr _ _ _ _ _ _ hr0' (fun c hc => hB.block c (hm2 c (hsub' c hc))) (fun j _ => (bcell hB).1 b' _ (hm2 b' (by simp)))
      have hbw' : InMem bi' wr := (fun c hc => Nat.lt_of_lt_of_le (hm2 c (hsub' c hc)) hB.size)
      clear hr0 hr0' hm1 hm2 hsub hsub' hbi hbi'
      have hrr := hd hr
      have hrr' := hd hr'
      obtain ⟨c0, r0, c1, r1, c2, r2, c3, r3, hbi0⟩ := hr
      simp only [Nat.add_zero] at c0 c1 c2 c3
      obtain ⟨d0, t0, d1, t1, d2, t2, d3, t3, hbi1⟩ := hr'
      simp only [Nat.add_zero] at d0 d1 d2 d3
      have hagg : Agg 4 RLine wr (.agg #[.int .i64 x.kind, .int .i64 x.var, .int .i64 x.value, .int .i64 x.con]) x bi := Agg.of_cells RLine.fr hrr.out [.int .i64 x.kind, .int .i64 x.var, .int .i64 x.value, .int .i64 x.con] rfl (fun j hj => by
        match j, hj with
        | 0, _ => exact c0.symm
        | 1, _ => exact c1.symm
        | 2, _ => exact c2.symm
        | 3, _ => exact c3.symm)
      have hagg' : Agg 4 RLine wr (.agg #[.int .i64 x.kind, .int .i64 x.var, .int .i64 x.value, .int .i64 x.con]) x bi' := Agg.of_cells RLine.fr hrr'.out [.int .i64 x.kind, .int .i64 x.var, .int .i64 x.value, .int .i64 x.con] rfl (fun j hj => by
        match j, hj with
        | 0, _ => exact d0.symm
        | 1, _ => exact d1.symm
        | 2, _ => exact d2.symm
        | 3, _ => exact d3.symm)
      have cE := hd (show ∀ d os, Calls Tryd.prog 30 #[.agg #[.int .i64 x.kind, .int .i64 x.var, .int .i64 x.value, .int .i64 x.con], .agg #[.int .i64 x.kind, .int .i64 x.var, .int .i64 x.value, .int .i64 x.con]] (grow (redrawn wr d) os) fun e w'' => e = .returned (.bool true) ∧ ∃ p : Regrown, w'' = grow (redrawn wr p.d) p.os from fun d os =>
        Calls.regrown_of (eqLine_any _ _ x bi bi' _ (hagg.same RLine.fr (hbw.same (below_regrown wr d os))) (hagg'.same RLine.fr (hbw'.same (below_regrown wr d os))) (hbw.le (below_regrown wr d os).size) (hbw'.le (below_regrown wr d os).size)))
      have kc0 := cell_regrown c0
      have kd0 := cell_regrown d0
      have kc1 := cell_regrown c1
      have kd1 := cell_regrown d1
      have kc2 := cell_regrown c2
      have kd2 := cell_regrown d2
      have kc3 := cell_regrown c3
      have kd3 := cell_regrown d3
      have hlt' : (k : Int) < (l.length : Int) := by omega
      clear hrr hrr'
      go_wp2
      refine wp_region_quiet_below (by kernel_rfl) (by kernel_rfl) ?_
      repeat (quiet_step (exact cE.out _ _))
      refine wpQuiet_nil ?_
      intro _ hw'
      obtain ⟨⟨dq, osq⟩, hw''⟩ := hw'
      subst hw''
      have hq := below_regrown wr dq osq
      clear kc0 kd0 kc1 kd1 kc2 kd2 kc3 kd3
      go_wp2
      go_roundw
      case rel => exact ⟨k + 1, hlt, by go_num, Below.through hq hB⟩
      case measure => simp [intOf]; omega
    · obtain rfl : k = l.length := by omega
      go_wp2
      go_ret
      exact ⟨rfl, hB⟩

end Go.Proofs.YtjjdbdlbjdoebaaDoor
