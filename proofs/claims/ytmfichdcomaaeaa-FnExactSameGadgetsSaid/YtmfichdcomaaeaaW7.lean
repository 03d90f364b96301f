/-
  Contracts of the reference's comparisons: formulas and gadgets behind pointers.
-/
import Derived.Test.YtmfichdcomaaeaaW6
namespace Go.Proofs.Ytmfichdcomaaeaa
set_option linter.unusedVariables false
set_option linter.unusedSimpArgs false
open Go.RowKit Go.Sort
set_option maxRecDepth 100000

set_option maxHeartbeats 1000000 in
theorem l03Same_any (v1 v2 : Value) (x y : Formula) (bs1 bs2 : List Nat) (p1 o1 p2 o2 : Nat) (w : World)
    (c0 : w.cell? ⟨p1, o1, none⟩ = some (.int .i64 x.free)) (c1 : w.cell? ⟨p1, o1 + 1, none⟩ = some (.int .i64 x.vars)) (c2 : w.cell? ⟨p1, o1 + 2, none⟩ = some v1)
    (d0 : w.cell? ⟨p2, o2, none⟩ = some (.int .i64 y.free)) (d1 : w.cell? ⟨p2, o2 + 1, none⟩ = some (.int .i64 y.vars)) (d2 : w.cell? ⟨p2, o2 + 2, none⟩ = some v2)
    (hp1 : p1 < w.heap.size) (hp2 : p2 < w.heap.size)
    (h1 : Sl 2 RAtom w v1 x.atoms bs1) (h2 : Sl 2 RAtom w v2 y.atoms bs2) (hm1 : InMem bs1 w) (hm2 : InMem bs2 w) :
    Calls Try.prog 125 #[.pointer (some ⟨p1, o1, none⟩), .pointer (some ⟨p2, o2, none⟩)] w (Says (.bool (eqB x y)) w) := by
  by_cases hfree : x.free = y.free
  · have hfb : (x.free != y.free) = false := by simp [hfree]
    by_cases hvars : x.vars = y.vars
    · have hvb : (x.vars != y.vars) = false := by simp [hvars]
      have he := hd (eqB_congr (x := x) (y := y) (z := x.atoms) (u := y.atoms) ⟨fun h => by rw [h], fun h => by cases x; cases y; simp_all⟩)
      clear hfree hvars
      rw [he.out]
      clear he
      obtain ⟨l, hl⟩ : ∃ l, l = x.atoms := ⟨_, rfl⟩
      obtain ⟨m, hm⟩ : ∃ m, m = y.atoms := ⟨_, rfl⟩
      rw [← hl] at h1 ⊢
      rw [← hm] at h2 ⊢
      clear hl hm
      obtain ⟨a, c, rfl, hc1, hc2, _, hat0⟩ := h1.open
      have hat := hd hat0
      clear hat0 h1
      obtain ⟨a', c', rfl, hc1', hc2', _, hat0⟩ := h2.open
      have hat' := hd hat0
      clear hat0 h2
      by_cases hlen : l.length = m.length
      · have hlen' := hd hlen
        obtain ⟨n, hn⟩ : ∃ n, n = l.length := ⟨_, rfl⟩
        have hn2 : n = m.length := hn.trans hlen
        rw [← hn] at hc1 c2
        rw [← hn2] at hc1' d2
        have hn' := hd hn
        have hn2' := hd hn2
        clear hn hn2 hlen
        go_enter Try.func125, Try.ntmps125
        go_wp2
        go_quiet (fail)
        go_wp2
        go_loopw [5] (fun i wr => ∃ k : Nat, k ≤ n ∧ i = .int .i64 k ∧ Below w.heap.size w wr ∧ Hd (∀ j, j < k → l[j]? = m[j]?)) (fun i _ => n - (intOf i).toNat)
        case atStart => exact ⟨0, Nat.zero_le _, rfl, by repeat (first | exact Below.refl _ _ | apply Below.drew | apply below_drewN), ⟨fun j hj => by omega⟩⟩
        case round =>
          obtain ⟨k, hk, rfl, hB, hall⟩ := hrel
          have kc2 : wr.cell? ⟨p1, o1 + 2, none⟩ = some (.slice a n c) := ((bcell hB).1 p1 _ hp1).trans c2
          have kd2 : wr.cell? ⟨p2, o2 + 2, none⟩ = some (.slice a' n c') := ((bcell hB).1 p2 _ hp2).trans d2
          clear c0 c1 c2 d0 d1 d2
          by_cases hlt : k < n
          · have hkl : k < l.length := by rw [← hn'.out]; exact hlt
            have hkm : k < m.length := by rw [← hn2'.out]; exact hlt
            obtain ⟨b, o, bss', bi, rfl, rfl, hE, hbi, hsub, hr0⟩ := hat.out k hkl
            clear hE
            obtain ⟨b', o', bss'', bi', rfl, rfl, hE, hbi', hsub', hr0'⟩ := hat'.out k hkm
            clear hE
            obtain ⟨x, hx1⟩ : ∃ x, x = l[k] := ⟨_, rfl⟩
            obtain ⟨y, hy1⟩ : ∃ y, y = m[k] := ⟨_, rfl⟩
            have hx := hd (show l[k]? = some x by rw [hx1]; exact List.getElem?_eq_getElem hkl)
            have hy := hd (show m[k]? = some y by rw [hy1]; exact List.getElem?_eq_getElem hkm)
            rw [← hx1] at hr0
            rw [← hy1] at hr0'
            clear hx1 hy1
            have hr : RAtom wr (fun j => wr.cell? ⟨b, o + k * 2 + j, none⟩) x bi := RAtom.fr _ _ _ _ _ _ hr0 (fun c hc => hB.block c (hm1 c (hsub c hc))) (fun j _ => (bcell hB).1 b _ (hm1 b (by simp)))
            have hbw : InMem bi wr := (fun c hc => Nat.lt_of_lt_of_le (hm1 c (hsub c hc)) hB.size)
            have hr' : RAtom wr (fun j => wr.cell? ⟨b', o' + k * 2 + j, none⟩) y bi' := RAtom.fr _ _ _ _ _ _ hr0' (fun c hc => hB.block c (hm2 c (hsub' c hc))) (fun j _ => (bcell hB).1 b' _ (hm2 b' (by simp)))
            have hbw' : InMem bi' wr := (fun c hc => Nat.lt_of_lt_of_le (hm2 c (hsub' c hc)) hB.size)
            have hbwr : b < wr.heap.size := Nat.lt_of_lt_of_le (hm1 b (by simp)) hB.size
            have hbwr' : b' < wr.heap.size := Nat.lt_of_lt_of_le (hm2 b' (by simp)) hB.size
            clear hr0 hr0' hsub hsub' hbi hbi'
            obtain ⟨v1, b1, c0, r0, c1, r1, hbi0⟩ := hr
            simp only [Nat.add_zero] at c0 c1
            obtain ⟨u1, e1, d0, t0, d1, t1, hbi1⟩ := hr'
            simp only [Nat.add_zero] at d0 d1
            subst hbi0 hbi1
            have cE := hd (show ∀ d os, Calls Try.prog 161 #[.pointer (some ⟨b, o + k * 2, none⟩), .pointer (some ⟨b', o' + k * 2, none⟩)] (grow (redrawn wr d) os) fun e w'' => e = .returned (.bool (eqB x y)) ∧ ∃ p : Regrown, w'' = grow (redrawn wr p.d) p.os from fun d os =>
              Calls.regrown_of (l03SameAtom_any _ _ x y bi bi' _ _ _ _ _ (((bcell (below_regrown wr d os)).1 b _ hbwr).trans c0) (((bcell (below_regrown wr d os)).1 b _ hbwr).trans c1) (((bcell (below_regrown wr d os)).1 b' _ hbwr').trans d0) (((bcell (below_regrown wr d os)).1 b' _ hbwr').trans d1) (r1.same RInt.fr (hbw.same (below_regrown wr d os))) (t1.same RInt.fr (hbw'.same (below_regrown wr d os))) (hbw.le (below_regrown wr d os).size) (hbw'.le (below_regrown wr d os).size)))
            have hlt' : (k : Int) < (n : Int) := by omega
            have kkc2 := cell_regrown kc2
            have kkd2 := cell_regrown kd2
            clear c0 c1 d0 d1 r0 r1 t0 t1
            go_wp2
            refine wp_region_quiet_below (by kernel_rfl) (by kernel_rfl) ?_
            repeat (quiet_step (exact cE.out _ _))
            refine wpQuiet_nil ?_
            intro _ hw'
            obtain ⟨⟨dq, osq⟩, hw''⟩ := hw'
            subst hw''
            have hq := below_regrown wr dq osq
            have hB1 := Below.through hq hB
            clear kc2 kd2 kkc2 kkd2
            by_cases hxy : x = y
            · have hxy' := hd hxy
              rw [eqB_true hxy]
              clear hxy
              go_wp2
              go_roundw
              case rel =>
                refine ⟨k + 1, hlt, by go_num, hB1, ⟨fun j hj => ?_⟩⟩
                by_cases hjk : j < k
                · exact hall.out j hjk
                · obtain rfl : j = k := by omega
                  rw [hx.out, hy.out, hxy'.out]
              case measure => simp [intOf]; omega
            · have hf := hd (eqB_false (list_ne hx.out hy.out hxy))
              rw [eqB_false hxy]
              clear hxy
              go_wp2
              go_ret
              exact ⟨by rw [hf.out]; rfl, hB1⟩
          · obtain rfl : k = n := by omega
            have hf := hd (eqB_true (list_eq hlen'.out (by rw [← hn'.out]; exact hall.out)))
            go_wp2
            go_ret
            exact ⟨by rw [hf.out]; rfl, hB⟩
      · have hf := hd (eqB_false (fun h : l = m => hlen (by rw [h])))
        have hl1 : ((l.length : Int) != (m.length : Int)) = true := by simp; omega
        clear hlen
        go_enter Try.func125, Try.ntmps125
        go_wp2
        go_quiet (fail)
        go_wp2
        go_ret
        exact ⟨by rw [hf.out]; rfl, by repeat (first | exact Below.refl _ _ | apply Below.drew | apply below_drewN)⟩
    · have hvb : (x.vars != y.vars) = true := by simp [hvars]
      have hf := hd (eqB_false (fun h : x = y => hvars (by rw [h])))
      clear hfree hvars
      go_enter Try.func125, Try.ntmps125
      go_wp2
      go_quiet (fail)
      go_wp2
      go_ret
      exact ⟨by rw [hf.out]; rfl, by repeat (first | exact Below.refl _ _ | apply Below.drew | apply below_drewN)⟩
  · have hfb : (x.free != y.free) = true := by simp [hfree]
    have hf := hd (eqB_false (fun h : x = y => hfree (by rw [h])))
    clear hfree
    go_enter Try.func125, Try.ntmps125
    go_wp2
    go_quiet (fail)
    go_wp2
    go_ret
    exact ⟨by rw [hf.out]; rfl, by repeat (first | exact Below.refl _ _ | apply Below.drew | apply below_drewN)⟩

set_option maxHeartbeats 1000000 in
theorem l09Same_any (v1 v2 : Value) (x y : Gadgets) (bs1 bs2 : List Nat) (p1 o1 p2 o2 : Nat) (w : World)
    (c2 : w.cell? ⟨p1, o1, none⟩ = some v1) (d2 : w.cell? ⟨p2, o2, none⟩ = some v2)
    (hp1 : p1 < w.heap.size) (hp2 : p2 < w.heap.size)
    (h1 : Sl 3 RFormula w v1 x.formulas bs1) (h2 : Sl 3 RFormula w v2 y.formulas bs2) (hm1 : InMem bs1 w) (hm2 : InMem bs2 w) :
    Calls Try.prog 73 #[.pointer (some ⟨p1, o1, none⟩), .pointer (some ⟨p2, o2, none⟩)] w (Says (.bool (eqB x y)) w) := by
  have he := hd (eqB_congr (x := x) (y := y) (z := x.formulas) (u := y.formulas) ⟨fun h => by rw [h], fun h => by cases x; cases y; simp_all⟩)
  rw [he.out]
  clear he
  obtain ⟨l, hl⟩ : ∃ l, l = x.formulas := ⟨_, rfl⟩
  obtain ⟨m, hm⟩ : ∃ m, m = y.formulas := ⟨_, rfl⟩
  rw [← hl] at h1 ⊢
  rw [← hm] at h2 ⊢
  clear hl hm
  obtain ⟨a, c, rfl, hc1, hc2, _, hat0⟩ := h1.open
  have hat := hd hat0
  clear hat0 h1
  obtain ⟨a', c', rfl, hc1', hc2', _, hat0⟩ := h2.open
  have hat' := hd hat0
  clear hat0 h2
  by_cases hlen : l.length = m.length
  · have hlen' := hd hlen
    obtain ⟨n, hn⟩ : ∃ n, n = l.length := ⟨_, rfl⟩
    have hn2 : n = m.length := hn.trans hlen
    rw [← hn] at hc1 c2
    rw [← hn2] at hc1' d2
    have hn' := hd hn
    have hn2' := hd hn2
    clear hn hn2 hlen
    go_enter Try.func73, Try.ntmps73
    go_wp2
    go_quiet (fail)
    go_wp2
    go_loopw [5] (fun i wr => ∃ k : Nat, k ≤ n ∧ i = .int .i64 k ∧ Below w.heap.size w wr ∧ Hd (∀ j, j < k → l[j]? = m[j]?)) (fun i _ => n - (intOf i).toNat)
    case atStart => exact ⟨0, Nat.zero_le _, rfl, by repeat (first | exact Below.refl _ _ | apply Below.drew | apply below_drewN), ⟨fun j hj => by omega⟩⟩
    case round =>
      obtain ⟨k, hk, rfl, hB, hall⟩ := hrel
      have kc2 : wr.cell? ⟨p1, o1, none⟩ = some (.slice a n c) := ((bcell hB).1 p1 _ hp1).trans c2
      have kd2 : wr.cell? ⟨p2, o2, none⟩ = some (.slice a' n c') := ((bcell hB).1 p2 _ hp2).trans d2
      clear c2 d2
      by_cases hlt : k < n
      · have hkl : k < l.length := by rw [← hn'.out]; exact hlt
        have hkm : k < m.length := by rw [← hn2'.out]; exact hlt
        obtain ⟨b, o, bss', bi, rfl, rfl, hE, hbi, hsub, hr0⟩ := hat.out k hkl
        clear hE
        obtain ⟨b', o', bss'', bi', rfl, rfl, hE, hbi', hsub', hr0'⟩ := hat'.out k hkm
        clear hE
        obtain ⟨x, hx1⟩ : ∃ x, x = l[k] := ⟨_, rfl⟩
        obtain ⟨y, hy1⟩ : ∃ y, y = m[k] := ⟨_, rfl⟩
        have hx := hd (show l[k]? = some x by rw [hx1]; exact List.getElem?_eq_getElem hkl)
        have hy := hd (show m[k]? = some y by rw [hy1]; exact List.getElem?_eq_getElem hkm)
        rw [← hx1] at hr0
        rw [← hy1] at hr0'
        clear hx1 hy1
        have hr : RFormula wr (fun j => wr.cell? ⟨b, o + k * 3 + j, none⟩) x bi := RFormula.fr _ _ _ _ _ _ hr0 (fun c hc => hB.block c (hm1 c (hsub c hc))) (fun j _ => (bcell hB).1 b _ (hm1 b (by simp)))
        have hbw : InMem bi wr := (fun c hc => Nat.lt_of_lt_of_le (hm1 c (hsub c hc)) hB.size)
        have hr' : RFormula wr (fun j => wr.cell? ⟨b', o' + k * 3 + j, none⟩) y bi' := RFormula.fr _ _ _ _ _ _ hr0' (fun c hc => hB.block c (hm2 c (hsub' c hc))) (fun j _ => (bcell hB).1 b' _ (hm2 b' (by simp)))
        have hbw' : InMem bi' wr := (fun c hc => Nat.lt_of_lt_of_le (hm2 c (hsub' c hc)) hB.size)
        have hbwr : b < wr.heap.size := Nat.lt_of_lt_of_le (hm1 b (by simp)) hB.size
        have hbwr' : b' < wr.heap.size := Nat.lt_of_lt_of_le (hm2 b' (by simp)) hB.size
        clear hr0 hr0' hsub hsub' hbi hbi'
        obtain ⟨v1, b1, c0, r0, c1, r1, c2, r2, hbi0⟩ := hr
        simp only [Nat.add_zero] at c0 c1 c2
        obtain ⟨u1, e1, d0, t0, d1, t1, d2, t2, hbi1⟩ := hr'
        simp only [Nat.add_zero] at d0 d1 d2
        subst hbi0 hbi1
        have cE := hd (show ∀ d os, Calls Try.prog 125 #[.pointer (some ⟨b, o + k * 3, none⟩), .pointer (some ⟨b', o' + k * 3, none⟩)] (grow (redrawn wr d) os) fun e w'' => e = .returned (.bool (eqB x y)) ∧ ∃ p : Regrown, w'' = grow (redrawn wr p.d) p.os from fun d os =>
          Calls.regrown_of (l03Same_any _ _ x y bi bi' _ _ _ _ _ (((bcell (below_regrown wr d os)).1 b _ hbwr).trans c0) (((bcell (below_regrown wr d os)).1 b _ hbwr).trans c1) (((bcell (below_regrown wr d os)).1 b _ hbwr).trans c2) (((bcell (below_regrown wr d os)).1 b' _ hbwr').trans d0) (((bcell (below_regrown wr d os)).1 b' _ hbwr').trans d1) (((bcell (below_regrown wr d os)).1 b' _ hbwr').trans d2) (Nat.lt_of_lt_of_le hbwr (below_regrown wr d os).size) (Nat.lt_of_lt_of_le hbwr' (below_regrown wr d os).size) (r2.same RAtom.fr (hbw.same (below_regrown wr d os))) (t2.same RAtom.fr (hbw'.same (below_regrown wr d os))) (hbw.le (below_regrown wr d os).size) (hbw'.le (below_regrown wr d os).size)))
        have hlt' : (k : Int) < (n : Int) := by omega
        have kkc2 := cell_regrown kc2
        have kkd2 := cell_regrown kd2
        clear c0 c1 c2 d0 d1 d2 r0 r1 r2 t0 t1 t2
        go_wp2
        refine wp_region_quiet_below (by kernel_rfl) (by kernel_rfl) ?_
        repeat (quiet_step (exact cE.out _ _))
        refine wpQuiet_nil ?_
        intro _ hw'
        obtain ⟨⟨dq, osq⟩, hw''⟩ := hw'
        subst hw''
        have hq := below_regrown wr dq osq
        have hB1 := Below.through hq hB
        clear kc2 kd2 kkc2 kkd2
        by_cases hxy : x = y
        · have hxy' := hd hxy
          rw [eqB_true hxy]
          clear hxy
          go_wp2
          go_roundw
          case rel =>
            refine ⟨k + 1, hlt, by go_num, hB1, ⟨fun j hj => ?_⟩⟩
            by_cases hjk : j < k
            · exact hall.out j hjk
            · obtain rfl : j = k := by omega
              rw [hx.out, hy.out, hxy'.out]
          case measure => simp [intOf]; omega
        · have hf := hd (eqB_false (list_ne hx.out hy.out hxy))
          rw [eqB_false hxy]
          clear hxy
          go_wp2
          go_ret
          exact ⟨by rw [hf.out]; rfl, hB1⟩
      · obtain rfl : k = n := by omega
        have hf := hd (eqB_true (list_eq hlen'.out (by rw [← hn'.out]; exact hall.out)))
        go_wp2
        go_ret
        exact ⟨by rw [hf.out]; rfl, hB⟩
  · have hf := hd (eqB_false (fun h : l = m => hlen (by rw [h])))
    have hl1 : ((l.length : Int) != (m.length : Int)) = true := by simp; omega
    clear hlen
    go_enter Try.func73, Try.ntmps73
    go_wp2
    go_quiet (fail)
    go_wp2
    go_ret
    exact ⟨by rw [hf.out]; rfl, by repeat (first | exact Below.refl _ _ | apply Below.drew | apply below_drewN)⟩

set_option maxHeartbeats 1000000 in
theorem specSameGadgets_any (v1 v2 : Value) (x y : Gadgets) (bs1 bs2 : List Nat) (w : World) (h1 : Agg 1 RGadgets w v1 x bs1) (h2 : Agg 1 RGadgets w v2 y bs2) (hm1 : InMem bs1 w) (hm2 : InMem bs2 w) :
    Calls Try.prog 24 #[v1, v2] w (Says (.bool (eqB x y)) w) := by
  obtain ⟨v1, b1, rfl, g0, hbs1⟩ := RGadgets.open h1
  obtain ⟨a1, n1, rfl⟩ := g0.val
  obtain ⟨u1, d1, rfl, k0, hbs2⟩ := RGadgets.open h2
  obtain ⟨e1, m1, rfl⟩ := k0.val
  clear h1 h2
  rw [hbs1] at hm1
  rw [hbs2] at hm2
  clear hbs1 hbs2
  have hK1 : Blk ((w.alloc (.cells #[.slice a1 x.formulas.length n1] 49)).alloc (.cells #[.slice e1 y.formulas.length m1] 49)) w.heap.size #[.slice a1 x.formulas.length n1] 49 := Blk.old (Blk.new rfl) _
  have hK2 : Blk ((w.alloc (.cells #[.slice a1 x.formulas.length n1] 49)).alloc (.cells #[.slice e1 y.formulas.length m1] 49)) (w.heap.size + 1) #[.slice e1 y.formulas.length m1] 49 := Blk.new (by simp)
  go_enter Try.func24, Try.ntmps24
  go_wp2_with fail
  (with_reducible refine (l09Same_any _ _ x y b1 d1 _ _ _ _ _ (hK1.cell 0) (hK2.cell 0) hK1.lt hK2.lt ?_ ?_ ?_ ?_).mono ?_)
  · exact g0.same RFormula.fr (hm1.same (by repeat (first | with_reducible exact Below.refl _ _ | ((with_reducible refine Below.setCell ?_ ?_ _); rotate_left; focus first | (simp; done) | (simp; omega)) | ((with_reducible refine Below.alloc ?_ ?_ _); rotate_left; focus (first | (simp; done) | (simp; omega))) | with_reducible apply Below.drew)))
  · exact k0.same RFormula.fr (hm2.same (by repeat (first | with_reducible exact Below.refl _ _ | ((with_reducible refine Below.setCell ?_ ?_ _); rotate_left; focus first | (simp; done) | (simp; omega)) | ((with_reducible refine Below.alloc ?_ ?_ _); rotate_left; focus (first | (simp; done) | (simp; omega))) | with_reducible apply Below.drew)))
  · exact hm1.le (Below.size (B := w.heap.size) (by repeat (first | with_reducible exact Below.refl _ _ | ((with_reducible refine Below.setCell ?_ ?_ _); rotate_left; focus first | (simp; done) | (simp; omega)) | ((with_reducible refine Below.alloc ?_ ?_ _); rotate_left; focus (first | (simp; done) | (simp; omega))) | with_reducible apply Below.drew)))
  · exact hm2.le (Below.size (B := w.heap.size) (by repeat (first | with_reducible exact Below.refl _ _ | ((with_reducible refine Below.setCell ?_ ?_ _); rotate_left; focus first | (simp; done) | (simp; omega)) | ((with_reducible refine Below.alloc ?_ ?_ _); rotate_left; focus (first | (simp; done) | (simp; omega))) | with_reducible apply Below.drew)))
  rintro e p0 ⟨rfl, l0⟩
  have B0 : Below w.heap.size w p0 := Below.through l0 (by repeat (first | with_reducible exact Below.refl _ _ | ((with_reducible refine Below.setCell ?_ ?_ _); rotate_left; focus first | (simp; done) | (simp; omega)) | ((with_reducible refine Below.alloc ?_ ?_ _); rotate_left; focus (first | (simp; done) | (simp; omega))) | with_reducible apply Below.drew))
  go_wp2
  go_ret
  exact ⟨rfl, B0⟩
end Go.Proofs.Ytmfichdcomaaeaa
