/-
  Contracts of the laws' own helpers: of Deed, Line, Literal, Equation. Printed by gen_law.py.
-/
import Derived.Test.YtfggmelojaicfaaGreatRows
import Derived.Test.YtfggmelojaicfaaGreatT
import Derived.BigQuiet
import Derived.Lib.QuietBelow
import Derived.Test.YtfggmelojaicfaaGreatL1
namespace Go.Proofs.YtfggmelojaicfaaGreat
set_option linter.unusedVariables false
set_option linter.unusedSimpArgs false
open Go.RowKit Go.Sort
set_option maxRecDepth 100000
set_option maxHeartbeats 1000000 in
theorem toLiteral_any (v : Value) (x : Literal) (bs : List Nat) (w : World) (h : Agg 2 RLiteral w v x bs) (_hm : InMem bs w) :
    Calls Tryz.prog 167 #[v] w (RetAgg 2 RLiteral x w) := by
  obtain ⟨rfl, g0, g1, hbs⟩ := RLiteral.open h
  clear h
  clear hbs
  go_enter Tryz.func167, Tryz.ntmps167
  go_wp2
  refine bodyPost_ret (v := .agg #[.int .i64 x.var, .int .i64 x.value]) (by simp [results, Tryz.results167, go_sem]) rfl ?_
  refine ⟨_, _, rfl, RLiteral.mk' g0 g1, ?_, ?_⟩
  · exact Own.nil _ _
  · exact (by repeat (first | with_reducible exact Below.refl _ _ | ((with_reducible refine Below.setCell ?_ ?_ _); rotate_left; focus first | (simp; done) | (simp; omega)) | ((with_reducible refine Below.alloc ?_ ?_ _); rotate_left; focus (first | (simp; done) | (simp; omega))) | with_reducible apply Below.drew))

set_option maxHeartbeats 1000000 in
theorem toLiteralS_any (v : Value) (l : List Literal) (bs : List Nat) (w : World) (h : Sl 2 RLiteral w v l bs) (hm : InMem bs w) (hs : l.length ≤ 1048576) :
    Calls Tryz.prog 88 #[v] w (RetSl 2 RLiteral l w) := by
  have hl : l.length ≤ 1048576 := hs
  obtain ⟨a, c, rfl, hc1, hc2, hc3, hat0⟩ := h.open
  have hat := hd hat0
  have hs' := hd hs
  clear hat0 hc3 h hs
  have hmk := make_n (P := Tryz.prog) (t := 124) (e := 132) (z := .agg #[.int .i64 0, .int .i64 0]) (size := 2) (bytes := 16) (by kernel_rfl) (by kernel_rfl) l.length (by omega) (by omega)
  go_enter Tryz.func88, Tryz.ntmps88
  go_wp2
  go_loopw [4] (fun i wr => ∃ (k : Nat) (cur : Array Value) (bss : List (List Nat)), k ≤ l.length ∧ i = .int .i64 k ∧ Made 2 RLiteral 132 w l w.heap.size l.length k wr cur bss) (fun i _ => l.length - (intOf i).toNat)
  case atStart => exact ⟨0, _, [], Nat.zero_le _, rfl, Made.start 2 RLiteral _ w l l.length _ (by simp [size_madeCells])⟩
  case round =>
    obtain ⟨k, cur, bss, hk, rfl, hM⟩ := hrel
    by_cases hlt : k < l.length
    · obtain ⟨b, o, bss', bi, rfl, rfl, hE, hbi, hsub, hr0⟩ := hat.out k hlt
      clear hE
      obtain ⟨x, hx0, hx1⟩ : ∃ x, l[k]? = some x ∧ x = l[k] := ⟨_, List.getElem?_eq_getElem hlt, rfl⟩
      rw [← hx1] at hr0
      have hx := hd hx0
      clear hx0 hx1
      have hr : RLiteral wr (fun j => wr.cell? ⟨b, o + k * 2 + j, none⟩) x bi := RLiteral.fr _ _ _ _ _ _ hr0 (fun c hc => hM.below.block c (hm c (hsub c hc))) (fun j _ => (bcell hM.below).1 b _ (hm b (by simp)))
      have hbw : InMem bi wr := (fun c hc => Nat.lt_of_lt_of_le (hm c (hsub c hc)) hM.below.size)
      clear hr0 hm hsub hbi
      have hrr := hd hr
      obtain ⟨c0, r0, c1, r1, hbi0⟩ := hr
      simp only [Nat.add_zero] at c0 c1
      have hagg : Agg 2 RLiteral wr (.agg #[.int .i64 x.var, .int .i64 x.value]) x bi := Agg.of_cells RLiteral.fr hrr.out [.int .i64 x.var, .int .i64 x.value] rfl (fun j hj => by
        match j, hj with
        | 0, _ => exact c0.symm
        | 1, _ => exact c1.symm)
      clear hrr
      go_wp2_with fail
      (with_reducible refine (toLiteral_any _ x bi _ hagg hbw).mono ?_)
      rintro e w1 ⟨v', bs', rfl, hv, ho, hb⟩
      obtain ⟨rfl, g0, g1, rfl⟩ := RLiteral.open hv
      obtain ⟨⟨u0, e0⟩, f0⟩ := hM.room hlt hb 0 (by omega)
      obtain ⟨⟨u1, e1⟩, f1⟩ := hM.room hlt hb 1 (by omega)
      rw [Nat.add_zero] at e0 f0
      go_wp2
      go_round
      case rel =>
        obtain ⟨cur', hM'⟩ := hM.step RLiteral.fr hlt hb (vs := [.int .i64 x.var, .int .i64 x.value]) rfl hx.out ⟨rfl, g0, rfl, g1, rfl⟩ ho
        exact ⟨k + 1, cur', _, hlt, by go_num, hM'⟩
      case measure => simp [intOf]; omega
    · obtain rfl : k = l.length := by omega
      go_wp2
      go_ret
      exact ⟨_, _, rfl, (hM.done RLiteral.fr (by unfold maxLen; omega)).1, (hM.done RLiteral.fr (by unfold maxLen; omega)).2, hM.below⟩

set_option maxHeartbeats 1000000 in
theorem szLiteralS_any (v : Value) (l : List Literal) (left : Int) (bs : List Nat) (w : World) (h : Sl 2 RLiteral w v l bs) (_hm : InMem bs w) (h0 : 0 ≤ left) (h1 : left ≤ 1048576) :
    Calls Tryz.prog 79 #[v, .int .i64 left] w (Says (.int .i64 (szR left (l.length))) w) := by
  obtain ⟨a, c, rfl, hc1, hc2, _⟩ := h.open
  clear h
  by_cases hle : (l.length : Int) ≤ left
  · rw [show szR left l.length = left - l.length from if_pos hle]
    have hle2 : ¬ (left - (l.length : Int) < 0) := by omega
    go_enter Tryz.func79, Tryz.ntmps79
    go_wp2
    go_ret
    exact ⟨rfl, Below.refl _ _⟩
  · rw [show szR left l.length = -1 from if_neg hle]
    have hle2 : left - (l.length : Int) < 0 := by omega
    go_enter Tryz.func79, Tryz.ntmps79
    go_wp2
    go_ret
    exact ⟨rfl, Below.refl _ _⟩

set_option maxHeartbeats 1000000 in
theorem eqLiteral_any (v1 v2 : Value) (x : Literal) (bs1 bs2 : List Nat) (w : World) (h1 : Agg 2 RLiteral w v1 x bs1) (h2 : Agg 2 RLiteral w v2 x bs2) (_hm1 : InMem bs1 w) (_hm2 : InMem bs2 w) :
    Calls Tryz.prog 181 #[v1, v2] w (Says (.bool true) w) := by
  obtain ⟨rfl, g0, g1, hbs1⟩ := RLiteral.open h1
  obtain ⟨rfl, k0, k1, hbs2⟩ := RLiteral.open h2
  clear h1 h2
  clear hbs1 hbs2
  go_enter Tryz.func181, Tryz.ntmps181
  go_wp2
  go_ret
  exact ⟨rfl, (by repeat (first | with_reducible exact Below.refl _ _ | ((with_reducible refine Below.setCell ?_ ?_ _); rotate_left; focus first | (simp; done) | (simp; omega)) | ((with_reducible refine Below.alloc ?_ ?_ _); rotate_left; focus (first | (simp; done) | (simp; omega))) | with_reducible apply Below.drew))⟩

set_option maxHeartbeats 1000000 in
theorem eqLiteralS_any (v1 v2 : Value) (l : List Literal) (bs1 bs2 : List Nat) (w : World) (h1 : Sl 2 RLiteral w v1 l bs1) (h2 : Sl 2 RLiteral w v2 l bs2) (hm1 : InMem bs1 w) (hm2 : InMem bs2 w) :
    Calls Tryz.prog 100 #[v1, v2] w (Says (.bool true) w) := by
  obtain ⟨a, c, rfl, hc1, hc2, _, hat0⟩ := h1.open
  have hat := hd hat0
  clear hat0 h1
  obtain ⟨a', c', rfl, hc1', hc2', _, hat0⟩ := h2.open
  have hat' := hd hat0
  clear hat0 h2
  go_enter Tryz.func100, Tryz.ntmps100
  go_wp2
  go_loopw [5] (fun i wr => ∃ k : Nat, k ≤ l.length ∧ i = .int .i64 k ∧ Below w.heap.size w wr) (fun i _ => l.length - (intOf i).toNat)
  case atStart => exact ⟨0, Nat.zero_le _, rfl, Below.refl _ _⟩
  case round =>
    obtain ⟨k, hk, rfl, hB⟩ := hrel
    by_cases hlt : k < l.length
    · obtain ⟨b, o, bss', bi, rfl, rfl, hE, hbi, hsub, hr0⟩ := hat.out k hlt
      clear hE
      obtain ⟨b', o', bss'', bi', rfl, rfl, hE, hbi', hsub', hr0'⟩ := hat'.out k hlt
      clear hE
      obtain ⟨x, hx1⟩ : ∃ x, x = l[k] := ⟨_, rfl⟩
      rw [← hx1] at hr0 hr0'
      clear hx1
      have hr : RLiteral wr (fun j => wr.cell? ⟨b, o + k * 2 + j, none⟩) x bi := RLiteral.fr _ _ _ _ _ _ hr0 (fun c hc => hB.block c (hm1 c (hsub c hc))) (fun j _ => (bcell hB).1 b _ (hm1 b (by simp)))
      have hbw : InMem bi wr := (fun c hc => Nat.lt_of_lt_of_le (hm1 c (hsub c hc)) hB.size)
      have hr' : RLiteral wr (fun j => wr.cell? ⟨b', o' + k * 2 + j, none⟩) x bi' := RLiteral.fr _ _ _ _ _ _ hr0' (fun c hc => hB.block c (hm2 c (hsub' c hc))) (fun j _ => (bcell hB).1 b' _ (hm2 b' (by simp)))
      have hbw' : InMem bi' wr := (fun c hc => Nat.lt_of_lt_of_le (hm2 c (hsub' c hc)) hB.size)
      clear hr0 hr0' hm1 hm2 hsub hsub' hbi hbi'
      have hrr := hd hr
      have hrr' := hd hr'
      obtain ⟨c0, r0, c1, r1, hbi0⟩ := hr
      simp only [Nat.add_zero] at c0 c1
      obtain ⟨d0, t0, d1, t1, hbi1⟩ := hr'
      simp only [Nat.add_zero] at d0 d1
      have hagg : Agg 2 RLiteral wr (.agg #[.int .i64 x.var, .int .i64 x.value]) x bi := Agg.of_cells RLiteral.fr hrr.out [.int .i64 x.var, .int .i64 x.value] rfl (fun j hj => by
        match j, hj with
        | 0, _ => exact c0.symm
        | 1, _ => exact c1.symm)
      have hagg' : Agg 2 RLiteral wr (.agg #[.int .i64 x.var, .int .i64 x.value]) x bi' := Agg.of_cells RLiteral.fr hrr'.out [.int .i64 x.var, .int .i64 x.value] rfl (fun j hj => by
        match j, hj with
        | 0, _ => exact d0.symm
        | 1, _ => exact d1.symm)
      have cE := hd (show ∀ d os, Calls Tryz.prog 181 #[.agg #[.int .i64 x.var, .int .i64 x.value], .agg #[.int .i64 x.var, .int .i64 x.value]] (grow (redrawn wr d) os) fun e w'' => e = .returned (.bool true) ∧ ∃ p : Regrown, w'' = grow (redrawn wr p.d) p.os from fun d os =>
        Calls.regrown_of (eqLiteral_any _ _ x bi bi' _ (hagg.same RLiteral.fr (hbw.same (below_regrown wr d os))) (hagg'.same RLiteral.fr (hbw'.same (below_regrown wr d os))) (hbw.le (below_regrown wr d os).size) (hbw'.le (below_regrown wr d os).size)))
      have kc0 := cell_regrown c0
      have kd0 := cell_regrown d0
      have kc1 := cell_regrown c1
      have kd1 := cell_regrown d1
      have hlt' : (k : Int) < (l.length : Int) := by omega
      clear hrr hrr'
      go_wp2
      refine wp_region_quiet_below (by kernel_rfl) (by kernel_rfl) ?_
      repeat (quiet_step (exact cE.out _ _))
      refine wpQuiet_nil ?_
      intro _ hw'
      obtain ⟨⟨dq, osq⟩, hw''⟩ := hw'
      subst hw''
      have hq := below_regrown wr dq osq
      clear kc0 kd0 kc1 kd1
      go_wp2
      go_roundw
      case rel => exact ⟨k + 1, hlt, by go_num, Below.through hq hB⟩
      case measure => simp [intOf]; omega
    · obtain rfl : k = l.length := by omega
      go_wp2
      go_ret
      exact ⟨rfl, hB⟩

set_option maxHeartbeats 1000000 in
theorem markLiteralS_any (v : Value) (l : List Literal) (k : Int) (bs : List Nat) (B : Nat) (w : World) (h : Sl 2 RLiteral w v l bs) (ho : Own B bs w) (h0 : 0 ≤ k) (hk : k + (cntS Literal.ecnt l : Nat) ≤ 4611686018427387904) :
    Calls Tryz.prog 102 #[v, .int .i64 k] w (Marks 2 RLiteral v (mkS Literal.emk Literal.ecnt l k) bs (k + (cntS Literal.ecnt l : Nat)) B w) := by
  obtain ⟨a, c, rfl, hc1, hc2, hc3, -⟩ := h.open
  obtain ⟨n, hn0⟩ : ∃ n, n = l.length := ⟨_, rfl⟩
  have hn := hd hn0
  have h' : Sl 2 RLiteral w (.slice a n c) l bs := by rw [hn0]; exact h
  rw [← hn0] at hc1 ⊢
  clear h hc3 hn0
  go_enter Tryz.func102, Tryz.ntmps102
  go_wp2
  go_loopw [1, 5] (fun r i wr => ∃ j : Nat, j ≤ n ∧ i = .int .i64 j ∧ r = .int .i64 (k + (cntS Literal.ecnt (l.take j) : Nat)) ∧ Sl 2 RLiteral wr (.slice a n c) (mkS Literal.emk Literal.ecnt (l.take j) k ++ l.drop j) bs ∧ Own B bs wr ∧ Only bs w wr) (fun _ i _ => n - (intOf i).toNat)
  case atStart => exact ⟨0, Nat.zero_le _, rfl, by simp [cntS], h', ho, Only.refl _ _⟩
  case round =>
    obtain ⟨j, hj, rfl, rfl, hS, hO, hU⟩ := hrel
    clear h' ho
    by_cases hlt : j < n
    · obtain ⟨x, hx0⟩ : ∃ x, l[j]? = some x := ⟨_, List.getElem?_eq_getElem (by rw [← hn.out]; exact hlt)⟩
      have hget := mk_get (m := Literal.emk) (c := Literal.ecnt) hx0 k
      have hset := hd (mk_set (m := Literal.emk) (c := Literal.ecnt) hx0 k)
      have hlen := mk_len (m := Literal.emk) (c := Literal.ecnt) l j (by rw [← hn.out]; exact hj) k
      rw [← hn.out] at hlen
      generalize mkS Literal.emk Literal.ecnt (l.take j) k ++ l.drop j = L at *
      have hlt2 : j < L.length := by rw [hlen]; exact hlt
      obtain ⟨b, o, bss, bi, rfl, rfl, hE, hbi, hsub, hr, hrow⟩ := Sl.at' hS hO hlt2 hget
      have hL := hd hlen
      clear hget hlen
      have hx := hd hx0
      have hsucc := hd (cntS_take_succ (c := Literal.ecnt) hx0)
      have hadd := cntS_take_add (c := Literal.ecnt) hx0
      have hle := hd hadd
      clear hx0 hadd
      obtain ⟨hnb, hoi⟩ := Own.split hO hbi
      have hbi_in : InMem bi wr := fun c hc => hO.inMem c (hsub c hc)
      obtain ⟨c0, r0, c1, r1, hbi0⟩ := hr
      simp only [Nat.add_zero] at c0 c1
      have hrf : ∀ m, wr.frozen? ⟨b, m, none⟩ = false := by obtain ⟨cur, e, hh⟩ := hrow; exact fun m => (Own.cell0 hh m).2
      generalize hcc : cntS Literal.ecnt (l.take j) = cc at *
      clear hcc
      have hec : x.ecnt = 2 := by unfold Literal.ecnt Literal.cnt; try omega
      have hec' := hd hec
      have hle2 := hle.out
      rw [hec] at hle2
      clear hec
      have hu0 : Upd b (o + j * 2) (o + j * 2 + 2) bi wr wr := Upd.refl hrow
      have hbs : b < wr.heap.size := lt_of_some hrow.choose_spec.choose_spec
      clear hrow
      go_wp2
      go_roundw
      case rel =>
        refine ⟨j + 1, hlt, by go_num, ?_, ?_, ?_, ?_⟩
        · rw [hsucc.out]; rw [hec'.out]; apply congrArg; omega
        · rw [← hset.out]
          exact Sl.upd RLiteral.fr hL.out hc1 (by unfold maxLen; omega) hE hO.1 hO.inMem hlt2 hbi (by repeat (first | with_reducible exact hu0 | with_reducible apply Upd.set' | omega)) ⟨(show World.cell? _ ⟨b, o + j * 2 + 0, none⟩ = some (.int .i64 (k + cc)) from by simp [cell_set, c0, c1]), (show I64 (k + cc) from I64.of ⟨by omega, by omega⟩), (show World.cell? _ ⟨b, o + j * 2 + 1, none⟩ = some (.int .i64 (k + cc + 1)) from by simp [cell_set, c0, c1]), (show I64 (k + cc + 1) from I64.of ⟨by omega, by omega⟩), hbi0⟩
        · exact Own.upd hO (lo := o + j * 2) (hi := o + j * 2 + 2) (bi := bi) (by repeat (first | with_reducible exact hu0 | with_reducible apply Upd.set' | omega)) (hbi0 ▸ Own.nil _ _)
        · exact hU.trans ((Upd.only (b := b) (lo := o + j * 2) (hi := o + j * 2 + 2) (bi := bi) (by repeat (first | with_reducible exact hu0 | with_reducible apply Upd.set' | omega))).mono (fun d hd => by rcases List.mem_cons.1 hd with rfl | hd <;> first | (simp; done) | exact hsub d hd))
      case measure => simp [intOf]; omega
    · obtain rfl : j = n := by omega
      have e1 : l.take j = l := List.take_of_length_le (by rw [← hn.out]; exact Nat.le_refl _)
      have e2 : l.drop j = [] := List.drop_of_length_le (by rw [← hn.out]; exact Nat.le_refl _)
      rw [e1, e2, List.append_nil] at hS
      rw [e1]
      clear e1 e2
      go_wp2
      go_ret
      exact ⟨rfl, hU, hS, hO⟩

end Go.Proofs.YtfggmelojaicfaaGreat
