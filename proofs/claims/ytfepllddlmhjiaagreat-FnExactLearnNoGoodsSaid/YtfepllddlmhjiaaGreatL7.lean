/-
  Contracts of the laws' own helpers: of P. Printed by gen_law.py.
-/
import Derived.Test.YtfepllddlmhjiaaGreatRows
import Derived.Test.YtfepllddlmhjiaaGreatT
import Derived.BigQuiet
import Derived.Lib.QuietBelow
import Derived.Test.YtfepllddlmhjiaaGreatL1
import Derived.Test.YtfepllddlmhjiaaGreatL5
namespace Go.Proofs.YtfepllddlmhjiaaGreat
set_option linter.unusedVariables false
set_option linter.unusedSimpArgs false
open Go.RowKit Go.Sort
set_option maxRecDepth 100000
/-- A list of literals as an element. -/
abbrev RLits := RSl 2 RLiteral
theorem RLits.fr : Fr 1 RLits := RSl.fr RLiteral.fr
abbrev mkLits := mkS Literal.emk Literal.ecnt

set_option maxHeartbeats 1000000 in
theorem eqLiteralSS_any (v1 v2 : Value) (l : List (List Literal)) (bs1 bs2 : List Nat) (w : World) (h1 : Sl 1 RLits w v1 l bs1) (h2 : Sl 1 RLits w v2 l bs2) (hm1 : InMem bs1 w) (hm2 : InMem bs2 w) :
    Calls Tryz.prog 56 #[v1, v2] w (Says (.bool true) w) := by
  obtain ⟨a, c, rfl, hc1, hc2, _, hat0⟩ := h1.open
  have hat := hd hat0
  clear hat0 h1
  obtain ⟨a', c', rfl, hc1', hc2', _, hat0⟩ := h2.open
  have hat' := hd hat0
  clear hat0 h2
  go_enter Tryz.func56, Tryz.ntmps56
  go_wp2
  go_loopw [5] (fun i wr => ∃ k : Nat, k ≤ l.length ∧ i = .int .i64 k ∧ Below w.heap.size w wr) (fun i _ => l.length - (intOf i).toNat)
  case atStart => exact ⟨0, Nat.zero_le _, rfl, Below.refl _ _⟩
  case round =>
    obtain ⟨k, hk, rfl, hB⟩ := hrel
    by_cases hlt : k < l.length
    · obtain ⟨b, o, bss', bi, rfl, rfl, hE, hbi, hsub, hr0⟩ := hat.out k hlt
      clear hE
      obtain ⟨b', o', bss'', bi', rfl, rfl, hE, hbi', hsub', hr0'⟩ := hat'.out k hlt
      clear hE
      obtain ⟨x, hx1⟩ : ∃ x, x = l[k] := ⟨_, rfl⟩
      rw [← hx1] at hr0 hr0'
      clear hx1
      have hr : RLits wr (fun j => wr.cell? ⟨b, o + k * 1 + j, none⟩) x bi := RLits.fr _ _ _ _ _ _ hr0 (fun c hc => hB.block c (hm1 c (hsub c hc))) (fun j _ => (bcell hB).1 b _ (hm1 b (by simp)))
      have hbw : InMem bi wr := (fun c hc => Nat.lt_of_lt_of_le (hm1 c (hsub c hc)) hB.size)
      have hr' : RLits wr (fun j => wr.cell? ⟨b', o' + k * 1 + j, none⟩) x bi' := RLits.fr _ _ _ _ _ _ hr0' (fun c hc => hB.block c (hm2 c (hsub' c hc))) (fun j _ => (bcell hB).1 b' _ (hm2 b' (by simp)))
      have hbw' : InMem bi' wr := (fun c hc => Nat.lt_of_lt_of_le (hm2 c (hsub' c hc)) hB.size)
      clear hr0 hr0' hm1 hm2 hsub hsub' hbi hbi'
      have hrr := hd hr
      have hrr' := hd hr'
      obtain ⟨v0, c0, r0⟩ := hr
      obtain ⟨a0, n0, rfl⟩ := r0.val
      simp only [Nat.mul_one, Nat.add_zero] at c0
      obtain ⟨v1, d0, r1⟩ := hr'
      obtain ⟨e0, m0, rfl⟩ := r1.val
      simp only [Nat.mul_one, Nat.add_zero] at d0
      have cE := hd (show ∀ d os, Calls Tryz.prog 36 #[.slice a0 x.length n0, .slice e0 x.length m0] (grow (redrawn wr d) os) fun e w'' => e = .returned (.bool true) ∧ ∃ p : Regrown, w'' = grow (redrawn wr p.d) p.os from fun d os =>
        Calls.regrown_of (eqLiteralS_any _ _ x bi bi' _ (r0.same RLiteral.fr (hbw.same (below_regrown wr d os))) (r1.same RLiteral.fr (hbw'.same (below_regrown wr d os))) (hbw.le (below_regrown wr d os).size) (hbw'.le (below_regrown wr d os).size)))
      have kc0 := cell_regrown c0
      have kd0 := cell_regrown d0
      have hlt' : (k : Int) < (l.length : Int) := by omega
      clear hrr hrr'
      go_wp2
      refine wp_region_quiet_below (by kernel_rfl) (by kernel_rfl) ?_
      repeat (quiet_step (exact cE.out _ _))
      refine wpQuiet_nil ?_
      intro _ hw'
      obtain ⟨⟨dq, osq⟩, hw''⟩ := hw'
      subst hw''
      have hq := below_regrown wr dq osq
      clear kc0 kd0
      go_wp2
      go_roundw
      case rel => exact ⟨k + 1, hlt, by go_num, Below.through hq hB⟩
      case measure => simp [intOf]; omega
    · obtain rfl : k = l.length := by omega
      go_wp2
      go_ret
      exact ⟨rfl, hB⟩

set_option maxHeartbeats 1000000 in
theorem markLiteralSS_any (v : Value) (l : List (List Literal)) (k : Int) (bs : List Nat) (B : Nat) (w : World) (h : Sl 1 RLits w v l bs) (ho : Own B bs w) (h0 : 0 ≤ k) (hk : k + (cntS (cntS Literal.ecnt) l : Nat) ≤ 4611686018427387904) :
    Calls Tryz.prog 57 #[v, .int .i64 k] w (Marks 1 RLits v (mkS mkLits (cntS Literal.ecnt) l k) bs (k + (cntS (cntS Literal.ecnt) l : Nat)) B w) := by
  obtain ⟨a, c, rfl, hc1, hc2, hc3, -⟩ := h.open
  obtain ⟨n, hn0⟩ : ∃ n, n = l.length := ⟨_, rfl⟩
  have hn := hd hn0
  have h' : Sl 1 RLits w (.slice a n c) l bs := by rw [hn0]; exact h
  rw [← hn0] at hc1 ⊢
  clear h hc3 hn0
  go_enter Tryz.func57, Tryz.ntmps57
  go_wp2
  go_loopw [1, 5] (fun r i wr => ∃ j : Nat, j ≤ n ∧ i = .int .i64 j ∧ r = .int .i64 (k + (cntS (cntS Literal.ecnt) (l.take j) : Nat)) ∧ Sl 1 RLits wr (.slice a n c) (mkS mkLits (cntS Literal.ecnt) (l.take j) k ++ l.drop j) bs ∧ Own B bs wr ∧ Only bs w wr) (fun _ i _ => n - (intOf i).toNat)
  case atStart => exact ⟨0, Nat.zero_le _, rfl, by simp [cntS], h', ho, Only.refl _ _⟩
  case round =>
    obtain ⟨j, hj, rfl, rfl, hS, hO, hU⟩ := hrel
    clear h' ho
    by_cases hlt : j < n
    · obtain ⟨x, hx0⟩ : ∃ x, l[j]? = some x := ⟨_, List.getElem?_eq_getElem (by rw [← hn.out]; exact hlt)⟩
      have hget := mk_get (m := mkLits) (c := (cntS Literal.ecnt)) hx0 k
      have hset := hd (mk_set (m := mkLits) (c := (cntS Literal.ecnt)) hx0 k)
      have hlen := mk_len (m := mkLits) (c := (cntS Literal.ecnt)) l j (by rw [← hn.out]; exact hj) k
      rw [← hn.out] at hlen
      generalize mkS mkLits (cntS Literal.ecnt) (l.take j) k ++ l.drop j = L at *
      have hlt2 : j < L.length := by rw [hlen]; exact hlt
      obtain ⟨b, o, bss, bi, rfl, rfl, hE, hbi, hsub, hr, hrow⟩ := Sl.at' hS hO hlt2 hget
      have hL := hd hlen
      clear hget hlen
      have hx := hd hx0
      have hsucc := hd (cntS_take_succ (c := (cntS Literal.ecnt)) hx0)
      have hadd := cntS_take_add (c := (cntS Literal.ecnt)) hx0
      have hle := hd hadd
      clear hx0 hadd
      obtain ⟨hnb, hoi⟩ := Own.split hO hbi
      have hbi_in : InMem bi wr := fun c hc => hO.inMem c (hsub c hc)
      obtain ⟨v0, c0, r0⟩ := hr
      obtain ⟨a0, n0, rfl⟩ := r0.val
      simp only [Nat.mul_one, Nat.add_zero] at c0
      have hrf : ∀ m, wr.frozen? ⟨b, m, none⟩ = false := by obtain ⟨cur, e, hh⟩ := hrow; exact fun m => (Own.cell0 hh m).2
      generalize hcc : cntS (cntS Literal.ecnt) (l.take j) = cc at *
      clear hcc
      obtain ⟨y0, hy0⟩ : ∃ y : Nat, y = cntS Literal.ecnt x := ⟨_, rfl⟩
      have hle2 : cc + y0 ≤ cntS (cntS Literal.ecnt) l := by rw [hy0]; exact hle.out
      have hy0' := hd hy0.symm
      clear hy0
      have OW0 : Own B bi wr := hoi
      have hin0 : ∀ c ∈ bi, c ∈ bi := fun c hc => hc
      have hne0 : ∀ c ∈ bi, c ≠ b := fun c hc e => hnb (e ▸ hin0 c hc)
      have hu0 : Upd b (o + j * 1) (o + j * 1 + 1) bi wr wr := Upd.refl hrow
      have hbs : b < wr.heap.size := lt_of_some hrow.choose_spec.choose_spec
      clear hrow
      go_wp2_with fail
      (with_reducible refine (markLiteralS_any _ x _ bi B _ ?_ ?_ ?_ ?_).mono ?_)
      · exact r0.same RLiteral.fr (by repeat (first | with_reducible exact SameAt.refl _ _ | ((with_reducible refine SameAt.set ?_ ?_ _); rotate_left; focus (intro c hc; exact hne0 c hc))))
      · exact OW0.same (by repeat (first | with_reducible exact SameAt.refl _ _ | ((with_reducible refine SameAt.set ?_ ?_ _); rotate_left; focus (intro c hc; exact hne0 c hc))))
      · omega
      · rw [hy0'.out]; omega
      rintro e p0 ⟨rfl, l0, s0, ow0⟩
      rw [hy0'.out]
      have U0 : Upd b (o + j * 1) (o + j * 1 + 1) bi wr p0 := Upd.call (by repeat (first | with_reducible exact hu0 | with_reducible apply Upd.set' | omega)) hin0 hnb l0
      have C0 := l0.cell (fun hc => hnb (hin0 b hc)) (by simpa using hbs)
      have hrf0 : ∀ m, p0.frozen? ⟨b, m, none⟩ = false := by obtain ⟨cur, e, hh⟩ := U0.row; exact fun m => (Own.cell0 hh m).2
      have hbs0 : b < p0.heap.size := Nat.lt_of_lt_of_le hbs U0.only.size
      go_wp2
      go_roundw
      case rel =>
        refine ⟨j + 1, hlt, by go_num, ?_, ?_, ?_, ?_⟩
        · have h1 := hy0'.out; rw [hsucc.out]; apply congrArg; omega
        · rw [← hset.out]
          exact Sl.upd RLits.fr hL.out hc1 (by unfold maxLen; omega) hE hO.1 hO.inMem hlt2 hbi (by repeat (first | with_reducible exact U0 | with_reducible apply Upd.set' | omega)) ⟨_, (by simp [cell_set, C0, c0]), (s0.same RLiteral.fr (by repeat (first | with_reducible exact SameAt.refl _ _ | ((with_reducible refine SameAt.set ?_ ?_ _); rotate_left; focus (intro c hc; exact hne0 c hc)))))⟩
        · exact Own.upd hO (lo := o + j * 1) (hi := o + j * 1 + 1) (bi := bi) (by repeat (first | with_reducible exact U0 | with_reducible apply Upd.set' | omega)) (ow0.same (by repeat (first | with_reducible exact SameAt.refl _ _ | ((with_reducible refine SameAt.set ?_ ?_ _); rotate_left; focus (intro c hc; exact hne0 c hc)))))
        · exact hU.trans ((Upd.only (b := b) (lo := o + j * 1) (hi := o + j * 1 + 1) (bi := bi) (by repeat (first | with_reducible exact U0 | with_reducible apply Upd.set' | omega))).mono (fun d hd => by rcases List.mem_cons.1 hd with rfl | hd <;> first | (simp; done) | exact hsub d hd))
      case measure => simp [intOf]; omega
    · obtain rfl : j = n := by omega
      have e1 : l.take j = l := List.take_of_length_le (by rw [← hn.out]; exact Nat.le_refl _)
      have e2 : l.drop j = [] := List.drop_of_length_le (by rw [← hn.out]; exact Nat.le_refl _)
      rw [e1, e2, List.append_nil] at hS
      rw [e1]
      clear e1 e2
      go_wp2
      go_ret
      exact ⟨rfl, hU, hS, hO⟩

set_option maxHeartbeats 1000000 in
theorem heldLiteralSS_any (v : Value) (l : List (List Literal)) (k : Int) (bs : List Nat) (w : World) (h : Sl 1 RLits w v (mkS mkLits (cntS Literal.ecnt) l k) bs) (hm : InMem bs w) (h0 : 0 ≤ k) (hk : k + (cntS (cntS Literal.ecnt) l : Nat) ≤ 4611686018427387904) :
    Calls Tryz.prog 58 #[v, .int .i64 k] w (Says (.int .i64 (k + (cntS (cntS Literal.ecnt) l : Nat))) w) := by
  obtain ⟨a, c, rfl, hc1, hc2, hc3, hat0⟩ := h.open
  have hat := hd hat0
  clear hat0 hc3 h
  have hlen := length_mkS (m := mkLits) (c := (cntS Literal.ecnt)) l k
  obtain ⟨n, hn0⟩ : ∃ n, n = (mkS mkLits (cntS Literal.ecnt) l k).length := ⟨_, rfl⟩
  have hn := hd (hn0.trans hlen)
  have hn' := hd hn0
  rw [← hn0] at hc1 ⊢
  clear hlen hn0
  go_enter Tryz.func58, Tryz.ntmps58
  go_wp2
  go_loopw [1, 5] (fun r i wr => ∃ j : Nat, j ≤ n ∧ i = .int .i64 j ∧ r = .int .i64 (k + (cntS (cntS Literal.ecnt) (l.take j) : Nat)) ∧ Below w.heap.size w wr) (fun _ i _ => n - (intOf i).toNat)
  case atStart => exact ⟨0, Nat.zero_le _, rfl, by simp [cntS], Below.refl _ _⟩
  case round =>
    obtain ⟨j, hj, rfl, rfl, hB⟩ := hrel
    by_cases hlt : j < n
    · obtain ⟨x, hx0⟩ : ∃ x, l[j]? = some x := ⟨_, List.getElem?_eq_getElem (by rw [← hn.out]; exact hlt)⟩
      have hge := getElem?_mkS (m := mkLits) (c := (cntS Literal.ecnt)) hx0 k
      obtain ⟨b, o, bss', bi, rfl, rfl, hE, hbi, hsub, hr0⟩ := hat.out j (by rw [← hn'.out]; exact hlt)
      have hge2 : (mkS mkLits (cntS Literal.ecnt) l k)[j]'(by rw [← hn'.out]; exact hlt) = mkLits x (k + cntS (cntS Literal.ecnt) (l.take j)) := (List.getElem?_eq_some_iff.1 hge).choose_spec
      rw [hge2] at hr0
      clear hE hge hge2
      have hsucc := hd (cntS_take_succ (c := (cntS Literal.ecnt)) hx0)
      have hadd := cntS_take_add (c := (cntS Literal.ecnt)) hx0
      have hle := hd hadd
      clear hx0 hadd
      have hr : RLits wr (fun i => wr.cell? ⟨b, o + j * 1 + i, none⟩) (mkLits x (k + cntS (cntS Literal.ecnt) (l.take j))) bi := RLits.fr _ _ _ _ _ _ hr0 (fun c hc => hB.block c (hm c (hsub c hc))) (fun i _ => (bcell hB).1 b _ (hm b (by simp)))
      have hbw : InMem bi wr := (fun c hc => Nat.lt_of_lt_of_le (hm c (hsub c hc)) hB.size)
      clear hr0 hm hsub hbi
      generalize hcc : cntS (cntS Literal.ecnt) (l.take j) = cc at *
      clear hcc
      obtain ⟨v0, c0, r0⟩ := hr
      obtain ⟨a0, n0, rfl⟩ := r0.val
      simp only [Nat.mul_one, Nat.add_zero] at c0
      obtain ⟨y0, hy0⟩ : ∃ y : Nat, y = cntS Literal.ecnt x := ⟨_, rfl⟩
      have hm0 : InMem bi wr := fun c hc => hbw c hc
      have hle2 : cc + y0 ≤ cntS (cntS Literal.ecnt) l := by rw [hy0]; exact hle.out
      have hy0' := hd hy0.symm
      clear hy0
      have hbl : b < wr.heap.size := by cases hw : wr.heap[b]? with | none => simp [World.cell?, hw] at c0 | some o => exact lt_of_some hw
      go_wp2_with fail
      (with_reducible refine (heldLiteralS_any _ x _ bi _ ?_ ?_ ?_ ?_).mono ?_)
      · exact r0.same RLiteral.fr (SameAt.refl _ _)
      · exact hm0.le (Nat.le_refl _)
      · omega
      · rw [hy0'.out]; omega
      rintro e p0 ⟨rfl, l0⟩
      rw [hy0'.out]
      have hz0 : ¬ (k + cc + (y0 : Int) < 0) := by omega
      have hB0 := Below.through l0 hB
      have ZS0 : wr.heap.size ≤ p0.heap.size := l0.size
      have C0 := (bcell l0).1 b
      have C0' : ∀ i, p0.cell? ⟨b, i, none⟩ = wr.cell? ⟨b, i, none⟩ := fun i => C0 i hbl
      clear C0
      go_wp2
      go_roundw
      case rel => exact ⟨j + 1, hlt, by go_num, by have h1 := hy0'.out; rw [hsucc.out]; apply congrArg; omega, hB0⟩
      case measure => simp [intOf]; omega
    · obtain rfl : j = n := by omega
      have e1 : l.take j = l := List.take_of_length_le (by rw [← hn.out]; exact Nat.le_refl _)
      rw [e1]
      clear e1
      go_wp2
      go_ret
      exact ⟨rfl, hB⟩

end Go.Proofs.YtfepllddlmhjiaaGreat
