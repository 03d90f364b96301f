/-
  Contracts of the laws' own helpers: of lists of numbers, lists of lists. Printed by gen_law.py.
-/
import Derived.Test.YtbgkhipclkhlcaaGreatDoorRows
import Derived.Test.YtbgkhipclkhlcaaGreatDoorT
import Derived.BigQuiet
import Derived.Lib.QuietBelow

namespace Go.Proofs.YtbgkhipclkhlcaaGreatDoor
set_option linter.unusedVariables false
set_option linter.unusedSimpArgs false
open Go.RowKit Go.Sort
set_option maxRecDepth 100000
set_option maxHeartbeats 1000000 in
theorem eqInt64S_any (v1 v2 : Value) (l : List Int) (bs1 bs2 : List Nat) (w : World) (h1 : Sl 1 RInt w v1 l bs1) (h2 : Sl 1 RInt w v2 l bs2) (hm1 : InMem bs1 w) (hm2 : InMem bs2 w) :
    Calls Tryz.prog 84 #[v1, v2] w (Says (.bool true) w) := by
  obtain ⟨a, c, rfl, hc1, hc2, _, hat0⟩ := h1.open
  have hat := hd hat0
  clear hat0 h1
  obtain ⟨a', c', rfl, hc1', hc2', _, hat0⟩ := h2.open
  have hat' := hd hat0
  clear hat0 h2
  go_enter Tryz.func84, Tryz.ntmps84
  go_wp2
  go_loopw [5] (fun i wr => ∃ k : Nat, k ≤ l.length ∧ i = .int .i64 k ∧ Below w.heap.size w wr) (fun i _ => l.length - (intOf i).toNat)
  case atStart => exact ⟨0, Nat.zero_le _, rfl, Below.refl _ _⟩
  case round =>
    obtain ⟨k, hk, rfl, hB⟩ := hrel
    by_cases hlt : k < l.length
    · obtain ⟨b, o, bss', bi, rfl, rfl, hE, hbi, hsub, hr0⟩ := hat.out k hlt
      clear hE
      obtain ⟨b', o', bss'', bi', rfl, rfl, hE, hbi', hsub', hr0'⟩ := hat'.out k hlt
      clear hE
      obtain ⟨x, hx1⟩ : ∃ x, x = l[k] := ⟨_, rfl⟩
      rw [← hx1] at hr0 hr0'
      clear hx1
      have hr : RInt wr (fun j => wr.cell? ⟨b, o + k * 1 + j, none⟩) x bi := RInt.fr _ _ _ _ _ _ hr0 (fun c hc => hB.block c (hm1 c (hsub c hc))) (fun j _ => (bcell hB).1 b _ (hm1 b (by simp)))
      have hbw : InMem bi wr := (fun c hc => Nat.lt_of_lt_of_le (hm1 c (hsub c hc)) hB.size)
      have hr' : RInt wr (fun j => wr.cell? ⟨b', o' + k * 1 + j, none⟩) x bi' := RInt.fr _ _ _ _ _ _ hr0' (fun c hc => hB.block c (hm2 c (hsub' c hc))) (fun j _ => (bcell hB).1 b' _ (hm2 b' (by simp)))
      have hbw' : InMem bi' wr := (fun c hc => Nat.lt_of_lt_of_le (hm2 c (hsub' c hc)) hB.size)
      clear hr0 hr0' hm1 hm2 hsub hsub' hbi hbi'
      obtain ⟨c0, -, rfl⟩ := hr
      obtain ⟨c1, -, rfl⟩ := hr'
      simp only [Nat.mul_one, Nat.add_zero] at c0 c1
      have hlt' : (k : Int) < (l.length : Int) := by omega
      go_wp2
      go_quiet (fail)
      go_wp2
      go_roundw
      case rel => exact ⟨k + 1, hlt, by go_num, by repeat (first | exact hB | apply Below.drew | apply below_drewN)⟩
      case measure => simp [intOf]; omega
    · obtain rfl : k = l.length := by omega
      go_wp2
      go_ret
      exact ⟨rfl, hB⟩

set_option maxHeartbeats 1000000 in
theorem markInt64S_any (v : Value) (l : List Int) (k : Int) (bs : List Nat) (B : Nat) (w : World) (h : Sl 1 RInt w v l bs) (ho : Own B bs w) (h0 : 0 ≤ k) (hk : k + (cntS cI l : Nat) ≤ 4611686018427387904) :
    Calls Tryz.prog 47 #[v, .int .i64 k] w (Marks 1 RInt v (mkS mkI cI l k) bs (k + (cntS cI l : Nat)) B w) := by
  obtain ⟨a, c, rfl, hc1, hc2, hc3, -⟩ := h.open
  obtain ⟨n, hn0⟩ : ∃ n, n = l.length := ⟨_, rfl⟩
  have hn := hd hn0
  have h' : Sl 1 RInt w (.slice a n c) l bs := by rw [hn0]; exact h
  rw [← hn0] at hc1 ⊢
  clear h hc3 hn0
  go_enter Tryz.func47, Tryz.ntmps47
  go_wp2
  go_loopw [1, 5] (fun r i wr => ∃ j : Nat, j ≤ n ∧ i = .int .i64 j ∧ r = .int .i64 (k + (cntS cI (l.take j) : Nat)) ∧ Sl 1 RInt wr (.slice a n c) (mkS mkI cI (l.take j) k ++ l.drop j) bs ∧ Own B bs wr ∧ Only bs w wr) (fun _ i _ => n - (intOf i).toNat)
  case atStart => exact ⟨0, Nat.zero_le _, rfl, by simp [cntS], h', ho, Only.refl _ _⟩
  case round =>
    obtain ⟨j, hj, rfl, rfl, hS, hO, hU⟩ := hrel
    clear h' ho
    by_cases hlt : j < n
    · obtain ⟨x, hx0⟩ : ∃ x, l[j]? = some x := ⟨_, List.getElem?_eq_getElem (by rw [← hn.out]; exact hlt)⟩
      have hget := mk_get (m := mkI) (c := cI) hx0 k
      have hset := hd (mk_set (m := mkI) (c := cI) hx0 k)
      have hlen := mk_len (m := mkI) (c := cI) l j (by rw [← hn.out]; exact hj) k
      rw [← hn.out] at hlen
      generalize mkS mkI cI (l.take j) k ++ l.drop j = L at *
      have hlt2 : j < L.length := by rw [hlen]; exact hlt
      obtain ⟨b, o, bss, bi, rfl, rfl, hE, hbi, hsub, hr, hrow⟩ := Sl.at' hS hO hlt2 hget
      have hL := hd hlen
      clear hget hlen
      have hx := hd hx0
      have hsucc := hd (cntS_take_succ (c := cI) hx0)
      have hadd := cntS_take_add (c := cI) hx0
      have hle := hd hadd
      clear hx0 hadd
      obtain ⟨hnb, hoi⟩ := Own.split hO hbi
      have hbi_in : InMem bi wr := fun c hc => hO.inMem c (hsub c hc)
      obtain ⟨c0, -, rfl⟩ := hr
      simp only [Nat.mul_one, Nat.add_zero] at c0
      have hrf : ∀ m, wr.frozen? ⟨b, m, none⟩ = false := by obtain ⟨cur, e, hh⟩ := hrow; exact fun m => (Own.cell0 hh m).2
      generalize hcc : cntS cI (l.take j) = cc at *
      clear hcc
      have hle2 : cc + 1 ≤ cntS cI l := hle.out
      have hu0 : Upd b (o + j * 1) (o + j * 1 + 1) [] wr wr := Upd.refl hrow
      have hbs : b < wr.heap.size := lt_of_some hrow.choose_spec.choose_spec
      clear hrow
      go_wp2
      go_roundw
      case rel =>
        refine ⟨j + 1, hlt, by go_num, ?_, ?_, ?_, ?_⟩
        · rw [hsucc.out]; unfold cI; apply congrArg; omega
        · rw [← hset.out]
          exact Sl.upd RInt.fr hL.out hc1 (by unfold maxLen; omega) hE hO.1 hO.inMem hlt2 hbi (by repeat (first | with_reducible exact hu0 | with_reducible apply Upd.set' | omega)) ⟨(show World.cell? _ ⟨b, o + j * 1 + 0, none⟩ = some (.int .i64 (k + cc)) from by simp [cell_set, c0]), (show I64 (k + cc) from I64.of ⟨by omega, by omega⟩), rfl⟩
        · exact Own.upd hO (lo := o + j * 1) (hi := o + j * 1 + 1) (bi := []) (by repeat (first | with_reducible exact hu0 | with_reducible apply Upd.set' | omega)) (Own.nil _ _)
        · exact hU.trans ((Upd.only (b := b) (lo := o + j * 1) (hi := o + j * 1 + 1) (bi := []) (by repeat (first | with_reducible exact hu0 | with_reducible apply Upd.set' | omega))).mono (fun d hd => by rcases List.mem_cons.1 hd with rfl | hd <;> first | (simp; done) | exact hsub d hd))
      case measure => simp [intOf]; omega
    · obtain rfl : j = n := by omega
      have e1 : l.take j = l := List.take_of_length_le (by rw [← hn.out]; exact Nat.le_refl _)
      have e2 : l.drop j = [] := List.drop_of_length_le (by rw [← hn.out]; exact Nat.le_refl _)
      rw [e1, e2, List.append_nil] at hS
      rw [e1]
      clear e1 e2
      go_wp2
      go_ret
      exact ⟨rfl, hU, hS, hO⟩

set_option maxHeartbeats 1000000 in
theorem heldInt64S_any (v : Value) (l : List Int) (k : Int) (bs : List Nat) (w : World) (h : Sl 1 RInt w v (mkS mkI cI l k) bs) (hm : InMem bs w) (h0 : 0 ≤ k) (hk : k + (cntS cI l : Nat) ≤ 4611686018427387904) :
    Calls Tryz.prog 48 #[v, .int .i64 k] w (Says (.int .i64 (k + (cntS cI l : Nat))) w) := by
  obtain ⟨a, c, rfl, hc1, hc2, hc3, hat0⟩ := h.open
  have hat := hd hat0
  clear hat0 hc3 h
  have hlen := length_mkS (m := mkI) (c := cI) l k
  obtain ⟨n, hn0⟩ : ∃ n, n = (mkS mkI cI l k).length := ⟨_, rfl⟩
  have hn := hd (hn0.trans hlen)
  have hn' := hd hn0
  rw [← hn0] at hc1 ⊢
  clear hlen hn0
  go_enter Tryz.func48, Tryz.ntmps48
  go_wp2
  go_loopw [1, 5] (fun r i wr => ∃ j : Nat, j ≤ n ∧ i = .int .i64 j ∧ r = .int .i64 (k + (cntS cI (l.take j) : Nat)) ∧ Below w.heap.size w wr) (fun _ i _ => n - (intOf i).toNat)
  case atStart => exact ⟨0, Nat.zero_le _, rfl, by simp [cntS], Below.refl _ _⟩
  case round =>
    obtain ⟨j, hj, rfl, rfl, hB⟩ := hrel
    by_cases hlt : j < n
    · obtain ⟨x, hx0⟩ : ∃ x, l[j]? = some x := ⟨_, List.getElem?_eq_getElem (by rw [← hn.out]; exact hlt)⟩
      have hge := getElem?_mkS (m := mkI) (c := cI) hx0 k
      obtain ⟨b, o, bss', bi, rfl, rfl, hE, hbi, hsub, hr0⟩ := hat.out j (by rw [← hn'.out]; exact hlt)
      have hge2 : (mkS mkI cI l k)[j]'(by rw [← hn'.out]; exact hlt) = mkI x (k + cntS cI (l.take j)) := (List.getElem?_eq_some_iff.1 hge).choose_spec
      rw [hge2] at hr0
      clear hE hge hge2
      have hsucc := hd (cntS_take_succ (c := cI) hx0)
      have hadd := cntS_take_add (c := cI) hx0
      have hle := hd hadd
      clear hx0 hadd
      have hr : RInt wr (fun i => wr.cell? ⟨b, o + j * 1 + i, none⟩) (mkI x (k + cntS cI (l.take j))) bi := RInt.fr _ _ _ _ _ _ hr0 (fun c hc => hB.block c (hm c (hsub c hc))) (fun i _ => (bcell hB).1 b _ (hm b (by simp)))
      have hbw : InMem bi wr := (fun c hc => Nat.lt_of_lt_of_le (hm c (hsub c hc)) hB.size)
      clear hr0 hm hsub hbi
      generalize hcc : cntS cI (l.take j) = cc at *
      clear hcc
      obtain ⟨c0, -, rfl⟩ := hr
      simp only [Nat.mul_one, Nat.add_zero] at c0
      have hle2 : cc + 1 ≤ cntS cI l := hle.out
      have e0 : wr.cell? ⟨b, o + j, none⟩ = some (.int .i64 (k + cc)) := c0
      clear c0
      have hbl : b < wr.heap.size := by cases hw : wr.heap[b]? with | none => simp [World.cell?, hw] at e0 | some o => exact lt_of_some hw
      go_wp2
      go_roundw
      case rel => exact ⟨j + 1, hlt, by go_num, by rw [hsucc.out]; unfold cI; apply congrArg; omega, hB⟩
      case measure => simp [intOf]; omega
    · obtain rfl : j = n := by omega
      have e1 : l.take j = l := List.take_of_length_le (by rw [← hn.out]; exact Nat.le_refl _)
      rw [e1]
      clear e1
      go_wp2
      go_ret
      exact ⟨rfl, hB⟩

end Go.Proofs.YtbgkhipclkhlcaaGreatDoor
