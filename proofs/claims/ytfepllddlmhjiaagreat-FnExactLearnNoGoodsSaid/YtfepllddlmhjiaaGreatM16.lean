/-
  Plain laws: the no-goods that a refutation teaches.
-/
import Derived.Test.YtfepllddlmhjiaaGreatM13b
import Derived.Test.YtfepllddlmhjiaaGreatS4d
namespace Go.Proofs.YtfepllddlmhjiaaGreat
set_option linter.unusedVariables false
set_option linter.unusedSimpArgs false

def lstep (p : List (List Literal) × List Literal) (x : Line) : List (List Literal) × List Literal :=
  if x.kind = 1 then (p.1, p.2 ++ [Literal.mk x.var x.value]) else if x.kind = 3 then (p.1 ++ [p.2], p.2.dropLast) else p
def lfold (l : List Line) (p : List (List Literal) × List Literal) : List (List Literal) × List Literal := l.foldl lstep p
/-- At each 3 something is open. -/
def Okl : List Line → Nat → Prop
  | [], _ => True
  | x :: l, d => if x.kind = 1 then Okl l (d + 1) else if x.kind = 3 then 1 ≤ d ∧ Okl l (d - 1) else Okl l d
theorem Bal.okl {s : List Line} (h : Bal s) : ∀ (l : List Line) (d : Nat), Okl l d → Okl (s ++ l) d := by
  induction h with
  | nil => intro l d h; exact h
  | two h h1 h3 ih =>
    intro l d hl
    rw [List.append_assoc]
    refine ih _ d ?_
    rw [List.singleton_append, Okl, if_neg h1, if_neg h3]
    exact hl
  | pair h1 hx h2 hz ih1 ih2 =>
    intro l d hl
    rw [List.append_assoc, List.append_assoc, List.append_assoc, List.singleton_append, List.singleton_append]
    refine ih1 _ d ?_
    rw [Okl, if_pos hx]
    refine ih2 _ (d + 1) ?_
    rw [Okl, if_neg (by rw [hz]; decide), if_pos hz]
    exact ⟨by omega, hl⟩
theorem sl_last (c : List Literal) (h : 1 ≤ c.length) : sl c 0 ((c.length : Int) - 1) = some c.dropLast := by
  unfold sl
  rw [if_pos ⟨by omega, by omega, by omega⟩]
  rw [List.dropLast_eq_take, show ((c.length : Int) - 1).toNat = c.length - 1 by omega]
  rfl
theorem cloneL_eq (c : List Literal) (h : c.length ≤ 1048576) : slices_Clone_s_Literal_Literal c = some c := by
  unfold slices_Clone_s_Literal_Literal
  rw [ap_eq (by simp only [List.length_nil]; omega)]
  rfl
theorem learn_loop {ρ : Type} : ∀ (l : List Line) (k : Nat) (o : List (List Literal)) (c : List Literal), Okl l c.length → o.length + l.length ≤ 1000000 → c.length + l.length ≤ 1000000 →
    forL (σ := (List (List Literal)) × (List Literal)) (ρ := ρ) (fun (k325 : Nat) (x327 : Line) (s : (List (List Literal)) × (List Literal)) =>
     match s with
     | (s295, s302) =>
     if (x327.kind == 1) then
      bnd (ap s302 ([(Literal.mk x327.var x327.value)])) fun z369 =>
      some (.go (s295, z369))
     else
      if (x327.kind == 3) then
       bnd (slices_Clone_s_Literal_Literal s302) fun z378 =>
       bnd (ap s295 ([z378])) fun z405 =>
       bnd (ck ((s302.length : Int) - 1)) fun z417 =>
       bnd (sl s302 0 z417) fun z419 =>
       some (.go (z405, z419))
      else
       some (.go (s295, s302))) l k (o, c) = some (.nx (lfold l (o, c)))
  | [], _, _, _, _, _, _ => rfl
  | x :: l, k, o, c, h, h1, h2 => by
    rw [List.length_cons] at h1 h2
    unfold Okl at h
    by_cases hx1 : x.kind = 1
    · rw [if_pos hx1] at h
      rw [forL_go (s' := (o, c ++ [Literal.mk x.var x.value])) (by
        simp only [hx1, beq_self_eq_true, if_true, ap_eq (l := c) (m := [Literal.mk x.var x.value]) (by simp only [List.length_singleton]; omega), bnd_s])]
      rw [learn_loop l (k + 1) o (c ++ [Literal.mk x.var x.value]) (by rw [List.length_append]; exact h) (by omega) (by simp; omega)]
      show _ = some (Out.nx (lfold l (lstep (o, c) x)))
      rw [lstep, if_pos hx1]
    · rw [if_neg hx1] at h
      have e1 : (x.kind == 1) = false := by simpa using hx1
      by_cases hx3 : x.kind = 3
      · rw [if_pos hx3] at h
        have e3 : (x.kind == 3) = true := by simpa using hx3
        rw [forL_go (s' := (o ++ [c], c.dropLast)) (by
          simp only [e1, e3, Bool.false_eq_true, if_false, if_true, cloneL_eq c (by omega), bnd_s, ap_eq (l := o) (m := [c]) (by simp only [List.length_singleton]; omega), ck_eq (x := (c.length : Int) - 1) (by omega) (by omega), sl_last c h.1])]
        rw [learn_loop l (k + 1) (o ++ [c]) c.dropLast (by rw [List.length_dropLast]; exact h.2) (by simp; omega) (by simp; omega)]
        show _ = some (Out.nx (lfold l (lstep (o, c) x)))
        rw [lstep, if_neg hx1, if_pos hx3]
      · rw [if_neg hx3] at h
        have e3 : (x.kind == 3) = false := by simpa using hx3
        rw [forL_go (s' := (o, c)) (by simp only [e1, e3, Bool.false_eq_true, if_false])]
        rw [learn_loop l (k + 1) o c h (by omega) (by omega)]
        show _ = some (Out.nx (lfold l (lstep (o, c) x)))
        rw [lstep, if_neg hx1, if_neg hx3]
theorem learn_while {ρ : Type} (L : List Line) (hL : L.length ≤ 1000000) : ∀ (l : List Line) (i N : Nat) (o : List (List Literal)) (c : List Literal) (z : Line), L.drop i = l ++ [z] → l.length < N → Okl l c.length → o.length + l.length ≤ 1000000 → c.length + l.length ≤ 1000000 →
    ∃ j, whl (σ := (List (List Literal)) × (List Literal) × Int) (ρ := ρ) (fun (s : (List (List Literal)) × (List Literal) × Int) =>
     match s with
     | (s445, s451, s456) =>
     bnd (ck (s456 + 1)) fun z483 =>
     if (decide (z483 < (L.length : Int))) then
      bnd (ix L s456) fun z487 =>
      if (z487.kind == 1) then
       bnd (ap s451 ([(Literal.mk z487.var z487.value)])) fun z530 =>
       some (.go (s445, z530, z483))
      else
       if (z487.kind == 3) then
        bnd (ap ([]) s451) fun z550 =>
        bnd (ap s445 ([z550])) fun z570 =>
        bnd (ck ((s451.length : Int) - 1)) fun z581 =>
        bnd (sl s451 0 z581) fun z583 =>
        some (.go (z570, z583, z483))
       else
        some (.go (s445, s451, z483))
     else
      some (.brk (s445, s451, s456))) N (o, c, (i : Int)) = some (.nx ((lfold l (o, c)).1, (lfold l (o, c)).2, j))
  | [], i, N, o, c, z, hd, hN, _, _, _ => by
    obtain ⟨M, rfl⟩ : ∃ M, N = M + 1 := ⟨N - 1, by omega⟩
    have hl := congrArg List.length hd
    simp at hl
    have hck : ck ((i : Int) + 1) = some ((i : Int) + 1) := ck_eq (by omega) (by omega)
    have hlt : decide ((i : Int) + 1 < (L.length : Int)) = false := by simp; omega
    rw [whl_brk (s' := (o, c, (i : Int))) (by simp only [hck, bnd_s, hlt, Bool.false_eq_true, if_false])]
    exact ⟨_, rfl⟩
  | x :: l, i, N, o, c, z, hd, hN, h, h1, h2 => by
    rw [List.length_cons] at hN h1 h2
    obtain ⟨M, rfl⟩ : ∃ M, N = M + 1 := ⟨N - 1, by omega⟩
    have hl := congrArg List.length hd
    simp at hl
    have hck : ck ((i : Int) + 1) = some ((i : Int) + 1) := ck_eq (by omega) (by omega)
    have hlt : decide ((i : Int) + 1 < (L.length : Int)) = true := by simp; omega
    have hx : L[i]? = some x := by rw [← List.head?_drop, hd]; rfl
    have hix : ix L (i : Int) = some x := ix_nat hx
    have hd2 : L.drop (i + 1) = l ++ [z] := by rw [← List.drop_drop, hd]; rfl
    unfold Okl at h
    by_cases hx1 : x.kind = 1
    · rw [if_pos hx1] at h
      have e1 : (x.kind == 1) = true := by simpa using hx1
      rw [whl_go (s' := (o, c ++ [Literal.mk x.var x.value], ((i + 1 : Nat) : Int))) (by
        simp only [hck, bnd_s, hlt, if_true, hix, e1, ap_eq (l := c) (m := [Literal.mk x.var x.value]) (by simp only [List.length_singleton]; omega)]
        rfl)]
      have := learn_while (ρ := ρ) L hL l (i + 1) M o (c ++ [Literal.mk x.var x.value]) z hd2 (by omega) (by rw [List.length_append]; exact h) (by omega) (by simp; omega)
      have e : lfold (x :: l) (o, c) = lfold l (o, c ++ [Literal.mk x.var x.value]) := by
        show lfold l (lstep (o, c) x) = _
        rw [lstep, if_pos hx1]
      rw [e]
      exact this
    · rw [if_neg hx1] at h
      have e1 : (x.kind == 1) = false := by simpa using hx1
      by_cases hx3 : x.kind = 3
      · rw [if_pos hx3] at h
        have e3 : (x.kind == 3) = true := by simpa using hx3
        have hap : ap ([] : List Literal) c = some c := by rw [ap_eq (by simp only [List.length_nil]; omega)]; rfl
        rw [whl_go (s' := (o ++ [c], c.dropLast, ((i + 1 : Nat) : Int))) (by
          simp only [hck, bnd_s, hlt, if_true, hix, e1, e3, Bool.false_eq_true, if_false, hap, ap_eq (l := o) (m := [c]) (by simp only [List.length_singleton]; omega), ck_eq (x := (c.length : Int) - 1) (by omega) (by omega), sl_last c h.1]
          rfl)]
        have := learn_while (ρ := ρ) L hL l (i + 1) M (o ++ [c]) c.dropLast z hd2 (by omega) (by rw [List.length_dropLast]; exact h.2) (by simp; omega) (by simp; omega)
        have e : lfold (x :: l) (o, c) = lfold l (o ++ [c], c.dropLast) := by
          show lfold l (lstep (o, c) x) = _
          rw [lstep, if_neg hx1, if_pos hx3]
        rw [e]
        exact this
      · rw [if_neg hx3] at h
        have e3 : (x.kind == 3) = false := by simpa using hx3
        rw [whl_go (s' := (o, c, ((i + 1 : Nat) : Int))) (by
          simp only [hck, bnd_s, hlt, if_true, hix, e1, e3, Bool.false_eq_true, if_false]
          rfl)]
        have := learn_while (ρ := ρ) L hL l (i + 1) M o c z hd2 (by omega) h (by omega) (by omega)
        have e : lfold (x :: l) (o, c) = lfold l (o, c) := by
          show lfold l (lstep (o, c) x) = _
          rw [lstep, if_neg hx1, if_neg hx3]
        rw [e]
        exact this
theorem lfold_le {B : Nat} : ∀ (l : List Line) (o : List (List Literal)) (c : List Literal), (∀ q ∈ o, q.length ≤ B) → c.length + l.length ≤ B → ∀ q ∈ (lfold l (o, c)).1, q.length ≤ B
  | [], o, c, h, _ => h
  | x :: l, o, c, h, h2 => by
    rw [List.length_cons] at h2
    show ∀ q ∈ (lfold l (lstep (o, c) x)).1, q.length ≤ B
    unfold lstep
    by_cases hx1 : x.kind = 1
    · rw [if_pos hx1]
      exact lfold_le l o _ h (by simp; omega)
    · rw [if_neg hx1]
      by_cases hx3 : x.kind = 3
      · rw [if_pos hx3]
        refine lfold_le l _ _ (fun q hq => ?_) (by simp; omega)
        rcases List.mem_append.1 hq with hq | hq
        · exact h q hq
        · rw [List.mem_singleton.1 hq]; show c.length ≤ B; omega
      · rw [if_neg hx3]
        exact lfold_le l o c h (by omega)
theorem LearnNoGoods_two {N : Nat} (hN : 5100 ≤ N) {x : Template} {y : Instance} (b : Int) (hx : smallT x) : ∃ l c, impl_LearnNoGoods N x y b = some (l, c) ∧ spec_LearnNoGoods N x y b = some (l, c) ∧ l.length ≤ 200 ∧ ∀ q ∈ l, q.length ≤ 4000 := by
  obtain ⟨L, c, h1, h2, h3, h4⟩ := RefuteInstance_bal hN (y := y) b hx
  unfold impl_LearnNoGoods spec_LearnNoGoods
  rw [show (Template.mk x.size x.rels) = x from rfl, show (Instance.mk y.vars y.cons) = y from rfl, h1, h2, bnd_s, bnd_s]
  by_cases hc : c = 0
  · subst hc
    obtain ⟨seg, i, hb, hL⟩ := h4 rfl
    have e0 : ((0 : Int) != 0) = false := rfl
    have hlen : L.length = seg.length + 1 := by rw [hL]; simp
    have hok : Okl seg 0 := by have := hb.okl [] 0 trivial; rwa [List.append_nil] at this
    have hsl : sl L 0 ((L.length : Int) - 1) = some seg := by
      unfold sl
      rw [if_pos ⟨by omega, by omega, by omega⟩, show ((L.length : Int) - 1).toNat = seg.length by omega, hL]
      simp
    obtain ⟨j, hw⟩ := learn_while (ρ := List (List Literal) × Int) L (by omega) seg 0 N [] [] (Line.mk 3 i 0 0) (by rw [List.drop_zero]; exact hL) (by omega) hok (by simp; omega) (by simp; omega)
    have hf := learn_loop (ρ := List (List Literal) × Int) seg 0 [] [] hok (by simp; omega) (by simp; omega)
    have hle := lfold_le (B := 4000) seg [] [] (fun q hq => nomatch hq) (by simp; omega)
    have hck : ck ((L.length : Int) - 1) = some ((L.length : Int) - 1) := ck_eq (by omega) (by omega)
    simp only [e0, Bool.false_eq_true, if_false, hck, bnd_s, hsl]
    rw [hf]
    rw [show (((0 : Nat)) : Int) = 0 from rfl] at hw
    rw [hw]
    generalize lfold seg ([], []) = p at hle
    obtain ⟨o, c⟩ := p
    simp only [thn_nx]
    by_cases hl : 200 < (o.length : Int)
    · have : decide (200 < (o.length : Int)) = true := by simpa using hl
      rw [this]
      exact ⟨_, _, rfl, rfl, by simp, (fun q hq => nomatch hq)⟩
    · have : decide (200 < (o.length : Int)) = false := by simpa using hl
      rw [this]
      exact ⟨_, _, rfl, rfl, by omega, hle⟩
  · have e0 : (c != 0) = true := by simpa using hc
    simp only [e0, if_true]
    exact ⟨_, _, rfl, rfl, by simp, (fun q hq => nomatch hq)⟩
end Go.Proofs.YtfepllddlmhjiaaGreat
