/-
  CarryBack: both programs carry the same values back. Plain Lean. No condition.
-/
import Derived.Test.YtmgdjaiaekhkgaaGreatM66
import Derived.Test.YtmgdjaiaekhkgaaGreatS6
namespace Go.Proofs.YtmgdjaiaekhkgaaGreat
set_option linter.unusedVariables false
set_option linter.unusedSimpArgs false
set_option maxRecDepth 100000
/-- The atoms' relations are the template's. -/
def RB (u : Template) (L : List Atom) : Prop := ∀ b ∈ L, b.rel = -1 ∨ ∃ r : Rel, 0 ≤ b.rel ∧ u.rels[b.rel.toNat]? = some r ∧ r ∈ u.rels ∧ (b.args.length : Int) = r.arity
theorem app_RB {T : Nat} {t u : Template} {g : Gadgets} (hG : GV T t u g) {n : Int} : ∀ (l : List Con) (V : Int) (L : List Atom), (∀ c ∈ l, CV t n c) → RB u L → RB u (l.foldl (stepC g) (V, L)).2
  | [], V, L, _, hL => hL
  | c :: l, V, L, hC, hL => by
    rw [List.foldl_cons]
    obtain ⟨_, r, _, hr, _, _⟩ := hC c (by simp)
    have hlt : c.rel.toNat < g.formulas.length := by rw [hG.n]; exact (List.getElem?_eq_some_iff.1 hr).1
    have hf := List.getElem?_eq_getElem hlt
    have hd : g.formulas.getD c.rel.toNat default = g.formulas[c.rel.toNat] := by rw [List.getD_eq_getElem?_getD, hf]; rfl
    refine app_RB hG l _ _ (fun c' h' => hC c' (by simp [h'])) (fun b hb => ?_)
    rcases List.mem_append.1 hb with hb | hb
    · exact hL b hb
    · obtain ⟨a, ha, rfl⟩ := List.mem_map.1 hb
      rw [hd] at ha
      rcases ((hG.f _ _ hf).1.a a ha).2 with ⟨e, _⟩ | ⟨r, h0, h1, h2, h3⟩
      · exact .inl e
      · exact .inr ⟨r, h0, h1, h2, by rw [List.length_map]; exact h3⟩
theorem cntF_mono (S : List Int) {a b : Nat} (h : a ≤ b) : cntF S a ≤ cntF S b := by
  induction b with
  | zero => obtain rfl : a = 0 := by omega
            exact Nat.le_refl _
  | succ b ih =>
    by_cases e : a = b + 1
    · subst e; exact Nat.le_refl _
    · have := ih (by omega)
      rw [cntF_succ]
      omega
theorem numS_lt {S : List Int} (h : Rep S) {i : Nat} (hi : i < S.length) : 0 ≤ (numS S).getD i 0 ∧ (numS S).getD i 0 < (cntF S S.length : Int) := by
  obtain ⟨h0, h1, h2⟩ := h i S[i] (List.getElem?_eq_getElem hi)
  have e : (numS S).getD i 0 = (cntF S (S[i]).toNat : Int) := by
    unfold numS
    rw [List.getD_eq_getElem?_getD, List.getElem?_map, List.getElem?_eq_getElem hi]
    rfl
  have hf : isFix S (S[i]).toNat = true := by
    unfold isFix
    rw [List.getD_eq_getElem?_getD, h2]
    simp
    omega
  have hs := cntF_succ S (S[i]).toNat
  rw [if_pos hf] at hs
  have hm := cntF_mono S (a := (S[i]).toNat + 1) (b := S.length) (by omega)
  rw [e]
  omega
/-- A constraint that can be asked. -/
def CW (u : Template) (n : Int) (c : Con) : Prop := CV u n c ∧ c.scope.length ≤ 4
theorem appR_CW {T : Nat} {t u : Template} {g : Gadgets} {x : Instance} (hG : GV T t u g) (hC : ∀ c ∈ x.cons, CV t x.vars c) (h0 : 0 ≤ (appA g x).1) (hA : AB (appA g x).1 (appA g x).2) :
    (∀ c ∈ (appR g x).1.cons, CW u (appR g x).1.vars c) ∧ ((appR g x).2.2 = 0 → ∀ i ∈ (appR g x).2.1, 0 ≤ i ∧ i < (appR g x).1.vars) := by
  have hR : RB u (appA g x).2 := app_RB hG x.cons x.vars [] hC (fun b hb => nomatch hb)
  have hA' : AB (((appA g x).1.toNat : Nat) : Int) (appA g x).2 := by rw [Int.toNat_of_nonneg h0]; exact hA
  have hrep : Rep (appS g x) := rep_fold _ _ (rep_iota _) (iotA_len _ _) hA'
  have hlen : (appS g x).length = (appA g x).1.toNat := by
    unfold appS
    have : ∀ (l : List Atom) (s : List Int), (l.foldl mergeS s).length = s.length := by
      intro l
      induction l with
      | nil => intro s; rfl
      | cons a l ih => intro s; rw [List.foldl_cons, ih, mergeS_len]
    rw [this, iotA_len]
  unfold appR
  split
  · exact ⟨fun c hc => (nomatch hc), fun h => absurd h (by decide)⟩
  · refine ⟨fun c hc => ?_, fun _ i hi => ?_⟩
    · obtain ⟨a, ha, rfl⟩ := List.mem_map.1 hc
      obtain ⟨ha, hne⟩ := List.mem_filter.1 ha
      have hne' : a.rel ≠ -1 := by simpa using hne
      obtain ⟨k1, k2, k3⟩ := hA a ha
      rcases hR a ha with e | hr
      · exact absurd e hne'
      · obtain ⟨r, r0, r1, r2, r3⟩ := hr
        refine ⟨⟨fun i hi => ?_, r, r0, r1, r2, ?_⟩, ?_⟩
        · obtain ⟨j, hj, rfl⟩ := List.mem_map.1 hi
          have := k3 j hj
          exact numS_lt hrep (by omega)
        · show ((atV _ a.args).length : Int) = _
          unfold atV
          rw [List.length_map]; exact r3
        · show (atV _ a.args).length ≤ 4
          unfold atV
          rw [List.length_map]; exact k1
    · have hi' := List.mem_of_mem_take hi
      obtain ⟨j, hj, rfl⟩ := List.getElem_of_mem hi'
      have hj' : j < (appS g x).length := by unfold numS at hj; rwa [List.length_map] at hj
      have := numS_lt hrep hj'
      rw [List.getD_eq_getElem?_getD, List.getElem?_eq_getElem hj] at this
      exact this
/-- A constraint holds. -/
def conS (u : Template) (vs : List Int) (c : Con) : Bool := decide (atV vs c.scope ∈ (u.rels.getD c.rel.toNat default).tuples)
theorem holds_two {T N : Nat} {u : Template} {vs : List Int} {c : Con} (hu : TV T u) (h : CW u vs.length c) (hN : 1100 ≤ N) : spec_l05Holds u c vs = some (conS u vs c) ∧ impl_failing_1 N c u vs = some (!conS u vs c) := by
  obtain ⟨⟨h1, r, r0, r1, r2, r3⟩, h2⟩ := h
  have e1 := l01At_eq (vs := vs) h1 (by omega)
  have e2 := chosen_eq (vs := vs) h1 (by omega)
  obtain ⟨m, _, _, _, hasc, _⟩ := hu.r r r2
  have hg : u.rels.getD c.rel.toNat default = r := by rw [List.getD_eq_getElem?_getD, r1]; rfl
  have hix := ix_of r0 r1
  unfold spec_l05Holds impl_failing_1 conS
  rw [hix, bnd_s, bnd_s, e1, bnd_s, e2, bnd_s, hg]
  refine ⟨?_, ?_⟩
  · rw [l01Has_eq, bnd_s]
  · have := has_eq (N := N) (r := r) (t := atV vs c.scope) hasc (by have := (hu.r r r2).len hu.t; omega) (by omega)
    rw [this, bnd_s]
theorem forL_idxN {α : Type} (l : List α) (p : α → Bool) (f : α → Option Bool) (hf : ∀ x ∈ l, f x = some (p x)) : ∃ i : Int, thn (forL (σ := Unit) (ρ := Int) (fun (k : Nat) (x : α) (s : Unit) =>
    match s with
    | _ =>
    bnd (f x) fun z =>
    if (!z) then
     some (.ret ((k : Int)))
    else
     some (.go ())) l 0 ()) (fun _ => some (-1)) = some i ∧ decide (0 ≤ i) = l.any (fun x => !p x) := by
  obtain ⟨i, h1, h2⟩ := forL_idx l (fun x => !p x) (fun x => bnd (f x) fun z => some (!z)) (fun x hx => by rw [hf x hx]; rfl)
  refine ⟨i, ?_, h2⟩
  rw [← h1]
  congr 2
  funext k x s
  show bnd (f x) _ = bnd (bnd (f x) _) _
  cases f x <;> rfl
theorem failing_two {T N : Nat} {u : Template} {vs : List Int} {y : Instance} (hu : TV T u) (h : ∀ c ∈ y.cons, CW u vs.length c) (hN : 1100 ≤ N) : ∃ i j, spec_l05Failing u y vs = some i ∧ impl_failing N u y vs = some j ∧ decide (0 ≤ i) = y.cons.any (fun c => !conS u vs c) ∧ decide (0 ≤ j) = y.cons.any (fun c => !conS u vs c) := by
  obtain ⟨i, h1, h2⟩ := forL_idxN y.cons (conS u vs) (fun c => spec_l05Holds u c vs) (fun c hc => (holds_two hu (h c hc) hN).1)
  obtain ⟨j, k1, k2⟩ := forL_idx y.cons (fun c => !conS u vs c) (fun c => impl_failing_1 N c u vs) (fun c hc => (holds_two hu (h c hc) hN).2)
  refine ⟨i, j, h1, ?_, h2, k2⟩
  unfold impl_failing slices_IndexFunc_s_Con_Con
  have e : impl_failing_1 N = fun a => impl_failing_1 N a := rfl
  rw [k1, bnd_s]
def backR (t u : Template) (g : Gadgets) (x : Instance) (vs : List Int) : List Int × Int :=
  if askB t u g x then
    if (appR g x).2.2 != 0 then ([], (appR g x).2.2)
    else if areB u.size vs (appR g x).1.vars then
      if (appR g x).1.cons.any (fun c => !conS u vs c) then ([], 4) else (atV vs (appR g x).2.1, 0)
    else ([], 2)
  else ([], 1)
theorem CarryBack_two {N : Nat} {t u : Template} {g : Gadgets} {x : Instance} {vs : List Int} (ht : smallT t) (hu : smallT u) (hN : 1100 ≤ N) : spec_CarryBack N t u g x vs = some (backR t u g x vs) ∧ impl_CarryBack N t u g x vs = some (backR t u g x vs) := by
  have a1 : spec_l09Asked N (Template.mk t.size t.rels) (Template.mk u.size u.rels) (Gadgets.mk g.formulas) (Instance.mk x.vars x.cons) = some (askB t u g x) := (ask_two ht hu hN).1
  have a2 : impl_applyFault N (Template.mk t.size t.rels) (Template.mk u.size u.rels) (Gadgets.mk g.formulas) (Instance.mk x.vars x.cons) = some (if askB t u g x then 0 else 1) := (ask_two ht hu hN).2
  unfold spec_CarryBack impl_CarryBack backR
  rw [a1, a2, bnd_s, bnd_s]
  by_cases h : askB t u g x = true
  · have h' := h
    unfold askB at h'
    rw [Bool.and_eq_true] at h'
    have hV := h'.1
    unfold gadV at hV
    rw [Bool.and_eq_true] at hV
    have hG := gadF_GV ht hu hV.1
    obtain ⟨i1, i2, i3⟩ := inst_CV h'.2
    obtain ⟨p1, p2, p3⟩ := applied_two hG i1 i2 i3
    obtain ⟨_, _, a3, a4, a5, a6⟩ := apply_loop (ρ := Instance × (List Int) × Int) (ρ' := Instance × (List Int) × Int) hG (n := x.vars) x.cons 0 x.vars [] i3 (Int.le_refl _) (by omega) (by omega) (by simp only [List.length_nil]; omega) (fun b hb => nomatch hb)
    have a4' : 0 ≤ (appA g x).1 := by
      have eA : x.cons.foldl (stepC g) (x.vars, []) = appA g x := rfl
      rw [eA] at a3 a4 a6
      omega
    obtain ⟨q1, q2⟩ := appR_CW hG i3 a4' p3
    have p1' : spec_l09Apply (Gadgets.mk g.formulas) (Instance.mk x.vars x.cons) = some (appR g x) := p1
    have p2' : impl_applied (Gadgets.mk g.formulas) (Instance.mk x.vars x.cons) = some (appR g x) := p2
    rw [h, p1', p2']
    have hl10 := (appR_cnt (g := g) (x := x) p3 i1.2).2
    generalize appR g x = y at q1 q2 hl10 ⊢
    simp only [Bool.not_true, Bool.false_eq_true, if_false, if_true, bnd_s]
    have e0 : ((0 : Int) != 0) = false := rfl
    rw [e0]
    simp only [Bool.false_eq_true, if_false]
    by_cases hc : (y.2.2 != 0) = true
    · rw [hc]; exact ⟨rfl, rfl⟩
    · have hc' : (y.2.2 != 0) = false := by simpa using hc
      have hz : y.2.2 = 0 := by simpa using hc'
      have hs : okS u.size = true := by have := hG.uV.s; have := hG.uV.t; unfold okS; simp; omega
      rw [hc', l01Tuple_eq hs, areValues_eq hs]
      simp only [Bool.false_eq_true, if_false, bnd_s]
      by_cases hb : areB u.size vs y.1.vars = true
      · have hbl : (vs.length : Int) = y.1.vars := by
          unfold areB at hb
          rw [Bool.and_eq_true] at hb
          simpa using hb.1
        rw [hb]
        simp only [Bool.not_true, Bool.false_eq_true, if_false, if_true]
        obtain ⟨i, j, f1, f2, f3, f4⟩ := failing_two (N := N) (y := y.1) hG.uV (fun c hc => by rw [hbl]; exact q1 c hc) hN
        have f1' : spec_l05Failing (Template.mk u.size u.rels) (Instance.mk y.1.vars y.1.cons) vs = some i := f1
        have f2' : impl_failing N (Template.mk u.size u.rels) (Instance.mk y.1.vars y.1.cons) vs = some j := f2
        rw [f1', f2', bnd_s, bnd_s, f3, f4]
        have g1 : ∀ i ∈ y.2.1, 0 ≤ i ∧ i < vs.length := fun i hi => by rw [hbl]; exact q2 hz i hi
        rw [l01At_eq g1 (by omega), chosen_eq g1 (by omega)]
        cases (y.1.cons.any fun c => !conS u vs c) <;> exact ⟨rfl, rfl⟩
      · have hb' : areB u.size vs y.1.vars = false := by simpa using hb
        rw [hb']
        exact ⟨rfl, rfl⟩
  · have h' : askB t u g x = false := by simpa using h
    rw [h']
    exact ⟨rfl, rfl⟩
theorem backR_cnt {t u : Template} {g : Gadgets} {x : Instance} {vs : List Int} (ht : smallT t) (hu : smallT u) : (backR t u g x vs).1.length ≤ 10 := by
  have h := (applyR_cnt (g := g) (x := x) ht hu).2
  unfold applyR at h
  unfold backR
  split
  · rename_i hb
    rw [if_pos hb] at h
    split
    · exact Nat.zero_le _
    · split
      · split
        · exact Nat.zero_le _
        · show (atV vs _).length ≤ 10
          unfold atV
          rw [List.length_map]; exact h
      · exact Nat.zero_le _
  · exact Nat.zero_le _
end Go.Proofs.YtmgdjaiaekhkgaaGreat
