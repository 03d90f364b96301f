/-
  Plain laws: arcs are made the same way by both.
-/
import Derived.Test.YtfepllddlmhjiaaGreatM10
namespace Go.Proofs.YtfepllddlmhjiaaGreat
set_option linter.unusedVariables false
set_option linter.unusedSimpArgs false

/-- Two loops over a list that go alike. -/
theorem forL_sim {α σ σ' ρ ρ' : Type} {f : Nat → α → σ → Option (Ctl σ ρ)} {g : Nat → α → σ' → Option (Ctl σ' ρ')} (R : Nat → σ → σ' → Prop) (Q : ρ → ρ' → Prop) : ∀ (l : List α) (k : Nat) (s : σ) (s' : σ'), R k s s' →
    (∀ j x s s', l[j]? = some x → R (k + j) s s' → (∃ t t', f (k + j) x s = some (.go t) ∧ g (k + j) x s' = some (.go t') ∧ R (k + j + 1) t t') ∨ (∃ r r', f (k + j) x s = some (.ret r) ∧ g (k + j) x s' = some (.ret r') ∧ Q r r')) →
    (∃ t t', forL f l k s = some (.nx t) ∧ forL g l k s' = some (.nx t') ∧ R (k + l.length) t t') ∨ (∃ r r', forL f l k s = some (.ret r) ∧ forL g l k s' = some (.ret r') ∧ Q r r')
  | [], _, s, s', h, _ => .inl ⟨s, s', rfl, rfl, h⟩
  | x :: l, k, s, s', h, hh => by
    rcases hh 0 x s s' rfl h with ⟨t, t', h1, h2, h3⟩ | ⟨r, r', h1, h2, h3⟩
    · rw [Nat.add_zero] at h1 h2 h3
      rw [forL_go h1, forL_go h2]
      have := forL_sim R Q l (k + 1) t t' h3 (fun j y s s' hj hr => by
        rw [Nat.add_assoc, Nat.add_comm 1 j] at hr ⊢
        exact hh (j + 1) y s s' hj hr)
      rw [List.length_cons, Nat.add_comm l.length 1, ← Nat.add_assoc]
      exact this
    · rw [Nat.add_zero] at h1 h2
      exact .inr ⟨r, r', forL_rt h1, forL_rt h2, h3⟩
/-- Two loops that go alike as long as something is lowered. -/
theorem whl_sim {σ σ' ρ ρ' : Type} {f : σ → Option (Ctl σ ρ)} {g : σ' → Option (Ctl σ' ρ')} (R : σ → σ' → Prop) (E : σ → σ' → Prop) (Q : ρ → ρ' → Prop) (μ : σ → Nat)
    (hh : ∀ s s', R s s' → (∃ t t', f s = some (.go t) ∧ g s' = some (.go t') ∧ R t t' ∧ μ t < μ s) ∨ (∃ t t', f s = some (.brk t) ∧ g s' = some (.brk t') ∧ E t t') ∨ (∃ r r', f s = some (.ret r) ∧ g s' = some (.ret r') ∧ Q r r')) :
    ∀ (N : Nat) (s : σ) (s' : σ'), μ s < N → R s s' → (∃ t t', whl f N s = some (.nx t) ∧ whl g N s' = some (.nx t') ∧ E t t') ∨ (∃ r r', whl f N s = some (.ret r) ∧ whl g N s' = some (.ret r') ∧ Q r r')
  | 0, _, _, h, _ => by omega
  | N + 1, s, s', hN, h => by
    rcases hh s s' h with ⟨t, t', h1, h2, h3, h4⟩ | ⟨t, t', h1, h2, h3⟩ | ⟨r, r', h1, h2, h3⟩
    · rw [whl_go h1, whl_go h2]
      exact whl_sim R E Q μ hh N t t' (by omega) h3
    · exact .inl ⟨t, t', whl_brk h1, whl_brk h2, h3⟩
    · exact .inr ⟨r, r', whl_rt h1, whl_rt h2, h3⟩
/-- How many values are left in all. -/
def tot (dom : List (List Int)) : Nat := (dom.map List.length).sum
theorem tot_set : ∀ (dom : List (List Int)) (i : Nat) (d w : List Int), dom[i]? = some d → tot (dom.set i w) + d.length = tot dom + w.length
  | [], i, d, w, h => by simp at h
  | x :: r, 0, d, w, h => by
    simp at h; subst h
    simp [tot]; omega
  | x :: r, i + 1, d, w, h => by
    have := tot_set r i d w (by simpa using h)
    simp [tot] at this ⊢
    omega
theorem len_le_tot {dom : List (List Int)} {d : List Int} (h : d ∈ dom) : d.length ≤ tot dom := by
  induction dom with
  | nil => cases h
  | cons x r ih =>
    simp only [tot, List.map_cons, List.sum_cons]
    rcases List.mem_cons.1 h with rfl | h
    · omega
    · have := ih h; unfold tot at this; omega
/-- Domains of so many variables, each value once. -/
structure DomOk (n T : Nat) (dom : List (List Int)) : Prop where
  len : dom.length = n
  nd : ∀ d ∈ dom, d.Nodup
  le : tot dom ≤ T
theorem filter_less {l : List Int} {a : Int} (h : a ∈ l) : (l.filter (· != a)).length < l.length := by
  induction l with
  | nil => cases h
  | cons x r ih =>
    rw [List.filter_cons]
    by_cases hx : x = a
    · subst hx
      have := List.length_filter_le (· != x) r
      simp; omega
    · have hne : (x != a) = true := by simp [hx]
      rw [if_pos hne]
      rcases List.mem_cons.1 h with h | h
      · exact absurd h.symm hx
      · have := ih h; simp; omega
theorem mem_set {dom : List (List Int)} {i : Nat} {w d : List Int} (h : d ∈ dom.set i w) : d ∈ dom ∨ d = w := List.mem_or_eq_of_mem_set h
theorem DomOk.set {n T : Nat} {dom : List (List Int)} (h : DomOk n T dom) {i : Nat} {d w : List Int} (hd : dom[i]? = some d) (hw : w.Nodup) (hl : w.length ≤ d.length) : DomOk n T (dom.set i w) := by
  refine ⟨by simp [h.len], fun e he => (mem_set he).elim (h.nd e) (fun e' => e' ▸ hw), ?_⟩
  have := tot_set dom i d w hd
  have := h.le
  omega
theorem isEmpty_any (dom : List (List Int)) : impl_searcher_arcs_1 dom = some (dom.any (fun d => (d.length : Int) == 0)) := by
  unfold impl_searcher_arcs_1
  rw [containsL_eq _ (fun d => (d.length : Int) == 0) (fun a0 => impl_isEmpty a0) (fun d _ => rfl), bnd_s]
/-- No domain is empty. -/
def Full (dom : List (List Int)) : Prop := ∀ d ∈ dom, d ≠ []
theorem any_set {dom : List (List Int)} (h : Full dom) {i : Nat} (hi : i < dom.length) (w : List Int) : (dom.set i w).any (fun d => (d.length : Int) == 0) = ((w.length : Int) == 0) := by
  cases hw : ((w.length : Int) == 0) with
  | true => rw [List.any_eq_true]; exact ⟨w, List.mem_set hi w, hw⟩
  | false =>
    rw [List.any_eq_false]
    intro d hd
    rcases mem_set hd with hd | rfl
    · have := h d hd
      simp only [beq_iff_eq]
      intro h0
      exact this (List.length_eq_zero_iff.1 (by omega))
    · simp [hw]
/-- What holds in a pass. -/
structure PInv (n B T : Nat) (dom : List (List Int)) (out : List ArcStep) (ch : Bool) : Prop where
  ok : DomOk n T dom
  full : Full dom
  sum : out.length + tot dom ≤ T
  ge : B ≤ out.length
  yes : ch = true → B < out.length
  no : ch = false → out.length = B
/-- One value of one place. -/
theorem arc_step {N : Nat} {x : Template} {c : Con} {n B T kc p : Nat} {v a : Int} {dom : List (List Int)} {out : List ArcStep} {ch : Bool} (hN : 10 ≤ N) (hNT : T < N) (hT : T ≤ 1048576) (hc : ConOk x c n) (hp : p < c.scope.length) (hv : 0 ≤ v ∧ v < (n : Int)) (I : PInv n B T dom out ch) (ha : a ∈ dom.getD v.toNat []) :
    ∃ b, impl_hasSupport (Template.mk x.size x.rels) (Con.mk c.rel c.scope) dom (p : Int) a = some b ∧ spec_l05Support N x c dom (p : Int) a = some b ∧ (b = false → ∃ d w out', ix dom v = some d ∧ dom[v.toNat]? = some d ∧ w = d.filter (· != a) ∧ impl_without N d a = some w ∧ spec_l05Without d a = some w ∧ out' = out ++ [ArcStep.mk v a (kc : Int)] ∧ ap out [ArcStep.mk v a (kc : Int)] = some out' ∧
      impl_searcher_arcs_1 (dom.set v.toNat w) = some ((w.length : Int) == 0) ∧ ix (dom.set v.toNat w) v = some w ∧ DomOk n T (dom.set v.toNat w) ∧ out'.length + tot (dom.set v.toNat w) ≤ T ∧ B < out'.length ∧ (((w.length : Int) == 0) = false → PInv n B T (dom.set v.toNat w) out' true)) := by
  have hl := I.ok.len
  obtain ⟨b, h1, h2⟩ := support_eq (N := N) (dom := dom) a hN (hl.symm ▸ hc) hp
  refine ⟨b, h1, h2, fun hb => ?_⟩
  have hvn : v.toNat < dom.length := by omega
  have hdv : dom[v.toNat]? = some (dom.getD v.toNat []) := by rw [List.getD_eq_getElem?_getD, List.getElem?_eq_getElem hvn]; rfl
  obtain ⟨d, hd⟩ : ∃ d, d = dom.getD v.toNat [] := ⟨_, rfl⟩
  rw [← hd] at ha hdv
  have hdm : d ∈ dom := List.mem_of_getElem? hdv
  have hdl := len_le_tot hdm
  have hle := I.ok.le
  have hsum := I.sum
  have hless := filter_less ha
  have hset := tot_set dom v.toNat d (d.filter (· != a)) hdv
  have hok : DomOk n T (dom.set v.toNat (d.filter (· != a))) := I.ok.set hdv ((I.ok.nd d hdm).filter _) (by omega)
  have hsum' : (out ++ [ArcStep.mk v a (kc : Int)]).length + tot (dom.set v.toNat (d.filter (· != a))) ≤ T := by
    rw [List.length_append, List.length_singleton]; omega
  have hB : B < (out ++ [ArcStep.mk v a (kc : Int)]).length := by rw [List.length_append, List.length_singleton]; have := I.ge; omega
  refine ⟨d, _, _, by rw [ixD hv.1 (by omega), ← hd], hdv, rfl, without_eq d a (by omega) (by omega), l05Without_eq d a (by omega), rfl, ap_eq (by simp only [List.length_cons, List.length_nil]; omega), by rw [isEmpty_any, any_set I.full hvn], ?_, hok, hsum', hB, fun he => ⟨hok, fun e hm => ?_, hsum', by omega, fun _ => hB, fun h => nomatch h⟩⟩
  · exact ix_of hv.1 (List.getElem?_set_self hvn)
  · rcases mem_set hm with hm | rfl
    · exact I.full e hm
    · intro h0; rw [h0] at he; simp at he
/-- What is given where a domain has become empty. -/
def RQ (n B T : Nat) (r r' : List ArcStep × List (List Int)) : Prop := r = r' ∧ DomOk n T r.2 ∧ r.1.length + tot r.2 ≤ T
theorem arc_values {N : Nat} {x : Template} {c : Con} {n B T kc p : Nat} {v : Int} {ρ ρ' : Type} (F : List ArcStep × List (List Int) → ρ) (G : List ArcStep × List (List Int) → ρ') (hN : 10 ≤ N) (hNT : T < N) (hT : T ≤ 1048576) (hc : ConOk x c n) (hp : p < c.scope.length) (hv : 0 ≤ v ∧ v < (n : Int))
    {f : Nat → Int → List ArcStep × Bool × List (List Int) → Option (Ctl (List ArcStep × Bool × List (List Int)) ρ)} {g : Nat → Int → List ArcStep × List (List Int) → Option (Ctl (List ArcStep × List (List Int)) ρ')}
    (hf : ∀ k a out ch dom, f k a (out, ch, dom) = bnd (impl_hasSupport (Template.mk x.size x.rels) (Con.mk c.rel c.scope) dom (p : Int) a) fun z => if z then some (.go (out, ch, dom)) else bnd (ix dom v) fun z1 => bnd (impl_without N z1 a) fun z2 => bnd (ap out [ArcStep.mk v a (kc : Int)]) fun z3 => bnd (impl_searcher_arcs_1 (dom.set v.toNat z2)) fun z4 => if z4 then some (.ret (F (z3, dom.set v.toNat z2))) else some (.go (z3, true, dom.set v.toNat z2)))
    (hg : ∀ k a out dom, g k a (out, dom) = bnd (spec_l05Support N x c dom (p : Int) a) fun z => if (!z) then bnd (ix dom v) fun z1 => bnd (spec_l05Without z1 a) fun z2 => bnd (ap out [ArcStep.mk v a (kc : Int)]) fun z3 => thn (σ := Bool) (if true then bnd (ix (dom.set v.toNat z2) v) fun z4 => some (.nx ((z4.length : Int) == 0)) else some (.nx false)) fun s => if s then some (.ret (G (z3, dom.set v.toNat z2))) else some (.go (z3, dom.set v.toNat z2)) else some (.go (out, dom)))
    (dom : List (List Int)) (out : List ArcStep) (ch : Bool) (I : PInv n B T dom out ch) :
    (∃ out' ch' dom', forL f (dom.getD v.toNat []) 0 (out, ch, dom) = some (.nx (out', ch', dom')) ∧ forL g (dom.getD v.toNat []) 0 (out, dom) = some (.nx (out', dom')) ∧ PInv n B T dom' out' ch') ∨
    (∃ r, forL f (dom.getD v.toNat []) 0 (out, ch, dom) = some (.ret (F r)) ∧ forL g (dom.getD v.toNat []) 0 (out, dom) = some (.ret (G r)) ∧ RQ n B T r r) := by
  obtain ⟨left, hleft⟩ : ∃ l, l = dom.getD v.toNat [] := ⟨_, rfl⟩
  have hnd : left.Nodup := by
    rw [hleft]
    have hvn : v.toNat < dom.length := by have := I.ok.len; omega
    rw [List.getD_eq_getElem?_getD, List.getElem?_eq_getElem hvn]
    exact I.ok.nd _ (List.getElem_mem hvn)
  rw [← hleft]
  rcases forL_sim (f := f) (g := g) (fun k s s' => s' = (s.1, s.2.2) ∧ PInv n B T s.2.2 s.1 s.2.1 ∧ ∀ a ∈ left.drop k, a ∈ s.2.2.getD v.toNat []) (fun r r' => ∃ q, r = F q ∧ r' = G q ∧ RQ n B T q q) left 0 (out, ch, dom) (out, dom) ⟨rfl, I, fun a ha => by rw [← hleft]; simpa using ha⟩ (fun j a s s' hj hR => by
    obtain ⟨hs', I', hin⟩ := hR
    obtain ⟨o, c', dm⟩ := s
    subst hs'
    rw [Nat.zero_add] at hin ⊢
    have hd := drop_of hj
    have ham : a ∈ left.drop j := by rw [hd]; simp
    obtain ⟨b, h1, h2, h3⟩ := arc_step (kc := kc) hN hNT hT hc hp hv I' (hin a ham)
    cases b with
    | true =>
      refine .inl ⟨(o, c', dm), (o, dm), by rw [hf, h1, bnd_s, if_pos rfl], by rw [hg, h2, bnd_s]; rfl, rfl, I', fun e he => hin e ?_⟩
      rw [hd]; simp [he]
    | false =>
      obtain ⟨d, w, o', q1, q2, q3, q4, q5, q6, q7, q8, q9, q10, q11, q12, q13⟩ := h3 rfl
      have ef : f j a (o, c', dm) = if ((w.length : Int) == 0) then some (.ret (F (o', dm.set v.toNat w))) else some (.go (o', true, dm.set v.toNat w)) := by
        rw [hf, h1, bnd_s, if_neg (by simp), q1, bnd_s, q4, bnd_s, q7, bnd_s, q8, bnd_s]
      have eg : g j a (o, dm) = if ((w.length : Int) == 0) then some (.ret (G (o', dm.set v.toNat w))) else some (.go (o', dm.set v.toNat w)) := by
        rw [hg, h2, bnd_s]
        simp only [Bool.not_false, if_true, q1, q5, q7, q9, bnd_s, thn_nx]
      cases hz : ((w.length : Int) == 0) with
      | true =>
        rw [hz] at ef eg
        exact .inr ⟨_, _, ef, eg, _, rfl, rfl, rfl, q10, q11⟩
      | false =>
        rw [hz] at ef eg
        refine .inl ⟨_, _, ef, eg, rfl, q13 hz, fun e he => ?_⟩
        have hvn : v.toNat < dm.length := by have : dm.length = n := I'.ok.len; omega
        show e ∈ (dm.set v.toNat w).getD v.toNat []
        rw [List.getD_eq_getElem?_getD, List.getElem?_set_self hvn, Option.getD_some, q3, List.mem_filter]
        have hnd2 : (a :: left.drop (j + 1)).Nodup := by rw [← hd]; exact hnd.sublist (List.drop_sublist _ _)
        have hne : e ≠ a := fun h => (List.nodup_cons.1 hnd2).1 (h ▸ he)
        have h7 := hin e (by rw [hd]; simp [he])
        rw [List.getD_eq_getElem?_getD, q2, Option.getD_some] at h7
        exact ⟨h7, by simpa using hne⟩) with ⟨t, t', h1, h2, h3, h4, _⟩ | ⟨r, r', h1, h2, q, h3, h4, h5⟩
  · obtain ⟨o, c', dm⟩ := t
    exact .inl ⟨o, c', dm, h1, by rw [h2, h3], h4⟩
  · exact .inr ⟨q, by rw [h1, h3], by rw [h2, h4], h5⟩
theorem full_iff (dom : List (List Int)) : (dom.any (fun d => (d.length : Int) == 0)) = false ↔ Full dom := by
  rw [List.any_eq_false]
  constructor
  · intro h d hd h0
    exact h d hd (by rw [h0]; rfl)
  · intro h d hd
    have := h d hd
    simp only [beq_iff_eq]
    intro h0
    exact this (List.length_eq_zero_iff.1 (by omega))
/-- The look at the domains ahead of the reference's arcs. -/
theorem ahead_full {ρ : Type} (dom : List (List Int)) (hl : dom.length ≤ 1048576) (h : Full dom) (r : ρ) : ∀ (N k : Nat), dom.length - k < N → k ≤ dom.length →
    whl (σ := Int) (ρ := ρ) (fun (s51 : Int) =>
      thn (σ := Bool) (
        if (decide (s51 < (dom.length : Int))) then   some (.nx true) else   some (.nx false)) fun s66 =>
      if s66 then
        bnd (ix dom s51) fun z70 =>
        if ((z70.length : Int) == 0) then
          some (.ret r)
        else
          bnd (ck (s51 + 1)) fun z83 =>
          some (.go z83)
      else
        some (.brk s51)) N (k : Int) = some (.nx ((dom.length : Nat) : Int))
  | 0, _, h, _ => by omega
  | N + 1, k, hN, hk => by
    by_cases hlt : k < dom.length
    · have hd : decide ((k : Int) < (dom.length : Int)) = true := by simp; exact hlt
      have hx : ix dom (k : Int) = some dom[k] := ix_nat (List.getElem?_eq_getElem hlt)
      have hc1 : ck ((k : Int) + 1) = some (((k + 1 : Nat)) : Int) := ck_eq (by omega) (by omega)
      have hz : ((dom[k].length : Int) == 0) = false := (by
        have := h dom[k] (List.getElem_mem hlt)
        simp only [beq_eq_false_iff_ne]
        intro h0
        exact this (List.length_eq_zero_iff.1 (by omega)))
      rw [whl_go (s' := ((k + 1 : Nat) : Int)) (by simp only [hd, if_true, thn_nx, hx, bnd_s, hz, Bool.false_eq_true, if_false, hc1])]
      exact ahead_full dom hl h r N (k + 1) (by omega) (by omega)
    · obtain rfl : k = dom.length := by omega
      have hd : decide (((dom.length : Nat) : Int) < (dom.length : Int)) = false := by simp
      exact whl_brk (by simp only [hd, Bool.false_eq_true, if_false, thn_nx])
theorem ahead_empty {ρ : Type} (dom : List (List Int)) (hl : dom.length ≤ 1048576) (r : ρ) : ∀ (N k : Nat), dom.length - k < N → k ≤ dom.length → ((dom.drop k).any (fun d => (d.length : Int) == 0)) = true →
    whl (σ := Int) (ρ := ρ) (fun (s51 : Int) =>
      thn (σ := Bool) (
        if (decide (s51 < (dom.length : Int))) then   some (.nx true) else   some (.nx false)) fun s66 =>
      if s66 then
        bnd (ix dom s51) fun z70 =>
        if ((z70.length : Int) == 0) then
          some (.ret r)
        else
          bnd (ck (s51 + 1)) fun z83 =>
          some (.go z83)
      else
        some (.brk s51)) N (k : Int) = some (.ret r)
  | 0, _, h, _, _ => by omega
  | N + 1, k, hN, hk, ha => by
    by_cases hlt : k < dom.length
    · have hd : decide ((k : Int) < (dom.length : Int)) = true := by simp; exact hlt
      have hx : ix dom (k : Int) = some dom[k] := ix_nat (List.getElem?_eq_getElem hlt)
      have hc1 : ck ((k : Int) + 1) = some (((k + 1 : Nat)) : Int) := ck_eq (by omega) (by omega)
      rw [List.drop_eq_getElem_cons hlt, List.any_cons, Bool.or_eq_true] at ha
      cases hz : ((dom[k].length : Int) == 0) with
      | true => exact whl_rt (by simp only [hd, if_true, thn_nx, hx, bnd_s, hz])
      | false =>
        rw [whl_go (s' := ((k + 1 : Nat) : Int)) (by simp only [hd, if_true, thn_nx, hx, bnd_s, hz, Bool.false_eq_true, if_false, hc1])]
        exact ahead_empty dom hl r N (k + 1) (by omega) (by omega) (ha.resolve_left (by rw [hz]; simp))
    · rw [List.drop_eq_nil_of_le (by omega)] at ha
      simp at ha
/-- Arcs that are made by both: where some domain is empty, and where none is. -/
theorem aheadF {ρ : Type} (dom : List (List Int)) (hl : dom.length ≤ 1048576) (h : Full dom) (r : ρ) {N : Nat} (hN : dom.length < N) {s0 : Int} (hs : s0 = ((0 : Nat) : Int)) :
    whl (σ := Int) (ρ := ρ) (fun (s51 : Int) =>
      thn (σ := Bool) (
        if (decide (s51 < (dom.length : Int))) then   some (.nx true) else   some (.nx false)) fun s66 =>
      if s66 then
        bnd (ix dom s51) fun z70 =>
        if ((z70.length : Int) == 0) then
          some (.ret r)
        else
          bnd (ck (s51 + 1)) fun z83 =>
          some (.go z83)
      else
        some (.brk s51)) N s0 = some (.nx ((dom.length : Nat) : Int)) := by rw [hs]; exact ahead_full dom hl h r N 0 (by omega) (Nat.zero_le _)
theorem aheadE {ρ : Type} (dom : List (List Int)) (hl : dom.length ≤ 1048576) (h : ¬ Full dom) (r : ρ) {N : Nat} (hN : dom.length < N) {s0 : Int} (hs : s0 = ((0 : Nat) : Int)) :
    whl (σ := Int) (ρ := ρ) (fun (s51 : Int) =>
      thn (σ := Bool) (
        if (decide (s51 < (dom.length : Int))) then   some (.nx true) else   some (.nx false)) fun s66 =>
      if s66 then
        bnd (ix dom s51) fun z70 =>
        if ((z70.length : Int) == 0) then
          some (.ret r)
        else
          bnd (ck (s51 + 1)) fun z83 =>
          some (.go z83)
      else
        some (.brk s51)) N s0 = some (.ret r) := by
  have h2 : (dom.any (fun d => (d.length : Int) == 0)) = true := by
    cases h3 : (dom.any (fun d => (d.length : Int) == 0)) with
    | true => rfl
    | false => exact absurd ((full_iff dom).1 h3) h
  rw [hs]
  exact ahead_empty dom hl r N 0 (by omega) (Nat.zero_le _) (by simpa using h2)

/-! ### Two computations that go alike -/
def Two {α β : Type} (a : Option α) (b : Option β) (P : α → β → Prop) : Prop := ∃ x y, a = some x ∧ b = some y ∧ P x y
def OutR {σ σ' ρ ρ' : Type} (R : σ → σ' → Prop) (Q : ρ → ρ' → Prop) : Out σ ρ → Out σ' ρ' → Prop
  | .nx s, .nx s' => R s s'
  | .ret r, .ret r' => Q r r'
  | _, _ => False
def CtlR {σ σ' ρ ρ' : Type} (R E : σ → σ' → Prop) (Q : ρ → ρ' → Prop) : Ctl σ ρ → Ctl σ' ρ' → Prop
  | .go s, .go s' => R s s'
  | .brk s, .brk s' => E s s'
  | .ret r, .ret r' => Q r r'
  | _, _ => False
section
variable {α β γ δ σ σ' ρ ρ' : Type} {P : γ → δ → Prop}
theorem Two.s {a : γ} {b : δ} (h : P a b) : Two (some a) (some b) P := ⟨a, b, rfl, rfl, h⟩
theorem Two.mono {P' : γ → δ → Prop} {a : Option γ} {b : Option δ} (h : Two a b P) (k : ∀ x y, P x y → P' x y) : Two a b P' := let ⟨x, y, h1, h2, h3⟩ := h; ⟨x, y, h1, h2, k x y h3⟩
theorem Two.bnd {A : α → β → Prop} {o : Option α} {o' : Option β} {k : α → Option γ} {k' : β → Option δ} (h : Two o o' A) (hk : ∀ a b, A a b → Two (k a) (k' b) P) : Two (bnd o k) (bnd o' k') P := by
  obtain ⟨a, b, rfl, rfl, h⟩ := h
  exact hk a b h
theorem Two.l {o : Option α} {k : α → Option γ} {b : Option δ} {a : α} (h : o = some a) (hk : Two (k a) b P) : Two (Go.Proofs.YtfepllddlmhjiaaGreat.bnd o k) b P := by rw [h]; exact hk
theorem Two.r {o : Option α} {k : α → Option δ} {b : Option γ} {a : α} (h : o = some a) (hk : Two b (k a) P) : Two b (Go.Proofs.YtfepllddlmhjiaaGreat.bnd o k) P := by rw [h]; exact hk
theorem Two.thn (R : σ → σ' → Prop) (Q : γ → δ → Prop) {o : Option (Out σ γ)} {o' : Option (Out σ' δ)} {k : σ → Option γ} {k' : σ' → Option δ} (h : Two o o' (OutR R Q)) (hk : ∀ a b, R a b → Two (k a) (k' b) P) (hq : ∀ a b, Q a b → P a b) : Two (thn o k) (thn o' k') P := by
  obtain ⟨a, b, rfl, rfl, h⟩ := h
  cases a <;> cases b <;> first | exact hk _ _ h | exact Two.s (hq _ _ h) | exact h.elim
theorem Two.forL (R : Nat → σ → σ' → Prop) (Q : ρ → ρ' → Prop) {f : Nat → α → σ → Option (Ctl σ ρ)} {g : Nat → α → σ' → Option (Ctl σ' ρ')} {l : List α} {k : Nat} {s : σ} {s' : σ'} (h : R k s s')
    (hh : ∀ j x s s', l[j]? = some x → R (k + j) s s' → Two (f (k + j) x s) (g (k + j) x s') (CtlR (R (k + j + 1)) (fun _ _ => False) Q)) : Two (forL f l k s) (forL g l k s') (OutR (R (k + l.length)) Q) := by
  rcases forL_sim R Q l k s s' h (fun j x s s' hj hr => by
    obtain ⟨a, b, h1, h2, h3⟩ := hh j x s s' hj hr
    cases a <;> cases b <;> first | exact .inl ⟨_, _, h1, h2, h3⟩ | exact .inr ⟨_, _, h1, h2, h3⟩ | exact h3.elim) with ⟨t, t', h1, h2, h3⟩ | ⟨r, r', h1, h2, h3⟩
  · exact ⟨_, _, h1, h2, h3⟩
  · exact ⟨_, _, h1, h2, h3⟩
theorem Two.whl (R : σ → σ' → Prop) (E : σ → σ' → Prop) (Q : ρ → ρ' → Prop) (μ : σ → Nat) {f : σ → Option (Ctl σ ρ)} {g : σ' → Option (Ctl σ' ρ')} {N : Nat} {s : σ} {s' : σ'} (hN : μ s < N) (h : R s s')
    (hh : ∀ s s', R s s' → Two (f s) (g s') (CtlR (fun t t' => R t t' ∧ μ t < μ s) E Q)) : Two (whl f N s) (whl g N s') (OutR E Q) := by
  rcases whl_sim R E Q μ (fun s s' hr => by
    obtain ⟨a, b, h1, h2, h3⟩ := hh s s' hr
    cases a <;> cases b <;> first | exact .inl ⟨_, _, h1, h2, h3.1, h3.2⟩ | exact .inr (.inl ⟨_, _, h1, h2, h3⟩) | exact .inr (.inr ⟨_, _, h1, h2, h3⟩) | exact h3.elim) N s s' hN h with ⟨t, t', h1, h2, h3⟩ | ⟨r, r', h1, h2, h3⟩
  · exact ⟨_, _, h1, h2, h3⟩
  · exact ⟨_, _, h1, h2, h3⟩
end
/-- Arcs that are made by both: where some domain is empty, and where none is. -/
theorem arcs_none {N : Nat} {x : Template} {y : Instance} {dom : List (List Int)} (hl : dom.length ≤ 1048576) (hN : dom.length < N) (h : ¬ Full dom) : spec_l05ArcsUntil N x y dom true = some ([], dom) := by
  unfold spec_l05ArcsUntil
  rw [aheadE dom hl h _ hN (s0 := 0) rfl, thn_ret]
theorem arc_two {N : Nat} {x : Template} {c : Con} {n B T kc p : Nat} {v : Int} {ρ ρ' : Type} {F : List ArcStep × List (List Int) → ρ} {G : List ArcStep × List (List Int) → ρ'} (hN : 10 ≤ N) (hNT : T < N) (hT : T ≤ 1048576) (hc : ConOk x c n) (hp : p < c.scope.length) (hv : 0 ≤ v ∧ v < (n : Int))
    {f : Nat → Int → List ArcStep × Bool × List (List Int) → Option (Ctl (List ArcStep × Bool × List (List Int)) ρ)} {g : Nat → Int → List ArcStep × List (List Int) → Option (Ctl (List ArcStep × List (List Int)) ρ')}
    (hf : ∀ k a out ch dom, f k a (out, ch, dom) = bnd (impl_hasSupport (Template.mk x.size x.rels) (Con.mk c.rel c.scope) dom (p : Int) a) fun z => if z then some (.go (out, ch, dom)) else bnd (ix dom v) fun z1 => bnd (impl_without N z1 a) fun z2 => bnd (ap out [ArcStep.mk v a (kc : Int)]) fun z3 => bnd (impl_searcher_arcs_1 (dom.set v.toNat z2)) fun z4 => if z4 then some (.ret (F (z3, dom.set v.toNat z2))) else some (.go (z3, true, dom.set v.toNat z2)))
    (hg : ∀ k a out dom, g k a (out, dom) = bnd (spec_l05Support N x c dom (p : Int) a) fun z => if (!z) then bnd (ix dom v) fun z1 => bnd (spec_l05Without z1 a) fun z2 => bnd (ap out [ArcStep.mk v a (kc : Int)]) fun z3 => thn (σ := Bool) (if true then bnd (ix (dom.set v.toNat z2) v) fun z4 => some (.nx ((z4.length : Int) == 0)) else some (.nx false)) fun s => if s then some (.ret (G (z3, dom.set v.toNat z2))) else some (.go (z3, dom.set v.toNat z2)) else some (.go (out, dom)))
    (dom : List (List Int)) (out : List ArcStep) (ch : Bool) (I : PInv n B T dom out ch) :
    Two (forL f (dom.getD v.toNat []) 0 (out, ch, dom)) (forL g (dom.getD v.toNat []) 0 (out, dom)) (OutR (fun s s' => s' = (s.1, s.2.2) ∧ PInv n B T s.2.2 s.1 s.2.1) (fun r r' => ∃ q, r = F q ∧ r' = G q ∧ RQ n B T q q)) := by
  rcases arc_values F G hN hNT hT hc hp hv hf hg dom out ch I with ⟨o3, c3, d3, h1, h2, h3⟩ | ⟨q, h1, h2, h3⟩
  · exact ⟨_, _, h1, h2, rfl, h3⟩
  · exact ⟨_, _, h1, h2, q, rfl, rfl, h3⟩
theorem arcs_two {N : Nat} {x : Template} {y : Instance} {n : Nat} {dom : List (List Int)} (hN : 10 ≤ N) (hy : ∀ c ∈ y.cons, ConOk x c n) (hok : DomOk n (tot dom) dom) (hT : tot dom ≤ 1000) (hNT : tot dom + 1 < N) (hn : n ≤ 1000) (hNn : n < N) (hF : Full dom) :
    Two (impl_makeArcs_ends N x y dom) (spec_l05ArcsUntil N x y dom true) (fun r r' => r = r' ∧ DomOk n (tot dom) r.2 ∧ r.1.length + tot r.2 ≤ tot dom) := by
  obtain ⟨T, hTd⟩ : ∃ T, T = tot dom := ⟨_, rfl⟩
  rw [← hTd] at hok hT hNT ⊢
  have hlen := hok.len
  unfold impl_makeArcs_ends spec_l05ArcsUntil
  rw [aheadF dom (by omega) hF _ (by omega) (s0 := 0) rfl, thn_nx]
  refine Two.thn (fun t t' => t'.1 = t.1 ∧ t'.2.2 = t.2.2 ∧ DomOk n T t.2.2 ∧ t.1.length + tot t.2.2 ≤ T) (fun r r' => RQ n 0 T r r') (Two.whl (fun s s' => ∃ bf : Int, s' = (s.1, bf, s.2.2) ∧ (s.2.1 = true ↔ bf ≠ (s.1.length : Int)) ∧ DomOk n T s.2.2 ∧ Full s.2.2 ∧ s.1.length + tot s.2.2 ≤ T) _ _ (fun s => tot s.2.2 + (if s.2.1 then 1 else 0)) ?_ ⟨-1, rfl, ⟨fun _ => by simp, fun _ => rfl⟩, hok, hF, by simp [hTd]⟩ (fun s s' hR => ?_)) (fun t t' h => ?_) (fun r r' h => h)
  · simp only [if_true]; omega
  · obtain ⟨out, ch, dm⟩ := s
    obtain ⟨bf, rfl, hb, ok, fl, hs⟩ := hR
    simp only at hb ok fl hs ⊢
    cases ch with
    | false =>
      have hbf : bf = (out.length : Int) := by
        by_cases h : bf = (out.length : Int)
        · exact h
        · exact absurd (hb.2 h) (by simp)
      rw [if_neg (by simp), if_neg (by simp [hbf])]
      exact Two.s ⟨rfl, rfl, ok, hs⟩
    | true =>
      have I0 : PInv n out.length (out.length + tot dm) dm out false := ⟨⟨ok.len, ok.nd, by omega⟩, fl, Nat.le_refl _, Nat.le_refl _, (fun h => nomatch h), fun _ => rfl⟩
      have hT2 : out.length + tot dm ≤ T := hs
      obtain ⟨T2, hT2d⟩ : ∃ T2, T2 = out.length + tot dm := ⟨_, rfl⟩
      rw [← hT2d] at I0 hT2
      rw [if_pos rfl, if_pos (by simpa using hb.1 rfl)]
      refine Two.thn (fun s s' => s' = (s.1, s.2.2) ∧ PInv n out.length T2 s.2.2 s.1 s.2.1) (fun r r' => ∃ q, r = .ret q ∧ r' = .ret q ∧ RQ n 0 T2 q q) (Two.mono (Two.forL (fun _ s s' => s' = (s.1, s.2.2) ∧ PInv n out.length T2 s.2.2 s.1 s.2.1) _ ⟨rfl, I0⟩ (fun j c s s' hj hR => ?_)) (fun a b h => h)) (fun a b h => ?_) (fun r r' h => ?_)
      · obtain ⟨o1, c1, d1⟩ := s
        obtain ⟨rfl, I1⟩ := hR
        have hc := hy c (List.mem_of_getElem? hj)
        refine Two.thn (fun s s' => s' = (s.1, s.2.2) ∧ PInv n out.length T2 s.2.2 s.1 s.2.1) (fun r r' => ∃ q, r = .ret (.ret q) ∧ r' = .ret (.ret q) ∧ RQ n 0 T2 q q) (Two.mono (Two.forL (fun _ s s' => s' = (s.1, s.2.2) ∧ PInv n out.length T2 s.2.2 s.1 s.2.1) _ ⟨rfl, I1⟩ (fun p v s s' hp hR => ?_)) (fun a b h => h)) (fun a b h => ?_) (fun r r' h => ?_)
        · obtain ⟨o2, c2, d2⟩ := s
          obtain ⟨rfl, I2⟩ := hR
          simp only at I2 ⊢
          have hpl : p < c.scope.length := (List.getElem?_eq_some_iff.1 hp).1
          have hv := hc.sc v (List.mem_of_getElem? hp)
          have hl2 := I2.ok.len
          have hvn : v.toNat < d2.length := by omega
          have hdl : (d2.getD v.toNat []).length ≤ 1048576 := by
            have h9 : d2.getD v.toNat [] ∈ d2 := by rw [List.getD_eq_getElem?_getD, List.getElem?_eq_getElem hvn]; exact List.getElem_mem hvn
            have := len_le_tot h9
            have := I2.ok.le
            omega
          refine Two.l (ixD hv.1 (by omega)) (Two.r (ixD hv.1 (by omega)) (Two.l (clone_eq _ hdl) (Two.r (own_eq _ hdl) ?_)))
          rw [Nat.zero_add, Nat.zero_add]
          refine Two.thn (fun s s' => s' = (s.1, s.2.2) ∧ PInv n out.length T2 s.2.2 s.1 s.2.1) (fun r r' => ∃ q, r = .ret (.ret (.ret q)) ∧ r' = .ret (.ret (.ret q)) ∧ RQ n 0 T2 q q) ?_ (fun a b h => ?_) (fun r r' h => ?_)
          · refine Two.mono (arc_two (kc := j) (B := out.length) (F := fun q => Ctl.ret (Ctl.ret (Ctl.ret q))) (G := fun q => Ctl.ret (Ctl.ret (Ctl.ret q))) hN (show T2 < N by omega) (by omega) hc hpl hv ?_ ?_ d2 o2 c2 I2) (fun a b h => ?_)
            · intro _ _ _ _ _; rfl
            · intro _ _ _ _; rfl
            · cases a <;> cases b <;> first | exact h.elim | (obtain ⟨q, h1, h2, h3⟩ := h; exact ⟨q, h1, h2, h3.1, h3.2.1, h3.2.2⟩) | exact h
          · obtain ⟨o3, c3, d3⟩ := a
            obtain ⟨rfl, h⟩ := h
            exact Two.s ⟨rfl, h⟩
          · obtain ⟨q, rfl, rfl, h⟩ := h
            exact ⟨q, rfl, rfl, h⟩
        · obtain ⟨o3, c3, d3⟩ := a
          obtain ⟨rfl, h⟩ := h
          exact Two.s ⟨rfl, h⟩
        · obtain ⟨q, rfl, rfl, h⟩ := h
          exact ⟨q, rfl, rfl, h⟩
      · obtain ⟨o3, c3, d3⟩ := a
        obtain ⟨rfl, h⟩ := h
        have h6 := h.sum
        have h7 := h.ge
        simp only at h h6 h7 ⊢
        refine Two.s ⟨⟨(out.length : Int), rfl, ?_, ⟨h.ok.len, h.ok.nd, Nat.le_trans h.ok.le hT2⟩, h.full, (show o3.length + tot d3 ≤ T by omega)⟩, ?_⟩
        · constructor
          · intro hc; have := h.yes hc; show (out.length : Int) ≠ (o3.length : Int); omega
          · intro hc
            change (out.length : Int) ≠ (o3.length : Int) at hc
            cases hc3 : c3 with
            | true => rfl
            | false => have := h.no hc3; exact absurd (by omega) hc
        · cases hc3 : c3 with
          | true => have := h.yes hc3; simp only [if_true]; omega
          | false => have := h.no hc3; simp only [Bool.false_eq_true, if_false, if_true]; omega
      · obtain ⟨q, rfl, rfl, h1, h2, h3⟩ := h
        exact ⟨rfl, ⟨h2.len, h2.nd, Nat.le_trans h2.le hT2⟩, by omega⟩
  · obtain ⟨h1, h2, h3, h4⟩ := h
    obtain ⟨o, c, d⟩ := t
    obtain ⟨o', c', d'⟩ := t'
    simp only at h1 h2 h3 h4 ⊢
    subst h1 h2
    exact Two.s ⟨rfl, h3, h4⟩
end Go.Proofs.YtfepllddlmhjiaaGreat
