/-
  Plain laws: an instance in which relations are replaced, on both sides.
-/
import Derived.Test.YtmgdjaiaekhkgaaGreatM55
import Derived.Test.YtmgdjaiaekhkgaaGreatS5
import Derived.Test.YtmgdjaiaekhkgaaGreatY
namespace Go.Proofs.YtmgdjaiaekhkgaaGreat
set_option linter.unusedVariables false
set_option linter.unusedSimpArgs false
theorem cntAt (a : Atom) : a.ecnt ≤ 10 * (1 + a.sz) := by
  have : cntS cI a.args ≤ a.sz := by rw [cntI]; unfold Atom.sz; omega
  unfold Atom.ecnt Atom.cnt
  omega
theorem cntFo (f : Formula) : f.ecnt ≤ 10 * (1 + f.sz) := by
  have := cntS_le_szS cntAt f.atoms
  unfold Formula.ecnt Formula.cnt Formula.sz
  omega
theorem cntGa {g : Gadgets} (h : g.sz ≤ 1048576) : g.cnt ≤ 104857600 := by
  have := cntS_le_szS cntFo g.formulas
  unfold Gadgets.sz at h
  unfold Gadgets.cnt
  omega
theorem szq_two {left : Int} {n : Nat} (h0 : 0 ≤ left) (h1 : left ≤ 1048576) : ∃ z, szq left n = some z ∧ (decide (z < 0) = true ∨ (decide (z < 0) = false ∧ z = left - n ∧ (n : Int) ≤ left)) := by
  refine ⟨szR left n, szq_eq h0 h1, ?_⟩
  unfold szR
  split
  · exact .inr ⟨by simp; omega, rfl, by assumption⟩
  · exact .inl (by simp)
def iotA (V : Int) (m : Nat) : List Int := (List.range m).map fun (i : Nat) => V + i
theorem iotA_len (V : Int) (m : Nat) : (iotA V m).length = m := by simp [iotA]
theorem iotA_succ (V : Int) (m : Nat) : iotA V (m + 1) = V :: iotA (V + 1) m := by
  unfold iotA
  rw [List.range_succ_eq_map, List.map_cons, List.map_map]
  simp only [Int.natCast_zero, Int.add_zero, List.cons.injEq, true_and]
  apply List.map_congr_left
  intro i _
  simp only [Function.comp]
  push_cast
  omega
theorem iotA_get {V : Int} {m j : Nat} (h : j < m) : (iotA V m)[j]? = some (V + j) := by
  unfold iotA
  rw [List.getElem?_map, List.getElem?_range h]
  rfl
theorem iotA_app (V : Int) (m n : Nat) : iotA V m ++ iotA (V + m) n = iotA V (m + n) := by
  apply List.ext_getElem?
  intro j
  by_cases h1 : j < m
  · rw [List.getElem?_append_left (by rw [iotA_len]; exact h1), iotA_get h1, iotA_get (by omega)]
  · by_cases h2 : j < m + n
    · rw [List.getElem?_append_right (by rw [iotA_len]; omega), iotA_len, iotA_get (by omega), iotA_get h2]
      congr 1
      omega
    · rw [List.getElem?_eq_none (by rw [List.length_append, iotA_len, iotA_len]; omega), List.getElem?_eq_none (by rw [iotA_len]; omega)]
theorem upTo_loop {ρ : Type} (V : Int) (h0 : 0 ≤ V) : ∀ (m k : Nat) (s : List Int), V + k + m ≤ 1000000 → s.length + m ≤ 1000000 →
    forI (σ := (List Int)) (ρ := ρ) (fun (k36 : Nat) (s30 : (List Int)) =>
   bnd (ck (V + (k36 : Int))) fun z42 =>
   bnd (ap s30 ([z42])) fun z46 =>
   some (.go z46)) m k s = some (.nx (s ++ iotA (V + k) m))
  | 0, k, s, _, _ => by simp [forI, iotA]
  | m + 1, k, s, h1, h2 => by
    have e : V + ((k + 1 : Nat) : Int) = V + k + 1 := by omega
    rw [forI_go (s' := s ++ [V + k]) (by rw [ck_eq (by omega) (by omega), bnd_s, ap_eq (by simp only [List.length_cons, List.length_nil]; omega), bnd_s]), upTo_loop V h0 m (k + 1) _ (by omega) (by rw [List.length_append, List.length_singleton]; omega), iotA_succ, e]
    simp
theorem upTo_eq {V : Int} {m : Nat} (h0 : 0 ≤ V) (h1 : V + m ≤ 1000000) : impl_upTo V (m : Int) = some (iotA V m) := by
  unfold impl_upTo
  have := upTo_loop (ρ := List Int) V h0 m 0 [] (by omega) (by simp only [List.length_nil]; omega)
  rw [Int.toNat_natCast, this, thn_nx, List.nil_append]
  simp
theorem Count_eq {m : Nat} (h1 : m ≤ 1000000) : spec_l03Count (m : Int) = some (iotA 0 m) := by
  unfold spec_l03Count
  have key : ∀ (m k : Nat) (s : List Int), k + m ≤ 1000000 → s.length + m ≤ 1000000 → forI (σ := (List Int)) (ρ := (List Int)) (fun (k34 : Nat) (s28 : (List Int)) =>
   bnd (ap s28 ([(k34 : Int)])) fun z42 =>
   some (.go z42)) m k s = some (.nx (s ++ iotA (k : Int) m)) := by
    intro m
    induction m with
    | zero => intro k s _ _; simp [forI, iotA]
    | succ m ih =>
      intro k s h2 h3
      have e : ((k + 1 : Nat) : Int) = (k : Int) + 1 := by omega
      rw [forI_go (s' := s ++ [(k : Int)]) (by rw [ap_eq (by simp only [List.length_cons, List.length_nil]; omega), bnd_s]), ih (k + 1) _ (by omega) (by rw [List.length_append, List.length_singleton]; omega), iotA_succ, e]
      simp
  rw [Int.toNat_natCast, key m 0 [] (by omega) (by simp only [List.length_nil]; omega), thn_nx, List.nil_append]
  rfl
theorem to_loopA {ρ : Type} : ∀ (m k : Nat) (to : List Int) (V : Int), 0 ≤ V → V + m ≤ 1000000 → to.length + m ≤ 1000000 →
    forI (σ := Int × (List Int)) (ρ := ρ) (fun (k232 : Nat) (s : Int × (List Int)) =>
       match s with
       | (s222, s224) =>
       bnd (ap s224 ([s222])) fun z243 =>
       bnd (ck (s222 + 1)) fun z247 =>
       some (.go (z247, z243))) m k (V, to) = some (.nx (V + m, to ++ iotA V m))
  | 0, k, to, V, _, _, _ => by simp [forI, iotA]
  | m + 1, k, to, V, h0, h1, h2 => by
    rw [forI_go (s' := (V + 1, to ++ [V])) (by
      simp only [ap_eq (l := to) (m := [V]) (by simp only [List.length_cons, List.length_nil]; omega), bnd_s, ck_eq (x := V + 1) (by omega) (by omega)]), to_loopA m (k + 1) _ (V + 1) (by omega) (by omega) (by rw [List.length_append, List.length_singleton]; omega), iotA_succ]
    have e : V + 1 + (m : Int) = V + ((m + 1 : Nat) : Int) := by omega
    rw [e, List.append_assoc, List.singleton_append]
def mvB (g : Int → Int) (l : List Atom) : List Atom := l.map fun b => ⟨b.rel, b.args.map g⟩
theorem mvB_loop {ρ : Type} {b : Nat → Atom → List Atom → Option (Ctl (List Atom) ρ)} (g : Int → Int) : ∀ (l : List Atom) (k : Nat) (s : List Atom), (∀ (j : Nat) x s, x ∈ l → s.length ≤ 1000 → b j x s = some (.go (s ++ [⟨x.rel, x.args.map g⟩]))) → s.length + l.length ≤ 1000 → forL b l k s = some (.nx (s ++ mvB g l))
  | [], _, s, _, _ => by simp [mvB, forL]
  | x :: l, k, s, h, hs => by
    rw [List.length_cons] at hs
    rw [forL_go (h k x s (by simp) (by omega)), mvB_loop g l (k + 1) _ (fun j y s hy => h j y s (by simp [hy])) (by rw [List.length_append, List.length_singleton]; omega)]
    simp [mvB]
theorem MovedB_eq {l : List Atom} {to : List Int} (hl : l.length ≤ 100) (h : ∀ b ∈ l, b.args.length ≤ 100 ∧ ∀ i ∈ b.args, 0 ≤ i ∧ i < to.length) : spec_l03Moved l to = some (mvB (fun i => to.getD i.toNat 0) l) := by
  unfold spec_l03Moved
  rw [mvB_loop (fun i => to.getD i.toNat 0) l 0 [] (fun j x s hx hs => by
    have h1 : spec_l01Mapped x.args to = some (atV to x.args) := l01At_eq (h x hx).2 (by have := (h x hx).1; omega)
    rw [h1, bnd_s, ap_eq (by simp only [List.length_cons, List.length_nil]; omega), bnd_s]
    rfl) (by simp only [List.length_nil]; omega), thn_nx, List.nil_append]
theorem argsB_loop {ρ : Type} {f : Int → Option Int} (g : Int → Int) : ∀ (l : List Int) (k : Nat) (s : List Int), (∀ i ∈ l, f i = some (g i)) → s.length + l.length ≤ 1000 → forL (σ := (List Int)) (ρ := ρ) (fun (k213 : Nat) (x215 : Int) (s207 : (List Int)) =>
     bnd (f x215) fun z222 =>
     bnd (ap s207 ([z222])) fun z226 =>
     some (.go z226)) l k s = some (.nx (s ++ l.map g))
  | [], _, s, _, _ => by simp [forL]
  | x :: l, k, s, h, hs => by
    rw [List.length_cons] at hs
    rw [forL_go (s' := s ++ [g x]) (by rw [h x (by simp), bnd_s, ap_eq (by simp only [List.length_cons, List.length_nil]; omega), bnd_s]), argsB_loop g l (k + 1) _ (fun i hi => h i (by simp [hi])) (by rw [List.length_append, List.length_singleton]; omega)]
    simp
theorem renamedB_eq {l : List Atom} {f : Int → Option Int} (g : Int → Int) (hl : l.length ≤ 100) (h : ∀ b ∈ l, b.args.length ≤ 100 ∧ ∀ i ∈ b.args, f i = some (g i)) : impl_renamed l f = some (mvB g l) := by
  unfold impl_renamed
  rw [mvB_loop g l 0 [] (fun j x s hx hs => by
    rw [argsB_loop g x.args 0 [] (h x hx).2 (by have := (h x hx).1; simp only [List.length_nil]; omega), thn_nx, ap_eq (by simp only [List.length_cons, List.length_nil]; omega), bnd_s]
    rfl) (by simp only [List.length_nil]; omega), thn_nx, List.nil_append]
/-- A constraint over variables below n. -/
def CV (t : Template) (n : Int) (c : Con) : Prop := (∀ i ∈ c.scope, 0 ≤ i ∧ i < n) ∧ ∃ r : Rel, 0 ≤ c.rel ∧ t.rels[c.rel.toNat]? = some r ∧ r ∈ t.rels ∧ (c.scope.length : Int) = r.arity
def stepC (g : Gadgets) (s : Int × List Atom) (c : Con) : Int × List Atom :=
  let k := g.formulas.getD c.rel.toNat default
  (s.1 + (k.vars - k.free), s.2 ++ mvB (fun i => (c.scope ++ iotA s.1 (k.vars - k.free).toNat).getD i.toNat 0) k.atoms)
/-- What holds of the atoms. -/
def AB (V : Int) (L : List Atom) : Prop := ∀ b ∈ L, b.args.length ≤ 4 ∧ (b.rel = -1 → b.args.length = 2) ∧ ∀ i ∈ b.args, 0 ≤ i ∧ i < V
theorem apply_loop {T : Nat} {t u : Template} {g : Gadgets} (hG : GV T t u g) {n : Int} {ρ ρ' : Type} : ∀ (l : List Con) (k : Nat) (V : Int) (L : List Atom), (∀ c ∈ l, CV t n c) → n ≤ V → 0 ≤ V → V + 8 * l.length ≤ 1000 → L.length + 16 * l.length ≤ 900 → AB V L →
    forL (σ := Int × (List Atom)) (ρ := ρ) (fun (k151 : Nat) (x153 : Con) (s : Int × (List Atom)) =>
    match s with
    | (s141, s143) =>
    bnd (ix g.formulas x153.rel) fun z175 =>
    bnd (spec_l00Own x153.scope) fun z189 =>
    thn (σ := Int × (List Int)) (
     forI (σ := Int × (List Int)) (ρ := (Ctl (Int × (List Atom)) ρ)) (fun (k232 : Nat) (s : Int × (List Int)) =>
       match s with
       | (s222, s224) =>
       bnd (ap s224 ([s222])) fun z243 =>
       bnd (ck (s222 + 1)) fun z247 =>
       some (.go (z247, z243))) (z175.vars - z175.free).toNat 0 (s141, z189)) fun (s227, s229) =>
    bnd (spec_l03Moved z175.atoms s229) fun z256 =>
    bnd (ap s143 z256) fun z261 =>
    some (.go (s227, z261))) l k (V, L) = some (.nx (l.foldl (stepC g) (V, L))) ∧
    forL (σ := (List Int) × (List Atom)) (ρ := ρ') (fun (k95 : Nat) (x97 : Con) (s : (List Int) × (List Atom)) =>
    match s with
    | (s83, s86) =>
    bnd (ix g.formulas x97.rel) fun z109 =>
    bnd (ck ((s83.length : Int) - z109.free)) fun z121 =>
    bnd (impl_renamed z109.atoms (fun a0 => impl_applied_1 a0 (Formula.mk z109.free z109.vars z109.atoms) (Con.mk x97.rel x97.scope) z121)) fun z124 =>
    bnd (ap s86 z124) fun z129 =>
    bnd (ck (z109.vars - z109.free)) fun z134 =>
    bnd (impl_upTo (s83.length : Int) z134) fun z136 =>
    bnd (ap s83 z136) fun z141 =>
    some (.go (z141, z129))) l k (iotA 0 V.toNat, L) = some (.nx (iotA 0 (l.foldl (stepC g) (V, L)).1.toNat, (l.foldl (stepC g) (V, L)).2)) ∧
    (V ≤ (l.foldl (stepC g) (V, L)).1 ∧ (l.foldl (stepC g) (V, L)).1 ≤ 1000 ∧ AB (l.foldl (stepC g) (V, L)).1 (l.foldl (stepC g) (V, L)).2 ∧ (l.foldl (stepC g) (V, L)).2.length ≤ 900)
  | [], k, V, L, _, _, h0, h1, h2, h3 => by
    simp only [List.length_nil] at h1 h2
    exact ⟨rfl, rfl, Int.le_refl _, by simp only [List.foldl_nil]; omega, h3, by simp only [List.foldl_nil]; omega⟩
  | c :: l, k, V, L, hA, hn, h0, h1, h2, h3 => by
    rw [List.length_cons] at h1 h2
    obtain ⟨ha, r, hr0, hr1, hr2, hr3⟩ := hA c (by simp)
    rw [List.foldl_cons]
    have hlt : c.rel.toNat < g.formulas.length := by rw [hG.n]; exact (List.getElem?_eq_some_iff.1 hr1).1
    obtain ⟨k0, hk0⟩ : ∃ k0, g.formulas[c.rel.toNat]? = some k0 := ⟨_, List.getElem?_eq_getElem hlt⟩
    have hgd : g.formulas.getD c.rel.toNat default = k0 := by rw [List.getD_eq_getElem?_getD, hk0]; rfl
    obtain ⟨f1, f2, _⟩ := hG.f _ _ hk0
    have hfree : k0.free = (c.scope.length : Int) := by rw [f2, hr3, List.getD_eq_getElem?_getD, hr1]; rfl
    have fv := f1.v0
    have ff := f1.f0
    have hown : spec_l00Own c.scope = some c.scope := by
      unfold spec_l00Own
      rw [ap_eq (by simp only [List.length_nil]; omega), bnd_s, List.nil_append]
    have hm : ((k0.vars - k0.free).toNat : Int) = k0.vars - k0.free := by omega
    have hTo : (c.scope ++ iotA V (k0.vars - k0.free).toNat).length = k0.vars.toNat := by
      rw [List.length_append, iotA_len]; omega
    have hb4 : ∀ b ∈ k0.atoms, b.args.length ≤ 4 := fun b hb => ((f1.a b hb).len hG.uV).2
    have es : stepC g (V, L) c = (V + (k0.vars - k0.free), L ++ mvB (fun i => (c.scope ++ iotA V (k0.vars - k0.free).toNat).getD i.toNat 0) k0.atoms) := by
      unfold stepC
      rw [hgd]
    have hget : ∀ i : Int, 0 ≤ i → i < k0.vars → (c.scope ++ iotA V (k0.vars - k0.free).toNat).getD i.toNat 0 = if i < k0.free then c.scope.getD i.toNat 0 else V + (i - k0.free) := fun i q0 q1 => by
      rw [List.getD_eq_getElem?_getD]
      by_cases hi : i < k0.free
      · rw [if_pos hi, List.getElem?_append_left (by omega), List.getD_eq_getElem?_getD]
      · rw [if_neg hi, List.getElem?_append_right (by omega), iotA_get (by omega), Option.getD_some]
        omega
    have hml : (mvB (fun i => (c.scope ++ iotA V (k0.vars - k0.free).toNat).getD i.toNat 0) k0.atoms).length ≤ 16 := by unfold mvB; rw [List.length_map]; exact f1.n
    have hAB : AB (V + (k0.vars - k0.free)) (L ++ mvB (fun i => (c.scope ++ iotA V (k0.vars - k0.free).toNat).getD i.toNat 0) k0.atoms) := fun b hb => by
      rcases List.mem_append.1 hb with hb | hb
      · obtain ⟨q1, q2, q3⟩ := h3 b hb
        exact ⟨q1, q2, fun i hi => by have := q3 i hi; omega⟩
      · obtain ⟨d, hd, rfl⟩ := List.mem_map.1 hb
        have hv := f1.a d hd
        refine ⟨by simp only [List.length_map]; exact hb4 d hd, fun e => ?_, fun i hi => ?_⟩
        · simp only [List.length_map]
          rcases hv.2 with h | ⟨_, h, _⟩
          · exact h.2
          · simp only at e; omega
        · obtain ⟨j, hj, rfl⟩ := List.mem_map.1 hi
          obtain ⟨q0, q1⟩ := hv.1 j hj
          rw [hget j q0 (by omega)]
          by_cases h4 : j < k0.free
          · rw [if_pos h4, List.getD_eq_getElem?_getD, List.getElem?_eq_getElem (by omega), Option.getD_some]
            have := ha _ (List.getElem_mem (show j.toNat < c.scope.length by omega))
            omega
          · rw [if_neg h4]
            omega
    obtain ⟨i1, i2, i3, i4, i5, i6⟩ := apply_loop (ρ := ρ) (ρ' := ρ') hG l (k + 1) (V + (k0.vars - k0.free)) (L ++ mvB (fun i => (c.scope ++ iotA V (k0.vars - k0.free).toNat).getD i.toNat 0) k0.atoms) (fun b hb => hA b (by simp [hb])) (by omega) (by omega) (by omega) (by rw [List.length_append]; omega) hAB
    rw [es]
    refine ⟨?_, ?_, by omega, i4, i5, i6⟩
    · rw [forL_go (s' := (V + (k0.vars - k0.free), L ++ mvB (fun i => (c.scope ++ iotA V (k0.vars - k0.free).toNat).getD i.toNat 0) k0.atoms)) (by
        simp only [ix_of hr0 hk0, bnd_s, hown]
        rw [to_loopA (k0.vars - k0.free).toNat 0 c.scope V h0 (by omega) (by omega), thn_nx]
        simp only
        rw [MovedB_eq (by have := f1.n; omega) (fun b hb => ⟨by have := hb4 b hb; omega, fun i hi => by rw [hTo]; exact (f1.a b hb).1 i hi⟩), bnd_s, ap_eq (by omega), bnd_s, hm])]
      exact i1
    · have hVl : ((iotA 0 V.toNat).length : Int) = V := by rw [iotA_len]; omega
      have hren : impl_renamed k0.atoms (fun a0 => impl_applied_1 a0 (Formula.mk k0.free k0.vars k0.atoms) (Con.mk c.rel c.scope) (V - k0.free)) = some (mvB (fun i => (c.scope ++ iotA V (k0.vars - k0.free).toNat).getD i.toNat 0) k0.atoms) := by
        refine renamedB_eq _ (by have := f1.n; omega) (fun b hb => ⟨by have := hb4 b hb; omega, fun i hi => ?_⟩)
        obtain ⟨q0, q1⟩ := (f1.a b hb).1 i hi
        rw [hget i q0 (by omega)]
        unfold impl_applied_1
        by_cases hi2 : i < k0.free
        · have hx : c.scope[i.toNat]? = some (c.scope.getD i.toNat 0) := by
            rw [List.getD_eq_getElem?_getD, List.getElem?_eq_getElem (by omega)]
            rfl
          simp only [hi2, decide_true, if_true]
          rw [ix_of q0 hx, bnd_s]
        · simp only [hi2, decide_false, Bool.false_eq_true, if_false]
          rw [ck_eq (by omega) (by omega), bnd_s]
          congr 1
          omega
      have hup : impl_upTo V (k0.vars - k0.free) = some (iotA V (k0.vars - k0.free).toNat) := by
        have := upTo_eq (V := V) (m := (k0.vars - k0.free).toNat) h0 (by omega)
        rw [hm] at this
        exact this
      have hap : ap (iotA 0 V.toNat) (iotA V (k0.vars - k0.free).toNat) = some (iotA 0 (V + (k0.vars - k0.free)).toNat) := by
        rw [ap_eq (by rw [iotA_len, iotA_len]; omega)]
        have h5 := iotA_app 0 V.toNat (k0.vars - k0.free).toNat
        rw [show (0 : Int) + (V.toNat : Int) = V by omega] at h5
        rw [h5, show V.toNat + (k0.vars - k0.free).toNat = (V + (k0.vars - k0.free)).toNat by omega]
      rw [forL_go (s' := (iotA 0 (V + (k0.vars - k0.free)).toNat, L ++ mvB (fun i => (c.scope ++ iotA V (k0.vars - k0.free).toNat).getD i.toNat 0) k0.atoms)) (by
        simp only [ix_of hr0 hk0, bnd_s, hVl, ck_eq (x := V - k0.free) (by omega) (by omega), hren]
        rw [ap_eq (by omega), bnd_s, ck_eq (by omega) (by omega), bnd_s, hup, bnd_s, hap, bnd_s])]
      exact i2
/-- A list turned place by place. -/
theorem upd_step {F : Int → Int} {o : List Int} {k : Nat} (h : k < o.length) : ((o.take k).map F ++ o.drop k)[k]? = some o[k] ∧ ((o.take k).map F ++ o.drop k).set k (F o[k]) = (o.take (k + 1)).map F ++ o.drop (k + 1) := by
  have hl : ((o.take k).map F).length = k := by rw [List.length_map, List.length_take]; omega
  constructor
  · rw [List.getElem?_append_right (by omega), hl, Nat.sub_self, List.drop_eq_getElem_cons h]
    rfl
  · rw [List.set_append_right _ _ (by omega), hl, Nat.sub_self, List.drop_eq_getElem_cons h, List.set_cons_zero, List.take_succ_eq_append_getElem h, List.map_append]
    simp
theorem updI {ρ : Type} {F : Int → Int} {o : List Int} {b : Nat → List Int → Option (Ctl (List Int) ρ)} (hb : ∀ (k : Nat) s x, s.length = o.length → s[k]? = some x → x ∈ o → b k s = some (.go (s.set k (F x)))) : ∀ (m k : Nat), k + m = o.length → forI b m k ((o.take k).map F ++ o.drop k) = some (.nx (o.map F))
  | 0, k, h => by
    rw [List.take_of_length_le (by omega), List.drop_eq_nil_of_le (by omega), List.append_nil]
    rfl
  | m + 1, k, h => by
    have hk : k < o.length := by omega
    obtain ⟨h1, h2⟩ := upd_step (F := F) hk
    rw [forI_go (hb k _ _ (by rw [List.length_append, List.length_map, List.length_take, List.length_drop]; omega) h1 (List.getElem_mem hk)), h2]
    exact updI hb m (k + 1) (by omega)
theorem updL {α ρ : Type} {F : Int → Int} {o : List Int} {b : Nat → α → List Int → Option (Ctl (List Int) ρ)} (hb : ∀ (k : Nat) y s x, s.length = o.length → s[k]? = some x → x ∈ o → b k y s = some (.go (s.set k (F x)))) : ∀ (l : List α) (k : Nat), k + l.length = o.length → forL b l k ((o.take k).map F ++ o.drop k) = some (.nx (o.map F))
  | [], k, h => by
    simp only [List.length_nil] at h
    rw [List.take_of_length_le (by omega), List.drop_eq_nil_of_le (by omega), List.append_nil]
    rfl
  | y :: l, k, h => by
    rw [List.length_cons] at h
    have hk : k < o.length := by omega
    obtain ⟨h1, h2⟩ := upd_step (F := F) hk
    rw [forL_go (hb k y _ _ (by rw [List.length_append, List.length_map, List.length_take, List.length_drop]; omega) h1 (List.getElem_mem hk)), h2]
    exact updL hb l (k + 1) (by omega)
theorem set_same {s : List Int} {k : Nat} {x : Int} (h : s[k]? = some x) : s.set k x = s := by
  obtain ⟨hk, rfl⟩ := List.getElem?_eq_some_iff.1 h
  exact List.set_getElem_self hk
def hiI (a b : Int) : Int := if a < b then b else a
def loI (a b : Int) : Int := if b < a then b else a
theorem Max_hi (a b : Int) : spec_l00Max a b = some (hiI a b) := by
  unfold spec_l00Max hiI
  by_cases h : b < a
  · have : ¬ a < b := by omega
    simp [h, this]
  · by_cases h2 : a < b
    · simp [h, h2]
    · have : a = b := by omega
      simp [h, h2, this]
theorem Min_lo (a b : Int) : spec_l00Min a b = some (loI a b) := by
  unfold spec_l00Min loI
  by_cases h : a < b
  · have : ¬ b < a := by omega
    simp [h, this]
  · by_cases h2 : b < a
    · simp [h, h2]
    · have : a = b := by omega
      simp [h, h2, this]
/-- One atom that says that two are one. -/
def mergeS (s : List Int) (a : Atom) : List Int := if a.rel = -1 then
    let x := s.getD (a.args.getD 0 0).toNat 0
    let y := s.getD (a.args.getD 1 0).toNat 0
    s.map fun v => if v = hiI x y then loI x y else v
  else s
theorem mergeS_len (s : List Int) (a : Atom) : (mergeS s a).length = s.length := by
  unfold mergeS
  split
  · simp
  · rfl
theorem merge_loop {V : Nat} {ρ ρ' : Type} : ∀ (l : List Atom) (k : Nat) (s : List Int), AB V l → s.length = V →
    forL (σ := (List Int)) (ρ := ρ) (fun (k495 : Nat) (x497 : Atom) (s489 : (List Int)) =>
   if (x497.rel != (-1)) then
    some (.go s489)
   else
    bnd (ix x497.args 0) fun z514 =>
    bnd (ix s489 z514) fun z519 =>
    bnd (ix x497.args 1) fun z530 =>
    bnd (ix s489 z530) fun z535 =>
    thn (σ := (List Int)) (
     forI (σ := (List Int)) (ρ := (Ctl ((List Int)) ρ)) (fun (k583 : Nat) (s577 : (List Int)) =>
      bnd (ix s577 (k583 : Int)) fun z589 =>
      bnd (spec_l00Max z519 z535) fun z594 =>
      if (z589 == z594) then
       bnd (spec_l00Min z519 z535) fun z597 =>
       some (.go (s577.set ((k583 : Int)).toNat z597))
      else
       some (.go s577)) V 0 s489) fun s580 =>
    some (.go s580)) l k s = some (.nx (l.foldl mergeS s)) ∧
    forL (σ := (List Int)) (ρ := ρ') (fun (k363 : Nat) (x365 : Atom) (s357 : (List Int)) =>
   if (x365.rel != (-1)) then
    some (.go s357)
   else
    bnd (ix x365.args 0) fun z385 =>
    bnd (ix s357 z385) fun z390 =>
    bnd (ix x365.args 1) fun z395 =>
    bnd (ix s357 z395) fun z400 =>
    thn (σ := (List Int)) (
     forL (σ := (List Int)) (ρ := (Ctl ((List Int)) ρ')) (fun (k454 : Nat) (x456 : Int) (s446 : (List Int)) =>
      bnd (ix s446 (k454 : Int)) fun z460 =>
      if (z460 == (if z390 < z400 then z400 else z390)) then
       some (.go (s446.set ((k454 : Int)).toNat (if z400 < z390 then z400 else z390)))
      else
       some (.go s446)) s357 0 s357) fun s450 =>
    some (.go s450)) l k s = some (.nx (l.foldl mergeS s)) ∧ (l.foldl mergeS s).length = V
  | [], k, s, _, hs => ⟨rfl, rfl, hs⟩
  | a :: l, k, s, hA, hs => by
    have ih := merge_loop (ρ := ρ) (ρ' := ρ') l (k + 1) (mergeS s a) (fun b hb => hA b (by simp [hb])) (by rw [mergeS_len]; exact hs)
    obtain ⟨h1, h2, h3⟩ := hA a (by simp)
    rw [List.foldl_cons]
    by_cases e : a.rel = -1
    · have e' : (a.rel != (-1)) = false := by simpa using e
      have hl := h2 e
      obtain ⟨i, j, ha⟩ : ∃ i j, a.args = [i, j] := by
        match h : a.args, hl with
        | [i, j], _ => exact ⟨i, j, rfl⟩
      have hi := h3 i (by rw [ha]; simp)
      have hj := h3 j (by rw [ha]; simp)
      have hx : s[i.toNat]? = some (s.getD i.toNat 0) := by rw [List.getD_eq_getElem?_getD, List.getElem?_eq_getElem (by omega)]; rfl
      have hy : s[j.toNat]? = some (s.getD j.toNat 0) := by rw [List.getD_eq_getElem?_getD, List.getElem?_eq_getElem (by omega)]; rfl
      have es : mergeS s a = s.map fun v => if v = hiI (s.getD i.toNat 0) (s.getD j.toNat 0) then loI (s.getD i.toNat 0) (s.getD j.toNat 0) else v := by
        unfold mergeS
        rw [if_pos e, ha]
        rfl
      refine ⟨?_, ?_, ih.2.2⟩
      · rw [forL_go (s' := mergeS s a) (by
          simp only [e', Bool.false_eq_true, if_false, ha]
          rw [show ix [i, j] 0 = some i from rfl, bnd_s, ix_of hi.1 hx, bnd_s, show ix [i, j] 1 = some j from rfl, bnd_s, ix_of hj.1 hy, bnd_s]
          have hu := updI (ρ := Ctl (List Int) ρ) (F := fun v => if v = hiI (s.getD i.toNat 0) (s.getD j.toNat 0) then loI (s.getD i.toNat 0) (s.getD j.toNat 0) else v) (o := s) (b := fun (k583 : Nat) (s577 : (List Int)) =>
      bnd (ix s577 (k583 : Int)) fun z589 =>
      bnd (spec_l00Max (s.getD i.toNat 0) (s.getD j.toNat 0)) fun z594 =>
      if (z589 == z594) then
       bnd (spec_l00Min (s.getD i.toNat 0) (s.getD j.toNat 0)) fun z597 =>
       some (.go (s577.set ((k583 : Int)).toNat z597))
      else
       some (.go s577)) (fun k s1 x _ hx1 _ => by
            rw [ix_nat hx1, bnd_s, Max_hi, bnd_s, Min_lo, bnd_s, Int.toNat_natCast]
            by_cases hv : x = hiI (s.getD i.toNat 0) (s.getD j.toNat 0)
            · have hv' : (x == hiI (s.getD i.toNat 0) (s.getD j.toNat 0)) = true := by simpa using hv
              rw [hv', if_pos rfl, if_pos hv]
            · have hv' : (x == hiI (s.getD i.toNat 0) (s.getD j.toNat 0)) = false := by simpa using hv
              rw [hv', if_neg (by simp), if_neg hv, set_same hx1]) V 0 (by omega)
          rw [List.take_zero, List.map_nil, List.nil_append, List.drop_zero] at hu
          rw [hu, thn_nx, es])]
        exact ih.1
      · rw [forL_go (s' := mergeS s a) (by
          simp only [e', Bool.false_eq_true, if_false, ha]
          rw [show ix [i, j] 0 = some i from rfl, bnd_s, ix_of hi.1 hx, bnd_s, show ix [i, j] 1 = some j from rfl, bnd_s, ix_of hj.1 hy, bnd_s]
          have hu := updL (ρ := Ctl (List Int) ρ') (F := fun v => if v = hiI (s.getD i.toNat 0) (s.getD j.toNat 0) then loI (s.getD i.toNat 0) (s.getD j.toNat 0) else v) (o := s) (b := fun (k454 : Nat) (x456 : Int) (s446 : (List Int)) =>
      bnd (ix s446 (k454 : Int)) fun z460 =>
      if (z460 == (if (s.getD i.toNat 0) < (s.getD j.toNat 0) then (s.getD j.toNat 0) else (s.getD i.toNat 0))) then
       some (.go (s446.set ((k454 : Int)).toNat (if (s.getD j.toNat 0) < (s.getD i.toNat 0) then (s.getD j.toNat 0) else (s.getD i.toNat 0))))
      else
       some (.go s446)) (fun k y s1 x _ hx1 _ => by
            rw [ix_nat hx1, bnd_s, Int.toNat_natCast]
            by_cases hv : x = hiI (s.getD i.toNat 0) (s.getD j.toNat 0)
            · have hv' : (x == hiI (s.getD i.toNat 0) (s.getD j.toNat 0)) = true := by simpa using hv
              unfold hiI at hv'
              rw [hv', if_pos rfl, if_pos hv]
              rfl
            · have hv' : (x == hiI (s.getD i.toNat 0) (s.getD j.toNat 0)) = false := by simpa using hv
              unfold hiI at hv'
              rw [hv', if_neg (by simp), if_neg hv, set_same hx1]) s 0 (by omega)
          rw [List.take_zero, List.map_nil, List.nil_append, List.drop_zero] at hu
          rw [hu, thn_nx, es])]
        exact ih.2.1
    · have e' : (a.rel != (-1)) = true := by simpa using e
      have es : mergeS s a = s := by unfold mergeS; rw [if_neg e]
      rw [es] at ih ⊢
      refine ⟨?_, ?_, ih.2.2⟩
      · rw [forL_go (s' := s) (by rw [e', if_pos rfl])]
        exact ih.1
      · rw [forL_go (s' := s) (by rw [e', if_pos rfl])]
        exact ih.2.1
section
open Go.Lib
/-- Two rising lists of numbers with the same members are one. -/
theorem lt_ext : ∀ {l m : List Int}, l.Pairwise (· < ·) → m.Pairwise (· < ·) → (∀ x, x ∈ l ↔ x ∈ m) → l = m
  | [], [], _, _, _ => rfl
  | [], b :: m, _, _, h => absurd ((h b).2 (by simp)) (by simp)
  | a :: l, [], _, _, h => absurd ((h a).1 (by simp)) (by simp)
  | a :: l, b :: m, hl, hm, h => by
    have hab : a = b := by
      rcases List.mem_cons.1 ((h a).1 (by simp)) with e | h1
      · exact e
      · rcases List.mem_cons.1 ((h b).2 (by simp)) with e | h2
        · exact e.symm
        · have := List.rel_of_pairwise_cons hm h1
          have := List.rel_of_pairwise_cons hl h2
          omega
    subst hab
    congr 1
    refine lt_ext (List.Pairwise.of_cons hl) (List.Pairwise.of_cons hm) (fun x => ⟨fun hx => ?_, fun hx => ?_⟩)
    · rcases List.mem_cons.1 ((h x).1 (by simp [hx])) with rfl | h1
      · have := List.rel_of_pairwise_cons hl hx; omega
      · exact h1
    · rcases List.mem_cons.1 ((h x).2 (by simp [hx])) with rfl | h1
      · have := List.rel_of_pairwise_cons hm hx; omega
      · exact h1
theorem arr_get {s : List Int} {j : Nat} (h : j < s.length) : s.toArray[j]! = s[j] := by
  rw [getElem!_pos s.toArray j (by simpa using h)]
  simp
theorem compact_lt {s : List Int} (hs : s.Pairwise (· ≤ ·)) : (compactUpTo s.toArray s.length).Pairwise (· < ·) := by
  unfold compactUpTo
  rw [List.pairwise_map]
  refine List.Pairwise.imp_of_mem ?_ ((List.pairwise_lt_range (n := s.length)).filter (keeps s.toArray))
  intro i j hi hj hij
  have h1 := List.mem_filter.1 hi
  have h2 := List.mem_filter.1 hj
  have hjl := List.mem_range.1 h2.1
  have hk := h2.2
  unfold keeps at hk
  have hk := of_decide_eq_true hk
  rw [arr_get (by omega), arr_get hjl]
  rw [arr_get hjl, arr_get (by omega)] at hk
  have hne : s[j] ≠ s[j - 1] := hk.resolve_left (by omega)
  have hle := List.pairwise_iff_getElem.1 hs
  have a1 : s[j - 1] ≤ s[j] := hle (j - 1) j (by omega) hjl (by omega)
  have a2 : s[i] ≤ s[j - 1] := by
    by_cases e : i = j - 1
    · subst e; exact Int.le_refl _
    · exact hle i (j - 1) (by omega) (by omega) (by omega)
  omega
theorem compact_mem {s : List Int} {x : Int} : x ∈ compactUpTo s.toArray s.length ↔ x ∈ s := by
  unfold compactUpTo
  constructor
  · intro h
    obtain ⟨j, hj, rfl⟩ := List.mem_map.1 h
    have hjl := List.mem_range.1 (List.mem_filter.1 hj).1
    rw [arr_get hjl]
    exact List.getElem_mem hjl
  · intro h
    obtain ⟨i, hi, e⟩ := List.getElem_of_mem h
    have key : ∀ (n i : Nat) (hi : i < s.length), i ≤ n → s[i] = x → x ∈ ((List.range s.length).filter (keeps s.toArray)).map (s.toArray[·]!) := by
      intro n
      induction n with
      | zero =>
        intro i hi h0 e
        obtain rfl : i = 0 := by omega
        exact List.mem_map.2 ⟨0, List.mem_filter.2 ⟨List.mem_range.2 hi, by simp [keeps]⟩, by rw [arr_get hi]; exact e⟩
      | succ n ih =>
        intro i hi h0 e
        by_cases hk : keeps s.toArray i = true
        · exact List.mem_map.2 ⟨i, List.mem_filter.2 ⟨List.mem_range.2 hi, hk⟩, by rw [arr_get hi]; exact e⟩
        · unfold keeps at hk
          simp only [decide_eq_true_eq, not_or, ne_eq, Decidable.not_not] at hk
          rw [arr_get hi, arr_get (by omega)] at hk
          exact ih (i - 1) (by omega) (by omega) (by rw [← hk.2]; exact e)
    exact key i i hi (Nat.le_refl _) e
theorem rising_eq {l F : List Int} (h0 : 0 < l.length) (h1 : l.length ≤ 100000) (hF : F.Pairwise (· < ·)) (hm : ∀ x, x ∈ F ↔ x ∈ l) : impl_rising l = some F := by
  have hlen : (l.mergeSort fun x y => decide (x ≤ y)).length = l.length := List.length_mergeSort _
  have hperm : (l.mergeSort fun x y => decide (x ≤ y)).Perm l := List.mergeSort_perm _ _
  have hsort : (l.mergeSort fun x y => decide (x ≤ y)).Pairwise (· ≤ ·) :=
    (List.pairwise_mergeSort (le := fun x y : Int => decide (x ≤ y)) (fun a b c h1 h2 => by simp at *; omega) (fun a b => by simp; omega) l).imp (fun h => by simpa using h)
  unfold impl_rising slices_Clone_s_int64_int64
  rw [ap_eq (by simp only [List.length_nil]; omega), bnd_s, bnd_s, List.nil_append]
  unfold slices_Sort_s_int64_int64
  rw [if_pos ⟨h0, by omega⟩, bnd_s]
  unfold slices_Compact_s_int64_int64
  rw [if_pos ⟨by rw [hlen]; exact h0, by rw [hlen]; omega⟩, bnd_s]
  congr 1
  exact lt_ext (compact_lt hsort) hF (fun x => by rw [compact_mem, hm, hperm.mem_iff])
end
/-- Each value stands for itself, and comes first. -/
def Rep (S : List Int) : Prop := ∀ (v : Nat) x, S[v]? = some x → 0 ≤ x ∧ x ≤ v ∧ S[x.toNat]? = some x
theorem rep_iota (V : Nat) : Rep (iotA 0 V) := fun v x h => by
  have hv : v < V := by have := (List.getElem?_eq_some_iff.1 h).1; rwa [iotA_len] at this
  rw [iotA_get hv] at h
  obtain rfl := Option.some.inj h
  refine ⟨by omega, by omega, ?_⟩
  rw [show ((0 : Int) + (v : Int)).toNat = v by omega, iotA_get hv]
theorem rep_merge {V : Nat} {S : List Int} {a : Atom} (h : Rep S) (hl : S.length = V) (ha : a.args.length ≤ 4 ∧ (a.rel = -1 → a.args.length = 2) ∧ ∀ i ∈ a.args, 0 ≤ i ∧ i < (V : Int)) : Rep (mergeS S a) := by
  unfold mergeS
  by_cases e : a.rel = -1
  · rw [if_pos e]
    have hl2 := ha.2.1 e
    obtain ⟨i, j, hij⟩ : ∃ i j, a.args = [i, j] := by
      match h : a.args, hl2 with
      | [i, j], _ => exact ⟨i, j, rfl⟩
    have hi := ha.2.2 i (by rw [hij]; simp)
    have hj := ha.2.2 j (by rw [hij]; simp)
    rw [hij]
    simp only [List.getD_cons_zero, List.getD_cons_succ]
    have hx : S[i.toNat]? = some (S.getD i.toNat 0) := by rw [List.getD_eq_getElem?_getD, List.getElem?_eq_getElem (by omega)]; rfl
    have hy : S[j.toNat]? = some (S.getD j.toNat 0) := by rw [List.getD_eq_getElem?_getD, List.getElem?_eq_getElem (by omega)]; rfl
    obtain ⟨x0, _, x2⟩ := h _ _ hx
    obtain ⟨y0, _, y2⟩ := h _ _ hy
    generalize S.getD i.toNat 0 = x at *
    generalize S.getD j.toNat 0 = y at *
    have hlo : 0 ≤ loI x y ∧ loI x y ≤ hiI x y ∧ S[(loI x y).toNat]? = some (loI x y) := by
      unfold loI hiI
      by_cases h1 : y < x
      · rw [if_pos h1, if_neg (by omega)]; exact ⟨y0, by omega, y2⟩
      · rw [if_neg h1]
        by_cases h2 : x < y
        · rw [if_pos h2]; exact ⟨x0, by omega, x2⟩
        · rw [if_neg h2]; exact ⟨x0, by omega, x2⟩
    intro v z hv
    rw [List.getElem?_map, Option.map_eq_some_iff] at hv
    obtain ⟨s, hs, rfl⟩ := hv
    obtain ⟨s0, s1, s2⟩ := h v s hs
    by_cases hsh : s = hiI x y
    · rw [if_pos hsh]
      refine ⟨hlo.1, by omega, ?_⟩
      rw [List.getElem?_map, hlo.2.2, Option.map_some]
      by_cases h3 : loI x y = hiI x y
      · rw [if_pos h3]
      · rw [if_neg h3]
    · rw [if_neg hsh]
      refine ⟨s0, s1, ?_⟩
      rw [List.getElem?_map, s2, Option.map_some, if_neg hsh]
  · rw [if_neg e]
    exact h
theorem rep_fold {V : Nat} : ∀ (l : List Atom) (S : List Int), Rep S → S.length = V → AB V l → Rep (l.foldl mergeS S)
  | [], _, h, _, _ => h
  | a :: l, S, h, hl, hA => rep_fold l (mergeS S a) (rep_merge h hl (hA a (by simp))) (by rw [mergeS_len]; exact hl) (fun b hb => hA b (by simp [hb]))
def isFix (S : List Int) (v : Nat) : Bool := S.getD v (-1) == (v : Int)
def cntF (S : List Int) (k : Nat) : Nat := ((List.range k).filter (isFix S)).length
def fixL (S : List Int) : List Int := ((List.range S.length).filter (isFix S)).map fun (v : Nat) => (v : Int)
theorem cntF_succ (S : List Int) (k : Nat) : cntF S (k + 1) = cntF S k + if isFix S k then 1 else 0 := by
  unfold cntF
  rw [List.range_succ, List.filter_append, List.length_append]
  by_cases h : isFix S k = true <;> simp [h]
theorem fixL_lt (S : List Int) : (fixL S).Pairwise (· < ·) := by
  unfold fixL
  rw [List.pairwise_map]
  exact ((List.pairwise_lt_range (n := S.length)).filter _).imp (fun h => by omega)
theorem fixL_mem {S : List Int} (h : Rep S) {x : Int} : x ∈ fixL S ↔ x ∈ S := by
  unfold fixL
  constructor
  · intro hx
    obtain ⟨v, hv, rfl⟩ := List.mem_map.1 hx
    obtain ⟨h1, h2⟩ := List.mem_filter.1 hv
    have hl := List.mem_range.1 h1
    unfold isFix at h2
    rw [List.getD_eq_getElem?_getD, List.getElem?_eq_getElem hl, Option.getD_some] at h2
    have : S[v] = (v : Int) := by simpa using h2
    rw [← this]
    exact List.getElem_mem hl
  · intro hx
    obtain ⟨v, hv, rfl⟩ := List.getElem_of_mem hx
    obtain ⟨a0, a1, a2⟩ := h v _ (List.getElem?_eq_getElem hv)
    refine List.mem_map.2 ⟨S[v].toNat, List.mem_filter.2 ⟨List.mem_range.2 (by omega), ?_⟩, by omega⟩
    unfold isFix
    rw [List.getD_eq_getElem?_getD, a2, Option.getD_some]
    simp
    omega
theorem index_loop {x : Int} {B : List Int} : ∀ (A : List Int) (k : Nat), (∀ a ∈ A, a ≠ x) → forL (σ := Unit) (ρ := Int) (fun (k22 : Nat) (x24 : Int) (s : Unit) =>
    match s with
    | _ =>
    if (x == x24) then
     some (.ret ((k22 : Int)))
    else
     some (.go ())) (A ++ x :: B) k () = some (.ret ((k + A.length : Nat) : Int))
  | [], k, _ => by
    rw [List.nil_append, forL_rt (r := (k : Int)) (by simp)]
    rfl
  | a :: A, k, h => by
    have hne : (x == a) = false := by rw [beq_eq_false_iff_ne]; exact fun e => h a (by simp) e.symm
    rw [List.cons_append, forL_go (s' := ()) (by simp [hne]), index_loop A (k + 1) (fun b hb => h b (by simp [hb]))]
    congr 3
    rw [List.length_cons]
    omega
theorem Index_eq {S : List Int} (h : Rep S) {x : Int} (hx : x ∈ S) : slices_Index_s_int64_int64 (fixL S) x = some (cntF S x.toNat : Int) := by
  obtain ⟨v, hv, rfl⟩ := List.getElem_of_mem hx
  obtain ⟨a0, a1, a2⟩ := h v _ (List.getElem?_eq_getElem hv)
  have hlt : S[v].toNat < S.length := by omega
  have hfx : isFix S S[v].toNat = true := by
    unfold isFix
    rw [List.getD_eq_getElem?_getD, a2, Option.getD_some]
    simp
    omega
  generalize S[v] = x at *
  have hr : List.range S.length = List.range x.toNat ++ x.toNat :: (List.range' (x.toNat + 1) (S.length - x.toNat - 1)) := by
    have h9 : List.range' 0 x.toNat ++ List.range' (0 + x.toNat) (S.length - x.toNat - 1 + 1) = List.range' 0 (x.toNat + (S.length - x.toNat - 1 + 1)) := List.range'_append_1
    rw [Nat.zero_add] at h9
    rw [List.range_eq_range', List.range_eq_range', ← List.range'_succ, h9]
    congr 1
    omega
  have hs : fixL S = ((List.range x.toNat).filter (isFix S)).map (fun (v : Nat) => (v : Int)) ++ x :: ((List.range' (x.toNat + 1) (S.length - x.toNat - 1)).filter (isFix S)).map (fun (v : Nat) => (v : Int)) := by
    unfold fixL
    rw [hr, List.filter_append, List.filter_cons, if_pos hfx, List.map_append, List.map_cons, Int.toNat_of_nonneg a0]
  unfold slices_Index_s_int64_int64
  rw [hs, index_loop _ 0 (fun a ha => by
    obtain ⟨w, hw, rfl⟩ := List.mem_map.1 ha
    have := List.mem_range.1 (List.mem_filter.1 hw).1
    omega), thn_ret, List.length_map, Nat.zero_add]
  rfl
theorem cntF_le (S : List Int) (k : Nat) : cntF S k ≤ k := by
  unfold cntF
  have := List.length_filter_le (isFix S) (List.range k)
  rw [List.length_range] at this
  exact this
def num1 (S : List Int) (k : Nat) : List Int := (List.range S.length).map fun v => if v < k ∧ isFix S v = true then (cntF S v : Int) else 0
def num2 (S : List Int) (k : Nat) : List Int := (List.range S.length).map fun v => if v < k then (cntF S (S.getD v 0).toNat : Int) else if isFix S v = true then (cntF S v : Int) else 0
theorem num1_loop {ρ : Type} {S : List Int} (h : Rep S) (hV : S.length ≤ 1000) : ∀ (m k : Nat), k + m = S.length →
    forI (σ := (List Int) × Int) (ρ := ρ) (fun (k658 : Nat) (s : (List Int) × Int) =>
    match s with
    | (s648, s651) =>
    bnd (ix S (k658 : Int)) fun z664 =>
    if (z664 == (k658 : Int)) then
     bnd (ix s648 (k658 : Int)) fun z670 =>
     bnd (ck (s651 + 1)) fun z676 =>
     some (.go ((s648.set ((k658 : Int)).toNat s651), z676))
    else
     some (.go (s648, s651))) m k (num1 S k, (cntF S k : Int)) = some (.nx (num1 S S.length, (cntF S S.length : Int)))
  | 0, k, hk => by
    obtain rfl : k = S.length := by omega
    rfl
  | m + 1, k, hk => by
    have hlt : k < S.length := by omega
    have hx : S[k]? = some S[k] := List.getElem?_eq_getElem hlt
    have hc := cntF_le S k
    have hfx : isFix S k = (S[k] == (k : Int)) := by unfold isFix; rw [List.getD_eq_getElem?_getD, hx]; rfl
    by_cases e : (S[k] == (k : Int)) = true
    · have hn : (num1 S k)[k]? = some 0 := by
        unfold num1
        rw [List.getElem?_map, List.getElem?_range hlt, Option.map_some, if_neg (by omega)]
      have hset : (num1 S k).set k (cntF S k : Int) = num1 S (k + 1) := by
        apply List.ext_getElem?
        intro j
        by_cases hj : j < S.length
        · rw [List.getElem?_set]
          unfold num1
          rw [List.length_map, List.length_range, List.getElem?_map, List.getElem?_map, List.getElem?_range hj, Option.map_some, Option.map_some]
          by_cases hkj : k = j
          · subst hkj
            rw [if_pos rfl, if_pos hlt, if_pos ⟨by omega, by rw [hfx]; exact e⟩]
          · rw [if_neg hkj]
            by_cases h2 : j < k
            · by_cases h3 : isFix S j = true
              · rw [if_pos ⟨h2, h3⟩, if_pos ⟨by omega, h3⟩]
              · rw [if_neg (fun h => h3 h.2), if_neg (fun h => h3 h.2)]
            · rw [if_neg (fun h => h2 h.1), if_neg (fun h => by omega)]
        · rw [List.getElem?_eq_none (by simp [num1]; omega), List.getElem?_eq_none (by simp [num1]; omega)]
      have hcs : (cntF S k : Int) + 1 = (cntF S (k + 1) : Int) := by rw [cntF_succ, hfx, e]; simp
      rw [forI_go (s' := (num1 S (k + 1), (cntF S (k + 1) : Int))) (by
        simp only [ix_nat hx, bnd_s, e, if_true, ix_nat hn, hcs, ck_eq (x := (cntF S (k + 1) : Int)) (by have := cntF_le S (k + 1); omega) (by have := cntF_le S (k + 1); omega), Int.toNat_natCast, hset])]
      exact num1_loop h hV m (k + 1) (by omega)
    · have e' : (S[k] == (k : Int)) = false := by simpa using e
      have hs1 : num1 S (k + 1) = num1 S k := by
        unfold num1
        apply List.map_congr_left
        intro j _
        by_cases hkj : j = k
        · subst hkj
          rw [if_neg (fun h => by rw [hfx, e'] at h; exact absurd h.2 (by simp)), if_neg (fun h => by omega)]
        · by_cases h3 : isFix S j = true
          · by_cases h2 : j < k
            · rw [if_pos ⟨by omega, h3⟩, if_pos ⟨h2, h3⟩]
            · rw [if_neg (fun h => by omega), if_neg (fun h => h2 h.1)]
          · rw [if_neg (fun h => h3 h.2), if_neg (fun h => h3 h.2)]
      have hcs : cntF S (k + 1) = cntF S k := by rw [cntF_succ, hfx, e']; simp
      rw [forI_go (s' := (num1 S (k + 1), (cntF S (k + 1) : Int))) (by
        simp only [ix_nat hx, bnd_s, e', Bool.false_eq_true, if_false, hs1, hcs])]
      exact num1_loop h hV m (k + 1) (by omega)
theorem num2_loop {ρ : Type} {S : List Int} (h : Rep S) : ∀ (m k : Nat), k + m = S.length →
    forI (σ := (List Int)) (ρ := ρ) (fun (k725 : Nat) (s719 : (List Int)) =>
   bnd (ix S (k725 : Int)) fun z731 =>
   bnd (ix s719 z731) fun z736 =>
   bnd (ix s719 (k725 : Int)) fun z741 =>
   some (.go (s719.set ((k725 : Int)).toNat z736))) m k (num2 S k) = some (.nx (num2 S S.length))
  | 0, k, hk => by
    obtain rfl : k = S.length := by omega
    rfl
  | m + 1, k, hk => by
    have hlt : k < S.length := by omega
    have hx : S[k]? = some S[k] := List.getElem?_eq_getElem hlt
    obtain ⟨x0, x1, x2⟩ := h k _ hx
    have hg : S.getD k 0 = S[k] := by rw [List.getD_eq_getElem?_getD, hx]; rfl
    have hat : ∀ j, j < S.length → (num2 S k)[j]? = some (if j < k then (cntF S (S.getD j 0).toNat : Int) else if isFix S j = true then (cntF S j : Int) else 0) := fun j hj => by
      unfold num2
      rw [List.getElem?_map, List.getElem?_range hj]
      rfl
    have hv : (num2 S k)[S[k].toNat]? = some (cntF S S[k].toNat : Int) := by
      rw [hat _ (by omega)]
      congr 1
      by_cases h2 : S[k].toNat < k
      · rw [if_pos h2, List.getD_eq_getElem?_getD, x2, Option.getD_some]
      · have e : S[k].toNat = k := by omega
        have hfx : isFix S S[k].toNat = true := by
          unfold isFix
          rw [List.getD_eq_getElem?_getD, x2, Option.getD_some]
          simp
          omega
        rw [if_neg h2, if_pos hfx]
    have hset : (num2 S k).set k (cntF S S[k].toNat : Int) = num2 S (k + 1) := by
      apply List.ext_getElem?
      intro j
      by_cases hj : j < S.length
      · rw [List.getElem?_set]
        unfold num2
        rw [List.length_map, List.length_range, List.getElem?_map, List.getElem?_map, List.getElem?_range hj, Option.map_some, Option.map_some]
        by_cases hkj : k = j
        · subst hkj
          rw [if_pos rfl, if_pos hlt, if_pos (by omega), hg]
        · rw [if_neg hkj]
          by_cases h2 : j < k
          · rw [if_pos h2, if_pos (show j < k + 1 by omega)]
          · rw [if_neg h2, if_neg (show ¬ j < k + 1 by omega)]
      · rw [List.getElem?_eq_none (by simp [num2]; omega), List.getElem?_eq_none (by simp [num2]; omega)]
    rw [forI_go (s' := num2 S (k + 1)) (by
      rw [ix_nat hx, bnd_s, ix_of x0 hv, bnd_s, ix_nat (hat k hlt), bnd_s, Int.toNat_natCast, hset])]
    exact num2_loop h m (k + 1) (by omega)
/-- The numbers. -/
def numS (S : List Int) : List Int := S.map fun x => (cntF S x.toNat : Int)
theorem num2_end (S : List Int) : num2 S S.length = numS S := by
  apply List.ext_getElem?
  intro j
  unfold num2 numS
  by_cases hj : j < S.length
  · rw [List.getElem?_map, List.getElem?_range hj, Option.map_some, if_pos hj, List.getElem?_map, List.getElem?_eq_getElem hj, Option.map_some, List.getD_eq_getElem?_getD, List.getElem?_eq_getElem hj]
    rfl
  · rw [List.getElem?_eq_none (by simp; omega), List.getElem?_eq_none (by simp; omega)]
theorem num12 (S : List Int) : num1 S S.length = num2 S 0 := by
  unfold num1 num2
  apply List.map_congr_left
  intro j hj
  have := List.mem_range.1 hj
  rw [if_neg (show ¬ j < 0 by omega)]
  by_cases h : isFix S j = true
  · rw [if_pos ⟨this, h⟩, if_pos h]
  · rw [if_neg (fun h2 => h h2.2), if_neg h]
theorem stand_loop {ρ : Type} {S : List Int} (h : Rep S) : forL (σ := (List Int)) (ρ := ρ) (fun (k514 : Nat) (x516 : Int) (s506 : (List Int)) =>
   bnd (ix s506 (k514 : Int)) fun z520 =>
   bnd (slices_Index_s_int64_int64 (fixL S) z520) fun z525 =>
   some (.go (s506.set ((k514 : Int)).toNat z525))) S 0 S = some (.nx (numS S)) := by
  have hu := updL (ρ := ρ) (F := fun x => (cntF S x.toNat : Int)) (o := S) (b := fun (k514 : Nat) (x516 : Int) (s506 : (List Int)) =>
   bnd (ix s506 (k514 : Int)) fun z520 =>
   bnd (slices_Index_s_int64_int64 (fixL S) z520) fun z525 =>
   some (.go (s506.set ((k514 : Int)).toNat z525))) (fun k y s x _ hx hm => by
    rw [ix_nat hx, bnd_s, Index_eq h hm, bnd_s, Int.toNat_natCast]) S 0 (by omega)
  rw [List.take_zero, List.map_nil, List.nil_append, List.drop_zero] at hu
  exact hu
def consS (n : List Int) (l : List Atom) : List Con := (l.filter fun a => decide (a.rel ≠ -1)).map fun a => ⟨a.rel, atV n a.args⟩
theorem cons_loop {V : Int} {n : List Int} (hn : (n.length : Int) = V) {ρ ρ' : Type} : ∀ (l : List Atom) (k : Nat) (s : List Con), AB V l → s.length + l.length ≤ 2000 →
    forL (σ := (List Con)) (ρ := ρ) (fun (k925 : Nat) (x927 : Atom) (s919 : (List Con)) =>
   if (x927.rel != (-1)) then
    bnd (spec_l01Mapped x927.args n) fun z949 =>
    bnd (ap s919 ([(Con.mk x927.rel z949)])) fun z957 =>
    some (.go z957)
   else
    some (.go s919)) l k s = some (.nx (s ++ consS n l)) ∧
    forL (σ := (List Con)) (ρ := ρ') (fun (k681 : Nat) (x683 : Atom) (s675 : (List Con)) =>
   if (x683.rel != (-1)) then
    bnd (impl_chosen n x683.args) fun z703 =>
    bnd (ap s675 ([(Con.mk x683.rel z703)])) fun z711 =>
    some (.go z711)
   else
    some (.go s675)) l k s = some (.nx (s ++ consS n l))
  | [], k, s, _, _ => by simp [forL, consS]
  | a :: l, k, s, hA, hs => by
    rw [List.length_cons] at hs
    obtain ⟨h1, _, h3⟩ := hA a (by simp)
    have hA' : AB V l := fun b hb => hA b (by simp [hb])
    by_cases e : a.rel = -1
    · have e' : (a.rel != (-1)) = false := by simpa using e
      have ec : consS n (a :: l) = consS n l := by unfold consS; rw [List.filter_cons, if_neg (by simpa using e)]
      obtain ⟨i1, i2⟩ := cons_loop (ρ := ρ) (ρ' := ρ') hn l (k + 1) s hA' (by omega)
      rw [ec]
      exact ⟨by rw [forL_go (s' := s) (by rw [e', if_neg (by simp)])]; exact i1, by rw [forL_go (s' := s) (by rw [e', if_neg (by simp)])]; exact i2⟩
    · have e' : (a.rel != (-1)) = true := by simpa using e
      have ec : consS n (a :: l) = ⟨a.rel, atV n a.args⟩ :: consS n l := by unfold consS; rw [List.filter_cons, if_pos (by simpa using e)]; rfl
      have hr : ∀ i ∈ a.args, 0 ≤ i ∧ i < (n.length : Int) := fun i hi => by have := h3 i hi; omega
      have c1 : spec_l01Mapped a.args n = some (atV n a.args) := l01At_eq hr (by omega)
      have c2 : impl_chosen n a.args = some (atV n a.args) := l01At_eq hr (by omega)
      have hap : ap s [Con.mk a.rel (atV n a.args)] = some (s ++ [⟨a.rel, atV n a.args⟩]) := ap_eq (by simp only [List.length_cons, List.length_nil]; omega)
      obtain ⟨i1, i2⟩ := cons_loop (ρ := ρ) (ρ' := ρ') hn l (k + 1) (s ++ [⟨a.rel, atV n a.args⟩]) hA' (by rw [List.length_append, List.length_singleton]; omega)
      rw [ec]
      rw [List.append_assoc, List.singleton_append] at i1 i2
      exact ⟨by rw [forL_go (s' := s ++ [⟨a.rel, atV n a.args⟩]) (by rw [e', if_pos rfl, c1, bnd_s, hap, bnd_s])]; exact i1, by rw [forL_go (s' := s ++ [⟨a.rel, atV n a.args⟩]) (by rw [e', if_pos rfl, c2, bnd_s, hap, bnd_s])]; exact i2⟩
def appA (g : Gadgets) (x : Instance) : Int × List Atom := x.cons.foldl (stepC g) (x.vars, [])
def appS (g : Gadgets) (x : Instance) : List Int := (appA g x).2.foldl mergeS (iotA 0 (appA g x).1.toNat)
def appR (g : Gadgets) (x : Instance) : Instance × List Int × Int :=
  if decide (10 < (cntF (appS g x) (appS g x).length : Int)) || decide (24 < ((consS (numS (appS g x)) (appA g x).2).length : Int)) then (⟨0, []⟩, [], 3)
  else (⟨(cntF (appS g x) (appS g x).length : Int), consS (numS (appS g x)) (appA g x).2⟩, (numS (appS g x)).take x.vars.toNat, 0)
theorem fixL_len (S : List Int) : (fixL S).length = cntF S S.length := by unfold fixL cntF; rw [List.length_map]
theorem applied_two {T : Nat} {t u : Template} {g : Gadgets} {x : Instance} (hG : GV T t u g) (hv : 1 ≤ x.vars ∧ x.vars ≤ 10) (hc : x.cons.length ≤ 24) (hC : ∀ c ∈ x.cons, CV t x.vars c) :
    spec_l09Apply g x = some (appR g x) ∧ impl_applied g x = some (appR g x) ∧ AB (appA g x).1 (appA g x).2 := by
  obtain ⟨a1, a2, a3, a4, a5, a6⟩ := apply_loop (ρ := Instance × (List Int) × Int) (ρ' := Instance × (List Int) × Int) hG (n := x.vars) x.cons 0 x.vars [] hC (Int.le_refl _) (by omega) (by omega) (by simp only [List.length_nil]; omega) (fun b hb => nomatch hb)
  have eA : x.cons.foldl (stepC g) (x.vars, []) = appA g x := rfl
  rw [eA] at a1 a2 a3 a4 a5 a6
  have hVn : (((appA g x).1.toNat : Nat) : Int) = (appA g x).1 := by omega
  have a5' : AB (((appA g x).1.toNat : Nat) : Int) (appA g x).2 := by rw [hVn]; exact a5
  obtain ⟨b1, b2, b3⟩ := merge_loop (ρ := Instance × (List Int) × Int) (ρ' := Instance × (List Int) × Int) (V := (appA g x).1.toNat) (appA g x).2 0 (iotA 0 (appA g x).1.toNat) a5' (iotA_len _ _)
  have eS : (appA g x).2.foldl mergeS (iotA 0 (appA g x).1.toNat) = appS g x := rfl
  rw [eS] at b1 b2 b3
  have hrep : Rep (appS g x) := rep_fold _ _ (rep_iota _) (iotA_len _ _) a5'
  have hnl : ((numS (appS g x)).length : Int) = (appA g x).1 := by unfold numS; rw [List.length_map, b3]; exact hVn
  obtain ⟨c1, c2⟩ := cons_loop (ρ := Instance × (List Int) × Int) (ρ' := Instance × (List Int) × Int) hnl (appA g x).2 0 [] a5 (by simp only [List.length_nil]; omega)
  rw [List.nil_append] at c1 c2
  have hsl : sl (numS (appS g x)) 0 x.vars = some ((numS (appS g x)).take x.vars.toNat) := by
    have := sl_take (tp := numS (appS g x)) (n := x.vars.toNat) (by omega)
    rw [show ((x.vars.toNat : Nat) : Int) = x.vars by omega] at this
    exact this
  refine ⟨?_, ?_, a5⟩
  · unfold spec_l09Apply
    rw [a1, thn_nx]
    simp only
    have hcount : spec_l03Count (appA g x).1 = some (iotA 0 (appA g x).1.toNat) := by
      have := Count_eq (m := (appA g x).1.toNat) (by omega)
      rw [hVn] at this
      exact this
    rw [hcount, bnd_s, b1, thn_nx]
    have hz : mkz (0 : Int) (appA g x).1 = some (num1 (appS g x) 0) := by
      unfold mkz
      rw [if_pos ⟨by omega, by omega⟩]
      congr 1
      apply List.ext_getElem?
      intro j
      unfold num1
      rw [b3]
      by_cases hj : j < (appA g x).1.toNat
      · rw [List.getElem?_map, List.getElem?_range hj, List.getElem?_replicate, if_pos hj, Option.map_some, if_neg (by omega)]
      · rw [List.getElem?_eq_none (by simp; omega), List.getElem?_eq_none (by simp; omega)]
    have n1 := num1_loop (ρ := Instance × (List Int) × Int) hrep (by rw [b3]; omega) (appS g x).length 0 (by omega)
    have n2 := num2_loop (ρ := Instance × (List Int) × Int) hrep (appS g x).length 0 (by omega)
    rw [show cntF (appS g x) 0 = 0 from rfl] at n1
    rw [b3] at n1 n2
    rw [hz, bnd_s]
    rw [show ((0 : Nat) : Int) = 0 from rfl] at n1
    rw [n1, thn_nx]
    simp only
    have e12 := num12 (appS g x)
    have e2 := num2_end (appS g x)
    rw [b3] at e12 e2
    rw [e12, n2, thn_nx, e2, c1, thn_nx]
    unfold appR
    rw [b3]
    by_cases h1 : (10 : Int) < (cntF (appS g x) (appA g x).1.toNat : Int)
    · simp [h1]
    · by_cases h2 : (24 : Int) < ((consS (numS (appS g x)) (appA g x).2).length : Int)
      · simp [h1, h2]
      · simp [h1, h2, hsl]
  · unfold impl_applied
    have hup : impl_upTo 0 x.vars = some (iotA 0 x.vars.toNat) := by
      have := upTo_eq (V := 0) (m := x.vars.toNat) (by omega) (by omega)
      rw [show ((x.vars.toNat : Nat) : Int) = x.vars by omega] at this
      exact this
    rw [hup, bnd_s, a2, thn_nx]
    simp only
    rw [b2, thn_nx, rising_eq (F := fixL (appS g x)) (by rw [b3]; omega) (by rw [b3]; omega) (fixL_lt _) (fun y => fixL_mem hrep), bnd_s, stand_loop hrep, thn_nx, c2, thn_nx, fixL_len]
    unfold appR
    have hcl : slices_Clone_s_int64_int64 ((numS (appS g x)).take x.vars.toNat) = some ((numS (appS g x)).take x.vars.toNat) := by
      unfold slices_Clone_s_int64_int64
      rw [ap_eq (by rw [List.length_take]; simp only [List.length_nil]; omega), bnd_s, List.nil_append]
    by_cases h1 : (10 : Int) < (cntF (appS g x) (appS g x).length : Int)
    · simp [h1]
    · by_cases h2 : (24 : Int) < ((consS (numS (appS g x)) (appA g x).2).length : Int)
      · simp [h1, h2]
      · simp [h1, h2, hsl, hcl]
def conB (t : Template) (vars : Int) (c : Con) : Bool := (decide (0 ≤ c.rel) && decide (c.rel ≤ (t.rels.length : Int) - 1)) && (((c.scope.length : Int) == (t.rels.getD c.rel.toNat default).arity) && c.scope.all (okV vars))
def instB (t : Template) (x : Instance) : Bool := tempB t && ((decide (1 ≤ x.vars) && decide (x.vars ≤ 10)) && (decide ((x.cons.length : Int) ≤ 24) && x.cons.all (conB t x.vars)))
theorem rel_at {t : Template} {c : Con} (h : (decide (0 ≤ c.rel) && decide (c.rel ≤ (t.rels.length : Int) - 1)) = true) : ix t.rels c.rel = some (t.rels.getD c.rel.toNat default) := by
  simp at h
  exact ix_of h.1 (by rw [List.getD_eq_getElem?_getD, List.getElem?_eq_getElem (by omega)]; rfl)
theorem containsC_eq (l : List Con) (p : Con → Bool) (f : Con → Option Bool) (hf : ∀ x ∈ l, f x = some (p x)) : slices_ContainsFunc_s_Con_Con l f = some (l.any p) := by
  obtain ⟨i, h1, h2⟩ := forL_idx l p f hf
  unfold slices_ContainsFunc_s_Con_Con slices_IndexFunc_s_Con_Con
  rw [h1, bnd_s, h2]
theorem inst_two {t : Template} {x : Instance} (ht : smallT t) : spec_l05Ok t x = some (instB t x) ∧ impl_ValidInstance t x = some (instB t x) := by
  have e0 : impl_ValidTemplate (Template.mk t.size t.rels) = some (tempB t) := ValidTemplate_eq t ht
  unfold spec_l05Ok impl_ValidInstance instB
  rw [l01Template_eq t ht, e0, bnd_s, bnd_s]
  by_cases h1 : tempB t = true
  · have hn := (tempB_TV ht h1).n
    simp only [h1, Bool.not_true, Bool.false_eq_true, if_false, if_true, Bool.true_and, l00In_eq, bnd_s]
    unfold impl_isVars
    simp only [within_eq, bnd_s]
    by_cases h2 : (decide (1 ≤ x.vars) && decide (x.vars ≤ 10)) = true
    · have hv : 1 ≤ x.vars ∧ x.vars ≤ 10 := by simpa using h2
      simp only [h2, Bool.not_true, Bool.false_eq_true, if_false, if_true, Bool.true_and, thn_nx]
      by_cases h3 : (x.cons.length : Int) ≤ 24
      · have h3' : ¬ (24 : Int) < (x.cons.length : Int) := by omega
        simp only [h3, h3', decide_true, decide_false, Bool.false_eq_true, if_false, if_true, Bool.true_and]
        constructor
        · exact forL_all (conB t x.vars) (fun j c _ => by
            simp only [ck_eq (x := (t.rels.length : Int) - 1) (by omega) (by omega), bnd_s]
            unfold conB
            by_cases h4 : (decide (0 ≤ c.rel) && decide (c.rel ≤ (t.rels.length : Int) - 1)) = true
            · rw [h4]
              simp only [Bool.not_true, Bool.false_eq_true, if_false, Bool.true_and, rel_at h4, bnd_s]
              by_cases h5 : ((c.scope.length : Int) == (t.rels.getD c.rel.toNat default).arity) = true
              · have h6 : ((c.scope.length : Int) != (t.rels.getD c.rel.toNat default).arity) = false := by simpa using h5
                rw [h6, h5, if_neg (by simp), Places_s (by omega), bnd_s, thn_nx]
                cases c.scope.all (okV x.vars) <;> rfl
              · have h5' : ((c.scope.length : Int) == (t.rels.getD c.rel.toNat default).arity) = false := by simpa using h5
                have h6 : ((c.scope.length : Int) != (t.rels.getD c.rel.toNat default).arity) = true := by simpa using h5
                rw [h6, h5', if_pos rfl, thn_nx]
                rfl
            · have h4' : (decide (0 ≤ c.rel) && decide (c.rel ≤ (t.rels.length : Int) - 1)) = false := by simpa using h4
              rw [h4']
              rfl)
        · rw [containsC_eq x.cons (fun c => !conB t x.vars c) _ (fun c _ => by
            unfold impl_ValidInstance_1
            simp only [ck_eq (x := (t.rels.length : Int) - 1) (by omega) (by omega), bnd_s, within_eq]
            unfold conB
            by_cases h4 : (decide (0 ≤ c.rel) && decide (c.rel ≤ (t.rels.length : Int) - 1)) = true
            · rw [h4]
              simp only [Bool.not_true, Bool.false_eq_true, if_false, Bool.true_and, rel_at h4, bnd_s, areValues_s (s := x.vars) (by omega), thn_nx]
              rfl
            · have h4' : (decide (0 ≤ c.rel) && decide (c.rel ≤ (t.rels.length : Int) - 1)) = false := by simpa using h4
              rw [h4']
              rfl), bnd_s, thn_nx, ← List.not_all_eq_any_not, Bool.not_not]
      · have h3' : (24 : Int) < (x.cons.length : Int) := by omega
        simp [h3, h3']
    · have h2' : (decide (1 ≤ x.vars) && decide (x.vars ≤ 10)) = false := by simpa using h2
      rw [h2']
      exact ⟨rfl, rfl⟩
  · have h1' : tempB t = false := by simpa using h1
    rw [h1']
    exact ⟨rfl, rfl⟩
theorem inst_CV {t : Template} {x : Instance} (h : instB t x = true) : (1 ≤ x.vars ∧ x.vars ≤ 10) ∧ x.cons.length ≤ 24 ∧ ∀ c ∈ x.cons, CV t x.vars c := by
  unfold instB at h
  simp only [Bool.and_eq_true, decide_eq_true_eq] at h
  obtain ⟨_, h2, h3, h4⟩ := h
  refine ⟨h2, by omega, fun c hc => ?_⟩
  have h5 := List.all_eq_true.1 h4 c hc
  unfold conB at h5
  simp only [Bool.and_eq_true, decide_eq_true_eq] at h5
  obtain ⟨h6', h7, h8⟩ := h5
  have h9 : (c.scope.length : Int) = (t.rels.getD c.rel.toNat default).arity := by simpa using h7
  refine ⟨fun i hi => ?_, _, h6'.1, ?_, ?_, h9⟩
  · have := List.all_eq_true.1 h8 i hi
    unfold okV at this
    simp at this
    omega
  · rw [List.getD_eq_getElem?_getD, List.getElem?_eq_getElem (by omega)]; rfl
  · rw [List.getD_eq_getElem?_getD, List.getElem?_eq_getElem (show c.rel.toNat < t.rels.length by omega)]
    exact List.getElem_mem _
def askB (t u : Template) (g : Gadgets) (x : Instance) : Bool := gadV t u g && instB t x
theorem ask_two {N : Nat} {t u : Template} {g : Gadgets} {x : Instance} (ht : smallT t) (hu : smallT u) (hN : 1100 ≤ N) : spec_l09Asked N t u g x = some (askB t u g x) ∧ impl_applyFault N t u g x = some (if askB t u g x then 0 else 1) := by
  have b1 : impl_ValidGadgets N (Template.mk t.size t.rels) (Template.mk u.size u.rels) (Gadgets.mk g.formulas) = some (gadV t u g) := (ValidGadgets_two ht hu hN).2
  have b2 : impl_ValidInstance (Template.mk t.size t.rels) (Instance.mk x.vars x.cons) = some (instB t x) := (inst_two ht).2
  unfold spec_l09Asked impl_applyFault askB
  rw [l09Ok_eq ht hu hN, b1, bnd_s, bnd_s]
  cases gadV t u g
  · exact ⟨rfl, rfl⟩
  · rw [(inst_two ht).1, b2]
    cases instB t x <;> exact ⟨rfl, rfl⟩
def applyR (t u : Template) (g : Gadgets) (x : Instance) : Instance × (List Int) × Int := if askB t u g x then appR g x else (⟨0, []⟩, [], 1)
theorem cntCo (c : Con) : c.ecnt ≤ 10 * (1 + c.sz) := by
  have : cntS cI c.scope ≤ c.sz := by rw [cntI]; unfold Con.sz; omega
  unfold Con.ecnt Con.cnt
  omega
theorem cntIn {x : Instance} (h : x.sz ≤ 1048576) : x.cnt ≤ 104857600 := by
  have := cntS_le_szS cntCo x.cons
  unfold Instance.sz at h
  unfold Instance.cnt
  omega
theorem sum_leC {α : Type} (c : α → Nat) (B : Nat) : ∀ (l : List α), (∀ x ∈ l, c x ≤ B) → cntS c l ≤ B * l.length
  | [], _ => by simp [cntS]
  | x :: r, h => by
    have := sum_leC c B r (fun y hy => h y (by simp [hy]))
    have := h x (by simp)
    rw [cntS_cons, List.length_cons, Nat.mul_succ]
    omega
theorem appR_cnt {g : Gadgets} {x : Instance} (hA : AB (appA g x).1 (appA g x).2) (hv : x.vars ≤ 10) : (appR g x).1.cnt ≤ 200 ∧ (appR g x).2.1.length ≤ 10 := by
  unfold appR
  split
  · decide
  · rename_i h
    simp at h
    constructor
    · have hs := sum_leC Con.ecnt 5 (consS (numS (appS g x)) (appA g x).2) (fun c hc => by
        obtain ⟨a, ha, rfl⟩ := List.mem_map.1 hc
        have := (hA a (List.mem_filter.1 ha).1).1
        unfold Con.ecnt Con.cnt
        simp only
        rw [cntI, atV, List.length_map]
        omega)
      unfold Instance.cnt
      simp only
      have h2 := h.2
      have : 5 * (consS (numS (appS g x)) (appA g x).2).length ≤ 5 * 24 := Nat.mul_le_mul_left _ (by omega)
      omega
    · simp only [List.length_take]
      omega
theorem applyR_cnt {t u : Template} {g : Gadgets} {x : Instance} (ht : smallT t) (hu : smallT u) : (applyR t u g x).1.cnt ≤ 200 ∧ (applyR t u g x).2.1.length ≤ 10 := by
  unfold applyR
  by_cases h : askB t u g x = true
  · have h' := h
    unfold askB at h'
    rw [Bool.and_eq_true] at h'
    have hV := h'.1
    unfold gadV at hV
    rw [Bool.and_eq_true] at hV
    have hG := gadF_GV ht hu hV.1
    obtain ⟨i1, i2, i3⟩ := inst_CV h'.2
    obtain ⟨_, _, p3⟩ := applied_two hG i1 i2 i3
    rw [if_pos h]
    exact appR_cnt p3 i1.2
  · rw [if_neg h]
    decide
end Go.Proofs.YtmgdjaiaekhkgaaGreat
