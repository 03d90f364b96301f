/-
  Plain laws: an instance in which relations are replaced, on both sides.
-/
import Derived.Test.YtmgdjaiaekhkgaaGreatM55
import Derived.Test.YtmgdjaiaekhkgaaGreatS5
import Derived.Test.YtmgdjaiaekhkgaaGreatY
import Derived.Test.YtmgdjaiaekhkgaaGreatS6
import Derived.Test.YtmgdjaiaekhkgaaGreatS7
namespace Go.Proofs.YtmgdjaiaekhkgaaGreat
set_option linter.unusedVariables false
set_option linter.unusedSimpArgs false
theorem cntAt (a : Atom) : a.ecnt ≤ 10 * (1 + a.sz) := by
  have : qM cI a.args ≤ a.sz := by rw [cntI]; unfold Atom.sz; omega
  unfold Atom.ecnt Atom.cnt
  omega
theorem cntFo (f : Formula) : f.ecnt ≤ 10 * (1 + f.sz) := by
  have := cntS_le_szS cntAt f.atoms
  unfold Formula.ecnt Formula.cnt Formula.sz
  omega
theorem cntGa {g : Gadgets} (h : g.sz ≤ 1048576) : g.cnt ≤ 104857600 := by
  have := cntS_le_szS cntFo g.formulas
  unfold Gadgets.sz at h
  unfold Gadgets.cnt
  omega
theorem szq_two {left : Int} {n : Nat} (h0 : 0 ≤ left) (h1 : left ≤ 1048576) : ∃ z, szq left n = some z ∧ (decide (z < 0) = true ∨ (decide (z < 0) = false ∧ z = left - n ∧ (n : Int) ≤ left)) := by
  refine ⟨szR left n, szq_eq h0 h1, ?_⟩
  unfold szR
  split
  · exact .inr ⟨by simp; omega, rfl, by assumption⟩
  · exact .inl (by simp)
def iotA (V : Int) (m : Nat) : List Int := (List.range m).map fun (i : Nat) => V + i
theorem kU (V : Int) (m : Nat) : (iotA V m).length = m := by simp [iotA]
theorem iotA_succ (V : Int) (m : Nat) : iotA V (m + 1) = V :: iotA (V + 1) m := by
  unfold iotA
  rw [List.range_succ_eq_map, List.map_cons, List.map_map]
  simp only [Int.natCast_zero, Int.add_zero, List.cons.injEq, true_and]
  apply List.map_congr_left
  intro i _
  simp only [Function.comp]
  push_cast
  omega
theorem iotA_get {V : Int} {m j : Nat} (h : j < m) : (iotA V m)[j]? = some (V + j) := by
  unfold iotA
  rw [List.getElem?_map, List.getElem?_range h]
  rfl
theorem iotA_app (V : Int) (m n : Nat) : iotA V m ++ iotA (V + m) n = iotA V (m + n) := by
  apply List.ext_getElem?
  intro j
  by_cases h1 : j < m
  · rw [List.getElem?_append_left (by rw [kU]; exact h1), iotA_get h1, iotA_get (by omega)]
  · by_cases h2 : j < m + n
    · rw [List.getElem?_append_right (by rw [kU]; omega), kU, iotA_get (by omega), iotA_get h2]
      congr 1
      omega
    · rw [List.getElem?_eq_none (by rw [List.length_append, kU, kU]; omega), List.getElem?_eq_none (by rw [kU]; omega)]
theorem upTo_loop {ρ : Type} (V : Int) (h0 : 0 ≤ V) : ∀ (m k : Nat) (s : List Int), V + k + m ≤ 1000000 → s.length + m ≤ 1000000 →
    kT (σ := (List Int)) (ρ := ρ) (fun (k36 : Nat) (s30 : (List Int)) =>
   oJ (ck (V + (k36 : Int))) fun z42 =>
   oJ (ap s30 ([z42])) fun z46 =>
   some (.go z46)) m k s = some (.nx (s ++ iotA (V + k) m))
  | 0, k, s, _, _ => by simp [kT, iotA]
  | m + 1, k, s, h1, h2 => by
    have e : V + ((k + 1 : Nat) : Int) = V + k + 1 := by omega
    rw [forI_go (s' := s ++ [V + k]) (by rw [ck_eq (by omega) (by omega), bnd_s, ap_eq (by simp only [List.length_cons, List.length_nil]; omega), bnd_s]), upTo_loop V h0 m (k + 1) _ (by omega) (by rw [List.length_append, List.length_singleton]; omega), iotA_succ, e]
    simp
theorem upTo_eq {V : Int} {m : Nat} (h0 : 0 ≤ V) (h1 : V + m ≤ 1000000) : impl_upTo V (m : Int) = some (iotA V m) := by
  unfold impl_upTo
  have := upTo_loop (ρ := List Int) V h0 m 0 [] (by omega) (by simp only [List.length_nil]; omega)
  rw [Int.toNat_natCast, this, thn_nx, List.nil_append]
  simp
theorem Count_eq {m : Nat} (h1 : m ≤ 1000000) : spec_l03Count (m : Int) = some (iotA 0 m) := by
  unfold spec_l03Count
  have key : ∀ (m k : Nat) (s : List Int), k + m ≤ 1000000 → s.length + m ≤ 1000000 → kT (σ := (List Int)) (ρ := (List Int)) (fun (k34 : Nat) (s28 : (List Int)) =>
   oJ (ap s28 ([(k34 : Int)])) fun z42 =>
   some (.go z42)) m k s = some (.nx (s ++ iotA (k : Int) m)) := by
    intro m
    induction m with
    | zero => intro k s _ _; simp [kT, iotA]
    | succ m ih =>
      intro k s h2 h3
      have e : ((k + 1 : Nat) : Int) = (k : Int) + 1 := by omega
      rw [forI_go (s' := s ++ [(k : Int)]) (by rw [ap_eq (by simp only [List.length_cons, List.length_nil]; omega), bnd_s]), ih (k + 1) _ (by omega) (by rw [List.length_append, List.length_singleton]; omega), iotA_succ, e]
      simp
  rw [Int.toNat_natCast, key m 0 [] (by omega) (by simp only [List.length_nil]; omega), thn_nx, List.nil_append]
  rfl
theorem to_loopA {ρ : Type} : ∀ (m k : Nat) (to : List Int) (V : Int), 0 ≤ V → V + m ≤ 1000000 → to.length + m ≤ 1000000 →
    kT (σ := Int × (List Int)) (ρ := ρ) (fun (k232 : Nat) (s : Int × (List Int)) =>
       match s with
       | (s222, s224) =>
       oJ (ap s224 ([s222])) fun z243 =>
       oJ (ck (s222 + 1)) fun z247 =>
       some (.go (z247, z243))) m k (V, to) = some (.nx (V + m, to ++ iotA V m))
  | 0, k, to, V, _, _, _ => by simp [kT, iotA]
  | m + 1, k, to, V, h0, h1, h2 => by
    rw [forI_go (s' := (V + 1, to ++ [V])) (by
      simp only [ap_eq (l := to) (m := [V]) (by simp only [List.length_cons, List.length_nil]; omega), bnd_s, ck_eq (x := V + 1) (by omega) (by omega)]), to_loopA m (k + 1) _ (V + 1) (by omega) (by omega) (by rw [List.length_append, List.length_singleton]; omega), iotA_succ]
    have e : V + 1 + (m : Int) = V + ((m + 1 : Nat) : Int) := by omega
    rw [e, List.append_assoc, List.singleton_append]
def mvB (g : Int → Int) (l : List Atom) : List Atom := l.map fun b => ⟨b.rel, b.args.map g⟩
theorem mvB_loop {ρ : Type} {b : Nat → Atom → List Atom → Option (Ctl (List Atom) ρ)} (g : Int → Int) : ∀ (l : List Atom) (k : Nat) (s : List Atom), (∀ (j : Nat) x s, x ∈ l → s.length ≤ 1000 → b j x s = some (.go (s ++ [⟨x.rel, x.args.map g⟩]))) → s.length + l.length ≤ 1000 → qT b l k s = some (.nx (s ++ mvB g l))
  | [], _, s, _, _ => by simp [mvB, qT]
  | x :: l, k, s, h, hs => by
    rw [List.length_cons] at hs
    rw [kF (h k x s (by simp) (by omega)), mvB_loop g l (k + 1) _ (fun j y s hy => h j y s (by simp [hy])) (by rw [List.length_append, List.length_singleton]; omega)]
    simp [mvB]
theorem MovedB_eq {l : List Atom} {to : List Int} (hl : l.length ≤ 100) (h : ∀ b ∈ l, b.args.length ≤ 100 ∧ ∀ i ∈ b.args, 0 ≤ i ∧ i < to.length) : spec_l03Moved l to = some (mvB (fun i => to.getD i.toNat 0) l) := by
  unfold spec_l03Moved
  rw [mvB_loop (fun i => to.getD i.toNat 0) l 0 [] (fun j x s hx hs => by
    have h1 : spec_l01Mapped x.args to = some (atV to x.args) := l01At_eq (h x hx).2 (by have := (h x hx).1; omega)
    rw [h1, bnd_s, ap_eq (by simp only [List.length_cons, List.length_nil]; omega), bnd_s]
    rfl) (by simp only [List.length_nil]; omega), thn_nx, List.nil_append]
theorem argsB_loop {ρ : Type} {f : Int → Option Int} (g : Int → Int) : ∀ (l : List Int) (k : Nat) (s : List Int), (∀ i ∈ l, f i = some (g i)) → s.length + l.length ≤ 1000 → qT (σ := (List Int)) (ρ := ρ) (fun (k213 : Nat) (x215 : Int) (s207 : (List Int)) =>
     oJ (f x215) fun z222 =>
     oJ (ap s207 ([z222])) fun z226 =>
     some (.go z226)) l k s = some (.nx (s ++ l.map g))
  | [], _, s, _, _ => by simp [qT]
  | x :: l, k, s, h, hs => by
    rw [List.length_cons] at hs
    rw [kF (s' := s ++ [g x]) (by rw [h x (by simp), bnd_s, ap_eq (by simp only [List.length_cons, List.length_nil]; omega), bnd_s]), argsB_loop g l (k + 1) _ (fun i hi => h i (by simp [hi])) (by rw [List.length_append, List.length_singleton]; omega)]
    simp
theorem renamedB_eq {l : List Atom} {f : Int → Option Int} (g : Int → Int) (hl : l.length ≤ 100) (h : ∀ b ∈ l, b.args.length ≤ 100 ∧ ∀ i ∈ b.args, f i = some (g i)) : impl_renamed l f = some (mvB g l) := by
  unfold impl_renamed
  rw [mvB_loop g l 0 [] (fun j x s hx hs => by
    rw [argsB_loop g x.args 0 [] (h x hx).2 (by have := (h x hx).1; simp only [List.length_nil]; omega), thn_nx, ap_eq (by simp only [List.length_cons, List.length_nil]; omega), bnd_s]
    rfl) (by simp only [List.length_nil]; omega), thn_nx, List.nil_append]
/-- A constraint over variables below n. -/
def CV (t : Template) (n : Int) (c : Con) : Prop := (∀ i ∈ c.scope, 0 ≤ i ∧ i < n) ∧ ∃ r : Rel, 0 ≤ c.rel ∧ t.rels[c.rel.toNat]? = some r ∧ r ∈ t.rels ∧ (c.scope.length : Int) = r.arity
def stepC (g : Gadgets) (s : Int × List Atom) (c : Con) : Int × List Atom :=
  let k := g.formulas.getD c.rel.toNat default
  (s.1 + (k.vars - k.free), s.2 ++ mvB (fun i => (c.scope ++ iotA s.1 (k.vars - k.free).toNat).getD i.toNat 0) k.atoms)
/-- What holds of the atoms. -/
def AB (V : Int) (L : List Atom) : Prop := ∀ b ∈ L, b.args.length ≤ 4 ∧ (b.rel = -1 → b.args.length = 2) ∧ ∀ i ∈ b.args, 0 ≤ i ∧ i < V
theorem apply_loop {T : Nat} {t u : Template} {g : Gadgets} (hG : GV T t u g) {n : Int} {ρ ρ' : Type} : ∀ (l : List Con) (k : Nat) (V : Int) (L : List Atom), (∀ c ∈ l, CV t n c) → n ≤ V → 0 ≤ V → V + 8 * l.length ≤ 1000 → L.length + 16 * l.length ≤ 900 → AB V L →
    qT (σ := Int × (List Atom)) (ρ := ρ) (fun (k151 : Nat) (x153 : Con) (s : Int × (List Atom)) =>
    match s with
    | (s141, s143) =>
    oJ (ix g.formulas x153.rel) fun z175 =>
    oJ (zO x153.scope) fun z189 =>
    kJ (σ := Int × (List Int)) (
     kT (σ := Int × (List Int)) (ρ := (Ctl (Int × (List Atom)) ρ)) (fun (k232 : Nat) (s : Int × (List Int)) =>
       match s with
       | (s222, s224) =>
       oJ (ap s224 ([s222])) fun z243 =>
       oJ (ck (s222 + 1)) fun z247 =>
       some (.go (z247, z243))) (z175.vars - z175.free).toNat 0 (s141, z189)) fun (s227, s229) =>
    oJ (spec_l03Moved z175.atoms s229) fun z256 =>
    oJ (ap s143 z256) fun z261 =>
    some (.go (s227, z261))) l k (V, L) = some (.nx (l.foldl (stepC g) (V, L))) ∧
    qT (σ := (List Int) × (List Atom)) (ρ := ρ') (fun (k95 : Nat) (x97 : Con) (s : (List Int) × (List Atom)) =>
    match s with
    | (s83, s86) =>
    oJ (ix g.formulas x97.rel) fun z109 =>
    oJ (ck ((s83.length : Int) - z109.free)) fun z121 =>
    oJ (impl_renamed z109.atoms (fun a0 => impl_applied_1 a0 (Formula.mk z109.free z109.vars z109.atoms) (Con.mk x97.rel x97.scope) z121)) fun z124 =>
    oJ (ap s86 z124) fun z129 =>
    oJ (ck (z109.vars - z109.free)) fun z134 =>
    oJ (impl_upTo (s83.length : Int) z134) fun z136 =>
    oJ (ap s83 z136) fun z141 =>
    some (.go (z141, z129))) l k (iotA 0 V.toNat, L) = some (.nx (iotA 0 (l.foldl (stepC g) (V, L)).1.toNat, (l.foldl (stepC g) (V, L)).2)) ∧
    (V ≤ (l.foldl (stepC g) (V, L)).1 ∧ (l.foldl (stepC g) (V, L)).1 ≤ 1000 ∧ AB (l.foldl (stepC g) (V, L)).1 (l.foldl (stepC g) (V, L)).2 ∧ (l.foldl (stepC g) (V, L)).2.length ≤ 900)
  | [], k, V, L, _, _, h0, h1, h2, h3 => by
    simp only [List.length_nil] at h1 h2
    exact ⟨rfl, rfl, Int.le_refl _, by simp only [List.foldl_nil]; omega, h3, by simp only [List.foldl_nil]; omega⟩
  | c :: l, k, V, L, hA, hn, h0, h1, h2, h3 => by
    rw [List.length_cons] at h1 h2
    obtain ⟨ha, r, hr0, hr1, hr2, hr3⟩ := hA c (by simp)
    rw [List.foldl_cons]
    have hlt : c.rel.toNat < g.formulas.length := by rw [hG.n]; exact (List.getElem?_eq_some_iff.1 hr1).1
    obtain ⟨k0, hk0⟩ : ∃ k0, g.formulas[c.rel.toNat]? = some k0 := ⟨_, List.getElem?_eq_getElem hlt⟩
    have hgd : g.formulas.getD c.rel.toNat default = k0 := by rw [List.getD_eq_getElem?_getD, hk0]; rfl
    obtain ⟨f1, f2, _⟩ := hG.f _ _ hk0
    have hfree : k0.free = (c.scope.length : Int) := by rw [f2, hr3, List.getD_eq_getElem?_getD, hr1]; rfl
    have fv := f1.v0
    have ff := f1.f0
    have hown : zO c.scope = some c.scope := by
      unfold zO
      rw [ap_eq (by simp only [List.length_nil]; omega), bnd_s, List.nil_append]
    have hm : ((k0.vars - k0.free).toNat : Int) = k0.vars - k0.free := by omega
    have hTo : (c.scope ++ iotA V (k0.vars - k0.free).toNat).length = k0.vars.toNat := by
      rw [List.length_append, kU]; omega
    have hb4 : ∀ b ∈ k0.atoms, b.args.length ≤ 4 := fun b hb => ((f1.a b hb).len hG.uV).2
    have es : stepC g (V, L) c = (V + (k0.vars - k0.free), L ++ mvB (fun i => (c.scope ++ iotA V (k0.vars - k0.free).toNat).getD i.toNat 0) k0.atoms) := by
      unfold stepC
      rw [hgd]
    have hget : ∀ i : Int, 0 ≤ i → i < k0.vars → (c.scope ++ iotA V (k0.vars - k0.free).toNat).getD i.toNat 0 = if i < k0.free then c.scope.getD i.toNat 0 else V + (i - k0.free) := fun i q0 q1 => by
      rw [List.getD_eq_getElem?_getD]
      by_cases hi : i < k0.free
      · rw [if_pos hi, List.getElem?_append_left (by omega), List.getD_eq_getElem?_getD]
      · rw [if_neg hi, List.getElem?_append_right (by omega), iotA_get (by omega), Option.getD_some]
        omega
    have hml : (mvB (fun i => (c.scope ++ iotA V (k0.vars - k0.free).toNat).getD i.toNat 0) k0.atoms).length ≤ 16 := by unfold mvB; rw [List.length_map]; exact f1.n
    have hAB : AB (V + (k0.vars - k0.free)) (L ++ mvB (fun i => (c.scope ++ iotA V (k0.vars - k0.free).toNat).getD i.toNat 0) k0.atoms) := fun b hb => by
      rcases List.mem_append.1 hb with hb | hb
      · obtain ⟨q1, q2, q3⟩ := h3 b hb
        exact ⟨q1, q2, fun i hi => by have := q3 i hi; omega⟩
      · obtain ⟨d, hd, rfl⟩ := List.mem_map.1 hb
        have hv := f1.a d hd
        refine ⟨by simp only [List.length_map]; exact hb4 d hd, fun e => ?_, fun i hi => ?_⟩
        · simp only [List.length_map]
          rcases hv.2 with h | ⟨_, h, _⟩
          · exact h.2
          · simp only at e; omega
        · obtain ⟨j, hj, rfl⟩ := List.mem_map.1 hi
          obtain ⟨q0, q1⟩ := hv.1 j hj
          rw [hget j q0 (by omega)]
          by_cases h4 : j < k0.free
          · rw [if_pos h4, List.getD_eq_getElem?_getD, List.getElem?_eq_getElem (by omega), Option.getD_some]
            have := ha _ (List.getElem_mem (show j.toNat < c.scope.length by omega))
            omega
          · rw [if_neg h4]
            omega
    obtain ⟨i1, i2, i3, i4, i5, i6⟩ := apply_loop (ρ := ρ) (ρ' := ρ') hG l (k + 1) (V + (k0.vars - k0.free)) (L ++ mvB (fun i => (c.scope ++ iotA V (k0.vars - k0.free).toNat).getD i.toNat 0) k0.atoms) (fun b hb => hA b (by simp [hb])) (by omega) (by omega) (by omega) (by rw [List.length_append]; omega) hAB
    rw [es]
    refine ⟨?_, ?_, by omega, i4, i5, i6⟩
    · rw [kF (s' := (V + (k0.vars - k0.free), L ++ mvB (fun i => (c.scope ++ iotA V (k0.vars - k0.free).toNat).getD i.toNat 0) k0.atoms)) (by
        simp only [ix_of hr0 hk0, bnd_s, hown]
        rw [to_loopA (k0.vars - k0.free).toNat 0 c.scope V h0 (by omega) (by omega), thn_nx]
        simp only
        rw [MovedB_eq (by have := f1.n; omega) (fun b hb => ⟨by have := hb4 b hb; omega, fun i hi => by rw [hTo]; exact (f1.a b hb).1 i hi⟩), bnd_s, ap_eq (by omega), bnd_s, hm])]
      exact i1
    · have hVl : ((iotA 0 V.toNat).length : Int) = V := by rw [kU]; omega
      have hren : impl_renamed k0.atoms (fun a0 => impl_applied_1 a0 (Formula.mk k0.free k0.vars k0.atoms) (Con.mk c.rel c.scope) (V - k0.free)) = some (mvB (fun i => (c.scope ++ iotA V (k0.vars - k0.free).toNat).getD i.toNat 0) k0.atoms) := by
        refine renamedB_eq _ (by have := f1.n; omega) (fun b hb => ⟨by have := hb4 b hb; omega, fun i hi => ?_⟩)
        obtain ⟨q0, q1⟩ := (f1.a b hb).1 i hi
        rw [hget i q0 (by omega)]
        unfold impl_applied_1
        by_cases hi2 : i < k0.free
        · have hx : c.scope[i.toNat]? = some (c.scope.getD i.toNat 0) := by
            rw [List.getD_eq_getElem?_getD, List.getElem?_eq_getElem (by omega)]
            rfl
          simp only [hi2, decide_true, if_true]
          rw [ix_of q0 hx, bnd_s]
        · simp only [hi2, decide_false, Bool.false_eq_true, if_false]
          rw [ck_eq (by omega) (by omega), bnd_s]
          congr 1
          omega
      have hup : impl_upTo V (k0.vars - k0.free) = some (iotA V (k0.vars - k0.free).toNat) := by
        have := upTo_eq (V := V) (m := (k0.vars - k0.free).toNat) h0 (by omega)
        rw [hm] at this
        exact this
      have hap : ap (iotA 0 V.toNat) (iotA V (k0.vars - k0.free).toNat) = some (iotA 0 (V + (k0.vars - k0.free)).toNat) := by
        rw [ap_eq (by rw [kU, kU]; omega)]
        have h5 := iotA_app 0 V.toNat (k0.vars - k0.free).toNat
        rw [show (0 : Int) + (V.toNat : Int) = V by omega] at h5
        rw [h5, show V.toNat + (k0.vars - k0.free).toNat = (V + (k0.vars - k0.free)).toNat by omega]
      rw [kF (s' := (iotA 0 (V + (k0.vars - k0.free)).toNat, L ++ mvB (fun i => (c.scope ++ iotA V (k0.vars - k0.free).toNat).getD i.toNat 0) k0.atoms)) (by
        simp only [ix_of hr0 hk0, bnd_s, hVl, ck_eq (x := V - k0.free) (by omega) (by omega), hren]
        rw [ap_eq (by omega), bnd_s, ck_eq (by omega) (by omega), bnd_s, hup, bnd_s, hap, bnd_s])]
      exact i2
/-- A list turned place by place. -/
theorem upd_step {F : Int → Int} {o : List Int} {k : Nat} (h : k < o.length) : ((o.take k).map F ++ o.drop k)[k]? = some o[k] ∧ ((o.take k).map F ++ o.drop k).set k (F o[k]) = (o.take (k + 1)).map F ++ o.drop (k + 1) := by
  have hl : ((o.take k).map F).length = k := by rw [List.length_map, List.length_take]; omega
  constructor
  · rw [List.getElem?_append_right (by omega), hl, Nat.sub_self, List.drop_eq_getElem_cons h]
    rfl
  · rw [List.set_append_right _ _ (by omega), hl, Nat.sub_self, List.drop_eq_getElem_cons h, List.set_cons_zero, List.take_succ_eq_append_getElem h, List.map_append]
    simp
theorem updI {ρ : Type} {F : Int → Int} {o : List Int} {b : Nat → List Int → Option (Ctl (List Int) ρ)} (hb : ∀ (k : Nat) s x, s.length = o.length → s[k]? = some x → x ∈ o → b k s = some (.go (s.set k (F x)))) : ∀ (m k : Nat), k + m = o.length → kT b m k ((o.take k).map F ++ o.drop k) = some (.nx (o.map F))
  | 0, k, h => by
    rw [List.take_of_length_le (by omega), List.drop_eq_nil_of_le (by omega), List.append_nil]
    rfl
  | m + 1, k, h => by
    have hk : k < o.length := by omega
    obtain ⟨h1, h2⟩ := upd_step (F := F) hk
    rw [forI_go (hb k _ _ (by rw [List.length_append, List.length_map, List.length_take, List.length_drop]; omega) h1 (List.getElem_mem hk)), h2]
    exact updI hb m (k + 1) (by omega)
theorem updL {α ρ : Type} {F : Int → Int} {o : List Int} {b : Nat → α → List Int → Option (Ctl (List Int) ρ)} (hb : ∀ (k : Nat) y s x, s.length = o.length → s[k]? = some x → x ∈ o → b k y s = some (.go (s.set k (F x)))) : ∀ (l : List α) (k : Nat), k + l.length = o.length → qT b l k ((o.take k).map F ++ o.drop k) = some (.nx (o.map F))
  | [], k, h => by
    simp only [List.length_nil] at h
    rw [List.take_of_length_le (by omega), List.drop_eq_nil_of_le (by omega), List.append_nil]
    rfl
  | y :: l, k, h => by
    rw [List.length_cons] at h
    have hk : k < o.length := by omega
    obtain ⟨h1, h2⟩ := upd_step (F := F) hk
    rw [kF (hb k y _ _ (by rw [List.length_append, List.length_map, List.length_take, List.length_drop]; omega) h1 (List.getElem_mem hk)), h2]
    exact updL hb l (k + 1) (by omega)
theorem set_same {s : List Int} {k : Nat} {x : Int} (h : s[k]? = some x) : s.set k x = s := by
  obtain ⟨hk, rfl⟩ := List.getElem?_eq_some_iff.1 h
  exact List.set_getElem_self hk
def hiI (a b : Int) : Int := if a < b then b else a
def loI (a b : Int) : Int := if b < a then b else a
theorem Max_hi (a b : Int) : spec_l00Max a b = some (hiI a b) := by
  unfold spec_l00Max hiI
  by_cases h : b < a
  · have : ¬ a < b := by omega
    simp [h, this]
  · by_cases h2 : a < b
    · simp [h, h2]
    · have : a = b := by omega
      simp [h, h2, this]
theorem Min_lo (a b : Int) : spec_l00Min a b = some (loI a b) := by
  unfold spec_l00Min loI
  by_cases h : a < b
  · have : ¬ b < a := by omega
    simp [h, this]
  · by_cases h2 : b < a
    · simp [h, h2]
    · have : a = b := by omega
      simp [h, h2, this]
/-- One atom that says that two are one. -/
def mergeS (s : List Int) (a : Atom) : List Int := if a.rel = -1 then
    let x := s.getD (a.args.getD 0 0).toNat 0
    let y := s.getD (a.args.getD 1 0).toNat 0
    s.map fun v => if v = hiI x y then loI x y else v
  else s
theorem mergeS_len (s : List Int) (a : Atom) : (mergeS s a).length = s.length := by
  unfold mergeS
  split
  · simp
  · rfl
theorem merge_loop {V : Nat} {ρ ρ' : Type} : ∀ (l : List Atom) (k : Nat) (s : List Int), AB V l → s.length = V →
    qT (σ := (List Int)) (ρ := ρ) (fun (k495 : Nat) (x497 : Atom) (s489 : (List Int)) =>
   if (x497.rel != (-1)) then
    some (.go s489)
   else
    oJ (ix x497.args 0) fun z514 =>
    oJ (ix s489 z514) fun z519 =>
    oJ (ix x497.args 1) fun z530 =>
    oJ (ix s489 z530) fun z535 =>
    kJ (σ := (List Int)) (
     kT (σ := (List Int)) (ρ := (Ctl ((List Int)) ρ)) (fun (k583 : Nat) (s577 : (List Int)) =>
      oJ (ix s577 (k583 : Int)) fun z589 =>
      oJ (spec_l00Max z519 z535) fun z594 =>
      if (z589 == z594) then
       oJ (spec_l00Min z519 z535) fun z597 =>
       some (.go (s577.set ((k583 : Int)).toNat z597))
      else
       some (.go s577)) V 0 s489) fun s580 =>
    some (.go s580)) l k s = some (.nx (l.foldl mergeS s)) ∧
    qT (σ := (List Int)) (ρ := ρ') (fun (k363 : Nat) (x365 : Atom) (s357 : (List Int)) =>
   if (x365.rel != (-1)) then
    some (.go s357)
   else
    oJ (ix x365.args 0) fun z385 =>
    oJ (ix s357 z385) fun z390 =>
    oJ (ix x365.args 1) fun z395 =>
    oJ (ix s357 z395) fun z400 =>
    kJ (σ := (List Int)) (
     qT (σ := (List Int)) (ρ := (Ctl ((List Int)) ρ')) (fun (k454 : Nat) (x456 : Int) (s446 : (List Int)) =>
      oJ (ix s446 (k454 : Int)) fun z460 =>
      if (z460 == (if z390 < z400 then z400 else z390)) then
       some (.go (s446.set ((k454 : Int)).toNat (if z400 < z390 then z400 else z390)))
      else
       some (.go s446)) s357 0 s357) fun s450 =>
    some (.go s450)) l k s = some (.nx (l.foldl mergeS s)) ∧ (l.foldl mergeS s).length = V
  | [], k, s, _, hs => ⟨rfl, rfl, hs⟩
  | a :: l, k, s, hA, hs => by
    have ih := merge_loop (ρ := ρ) (ρ' := ρ') l (k + 1) (mergeS s a) (fun b hb => hA b (by simp [hb])) (by rw [mergeS_len]; exact hs)
    obtain ⟨h1, h2, h3⟩ := hA a (by simp)
    rw [List.foldl_cons]
    by_cases e : a.rel = -1
    · have e' : (a.rel != (-1)) = false := by simpa using e
      have hl := h2 e
      obtain ⟨i, j, ha⟩ : ∃ i j, a.args = [i, j] := by
        match h : a.args, hl with
        | [i, j], _ => exact ⟨i, j, rfl⟩
      have hi := h3 i (by rw [ha]; simp)
      have hj := h3 j (by rw [ha]; simp)
      have hx : s[i.toNat]? = some (s.getD i.toNat 0) := by rw [List.getD_eq_getElem?_getD, List.getElem?_eq_getElem (by omega)]; rfl
      have hy : s[j.toNat]? = some (s.getD j.toNat 0) := by rw [List.getD_eq_getElem?_getD, List.getElem?_eq_getElem (by omega)]; rfl
      have es : mergeS s a = s.map fun v => if v = hiI (s.getD i.toNat 0) (s.getD j.toNat 0) then loI (s.getD i.toNat 0) (s.getD j.toNat 0) else v := by
        unfold mergeS
        rw [if_pos e, ha]
        rfl
      refine ⟨?_, ?_, ih.2.2⟩
      · rw [kF (s' := mergeS s a) (by
          simp only [e', Bool.false_eq_true, if_false, ha]
          rw [show ix [i, j] 0 = some i from rfl, bnd_s, ix_of hi.1 hx, bnd_s, show ix [i, j] 1 = some j from rfl, bnd_s, ix_of hj.1 hy, bnd_s]
          have hu := updI (ρ := Ctl (List Int) ρ) (F := fun v => if v = hiI (s.getD i.toNat 0) (s.getD j.toNat 0) then loI (s.getD i.toNat 0) (s.getD j.toNat 0) else v) (o := s) (b := fun (k583 : Nat) (s577 : (List Int)) =>
      oJ (ix s577 (k583 : Int)) fun z589 =>
      oJ (spec_l00Max (s.getD i.toNat 0) (s.getD j.toNat 0)) fun z594 =>
      if (z589 == z594) then
       oJ (spec_l00Min (s.getD i.toNat 0) (s.getD j.toNat 0)) fun z597 =>
       some (.go (s577.set ((k583 : Int)).toNat z597))
      else
       some (.go s577)) (fun k s1 x _ hx1 _ => by
            rw [qG hx1, bnd_s, Max_hi, bnd_s, Min_lo, bnd_s, Int.toNat_natCast]
            by_cases hv : x = hiI (s.getD i.toNat 0) (s.getD j.toNat 0)
            · have hv' : (x == hiI (s.getD i.toNat 0) (s.getD j.toNat 0)) = true := by simpa using hv
              rw [hv', if_pos rfl, if_pos hv]
            · have hv' : (x == hiI (s.getD i.toNat 0) (s.getD j.toNat 0)) = false := by simpa using hv
              rw [hv', if_neg (by simp), if_neg hv, set_same hx1]) V 0 (by omega)
          rw [List.take_zero, List.map_nil, List.nil_append, List.drop_zero] at hu
          rw [hu, thn_nx, es])]
        exact ih.1
      · rw [kF (s' := mergeS s a) (by
          simp only [e', Bool.false_eq_true, if_false, ha]
          rw [show ix [i, j] 0 = some i from rfl, bnd_s, ix_of hi.1 hx, bnd_s, show ix [i, j] 1 = some j from rfl, bnd_s, ix_of hj.1 hy, bnd_s]
          have hu := updL (ρ := Ctl (List Int) ρ') (F := fun v => if v = hiI (s.getD i.toNat 0) (s.getD j.toNat 0) then loI (s.getD i.toNat 0) (s.getD j.toNat 0) else v) (o := s) (b := fun (k454 : Nat) (x456 : Int) (s446 : (List Int)) =>
      oJ (ix s446 (k454 : Int)) fun z460 =>
      if (z460 == (if (s.getD i.toNat 0) < (s.getD j.toNat 0) then (s.getD j.toNat 0) else (s.getD i.toNat 0))) then
       some (.go (s446.set ((k454 : Int)).toNat (if (s.getD j.toNat 0) < (s.getD i.toNat 0) then (s.getD j.toNat 0) else (s.getD i.toNat 0))))
      else
       some (.go s446)) (fun k y s1 x _ hx1 _ => by
            rw [qG hx1, bnd_s, Int.toNat_natCast]
            by_cases hv : x = hiI (s.getD i.toNat 0) (s.getD j.toNat 0)
            · have hv' : (x == hiI (s.getD i.toNat 0) (s.getD j.toNat 0)) = true := by simpa using hv
              unfold hiI at hv'
              rw [hv', if_pos rfl, if_pos hv]
              rfl
            · have hv' : (x == hiI (s.getD i.toNat 0) (s.getD j.toNat 0)) = false := by simpa using hv
              unfold hiI at hv'
              rw [hv', if_neg (by simp), if_neg hv, set_same hx1]) s 0 (by omega)
          rw [List.take_zero, List.map_nil, List.nil_append, List.drop_zero] at hu
          rw [hu, thn_nx, es])]
        exact ih.2.1
    · have e' : (a.rel != (-1)) = true := by simpa using e
      have es : mergeS s a = s := by unfold mergeS; rw [if_neg e]
      rw [es] at ih ⊢
      refine ⟨?_, ?_, ih.2.2⟩
      · rw [kF (s' := s) (by rw [e', if_pos rfl])]
        exact ih.1
      · rw [kF (s' := s) (by rw [e', if_pos rfl])]
        exact ih.2.1
section
open Go.Lib
/-- Two rising lists of numbers with the same members are one. -/
theorem lt_ext : ∀ {l m : List Int}, l.Pairwise (· < ·) → m.Pairwise (· < ·) → (∀ x, x ∈ l ↔ x ∈ m) → l = m
  | [], [], _, _, _ => rfl
  | [], b :: m, _, _, h => absurd ((h b).2 (by simp)) (by simp)
  | a :: l, [], _, _, h => absurd ((h a).1 (by simp)) (by simp)
  | a :: l, b :: m, hl, hm, h => by
    have hab : a = b := by
      rcases List.mem_cons.1 ((h a).1 (by simp)) with e | h1
      · exact e
      · rcases List.mem_cons.1 ((h b).2 (by simp)) with e | h2
        · exact e.symm
        · have := List.rel_of_pairwise_cons hm h1
          have := List.rel_of_pairwise_cons hl h2
          omega
    subst hab
    congr 1
    refine lt_ext (List.Pairwise.of_cons hl) (List.Pairwise.of_cons hm) (fun x => ⟨fun hx => ?_, fun hx => ?_⟩)
    · rcases List.mem_cons.1 ((h x).1 (by simp [hx])) with rfl | h1
      · have := List.rel_of_pairwise_cons hl hx; omega
      · exact h1
    · rcases List.mem_cons.1 ((h x).2 (by simp [hx])) with rfl | h1
      · have := List.rel_of_pairwise_cons hm hx; omega
      · exact h1
theorem arr_get {s : List Int} {j : Nat} (h : j < s.length) : s.toArray[j]! = s[j] := by
  rw [getElem!_pos s.toArray j (by simpa using h)]
  simp
theorem compact_lt {s : List Int} (hs : s.Pairwise (· ≤ ·)) : (compactUpTo s.toArray s.length).Pairwise (· < ·) := by
  unfold compactUpTo
  rw [List.pairwise_map]
  refine List.Pairwise.imp_of_mem ?_ ((List.pairwise_lt_range (n := s.length)).filter (keeps s.toArray))
  intro i j hi hj hij
  have h1 := List.mem_filter.1 hi
  have h2 := List.mem_filter.1 hj
  have hjl := List.mem_range.1 h2.1
  have hk := h2.2
  unfold keeps at hk
  have hk := of_decide_eq_true hk
  rw [arr_get (by omega), arr_get hjl]
  rw [arr_get hjl, arr_get (by omega)] at hk
  have hne : s[j] ≠ s[j - 1] := hk.resolve_left (by omega)
  have hle := List.pairwise_iff_getElem.1 hs
  have a1 : s[j - 1] ≤ s[j] := hle (j - 1) j (by omega) hjl (by omega)
  have a2 : s[i] ≤ s[j - 1] := by
    by_cases e : i = j - 1
    · subst e; exact Int.le_refl _
    · exact hle i (j - 1) (by omega) (by omega) (by omega)
  omega
theorem compact_mem {s : List Int} {x : Int} : x ∈ compactUpTo s.toArray s.length ↔ x ∈ s := by
  unfold compactUpTo
  constructor
  · intro h
    obtain ⟨j, hj, rfl⟩ := List.mem_map.1 h
    have hjl := List.mem_range.1 (List.mem_filter.1 hj).1
    rw [arr_get hjl]
    exact List.getElem_mem hjl
  · intro h
    obtain ⟨i, hi, e⟩ := List.getElem_of_mem h
    have key : ∀ (n i : Nat) (hi : i < s.length), i ≤ n → s[i] = x → x ∈ ((List.range s.length).filter (keeps s.toArray)).map (s.toArray[·]!) := by
      intro n
      induction n with
      | zero =>
        intro i hi h0 e
        obtain rfl : i = 0 := by omega
        exact List.mem_map.2 ⟨0, List.mem_filter.2 ⟨List.mem_range.2 hi, by simp [keeps]⟩, by rw [arr_get hi]; exact e⟩
      | succ n ih =>
        intro i hi h0 e
        by_cases hk : keeps s.toArray i = true
        · exact List.mem_map.2 ⟨i, List.mem_filter.2 ⟨List.mem_range.2 hi, hk⟩, by rw [arr_get hi]; exact e⟩
        · unfold keeps at hk
          simp only [decide_eq_true_eq, not_or, ne_eq, Decidable.not_not] at hk
          rw [arr_get hi, arr_get (by omega)] at hk
          exact ih (i - 1) (by omega) (by omega) (by rw [← hk.2]; exact e)
    exact key i i hi (Nat.le_refl _) e
theorem rising_eq {l F : List Int} (h0 : 0 < l.length) (h1 : l.length ≤ 100000) (hF : F.Pairwise (· < ·)) (hm : ∀ x, x ∈ F ↔ x ∈ l) : impl_rising l = some F := by
  have hlen : (l.mergeSort fun x y => decide (x ≤ y)).length = l.length := List.length_mergeSort _
  have hperm : (l.mergeSort fun x y => decide (x ≤ y)).Perm l := List.mergeSort_perm _ _
  have hsort : (l.mergeSort fun x y => decide (x ≤ y)).Pairwise (· ≤ ·) :=
    (List.pairwise_mergeSort (le := fun x y : Int => decide (x ≤ y)) (fun a b c h1 h2 => by simp at *; omega) (fun a b => by simp; omega) l).imp (fun h => by simpa using h)
  unfold impl_rising qV
  rw [ap_eq (by simp only [List.length_nil]; omega), bnd_s, bnd_s, List.nil_append]
  unfold zX
  rw [if_pos ⟨h0, by omega⟩, bnd_s]
  unfold zK
  rw [if_pos ⟨by rw [hlen]; exact h0, by rw [hlen]; omega⟩, bnd_s]
  congr 1
  exact lt_ext (compact_lt hsort) hF (fun x => by rw [compact_mem, hm, hperm.mem_iff])
end
/-- Each value stands for itself, and comes first. -/
def Rep (S : List Int) : Prop := ∀ (v : Nat) x, S[v]? = some x → 0 ≤ x ∧ x ≤ v ∧ S[x.toNat]? = some x
theorem rep_iota (V : Nat) : Rep (iotA 0 V) := fun v x h => by
  have hv : v < V := by have := (List.getElem?_eq_some_iff.1 h).1; rwa [kU] at this
  rw [iotA_get hv] at h
  obtain rfl := Option.some.inj h
  refine ⟨by omega, by omega, ?_⟩
  rw [show ((0 : Int) + (v : Int)).toNat = v by omega, iotA_get hv]
theorem rep_merge {V : Nat} {S : List Int} {a : Atom} (h : Rep S) (hl : S.length = V) (ha : a.args.length ≤ 4 ∧ (a.rel = -1 → a.args.length = 2) ∧ ∀ i ∈ a.args, 0 ≤ i ∧ i < (V : Int)) : Rep (mergeS S a) := by
  unfold mergeS
  by_cases e : a.rel = -1
  · rw [if_pos e]
    have hl2 := ha.2.1 e
    obtain ⟨i, j, hij⟩ : ∃ i j, a.args = [i, j] := by
      match h : a.args, hl2 with
      | [i, j], _ => exact ⟨i, j, rfl⟩
    have hi := ha.2.2 i (by rw [hij]; simp)
    have hj := ha.2.2 j (by rw [hij]; simp)
    rw [hij]
    simp only [List.getD_cons_zero, List.getD_cons_succ]
    have hx : S[i.toNat]? = some (S.getD i.toNat 0) := by rw [List.getD_eq_getElem?_getD, List.getElem?_eq_getElem (by omega)]; rfl
    have hy : S[j.toNat]? = some (S.getD j.toNat 0) := by rw [List.getD_eq_getElem?_getD, List.getElem?_eq_getElem (by omega)]; rfl
    obtain ⟨x0, _, x2⟩ := h _ _ hx
    obtain ⟨y0, _, y2⟩ := h _ _ hy
    generalize S.getD i.toNat 0 = x at *
    generalize S.getD j.toNat 0 = y at *
    have hlo : 0 ≤ loI x y ∧ loI x y ≤ hiI x y ∧ S[(loI x y).toNat]? = some (loI x y) := by
      unfold loI hiI
      by_cases h1 : y < x
      · rw [if_pos h1, if_neg (by omega)]; exact ⟨y0, by omega, y2⟩
      · rw [if_neg h1]
        by_cases h2 : x < y
        · rw [if_pos h2]; exact ⟨x0, by omega, x2⟩
        · rw [if_neg h2]; exact ⟨x0, by omega, x2⟩
    intro v z hv
    rw [List.getElem?_map, Option.map_eq_some_iff] at hv
    obtain ⟨s, hs, rfl⟩ := hv
    obtain ⟨s0, s1, s2⟩ := h v s hs
    by_cases hsh : s = hiI x y
    · rw [if_pos hsh]
      refine ⟨hlo.1, by omega, ?_⟩
      rw [List.getElem?_map, hlo.2.2, Option.map_some]
      by_cases h3 : loI x y = hiI x y
      · rw [if_pos h3]
      · rw [if_neg h3]
    · rw [if_neg hsh]
      refine ⟨s0, s1, ?_⟩
      rw [List.getElem?_map, s2, Option.map_some, if_neg hsh]
  · rw [if_neg e]
    exact h
theorem rep_fold {V : Nat} : ∀ (l : List Atom) (S : List Int), Rep S → S.length = V → AB V l → Rep (l.foldl mergeS S)
  | [], _, h, _, _ => h
  | a :: l, S, h, hl, hA => rep_fold l (mergeS S a) (rep_merge h hl (hA a (by simp))) (by rw [mergeS_len]; exact hl) (fun b hb => hA b (by simp [hb]))
def isFix (S : List Int) (v : Nat) : Bool := S.getD v (-1) == (v : Int)
def zP (S : List Int) (k : Nat) : Nat := ((List.range k).filter (isFix S)).length
def fixL (S : List Int) : List Int := ((List.range S.length).filter (isFix S)).map fun (v : Nat) => (v : Int)
theorem cntF_succ (S : List Int) (k : Nat) : zP S (k + 1) = zP S k + if isFix S k then 1 else 0 := by
  unfold zP
  rw [List.range_succ, List.filter_append, List.length_append]
  by_cases h : isFix S k = true <;> simp [h]
theorem fixL_lt (S : List Int) : (fixL S).Pairwise (· < ·) := by
  unfold fixL
  rw [List.pairwise_map]
  exact ((List.pairwise_lt_range (n := S.length)).filter _).imp (fun h => by omega)
theorem fixL_mem {S : List Int} (h : Rep S) {x : Int} : x ∈ fixL S ↔ x ∈ S := by
  unfold fixL
  constructor
  · intro hx
    obtain ⟨v, hv, rfl⟩ := List.mem_map.1 hx
    obtain ⟨h1, h2⟩ := List.mem_filter.1 hv
    have hl := List.mem_range.1 h1
    unfold isFix at h2
    rw [List.getD_eq_getElem?_getD, List.getElem?_eq_getElem hl, Option.getD_some] at h2
    have : S[v] = (v : Int) := by simpa using h2
    rw [← this]
    exact List.getElem_mem hl
  · intro hx
    obtain ⟨v, hv, rfl⟩ := List.getElem_of_mem hx
    obtain ⟨a0, a1, a2⟩ := h v _ (List.getElem?_eq_getElem hv)
    refine List.mem_map.2 ⟨S[v].toNat, List.mem_filter.2 ⟨List.mem_range.2 (by omega), ?_⟩, by omega⟩
    unfold isFix
    rw [List.getD_eq_getElem?_getD, a2, Option.getD_some]
    simp
    omega
theorem index_loop {x : Int} {B : List Int} : ∀ (A : List Int) (k : Nat), (∀ a ∈ A, a ≠ x) → qT (σ := Unit) (ρ := Int) (fun (k22 : Nat) (x24 : Int) (s : Unit) =>
    match s with
    | _ =>
    if (x == x24) then
     some (.ret ((k22 : Int)))
    else
     some (.go ())) (A ++ x :: B) k () = some (.ret ((k + A.length : Nat) : Int))
  | [], k, _ => by
    rw [List.nil_append, forL_rt (r := (k : Int)) (by simp)]
    rfl
  | a :: A, k, h => by
    have hne : (x == a) = false := by rw [beq_eq_false_iff_ne]; exact fun e => h a (by simp) e.symm
    rw [List.cons_append, kF (s' := ()) (by simp [hne]), index_loop A (k + 1) (fun b hb => h b (by simp [hb]))]
    congr 3
    rw [List.length_cons]
    omega
theorem Index_eq {S : List Int} (h : Rep S) {x : Int} (hx : x ∈ S) : vT (fixL S) x = some (zP S x.toNat : Int) := by
  obtain ⟨v, hv, rfl⟩ := List.getElem_of_mem hx
  obtain ⟨a0, a1, a2⟩ := h v _ (List.getElem?_eq_getElem hv)
  have hlt : S[v].toNat < S.length := by omega
  have hfx : isFix S S[v].toNat = true := by
    unfold isFix
    rw [List.getD_eq_getElem?_getD, a2, Option.getD_some]
    simp
    omega
  generalize S[v] = x at *
  have hr : List.range S.length = List.range x.toNat ++ x.toNat :: (List.range' (x.toNat + 1) (S.length - x.toNat - 1)) := by
    have h9 : List.range' 0 x.toNat ++ List.range' (0 + x.toNat) (S.length - x.toNat - 1 + 1) = List.range' 0 (x.toNat + (S.length - x.toNat - 1 + 1)) := List.range'_append_1
    rw [Nat.zero_add] at h9
    rw [List.range_eq_range', List.range_eq_range', ← List.range'_succ, h9]
    congr 1
    omega
  have hs : fixL S = ((List.range x.toNat).filter (isFix S)).map (fun (v : Nat) => (v : Int)) ++ x :: ((List.range' (x.toNat + 1) (S.length - x.toNat - 1)).filter (isFix S)).map (fun (v : Nat) => (v : Int)) := by
    unfold fixL
    rw [hr, List.filter_append, List.filter_cons, if_pos hfx, List.map_append, List.map_cons, Int.toNat_of_nonneg a0]
  unfold vT
  rw [hs, index_loop _ 0 (fun a ha => by
    obtain ⟨w, hw, rfl⟩ := List.mem_map.1 ha
    have := List.mem_range.1 (List.mem_filter.1 hw).1
    omega), thn_ret, List.length_map, Nat.zero_add]
  rfl
theorem cntF_le (S : List Int) (k : Nat) : zP S k ≤ k := by
  unfold zP
  have := List.length_filter_le (isFix S) (List.range k)
  rw [List.length_range] at this
  exact this
def num1 (S : List Int) (k : Nat) : List Int := (List.range S.length).map fun v => if v < k ∧ isFix S v = true then (zP S v : Int) else 0
def num2 (S : List Int) (k : Nat) : List Int := (List.range S.length).map fun v => if v < k then (zP S (S.getD v 0).toNat : Int) else if isFix S v = true then (zP S v : Int) else 0
theorem num1_loop {ρ : Type} {S : List Int} (h : Rep S) (hV : S.length ≤ 1000) : ∀ (m k : Nat), k + m = S.length →
    kT (σ := (List Int) × Int) (ρ := ρ) (fun (k658 : Nat) (s : (List Int) × Int) =>
    match s with
    | (s648, s651) =>
    oJ (ix S (k658 : Int)) fun z664 =>
    if (z664 == (k658 : Int)) then
     oJ (ix s648 (k658 : Int)) fun z670 =>
     oJ (ck (s651 + 1)) fun z676 =>
     some (.go ((s648.set ((k658 : Int)).toNat s651), z676))
    else
     some (.go (s648, s651))) m k (num1 S k, (zP S k : Int)) = some (.nx (num1 S S.length, (zP S S.length : Int)))
  | 0, k, hk => by
    obtain rfl : k = S.length := by omega
    rfl
  | m + 1, k, hk => by
    have hlt : k < S.length := by omega
    have hx : S[k]? = some S[k] := List.getElem?_eq_getElem hlt
    have hc := cntF_le S k
    have hfx : isFix S k = (S[k] == (k : Int)) := by unfold isFix; rw [List.getD_eq_getElem?_getD, hx]; rfl
    by_cases e : (S[k] == (k : Int)) = true
    · have hn : (num1 S k)[k]? = some 0 := by
        unfold num1
        rw [List.getElem?_map, List.getElem?_range hlt, Option.map_some, if_neg (by omega)]
      have hset : (num1 S k).set k (zP S k : Int) = num1 S (k + 1) := by
        apply List.ext_getElem?
        intro j
        by_cases hj : j < S.length
        · rw [List.getElem?_set]
          unfold num1
          rw [List.length_map, List.length_range, List.getElem?_map, List.getElem?_map, List.getElem?_range hj, Option.map_some, Option.map_some]
          by_cases hkj : k = j
          · subst hkj
            rw [if_pos rfl, if_pos hlt, if_pos ⟨by omega, by rw [hfx]; exact e⟩]
          · rw [if_neg hkj]
            by_cases h2 : j < k
            · by_cases h3 : isFix S j = true
              · rw [if_pos ⟨h2, h3⟩, if_pos ⟨by omega, h3⟩]
              · rw [if_neg (fun h => h3 h.2), if_neg (fun h => h3 h.2)]
            · rw [if_neg (fun h => h2 h.1), if_neg (fun h => by omega)]
        · rw [List.getElem?_eq_none (by simp [num1]; omega), List.getElem?_eq_none (by simp [num1]; omega)]
      have hcs : (zP S k : Int) + 1 = (zP S (k + 1) : Int) := by rw [cntF_succ, hfx, e]; simp
      rw [forI_go (s' := (num1 S (k + 1), (zP S (k + 1) : Int))) (by
        simp only [qG hx, bnd_s, e, if_true, qG hn, hcs, ck_eq (x := (zP S (k + 1) : Int)) (by have := cntF_le S (k + 1); omega) (by have := cntF_le S (k + 1); omega), Int.toNat_natCast, hset])]
      exact num1_loop h hV m (k + 1) (by omega)
    · have e' : (S[k] == (k : Int)) = false := by simpa using e
      have hs1 : num1 S (k + 1) = num1 S k := by
        unfold num1
        apply List.map_congr_left
        intro j _
        by_cases hkj : j = k
        · subst hkj
          rw [if_neg (fun h => by rw [hfx, e'] at h; exact absurd h.2 (by simp)), if_neg (fun h => by omega)]
        · by_cases h3 : isFix S j = true
          · by_cases h2 : j < k
            · rw [if_pos ⟨by omega, h3⟩, if_pos ⟨h2, h3⟩]
            · rw [if_neg (fun h => by omega), if_neg (fun h => h2 h.1)]
          · rw [if_neg (fun h => h3 h.2), if_neg (fun h => h3 h.2)]
      have hcs : zP S (k + 1) = zP S k := by rw [cntF_succ, hfx, e']; simp
      rw [forI_go (s' := (num1 S (k + 1), (zP S (k + 1) : Int))) (by
        simp only [qG hx, bnd_s, e', Bool.false_eq_true, if_false, hs1, hcs])]
      exact num1_loop h hV m (k + 1) (by omega)
theorem num2_loop {ρ : Type} {S : List Int} (h : Rep S) : ∀ (m k : Nat), k + m = S.length →
    kT (σ := (List Int)) (ρ := ρ) (fun (k725 : Nat) (s719 : (List Int)) =>
   oJ (ix S (k725 : Int)) fun z731 =>
   oJ (ix s719 z731) fun z736 =>
   oJ (ix s719 (k725 : Int)) fun z741 =>
   some (.go (s719.set ((k725 : Int)).toNat z736))) m k (num2 S k) = some (.nx (num2 S S.length))
  | 0, k, hk => by
    obtain rfl : k = S.length := by omega
    rfl
  | m + 1, k, hk => by
    have hlt : k < S.length := by omega
    have hx : S[k]? = some S[k] := List.getElem?_eq_getElem hlt
    obtain ⟨x0, x1, x2⟩ := h k _ hx
    have hg : S.getD k 0 = S[k] := by rw [List.getD_eq_getElem?_getD, hx]; rfl
    have hat : ∀ j, j < S.length → (num2 S k)[j]? = some (if j < k then (zP S (S.getD j 0).toNat : Int) else if isFix S j = true then (zP S j : Int) else 0) := fun j hj => by
      unfold num2
      rw [List.getElem?_map, List.getElem?_range hj]
      rfl
    have hv : (num2 S k)[S[k].toNat]? = some (zP S S[k].toNat : Int) := by
      rw [hat _ (by omega)]
      congr 1
      by_cases h2 : S[k].toNat < k
      · rw [if_pos h2, List.getD_eq_getElem?_getD, x2, Option.getD_some]
      · have e : S[k].toNat = k := by omega
        have hfx : isFix S S[k].toNat = true := by
          unfold isFix
          rw [List.getD_eq_getElem?_getD, x2, Option.getD_some]
          simp
          omega
        rw [if_neg h2, if_pos hfx]
    have hset : (num2 S k).set k (zP S S[k].toNat : Int) = num2 S (k + 1) := by
      apply List.ext_getElem?
      intro j
      by_cases hj : j < S.length
      · rw [List.getElem?_set]
        unfold num2
        rw [List.length_map, List.length_range, List.getElem?_map, List.getElem?_map, List.getElem?_range hj, Option.map_some, Option.map_some]
        by_cases hkj : k = j
        · subst hkj
          rw [if_pos rfl, if_pos hlt, if_pos (by omega), hg]
        · rw [if_neg hkj]
          by_cases h2 : j < k
          · rw [if_pos h2, if_pos (show j < k + 1 by omega)]
          · rw [if_neg h2, if_neg (show ¬ j < k + 1 by omega)]
      · rw [List.getElem?_eq_none (by simp [num2]; omega), List.getElem?_eq_none (by simp [num2]; omega)]
    rw [forI_go (s' := num2 S (k + 1)) (by
      rw [qG hx, bnd_s, ix_of x0 hv, bnd_s, qG (hat k hlt), bnd_s, Int.toNat_natCast, hset])]
    exact num2_loop h m (k + 1) (by omega)
/-- The numbers. -/
def numS (S : List Int) : List Int := S.map fun x => (zP S x.toNat : Int)
theorem num2_end (S : List Int) : num2 S S.length = numS S := by
  apply List.ext_getElem?
  intro j
  unfold num2 numS
  by_cases hj : j < S.length
  · rw [List.getElem?_map, List.getElem?_range hj, Option.map_some, if_pos hj, List.getElem?_map, List.getElem?_eq_getElem hj, Option.map_some, List.getD_eq_getElem?_getD, List.getElem?_eq_getElem hj]
    rfl
  · rw [List.getElem?_eq_none (by simp; omega), List.getElem?_eq_none (by simp; omega)]
theorem num12 (S : List Int) : num1 S S.length = num2 S 0 := by
  unfold num1 num2
  apply List.map_congr_left
  intro j hj
  have := List.mem_range.1 hj
  rw [if_neg (show ¬ j < 0 by omega)]
  by_cases h : isFix S j = true
  · rw [if_pos ⟨this, h⟩, if_pos h]
  · rw [if_neg (fun h2 => h h2.2), if_neg h]
theorem stand_loop {ρ : Type} {S : List Int} (h : Rep S) : qT (σ := (List Int)) (ρ := ρ) (fun (k514 : Nat) (x516 : Int) (s506 : (List Int)) =>
   oJ (ix s506 (k514 : Int)) fun z520 =>
   oJ (vT (fixL S) z520) fun z525 =>
   some (.go (s506.set ((k514 : Int)).toNat z525))) S 0 S = some (.nx (numS S)) := by
  have hu := updL (ρ := ρ) (F := fun x => (zP S x.toNat : Int)) (o := S) (b := fun (k514 : Nat) (x516 : Int) (s506 : (List Int)) =>
   oJ (ix s506 (k514 : Int)) fun z520 =>
   oJ (vT (fixL S) z520) fun z525 =>
   some (.go (s506.set ((k514 : Int)).toNat z525))) (fun k y s x _ hx hm => by
    rw [qG hx, bnd_s, Index_eq h hm, bnd_s, Int.toNat_natCast]) S 0 (by omega)
  rw [List.take_zero, List.map_nil, List.nil_append, List.drop_zero] at hu
  exact hu
def consS (n : List Int) (l : List Atom) : List Con := (l.filter fun a => decide (a.rel ≠ -1)).map fun a => ⟨a.rel, atV n a.args⟩
theorem cons_loop {V : Int} {n : List Int} (hn : (n.length : Int) = V) {ρ ρ' : Type} : ∀ (l : List Atom) (k : Nat) (s : List Con), AB V l → s.length + l.length ≤ 2000 →
    qT (σ := (List Con)) (ρ := ρ) (fun (k925 : Nat) (x927 : Atom) (s919 : (List Con)) =>
   if (x927.rel != (-1)) then
    oJ (spec_l01Mapped x927.args n) fun z949 =>
    oJ (ap s919 ([(Con.mk x927.rel z949)])) fun z957 =>
    some (.go z957)
   else
    some (.go s919)) l k s = some (.nx (s ++ consS n l)) ∧
    qT (σ := (List Con)) (ρ := ρ') (fun (k681 : Nat) (x683 : Atom) (s675 : (List Con)) =>
   if (x683.rel != (-1)) then
    oJ (impl_chosen n x683.args) fun z703 =>
    oJ (ap s675 ([(Con.mk x683.rel z703)])) fun z711 =>
    some (.go z711)
   else
    some (.go s675)) l k s = some (.nx (s ++ consS n l))
  | [], k, s, _, _ => by simp [qT, consS]
  | a :: l, k, s, hA, hs => by
    rw [List.length_cons] at hs
    obtain ⟨h1, _, h3⟩ := hA a (by simp)
    have hA' : AB V l := fun b hb => hA b (by simp [hb])
    by_cases e : a.rel = -1
    · have e' : (a.rel != (-1)) = false := by simpa using e
      have ec : consS n (a :: l) = consS n l := by unfold consS; rw [List.filter_cons, if_neg (by simpa using e)]
      obtain ⟨i1, i2⟩ := cons_loop (ρ := ρ) (ρ' := ρ') hn l (k + 1) s hA' (by omega)
      rw [ec]
      exact ⟨by rw [kF (s' := s) (by rw [e', if_neg (by simp)])]; exact i1, by rw [kF (s' := s) (by rw [e', if_neg (by simp)])]; exact i2⟩
    · have e' : (a.rel != (-1)) = true := by simpa using e
      have ec : consS n (a :: l) = ⟨a.rel, atV n a.args⟩ :: consS n l := by unfold consS; rw [List.filter_cons, if_pos (by simpa using e)]; rfl
      have hr : ∀ i ∈ a.args, 0 ≤ i ∧ i < (n.length : Int) := fun i hi => by have := h3 i hi; omega
      have c1 : spec_l01Mapped a.args n = some (atV n a.args) := l01At_eq hr (by omega)
      have c2 : impl_chosen n a.args = some (atV n a.args) := l01At_eq hr (by omega)
      have hap : ap s [Con.mk a.rel (atV n a.args)] = some (s ++ [⟨a.rel, atV n a.args⟩]) := ap_eq (by simp only [List.length_cons, List.length_nil]; omega)
      obtain ⟨i1, i2⟩ := cons_loop (ρ := ρ) (ρ' := ρ') hn l (k + 1) (s ++ [⟨a.rel, atV n a.args⟩]) hA' (by rw [List.length_append, List.length_singleton]; omega)
      rw [ec]
      rw [List.append_assoc, List.singleton_append] at i1 i2
      exact ⟨by rw [kF (s' := s ++ [⟨a.rel, atV n a.args⟩]) (by rw [e', if_pos rfl, c1, bnd_s, hap, bnd_s])]; exact i1, by rw [kF (s' := s ++ [⟨a.rel, atV n a.args⟩]) (by rw [e', if_pos rfl, c2, bnd_s, hap, bnd_s])]; exact i2⟩
def appA (g : Gadgets) (x : Instance) : Int × List Atom := x.cons.foldl (stepC g) (x.vars, [])
def appS (g : Gadgets) (x : Instance) : List Int := (appA g x).2.foldl mergeS (iotA 0 (appA g x).1.toNat)
def appR (g : Gadgets) (x : Instance) : Instance × List Int × Int :=
  if decide (10 < (zP (appS g x) (appS g x).length : Int)) || decide (24 < ((consS (numS (appS g x)) (appA g x).2).length : Int)) then (⟨0, []⟩, [], 3)
  else (⟨(zP (appS g x) (appS g x).length : Int), consS (numS (appS g x)) (appA g x).2⟩, (numS (appS g x)).take x.vars.toNat, 0)
theorem fixL_len (S : List Int) : (fixL S).length = zP S S.length := by unfold fixL zP; rw [List.length_map]
theorem applied_two {T : Nat} {t u : Template} {g : Gadgets} {x : Instance} (hG : GV T t u g) (hv : 1 ≤ x.vars ∧ x.vars ≤ 10) (hc : x.cons.length ≤ 24) (hC : ∀ c ∈ x.cons, CV t x.vars c) :
    spec_l09Apply g x = some (appR g x) ∧ impl_applied g x = some (appR g x) ∧ AB (appA g x).1 (appA g x).2 := by
  obtain ⟨a1, a2, a3, a4, a5, a6⟩ := apply_loop (ρ := Instance × (List Int) × Int) (ρ' := Instance × (List Int) × Int) hG (n := x.vars) x.cons 0 x.vars [] hC (Int.le_refl _) (by omega) (by omega) (by simp only [List.length_nil]; omega) (fun b hb => nomatch hb)
  have eA : x.cons.foldl (stepC g) (x.vars, []) = appA g x := rfl
  rw [eA] at a1 a2 a3 a4 a5 a6
  have hVn : (((appA g x).1.toNat : Nat) : Int) = (appA g x).1 := by omega
  have a5' : AB (((appA g x).1.toNat : Nat) : Int) (appA g x).2 := by rw [hVn]; exact a5
  obtain ⟨b1, b2, b3⟩ := merge_loop (ρ := Instance × (List Int) × Int) (ρ' := Instance × (List Int) × Int) (V := (appA g x).1.toNat) (appA g x).2 0 (iotA 0 (appA g x).1.toNat) a5' (kU _ _)
  have eS : (appA g x).2.foldl mergeS (iotA 0 (appA g x).1.toNat) = appS g x := rfl
  rw [eS] at b1 b2 b3
  have hrep : Rep (appS g x) := rep_fold _ _ (rep_iota _) (kU _ _) a5'
  have hnl : ((numS (appS g x)).length : Int) = (appA g x).1 := by unfold numS; rw [List.length_map, b3]; exact hVn
  obtain ⟨c1, c2⟩ := cons_loop (ρ := Instance × (List Int) × Int) (ρ' := Instance × (List Int) × Int) hnl (appA g x).2 0 [] a5 (by simp only [List.length_nil]; omega)
  rw [List.nil_append] at c1 c2
  have hsl : sl (numS (appS g x)) 0 x.vars = some ((numS (appS g x)).take x.vars.toNat) := by
    have := sl_take (tp := numS (appS g x)) (n := x.vars.toNat) (by omega)
    rw [show ((x.vars.toNat : Nat) : Int) = x.vars by omega] at this
    exact this
  refine ⟨?_, ?_, a5⟩
  · unfold spec_l09Apply
    rw [a1, thn_nx]
    simp only
    have hcount : spec_l03Count (appA g x).1 = some (iotA 0 (appA g x).1.toNat) := by
      have := Count_eq (m := (appA g x).1.toNat) (by omega)
      rw [hVn] at this
      exact this
    rw [hcount, bnd_s, b1, thn_nx]
    have hz : mkz (0 : Int) (appA g x).1 = some (num1 (appS g x) 0) := by
      unfold mkz
      rw [if_pos ⟨by omega, by omega⟩]
      congr 1
      apply List.ext_getElem?
      intro j
      unfold num1
      rw [b3]
      by_cases hj : j < (appA g x).1.toNat
      · rw [List.getElem?_map, List.getElem?_range hj, List.getElem?_replicate, if_pos hj, Option.map_some, if_neg (by omega)]
      · rw [List.getElem?_eq_none (by simp; omega), List.getElem?_eq_none (by simp; omega)]
    have n1 := num1_loop (ρ := Instance × (List Int) × Int) hrep (by rw [b3]; omega) (appS g x).length 0 (by omega)
    have n2 := num2_loop (ρ := Instance × (List Int) × Int) hrep (appS g x).length 0 (by omega)
    rw [show zP (appS g x) 0 = 0 from rfl] at n1
    rw [b3] at n1 n2
    rw [hz, bnd_s]
    rw [show ((0 : Nat) : Int) = 0 from rfl] at n1
    rw [n1, thn_nx]
    simp only
    have e12 := num12 (appS g x)
    have e2 := num2_end (appS g x)
    rw [b3] at e12 e2
    rw [e12, n2, thn_nx, e2, c1, thn_nx]
    unfold appR
    rw [b3]
    by_cases h1 : (10 : Int) < (zP (appS g x) (appA g x).1.toNat : Int)
    · simp [h1]
    · by_cases h2 : (24 : Int) < ((consS (numS (appS g x)) (appA g x).2).length : Int)
      · simp [h1, h2]
      · simp [h1, h2, hsl]
  · unfold impl_applied
    have hup : impl_upTo 0 x.vars = some (iotA 0 x.vars.toNat) := by
      have := upTo_eq (V := 0) (m := x.vars.toNat) (by omega) (by omega)
      rw [show ((x.vars.toNat : Nat) : Int) = x.vars by omega] at this
      exact this
    rw [hup, bnd_s, a2, thn_nx]
    simp only
    rw [b2, thn_nx, rising_eq (F := fixL (appS g x)) (by rw [b3]; omega) (by rw [b3]; omega) (fixL_lt _) (fun y => fixL_mem hrep), bnd_s, stand_loop hrep, thn_nx, c2, thn_nx, fixL_len]
    unfold appR
    have hcl : qV ((numS (appS g x)).take x.vars.toNat) = some ((numS (appS g x)).take x.vars.toNat) := by
      unfold qV
      rw [ap_eq (by rw [List.length_take]; simp only [List.length_nil]; omega), bnd_s, List.nil_append]
    by_cases h1 : (10 : Int) < (zP (appS g x) (appS g x).length : Int)
    · simp [h1]
    · by_cases h2 : (24 : Int) < ((consS (numS (appS g x)) (appA g x).2).length : Int)
      · simp [h1, h2]
      · simp [h1, h2, hsl, hcl]
def conB (t : Template) (vars : Int) (c : Con) : Bool := (decide (0 ≤ c.rel) && decide (c.rel ≤ (t.rels.length : Int) - 1)) && (((c.scope.length : Int) == (t.rels.getD c.rel.toNat default).arity) && c.scope.all (okV vars))
def instB (t : Template) (x : Instance) : Bool := tempB t && ((decide (1 ≤ x.vars) && decide (x.vars ≤ 10)) && (decide ((x.cons.length : Int) ≤ 24) && x.cons.all (conB t x.vars)))
theorem rel_at {t : Template} {c : Con} (h : (decide (0 ≤ c.rel) && decide (c.rel ≤ (t.rels.length : Int) - 1)) = true) : ix t.rels c.rel = some (t.rels.getD c.rel.toNat default) := by
  simp at h
  exact ix_of h.1 (by rw [List.getD_eq_getElem?_getD, List.getElem?_eq_getElem (by omega)]; rfl)
theorem containsC_eq (l : List Con) (p : Con → Bool) (f : Con → Option Bool) (hf : ∀ x ∈ l, f x = some (p x)) : zF l f = some (l.any p) := by
  obtain ⟨i, h1, h2⟩ := forL_idx l p f hf
  unfold zF zC
  rw [h1, bnd_s, h2]
theorem inst_two {t : Template} {x : Instance} (ht : smallT t) : spec_l05Ok t x = some (instB t x) ∧ impl_ValidInstance t x = some (instB t x) := by
  have e0 : vK (Template.mk t.size t.rels) = some (tempB t) := ValidTemplate_eq t ht
  unfold spec_l05Ok impl_ValidInstance instB
  rw [l01Template_eq t ht, e0, bnd_s, bnd_s]
  by_cases h1 : tempB t = true
  · have hn := (tempB_TV ht h1).n
    simp only [h1, Bool.not_true, Bool.false_eq_true, if_false, if_true, Bool.true_and, l00In_eq, bnd_s]
    unfold impl_isVars
    simp only [within_eq, bnd_s]
    by_cases h2 : (decide (1 ≤ x.vars) && decide (x.vars ≤ 10)) = true
    · have hv : 1 ≤ x.vars ∧ x.vars ≤ 10 := by simpa using h2
      simp only [h2, Bool.not_true, Bool.false_eq_true, if_false, if_true, Bool.true_and, thn_nx]
      by_cases h3 : (x.cons.length : Int) ≤ 24
      · have h3' : ¬ (24 : Int) < (x.cons.length : Int) := by omega
        simp only [h3, h3', decide_true, decide_false, Bool.false_eq_true, if_false, if_true, Bool.true_and]
        constructor
        · exact forL_all (conB t x.vars) (fun j c _ => by
            simp only [ck_eq (x := (t.rels.length : Int) - 1) (by omega) (by omega), bnd_s]
            unfold conB
            by_cases h4 : (decide (0 ≤ c.rel) && decide (c.rel ≤ (t.rels.length : Int) - 1)) = true
            · rw [h4]
              simp only [Bool.not_true, Bool.false_eq_true, if_false, Bool.true_and, rel_at h4, bnd_s]
              by_cases h5 : ((c.scope.length : Int) == (t.rels.getD c.rel.toNat default).arity) = true
              · have h6 : ((c.scope.length : Int) != (t.rels.getD c.rel.toNat default).arity) = false := by simpa using h5
                rw [h6, h5, if_neg (by simp), Places_s (by omega), bnd_s, thn_nx]
                cases c.scope.all (okV x.vars) <;> rfl
              · have h5' : ((c.scope.length : Int) == (t.rels.getD c.rel.toNat default).arity) = false := by simpa using h5
                have h6 : ((c.scope.length : Int) != (t.rels.getD c.rel.toNat default).arity) = true := by simpa using h5
                rw [h6, h5', if_pos rfl, thn_nx]
                rfl
            · have h4' : (decide (0 ≤ c.rel) && decide (c.rel ≤ (t.rels.length : Int) - 1)) = false := by simpa using h4
              rw [h4']
              rfl)
        · rw [containsC_eq x.cons (fun c => !conB t x.vars c) _ (fun c _ => by
            unfold impl_ValidInstance_1
            simp only [ck_eq (x := (t.rels.length : Int) - 1) (by omega) (by omega), bnd_s, within_eq]
            unfold conB
            by_cases h4 : (decide (0 ≤ c.rel) && decide (c.rel ≤ (t.rels.length : Int) - 1)) = true
            · rw [h4]
              simp only [Bool.not_true, Bool.false_eq_true, if_false, Bool.true_and, rel_at h4, bnd_s, areValues_s (s := x.vars) (by omega), thn_nx]
              rfl
            · have h4' : (decide (0 ≤ c.rel) && decide (c.rel ≤ (t.rels.length : Int) - 1)) = false := by simpa using h4
              rw [h4']
              rfl), bnd_s, thn_nx, ← List.not_all_eq_any_not, Bool.not_not]
      · have h3' : (24 : Int) < (x.cons.length : Int) := by omega
        simp [h3, h3']
    · have h2' : (decide (1 ≤ x.vars) && decide (x.vars ≤ 10)) = false := by simpa using h2
      rw [h2']
      exact ⟨rfl, rfl⟩
  · have h1' : tempB t = false := by simpa using h1
    rw [h1']
    exact ⟨rfl, rfl⟩
theorem inst_CV {t : Template} {x : Instance} (h : instB t x = true) : (1 ≤ x.vars ∧ x.vars ≤ 10) ∧ x.cons.length ≤ 24 ∧ ∀ c ∈ x.cons, CV t x.vars c := by
  unfold instB at h
  simp only [Bool.and_eq_true, decide_eq_true_eq] at h
  obtain ⟨_, h2, h3, h4⟩ := h
  refine ⟨h2, by omega, fun c hc => ?_⟩
  have h5 := List.all_eq_true.1 h4 c hc
  unfold conB at h5
  simp only [Bool.and_eq_true, decide_eq_true_eq] at h5
  obtain ⟨h6', h7, h8⟩ := h5
  have h9 : (c.scope.length : Int) = (t.rels.getD c.rel.toNat default).arity := by simpa using h7
  refine ⟨fun i hi => ?_, _, h6'.1, ?_, ?_, h9⟩
  · have := List.all_eq_true.1 h8 i hi
    unfold okV at this
    simp at this
    omega
  · rw [List.getD_eq_getElem?_getD, List.getElem?_eq_getElem (by omega)]; rfl
  · rw [List.getD_eq_getElem?_getD, List.getElem?_eq_getElem (show c.rel.toNat < t.rels.length by omega)]
    exact List.getElem_mem _
def askB (t u : Template) (g : Gadgets) (x : Instance) : Bool := gadV t u g && instB t x
theorem ask_two {N : Nat} {t u : Template} {g : Gadgets} {x : Instance} (ht : smallT t) (hu : smallT u) (hN : 1100 ≤ N) : spec_l09Asked N t u g x = some (askB t u g x) ∧ impl_applyFault N t u g x = some (if askB t u g x then 0 else 1) := by
  have b1 : impl_ValidGadgets N (Template.mk t.size t.rels) (Template.mk u.size u.rels) (Gadgets.mk g.formulas) = some (gadV t u g) := (ValidGadgets_two ht hu hN).2
  have b2 : impl_ValidInstance (Template.mk t.size t.rels) (Instance.mk x.vars x.cons) = some (instB t x) := (inst_two ht).2
  unfold spec_l09Asked impl_applyFault askB
  rw [l09Ok_eq ht hu hN, b1, bnd_s, bnd_s]
  cases gadV t u g
  · exact ⟨rfl, rfl⟩
  · rw [(inst_two ht).1, b2]
    cases instB t x <;> exact ⟨rfl, rfl⟩
theorem cntCo (c : Con) : c.ecnt ≤ 10 * (1 + c.sz) := by
  have : qM cI c.scope ≤ c.sz := by rw [cntI]; unfold Con.sz; omega
  unfold Con.ecnt Con.cnt
  omega
theorem cntIn {x : Instance} (h : x.sz ≤ 1048576) : x.cnt ≤ 104857600 := by
  have := cntS_le_szS cntCo x.cons
  unfold Instance.sz at h
  unfold Instance.cnt
  omega
end Go.Proofs.YtmgdjaiaekhkgaaGreat
namespace Go.Proofs.YtmgdjaiaekhkgaaGreat
set_option linter.unusedVariables false
set_option linter.unusedSimpArgs false
set_option maxRecDepth 100000
/-- The atoms' relations are the template's. -/
def RB (u : Template) (L : List Atom) : Prop := ∀ b ∈ L, b.rel = -1 ∨ ∃ r : Rel, 0 ≤ b.rel ∧ u.rels[b.rel.toNat]? = some r ∧ r ∈ u.rels ∧ (b.args.length : Int) = r.arity
theorem app_RB {T : Nat} {t u : Template} {g : Gadgets} (hG : GV T t u g) {n : Int} : ∀ (l : List Con) (V : Int) (L : List Atom), (∀ c ∈ l, CV t n c) → RB u L → RB u (l.foldl (stepC g) (V, L)).2
  | [], V, L, _, hL => hL
  | c :: l, V, L, hC, hL => by
    rw [List.foldl_cons]
    obtain ⟨_, r, _, hr, _, _⟩ := hC c (by simp)
    have hlt : c.rel.toNat < g.formulas.length := by rw [hG.n]; exact (List.getElem?_eq_some_iff.1 hr).1
    have hf := List.getElem?_eq_getElem hlt
    have hd : g.formulas.getD c.rel.toNat default = g.formulas[c.rel.toNat] := by rw [List.getD_eq_getElem?_getD, hf]; rfl
    refine app_RB hG l _ _ (fun c' h' => hC c' (by simp [h'])) (fun b hb => ?_)
    rcases List.mem_append.1 hb with hb | hb
    · exact hL b hb
    · obtain ⟨a, ha, rfl⟩ := List.mem_map.1 hb
      rw [hd] at ha
      rcases ((hG.f _ _ hf).1.a a ha).2 with ⟨e, _⟩ | ⟨r, h0, h1, h2, h3⟩
      · exact .inl e
      · exact .inr ⟨r, h0, h1, h2, by rw [List.length_map]; exact h3⟩
theorem cntF_mono (S : List Int) {a b : Nat} (h : a ≤ b) : zP S a ≤ zP S b := by
  induction b with
  | zero => obtain rfl : a = 0 := by omega
            exact Nat.le_refl _
  | succ b ih =>
    by_cases e : a = b + 1
    · subst e; exact Nat.le_refl _
    · have := ih (by omega)
      rw [cntF_succ]
      omega
theorem numS_lt {S : List Int} (h : Rep S) {i : Nat} (hi : i < S.length) : 0 ≤ (numS S).getD i 0 ∧ (numS S).getD i 0 < (zP S S.length : Int) := by
  obtain ⟨h0, h1, h2⟩ := h i S[i] (List.getElem?_eq_getElem hi)
  have e : (numS S).getD i 0 = (zP S (S[i]).toNat : Int) := by
    unfold numS
    rw [List.getD_eq_getElem?_getD, List.getElem?_map, List.getElem?_eq_getElem hi]
    rfl
  have hf : isFix S (S[i]).toNat = true := by
    unfold isFix
    rw [List.getD_eq_getElem?_getD, h2]
    simp
    omega
  have hs := cntF_succ S (S[i]).toNat
  rw [if_pos hf] at hs
  have hm := cntF_mono S (a := (S[i]).toNat + 1) (b := S.length) (by omega)
  rw [e]
  omega
/-- A constraint that can be asked. -/
def CW (u : Template) (n : Int) (c : Con) : Prop := CV u n c ∧ c.scope.length ≤ 4
theorem appR_CW {T : Nat} {t u : Template} {g : Gadgets} {x : Instance} (hG : GV T t u g) (hC : ∀ c ∈ x.cons, CV t x.vars c) (h0 : 0 ≤ (appA g x).1) (hA : AB (appA g x).1 (appA g x).2) :
    (∀ c ∈ (appR g x).1.cons, CW u (appR g x).1.vars c) ∧ ((appR g x).2.2 = 0 → ∀ i ∈ (appR g x).2.1, 0 ≤ i ∧ i < (appR g x).1.vars) := by
  have hR : RB u (appA g x).2 := app_RB hG x.cons x.vars [] hC (fun b hb => nomatch hb)
  have hA' : AB (((appA g x).1.toNat : Nat) : Int) (appA g x).2 := by rw [Int.toNat_of_nonneg h0]; exact hA
  have hrep : Rep (appS g x) := rep_fold _ _ (rep_iota _) (kU _ _) hA'
  have hlen : (appS g x).length = (appA g x).1.toNat := by
    unfold appS
    have : ∀ (l : List Atom) (s : List Int), (l.foldl mergeS s).length = s.length := by
      intro l
      induction l with
      | nil => intro s; rfl
      | cons a l ih => intro s; rw [List.foldl_cons, ih, mergeS_len]
    rw [this, kU]
  unfold appR
  split
  · exact ⟨fun c hc => (nomatch hc), fun h => absurd h (by decide)⟩
  · refine ⟨fun c hc => ?_, fun _ i hi => ?_⟩
    · obtain ⟨a, ha, rfl⟩ := List.mem_map.1 hc
      obtain ⟨ha, hne⟩ := List.mem_filter.1 ha
      have hne' : a.rel ≠ -1 := by simpa using hne
      obtain ⟨k1, k2, k3⟩ := hA a ha
      rcases hR a ha with e | hr
      · exact absurd e hne'
      · obtain ⟨r, r0, r1, r2, r3⟩ := hr
        refine ⟨⟨fun i hi => ?_, r, r0, r1, r2, ?_⟩, ?_⟩
        · obtain ⟨j, hj, rfl⟩ := List.mem_map.1 hi
          have := k3 j hj
          exact numS_lt hrep (by omega)
        · show ((atV _ a.args).length : Int) = _
          unfold atV
          rw [List.length_map]; exact r3
        · show (atV _ a.args).length ≤ 4
          unfold atV
          rw [List.length_map]; exact k1
    · have hi' := List.mem_of_mem_take hi
      obtain ⟨j, hj, rfl⟩ := List.getElem_of_mem hi'
      have hj' : j < (appS g x).length := by unfold numS at hj; rwa [List.length_map] at hj
      have := numS_lt hrep hj'
      rw [List.getD_eq_getElem?_getD, List.getElem?_eq_getElem hj] at this
      exact this
/-- A constraint holds. -/
def conS (u : Template) (vs : List Int) (c : Con) : Bool := decide (atV vs c.scope ∈ (u.rels.getD c.rel.toNat default).tuples)
theorem holds_two {T N : Nat} {u : Template} {vs : List Int} {c : Con} (hu : TV T u) (h : CW u vs.length c) (hN : 1100 ≤ N) : spec_l05Holds u c vs = some (conS u vs c) ∧ impl_failing_1 N c u vs = some (!conS u vs c) := by
  obtain ⟨⟨h1, r, r0, r1, r2, r3⟩, h2⟩ := h
  have e1 := l01At_eq (vs := vs) h1 (by omega)
  have e2 := chosen_eq (vs := vs) h1 (by omega)
  obtain ⟨m, _, _, _, hasc, _⟩ := hu.r r r2
  have hg : u.rels.getD c.rel.toNat default = r := by rw [List.getD_eq_getElem?_getD, r1]; rfl
  have hix := ix_of r0 r1
  unfold spec_l05Holds impl_failing_1 conS
  rw [hix, bnd_s, bnd_s, e1, bnd_s, e2, bnd_s, hg]
  refine ⟨?_, ?_⟩
  · rw [l01Has_eq, bnd_s]
  · have := has_eq (N := N) (r := r) (t := atV vs c.scope) hasc (by have := (hu.r r r2).len hu.t; omega) (by omega)
    rw [this, bnd_s]
theorem forL_idxN {α : Type} (l : List α) (p : α → Bool) (f : α → Option Bool) (hf : ∀ x ∈ l, f x = some (p x)) : ∃ i : Int, kJ (qT (σ := Unit) (ρ := Int) (fun (k : Nat) (x : α) (s : Unit) =>
    match s with
    | _ =>
    oJ (f x) fun z =>
    if (!z) then
     some (.ret ((k : Int)))
    else
     some (.go ())) l 0 ()) (fun _ => some (-1)) = some i ∧ decide (0 ≤ i) = l.any (fun x => !p x) := by
  obtain ⟨i, h1, h2⟩ := forL_idx l (fun x => !p x) (fun x => oJ (f x) fun z => some (!z)) (fun x hx => by rw [hf x hx]; rfl)
  refine ⟨i, ?_, h2⟩
  rw [← h1]
  congr 2
  funext k x s
  show oJ (f x) _ = oJ (oJ (f x) _) _
  cases f x <;> rfl
theorem failing_two {T N : Nat} {u : Template} {vs : List Int} {y : Instance} (hu : TV T u) (h : ∀ c ∈ y.cons, CW u vs.length c) (hN : 1100 ≤ N) : ∃ i j, spec_l05Failing u y vs = some i ∧ impl_failing N u y vs = some j ∧ decide (0 ≤ i) = y.cons.any (fun c => !conS u vs c) ∧ decide (0 ≤ j) = y.cons.any (fun c => !conS u vs c) := by
  obtain ⟨i, h1, h2⟩ := forL_idxN y.cons (conS u vs) (fun c => spec_l05Holds u c vs) (fun c hc => (holds_two hu (h c hc) hN).1)
  obtain ⟨j, k1, k2⟩ := forL_idx y.cons (fun c => !conS u vs c) (fun c => impl_failing_1 N c u vs) (fun c hc => (holds_two hu (h c hc) hN).2)
  refine ⟨i, j, h1, ?_, h2, k2⟩
  unfold impl_failing zC
  have e : impl_failing_1 N = fun a => impl_failing_1 N a := rfl
  rw [k1, bnd_s]
end Go.Proofs.YtmgdjaiaekhkgaaGreat
namespace Go.Proofs.YtmgdjaiaekhkgaaGreat
set_option linter.unusedVariables false
set_option linter.unusedSimpArgs false
set_option maxRecDepth 100000
/-- All are values. -/
def Rng (T : Int) (vs : List Int) : Prop := ∀ x ∈ vs, 0 ≤ x ∧ x < T
theorem atV_app {vs ws args : List Int} (h : ∀ i ∈ args, 0 ≤ i ∧ i < (vs.length : Int)) : atV (vs ++ ws) args = atV vs args := by
  unfold atV
  apply List.map_congr_left
  intro i hi
  have := h i hi
  rw [List.getD_eq_getElem?_getD, List.getD_eq_getElem?_getD, List.getElem?_append_left (by omega)]
theorem atV_take {vs args : List Int} {n : Nat} (h : ∀ i ∈ args, 0 ≤ i ∧ i < (n : Int)) : atV (vs.take n) args = atV vs args := by
  unfold atV
  apply List.map_congr_left
  intro i hi
  have := h i hi
  rw [List.getD_eq_getElem?_getD, List.getD_eq_getElem?_getD, List.getElem?_take, if_pos (by omega)]
theorem atomS_congr {u : Template} {a : Atom} {vs ws : List Int} (h : atV vs a.args = atV ws a.args) : atomS u a vs = atomS u a ws := by unfold atomS; rw [h]
/-! ### The search finds what there is -/
theorem findS_ext {u : Template} {f : Formula} : ∀ (d : Nat) (vs ws : List Int), kV u f d vs = some ws → ws.length = vs.length + d ∧ ws.take vs.length = vs ∧ (∀ n, vs.length < n → n ≤ vs.length + d → zI u f (ws.take n) = true) ∧ ∀ x ∈ ws.drop vs.length, 0 ≤ x ∧ x < (u.size.toNat : Int)
  | 0, vs, ws, h => by
    obtain rfl := Option.some.inj h
    exact ⟨rfl, List.take_of_length_le (Nat.le_refl _), fun n h1 h2 => by omega, fun x hx => by rw [List.drop_of_length_le (Nat.le_refl _)] at hx; cases hx⟩
  | d + 1, vs, ws, h => by
    rw [kV] at h
    obtain ⟨a, ha, h⟩ := List.exists_of_findSome?_eq_some h
    have ha' := (List.mem_range'_1.1 ha).2
    split at h
    · rename_i hs
      obtain ⟨h1, h2, h3, h4⟩ := findS_ext d _ ws h
      have hl : (vs ++ [(a : Int)]).length = vs.length + 1 := by simp
      rw [hl] at h1 h2 h3 h4
      have e2 : ws.take vs.length = vs := by
        have := congrArg (List.take vs.length) h2
        rw [List.take_take, Nat.min_eq_left (by omega), List.take_append_of_le_length (Nat.le_refl _), List.take_of_length_le (Nat.le_refl _)] at this
        exact this
      refine ⟨by omega, e2, fun n h5 h6 => ?_, fun x hx => ?_⟩
      · by_cases e : n = vs.length + 1
        · rw [e, h2]; exact hs
        · exact h3 n (by omega) (by omega)
      · rw [List.drop_eq_getElem_cons (by omega)] at hx
        rcases List.mem_cons.1 hx with rfl | hx
        · have e3 : ws[vs.length]? = some (a : Int) := by
            have := congrArg (fun l => l[vs.length]?) h2
            simp only [List.getElem?_take, Nat.lt_succ_self, if_true] at this
            rw [this]
            simp
          rw [List.getElem?_eq_getElem (by omega)] at e3
          rw [Option.some.inj e3]
          omega
        · exact h4 x hx
    · cases h
theorem findS_some {u : Template} {f : Formula} {Y : List Int} (hY : ∀ n, 1 ≤ n → n ≤ Y.length → zI u f (Y.take n) = true) (hr : Rng u.size.toNat Y) : ∀ (d k : Nat), k + d = Y.length → (kV u f d (Y.take k)).isSome = true
  | 0, k, _ => rfl
  | d + 1, k, hk => by
    have hlt : k < Y.length := by omega
    have e : Y.take k ++ [Y[k]] = Y.take (k + 1) := by rw [List.take_add_one, List.getElem?_eq_getElem hlt]; rfl
    have hx := hr _ (List.getElem_mem hlt)
    cases hq : kV u f (d + 1) (Y.take k) with
    | some _ => rfl
    | none =>
      rw [kV] at hq
      have := List.findSome?_eq_none_iff.1 hq Y[k].toNat (List.mem_range'_1.2 ⟨by omega, by omega⟩)
      rw [Int.toNat_of_nonneg hx.1, e, if_pos (hY (k + 1) (by omega) (by omega))] at this
      have h2 := findS_some hY hr d (k + 1) (by omega)
      rw [this] at h2
      cases h2
theorem AV.rg {T : Nat} {u : Template} {n : Nat} {a : Atom} (hu : TV T u) (h : AV u n a) : 0 ≤ mx a.args ∧ mx a.args < (n : Int) ∧ ∀ i ∈ a.args, 0 ≤ i ∧ i ≤ mx a.args := by
  have hl := h.len hu
  have hn : (0 : Int) < n := by
    cases e : a.args with
    | nil => rw [e] at hl; simp at hl
    | cons i r => have := h.1 i (by rw [e]; simp); omega
  have := mx_lt h.1 hn
  exact ⟨this.1, this.2, fun i hi => ⟨(h.1 i hi).1, (mx_le (l := a.args) (s := 0)).2 i hi⟩⟩
theorem sure_of {T : Nat} {u : Template} {f : Formula} {Y : List Int} (hu : TV T u) (ha : ∀ a ∈ f.atoms, AV u f.vars.toNat a) (hA : ∀ a ∈ f.atoms, atomS u a Y = true) {n : Nat} (h1 : 1 ≤ n) (h2 : n ≤ Y.length) : zI u f (Y.take n) = true := by
  unfold zI
  rw [List.all_eq_true]
  intro a hm
  obtain ⟨h3, h4, h5⟩ := (ha a hm).rg hu
  have hl : ((Y.take n).length : Int) = n := by rw [List.length_take]; omega
  rw [hl]
  by_cases e : mx a.args = (n : Int) - 1
  · rw [decide_eq_true e, atomS_congr (atV_take (fun i hi => by have := h5 i hi; omega)), hA a hm]
    rfl
  · rw [decide_eq_false e]
    rfl
theorem wit_ext {T : Nat} {u : Template} {f : Formula} {tp ws : List Int} (hu : TV T u) (ha : ∀ a ∈ f.atoms, AV u f.vars.toNat a) (hl : tp.length ≤ f.vars.toNat) (hr : Rng u.size.toNat tp) (h : witS u f tp = some ws) : ws.length = f.vars.toNat ∧ ws.take tp.length = tp ∧ (∀ a ∈ f.atoms, atomS u a ws = true) ∧ Rng u.size.toNat ws := by
  unfold witS at h
  split at h
  · rename_i hb
    obtain ⟨h1, h2, h3, h4⟩ := findS_ext _ _ _ h
    refine ⟨by omega, h2, fun a hm => ?_, fun x hx => ?_⟩
    · obtain ⟨k3, k4, k5⟩ := (ha a hm).rg hu
      have hs : zI u f (ws.take ((mx a.args).toNat + 1)) = true := by
        by_cases hle : (mx a.args).toNat + 1 ≤ tp.length
        · have := List.all_eq_true.1 hb ((mx a.args).toNat + 1) (List.mem_range'_1.2 ⟨by omega, by omega⟩)
          rw [← h2, List.take_take, Nat.min_eq_left hle] at this
          exact this
        · exact h3 _ (by omega) (by omega)
      unfold zI at hs
      have hs2 := List.all_eq_true.1 hs a hm
      have hl2 : ((ws.take ((mx a.args).toNat + 1)).length : Int) - 1 = mx a.args := by rw [List.length_take]; omega
      rw [hl2, decide_eq_true rfl, Bool.not_true, Bool.false_or, atomS_congr (atV_take (fun i hi => by have := k5 i hi; omega))] at hs2
      exact hs2
    · rw [← List.take_append_drop tp.length ws, h2] at hx
      rcases List.mem_append.1 hx with hx | hx
      · exact hr x hx
      · exact h4 x hx
  · cases h
/-! ### Values of all variables of the formulas -/
def AR (V : Int) (L : List Atom) : Prop := ∀ b ∈ L, ∀ i ∈ b.args, 0 ≤ i ∧ i < V
theorem getD_get {l : List Int} {i : Nat} {x : Int} (h : l[i]? = some x) : l.getD i 0 = x := by rw [List.getD_eq_getElem?_getD, h]; rfl
theorem ext_W {T : Nat} {t u : Template} {g : Gadgets} (hG : GV T t u g) (hval : ∀ j f, g.formulas[j]? = some f → (valS u f T f.free.toNat).tuples = (t.rels.getD j default).tuples) {vals : List Int} (hvr : Rng u.size.toNat vals) :
    ∀ (l : List Con) (V : Int) (L : List Atom) (W : List Int), (∀ c ∈ l, CV t vals.length c) → (∀ c ∈ l, conS t vals c = true) → (W.length : Int) = V → W.take vals.length = vals → Rng u.size.toNat W → AR V L → (∀ a ∈ L, atomS u a W = true) →
    ∃ W', (W'.length : Int) = (l.foldl (stepC g) (V, L)).1 ∧ W'.take vals.length = vals ∧ Rng u.size.toNat W' ∧ ∀ a ∈ (l.foldl (stepC g) (V, L)).2, atomS u a W' = true
  | [], V, L, W, _, _, h1, h2, h3, h4, h5 => ⟨W, h1, h2, h3, h5⟩
  | c :: l, V, L, W, hC, hS, h1, h2, h3, h4, h5 => by
    rw [List.foldl_cons]
    obtain ⟨hc1, r, hc2, hr, hrm, hc3⟩ := hC c (by simp)
    have hlt : c.rel.toNat < g.formulas.length := by rw [hG.n]; exact (List.getElem?_eq_some_iff.1 hr).1
    have hf := List.getElem?_eq_getElem hlt
    have hd : g.formulas.getD c.rel.toNat default = g.formulas[c.rel.toNat] := by rw [List.getD_eq_getElem?_getD, hf]; rfl
    have hgr : t.rels.getD c.rel.toNat default = r := by rw [List.getD_eq_getElem?_getD, hr]; rfl
    have hv := hval _ _ hf
    obtain ⟨fv, ffr, _⟩ := hG.f _ _ hf
    generalize hfe : g.formulas[c.rel.toNat] = f at hd hv fv ffr
    rw [hgr] at ffr hv
    have f0 := fv.f0
    have v0 := fv.v0
    have hcs := hS c (by simp)
    unfold conS at hcs
    rw [hgr, ← hv] at hcs
    have hmem : atV vals c.scope ∈ (valS u f T f.free.toNat).tuples := by simpa using hcs
    unfold valS at hmem
    have hwit := (List.mem_filter.1 hmem).2
    obtain ⟨ws, hws⟩ := Option.isSome_iff_exists.1 hwit
    have hsl : c.scope.length = f.free.toNat := by omega
    have hatl : (atV vals c.scope).length = f.free.toNat := by unfold atV; rw [List.length_map, hsl]
    have hvl : vals.length ≤ W.length := by
      have := congrArg List.length h2
      rw [List.length_take] at this
      omega
    have hatr : Rng u.size.toNat (atV vals c.scope) := fun x hx => by
      obtain ⟨i, hi, rfl⟩ := List.mem_map.1 hx
      have := hc1 i hi
      rw [List.getD_eq_getElem?_getD, List.getElem?_eq_getElem (by omega)]
      exact hvr _ (List.getElem_mem _)
    obtain ⟨w1, w2, w3, w4⟩ := wit_ext hG.uV fv.a (by omega) hatr hws
    rw [hatl] at w2
    have key : ∀ i : Int, 0 ≤ i → i < f.vars → 0 ≤ (c.scope ++ iotA V (f.vars - f.free).toNat).getD i.toNat 0 ∧ (c.scope ++ iotA V (f.vars - f.free).toNat).getD i.toNat 0 < V + (f.vars - f.free) ∧ (W ++ ws.drop f.free.toNat).getD ((c.scope ++ iotA V (f.vars - f.free).toNat).getD i.toNat 0).toNat 0 = ws.getD i.toNat 0 := fun i i0 i1 => by
      by_cases hi : i.toNat < f.free.toNat
      · have hil : i.toNat < c.scope.length := by omega
        have e1 : (c.scope ++ iotA V (f.vars - f.free).toNat).getD i.toNat 0 = c.scope[i.toNat] := getD_get (by rw [List.getElem?_append_left hil, List.getElem?_eq_getElem hil])
        rw [e1]
        have hs := hc1 _ (List.getElem_mem hil)
        refine ⟨hs.1, by omega, ?_⟩
        have e2 : ws[i.toNat]? = some (vals.getD c.scope[i.toNat].toNat 0) := by
          have := congrArg (fun l => l[i.toNat]?) w2
          simp only [List.getElem?_take, hi, if_true] at this
          rw [this]
          unfold atV
          rw [List.getElem?_map, List.getElem?_eq_getElem hil]
          rfl
        rw [getD_get e2]
        have e3 : W[c.scope[i.toNat].toNat]? = vals[c.scope[i.toNat].toNat]? := by
          have := congrArg (fun l => l[c.scope[i.toNat].toNat]?) h2
          simp only [List.getElem?_take] at this
          rw [if_pos (by omega)] at this
          exact this
        rw [List.getD_eq_getElem?_getD, List.getElem?_append_left (by omega), e3, List.getD_eq_getElem?_getD]
      · have e1 : (c.scope ++ iotA V (f.vars - f.free).toNat).getD i.toNat 0 = V + ((i.toNat - f.free.toNat : Nat) : Int) := getD_get (by rw [List.getElem?_append_right (by omega), hsl, iotA_get (by omega)])
        rw [e1]
        refine ⟨by omega, by omega, ?_⟩
        rw [List.getD_eq_getElem?_getD, List.getElem?_append_right (by omega), List.getElem?_drop, List.getD_eq_getElem?_getD]
        congr 2
        omega
    have hstep : stepC g (V, L) c = (V + (f.vars - f.free), L ++ mvB (fun i => (c.scope ++ iotA V (f.vars - f.free).toNat).getD i.toNat 0) f.atoms) := by
      unfold stepC
      rw [hd]
    rw [hstep]
    refine ext_W hG hval hvr l _ _ (W ++ ws.drop f.free.toNat) (fun c' h' => hC c' (by simp [h'])) (fun c' h' => hS c' (by simp [h'])) ?_ ?_ ?_ ?_ ?_
    · rw [List.length_append, List.length_drop, w1]
      omega
    · rw [List.take_append_of_le_length hvl]
      exact h2
    · intro x hx
      rcases List.mem_append.1 hx with hx | hx
      · exact h3 x hx
      · exact w4 x (List.mem_of_mem_drop hx)
    · intro b hb i hi
      rcases List.mem_append.1 hb with hb | hb
      · have := h4 b hb i hi
        omega
      · obtain ⟨a, ha, rfl⟩ := List.mem_map.1 hb
        obtain ⟨j, hj, rfl⟩ := List.mem_map.1 hi
        have hj2 := (fv.a a ha).1 j hj
        have := key j hj2.1 (by omega)
        exact ⟨this.1, this.2.1⟩
    · intro b hb
      rcases List.mem_append.1 hb with hb | hb
      · rw [atomS_congr (atV_app (fun i hi => by have := h4 b hb i hi; omega))]
        exact h5 b hb
      · obtain ⟨a, ha, rfl⟩ := List.mem_map.1 hb
        have e : atV (W ++ ws.drop f.free.toNat) (a.args.map fun i => (c.scope ++ iotA V (f.vars - f.free).toNat).getD i.toNat 0) = atV ws a.args := by
          unfold atV
          rw [List.map_map]
          apply List.map_congr_left
          intro j hj
          have hj2 := (fv.a a ha).1 j hj
          exact (key j hj2.1 (by omega)).2.2
        have h6 := w3 a ha
        unfold atomS at h6 ⊢
        rw [e]
        exact h6
/-! ### Variables that are one have one value -/
theorem merge_const {u : Template} {V : Nat} {W : List Int} : ∀ (l : List Atom) (S : List Int), (∀ a ∈ l, atomS u a W = true) → AB V l → S.length = V → (∀ v, v < V → W.getD (S.getD v 0).toNat 0 = W.getD v 0) → ∀ v, v < V → W.getD ((l.foldl mergeS S).getD v 0).toNat 0 = W.getD v 0
  | [], S, _, _, _, h => h
  | a :: l, S, hA, hB, hl, h => by
    rw [List.foldl_cons]
    refine merge_const l _ (fun b hb => hA b (by simp [hb])) (fun b hb => hB b (by simp [hb])) (by rw [mergeS_len, hl]) ?_
    intro v hv
    unfold mergeS
    split
    · rename_i e
      obtain ⟨_, k2, k3⟩ := hB a (by simp)
      have hl2 := k2 e
      obtain ⟨i, j, e2⟩ : ∃ i j, a.args = [i, j] := by
        match h : a.args, hl2 with
        | [x, y], _ => exact ⟨x, y, rfl⟩
      have ha := hA a (by simp)
      unfold atomS at ha
      rw [if_pos e, e2] at ha
      have ha' : W.getD i.toNat 0 = W.getD j.toNat 0 := by simpa [atV] using ha
      have hi := k3 i (by rw [e2]; simp)
      have hj := k3 j (by rw [e2]; simp)
      have h1 := h i.toNat (by omega)
      have h2 := h j.toNat (by omega)
      rw [e2]
      simp only [List.getD_cons_zero, List.getD_cons_succ]
      have hx : W.getD (loI (S.getD i.toNat 0) (S.getD j.toNat 0)).toNat 0 = W.getD (hiI (S.getD i.toNat 0) (S.getD j.toNat 0)).toNat 0 := by
        unfold loI hiI
        split <;> split <;> first | omega | (rw [h1, h2, ha'])
      have hS := h v hv
      have hvl : v < S.length := by omega
      have e4 : ∀ F : Int → Int, (S.map F).getD v 0 = F (S.getD v 0) := fun F => getD_get (by rw [List.getElem?_map, List.getElem?_eq_getElem hvl, getD_get (List.getElem?_eq_getElem hvl)]; rfl)
      rw [e4]
      show W.getD (if S.getD v 0 = _ then _ else S.getD v 0).toNat 0 = _
      split
      · rename_i e3
        rw [hx, ← e3]
        exact hS
      · exact hS
    · exact h v hv
theorem fix_get {S : List Int} {x : Nat} (hx : x < S.length) (hf : isFix S x = true) : (fixL S)[zP S x]? = some (x : Int) := by
  have hr : List.range S.length = List.range x ++ x :: (List.range' (x + 1) (S.length - x - 1)) := by
    have h9 : List.range' 0 x ++ List.range' (0 + x) (S.length - x - 1 + 1) = List.range' 0 (x + (S.length - x - 1 + 1)) := List.range'_append_1
    rw [Nat.zero_add] at h9
    rw [List.range_eq_range', List.range_eq_range', ← List.range'_succ, h9]
    congr 1
    omega
  unfold fixL
  rw [hr, List.filter_append, List.filter_cons, if_pos hf, List.map_append, List.map_cons, List.getElem?_append_right (by rw [List.length_map]; exact Nat.le_refl _), List.length_map]
  unfold zP
  rw [Nat.sub_self]
  rfl
/-- The values of the variables that stand. -/
def valY (S W : List Int) : List Int := (fixL S).map fun x => W.getD x.toNat 0
theorem rep_fix {S : List Int} (h : Rep S) {v : Nat} (hv : v < S.length) : 0 ≤ S[v] ∧ S[v].toNat ≤ v ∧ isFix S S[v].toNat = true := by
  obtain ⟨h0, h1, h2⟩ := h v S[v] (List.getElem?_eq_getElem hv)
  refine ⟨h0, by omega, ?_⟩
  unfold isFix
  rw [List.getD_eq_getElem?_getD, h2, Option.getD_some]
  simp
  omega
theorem numS_get {S : List Int} {v : Nat} (hv : v < S.length) : (numS S)[v]? = some (zP S S[v].toNat : Int) := by
  unfold numS
  rw [List.getElem?_map, List.getElem?_eq_getElem hv]
  rfl
theorem valY_at {S W : List Int} (h : Rep S) (hW : ∀ v, v < S.length → W.getD (S.getD v 0).toNat 0 = W.getD v 0) {v : Nat} (hv : v < S.length) : (valY S W).getD ((numS S).getD v 0).toNat 0 = W.getD v 0 := by
  obtain ⟨h0, h1, h2⟩ := rep_fix h hv
  rw [getD_get (numS_get hv), Int.toNat_natCast]
  unfold valY
  rw [getD_get (x := W.getD S[v].toNat 0) (by rw [List.getElem?_map, fix_get (by omega) h2]; rfl)]
  have := hW v hv
  rw [getD_get (List.getElem?_eq_getElem hv)] at this
  exact this
end Go.Proofs.YtmgdjaiaekhkgaaGreat
namespace Go.Proofs.YtmgdjaiaekhkgaaGreat
set_option linter.unusedVariables false
set_option linter.unusedSimpArgs false
set_option maxRecDepth 100000
/-- An instance as a formula. -/
def fY (K : Int) (y : Instance) : Formula := ⟨K, y.vars, y.cons.map fun c => ⟨c.rel, c.scope⟩⟩
theorem fY_FX {u : Template} {y : Instance} {K : Int} (h : ∀ c ∈ y.cons, CW u y.vars c) (hK : 1 ≤ K ∧ K ≤ y.vars) (hv : y.vars ≤ 10) (hn : y.cons.length ≤ 24) : FX u (fY K y) := by
  refine ⟨⟨hK.1, by show K ≤ 10; omega⟩, ⟨hK.2, hv⟩, by show (y.cons.map _).length ≤ 24; rw [List.length_map]; exact hn, fun a ha => ?_⟩
  obtain ⟨c, hc, rfl⟩ := List.mem_map.1 ha
  obtain ⟨⟨h1, h2⟩, _⟩ := h c hc
  refine ⟨fun i hi => ?_, .inr h2⟩
  have := h1 i hi
  have e : (fY K y).vars = y.vars := rfl
  rw [e]
  omega
theorem fY_atom {u : Template} {n : Int} {c : Con} {vs : List Int} (h : CW u n c) : atomS u ⟨c.rel, c.scope⟩ vs = conS u vs c := by
  obtain ⟨⟨_, r, h0, _⟩, _⟩ := h
  unfold atomS conS
  rw [if_neg (show ¬ (⟨c.rel, c.scope⟩ : Atom).rel = -1 by show ¬ c.rel = -1; omega)]
theorem sureY_eq {T : Nat} {u : Template} {y : Instance} {vs : List Int} (K : Int) (hu : TV T u) (h : ∀ c ∈ y.cons, CW u y.vars c) (hl : 1 ≤ vs.length ∧ vs.length ≤ 1000) : kP (l05Find.mk u y 0 [] 0) vs = some (zI u (fY K y) vs) := by
  unfold kP
  rw [ck_eq (by omega) (by omega), bnd_s]
  rw [forL_all (fun c : Con => !decide (mx c.scope = (vs.length : Int) - 1) || conS u vs c) (fun j c hc => by
    have hm := h c (List.mem_of_getElem? hc)
    simp only
    rw [top_loop, thn_nx]
    change kJ (if (mx c.scope == (vs.length : Int) - 1) then _ else _) _ = _
    by_cases e : mx c.scope = (vs.length : Int) - 1
    · have h1 : (mx c.scope == (vs.length : Int) - 1) = true := by simpa using e
      have hw : CW u vs.length c := ⟨⟨fun i hi => ⟨(hm.1.1 i hi).1, by
        have := (mx_le (l := c.scope) (s := 0)).2 i hi
        unfold mx at e
        omega⟩, hm.1.2⟩, hm.2⟩
      rw [h1, if_pos rfl, (holds_two (N := 1100) hu hw (Nat.le_refl _)).1, bnd_s, thn_nx, decide_eq_true e]
      cases conS u vs c <;> rfl
    · have h1 : (mx c.scope == (vs.length : Int) - 1) = false := by simpa using e
      rw [h1, if_neg (by simp), thn_nx, decide_eq_false e]
      rfl)]
  unfold zI fY
  rw [List.all_map]
  congr 1
  have : ∀ l : List Con, (∀ c ∈ l, CW u y.vars c) → (l.all fun c => !decide (mx c.scope = (vs.length : Int) - 1) || conS u vs c) = l.all ((fun a => !decide (mx a.args = (vs.length : Int) - 1) || atomS u a vs) ∘ fun c => ⟨c.rel, c.scope⟩) := by
    intro l
    induction l with
    | nil => intro _; rfl
    | cons c l ih =>
      intro hl
      rw [List.all_cons, List.all_cons, ih (fun c' h' => hl c' (by simp [h']))]
      show _ = ((!decide (mx c.scope = _) || atomS u ⟨c.rel, c.scope⟩ vs) && _)
      rw [fY_atom (hl c (by simp))]
  exact this y.cons h
/-! ### The search with values that are told -/
theorem fillS_eq {T : Nat} {u : Template} {y : Instance} {K : Nat} {told : List Int} (hu : TV T u) (h : ∀ c ∈ y.cons, CW u y.vars c) (hv : 0 ≤ y.vars ∧ y.vars ≤ 10) (ht : ∀ j, K ≤ j → (j : Int) < y.vars → told[j]? = some (-1)) (K' : Int) : ∀ (d N : Nat) (vs : List Int), (vs.length : Int) + d = y.vars → K ≤ vs.length → d + 1 ≤ N → zR N u y told vs = some (match kV u (fY K' y) d vs with | some o => (o, true) | none => ([], false))
  | 0, N, vs, hd, hK, hN => by
    obtain ⟨M, rfl⟩ : ∃ M, N = M + 1 := ⟨N - 1, by omega⟩
    rw [zR, if_pos (by simp; omega)]
    rfl
  | d + 1, N, vs, hd, hK, hN => by
    obtain ⟨M, rfl⟩ : ∃ M, N = M + 1 := ⟨N - 1, by omega⟩
    have ih := fillS_eq hu h hv ht K' d M
    have htv := ht vs.length hK (by omega)
    rw [zR, if_neg (by simp; omega)]
    have hq := forI_find (σ := Unit) (ρ := List Int × Bool) (s := ()) (k := 0) (m := u.size.toNat) (b := fun (k80 : Nat) (s : Unit) =>
      match s with
      | _ =>
      kJ (σ := Bool) (
       oJ (ix told (vs.length : Int)) fun z102 =>
       if (decide (0 ≤ z102)) then  some (.nx (z102 != (k80 : Int))) else  some (.nx false)) fun s101 =>
      if s101 then
       some (.go ())
      else
       oJ (zO vs) fun z112 =>
       oJ (ap z112 ([(k80 : Int)])) fun z119 =>
       oJ (kP (l05Find.mk u y 0 ([]) 0) z119) fun z123 =>
       if (!z123) then
        some (.go ())
       else
        oJ (zR M u y told z119) fun z133 =>
        if z133.2 then
         some (.ret (z133.1, true))
        else
         some (.go ())) (fun (a : Nat) => (if zI u (fY K' y) (vs ++ [(a : Int)]) then kV u (fY K' y) d (vs ++ [(a : Int)]) else none).map fun o => (o, true)) (fun a _ _ => by
      simp only
      rw [qG htv, bnd_s]
      have h9 : decide ((0 : Int) ≤ -1) = false := by decide
      rw [h9, if_neg (by simp), thn_nx, if_neg (by simp)]
      unfold zO
      rw [ap_eq (by simp only [List.length_nil]; omega), bnd_s, bnd_s, ap_eq (by simp only [List.length_append, List.length_cons, List.length_nil]; omega), bnd_s, List.nil_append]
      have hl : (vs ++ [(a : Int)]).length = vs.length + 1 := by simp
      rw [sureY_eq K' hu h (by rw [hl]; omega), bnd_s]
      by_cases hs : zI u (fY K' y) (vs ++ [(a : Int)]) = true
      · rw [hs, if_neg (by simp), if_pos rfl, ih _ (by rw [hl]; push_cast; omega) (by rw [hl]; omega) (by omega), bnd_s]
        cases kV u (fY K' y) d (vs ++ [(a : Int)]) <;> rfl
      · have hs' : zI u (fY K' y) (vs ++ [(a : Int)]) = false := by simpa using hs
        rw [hs', if_pos (by rfl), if_neg (by simp)]
        rfl)
    rw [hq]
    have hmap : ∀ (l : List Nat), l.findSome? (fun (a : Nat) => (if zI u (fY K' y) (vs ++ [(a : Int)]) then kV u (fY K' y) d (vs ++ [(a : Int)]) else none).map fun o => (o, true)) = (l.findSome? (fun (a : Nat) => if zI u (fY K' y) (vs ++ [(a : Int)]) then kV u (fY K' y) d (vs ++ [(a : Int)]) else none)).map fun o => (o, true) := fun l => by
      induction l with
      | nil => rfl
      | cons a l ih2 =>
        rw [List.findSome?_cons, List.findSome?_cons, ih2]
        cases (if zI u (fY K' y) (vs ++ [(a : Int)]) then kV u (fY K' y) d (vs ++ [(a : Int)]) else none) <;> rfl
    rw [hmap]
    rw [show kV u (fY K' y) (d + 1) vs = (List.range' 0 u.size.toNat).findSome? (fun (a : Nat) => if zI u (fY K' y) (vs ++ [(a : Int)]) then kV u (fY K' y) d (vs ++ [(a : Int)]) else none) from rfl]
    cases (List.range' 0 u.size.toNat).findSome? (fun (a : Nat) => if zI u (fY K' y) (vs ++ [(a : Int)]) then kV u (fY K' y) d (vs ++ [(a : Int)]) else none) <;> rfl
theorem find_one {ρ : Type} {r : ρ} {a0 : Nat} {m : Nat} (h : a0 < m) (p : Nat → Prop) [DecidablePred p] (hp : p a0) : (List.range' 0 m).findSome? (fun a => if p a then some r else none) = some r := by
  cases hq : (List.range' 0 m).findSome? (fun a => if p a then some r else none) with
  | none =>
    have := List.findSome?_eq_none_iff.1 hq a0 (List.mem_range'_1.2 ⟨by omega, by omega⟩)
    rw [if_pos hp] at this
    cases this
  | some r' =>
    obtain ⟨a, _, h2⟩ := List.exists_of_findSome?_eq_some hq
    split at h2
    · exact h2.symm
    · cases h2
theorem fill_eq {T : Nat} {u : Template} {y : Instance} {Y : List Int} {K : Nat} (hu : TV T u) (h : ∀ c ∈ y.cons, CW u y.vars c) (hv : y.vars ≤ 10) (hYl : (Y.length : Int) = y.vars) (hK : K ≤ Y.length) (hYr : Rng u.size.toNat Y) (K' : Int) (hYs : ∀ n, 1 ≤ n → n ≤ Y.length → zI u (fY K' y) (Y.take n) = true) {o : List Int} (ho : kV u (fY K' y) (Y.length - K) (Y.take K) = some o) :
    ∀ (d N : Nat), d ≤ K → Y.length - K + d + 1 ≤ N → zR N u y (Y.take K ++ List.replicate (Y.length - K) (-1)) (Y.take (K - d)) = some (o, true)
  | 0, N, _, hN => by
    have hl : (Y.take K).length = K := by rw [List.length_take]; omega
    rw [Nat.sub_zero, fillS_eq hu h (by omega) (K := K) (fun j h1 h2 => by
      rw [List.getElem?_append_right (by rw [hl]; exact h1), hl, List.getElem?_replicate, if_pos (by omega)]) K' (Y.length - K) N _ (by rw [hl]; omega) (by rw [hl]; exact Nat.le_refl _) (by omega), ho]
  | d + 1, N, hd, hN => by
    obtain ⟨M, rfl⟩ : ∃ M, N = M + 1 := ⟨N - 1, by omega⟩
    have ih := fill_eq hu h hv hYl hK hYr K' hYs ho d M (by omega) (by omega)
    generalize hk : K - (d + 1) = k
    have hkd : K - d = k + 1 := by omega
    rw [hkd] at ih
    have hkl : k < Y.length := by omega
    have hl : (Y.take k).length = k := by rw [List.length_take]; omega
    have hx := hYr _ (List.getElem_mem hkl)
    have htold : (Y.take K ++ List.replicate (Y.length - K) (-1))[k]? = some Y[k] := by
      rw [List.getElem?_append_left (by rw [List.length_take]; omega), List.getElem?_take, if_pos (by omega), List.getElem?_eq_getElem hkl]
    have enext : Y.take k ++ [Y[k]] = Y.take (k + 1) := by rw [List.take_add_one, List.getElem?_eq_getElem hkl]; rfl
    rw [zR, if_neg (by rw [hl]; simp; omega)]
    have hq := forI_find (σ := Unit) (ρ := List Int × Bool) (s := ()) (k := 0) (m := u.size.toNat) (b := fun (k80 : Nat) (s : Unit) =>
      match s with
      | _ =>
      kJ (σ := Bool) (
       oJ (ix (Y.take K ++ List.replicate (Y.length - K) (-1)) ((Y.take k).length : Int)) fun z102 =>
       if (decide (0 ≤ z102)) then  some (.nx (z102 != (k80 : Int))) else  some (.nx false)) fun s101 =>
      if s101 then
       some (.go ())
      else
       oJ (zO (Y.take k)) fun z112 =>
       oJ (ap z112 ([(k80 : Int)])) fun z119 =>
       oJ (kP (l05Find.mk u y 0 ([]) 0) z119) fun z123 =>
       if (!z123) then
        some (.go ())
       else
        oJ (zR M u y (Y.take K ++ List.replicate (Y.length - K) (-1)) z119) fun z133 =>
        if z133.2 then
         some (.ret (z133.1, true))
        else
         some (.go ())) (fun (a : Nat) => if Y[k] = (a : Int) then some (o, true) else none) (fun a _ _ => by
      simp only
      rw [hl, qG htold, bnd_s, if_pos (by simp; exact hx.1), thn_nx]
      by_cases e : Y[k] = (a : Int)
      · have e1 : (Y[k] != (a : Int)) = false := by simpa using e
        rw [e1, if_neg (by simp), if_pos e, ← e]
        unfold zO
        rw [ap_eq (by simp only [List.length_nil, hl]; omega), bnd_s, bnd_s, ap_eq (by simp only [List.length_append, List.length_cons, List.length_nil, hl]; omega), bnd_s, List.nil_append, enext]
        have hl2 : (Y.take (k + 1)).length = k + 1 := by rw [List.length_take]; omega
        rw [sureY_eq K' hu h (by rw [hl2]; omega), bnd_s, hYs (k + 1) (by omega) (by omega), if_neg (by simp), ih, bnd_s]
        rfl
      · have e1 : (Y[k] != (a : Int)) = true := by simpa using e
        rw [e1, if_pos rfl, if_neg e]
        rfl)
    rw [hq, find_one (a0 := Y[k].toNat) (by omega) (fun a => Y[k] = (a : Int)) (by omega)]
    rfl
/-! ### What is told -/
theorem cnt_nth {S : List Int} : ∀ {k n : Nat}, n < zP S k → ∃ x, x < k ∧ isFix S x = true ∧ zP S x = n
  | 0, n, h => by unfold zP at h; simp at h
  | k + 1, n, h => by
    rw [cntF_succ] at h
    by_cases h1 : n < zP S k
    · obtain ⟨x, h2, h3⟩ := cnt_nth h1
      exact ⟨x, by omega, h3⟩
    · by_cases h2 : isFix S k = true
      · rw [if_pos h2] at h
        exact ⟨k, by omega, h2, by omega⟩
      · rw [if_neg h2] at h
        omega
theorem num_mem {S : List Int} (h : Rep S) {xv n : Nat} (hx : xv ≤ S.length) : ((n : Nat) : Int) ∈ (numS S).take xv ↔ n < zP S xv := by
  constructor
  · intro hm
    obtain ⟨v, hv⟩ := List.mem_iff_getElem?.1 hm
    rw [List.getElem?_take] at hv
    split at hv
    · rename_i hvx
      have hvl : v < S.length := by omega
      rw [numS_get hvl] at hv
      obtain ⟨h0, h1, h2⟩ := rep_fix h hvl
      have h3 := cntF_succ S S[v].toNat
      rw [if_pos h2] at h3
      have h4 := cntF_mono S (a := S[v].toNat + 1) (b := xv) (by omega)
      have := Option.some.inj hv
      omega
    · cases hv
  · intro hn
    obtain ⟨x, h1, h2, h3⟩ := cnt_nth hn
    have hxl : x < S.length := by omega
    have e : S[x] = (x : Int) := by
      unfold isFix at h2
      rw [List.getD_eq_getElem?_getD, List.getElem?_eq_getElem hxl] at h2
      simpa using h2
    refine List.mem_iff_getElem?.2 ⟨x, ?_⟩
    rw [List.getElem?_take, if_pos h1, numS_get hxl, e, Int.toNat_natCast, h3]
def toldS (S W : List Int) (xv j : Nat) : List Int := (List.range (zP S S.length)).map fun (n : Nat) => if (n : Int) ∈ ((numS S).take xv).take j then (valY S W).getD n 0 else -1
theorem told_get {S W : List Int} {xv j n : Nat} (h : n < zP S S.length) : (toldS S W xv j)[n]? = some (if (n : Int) ∈ ((numS S).take xv).take j then (valY S W).getD n 0 else -1) := by
  unfold toldS
  rw [List.getElem?_map, List.getElem?_range h]
  rfl
theorem told_set {S W : List Int} (h : Rep S) (hW : ∀ v, v < S.length → W.getD (S.getD v 0).toNat 0 = W.getD v 0) {xv k : Nat} (hx : xv ≤ S.length) (hk : k < xv) : ((numS S).take xv)[k]? = some (zP S (S.getD k 0).toNat : Int) ∧ zP S (S.getD k 0).toNat < zP S S.length ∧ (valY S W).getD (zP S (S.getD k 0).toNat) 0 = W.getD k 0 ∧ (toldS S W xv k).set (zP S (S.getD k 0).toNat) (W.getD k 0) = toldS S W xv (k + 1) := by
  have hkl : k < S.length := by omega
  have e0 : S.getD k 0 = S[k] := getD_get (List.getElem?_eq_getElem hkl)
  obtain ⟨h0, h1, h2⟩ := rep_fix h hkl
  have hp : ((numS S).take xv)[k]? = some (zP S (S.getD k 0).toNat : Int) := by rw [List.getElem?_take, if_pos hk, numS_get hkl, e0]
  have hc : zP S (S.getD k 0).toNat < zP S S.length := by
    rw [e0]
    have h3 := cntF_succ S S[k].toNat
    rw [if_pos h2] at h3
    have h4 := cntF_mono S (a := S[k].toNat + 1) (b := S.length) (by omega)
    omega
  have hy : (valY S W).getD (zP S (S.getD k 0).toNat) 0 = W.getD k 0 := by
    have := valY_at h hW hkl
    rw [getD_get (numS_get hkl), Int.toNat_natCast, ← e0] at this
    exact this
  refine ⟨hp, hc, hy, ?_⟩
  apply List.ext_getElem?
  intro n
  by_cases hn : n < zP S S.length
  · rw [told_get hn]
    have emem : (n : Int) ∈ ((numS S).take xv).take (k + 1) ↔ (n : Int) ∈ ((numS S).take xv).take k ∨ n = zP S (S.getD k 0).toNat := by
      rw [List.take_add_one, List.mem_append, hp]
      simp only [Option.toList_some, List.mem_singleton]
      constructor
      · rintro (h | h)
        · exact .inl h
        · exact .inr (by omega)
      · rintro (h | h)
        · exact .inl h
        · exact .inr (by omega)
    by_cases en : n = zP S (S.getD k 0).toNat
    · rw [if_pos (emem.2 (.inr en)), ← en, List.getElem?_set_self (by unfold toldS; simpa using hn)]
      rw [← en] at hy
      rw [hy]
    · rw [List.getElem?_set_ne (fun e => en e.symm), told_get hn]
      by_cases hm : (n : Int) ∈ ((numS S).take xv).take k
      · rw [if_pos hm, if_pos (emem.2 (.inl hm))]
      · rw [if_neg hm, if_neg (fun e => (emem.1 e).elim hm en)]
  · rw [List.getElem?_eq_none (by unfold toldS; simp; omega), List.getElem?_eq_none (by unfold toldS; simp; omega)]
theorem told_loop {ρ ρ' : Type} {e6 : ρ'} {S W vals : List Int} (h : Rep S) (hW : ∀ v, v < S.length → W.getD (S.getD v 0).toNat 0 = W.getD v 0) {xv : Nat} (hx : xv ≤ S.length) (hv : ∀ k, k < xv → vals[k]? = some (W.getD k 0)) (hY : ∀ n, 0 ≤ (valY S W).getD n 0) : ∀ (m k : Nat), k + m = xv →
    qT (σ := (List Int)) (ρ := ρ) (fun (k169 : Nat) (x171 : Int) (s163 : (List Int)) =>
       oJ (ix vals (k169 : Int)) fun z179 =>
       oJ (ix s163 x171) fun z184 =>
       some (.go (s163.set (x171).toNat z179))) (((numS S).take xv).drop k) k (toldS S W xv k) = some (.nx (toldS S W xv xv)) ∧
    qT (σ := (List Int)) (ρ := ρ') (fun (k169 : Nat) (x171 : Int) (s163 : (List Int)) =>
       kJ (σ := Bool) (
        oJ (ix s163 x171) fun z196 =>
        if (decide (0 ≤ z196)) then  oJ (ix vals (k169 : Int)) fun z205 =>
         some (.nx (z196 != z205)) else  some (.nx false)) fun s195 =>
       if s195 then
        some (.ret e6)
       else
        oJ (ix vals (k169 : Int)) fun z212 =>
        oJ (ix s163 x171) fun z217 =>
        some (.go (s163.set (x171).toNat z212))) (((numS S).take xv).drop k) k (toldS S W xv k) = some (.nx (toldS S W xv xv))
  | 0, k, hk => by
    have hl : ((numS S).take xv).length = xv := by rw [List.length_take]; unfold numS; rw [List.length_map]; omega
    rw [List.drop_of_length_le (by omega)]
    obtain rfl : k = xv := by omega
    exact ⟨rfl, rfl⟩
  | m + 1, k, hk => by
    obtain ⟨h1, h2, h3, h4⟩ := told_set h hW hx (show k < xv by omega)
    obtain ⟨i1, i2⟩ := told_loop (ρ := ρ) (e6 := e6) h hW hx hv hY m (k + 1) (by omega)
    have hd : ((numS S).take xv).drop k = (zP S (S.getD k 0).toNat : Int) :: ((numS S).take xv).drop (k + 1) := by
      obtain ⟨hlt, he⟩ := List.getElem?_eq_some_iff.1 h1
      rw [List.drop_eq_getElem_cons hlt, he]
    have hvk := qG (hv k (by omega))
    have hs := qG (told_get (W := W) (xv := xv) (j := k) h2)
    rw [hd]
    constructor
    · rw [kF (s' := toldS S W xv (k + 1)) (by rw [hvk, bnd_s, hs, bnd_s, Int.toNat_natCast, h4])]
      exact i1
    · rw [kF (s' := toldS S W xv (k + 1)) (by
        rw [hs, bnd_s]
        by_cases hm : (zP S (S.getD k 0).toNat : Int) ∈ ((numS S).take xv).take k
        · rw [if_pos hm, h3]
          have h0 := hY (zP S (S.getD k 0).toNat)
          rw [h3] at h0
          rw [if_pos (by simpa using h0), hvk, bnd_s]
          have e : (W.getD k 0 != W.getD k 0) = false := by simp
          rw [e, thn_nx, if_neg (by simp), bnd_s, bnd_s, Int.toNat_natCast, h4]
        · rw [if_neg hm, if_neg (by decide), thn_nx, if_neg (by simp), hvk, bnd_s, bnd_s, Int.toNat_natCast, h4])]
      exact i2
theorem valY_len (S W : List Int) : (valY S W).length = zP S S.length := by unfold valY; rw [List.length_map, fixL_len]
theorem told_end {S W : List Int} (h : Rep S) {xv : Nat} (hx : xv ≤ S.length) : toldS S W xv xv = (valY S W).take (zP S xv) ++ List.replicate ((valY S W).length - zP S xv) (-1) := by
  have hK := cntF_mono S hx
  apply List.ext_getElem?
  intro n
  rw [valY_len]
  have hl : ((valY S W).take (zP S xv)).length = zP S xv := by rw [List.length_take, valY_len]; omega
  by_cases hn : n < zP S S.length
  · rw [told_get hn, List.take_take, Nat.min_self]
    by_cases h2 : n < zP S xv
    · rw [if_pos ((num_mem h hx).2 h2), List.getElem?_append_left (by omega), List.getElem?_take, if_pos h2, List.getD_eq_getElem?_getD, List.getElem?_eq_getElem (by rw [valY_len]; exact hn)]
      rfl
    · rw [if_neg (fun e => h2 ((num_mem h hx).1 e)), List.getElem?_append_right (by omega), hl, List.getElem?_replicate, if_pos (by omega)]
  · rw [List.getElem?_eq_none (by unfold toldS; simp; omega), List.getElem?_eq_none (by rw [List.length_append, hl, List.length_replicate]; omega)]
theorem told_start (S W : List Int) (xv : Nat) : toldS S W xv 0 = List.replicate (zP S S.length) (-1) := by
  unfold toldS
  apply List.ext_getElem?
  intro n
  by_cases hn : n < zP S S.length
  · rw [List.getElem?_map, List.getElem?_range hn, List.getElem?_replicate, if_pos hn, Option.map_some, List.take_zero, if_neg (List.not_mem_nil)]
  · rw [List.getElem?_eq_none (by simp; omega), List.getElem?_eq_none (by simp; omega)]
theorem minus_loop {ρ : Type} : ∀ (m k : Nat) (s : List Int), s.length + m ≤ 1000 → kT (σ := (List Int)) (ρ := ρ) (fun (k77 : Nat) (s71 : (List Int)) =>
       oJ (ap s71 ([(-1)])) fun z85 =>
       some (.go z85)) m k s = some (.nx (s ++ List.replicate m (-1)))
  | 0, k, s, _ => by simp [kT]
  | m + 1, k, s, h => by
    rw [forI_go (s' := s ++ [-1]) (by rw [ap_eq (by simp only [List.length_cons, List.length_nil]; omega), bnd_s]), minus_loop m (k + 1) _ (by rw [List.length_append, List.length_singleton]; omega), List.replicate_succ, List.append_assoc]
    rfl
theorem begin_loop {ρ : Type} {A : List Int} (m : Nat) (hA : ∀ x ∈ A, 0 ≤ x) (hl : A.length + m ≤ 1000) : ∀ (d N : Nat), d ≤ A.length → d + 1 ≤ N →
    whl (σ := (List Int)) (ρ := ρ) (fun (s269 : (List Int)) =>
       kJ (σ := Bool) (
        if (decide ((s269.length : Int) < ((A ++ List.replicate m (-1)).length : Int))) then  oJ (ix (A ++ List.replicate m (-1)) (s269.length : Int)) fun z298 =>
         some (.nx (decide (0 ≤ z298))) else  some (.nx false)) fun s293 =>
       if s293 then
        oJ (ix (A ++ List.replicate m (-1)) (s269.length : Int)) fun z305 =>
        oJ (ap s269 ([z305])) fun z312 =>
        some (.go z312)
       else
        some (.brk s269)) N (A.take (A.length - d)) = some (.nx A)
  | 0, N, _, hN => by
    obtain ⟨M, rfl⟩ : ∃ M, N = M + 1 := ⟨N - 1, by omega⟩
    rw [Nat.sub_zero, List.take_of_length_le (Nat.le_refl _), whl_brk (s' := A) (by
      cases m with
      | zero => rw [if_neg (by simp), thn_nx, if_neg (by simp)]
      | succ m =>
        rw [if_pos (by simp; omega), qG (x := (-1)) (by rw [List.getElem?_append_right (Nat.le_refl _), Nat.sub_self]; rfl), bnd_s, show decide ((0 : Int) ≤ -1) = false by decide, thn_nx, if_neg (by simp)])]
  | d + 1, N, hd, hN => by
    obtain ⟨M, rfl⟩ : ∃ M, N = M + 1 := ⟨N - 1, by omega⟩
    generalize hk : A.length - (d + 1) = k
    have hkl : k < A.length := by omega
    have hlk : (A.take k).length = k := by rw [List.length_take]; omega
    have hix : ix (A ++ List.replicate m (-1)) ((A.take k).length : Int) = some A[k] := by rw [hlk]; exact qG (by rw [List.getElem?_append_left hkl, List.getElem?_eq_getElem hkl])
    have ih := begin_loop (ρ := ρ) m hA hl d M (by omega) (by omega)
    rw [show A.length - d = k + 1 by omega] at ih
    rw [whl_go (s' := A.take (k + 1)) (by
      rw [if_pos (by rw [hlk]; simp; omega), hix, bnd_s, thn_nx, if_pos (by simpa using hA _ (List.getElem_mem hkl)), bnd_s, ap_eq (by simp only [hlk, List.length_cons, List.length_nil]; omega), bnd_s, List.take_add_one, List.getElem?_eq_getElem hkl]
      rfl)]
    exact ih
end Go.Proofs.YtmgdjaiaekhkgaaGreat
namespace Go.Proofs.YtmgdjaiaekhkgaaGreat
set_option linter.unusedVariables false
set_option linter.unusedSimpArgs false
set_option maxRecDepth 100000
theorem atoms_loop {ρ : Type} : ∀ (l : List Con) (k : Nat) (s : List Atom), s.length + l.length ≤ 1000 → qT (σ := (List Atom)) (ρ := ρ) (fun (k68 : Nat) (x70 : Con) (s62 : (List Atom)) =>
   oJ (ap s62 ([(Atom.mk x70.rel x70.scope)])) fun z84 =>
   some (.go z84)) l k s = some (.nx (s ++ l.map fun c => ⟨c.rel, c.scope⟩))
  | [], k, s, _ => by simp [qT]
  | c :: l, k, s, h => by
    rw [List.length_cons] at h
    rw [kF (s' := s ++ [⟨c.rel, c.scope⟩]) (by rw [ap_eq (by simp only [List.length_cons, List.length_nil]; omega), bnd_s]), atoms_loop l (k + 1) _ (by rw [List.length_append, List.length_singleton]; omega), List.map_cons, List.append_assoc]
    rfl
theorem solverFor_eq {T : Nat} {u : Template} {y : Instance} {K : Int} (hu : TV T u) (hf : FX u (fY K y)) : impl_solverFor u y = some (solS u (fY K y)) := by
  unfold impl_solverFor
  have hn := hf.n
  have hl : (fY K y).atoms.length = y.cons.length := by unfold fY; rw [List.length_map]
  rw [atoms_loop y.cons 0 [] (by simp only [List.length_nil]; omega), thn_nx, List.nil_append]
  have h1 : impl_solverOf (Template.mk u.size u.rels) y.vars (y.cons.map fun c => ⟨c.rel, c.scope⟩) = some (solS u (fY K y)) := solverOf_eq hu hf
  rw [h1, bnd_s]
theorem CarryForth_two {N : Nat} {t u : Template} {g : Gadgets} {x : Instance} {vs : List Int} (ht : smallT t) (hu : smallT u) (hN : 1100 ≤ N) : ∃ r, spec_CarryForth N t u g x vs = some r ∧ impl_CarryForth N t u g x vs = some r ∧ r.1.length ≤ 10 := by
  have a1 : spec_l09Asked N (Template.mk t.size t.rels) (Template.mk u.size u.rels) (Gadgets.mk g.formulas) (Instance.mk x.vars x.cons) = some (askB t u g x) := (ask_two ht hu hN).1
  have a2 : impl_applyFault N (Template.mk t.size t.rels) (Template.mk u.size u.rels) (Gadgets.mk g.formulas) (Instance.mk x.vars x.cons) = some (if askB t u g x then 0 else 1) := (ask_two ht hu hN).2
  unfold spec_CarryForth impl_CarryForth
  rw [a1, a2, bnd_s, bnd_s]
  by_cases h : askB t u g x = true
  · have h' := h
    unfold askB at h'
    rw [Bool.and_eq_true] at h'
    have hV := h'.1
    unfold gadV at hV
    rw [Bool.and_eq_true] at hV
    have hG := gadF_GV ht hu hV.1
    have hval : ∀ j f, g.formulas[j]? = some f → (valS u f t.size.toNat f.free.toNat).tuples = (t.rels.getD j default).tuples := fun j f hj => by
      have := fnd_none (Option.isNone_iff_eq_none.1 hV.2) j f hj
      rw [Nat.zero_add] at this
      exact (wrongQ_none hG hj).1 this
    obtain ⟨i1, i2, i3⟩ := inst_CV h'.2
    obtain ⟨p1, p2, p3⟩ := applied_two hG i1 i2 i3
    obtain ⟨_, _, a3, a4, a5, a6⟩ := apply_loop (ρ := Instance × (List Int) × Int) (ρ' := Instance × (List Int) × Int) hG (n := x.vars) x.cons 0 x.vars [] i3 (Int.le_refl _) (by omega) (by omega) (by simp only [List.length_nil]; omega) (fun b hb => nomatch hb)
    have eA : x.cons.foldl (stepC g) (x.vars, []) = appA g x := rfl
    rw [eA] at a3 a4 a5 a6
    have a4' : x.vars ≤ (appA g x).1 := by omega
    obtain ⟨q1, q2⟩ := appR_CW hG i3 (by omega) p3
    have p1' : spec_l09Apply (Gadgets.mk g.formulas) (Instance.mk x.vars x.cons) = some (appR g x) := p1
    have p2' : impl_applied (Gadgets.mk g.formulas) (Instance.mk x.vars x.cons) = some (appR g x) := p2
    have hs : okS t.size = true := by have := hG.tV.s; have := hG.tV.t; unfold okS; simp; omega
    have e0 : ((0 : Int) != 0) = false := rfl
    rw [h, p1', p2', l01Tuple_eq hs, areValues_eq hs]
    simp only [Bool.not_true, Bool.false_eq_true, if_false, if_true, e0, bnd_s]
    by_cases hb : areB t.size vs x.vars = true
    · have hb' := hb
      unfold areB at hb'
      rw [Bool.and_eq_true] at hb'
      have hbl : (vs.length : Int) = x.vars := by simpa using hb'.1
      have hsz : t.size = u.size := by rw [hG.tV.s, hG.uV.s]
      have huN : ((u.size.toNat : Nat) : Int) = u.size := by rw [hG.uV.s]; simp
      have hvr : Rng u.size.toNat vs := fun z hz => by
        have := List.all_eq_true.1 hb'.2 z hz
        unfold okV at this
        simp at this
        omega
      rw [hb]
      simp only [Bool.not_true, Bool.false_eq_true, if_false]
      have hCW : ∀ c ∈ x.cons, CW t vs.length c := fun c hc => by
        have h1 := i3 c hc
        obtain ⟨_, r, _, _, hr, ha⟩ := id h1
        obtain ⟨n, e, _, hn4, _⟩ := hG.tV.r r hr
        exact ⟨by rw [hbl]; exact h1, by omega⟩
      obtain ⟨i, j, f1, f2, f3, f4⟩ := failing_two (N := N) (y := x) hG.tV hCW hN
      have f1' : spec_l05Failing (Template.mk t.size t.rels) (Instance.mk x.vars x.cons) vs = some i := f1
      have f2' : impl_failing N (Template.mk t.size t.rels) (Instance.mk x.vars x.cons) vs = some j := f2
      rw [f1', f2', bnd_s, bnd_s, f3, f4]
      by_cases hfail : (x.cons.any fun c => !conS t vs c) = true
      · rw [hfail]
        exact ⟨([], 4), rfl, rfl, Nat.zero_le _⟩
      · have hf' : (x.cons.any fun c => !conS t vs c) = false := by simpa using hfail
        have hcon : ∀ c ∈ x.cons, conS t vs c = true := fun c hc => by
          have := List.any_eq_false.1 hf' c hc
          simpa using this
        rw [hf']
        simp only [Bool.false_eq_true, if_false]
        by_cases hc : ((appR g x).2.2 != 0) = true
        · rw [hc]
          exact ⟨([], (appR g x).2.2), rfl, rfl, Nat.zero_le _⟩
        · have hc' : ((appR g x).2.2 != 0) = false := by simpa using hc
          have hz : (appR g x).2.2 = 0 := by simpa using hc'
          rw [hc']
          simp only [Bool.false_eq_true, if_false]
          -- the solution
          obtain ⟨W, w1, w2, w3, w4⟩ := ext_W hG hval hvr x.cons x.vars [] vs (fun c hc => by rw [hbl]; exact i3 c hc) hcon hbl (List.take_of_length_le (Nat.le_refl _)) hvr (fun b hb => nomatch hb) (fun b hb => nomatch hb)
          rw [eA] at w1 w4
          have hVn : (((appA g x).1.toNat : Nat) : Int) = (appA g x).1 := by omega
          have hA' : AB (((appA g x).1.toNat : Nat) : Int) (appA g x).2 := by rw [hVn]; exact p3
          have hrep : Rep (appS g x) := rep_fold _ _ (rep_iota _) (kU _ _) hA'
          have hSl : (appS g x).length = (appA g x).1.toNat := by
            have : ∀ (l : List Atom) (s : List Int), (l.foldl mergeS s).length = s.length := by
              intro l
              induction l with
              | nil => intro s; rfl
              | cons a l ih => intro s; rw [List.foldl_cons, ih, mergeS_len]
            unfold appS
            rw [this, kU]
          have hW : ∀ v, v < (appS g x).length → W.getD ((appS g x).getD v 0).toNat 0 = W.getD v 0 := by
            rw [hSl]
            exact merge_const (u := u) (appA g x).2 _ w4 hA' (kU _ _) (fun v hv => by rw [getD_get (iotA_get hv)]; congr 1; omega)
          -- what is asked of the search
          have hRe : appR g x = (⟨(zP (appS g x) (appS g x).length : Int), consS (numS (appS g x)) (appA g x).2⟩, (numS (appS g x)).take x.vars.toNat, 0) ∧ (zP (appS g x) (appS g x).length : Int) ≤ 10 ∧ (consS (numS (appS g x)) (appA g x).2).length ≤ 24 := by
            unfold appR at hz ⊢
            split at hz
            · cases hz
            · rename_i hn
              rw [if_neg hn]
              simp only [Bool.or_eq_true, decide_eq_true_eq, not_or] at hn
              exact ⟨rfl, by omega, by omega⟩
          obtain ⟨eR, c10, c24⟩ := hRe
          rw [eR] at q1 q2 ⊢
          simp only at q1 q2 ⊢
          generalize hS : appS g x = S at *
          generalize hn : numS S = n at *
          generalize hyc : consS n (appA g x).2 = yc at *
          generalize hC : zP S S.length = C at *
          have hxS : x.vars.toNat ≤ S.length := by omega
          generalize hxv : x.vars.toNat = xv at *
          generalize hK : zP S xv = K at *
          have hKC : K ≤ C := by rw [← hK, ← hC]; exact cntF_mono S hxS
          have hfix0 : isFix S 0 = true := by
            have h0 : 0 < S.length := by omega
            obtain ⟨r0, r1, r2⟩ := rep_fix hrep h0
            have : S[0].toNat = 0 := by omega
            rw [this] at r2
            exact r2
          have hK1 : 1 ≤ K := by
            have h2 := cntF_succ S 0
            rw [if_pos hfix0] at h2
            have h3 := cntF_mono S (a := 1) (b := xv) (by omega)
            rw [hK] at h3
            rw [show zP S 0 = 0 from rfl] at h2
            rw [Nat.zero_add] at h2
            omega
          have hYl : (valY S W).length = C := by rw [valY_len, hC]
          have hWr : ∀ v, v < S.length → 0 ≤ W.getD v 0 ∧ W.getD v 0 < (u.size.toNat : Int) := fun v hv => by
            rw [getD_get (List.getElem?_eq_getElem (show v < W.length by omega))]
            exact w3 _ (List.getElem_mem _)
          have hYr : Rng u.size.toNat (valY S W) := fun z hz => by
            unfold valY at hz
            obtain ⟨a, ha, rfl⟩ := List.mem_map.1 hz
            unfold fixL at ha
            obtain ⟨v, hv, rfl⟩ := List.mem_map.1 ha
            have := List.mem_range.1 (List.mem_filter.1 hv).1
            rw [Int.toNat_natCast]
            exact hWr v this
          have hY0 : ∀ m, 0 ≤ (valY S W).getD m 0 := fun m => by
            by_cases hm : m < (valY S W).length
            · rw [getD_get (List.getElem?_eq_getElem hm)]
              exact (hYr _ (List.getElem_mem hm)).1
            · rw [List.getD_eq_getElem?_getD, List.getElem?_eq_none (by omega)]
              exact Int.le_refl _
          generalize hy : (⟨(C : Int), yc⟩ : Instance) = y at *
          have hyv : y.vars = (C : Int) := by rw [← hy]
          have hycons : y.cons = yc := by rw [← hy]
          have q1' : ∀ c ∈ y.cons, CW u y.vars c := by rw [hycons, hyv]; exact q1
          have hFX : FX u (fY K y) := fY_FX q1' ⟨by omega, by omega⟩ (by omega) (by rw [hycons]; exact c24)
          have hatoms : ∀ a ∈ (fY K y).atoms, atomS u a (valY S W) = true := fun a ha => by
            obtain ⟨c, hc, rfl⟩ := List.mem_map.1 ha
            rw [fY_atom (q1' c hc)]
            rw [hycons, ← hyc] at hc
            obtain ⟨b, hb, rfl⟩ := List.mem_map.1 hc
            obtain ⟨hb, hne⟩ := List.mem_filter.1 hb
            have hne' : b.rel ≠ -1 := by simpa using hne
            have h6 := w4 b hb
            have e : atV (valY S W) (atV n b.args) = atV W b.args := by
              unfold atV
              rw [List.map_map]
              apply List.map_congr_left
              intro v hv
              have hv2 := p3 b hb |>.2.2 v hv
              have := valY_at hrep hW (v := v.toNat) (by omega)
              rw [hn] at this
              exact this
            unfold conS
            rw [e]
            unfold atomS at h6
            rw [if_neg hne'] at h6
            exact h6
          have hYs : ∀ m, 1 ≤ m → m ≤ (valY S W).length → zI u (fY K y) ((valY S W).take m) = true := fun m h1 h2 => sure_of hG.uV hFX.a hatoms h1 h2
          have hfind := findS_some hYs hYr (C - K) K (by omega)
          obtain ⟨o, ho⟩ := Option.isSome_iff_exists.1 hfind
          obtain ⟨o1, _⟩ := findS_ext _ _ _ ho
          have htl : ((valY S W).take K).length = K := by rw [List.length_take]; omega
          rw [htl] at o1
          refine ⟨(o, 0), ?_, ?_, by show o.length ≤ 10; omega⟩
          · rw [Int.toNat_natCast, minus_loop C 0 [] (by simp only [List.length_nil]; omega), thn_nx, List.nil_append]
            have tl := (told_loop (ρ := (List Int) × Int) (ρ' := (List Int) × Int) (e6 := ([], 6)) hrep hW hxS (vals := vs) (fun k hk => by
              have := congrArg (fun l => l[k]?) w2
              simp only [List.getElem?_take] at this
              rw [if_pos (by omega)] at this
              rw [← this, List.getElem?_eq_getElem (by omega), getD_get (List.getElem?_eq_getElem _)]) hY0 xv 0 (by omega)).1
            rw [told_start, List.drop_zero, hn, hC, told_end hrep hxS, hYl, hK] at tl
            rw [tl, thn_nx]
            have hfl := fill_eq (K := K) hG.uV q1' (by omega) (by omega) (by omega) hYr K hYs (o := o) (by rw [hYl]; exact ho) K N (Nat.le_refl _) (by omega)
            rw [Nat.sub_self, List.take_zero, hYl] at hfl
            have hfl' : zR N (Template.mk u.size u.rels) y ((valY S W).take K ++ List.replicate (C - K) (-1)) [] = some (o, true) := hfl
            rw [hfl', bnd_s]
          · have hrp : zQ [-1] (C : Int) = some (List.replicate C (-1)) := by
              unfold zQ
              rw [if_pos ⟨rfl, by omega, by omega⟩, Int.toNat_natCast]
              rfl
            rw [hrp, bnd_s]
            have tl := (told_loop (ρ := (List Int) × Int) (ρ' := (List Int) × Int) (e6 := ([], 6)) hrep hW hxS (vals := vs) (fun k hk => by
              have := congrArg (fun l => l[k]?) w2
              simp only [List.getElem?_take] at this
              rw [if_pos (by omega)] at this
              rw [← this, List.getElem?_eq_getElem (by omega), getD_get (List.getElem?_eq_getElem _)]) hY0 xv 0 (by omega)).2
            rw [told_start, List.drop_zero, hn, hC, told_end hrep hxS, hYl, hK] at tl
            rw [tl, thn_nx]
            have hbeg := begin_loop (ρ := (List Int) × Int) (A := (valY S W).take K) (C - K) (fun z hz => (hYr z (List.mem_of_mem_take hz)).1) (by omega) K N (by omega) (by omega)
            rw [htl, Nat.sub_self, List.take_zero] at hbeg
            rw [hbeg, thn_nx]
            have hsf : impl_solverFor (Template.mk u.size u.rels) y = some (solS u (fY K y)) := solverFor_eq hG.uV hFX
            rw [hsf, bnd_s, first_eq hG.uV hFX (by rw [htl]; rfl) hN, bnd_s]
            have hw : witS u (fY K y) ((valY S W).take K) = some o := by
              unfold witS
              rw [if_pos, htl]
              · have : (fY K y).vars.toNat = C := by show y.vars.toNat = C; omega
                rw [this]
                exact ho
              · unfold begS
                rw [List.all_eq_true]
                intro m hm
                have := List.mem_range'_1.1 hm
                rw [htl] at this
                rw [List.take_take, Nat.min_eq_left (by omega)]
                exact hYs m (by omega) (by omega)
            rw [hw]
            rfl
    · have hb' : areB t.size vs x.vars = false := by simpa using hb
      rw [hb']
      exact ⟨([], 2), rfl, rfl, Nat.zero_le _⟩
  · have h' : askB t u g x = false := by simpa using h
    rw [h']
    exact ⟨([], 1), rfl, rfl, Nat.zero_le _⟩
end Go.Proofs.YtmgdjaiaekhkgaaGreat
