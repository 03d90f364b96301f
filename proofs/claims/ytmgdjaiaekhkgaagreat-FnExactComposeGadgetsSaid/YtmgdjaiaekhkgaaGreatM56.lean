/-
  Plain laws: ComposeGadgets, on both sides.
-/
import Derived.Test.YtmgdjaiaekhkgaaGreatM55
import Derived.Test.YtmgdjaiaekhkgaaGreatS4
namespace Go.Proofs.YtmgdjaiaekhkgaaGreat
set_option linter.unusedVariables false
set_option linter.unusedSimpArgs false
def iota (V : Int) (m : Nat) : List Int := (List.range m).map fun (i : Nat) => V + i
theorem iota_succ (V : Int) (m : Nat) : iota V (m + 1) = V :: iota (V + 1) m := by
  unfold iota
  rw [List.range_succ_eq_map, List.map_cons, List.map_map]
  simp only [Int.natCast_zero, Int.add_zero, List.cons.injEq, true_and]
  apply List.map_congr_left
  intro i _
  simp only [Function.comp]
  push_cast
  omega
theorem to_loop {ρ : Type} : ∀ (m k : Nat) (to : List Int) (V : Int), 0 ≤ V → V + m ≤ 1000000 → to.length + m ≤ 1000000 →
    forI (σ := (List Int) × Int) (ρ := ρ) (fun (k607 : Nat) (s : (List Int) × Int) =>
        match s with
        | (s597, s600) =>
        bnd (ap s597 ([s600])) fun z618 =>
        bnd (ck (s600 + 1)) fun z622 =>
        some (.go (z618, z622))) m k (to, V) = some (.nx (to ++ iota V m, V + m))
  | 0, k, to, V, _, _, _ => by simp [forI, iota]
  | m + 1, k, to, V, h0, h1, h2 => by
    rw [forI_go (s' := (to ++ [V], V + 1)) (by
      simp only [ap_eq (l := to) (m := [V]) (by simp only [List.length_cons, List.length_nil]; omega), bnd_s, ck_eq (x := V + 1) (by omega) (by omega)]), to_loop m (k + 1) _ (V + 1) (by omega) (by omega) (by rw [List.length_append, List.length_singleton]; omega), iota_succ]
    have e : V + 1 + (m : Int) = V + ((m + 1 : Nat) : Int) := by omega
    rw [e, List.append_assoc, List.singleton_append]
def mvA (g : Int → Int) (l : List Atom) : List Atom := l.map fun b => ⟨b.rel, b.args.map g⟩
theorem mv_loop {ρ : Type} {b : Nat → Atom → List Atom → Option (Ctl (List Atom) ρ)} (g : Int → Int) : ∀ (l : List Atom) (k : Nat) (s : List Atom), (∀ (j : Nat) x s, x ∈ l → s.length ≤ 1000 → b j x s = some (.go (s ++ [⟨x.rel, x.args.map g⟩]))) → s.length + l.length ≤ 1000 → forL b l k s = some (.nx (s ++ mvA g l))
  | [], _, s, _, _ => by simp [mvA, forL]
  | x :: l, k, s, h, hs => by
    rw [List.length_cons] at hs
    rw [forL_go (h k x s (by simp) (by omega)), mv_loop g l (k + 1) _ (fun j y s hy => h j y s (by simp [hy])) (by rw [List.length_append, List.length_singleton]; omega)]
    simp [mvA]
theorem Moved_eq {l : List Atom} {to : List Int} (hl : l.length ≤ 100) (h : ∀ b ∈ l, b.args.length ≤ 100 ∧ ∀ i ∈ b.args, 0 ≤ i ∧ i < to.length) : spec_l03Moved l to = some (mvA (fun i => to.getD i.toNat 0) l) := by
  unfold spec_l03Moved
  rw [mv_loop (fun i => to.getD i.toNat 0) l 0 [] (fun j x s hx hs => by
    have h1 : spec_l01Mapped x.args to = some (atV to x.args) := l01At_eq (h x hx).2 (by have := (h x hx).1; omega)
    rw [h1, bnd_s, ap_eq (by simp only [List.length_cons, List.length_nil]; omega), bnd_s]
    rfl) (by simp only [List.length_nil]; omega), thn_nx, List.nil_append]
theorem args_loop {ρ : Type} {f : Int → Option Int} (g : Int → Int) : ∀ (l : List Int) (k : Nat) (s : List Int), (∀ i ∈ l, f i = some (g i)) → s.length + l.length ≤ 1000 → forL (σ := (List Int)) (ρ := ρ) (fun (k213 : Nat) (x215 : Int) (s207 : (List Int)) =>
     bnd (f x215) fun z222 =>
     bnd (ap s207 ([z222])) fun z226 =>
     some (.go z226)) l k s = some (.nx (s ++ l.map g))
  | [], _, s, _, _ => by simp [forL]
  | x :: l, k, s, h, hs => by
    rw [List.length_cons] at hs
    rw [forL_go (s' := s ++ [g x]) (by rw [h x (by simp), bnd_s, ap_eq (by simp only [List.length_cons, List.length_nil]; omega), bnd_s]), args_loop g l (k + 1) _ (fun i hi => h i (by simp [hi])) (by rw [List.length_append, List.length_singleton]; omega)]
    simp
theorem renamed_eq {l : List Atom} {f : Int → Option Int} (g : Int → Int) (hl : l.length ≤ 100) (h : ∀ b ∈ l, b.args.length ≤ 100 ∧ ∀ i ∈ b.args, f i = some (g i)) : impl_renamed l f = some (mvA g l) := by
  unfold impl_renamed
  rw [mv_loop g l 0 [] (fun j x s hx hs => by
    rw [args_loop g x.args 0 [] (h x hx).2 (by have := (h x hx).1; simp only [List.length_nil]; omega), thn_nx, ap_eq (by simp only [List.length_cons, List.length_nil]; omega), bnd_s]
    rfl) (by simp only [List.length_nil]; omega), thn_nx, List.nil_append]
/-! ### One formula through the others -/
def stepS (h : Gadgets) (s : Int × List Atom) (a : Atom) : Int × List Atom :=
  if a.rel = -1 then (s.1, s.2 ++ [a]) else
    let k := h.formulas.getD a.rel.toNat default
    (s.1 + (k.vars - k.free), s.2 ++ mvA (fun i => (a.args ++ iota s.1 (k.vars - k.free).toNat).getD i.toNat 0) k.atoms)
theorem mvA_id (l : List Atom) : mvA (fun i => i) l = l := by
  unfold mvA
  simp
theorem iota_get {V : Int} {m j : Nat} (h : j < m) : (iota V m)[j]? = some (V + j) := by
  unfold iota
  rw [List.getElem?_map, List.getElem?_range h]
  rfl
theorem through_loop {u v : Template} {h : Gadgets} {T : Nat} (hG : GV T u v h) {n : Nat} (hu : TV T u) {ρ ρ' : Type} : ∀ (l : List Atom) (k : Nat) (V : Int) (L : List Atom), (∀ a ∈ l, AV u n a) → 0 ≤ V → V + 8 * l.length ≤ 1000 → L.length + 16 * l.length ≤ 900 → (∀ b ∈ L, b.args.length ≤ 4) →
    forL (σ := Int × (List Atom)) (ρ := ρ) (fun (k456 : Nat) (x458 : Atom) (s : Int × (List Atom)) =>
    match s with
    | (s446, s448) =>
    if (x458.rel == (-1)) then
     bnd (spec_l00Own x458.args) fun z484 =>
     bnd (ap s448 ([(Atom.mk x458.rel z484)])) fun z492 =>
     some (.go (s446, z492))
    else
     bnd (ix h.formulas x458.rel) fun z542 =>
     bnd (spec_l00Own x458.args) fun z550 =>
     thn (σ := (List Int) × Int) (
      forI (σ := (List Int) × Int) (ρ := (Ctl (Int × (List Atom)) ρ)) (fun (k607 : Nat) (s : (List Int) × Int) =>
        match s with
        | (s597, s600) =>
        bnd (ap s597 ([s600])) fun z618 =>
        bnd (ck (s600 + 1)) fun z622 =>
        some (.go (z618, z622))) (z542.vars - z542.free).toNat 0 (z550, s446)) fun (s602, s605) =>
     bnd (spec_l03Moved z542.atoms s602) fun z631 =>
     bnd (ap s448 z631) fun z636 =>
     some (.go (s605, z636))) l k (V, L) = some (.nx (l.foldl (stepS h) (V, L))) ∧
    forL (σ := Int × (List Atom)) (ρ := ρ') (fun (k259 : Nat) (x261 : Atom) (s : Int × (List Atom)) =>
    match s with
    | (s249, s251) =>
    if (x261.rel == (-1)) then
     bnd (impl_renamed ([(Atom.mk x261.rel x261.args)]) (fun a0 => impl_same a0)) fun z276 =>
     bnd (ap s251 z276) fun z281 =>
     some (.go (s249, z281))
    else
     bnd (ix h.formulas x261.rel) fun z317 =>
     bnd (ck (s249 - z317.free)) fun z328 =>
     bnd (impl_renamed z317.atoms (fun a0 => impl_composed_1 a0 (Formula.mk z317.free z317.vars z317.atoms) (Atom.mk x261.rel x261.args) z328)) fun z331 =>
     bnd (ap s251 z331) fun z336 =>
     bnd (ck (z317.vars - z317.free)) fun z365 =>
     bnd (ck (s249 + z365)) fun z367 =>
     some (.go (z367, z336))) l k (V, L) = some (.nx (l.foldl (stepS h) (V, L))) ∧
    (0 ≤ (l.foldl (stepS h) (V, L)).1 ∧ (l.foldl (stepS h) (V, L)).1 ≤ 1000 ∧ ∀ b ∈ (l.foldl (stepS h) (V, L)).2, b.args.length ≤ 4)
  | [], k, V, L, _, h0, h1, _, h2 => by
    simp only [List.length_nil] at h1
    exact ⟨rfl, rfl, h0, by simp only [List.foldl_nil]; omega, h2⟩
  | a :: l, k, V, L, hA, h0, h1, h2, h3 => by
    rw [List.length_cons] at h1 h2
    have ha := hA a (by simp)
    have hal := ha.len hu
    have hown : spec_l00Own a.args = some a.args := by
      unfold spec_l00Own
      rw [ap_eq (by simp only [List.length_nil]; omega), bnd_s, List.nil_append]
    rw [List.foldl_cons]
    by_cases e : a.rel = -1
    · have e' : (a.rel == -1) = true := by simpa using e
      have es : stepS h (V, L) a = (V, L ++ [a]) := by unfold stepS; rw [if_pos e]
      obtain ⟨i1, i2, i3⟩ := through_loop (ρ := ρ) (ρ' := ρ') hG hu l (k + 1) V (L ++ [a]) (fun b hb => hA b (by simp [hb])) h0 (by omega) (by rw [List.length_append, List.length_singleton]; omega) (fun b hb => by
        rcases List.mem_append.1 hb with hb | hb
        · exact h3 b hb
        · rw [List.mem_singleton] at hb; subst hb; exact hal.2)
      rw [es]
      refine ⟨?_, ?_, i3⟩
      · rw [forL_go (s' := (V, L ++ [a])) (by
          simp only [e', if_true, hown, bnd_s, ap_eq (l := L) (m := [Atom.mk a.rel a.args]) (by simp only [List.length_cons, List.length_nil]; omega)])]
        exact i1
      · have hr : impl_renamed [Atom.mk a.rel a.args] (fun a0 => impl_same a0) = some [a] := by
          rw [renamed_eq (fun i => i) (by simp) (fun b hb => by
            rw [List.mem_singleton] at hb
            subst hb
            exact ⟨by simp only; omega, fun i _ => rfl⟩), mvA_id]
        rw [forL_go (s' := (V, L ++ [a])) (by
          simp only [e', if_true, hr, bnd_s, ap_eq (l := L) (m := [a]) (by simp only [List.length_cons, List.length_nil]; omega)])]
        exact i2
    · have e' : (a.rel == -1) = false := by simpa using e
      obtain ⟨r, hr0, hr1, hr2, hr3⟩ : ∃ r : Rel, 0 ≤ a.rel ∧ u.rels[a.rel.toNat]? = some r ∧ r ∈ u.rels ∧ (a.args.length : Int) = r.arity := ha.2.resolve_left (fun h => e h.1)
      have hlt : a.rel.toNat < h.formulas.length := by rw [hG.n]; exact (List.getElem?_eq_some_iff.1 hr1).1
      obtain ⟨k0, hk0⟩ : ∃ k0, h.formulas[a.rel.toNat]? = some k0 := ⟨_, List.getElem?_eq_getElem hlt⟩
      have hgd : h.formulas.getD a.rel.toNat default = k0 := by rw [List.getD_eq_getElem?_getD, hk0]; rfl
      obtain ⟨f1, f2, _⟩ := hG.f _ _ hk0
      have hfree : k0.free = (a.args.length : Int) := by rw [f2, hr3, List.getD_eq_getElem?_getD, hr1]; rfl
      have fv := f1.v0
      have ff := f1.f0
      have hm : ((k0.vars - k0.free).toNat : Int) = k0.vars - k0.free := by omega
      have hTo : (a.args ++ iota V (k0.vars - k0.free).toNat).length = k0.vars.toNat := by
        rw [List.length_append, iota, List.length_map, List.length_range]; omega
      have hb4 : ∀ b ∈ k0.atoms, b.args.length ≤ 4 := fun b hb => ((f1.a b hb).len hG.uV).2
      have es : stepS h (V, L) a = (V + (k0.vars - k0.free), L ++ mvA (fun i => (a.args ++ iota V (k0.vars - k0.free).toNat).getD i.toNat 0) k0.atoms) := by
        unfold stepS
        rw [if_neg e, hgd]
      have hml : (mvA (fun i => (a.args ++ iota V (k0.vars - k0.free).toNat).getD i.toNat 0) k0.atoms).length ≤ 16 := by unfold mvA; rw [List.length_map]; exact f1.n
      obtain ⟨i1, i2, i3⟩ := through_loop (ρ := ρ) (ρ' := ρ') hG hu l (k + 1) (V + (k0.vars - k0.free)) (L ++ mvA (fun i => (a.args ++ iota V (k0.vars - k0.free).toNat).getD i.toNat 0) k0.atoms) (fun b hb => hA b (by simp [hb])) (by omega) (by omega) (by rw [List.length_append]; omega) (fun b hb => by
        rcases List.mem_append.1 hb with hb | hb
        · exact h3 b hb
        · obtain ⟨c, hc, rfl⟩ := List.mem_map.1 hb
          simp only [List.length_map]
          exact hb4 c hc)
      rw [es]
      refine ⟨?_, ?_, i3⟩
      · rw [forL_go (s' := (V + (k0.vars - k0.free), L ++ mvA (fun i => (a.args ++ iota V (k0.vars - k0.free).toNat).getD i.toNat 0) k0.atoms)) (by
          simp only [e', Bool.false_eq_true, if_false, ix_of hr0 hk0, bnd_s, hown]
          rw [to_loop (k0.vars - k0.free).toNat 0 a.args V h0 (by omega) (by omega), thn_nx]
          simp only
          rw [Moved_eq (by have := f1.n; omega) (fun b hb => ⟨by have := hb4 b hb; omega, fun i hi => by rw [hTo]; exact (f1.a b hb).1 i hi⟩), bnd_s, ap_eq (by omega), bnd_s, hm])]
        exact i1
      · have hren : impl_renamed k0.atoms (fun a0 => impl_composed_1 a0 (Formula.mk k0.free k0.vars k0.atoms) (Atom.mk a.rel a.args) (V - k0.free)) = some (mvA (fun i => (a.args ++ iota V (k0.vars - k0.free).toNat).getD i.toNat 0) k0.atoms) := by
          refine renamed_eq _ (by have := f1.n; omega) (fun b hb => ⟨by have := hb4 b hb; omega, fun i hi => ?_⟩)
          obtain ⟨q0, q1⟩ := (f1.a b hb).1 i hi
          unfold impl_composed_1
          by_cases hi2 : i < k0.free
          · have hx : a.args[i.toNat]? = some ((a.args ++ iota V (k0.vars - k0.free).toNat).getD i.toNat 0) := by
              rw [List.getD_eq_getElem?_getD, List.getElem?_append_left (by omega), List.getElem?_eq_getElem (by omega)]
              rfl
            simp only [hi2, decide_true, if_true]
            rw [ix_of q0 hx, bnd_s]
          · simp only [hi2, decide_false, Bool.false_eq_true, if_false]
            rw [ck_eq (by omega) (by omega), bnd_s, List.getD_eq_getElem?_getD, List.getElem?_append_right (by omega), iota_get (by omega)]
            simp only [Option.getD_some]
            congr 1
            omega
        rw [forL_go (s' := (V + (k0.vars - k0.free), L ++ mvA (fun i => (a.args ++ iota V (k0.vars - k0.free).toNat).getD i.toNat 0) k0.atoms)) (by
          simp only [e', Bool.false_eq_true, if_false, ix_of hr0 hk0, bnd_s, ck_eq (x := V - k0.free) (by omega) (by omega), hren]
          rw [ap_eq (by omega), bnd_s, ck_eq (by omega) (by omega), bnd_s, ck_eq (by omega) (by omega), bnd_s])]
        exact i2
end Go.Proofs.YtmgdjaiaekhkgaaGreat
