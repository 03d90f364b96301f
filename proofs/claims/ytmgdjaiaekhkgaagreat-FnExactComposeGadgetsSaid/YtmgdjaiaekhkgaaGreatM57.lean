/-
  Plain laws: ComposeGadgets, on both sides (2).
-/
import Derived.Test.YtmgdjaiaekhkgaaGreatM56
import Derived.Test.YtmgdjaiaekhkgaaGreatMG
namespace Go.Proofs.YtmgdjaiaekhkgaaGreat
set_option linter.unusedVariables false
set_option linter.unusedSimpArgs false
def limS (f : Formula) : Formula × Int := if decide (8 < f.vars) || decide (16 < (f.atoms.length : Int)) then (⟨0, 0, []⟩, 3) else (f, 0)
theorem limited_eq (f : Formula) : impl_limited f = some (limS f) := by
  unfold impl_limited limS
  by_cases h1 : 8 < f.vars
  · simp [h1]
  · by_cases h2 : 16 < (f.atoms.length : Int)
    · simp [h1, h2]
    · simp [h1, h2]
theorem Told_eq (f : Formula) : spec_l03Told f = some (limS f) := limited_eq f
def cmpF (h : Gadgets) (f : Formula) : Formula × Int := limS ⟨f.free, (f.atoms.foldl (stepS h) (f.vars, [])).1, (f.atoms.foldl (stepS h) (f.vars, [])).2⟩
theorem comp_two {T : Nat} {u v : Template} {h : Gadgets} {f : Formula} (hG : GV T u v h) (hu : TV T u) (hf : FV u f) :
    spec_l09Through f h = some ⟨f.free, (f.atoms.foldl (stepS h) (f.vars, [])).1, (f.atoms.foldl (stepS h) (f.vars, [])).2⟩ ∧ impl_composed f h = some (cmpF h f) ∧ ∀ b ∈ (cmpF h f).1.atoms, b.args.length ≤ 4 := by
  have hv := hf.v0
  have h0 := hf.f0
  have hn := hf.n
  obtain ⟨i1, i2, i3, i4, i5⟩ := through_loop (ρ := Formula) (ρ' := Formula × Int) hG hu f.atoms 0 f.vars [] hf.a (by omega) (by omega) (by simp only [List.length_nil]; omega) (by simp)
  refine ⟨?_, ?_, ?_⟩
  · unfold spec_l09Through
    rw [i1, thn_nx]
  · unfold impl_composed
    rw [i2, thn_nx]
    show bnd (impl_limited ⟨f.free, _, _⟩) _ = _
    rw [limited_eq, bnd_s]
    rfl
  · unfold cmpF limS
    split
    · simp
    · exact i5
def cmpG (h : Gadgets) : List Formula → List Formula → Gadgets × Int
  | [], acc => (⟨acc⟩, 0)
  | f :: l, acc => if (cmpF h f).2 ≠ 0 then (⟨[]⟩, (cmpF h f).2) else cmpG h l (acc ++ [(cmpF h f).1])
theorem compose_loop {T : Nat} {u v : Template} {h : Gadgets} (hG : GV T u v h) (hu : TV T u) : ∀ (l : List Formula) (k : Nat) (s : List Formula), (∀ f ∈ l, FV u f) → s.length + l.length ≤ 1000 →
    thn (forL (σ := (List Formula)) (ρ := Gadgets × Int) (fun (k126 : Nat) (x128 : Formula) (s120 : (List Formula)) =>
    bnd (spec_l09Through x128 (Gadgets.mk h.formulas)) fun z135 =>
    bnd (spec_l03Told (Formula.mk z135.free z135.vars z135.atoms)) fun z142 =>
    if (z142.2 != 0) then
     some (.ret ((Gadgets.mk ([])), z142.2))
    else
     bnd (ap s120 ([(Formula.mk z142.1.free z142.1.vars z142.1.atoms)])) fun z159 =>
     some (.go z159)) l k s) (fun s => some (Gadgets.mk s, 0)) = some (cmpG h l s) ∧
    thn (forL (σ := (List Formula)) (ρ := Gadgets × Int) (fun (k118 : Nat) (x120 : Formula) (s112 : (List Formula)) =>
    bnd (impl_composed (Formula.mk x120.free x120.vars x120.atoms) (Gadgets.mk h.formulas)) fun z133 =>
    if (z133.2 != 0) then
     some (.ret ((Gadgets.mk ([])), z133.2))
    else
     bnd (ap s112 ([(Formula.mk z133.1.free z133.1.vars z133.1.atoms)])) fun z147 =>
     some (.go z147)) l k s) (fun s => some (Gadgets.mk s, 0)) = some (cmpG h l s)
  | [], _, s, _, _ => ⟨rfl, rfl⟩
  | f :: l, k, s, hf, hs => by
    rw [List.length_cons] at hs
    obtain ⟨c1, c2, _⟩ := comp_two hG hu (hf f (by simp))
    have c1' : spec_l09Through f (Gadgets.mk h.formulas) = some ⟨f.free, (f.atoms.foldl (stepS h) (f.vars, [])).1, (f.atoms.foldl (stepS h) (f.vars, [])).2⟩ := c1
    have c2' : impl_composed (Formula.mk f.free f.vars f.atoms) (Gadgets.mk h.formulas) = some (cmpF h f) := c2
    have ct : spec_l03Told (Formula.mk f.free (f.atoms.foldl (stepS h) (f.vars, [])).1 (f.atoms.foldl (stepS h) (f.vars, [])).2) = some (cmpF h f) := Told_eq _
    unfold cmpG
    by_cases e : (cmpF h f).2 = 0
    · have e' : ((cmpF h f).2 != 0) = false := by simpa using e
      rw [if_neg (by simpa using e)]
      obtain ⟨i1, i2⟩ := compose_loop hG hu l (k + 1) (s ++ [(cmpF h f).1]) (fun g hg => hf g (by simp [hg])) (by rw [List.length_append, List.length_singleton]; omega)
      have hap : ap s [Formula.mk (cmpF h f).1.free (cmpF h f).1.vars (cmpF h f).1.atoms] = some (s ++ [(cmpF h f).1]) := ap_eq (by simp only [List.length_cons, List.length_nil]; omega)
      constructor
      · rw [forL_go (s' := s ++ [(cmpF h f).1]) (by
          simp only [c1', bnd_s, ct, e', Bool.false_eq_true, if_false, hap])]
        exact i1
      · rw [forL_go (s' := s ++ [(cmpF h f).1]) (by
          simp only [c2', bnd_s, e', Bool.false_eq_true, if_false, hap])]
        exact i2
    · have e' : ((cmpF h f).2 != 0) = true := by simpa using e
      rw [if_pos (by simpa using e)]
      constructor
      · rw [forL_rt (r := (⟨[]⟩, (cmpF h f).2)) (by
          simp only [c1', bnd_s, ct, e', if_true])]
        rfl
      · rw [forL_rt (r := (⟨[]⟩, (cmpF h f).2)) (by
          simp only [c2', bnd_s, e', if_true])]
        rfl
def compR (t u v : Template) (g h : Gadgets) : Gadgets × Int := if gadV t u g && gadV u v h then cmpG h g.formulas [] else (⟨[]⟩, 1)
theorem gadV_GV {t u : Template} {g : Gadgets} (ht : smallT t) (hu : smallT u) (h : gadV t u g = true) : GV t.size.toNat t u g := by
  unfold gadV at h
  rw [Bool.and_eq_true] at h
  exact gadF_GV ht hu h.1
theorem GV.size {T : Nat} {t u : Template} {g : Gadgets} (h : GV T t u g) : u.size.toNat = T ∧ g.formulas.length ≤ 6 ∧ ∀ f ∈ g.formulas, FV u f := by
  refine ⟨by have := h.uV.s; omega, by rw [h.n]; exact h.tV.n, fun f hf => ?_⟩
  obtain ⟨j, hj, rfl⟩ := List.getElem_of_mem hf
  exact (h.f j _ (List.getElem?_eq_getElem hj)).1
theorem ComposeGadgets_two {N : Nat} {t u v : Template} {g h : Gadgets} (ht : smallT t) (hu : smallT u) (hv : smallT v) (hN : 1100 ≤ N) : spec_ComposeGadgets N t u v g h = some (compR t u v g h) ∧ impl_ComposeGadgets N t u v g h = some (compR t u v g h) := by
  have a1 : spec_l09Ok N (Template.mk t.size t.rels) (Template.mk u.size u.rels) (Gadgets.mk g.formulas) = some (gadV t u g) := l09Ok_eq ht hu hN
  have a2 : spec_l09Ok N (Template.mk u.size u.rels) (Template.mk v.size v.rels) (Gadgets.mk h.formulas) = some (gadV u v h) := l09Ok_eq hu hv hN
  have b1 : impl_ValidGadgets N (Template.mk t.size t.rels) (Template.mk u.size u.rels) (Gadgets.mk g.formulas) = some (gadV t u g) := (ValidGadgets_two ht hu hN).2
  have b2 : impl_ValidGadgets N (Template.mk u.size u.rels) (Template.mk v.size v.rels) (Gadgets.mk h.formulas) = some (gadV u v h) := (ValidGadgets_two hu hv hN).2
  unfold spec_ComposeGadgets impl_ComposeGadgets compR
  rw [a1, b1, a2, b2]
  by_cases h1 : gadV t u g = true
  · by_cases h2 : gadV u v h = true
    · have G1 := gadV_GV ht hu h1
      have G2 := gadV_GV hu hv h2
      have hs := G1.size
      have G2' : GV t.size.toNat u v h := by rw [← hs.1]; exact G2
      obtain ⟨c1, c2⟩ := compose_loop G2' G1.uV g.formulas 0 [] hs.2.2 (by have := hs.2.1; simp only [List.length_nil]; omega)
      simp only [h1, h2, bnd_s, Bool.not_true, Bool.false_eq_true, if_false, thn_nx, Bool.and_self, if_true]
      exact ⟨c1, c2⟩
    · have h2' : gadV u v h = false := by simpa using h2
      simp [h1, h2']
  · have h1' : gadV t u g = false := by simpa using h1
    simp [h1']
/-! How many numbers -/
theorem sum_le {α : Type} (c : α → Nat) (B : Nat) : ∀ (l : List α), (∀ x ∈ l, c x ≤ B) → cntS c l ≤ B * l.length
  | [], _ => by simp [cntS]
  | x :: r, h => by
    have := sum_le c B r (fun y hy => h y (by simp [hy]))
    have := h x (by simp)
    rw [cntS_cons, List.length_cons, Nat.mul_succ]
    omega
theorem cmpG_cnt {T : Nat} {u v : Template} {h : Gadgets} (hG : GV T u v h) (hu : TV T u) : ∀ (l acc : List Formula), (∀ f ∈ l, FV u f) → cntS Formula.ecnt (cmpG h l acc).1.formulas ≤ cntS Formula.ecnt acc + 100 * l.length
  | [], acc, _ => by simp [cmpG]
  | f :: l, acc, hf => by
    unfold cmpG
    split
    · simp [cntS]
    · have ih := cmpG_cnt hG hu l (acc ++ [(cmpF h f).1]) (fun g hg => hf g (by simp [hg]))
      have hc : (cmpF h f).1.ecnt ≤ 100 := by
        have h4 := (comp_two hG hu (hf f (by simp))).2.2
        have hl : (cmpF h f).1.atoms.length ≤ 16 := by
          unfold cmpF limS
          split
          · simp
          · rename_i hn
            simp at hn
            have h5 := hn.2
            simp only
            omega
        have hs := sum_le Atom.ecnt 5 (cmpF h f).1.atoms (fun b hb => by
          have := h4 b hb
          unfold Atom.ecnt Atom.cnt
          rw [cntI]
          omega)
        unfold Formula.ecnt Formula.cnt
        have : 5 * (cmpF h f).1.atoms.length ≤ 5 * 16 := Nat.mul_le_mul_left _ hl
        omega
      have ha : cntS Formula.ecnt (acc ++ [(cmpF h f).1]) = cntS Formula.ecnt acc + (cmpF h f).1.ecnt := by
        unfold cntS
        rw [List.map_append, List.sum_append]
        simp
      rw [List.length_cons, Nat.mul_succ]
      omega
theorem compR_cnt {t u v : Template} {g h : Gadgets} (ht : smallT t) (hu : smallT u) (hv : smallT v) : (compR t u v g h).1.cnt ≤ 600 := by
  unfold compR
  split
  · rename_i hb
    rw [Bool.and_eq_true] at hb
    have G1 := gadV_GV ht hu hb.1
    have G2 := gadV_GV hu hv hb.2
    have hs := G1.size
    have G2' : GV t.size.toNat u v h := by rw [← hs.1]; exact G2
    have := cmpG_cnt G2' G1.uV g.formulas [] hs.2.2
    have h6 := hs.2.1
    unfold Gadgets.cnt
    have h7 : 100 * g.formulas.length ≤ 100 * 6 := Nat.mul_le_mul_left _ h6
    have h8 : cntS Formula.ecnt ([] : List Formula) = 0 := rfl
    omega
  · decide
end Go.Proofs.YtmgdjaiaekhkgaaGreat
