/-
  Plain laws: the search for values, on both sides.
-/
import Derived.Test.YtmgdjaiaekhkgaaGreatM51
namespace Go.Proofs.YtmgdjaiaekhkgaaGreat
set_option linter.unusedVariables false
set_option linter.unusedSimpArgs false
/-- A formula over a template. -/
structure FV (u : Template) (f : Formula) : Prop where
  f0 : 1 ≤ f.free ∧ f.free ≤ 4
  v0 : f.free ≤ f.vars ∧ f.vars ≤ 8
  n : f.atoms.length ≤ 16
  a : ∀ a ∈ f.atoms, AV u f.vars.toNat a
def sureS (u : Template) (f : Formula) (vs : List Int) : Bool := f.atoms.all fun a => !decide (mx a.args = (vs.length : Int) - 1) || atomS u a vs
theorem AV.below {u : Template} {n : Nat} {a : Atom} {vs : List Int} (h : AV u n a) (hm : mx a.args = (vs.length : Int) - 1) : ∀ i ∈ a.args, i < vs.length := fun i hi => by
  have := (mx_le (l := a.args) (s := 0)).2 i hi
  unfold mx at hm
  omega
theorem sure_eq {T : Nat} {u : Template} {f : Formula} {vs : List Int} (hu : TV T u) (hf : FV u f) (hl : 1 ≤ vs.length ∧ vs.length ≤ 1000) : spec_l03Sure u f vs = some (sureS u f vs) := by
  unfold spec_l03Sure
  rw [ck_eq (by omega) (by omega), bnd_s]
  rw [forL_all (fun a => !decide (mx a.args = (vs.length : Int) - 1) || atomS u a vs) (fun j a ha => by
    have hm := hf.a a (List.mem_of_getElem? ha)
    simp only
    rw [top_loop, thn_nx]
    change thn (if (mx a.args == (vs.length : Int) - 1) then _ else _) _ = _
    by_cases h : mx a.args = (vs.length : Int) - 1
    · have h1 : (mx a.args == (vs.length : Int) - 1) = true := by simpa using h
      rw [h1, if_pos rfl, (atom_two (N := 1002) hu hm (hm.below h) (Nat.le_refl _)).1, bnd_s, thn_nx, decide_eq_true h]
      cases atomS u a vs <;> rfl
    · have h1 : (mx a.args == (vs.length : Int) - 1) = false := by simpa using h
      rw [h1, if_neg (by simp), thn_nx, decide_eq_false h]
      rfl)]
  rfl
/-! ### The solver -/
def dueS (V : Nat) (atoms : List Atom) : List (List Atom) := (List.range V).map fun (j : Nat) => atoms.filter fun a => decide (mx a.args = (j : Int))
theorem due_loop {ρ : Type} {u : Template} {V : Nat} {T : Nat} (hu : TV T u) (hV : 1 ≤ V) : ∀ (l p : List Atom) (k : Nat), (∀ a ∈ l, AV u V a) → p.length + l.length ≤ 100 →
    forL (σ := List (List Atom)) (ρ := ρ) (fun (k : Nat) (a : Atom) (s : List (List Atom)) =>
   bnd (slices_Max_s_int64_int64 a.args) fun m =>
   bnd (ix s m) fun y =>
   bnd (ap y [a]) fun u =>
   some (.go (s.set m.toNat u))) l k (dueS V p) = some (.nx (dueS V (p ++ l)))
  | [], p, _, _, _ => by simp [forL]
  | a :: l, p, k, h, hl => by
    have ha := h a (by simp)
    have hal := ha.len hu
    have hm := mx_lt ha.1 (by omega)
    rw [List.length_cons] at hl
    have hlt : (mx a.args).toNat < V := by omega
    have hy : (dueS V p)[(mx a.args).toNat]? = some (p.filter fun b => decide (mx b.args = mx a.args)) := by
      unfold dueS
      rw [List.getElem?_map, List.getElem?_range hlt, Option.map_some, Int.toNat_of_nonneg hm.1]
    have hyl : (p.filter fun b => decide (mx b.args = mx a.args)).length ≤ p.length := List.length_filter_le _ _
    rw [forL_go (s' := dueS V (p ++ [a])) (by
      rw [Max_eq (fun i hi => (ha.1 i hi).1) hal.1, bnd_s, ix_of hm.1 hy, bnd_s, ap_eq (by simp only [List.length_cons, List.length_nil]; omega), bnd_s]
      congr 2
      apply List.ext_getElem?
      intro j
      unfold dueS
      by_cases hj : j < V
      · rw [List.getElem?_set]
        by_cases e : (mx a.args).toNat = j
        · rw [if_pos e, if_pos (by simpa using hlt), List.getElem?_map, List.getElem?_range hj, Option.map_some]
          have e2 : mx a.args = (j : Int) := by omega
          rw [List.filter_append, List.filter_cons, if_pos (by simpa using e2), e2]
          rfl
        · rw [if_neg e, List.getElem?_map, List.getElem?_map, List.getElem?_range hj, Option.map_some, Option.map_some]
          have e2 : ¬ mx a.args = (j : Int) := by omega
          rw [List.filter_append, List.filter_cons, if_neg (by simpa using e2), List.filter_nil, List.append_nil]
      · rw [List.getElem?_eq_none (by simp; omega), List.getElem?_eq_none (by simp; omega)])]
    rw [due_loop hu hV l (p ++ [a]) (k + 1) (fun b hb => h b (by simp [hb])) (by rw [List.length_append, List.length_singleton]; omega)]
    simp
def solS (u : Template) (f : Formula) : solver := ⟨u, f.vars, dueS f.vars.toNat f.atoms⟩
theorem solverOf_eq {T : Nat} {u : Template} {f : Formula} (hu : TV T u) (hf : FV u f) : impl_solverOf u f.vars f.atoms = some (solS u f) := by
  have h1 := hf.f0
  have h2 := hf.v0
  unfold impl_solverOf
  have hz : mkz ([] : List Atom) f.vars = some (dueS f.vars.toNat []) := by
    unfold mkz
    rw [if_pos ⟨by omega, by omega⟩]
    congr 1
    unfold dueS
    apply List.ext_getElem?
    intro j
    by_cases hj : j < f.vars.toNat
    · rw [List.getElem?_map, List.getElem?_range hj, List.getElem?_replicate, if_pos hj]
      rfl
    · rw [List.getElem?_eq_none (by simp; omega), List.getElem?_eq_none (by simp; omega)]
  rw [hz, bnd_s, due_loop hu (by omega) f.atoms [] 0 hf.a (by have := hf.n; simp only [List.length_nil]; omega), thn_nx]
  rfl
theorem containsA_eq (l : List Atom) (p : Atom → Bool) (f : Atom → Option Bool) (hf : ∀ x ∈ l, f x = some (p x)) : slices_ContainsFunc_s_Atom_Atom l f = some (l.any p) := by
  obtain ⟨i, h1, h2⟩ := forL_idx l p f hf
  unfold slices_ContainsFunc_s_Atom_Atom slices_IndexFunc_s_Atom_Atom
  rw [h1, bnd_s, h2]
theorem goes_eq {T N : Nat} {u : Template} {f : Formula} {vs : List Int} (hu : TV T u) (hf : FV u f) (hN : 1002 ≤ N) (hl : 1 ≤ vs.length ∧ (vs.length : Int) ≤ f.vars) : impl_solver_goes N (solS u f) vs = some (sureS u f vs) := by
  have h2 := hf.v0
  have e : (vs.length : Int) - 1 = ((vs.length - 1 : Nat) : Int) := by omega
  have hd : (solS u f).due[vs.length - 1]? = some (f.atoms.filter fun a => decide (mx a.args = ((vs.length - 1 : Nat) : Int))) := by
    show (dueS f.vars.toNat f.atoms)[vs.length - 1]? = _
    unfold dueS
    rw [List.getElem?_map, List.getElem?_range (by omega)]
    rfl
  unfold impl_solver_goes
  rw [ck_eq (by omega) (by omega), bnd_s, e, ix_nat hd, bnd_s]
  rw [containsA_eq _ (fun a => !atomS u a vs) _ (fun a ha => by
    obtain ⟨h3, h4⟩ := List.mem_filter.1 ha
    have h5 : mx a.args = ((vs.length - 1 : Nat) : Int) := by simpa using h4
    have hm := hf.a a h3
    unfold impl_solver_goes_1
    have := (atom_two hu hm (vs := vs) (hm.below (h5.trans e.symm)) hN).2
    change bnd (impl_Template_holds N u a vs) _ = _
    rw [this, bnd_s]), bnd_s]
  unfold sureS
  rw [e]
  congr 1
  induction f.atoms with
  | nil => rfl
  | cons a l ih =>
    by_cases h : mx a.args = ((vs.length - 1 : Nat) : Int)
    · rw [List.filter_cons, if_pos (by simpa using h), List.any_cons, List.all_cons, ← ih, decide_eq_true h]
      cases atomS u a vs <;> simp
    · rw [List.filter_cons, if_neg (by simpa using h), List.all_cons, ← ih, decide_eq_false h]
      simp
/-! ### The search -/
def findS (u : Template) (f : Formula) : Nat → List Int → Option (List Int)
  | 0, vs => some vs
  | d + 1, vs => (List.range' 0 u.size.toNat).findSome? fun (a : Nat) => if sureS u f (vs ++ [(a : Int)]) then findS u f d (vs ++ [(a : Int)]) else none
theorem search_eq {T : Nat} {u : Template} {f : Formula} (hu : TV T u) (hf : FV u f) : ∀ (d N : Nat) (vs : List Int), (vs.length : Int) + d = f.vars → d + 1 ≤ N → spec_l03Search N u f vs = some ((findS u f d vs).getD [], (findS u f d vs).isSome)
  | 0, N, vs, hd, hN => by
    obtain ⟨M, rfl⟩ : ∃ M, N = M + 1 := ⟨N - 1, by omega⟩
    rw [spec_l03Search, if_pos (by simp; omega)]
    rfl
  | d + 1, N, vs, hd, hN => by
    obtain ⟨M, rfl⟩ : ∃ M, N = M + 1 := ⟨N - 1, by omega⟩
    have h2 := hf.v0
    have ih := search_eq hu hf d M
    rw [spec_l03Search, if_neg (by simp; omega)]
    have hq := forI_find (σ := Unit) (ρ := List Int × Bool) (s := ()) (k := 0) (m := u.size.toNat) (b := fun (k56 : Nat) (s : Unit) =>
      match s with
      | _ =>
      bnd (spec_l00Own vs) fun z65 =>
      bnd (ap z65 ([(k56 : Int)])) fun z72 =>
      bnd (spec_l03Sure u f z72) fun z76 =>
      if (!z76) then
       some (.go ())
      else
       bnd (spec_l03Search M u f z72) fun z86 =>
       if z86.2 then
        some (.ret (z86.1, true))
       else
        some (.go ())) (fun (a : Nat) => (if sureS u f (vs ++ [(a : Int)]) then findS u f d (vs ++ [(a : Int)]) else none).map fun o => (o, true)) (fun a _ _ => by
      simp only
      unfold spec_l00Own
      rw [ap_eq (by simp only [List.length_nil]; omega), bnd_s, bnd_s, ap_eq (by simp only [List.length_append, List.length_cons, List.length_nil]; omega), bnd_s, List.nil_append]
      have hl : (vs ++ [(a : Int)]).length = vs.length + 1 := by simp
      rw [sure_eq hu hf (by rw [hl]; omega), bnd_s]
      by_cases hs : sureS u f (vs ++ [(a : Int)]) = true
      · rw [hs, if_neg (by simp), if_pos rfl, ih _ (by rw [hl]; push_cast; omega) (by omega), bnd_s]
        cases findS u f d (vs ++ [(a : Int)]) <;> rfl
      · have hs' : sureS u f (vs ++ [(a : Int)]) = false := by simpa using hs
        rw [hs', if_pos (by rfl), if_neg (by simp)]
        rfl)
    rw [hq]
    have hmap : ∀ (l : List Nat), l.findSome? (fun (a : Nat) => (if sureS u f (vs ++ [(a : Int)]) then findS u f d (vs ++ [(a : Int)]) else none).map fun o => (o, true)) = (l.findSome? (fun (a : Nat) => if sureS u f (vs ++ [(a : Int)]) then findS u f d (vs ++ [(a : Int)]) else none)).map fun o => (o, true) := fun l => by
      induction l with
      | nil => rfl
      | cons a l ih2 =>
        rw [List.findSome?_cons, List.findSome?_cons, ih2]
        cases (if sureS u f (vs ++ [(a : Int)]) then findS u f d (vs ++ [(a : Int)]) else none) <;> rfl
    rw [hmap]
    rw [show findS u f (d + 1) vs = (List.range' 0 u.size.toNat).findSome? (fun (a : Nat) => if sureS u f (vs ++ [(a : Int)]) then findS u f d (vs ++ [(a : Int)]) else none) from rfl]
    cases (List.range' 0 u.size.toNat).findSome? (fun (a : Nat) => if sureS u f (vs ++ [(a : Int)]) then findS u f d (vs ++ [(a : Int)]) else none) <;> rfl
theorem walk_eq {T : Nat} {u : Template} {f : Formula} (hu : TV T u) (hf : FV u f) : ∀ (d N : Nat) (vs st : List Int), (vs.length : Int) + d = f.vars → d + 1003 ≤ N → solver_walk (fun a _ => some (false, a)) N (solS u f) vs st = some (!(findS u f d vs).isSome, (findS u f d vs).getD st)
  | 0, N, vs, st, hd, hN => by
    obtain ⟨M, rfl⟩ : ∃ M, N = M + 1 := ⟨N - 1, by omega⟩
    have h2 := hf.v0
    rw [solver_walk, if_pos (by show ((vs.length : Int) == f.vars) = true; simp; omega)]
    unfold slices_Clone_s_int64_int64
    rw [ap_eq (by simp only [List.length_nil]; omega), bnd_s, bnd_s, List.nil_append]
    rfl
  | d + 1, N, vs, st, hd, hN => by
    obtain ⟨M, rfl⟩ : ∃ M, N = M + 1 := ⟨N - 1, by omega⟩
    have h2 := hf.v0
    have ih := walk_eq hu hf d M
    rw [solver_walk, if_neg (by show ¬ ((vs.length : Int) == f.vars) = true; simp; omega)]
    have hq := forI_find (σ := List Int) (ρ := Bool × List Int) (s := st) (k := 0) (m := u.size.toNat) (b := fun (k60 : Nat) (s : List Int) =>
      bnd (slices_Clip_s_int64_int64 vs) fun z66 =>
      bnd (ap z66 ([(k60 : Int)])) fun z73 =>
      bnd (impl_solver_goes M (solS u f) z73) fun z86 =>
      if z86 then bnd (solver_walk (fun a _ => some (false, a)) M (solS u f) z73 s) fun z89 =>
        if z89.1 then some (.go z89.2) else some (.ret (false, z89.2))
      else some (.go s)) (fun (a : Nat) => (if sureS u f (vs ++ [(a : Int)]) then findS u f d (vs ++ [(a : Int)]) else none).map fun o => (false, o)) (fun a _ _ => by
      unfold slices_Clip_s_int64_int64
      rw [bnd_s, ap_eq (by simp only [List.length_cons, List.length_nil]; omega), bnd_s]
      have hl : (vs ++ [(a : Int)]).length = vs.length + 1 := by simp
      rw [goes_eq hu hf (by omega) (by rw [hl]; omega), bnd_s]
      by_cases hs : sureS u f (vs ++ [(a : Int)]) = true
      · rw [hs, if_pos rfl, if_pos rfl, ih _ _ (by rw [hl]; push_cast; omega) (by omega), bnd_s]
        cases findS u f d (vs ++ [(a : Int)]) <;> rfl
      · have hs' : sureS u f (vs ++ [(a : Int)]) = false := by simpa using hs
        rw [hs', if_neg (by simp), if_neg (by simp)]
        rfl)
    show thn (forI _ u.size.toNat 0 st) _ = _
    rw [hq]
    have hmap : ∀ (l : List Nat), l.findSome? (fun (a : Nat) => (if sureS u f (vs ++ [(a : Int)]) then findS u f d (vs ++ [(a : Int)]) else none).map fun o => (false, o)) = (l.findSome? (fun (a : Nat) => if sureS u f (vs ++ [(a : Int)]) then findS u f d (vs ++ [(a : Int)]) else none)).map fun o => (false, o) := fun l => by
      induction l with
      | nil => rfl
      | cons a l ih2 =>
        rw [List.findSome?_cons, List.findSome?_cons, ih2]
        cases (if sureS u f (vs ++ [(a : Int)]) then findS u f d (vs ++ [(a : Int)]) else none) <;> rfl
    rw [hmap]
    rw [show findS u f (d + 1) vs = (List.range' 0 u.size.toNat).findSome? (fun (a : Nat) => if sureS u f (vs ++ [(a : Int)]) then findS u f d (vs ++ [(a : Int)]) else none) from rfl]
    cases (List.range' 0 u.size.toNat).findSome? (fun (a : Nat) => if sureS u f (vs ++ [(a : Int)]) then findS u f d (vs ++ [(a : Int)]) else none) <;> rfl
/-! ### A tuple that is given -/
def begS (u : Template) (f : Formula) (tp : List Int) : Bool := (List.range' 1 tp.length).all fun n => sureS u f (tp.take n)
def witS (u : Template) (f : Formula) (tp : List Int) : Option (List Int) := if begS u f tp then findS u f (f.vars.toNat - tp.length) tp else none
theorem sl_take {tp : List Int} {n : Nat} (h : n ≤ tp.length) : sl tp 0 (n : Int) = some (tp.take n) := by
  unfold sl
  rw [if_pos ⟨by omega, by omega, by omega⟩]
  simp
theorem wit_loop {T : Nat} {u : Template} {f : Formula} (hu : TV T u) (hf : FV u f) {tp : List Int} (hl : (tp.length : Int) ≤ f.vars) : ∀ (m n N : Nat), 1 ≤ n → n + m = tp.length + 1 → m + 1 ≤ N →
    whl (σ := Int) (ρ := (List Int) × Bool) (fun (s32 : Int) =>
   if (decide (s32 ≤ (tp.length : Int))) then
    bnd (sl tp 0 s32) fun z44 =>
    bnd (spec_l03Sure u f z44) fun z48 =>
    if (!z48) then
     some (.ret ([], false))
    else
     bnd (ck (s32 + 1)) fun z53 =>
     some (.go z53)
   else
    some (.brk s32)) N (n : Int) = some (if (List.range' n m).all (fun n => sureS u f (tp.take n)) then .nx ((tp.length : Int) + 1) else .ret ([], false))
  | 0, n, N, h1, h2, h3 => by
    obtain ⟨M, rfl⟩ : ∃ M, N = M + 1 := ⟨N - 1, by omega⟩
    rw [whl_brk (s' := (n : Int)) (by rw [if_neg (by simp; omega)])]
    have : (n : Int) = (tp.length : Int) + 1 := by omega
    rw [this]
    rfl
  | m + 1, n, N, h1, h2, h3 => by
    obtain ⟨M, rfl⟩ : ∃ M, N = M + 1 := ⟨N - 1, by omega⟩
    have hv := hf.v0
    have hsl := sl_take (tp := tp) (n := n) (by omega)
    have hlen : (tp.take n).length = n := by rw [List.length_take]; omega
    have hs := sure_eq hu hf (vs := tp.take n) (by rw [hlen]; omega)
    rw [List.range'_succ, List.all_cons]
    by_cases h : sureS u f (tp.take n) = true
    · rw [whl_go (s' := ((n + 1 : Nat) : Int)) (by
        rw [if_pos (by simp; omega), hsl, bnd_s, hs, bnd_s, h, if_neg (by simp), ck_eq (by omega) (by omega), bnd_s]
        rfl), wit_loop hu hf hl m (n + 1) M (by omega) (by omega) (by omega), h, Bool.true_and]
    · have h' : sureS u f (tp.take n) = false := by simpa using h
      rw [whl_rt (r := ([], false)) (by rw [if_pos (by simp; omega), hsl, bnd_s, hs, bnd_s, h', if_pos (by rfl)]), h', Bool.false_and, if_neg (by simp)]
theorem Witness_eq {T N : Nat} {u : Template} {f : Formula} (hu : TV T u) (hf : FV u f) {tp : List Int} (hl : (tp.length : Int) = f.free) (hN : 20 ≤ N) : spec_l03Witness N u f tp = some ((witS u f tp).getD [], (witS u f tp).isSome) := by
  have h1 := hf.f0
  have h2 := hf.v0
  unfold spec_l03Witness
  have := wit_loop hu hf (tp := tp) (by omega) tp.length 1 N (by omega) (by omega) (by omega)
  rw [show ((1 : Nat) : Int) = 1 from rfl] at this
  rw [this]
  unfold witS begS
  by_cases h : (List.range' 1 tp.length).all (fun n => sureS u f (tp.take n)) = true
  · rw [if_pos h, if_pos h, thn_nx]
    unfold spec_l00Own
    rw [ap_eq (by simp only [List.length_nil]; omega), bnd_s, bnd_s, List.nil_append, search_eq hu hf (f.vars.toNat - tp.length) N tp (by omega) (by omega), bnd_s]
  · rw [if_neg h, if_neg h, thn_ret]
    rfl
theorem first_eq {T N : Nat} {u : Template} {f : Formula} (hu : TV T u) (hf : FV u f) {tp : List Int} (hl : (tp.length : Int) = f.free) (hN : 1100 ≤ N) : impl_solver_first N (solS u f) tp = some ((witS u f tp).getD [], (witS u f tp).isSome) := by
  have h1 := hf.f0
  have h2 := hf.v0
  unfold impl_solver_first
  rw [forL_fnd (ρ := List Int × Bool) (fun k _ => if sureS u f (tp.take (k + 1)) then none else some ([], false)) (fun j x hj => by
    have hjl := (List.getElem?_eq_some_iff.1 hj).1
    have hsl := sl_take (tp := tp) (n := j + 1) (by omega)
    have hlen : (tp.take (j + 1)).length = j + 1 := by rw [List.length_take]; omega
    simp only [Nat.zero_add]
    rw [ck_eq (by omega) (by omega), bnd_s, show (j : Int) + 1 = ((j + 1 : Nat) : Int) by omega, hsl, bnd_s, goes_eq hu hf (by omega) (by rw [hlen]; omega), bnd_s]
    by_cases h : sureS u f (tp.take (j + 1)) = true
    · rw [h]; rfl
    · have h' : sureS u f (tp.take (j + 1)) = false := by simpa using h
      rw [h']; rfl)]
  have key : ∀ (l : List Int) (k : Nat), fnd (fun k (_ : Int) => if sureS u f (tp.take (k + 1)) then (none : Option (List Int × Bool)) else some ([], false)) l k = if (List.range' (k + 1) l.length).all (fun n => sureS u f (tp.take n)) then none else some ([], false) := by
    intro l
    induction l with
    | nil => intro k; rfl
    | cons x l ih =>
      intro k
      unfold fnd
      rw [List.length_cons, List.range'_succ, List.all_cons]
      by_cases h : sureS u f (tp.take (k + 1)) = true
      · simp only [h, if_true, Bool.true_and]
        exact ih (k + 1)
      · have h' : sureS u f (tp.take (k + 1)) = false := by simpa using h
        simp [h']
  rw [key tp 0]
  unfold witS begS
  by_cases h : (List.range' 1 tp.length).all (fun n => sureS u f (tp.take n)) = true
  · rw [if_pos h, if_pos h]
    show bnd _ _ = _
    rw [walk_eq hu hf (f.vars.toNat - tp.length) N tp [] (by omega) (by omega), bnd_s]
    simp
  · rw [if_neg h, if_neg h]
    rfl
end Go.Proofs.YtmgdjaiaekhkgaaGreat
