/-
  Plain law: the texts of formulas and gadgets.
-/
import Derived.Test.YtbgkhipclkhlcaaGreatDoorMS
import Derived.Test.YtbgkhipclkhlcaaGreatDoorS2
namespace Go.Proofs.YtbgkhipclkhlcaaGreatDoor
set_option linter.unusedVariables false
set_option linter.unusedSimpArgs false

/-- Atoms and formulas that are written. -/
def atomW (v : Int) (a : Atom) : Bool := (decide (-1 ≤ a.rel) && decide (a.rel ≤ 5)) && (decide (1 ≤ (a.args.length : Int)) && decide ((a.args.length : Int) ≤ 4)) && a.args.all fun x => decide (0 ≤ x) && decide (x ≤ v - 1)
def formW (f : Formula) : Bool := (decide (1 ≤ f.free) && decide (f.free ≤ 4)) && (decide (f.free ≤ f.vars) && decide (f.vars ≤ 8)) && decide ((f.atoms.length : Int) ≤ 16) && f.atoms.all (atomW f.vars)
theorem containsA (l : List Atom) (p : Atom → Bool) (f : Atom → Option Bool) (hf : ∀ x ∈ l, f x = some (p x)) : slices_ContainsFunc_s_Atom_Atom l f = some (l.any p) := by
  obtain ⟨i, h1, h2⟩ := forL_idx l p f hf
  have h3 : slices_IndexFunc_s_Atom_Atom l f = some i := h1
  unfold slices_ContainsFunc_s_Atom_Atom
  rw [h3, bnd_s, h2]
theorem isWritten_eq (f : Formula) : impl_isWritten f = some (formW f) := by
  unfold impl_isWritten impl_isFrame impl_isArity formW
  rw [within_b, within_b, bnd_s, bnd_s, bnd_s]
  cases h1 : (decide (1 ≤ f.free) && decide (f.free ≤ 4)) with
  | false => rfl
  | true =>
    rw [if_pos rfl]
    cases h2 : (decide (f.free ≤ f.vars) && decide (f.vars ≤ 8)) with
    | false => rfl
    | true =>
      rw [if_pos rfl, thn_nx, bnd_s]
      cases h3 : decide ((f.atoms.length : Int) ≤ 16) with
      | false => rfl
      | true =>
        simp only [Bool.and_eq_true, decide_eq_true_eq] at h1 h2
        rw [if_pos rfl, containsA f.atoms (fun a => !atomW f.vars a) _ (fun a _ => by
          unfold impl_isWritten_1 impl_isAtom impl_isArity atomW
          dsimp only
          rw [within_b, bnd_s, within_b, bnd_s, areValues_b _ _ _ (by omega)]
          cases (decide (-1 ≤ a.rel) && decide (a.rel ≤ 5)) with
          | false => rfl
          | true =>
            cases (decide (1 ≤ (a.args.length : Int)) && decide ((a.args.length : Int) ≤ 4)) with
            | false => rfl
            | true => simp), bnd_s, thn_nx, any_not']
        simp
theorem Places_eq {v : Int} (hv : 1 ≤ v ∧ v ≤ 1000000) (l : List Int) : spec_l01Places l v = some (l.all fun x => decide (0 ≤ x) && decide (x ≤ v - 1)) := by
  unfold spec_l01Places
  rw [forL_fnd (fun _ x => if (!(decide (0 ≤ x) && decide (x ≤ v - 1))) then some false else none) (fun j x _ => by
    rw [ck_eq (by omega) (by omega), bnd_s, in_b, bnd_s]
    cases (decide (0 ≤ x) && decide (x ≤ v - 1)) <;> rfl), fnd_any, any_not']
  cases (l.all fun x => decide (0 ≤ x) && decide (x ≤ v - 1)) <;> rfl
theorem Shown_eq (f : Formula) : spec_l03Shown f = some (formW f) := by
  unfold spec_l03Shown spec_l03Counts spec_l01Arity formW
  rw [in_b, in_b, bnd_s, bnd_s, bnd_s]
  cases h1 : (decide (1 ≤ f.free) && decide (f.free ≤ 4)) with
  | false => rfl
  | true =>
    rw [if_pos rfl]
    cases h2 : (decide (f.free ≤ f.vars) && decide (f.vars ≤ 8)) with
    | false => rfl
    | true =>
      rw [if_pos rfl, thn_nx, bnd_s]
      cases h3 : decide ((f.atoms.length : Int) ≤ 16) with
      | false => rfl
      | true =>
        simp only [Bool.and_eq_true, decide_eq_true_eq] at h1 h2
        rw [if_neg (by simp), forL_fnd (fun _ a => if (!atomW f.vars a) then some false else none) (fun j a _ => by
          rw [in_b, bnd_s, in_b, bnd_s, Places_eq (by omega)]
          unfold atomW
          cases (decide (-1 ≤ a.rel) && decide (a.rel ≤ 5)) with
          | false => rfl
          | true =>
            cases (decide (1 ≤ (a.args.length : Int)) && decide ((a.args.length : Int) ≤ 4)) with
            | false => rfl
            | true => cases (a.args.all fun x => decide (0 ≤ x) && decide (x ≤ f.vars - 1)) <;> rfl), fnd_any, any_not']
        cases f.atoms.all (atomW f.vars) <;> rfl
/-- The texts. -/
def digT (l : List Int) : List UInt8 := (l.map num).flatten
def relT (a : Atom) : List UInt8 := if a.rel = -1 then [61] else 82 :: num a.rel
def atomT (a : Atom) : List UInt8 := relT a ++ 58 :: digT a.args
def formT (f : Formula) : List UInt8 := [102, 111, 114, 109, 117, 108, 97] ++ 32 :: num f.free ++ 32 :: num f.vars ++ (f.atoms.map fun a => 32 :: atomT a).flatten
theorem atomW_spec {v : Int} {a : Atom} (hv : v ≤ 8) (h : atomW v a = true) : -1 ≤ a.rel ∧ a.rel ≤ 5 ∧ a.args.length ≤ 4 ∧ ∀ x ∈ a.args, 0 ≤ x ∧ x ≤ 9 := by
  unfold atomW at h
  simp only [Bool.and_eq_true, decide_eq_true_eq, List.all_eq_true] at h
  exact ⟨h.1.1.1, h.1.1.2, by omega, fun x hx => ⟨(h.2 x hx).1, by have := (h.2 x hx).2; omega⟩⟩
theorem formW_spec {f : Formula} (h : formW f = true) : 0 ≤ f.free ∧ f.free ≤ 4 ∧ 0 ≤ f.vars ∧ f.vars ≤ 8 ∧ f.atoms.length ≤ 16 ∧ ∀ a ∈ f.atoms, atomW f.vars a = true := by
  unfold formW at h
  simp only [Bool.and_eq_true, decide_eq_true_eq, List.all_eq_true] at h
  obtain ⟨⟨⟨⟨h1, h2⟩, h3, h4⟩, h5⟩, h6⟩ := h
  exact ⟨by omega, h2, by omega, h4, by omega, h6⟩
theorem digT_len {l : List Int} (h : ∀ x ∈ l, 0 ≤ x ∧ x ≤ 9) : (digT l).length ≤ 21 * l.length := flat_len num 21 l (fun x hx => num_len (by have := h x hx; omega))
theorem relT_len {a : Atom} (h : a.rel ≤ 5) : (relT a).length ≤ 22 := by
  unfold relT
  split
  · decide
  · have := num_len (n := a.rel) (by omega)
    rw [List.length_cons]
    omega
theorem atomT_len {v : Int} {a : Atom} (hv : v ≤ 8) (h : atomW v a = true) : (atomT a).length ≤ 107 := by
  obtain ⟨h1, h2, h3, h4⟩ := atomW_spec hv h
  have := relT_len h2
  have := digT_len h4
  unfold atomT
  rw [List.length_append, List.length_cons]
  omega
theorem formT_len {f : Formula} (h : formW f = true) : (formT f).length ≤ 2000 := by
  obtain ⟨h1, h2, h3, h4, h5, h6⟩ := formW_spec h
  have n1 := num_len (n := f.free) (by omega)
  have n2 := num_len (n := f.vars) (by omega)
  have n3 := flat_len (fun a => 32 :: atomT a) 108 f.atoms (fun a ha => by have := atomT_len h4 (h6 a ha); rw [List.length_cons]; omega)
  unfold formT
  simp only [List.length_append, List.length_cons, List.length_nil]
  omega
theorem digits_eq {l : List Int} (h : ∀ x ∈ l, 0 ≤ x ∧ x ≤ 9) (hl : l.length ≤ 4) : impl_digits l = some (bstr (digT l)) := by
  unfold impl_digits
  rw [forL_text num 21 1000000 (s := []) (fun x hx => num_len (by have := h x hx; omega)) (by simp only [List.length_nil]; omega) (fun j x s hx hs => by
    have := num_len (n := x) (by have := h x hx; omega)
    rw [dec_num (h x hx).1, bnd_s, scat_b (by omega), bnd_s]), thn_nx]
  rfl
theorem FormulaText_impl (f : Formula) : impl_FormulaText f = some (bstr (if formW f then formT f else [])) := by
  unfold impl_FormulaText
  rw [show (Formula.mk f.free f.vars f.atoms) = f from rfl, isWritten_eq, bnd_s]
  cases h : formW f with
  | false => rfl
  | true =>
    obtain ⟨h1, h2, h3, h4, h5, h6⟩ := formW_spec h
    have n1 := num_len (n := f.free) (by omega)
    have n2 := num_len (n := f.vars) (by omega)
    rw [if_neg (by simp), dec_num h1, bnd_s, dec_num h3, bnd_s, forL_texts atomT (by simp only [List.length_cons, List.length_nil]; omega) (fun j a s ha hs => by
      obtain ⟨g1, g2, g3, g4⟩ := atomW_spec h4 (h6 a ha)
      have gd := digT_len g4
      have gr := relT_len g2
      have e : thn (σ := ByteArray) (if (a.rel != (-1)) then
          bnd (impl_dec a.rel) fun z165 =>
          bnd (scat (bstr [82]) z165) fun z169 =>
          some (.nx z169)
         else
          some (.nx (bstr [61]))) (fun s162 =>
        bnd (scat s162 (bstr [58])) fun z171 =>
        bnd (impl_digits a.args) fun z173 =>
        bnd (scat z171 z173) fun z177 =>
        bnd (ap s ([z177])) fun z186 =>
        some (Ctl.go (ρ := ByteArray) z186)) = some (.go (s ++ [bstr (atomT a)])) := by
        have e1 : (if (a.rel != (-1)) then
          bnd (impl_dec a.rel) fun z165 =>
          bnd (scat (bstr [82]) z165) fun z169 =>
          some (.nx z169)
         else
          some (.nx (bstr [61]))) = some (Out.nx (ρ := Ctl (List ByteArray) ByteArray) (bstr (relT a))) := by
          unfold relT
          by_cases hr : a.rel = -1
          · rw [if_neg (by simp [hr]), if_pos hr]
          · have := num_len (n := a.rel) (by omega)
            rw [if_pos (by simpa using hr), if_neg hr, dec_num (by omega), bnd_s, scat_b (by simp only [List.length_cons, List.length_nil]; omega), bnd_s]
            rfl
        rw [e1, thn_nx, scat_b (by simp only [List.length_cons, List.length_nil]; omega), bnd_s, digits_eq g4 g3, bnd_s, scat_b (by simp only [List.length_append, List.length_cons, List.length_nil]; omega), bnd_s,
          ap_eq (by simp only [List.length_cons, List.length_nil]; omega), bnd_s]
        unfold atomT
        simp
      exact e), thn_nx]
    have ej := Join_b [102, 111, 114, 109, 117, 108, 97] (num f.free :: num f.vars :: f.atoms.map atomT) [32] 107 (fun y hy => by
      rcases List.mem_cons.1 hy with rfl | hy
      · omega
      · rcases List.mem_cons.1 hy with rfl | hy
        · omega
        · obtain ⟨a, ha, rfl⟩ := List.mem_map.1 hy
          exact atomT_len h4 (h6 a ha)) (by simp only [List.length_cons, List.length_nil, List.length_map]; omega) (by simp only [List.length_cons, List.length_map]; omega)
    have el : (bstr [102, 111, 114, 109, 117, 108, 97] :: (num f.free :: num f.vars :: f.atoms.map atomT).map bstr) = [bstr [102, 111, 114, 109, 117, 108, 97], bstr (num f.free), bstr (num f.vars)] ++ f.atoms.map fun x => bstr (atomT x) := by
      simp [List.map_map, Function.comp_def]
    rw [el] at ej
    rw [ej, bnd_s, if_pos rfl]
    unfold formT
    simp [List.map_map, Function.comp_def]
theorem l03Text_eq {N : Nat} (hN : 20 ≤ N) {f : Formula} (h : formW f = true) : spec_l03Text N f = some (bstr (formT f)) := by
  obtain ⟨h1, h2, h3, h4, h5, h6⟩ := formW_spec h
  have n1 := num_len (n := f.free) (by omega)
  have n2 := num_len (n := f.vars) (by omega)
  unfold spec_l03Text
  rw [Decimal_num hN h1 (by omega), bnd_s, scat_b (by simp only [List.length_cons, List.length_nil]; omega), bnd_s, scat_b (by simp only [List.length_append, List.length_cons, List.length_nil]; omega), bnd_s, Decimal_num hN h3 (by omega), bnd_s,
    scat_b (by simp only [List.length_append, List.length_cons, List.length_nil]; omega), bnd_s,
    forL_text (fun a => 32 :: atomT a) 108 1000000 (fun a ha => by have := atomT_len h4 (h6 a ha); rw [List.length_cons]; omega) (by simp only [List.length_append, List.length_cons, List.length_nil]; omega) (fun j a s ha hs => by
      obtain ⟨g1, g2, g3, g4⟩ := atomW_spec h4 (h6 a ha)
      have gd := digT_len g4
      have gr := relT_len g2
      have e1 : (if (a.rel == (-1)) then
         bnd (scat (bstr s) (bstr [32, 61, 58])) fun z379 =>
         some (.nx z379)
        else
         bnd (spec_Decimal N a.rel) fun z398 =>
         bnd (scat (bstr [32, 82]) z398) fun z402 =>
         bnd (scat z402 (bstr [58])) fun z404 =>
         bnd (scat (bstr s) z404) fun z406 =>
         some (.nx z406)) = some (Out.nx (ρ := Ctl ByteArray ByteArray) (bstr (s ++ 32 :: relT a ++ [58]))) := by
        unfold relT
        by_cases hr : a.rel = -1
        · rw [if_pos (by simp [hr]), if_pos hr, scat_b (by simp only [List.length_cons, List.length_nil]; omega), bnd_s]
          simp
        · have := num_len (n := a.rel) (by omega)
          rw [if_neg (by simpa using hr), if_neg hr, Decimal_num hN (by omega) (by omega), bnd_s, scat_b (by simp only [List.length_cons, List.length_nil]; omega), bnd_s, scat_b (by simp only [List.length_append, List.length_cons, List.length_nil]; omega), bnd_s,
            scat_b (by simp only [List.length_append, List.length_cons, List.length_nil]; omega), bnd_s]
          simp
      rw [e1, thn_nx, forL_text num 21 2000000 (fun x hx => num_len (by have := g4 x hx; omega)) (by simp only [List.length_append, List.length_cons, List.length_nil]; omega) (fun j x s hx hs => by
        have := num_len (n := x) (by have := g4 x hx; omega)
        rw [Decimal_num hN (g4 x hx).1 (by have := g4 x hx; omega), bnd_s, scat_b (by omega), bnd_s]), thn_nx]
      unfold atomT digT
      simp), thn_nx]
  unfold formT
  simp
theorem formT_ne {f : Formula} : (formT f == ([] : List UInt8)) = false := rfl
/-- The text of gadgets. -/
def gadW (g : Gadgets) : Bool := decide ((g.formulas.length : Int) ≤ 6) && g.formulas.all formW
def gadT (g : Gadgets) : List UInt8 := (g.formulas.map fun f => formT f ++ [10]).flatten
theorem gad_loop : ∀ (l : List Formula) (k : Nat) (s : List UInt8), s.length + 2001 * l.length ≤ 1000000 → forL (σ := ByteArray) (ρ := ByteArray) (fun (k65 : Nat) (x67 : Formula) (s60 : ByteArray) =>
    bnd (impl_FormulaText (Formula.mk x67.free x67.vars x67.atoms)) fun z92 =>
    if (sEq z92 (bstr [])) then
     some (.ret ((bstr [])))
    else
     bnd (scat z92 (bstr [10])) fun z97 =>
     bnd (scat s60 z97) fun z99 =>
     some (.go z99)) l k (bstr s) = some (if l.all formW then .nx (bstr (s ++ (l.map fun f => formT f ++ [10]).flatten)) else .ret (bstr []))
  | [], _, s, _ => by simp
  | f :: l, k, s, h => by
    rw [List.length_cons] at h
    cases hf : formW f with
    | false =>
      rw [forL_rt (r := bstr []) (by rw [show (Formula.mk f.free f.vars f.atoms) = f from rfl, FormulaText_impl, bnd_s, hf, show (if false = true then formT f else []) = [] from rfl, sEq_b]; rfl)]
      simp [hf]
    | true =>
      have hl := formT_len hf
      rw [forL_go (s' := bstr (s ++ (formT f ++ [10]))) (by
        rw [show (Formula.mk f.free f.vars f.atoms) = f from rfl, FormulaText_impl, bnd_s, hf, if_pos rfl, sEq_b, formT_ne, if_neg (by simp), scat_b (by simp only [List.length_cons, List.length_nil]; omega), bnd_s, scat_b (by simp only [List.length_append, List.length_cons, List.length_nil]; omega), bnd_s]),
        gad_loop l (k + 1) _ (by simp only [List.length_append, List.length_cons, List.length_nil]; omega)]
      simp [hf]
theorem GadgetsText_impl (g : Gadgets) : impl_GadgetsText g = some (bstr (if gadW g then gadT g else [])) := by
  unfold impl_GadgetsText gadW
  by_cases h : (g.formulas.length : Int) ≤ 6
  · rw [if_neg (by simp; omega), gad_loop g.formulas 0 [] (by simp only [List.length_nil]; omega)]
    cases ha : g.formulas.all formW with
    | false => simp
    | true =>
      simp only [if_true, thn_nx, List.nil_append, h, decide_true, Bool.and_self]
      rfl
  · rw [if_pos (by simp; omega)]
    simp [h]
end Go.Proofs.YtbgkhipclkhlcaaGreatDoor
