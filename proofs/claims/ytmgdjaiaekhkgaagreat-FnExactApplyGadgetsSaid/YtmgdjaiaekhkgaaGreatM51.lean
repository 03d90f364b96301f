/-
  Plain laws: atoms, and the search for values for which they hold, on both sides.
-/
import Derived.Test.YtmgdjaiaekhkgaaGreatM50
namespace Go.Proofs.YtmgdjaiaekhkgaaGreat
set_option linter.unusedVariables false
set_option linter.unusedSimpArgs false
/-! ### Loops that look for the first -/
def ctlF {σ ρ : Type} (s : σ) : Option ρ → Ctl σ ρ
  | none => .go s
  | some r => .ret r
def outF {σ ρ : Type} (s : σ) : Option ρ → Out σ ρ
  | none => .nx s
  | some r => .ret r
theorem forI_find {σ ρ : Type} {b : Nat → σ → Option (Ctl σ ρ)} {s : σ} (q : Nat → Option ρ) : ∀ {m k : Nat}, (∀ j, k ≤ j → j < k + m → b j s = some (ctlF s (q j))) → forI b m k s = some (outF s ((List.range' k m).findSome? q))
  | 0, k, _ => rfl
  | m + 1, k, h => by
    have h1 := h k (Nat.le_refl _) (by omega)
    have ih := forI_find (b := b) (s := s) q (m := m) (k := k + 1) (fun j h2 h3 => h j (by omega) (by omega))
    rw [List.range'_succ, List.findSome?_cons]
    cases hq : q k with
    | none => rw [hq] at h1; rw [forI_go h1]; exact ih
    | some r => rw [hq] at h1; rw [forI_rt h1]; rfl
theorem forL_all {α : Type} {b : Nat → α → Unit → Option (Ctl Unit Bool)} (p : α → Bool) {l : List α} (h : ∀ j x, l[j]? = some x → b j x () = some (if p x then .go () else .ret false)) :
    thn (forL b l 0 ()) (fun _ => some true) = some (l.all p) := by
  rw [forL_fnd (ρ := Bool) (fun _ x => if (fun y => !p y) x then some false else none) (fun j x hj => by
    rw [Nat.zero_add, h j x hj]
    cases hp : p x <;> simp [hp, ctlO]), fnd_any]
  by_cases hp : l.all p = true
  · have : l.any (fun y => !p y) = false := by
      rw [List.any_eq_false]
      intro x hx
      simp [List.all_eq_true.1 hp x hx]
    rw [this, hp]
    rfl
  · have h2 : l.all p = false := by simpa using hp
    have : l.any (fun y => !p y) = true := by
      rw [← List.not_all_eq_any_not, h2]
      rfl
    rw [this, h2]
    rfl
/-! ### Atoms -/
def atV (vs args : List Int) : List Int := args.map fun i => vs.getD i.toNat 0
theorem at_loop {ρ : Type} (vs : List Int) : ∀ (args : List Int) (k : Nat) (s : List Int), (∀ i ∈ args, 0 ≤ i ∧ i < vs.length) → s.length + args.length ≤ 1000000 →
    forL (σ := (List Int)) (ρ := ρ) (fun (k44 : Nat) (x46 : Int) (s38 : (List Int)) =>
   bnd (ix vs x46) fun z54 =>
   bnd (ap s38 ([z54])) fun z61 =>
   some (.go z61)) args k s = some (.nx (s ++ atV vs args))
  | [], _, s, _, _ => by simp [atV, forL]
  | i :: args, k, s, h, hs => by
    obtain ⟨h0, h1⟩ := h i (by simp)
    have hx : vs[i.toNat]? = some (vs.getD i.toNat 0) := by
      rw [List.getD_eq_getElem?_getD, List.getElem?_eq_getElem (by omega)]
      rfl
    rw [List.length_cons] at hs
    rw [forL_go (s' := s ++ [vs.getD i.toNat 0]) (by
      simp only [ix_of h0 hx, bnd_s, ap_eq (l := s) (m := [vs.getD i.toNat 0]) (by simp only [List.length_cons, List.length_nil]; omega)])]
    rw [at_loop vs args (k + 1) _ (fun j hj => h j (by simp [hj])) (by rw [List.length_append, List.length_singleton]; omega)]
    simp [atV]
theorem l01At_eq {vs args : List Int} (h : ∀ i ∈ args, 0 ≤ i ∧ i < vs.length) (hl : args.length ≤ 1000) : spec_l01At vs args = some (atV vs args) := by
  unfold spec_l01At
  rw [at_loop vs args 0 [] h (by simp only [List.length_nil]; omega), thn_nx, List.nil_append]
theorem chosen_eq {vs args : List Int} (h : ∀ i ∈ args, 0 ≤ i ∧ i < vs.length) (hl : args.length ≤ 1000) : impl_chosen vs args = some (atV vs args) := l01At_eq h hl
/-- A relation that is well made. -/
def relV (T : Nat) (r : Rel) : Prop := ∃ n : Nat, r.arity = n ∧ 1 ≤ n ∧ n ≤ 4 ∧ Asc r.tuples ∧ ∀ t ∈ r.tuples, t ∈ enumL T n
theorem rel_enum {T : Nat} {r : Rel} {n : Nat} (h : Asc r.tuples) (hm : ∀ t ∈ r.tuples, t ∈ enumL T n) : r.tuples = (enumL T n).filter fun t => decide (t ∈ r.tuples) :=
  Asc.ext h ((enum_asc T n).filter _) (fun x => ⟨fun hx => List.mem_filter.2 ⟨hm x hx, by simpa using hx⟩, fun hx => by simpa using (List.mem_filter.1 hx).2⟩)
theorem enum_len {T n : Nat} (hT : 1 ≤ T ∧ T ≤ 4) (hn : 1 ≤ n ∧ n ≤ 4) : (enumL T n).length ≤ 256 := (enum_dig T (by simp; omega) n (by simp; omega)).2.2.1
theorem relV.len {T : Nat} {r : Rel} (hT : 1 ≤ T ∧ T ≤ 4) (h : relV T r) : r.tuples.length ≤ 256 := by
  obtain ⟨n, _, h1, h2, h3, h4⟩ := h
  rw [rel_enum h3 h4]
  exact Nat.le_trans (List.length_filter_le _ _) (enum_len hT ⟨h1, h2⟩)
/-- A template, of size T. -/
structure TV (T : Nat) (u : Template) : Prop where
  s : u.size = T
  t : 1 ≤ T ∧ T ≤ 4
  r : ∀ r ∈ u.rels, relV T r
  n : u.rels.length ≤ 6
/-- An atom over variables below n. -/
def AV (u : Template) (n : Nat) (a : Atom) : Prop := (∀ i ∈ a.args, 0 ≤ i ∧ i < n) ∧ ((a.rel = -1 ∧ a.args.length = 2) ∨ ∃ r : Rel, 0 ≤ a.rel ∧ u.rels[a.rel.toNat]? = some r ∧ r ∈ u.rels ∧ (a.args.length : Int) = r.arity)
theorem AV.len {T : Nat} {u : Template} {n : Nat} {a : Atom} (hu : TV T u) (h : AV u n a) : 1 ≤ a.args.length ∧ a.args.length ≤ 4 := by
  rcases h.2 with ⟨_, h⟩ | ⟨r, _, _, h1, h2⟩
  · omega
  · obtain ⟨m, e, h3, h4, _⟩ := hu.r r h1
    omega
def atomS (u : Template) (a : Atom) (vs : List Int) : Bool := if a.rel = -1 then decide ((atV vs a.args).getD 0 0 = (atV vs a.args).getD 1 0) else decide (atV vs a.args ∈ (u.rels.getD a.rel.toNat default).tuples)
theorem atom_two {T N : Nat} {u : Template} {n : Nat} {a : Atom} {vs : List Int} (hu : TV T u) (h : AV u n a) (hv : ∀ i ∈ a.args, i < vs.length) (hN : 1002 ≤ N) : spec_l03Atom u a vs = some (atomS u a vs) ∧ impl_Template_holds N u a vs = some (atomS u a vs) := by
  have hl := h.len hu
  have h1 := l01At_eq (vs := vs) (fun i hi => ⟨(h.1 i hi).1, hv i hi⟩) (by omega)
  have h2 := chosen_eq (vs := vs) (fun i hi => ⟨(h.1 i hi).1, hv i hi⟩) (by omega)
  unfold spec_l03Atom impl_Template_holds atomS
  rw [h1, bnd_s, h2, bnd_s]
  rcases h.2 with ⟨e, hl2⟩ | ⟨r, h0, hr, hm, ha⟩
  · have hlen : (atV vs a.args).length = 2 := by rw [atV, List.length_map, hl2]
    obtain ⟨x, y, e2⟩ : ∃ x y, atV vs a.args = [x, y] := by
      match h : atV vs a.args, hlen with
      | [x, y], _ => exact ⟨x, y, rfl⟩
    rw [e2, e]
    have hb : (x == y) = decide (x = y) := by by_cases hxy : x = y <;> simp [hxy]
    simp [ix, hb]
  · have hne : (a.rel == -1) = false := by rw [beq_eq_false_iff_ne]; omega
    have hne' : ¬ a.rel = -1 := by omega
    obtain ⟨m, _, _, _, hasc, _⟩ := hu.r r hm
    have hg : u.rels.getD a.rel.toNat default = r := by rw [List.getD_eq_getElem?_getD, hr]; rfl
    simp only [hne, Bool.false_eq_true, if_false, if_neg hne']
    rw [ix_of h0 hr, bnd_s, bnd_s, l01Has_eq, bnd_s, has_eq hasc (by have := (hu.r r hm).len hu.t; omega) hN, bnd_s, hg]
    exact ⟨rfl, rfl⟩
/-! ### The greatest variable -/
def mx (l : List Int) : Int := l.foldl (fun s x => if x < s then s else x) 0
theorem mx_le {l : List Int} : ∀ {s : Int}, (s ≤ l.foldl (fun s x => if x < s then s else x) s) ∧ ∀ x ∈ l, x ≤ l.foldl (fun s x => if x < s then s else x) s := by
  induction l with
  | nil => intro s; exact ⟨Int.le_refl _, by simp⟩
  | cons y l ih =>
    intro s
    rw [List.foldl_cons]
    obtain ⟨h1, h2⟩ := ih (s := if y < s then s else y)
    have hs : s ≤ (if y < s then s else y) ∧ y ≤ (if y < s then s else y) := by split <;> omega
    refine ⟨Int.le_trans hs.1 h1, fun x hx => ?_⟩
    rcases List.mem_cons.1 hx with rfl | hx
    · exact Int.le_trans hs.2 h1
    · exact h2 x hx
theorem mx_mem {l : List Int} : ∀ {s : Int}, l.foldl (fun s x => if x < s then s else x) s = s ∨ l.foldl (fun s x => if x < s then s else x) s ∈ l := by
  induction l with
  | nil => intro s; exact .inl rfl
  | cons y l ih =>
    intro s
    rw [List.foldl_cons]
    rcases ih (s := if y < s then s else y) with h | h
    · rw [h]
      split
      · exact .inl rfl
      · exact .inr (by simp)
    · exact .inr (by simp [h])
theorem mx_lt {l : List Int} {n : Int} (h : ∀ i ∈ l, 0 ≤ i ∧ i < n) (hn : 0 < n) : 0 ≤ mx l ∧ mx l < n := by
  refine ⟨mx_le.1, ?_⟩
  rcases mx_mem (l := l) (s := 0) with e | e
  · unfold mx; rw [e]; exact hn
  · exact (h _ e).2
theorem top_loop {ρ : Type} : ∀ (l : List Int) (k : Nat) (s : Int), forL (σ := Int) (ρ := ρ) (fun (k205 : Nat) (x207 : Int) (s201 : Int) =>
      bnd (spec_l00Max s201 x207) fun z235 =>
      some (.go z235)) l k s = some (.nx (l.foldl (fun s x => if x < s then s else x) s))
  | [], _, _ => rfl
  | x :: l, k, s => by
    rw [forL_go (s' := if x < s then s else x) (by
      unfold spec_l00Max
      by_cases h : x < s <;> simp [h]), top_loop l]
    rfl
theorem max_loop {ρ : Type} (x0 : Int) (L : List Int) : ∀ (l : List Int) (k : Nat) (s : Int), L.drop k = l → forI (σ := Int) (ρ := ρ) (fun (k41 : Nat) (s37 : Int) =>
   bnd (ix (x0 :: L) (1 + (k41 : Int))) fun z48 =>
   some (.go (if s37 < z48 then z48 else s37))) l.length k s = some (.nx (l.foldl (fun s x => if x < s then s else x) s))
  | [], _, _, _ => rfl
  | x :: l, k, s, h => by
    have hx : (x0 :: L)[1 + k]? = some x := by
      rw [Nat.add_comm, List.getElem?_cons_succ, ← List.head?_drop, h]
      rfl
    have e : (1 : Int) + (k : Int) = ((1 + k : Nat) : Int) := by omega
    rw [List.length_cons, forI_go (s' := if x < s then s else x) (by
      rw [e, ix_nat hx, bnd_s]
      by_cases h1 : x < s
      · rw [if_neg (by omega), if_pos h1]
      · rw [if_neg h1]
        by_cases h2 : s < x
        · rw [if_pos h2]
        · rw [if_neg h2, show s = x by omega]), max_loop x0 L l (k + 1) _ (by rw [← List.drop_drop, h]; rfl)]
    rfl
theorem Max_eq {l : List Int} (h : ∀ i ∈ l, 0 ≤ i) (hl : 1 ≤ l.length) : slices_Max_s_int64_int64 l = some (mx l) := by
  cases l with
  | nil => simp at hl
  | cons x l =>
    unfold slices_Max_s_int64_int64
    have h1 : ¬ (((x :: l).length : Nat) : Int) < 1 := by simp; omega
    have h2 : ((((x :: l).length : Nat) : Int) - 1).toNat = l.length := by simp
    rw [if_neg (by simpa using h1), thn_nx, show ix (x :: l) 0 = some x from rfl, bnd_s, h2, max_loop x l l 0 x rfl, thn_nx]
    unfold mx
    rw [List.foldl_cons]
    have := h x (by simp)
    by_cases h3 : x < 0
    · omega
    · rw [if_neg h3]
end Go.Proofs.YtmgdjaiaekhkgaaGreat
