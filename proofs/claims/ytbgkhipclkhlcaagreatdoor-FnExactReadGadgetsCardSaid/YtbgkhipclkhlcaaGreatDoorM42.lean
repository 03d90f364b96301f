/-
  Plain law: ReadGadgets.
-/
import Derived.Test.YtbgkhipclkhlcaaGreatDoorM41
import Derived.Test.YtbgkhipclkhlcaaGreatDoorY
namespace Go.Proofs.YtbgkhipclkhlcaaGreatDoor
set_option maxRecDepth 100000
set_option linter.unusedVariables false
set_option linter.unusedSimpArgs false

theorem RF_two {N : Nat} (hN : 20 ≤ N) (l : List UInt8) (hl : l.length ≤ 1048576) : ∃ r : Formula × Int, spec_ReadFormula N (bstr l) = some r ∧ impl_ReadFormula (bstr l) = some r ∧ (r.2 ≠ 0 ∧ (∀ f, formW f = true → formT f ≠ l) ∨ (formW r.1 = true ∧ formT r.1 = l ∧ r.2 = 0)) ∧ ∀ f, formW f = true → formT f = l → r = (f, 0) := by
  by_cases h : l.length ≤ 20000
  · obtain ⟨r1, a1, a2, a3⟩ := RF_spec hN h
    obtain ⟨r2, b1, b2, b3⟩ := RF_impl h
    by_cases hex : ∃ f, formW f = true ∧ formT f = l
    · obtain ⟨f, h1, h2⟩ := hex
      have e1 := a3 f h1 h2
      have e2 := b3 f h1 h2
      subst e1 e2
      exact ⟨(f, 0), a1, b1, .inr ⟨h1, h2, rfl⟩, a3⟩
    · have e1 : r1 = badF := a2.resolve_right (fun h => hex ⟨_, h.1, h.2.1⟩)
      have e2 : r2 = badF := b2.resolve_right (fun h => hex ⟨_, h.1, h.2.1⟩)
      subst e1 e2
      exact ⟨badF, a1, b1, .inl ⟨by decide, fun f h1 h2 => hex ⟨f, h1, h2⟩⟩, a3⟩
  · have hno : ∀ f, formW f = true → formT f ≠ l := fun f h1 h2 => by
      have := formT_len h1
      rw [h2] at this
      omega
    refine ⟨(⟨0, 0, []⟩, 2), ?_, ?_, .inl ⟨by decide, hno⟩, fun f h1 h2 => absurd h2 (hno f h1)⟩
    · rw [ReadFormula_def, bstr_size, if_pos (decide_eq_true (by omega))]
    · unfold impl_ReadFormula
      rw [bstr_size, if_pos (decide_eq_true (by omega))]
theorem formT_inj {f g : Formula} (hf : formW f = true) (hg : formW g = true) (h : formT f = formT g) : f = g := by
  obtain ⟨r, _, _, _, h4⟩ := RF_two (N := 20) (Nat.le_refl _) (formT f) (by have := formT_len hf; omega)
  have e1 := h4 f hf rfl
  have e2 := h4 g hg h.symm
  rw [e1] at e2
  exact (Prod.mk.inj e2).1
theorem formT_map_inj : ∀ {fs gs : List Formula}, (∀ f ∈ fs, formW f = true) → (∀ f ∈ gs, formW f = true) → fs.map formT = gs.map formT → fs = gs
  | [], [], _, _, _ => rfl
  | [], _ :: _, _, _, h => by simp at h
  | _ :: _, [], _, _, h => by simp at h
  | f :: fs, g :: gs, h1, h2, h => by
    simp only [List.map_cons, List.cons.injEq] at h
    rw [formT_inj (h1 f (by simp)) (h2 g (by simp)) h.1, formT_map_inj (fun x hx => h1 x (by simp [hx])) (fun x hx => h2 x (by simp [hx])) h.2]
/-! Lines -/
theorem formT_noline (f : Formula) : ∀ c ∈ formT f, c ≠ 10 := by
  have hd : ∀ n : Int, ∀ c ∈ num n, c ≠ 10 := fun n c hc e => by
    obtain ⟨_, h2, _⟩ := digits_are n.toNat
    have := List.all_eq_true.1 h2 c hc
    rw [e] at this
    exact absurd this (by decide)
  intro c hc
  unfold formT at hc
  rcases List.mem_append.1 hc with hc | hc
  · rcases List.mem_append.1 hc with hc | hc
    · rcases List.mem_append.1 hc with hc | hc
      · intro e; subst e; exact absurd hc (by decide)
      · rcases List.mem_cons.1 hc with rfl | hc
        · decide
        · exact hd _ c hc
    · rcases List.mem_cons.1 hc with rfl | hc
      · decide
      · exact hd _ c hc
  · obtain ⟨y, hy, hcy⟩ := List.mem_flatten.1 hc
    obtain ⟨a, _, rfl⟩ := List.mem_map.1 hy
    rcases List.mem_cons.1 hcy with rfl | hcy
    · decide
    · unfold atomT at hcy
      rcases List.mem_append.1 hcy with h | h
      · unfold relT at h
        split at h
        · simp at h; subst h; decide
        · rcases List.mem_cons.1 h with rfl | h
          · decide
          · exact hd _ c h
      · rcases List.mem_cons.1 h with rfl | h
        · decide
        · exact digT_ne (by decide) c h
theorem cut_lines (c : UInt8) : ∀ (xs : List (List UInt8)), (∀ x ∈ xs, ∀ b ∈ x, b ≠ c) → cutAt c ((xs.map fun x => x ++ [c]).flatten) = xs ++ [[]]
  | [], _ => rfl
  | x :: xs, h => by
    rw [List.map_cons, List.flatten_cons, List.append_assoc, List.singleton_append, cut_app _ (h x (by simp)), cut_lines c xs (fun y hy => h y (by simp [hy]))]
    rfl
theorem cut_snoc (c : UInt8) : ∀ (p : List UInt8), cutAt c (p ++ [c]) = cutAt c p ++ [[]]
  | [] => by simp [cutAt]
  | b :: p => by
    have ih := cut_snoc c p
    have hne := cutAt_ne c p
    rw [List.cons_append]
    by_cases h : b = c
    · rw [cutAt, if_pos h, cutAt, if_pos h, ih, List.cons_append]
    · rw [cutAt, if_neg h, cutAt, if_neg h, ih]
      cases hc : cutAt c p with
      | nil => exact absurd hc hne
      | cons x r => rfl
theorem join_lines (c : UInt8) : ∀ (xs : List (List UInt8)), joinAt c (xs ++ [[]]) = (xs.map fun x => x ++ [c]).flatten
  | [] => rfl
  | [x] => by simp [joinAt]
  | x :: y :: r => by
    have ih := join_lines c (y :: r)
    rw [List.cons_append, List.cons_append] at *
    rw [joinAt, ih]
    simp
theorem gadT_lines (g : Gadgets) : gadT g = ((g.formulas.map formT).map fun x => x ++ [10]).flatten := by unfold gadT; rw [List.map_map]; rfl
def badG : Gadgets × Int := (⟨[]⟩, 5)
/-! The program -/
def trimL (l : List UInt8) : List UInt8 := if l.drop (l.length - 1) = [10] then l.take (l.length - 1) else l
theorem Trim_b (l : List UInt8) (hl : l.length ≤ 1048576) : strings_TrimSuffix (bstr l) (bstr [10]) = some (bstr (trimL l)) := by
  unfold strings_TrimSuffix internal_stringslite_TrimSuffix internal_stringslite_HasSuffix
  rw [bstr_size, bstr_size]
  by_cases h0 : l = []
  · subst h0; rfl
  · have h1 : 1 ≤ l.length := by cases l with | nil => exact absurd rfl h0 | cons _ _ => simp
    have e : (l.length : Int) - (([10] : List UInt8).length : Int) = ((l.length - 1 : Nat) : Int) := by simp only [List.length_cons, List.length_nil]; omega
    rw [if_pos (decide_eq_true (by simp only [List.length_cons, List.length_nil]; omega)), e, ck_eq (by omega) (by omega), bnd_s, ssl_b (by omega) (Nat.le_refl _), bnd_s, thn_nx, sEq_b, List.take_length, bnd_s]
    unfold trimL
    by_cases h2 : l.drop (l.length - 1) = [10]
    · rw [h2, beq_self_eq_true, if_pos rfl, if_pos rfl, bnd_s, show (0 : Int) = ((0 : Nat) : Int) from rfl, ssl_b (Nat.zero_le _) (by omega), bnd_s, bnd_s, List.drop_zero]
    · have : (l.drop (l.length - 1) == [10]) = false := by rw [beq_eq_false_iff_ne]; exact h2
      rw [this, if_neg (by simp), if_neg h2, bnd_s]
theorem trim_snoc (p : List UInt8) : trimL (p ++ [10]) = p := by
  unfold trimL
  simp
theorem lines_loop {N : Nat} (hN : 20 ≤ N) : ∀ (ls : List (List UInt8)) (k : Nat) (s : List Formula), (∀ x ∈ ls, x.length ≤ 1048576) → s.length + ls.length ≤ 3000000 →
    (∃ fs : List Formula, ls = fs.map formT ∧ (∀ f ∈ fs, formW f = true) ∧ forL (σ := (List Formula)) (ρ := Gadgets × Int) (fun (k85 : Nat) (x87 : ByteArray) (s79 : (List Formula)) =>
     bnd (impl_ReadFormula x87) fun z94 =>
     if (z94.2 != 0) then
      some (.ret ((Gadgets.mk ([])), 5))
     else
      bnd (ap s79 ([(Formula.mk z94.1.free z94.1.vars z94.1.atoms)])) fun z108 =>
      some (.go z108)) (ls.map bstr) k s = some (.nx (s ++ fs))) ∨
    ((∀ fs : List Formula, (∀ f ∈ fs, formW f = true) → ls ≠ fs.map formT) ∧ forL (σ := (List Formula)) (ρ := Gadgets × Int) (fun (k85 : Nat) (x87 : ByteArray) (s79 : (List Formula)) =>
     bnd (impl_ReadFormula x87) fun z94 =>
     if (z94.2 != 0) then
      some (.ret ((Gadgets.mk ([])), 5))
     else
      bnd (ap s79 ([(Formula.mk z94.1.free z94.1.vars z94.1.atoms)])) fun z108 =>
      some (.go z108)) (ls.map bstr) k s = some (.ret badG))
  | [], k, s, _, _ => .inl ⟨[], rfl, (fun f h => nomatch h), by simp [forL]⟩
  | x :: ls, k, s, h, hs => by
    rw [List.length_cons] at hs
    obtain ⟨r, _, h2, h3, h4⟩ := RF_two hN x (h x (by simp))
    rcases h3 with ⟨h5, h6⟩ | ⟨h5, h6, h7⟩
    · refine .inr ⟨fun fs hf e => ?_, ?_⟩
      · cases fs with
        | nil => cases e
        | cons f fs => exact h6 f (hf f (by simp)) (List.cons.inj e).1.symm
      · rw [List.map_cons, forL_rt (r := badG) (by rw [h2, bnd_s, if_pos (by simpa using h5)]; rfl)]
    · have hgo := fun (b : Nat → ByteArray → List Formula → Option (Ctl (List Formula) (Gadgets × Int))) (hb : b = fun (k85 : Nat) (x87 : ByteArray) (s79 : (List Formula)) =>
         bnd (impl_ReadFormula x87) fun z94 =>
         if (z94.2 != 0) then
          some (.ret ((Gadgets.mk ([])), 5))
         else
          bnd (ap s79 ([(Formula.mk z94.1.free z94.1.vars z94.1.atoms)])) fun z108 =>
          some (.go z108)) => forL_go (b := b) (x := bstr x) (l := ls.map bstr) (k := k) (s := s) (s' := s ++ [r.1]) (by
        subst hb
        dsimp only
        rw [h2, bnd_s, h7, if_neg (by simp), ap_eq (by simp only [List.length_cons, List.length_nil]; omega), bnd_s])
      rw [List.map_cons, hgo _ rfl]
      rcases lines_loop hN ls (k + 1) (s ++ [r.1]) (fun y hy => h y (by simp [hy])) (by rw [List.length_append, List.length_singleton]; omega) with ⟨fs, e1, e2, e3⟩ | ⟨e1, e2⟩
      · refine .inl ⟨r.1 :: fs, by rw [List.map_cons, h6, e1], fun f hf => ?_, by rw [e3, List.append_assoc]; rfl⟩
        rcases List.mem_cons.1 hf with rfl | hf
        · exact h5
        · exact e2 f hf
      · refine .inr ⟨fun fs hf e => ?_, e2⟩
        cases fs with
        | nil => cases e
        | cons f fs => exact e1 fs (fun g hg => hf g (by simp [hg])) (List.cons.inj e).2
theorem RG_impl {N : Nat} (hN : 20 ≤ N) {l : List UInt8} (hl : l.length ≤ 20000) (hne : l ≠ []) : ∃ r, impl_ReadGadgets (bstr l) = some r ∧ (r = badG ∨ (gadW r.1 = true ∧ gadT r.1 = l ∧ r.2 = 0)) ∧ ∀ g, gadW g = true → gadT g = l → r = (g, 0) := by
  unfold impl_ReadGadgets
  have h0 : (l == []) = false := by rw [beq_eq_false_iff_ne]; exact hne
  rw [bstr_size, if_neg (by simp; omega), sEq_b, h0, if_neg (by simp), Trim_b l (by omega), bnd_s]
  have ht : (trimL l).length ≤ 20000 := by unfold trimL; split <;> (try rw [List.length_take]) <;> omega
  rw [Split_eq (by omega), bnd_s]
  have hm := cutAt_mem 10 (trimL l)
  have hlen := cutAt_len 10 (trimL l)
  have dec : ∀ g, gadW g = true → gadT g = l → cutAt 10 (trimL l) = g.formulas.map formT := fun g h1 h2 => by
    rw [gadT_lines] at h2
    have hc := cut_lines 10 (g.formulas.map formT) (fun x hx b hb => by
      obtain ⟨f, _, rfl⟩ := List.mem_map.1 hx
      exact formT_noline f b hb)
    rw [h2] at hc
    obtain ⟨p, hp⟩ : ∃ p, l = p ++ [10] := by
      cases hgf : g.formulas.reverse with
      | nil =>
        have : g.formulas = [] := by simpa using hgf
        rw [this] at h2
        exact absurd h2.symm hne
      | cons f r =>
        have : g.formulas = r.reverse ++ [f] := by rw [← List.reverse_reverse g.formulas, hgf]; simp
        rw [this] at h2
        refine ⟨((r.reverse.map formT).map fun x => x ++ [10]).flatten ++ formT f, ?_⟩
        rw [← h2]
        simp
    rw [hp, cut_snoc] at hc
    rw [hp, trim_snoc]
    exact List.append_cancel_right hc
  rcases lines_loop hN (cutAt 10 (trimL l)) 0 [] (fun x hx => by have := hm x hx; omega) (by simp only [List.length_nil]; omega) with ⟨fs, e1, e2, e3⟩ | ⟨e1, e2⟩
  · rw [e3, thn_nx, List.nil_append, GadgetsText_impl, bnd_s, sEq_b]
    by_cases hw : gadW ⟨fs⟩ = true ∧ gadT ⟨fs⟩ = l
    · rw [if_pos hw.1, hw.2, beq_self_eq_true, if_neg (by simp)]
      refine ⟨_, rfl, .inr ⟨hw.1, hw.2, rfl⟩, fun g h1 h2 => ?_⟩
      have h3 := (dec g h1 h2).symm.trans e1
      have h4 : ∀ f ∈ g.formulas, formW f = true := by
        unfold gadW at h1
        rw [Bool.and_eq_true] at h1
        exact List.all_eq_true.1 h1.2
      rw [← formT_map_inj h4 e2 h3]
    · have : ((if gadW ⟨fs⟩ = true then gadT ⟨fs⟩ else []) == l) = false := by
        rw [beq_eq_false_iff_ne]
        split
        · rename_i h; exact fun e => hw ⟨h, e⟩
        · exact fun e => hne e.symm
      rw [this, if_pos (by rfl)]
      refine ⟨_, rfl, .inl rfl, fun g h1 h2 => ?_⟩
      have h3 := (dec g h1 h2).symm.trans e1
      have h4 : ∀ f ∈ g.formulas, formW f = true := by
        unfold gadW at h1
        rw [Bool.and_eq_true] at h1
        exact List.all_eq_true.1 h1.2
      rw [← formT_map_inj h4 e2 h3] at hw
      exact absurd ⟨h1, h2⟩ hw
  · rw [e2, thn_ret]
    refine ⟨_, rfl, .inl rfl, fun g h1 h2 => ?_⟩
    have h4 : ∀ f ∈ g.formulas, formW f = true := by
      unfold gadW at h1
      rw [Bool.and_eq_true] at h1
      exact List.all_eq_true.1 h1.2
    exact absurd (dec g h1 h2) (e1 _ h4)
/-! The reference -/
theorem lines_loopS {N : Nat} (hN : 20 ≤ N) (ls : List (List UInt8)) (h : ∀ x ∈ ls, x.length ≤ 1048576) : ∀ (m k : Nat) (s : List Formula), k + m ≤ ls.length → s.length + m ≤ 3000000 →
    (∃ fs : List Formula, (ls.drop k).take m = fs.map formT ∧ (∀ f ∈ fs, formW f = true) ∧ forI (σ := (List Formula)) (ρ := Gadgets × Int) (fun (k109 : Nat) (s103 : (List Formula)) =>
      bnd (ix (ls.map bstr) (k109 : Int)) fun z115 =>
      bnd (spec_ReadFormula N z115) fun z120 =>
      if (z120.2 != 0) then
       some (.ret ((Gadgets.mk ([])), 5))
      else
       bnd (ap s103 ([(Formula.mk z120.1.free z120.1.vars z120.1.atoms)])) fun z134 =>
       some (.go z134)) m k s = some (.nx (s ++ fs))) ∨
    ((∀ fs : List Formula, (∀ f ∈ fs, formW f = true) → (ls.drop k).take m ≠ fs.map formT) ∧ forI (σ := (List Formula)) (ρ := Gadgets × Int) (fun (k109 : Nat) (s103 : (List Formula)) =>
      bnd (ix (ls.map bstr) (k109 : Int)) fun z115 =>
      bnd (spec_ReadFormula N z115) fun z120 =>
      if (z120.2 != 0) then
       some (.ret ((Gadgets.mk ([])), 5))
      else
       bnd (ap s103 ([(Formula.mk z120.1.free z120.1.vars z120.1.atoms)])) fun z134 =>
       some (.go z134)) m k s = some (.ret badG))
  | 0, k, s, _, _ => .inl ⟨[], by simp, (fun f h => nomatch h), by simp [forI]⟩
  | m + 1, k, s, hk, hs => by
    have hlt : k < ls.length := by omega
    have hg : ls[k]? = some ls[k] := List.getElem?_eq_getElem hlt
    have hi : ix (ls.map bstr) (k : Int) = some (bstr ls[k]) := ix_nat (by rw [List.getElem?_map, hg]; rfl)
    have hd : (ls.drop k).take (m + 1) = ls[k] :: (ls.drop (k + 1)).take m := by rw [List.drop_eq_getElem_cons hlt, List.take_succ_cons]
    obtain ⟨r, h1, _, h3, h4⟩ := RF_two hN ls[k] (h _ (List.mem_of_getElem? hg))
    rw [hd]
    rcases h3 with ⟨h5, h6⟩ | ⟨h5, h6, h7⟩
    · refine .inr ⟨fun fs hf e => ?_, ?_⟩
      · cases fs with
        | nil => cases e
        | cons f fs => exact h6 f (hf f (by simp)) (List.cons.inj e).1.symm
      · rw [forI_rt (r := badG) (by rw [hi, bnd_s, h1, bnd_s, if_pos (by simpa using h5)]; rfl)]
    · have hgo := fun (b : Nat → List Formula → Option (Ctl (List Formula) (Gadgets × Int))) (hb : b = fun (k109 : Nat) (s103 : (List Formula)) =>
          bnd (ix (ls.map bstr) (k109 : Int)) fun z115 =>
          bnd (spec_ReadFormula N z115) fun z120 =>
          if (z120.2 != 0) then
           some (.ret ((Gadgets.mk ([])), 5))
          else
           bnd (ap s103 ([(Formula.mk z120.1.free z120.1.vars z120.1.atoms)])) fun z134 =>
           some (.go z134)) => forI_go (b := b) (m := m) (k := k) (s := s) (s' := s ++ [r.1]) (by
        subst hb
        dsimp only
        rw [hi, bnd_s, h1, bnd_s, h7, if_neg (by simp), ap_eq (by simp only [List.length_cons, List.length_nil]; omega), bnd_s])
      rw [hgo _ rfl]
      rcases lines_loopS hN ls h m (k + 1) (s ++ [r.1]) (by omega) (by rw [List.length_append, List.length_singleton]; omega) with ⟨fs, e1, e2, e3⟩ | ⟨e1, e2⟩
      · refine .inl ⟨r.1 :: fs, by rw [List.map_cons, h6, e1], fun f hf => ?_, by rw [e3, List.append_assoc]; rfl⟩
        rcases List.mem_cons.1 hf with rfl | hf
        · exact h5
        · exact e2 f hf
      · refine .inr ⟨fun fs hf e => ?_, e2⟩
        cases fs with
        | nil => cases e
        | cons f fs => exact e1 fs (fun g hg => hf g (by simp [hg])) (List.cons.inj e).2
theorem RG_spec {N : Nat} (hN : 20 ≤ N) {l : List UInt8} (hl : l.length ≤ 20000) (hne : l ≠ []) : ∃ r, spec_ReadGadgets N (bstr l) = some r ∧ (r = badG ∨ (gadW r.1 = true ∧ gadT r.1 = l ∧ r.2 = 0)) ∧ ∀ g, gadW g = true → gadT g = l → r = (g, 0) := by
  unfold spec_ReadGadgets
  have h0 : (l == []) = false := by rw [beq_eq_false_iff_ne]; exact hne
  rw [bstr_size, if_neg (by simp; omega), sEq_b, h0, if_neg (by simp), l01Split_eq (by omega), bnd_s, List.length_map]
  have hm := cutAt_mem 10 l
  have hlen := cutAt_len 10 l
  have hj := join_cut 10 l
  have dec : ∀ g, gadW g = true → gadT g = l → cutAt 10 l = g.formulas.map formT ++ [[]] ∧ g.formulas.length ≤ 6 ∧ ∀ f ∈ g.formulas, formW f = true := fun g h1 h2 => by
    refine ⟨?_, ?_⟩
    · rw [gadT_lines] at h2
      rw [← h2]
      exact cut_lines 10 _ (fun x hx b hb => by
        obtain ⟨f, _, rfl⟩ := List.mem_map.1 hx
        exact formT_noline f b hb)
    · unfold gadW at h1
      rw [Bool.and_eq_true, decide_eq_true_eq] at h1
      exact ⟨by omega, List.all_eq_true.1 h1.2⟩
  have hne2 := cutAt_ne 10 l
  generalize cutAt 10 l = ls at *
  have h1 : 1 ≤ ls.length := by cases ls with | nil => exact absurd rfl hne2 | cons _ _ => simp
  by_cases h7 : (7 : Int) < (ls.length : Int)
  · rw [if_pos (decide_eq_true h7), thn_nx, if_pos rfl]
    refine ⟨_, rfl, .inl rfl, fun g a1 a2 => ?_⟩
    obtain ⟨e1, e2, _⟩ := dec g a1 a2
    have := congrArg List.length e1
    simp at this
    omega
  have hlast : ls[ls.length - 1]? = some ls[ls.length - 1] := List.getElem?_eq_getElem (by omega)
  have e : (ls.length : Int) - 1 = ((ls.length - 1 : Nat) : Int) := by omega
  rw [if_neg (by simpa using h7), e, ck_eq (by omega) (by omega), bnd_s, ix_nat (by rw [List.getElem?_map, hlast]; rfl), bnd_s, thn_nx, sEq_b]
  by_cases hl0 : ls[ls.length - 1] = []
  case neg =>
    have : (ls[ls.length - 1] == []) = false := by rw [beq_eq_false_iff_ne]; exact hl0
    rw [this, if_pos (by rfl)]
    refine ⟨_, rfl, .inl rfl, fun g a1 a2 => ?_⟩
    obtain ⟨e1, e2, _⟩ := dec g a1 a2
    exfalso
    apply hl0
    have h9 : ls.length - 1 = (g.formulas.map formT).length := by rw [e1]; simp
    have h10 : ls[ls.length - 1]? = some [] := by rw [h9, e1, List.getElem?_append_right (Nat.le_refl _)]; simp
    rw [hlast] at h10
    exact Option.some.inj h10
  have hs : ls = ls.take (ls.length - 1) ++ [[]] := by
    conv => lhs; rw [← List.take_append_drop (ls.length - 1) ls]
    rw [List.drop_eq_getElem_cons (by omega), hl0, List.drop_eq_nil_of_le (by omega)]
  rw [hl0, show (([] : List UInt8) == []) = true from rfl, if_neg (by simp), bnd_s]
  rcases lines_loopS hN ls (fun x hx => by have := hm x hx; omega) (ls.length - 1) 0 [] (by omega) (by simp only [List.length_nil]; omega) with ⟨fs, e1, e2, e3⟩ | ⟨e1, e2⟩
  · rw [Int.toNat_natCast, e3, thn_nx, List.nil_append]
    rw [List.drop_zero] at e1
    rw [e1] at hs
    refine ⟨_, rfl, .inr ⟨?_, ?_, rfl⟩, fun g a1 a2 => ?_⟩
    · unfold gadW
      rw [Bool.and_eq_true, decide_eq_true_eq]
      refine ⟨?_, List.all_eq_true.2 e2⟩
      have := congrArg List.length hs
      simp at this
      show ((fs.length : Nat) : Int) ≤ 6
      omega
    · rw [gadT_lines, ← hj, hs, join_lines]
    · obtain ⟨d1, _, d3⟩ := dec g a1 a2
      have := List.append_cancel_right (hs.symm.trans d1)
      rw [formT_map_inj e2 d3 this]
  · rw [Int.toNat_natCast, e2, thn_ret]
    refine ⟨_, rfl, .inl rfl, fun g a1 a2 => ?_⟩
    obtain ⟨d1, _, d3⟩ := dec g a1 a2
    rw [List.drop_zero] at e1
    exact absurd (List.append_cancel_right (hs.symm.trans d1)) (e1 _ d3)
/-- Both read the same. -/
theorem RG_two {N : Nat} (hN : 20 ≤ N) (l : List UInt8) (hl : l.length ≤ 1048576) : ∃ r : Gadgets × Int, spec_ReadGadgets N (bstr l) = some r ∧ impl_ReadGadgets (bstr l) = some r ∧ (r.1 = ⟨[]⟩ ∨ gadW r.1 = true) := by
  by_cases h : l.length ≤ 20000
  · by_cases hne : l = []
    · subst hne
      refine ⟨(⟨[]⟩, 0), ?_, ?_, .inl rfl⟩
      · unfold spec_ReadGadgets
        rw [bstr_size, if_neg (by simp), sEq_b, if_pos (by rfl)]
      · unfold impl_ReadGadgets
        rw [bstr_size, if_neg (by simp), sEq_b, if_pos (by rfl)]
    · obtain ⟨r1, a1, a2, a3⟩ := RG_spec hN h hne
      obtain ⟨r2, b1, b2, b3⟩ := RG_impl hN h hne
      by_cases hex : ∃ g, gadW g = true ∧ gadT g = l
      · obtain ⟨g, h1, h2⟩ := hex
        have e1 := a3 g h1 h2
        have e2 := b3 g h1 h2
        subst e1 e2
        exact ⟨(g, 0), a1, b1, .inr h1⟩
      · have e1 : r1 = badG := a2.resolve_right (fun h => hex ⟨_, h.1, h.2.1⟩)
        have e2 : r2 = badG := b2.resolve_right (fun h => hex ⟨_, h.1, h.2.1⟩)
        subst e1 e2
        exact ⟨badG, a1, b1, .inl rfl⟩
  · refine ⟨(⟨[]⟩, 2), ?_, ?_, .inl rfl⟩
    · unfold spec_ReadGadgets
      rw [bstr_size, if_pos (decide_eq_true (by omega))]
    · unfold impl_ReadGadgets
      rw [bstr_size, if_pos (decide_eq_true (by omega))]
/-! How many numbers -/
theorem sum_le {α : Type} (c : α → Nat) (B : Nat) : ∀ (l : List α), (∀ x ∈ l, c x ≤ B) → cntS c l ≤ B * l.length
  | [], _ => by simp [cntS]
  | x :: r, h => by
    have := sum_le c B r (fun y hy => h y (by simp [hy]))
    have := h x (by simp)
    rw [cntS_cons, List.length_cons, Nat.mul_succ]
    omega
theorem gad_cnt {g : Gadgets} (h : g = ⟨[]⟩ ∨ gadW g = true) : g.cnt ≤ 10000 := by
  rcases h with rfl | h
  · decide
  · unfold gadW at h
    rw [Bool.and_eq_true, decide_eq_true_eq] at h
    have hf : ∀ f ∈ g.formulas, f.ecnt ≤ 1000 := fun f hf => by
      have hw := List.all_eq_true.1 h.2 f hf
      obtain ⟨_, _, _, f4, f5, f6⟩ := formW_spec hw
      have ha : ∀ a ∈ f.atoms, a.ecnt ≤ 40 := fun a ha => by
        obtain ⟨_, _, a3, _⟩ := atomW_spec f4 (f6 a ha)
        have h4 : cntS cI a.args ≤ 1 * a.args.length := sum_le cI 1 a.args (fun x _ => Nat.le_refl _)
        unfold Atom.ecnt Atom.cnt
        omega
      have := sum_le Atom.ecnt 40 f.atoms ha
      unfold Formula.ecnt Formula.cnt
      have h5 : f.atoms.length ≤ 16 := by omega
      have : 40 * f.atoms.length ≤ 40 * 16 := Nat.mul_le_mul_left _ h5
      omega
    have := sum_le Formula.ecnt 1000 g.formulas hf
    unfold Gadgets.cnt
    have : 1000 * g.formulas.length ≤ 1000 * 6 := Nat.mul_le_mul_left _ (by omega)
    omega
end Go.Proofs.YtbgkhipclkhlcaaGreatDoor
