/-
  Plain laws: an operation kept by a template; classes of templates.
-/
import Derived.Test.YtmfichdcomaaeaaM7
namespace Go.Proofs.Ytmfichdcomaaeaa
set_option linter.unusedVariables false
set_option linter.unusedSimpArgs false

theorem keeps_eq {N : Nat} {o : Op} {x : Rel} {m n : Nat} (hN : 10 ≤ N) (ho : OpOk o m) (har : x.arity = n) (hn : 1 ≤ n ∧ n ≤ 4) (hT : ∀ t ∈ x.tuples, Bits t ∧ t.length = n) (hlen : x.tuples.length ≤ 1048576)
    (hs : ∀ j t u, x.tuples[j]? = some t → x.tuples[j + 1]? = some u → cmpM t u < 0) : ∃ b, spec_l02Keeps N 2 o x = some b ∧ impl_keeps N 2 o x = some b := by
  obtain ⟨n', rfl⟩ : ∃ n', n = n' + 1 := ⟨n - 1, by omega⟩
  have hm1 := ho.m1
  have hm3 := ho.m3
  obtain ⟨p1, p2⟩ := powers n' (N := N) hN (by omega)
  have har' : x.arity = (n' : Int) + 1 := by omega
  have h16 : 2 ^ (n' + 1) ≤ 16 := by
    have : ∀ k : Nat, k < 4 → 2 ^ (k + 1) ≤ 16 := by decide
    exact this n' (by omega)
  obtain ⟨S, hSd⟩ : ∃ S, S = setOf x.tuples (List.replicate (2 ^ (n' + 1)) false) := ⟨_, rfl⟩
  have hSl : S.length = 2 ^ (n' + 1) := by rw [hSd, setOf_length, List.length_replicate]
  have hz : mkz (false : Bool) ((2 ^ (n' + 1) : Nat) : Int) = some (List.replicate (2 ^ (n' + 1)) false) := by
    unfold mkz
    rw [if_pos ⟨by omega, by omega⟩, Int.toNat_natCast]
  have hset : spec_l01SetOf N 2 x = some (2, (n' : Int) + 1, S) := by
    unfold spec_l01SetOf spec_l01Empty
    rw [har', p2, bnd_s, hz, bnd_s, bnd_s]
    rw [set_loop (n := n' + 1) (by omega) x.tuples 0 _ hT (by rw [List.length_replicate]), thn_nx, ← hSd]
  obtain ⟨p, q1, q2, q3, q4, q5⟩ := pow_any (T := (x.tuples.length : Int)) (m := m) (N := N) (by omega) (by omega) ⟨hm1, hm3⟩ (by omega)
  have hF : spec_l02Breaks N 2 o x = thn (forI (FB N o x S) p.toNat 0 ()) (fun _ => some ([], [], false)) := by
    unfold spec_l02Breaks
    rw [hset, bnd_s, show spec_l01Power N (x.tuples.length : Int) o.arity = some p by rw [ho.ar]; exact q2, bnd_s]
    rfl
  have hrd : ∀ k, k < 0 + p.toNat → 1 ≤ x.tuples.length ∧ (k : Int) ≤ 9223372036854775807 := fun k hk => by
    refine ⟨?_, by omega⟩
    rcases Nat.eq_zero_or_pos x.tuples.length with h | h
    · have := q5 (by omega); omega
    · exact h
  by_cases hfull : (x.tuples.length : Int) = ((2 ^ (n' + 1) : Nat) : Int)
  · have hfull' : x.tuples.length = 2 ^ (n' + 1) := by omega
    have hall : ∀ v, v < 2 ^ (n' + 1) → S[v]? = some true := by
      have hat : ∀ j, j < 2 ^ (n' + 1) → x.tuples[j]? = some (x.tuples.getD j []) := fun j hj => by
        have : x.tuples[j]? = some (x.tuples[j]'(by omega)) := List.getElem?_eq_getElem (by omega)
        rw [List.getD_eq_getElem?_getD, this]; rfl
      have hbd : ∀ j, j < 2 ^ (n' + 1) → 0 ≤ codeN (x.tuples.getD j []) ∧ codeN (x.tuples.getD j []) < ((2 ^ (n' + 1) : Nat) : Int) := fun j hj => by
        obtain ⟨b1, b2⟩ := hT _ (List.mem_of_getElem? (hat j hj))
        have := code_eq b1 (by omega)
        rw [b2] at this
        exact this.2
      have hr := rising (T := 2 ^ (n' + 1)) (fun j => (codeN (x.tuples.getD j [])).toNat) (fun j hj => by
        obtain ⟨b1, b2⟩ := hT _ (List.mem_of_getElem? (hat j (by omega)))
        obtain ⟨d1, d2⟩ := hT _ (List.mem_of_getElem? (hat (j + 1) hj))
        have h1 := code_lt b1 d1 (by omega) (by omega) (hs j _ _ (hat j (by omega)) (hat (j + 1) hj))
        have h2 := hbd j (by omega)
        have h3 := hbd (j + 1) hj
        show (codeN (x.tuples.getD j [])).toNat < (codeN (x.tuples.getD (j + 1) [])).toNat
        omega) (fun j hj => by
        have := hbd j hj
        show (codeN (x.tuples.getD j [])).toNat < _
        omega)
      intro v hv
      have h1 := setOf_mem x.tuples (List.replicate (2 ^ (n' + 1)) false) _ (List.mem_of_getElem? (hat v hv)) (by
        rw [List.length_replicate]
        have := hbd v hv
        omega)
      rw [show (codeN (x.tuples.getD v [])).toNat = v from hr v hv, ← hSd] at h1
      exact h1
    have hgo : forI (FB N o x S) p.toNat 0 () = some (.nx ()) := forI_allgo (fun k hk0 hk => by
      obtain ⟨r1, r2⟩ := hrd k hk
      obtain ⟨R, b, e, sel, e1, e2, e3, e4, e5, e6⟩ := round (N := N) (k := k) hN ho hn hT r1 r2 hSl
      rw [hall _ (by omega)] at e6
      rw [e1, ← Option.some.inj e6]
      rfl)
    refine ⟨true, ?_, ?_⟩
    · unfold spec_l02Keeps
      rw [hF, hgo]
      rfl
    · unfold impl_keeps impl_broken
      rw [show (Rel.mk x.arity x.tuples) = x from rfl, har', p1, bnd_s]
      rw [if_pos (by simpa using hfull)]
      rfl
  · have hG : impl_broken N 2 o x = thn (forI (GB N o x S) p.toNat 0 ()) (fun _ => some ([], [])) := by
      unfold impl_broken
      rw [har', p1, bnd_s, if_neg (by simpa using hfull), hz, bnd_s]
      rw [indexOf_eq, set_loop (n := n' + 1) (by omega) x.tuples 0 _ hT (by rw [List.length_replicate]), thn_nx, ← hSd]
      rw [show impl_power (x.tuples.length : Int) o.arity = some p by rw [ho.ar]; exact q1, bnd_s]
      rfl
    have hG' : impl_broken N 2 (Op.mk o.arity o.table) (Rel.mk x.arity x.tuples) = thn (forI (GB N o x S) p.toNat 0 ()) (fun _ => some ([], [])) := hG
    rcases forI_rel (f := FB N o x S) (g := GB N o x S) (m := p.toNat) (k := 0) (fun r => r.2.2 = true) (fun r => r.2 ≠ []) (fun k hk0 hk => by
      obtain ⟨r1, r2⟩ := hrd k hk
      obtain ⟨R, b, e, sel, e1, e2, e3, e4, e5, e6⟩ := round (N := N) (k := k) hN ho hn hT r1 r2 hSl
      cases b with
      | true => exact .inl ⟨e1, e2⟩
      | false => exact .inr ⟨_, _, e1, e2, rfl, e3⟩) with ⟨h1, h2⟩ | ⟨r, r', h1, h2, h3, h4⟩
    · refine ⟨true, ?_, ?_⟩
      · unfold spec_l02Keeps; rw [hF, h1]; rfl
      · unfold impl_keeps; rw [hG', h2]; rfl
    · refine ⟨false, ?_, ?_⟩
      · unfold spec_l02Keeps
        rw [hF, h1]
        show bnd (some r) _ = _
        simp [h3]
      · unfold impl_keeps
        rw [hG', h2]
        show bnd (some r') _ = _
        simp [h4]
theorem classOp_ok {k : Int} (h1 : 1 ≤ k) (h6 : k ≤ 6) : spec_l09Op k = some (classOpL k) ∧ impl_classOp k = some (classOpL k) ∧ ∃ m, OpOk (classOpL k) m := by
  have hi : impl_classOp k = some (classOpL k) := by unfold impl_classOp; rw [if_pos ⟨h1, h6⟩]
  have hb : ∀ l : List Int, (l.all fun a => decide (0 ≤ a) && decide (a ≤ 1)) = true → Bits l := fun l h a ha => by simpa using List.all_eq_true.1 h a ha
  rcases class_kinds h1 h6 with rfl | rfl | rfl | rfl | rfl | rfl
  · exact ⟨rfl, hi, 1, ⟨rfl, by decide, by decide, rfl, hb _ (by decide)⟩⟩
  · exact ⟨rfl, hi, 1, ⟨rfl, by decide, by decide, rfl, hb _ (by decide)⟩⟩
  · exact ⟨rfl, hi, 2, ⟨rfl, by decide, by decide, rfl, hb _ (by decide)⟩⟩
  · exact ⟨rfl, hi, 2, ⟨rfl, by decide, by decide, rfl, hb _ (by decide)⟩⟩
  · exact ⟨rfl, hi, 3, ⟨rfl, by decide, by decide, rfl, hb _ (by decide)⟩⟩
  · exact ⟨rfl, hi, 3, ⟨rfl, by decide, by decide, rfl, hb _ (by decide)⟩⟩
theorem relB_sorted {s : Int} {x : Rel} (hN : x.tuples.length ≤ 1048576) (h : relB' s x = true) : ∀ j t u, x.tuples[j]? = some t → x.tuples[j + 1]? = some u → cmpM t u < 0 := by
  obtain ⟨b, h1, h2, h3⟩ := relOkS s x hN
  have : relB' s x = b := by unfold relB'; rw [h2]; rfl
  rw [this] at h
  exact (h3 h).2.2.2
theorem keepsT {N : Nat} {x : Template} (hN : 10 ≤ N) (hx : smallT x) (hv : tempB x = true) (h2 : x.size = 2) {o : Op} {m : Nat} (ho : OpOk o m) : ∀ r ∈ x.rels, ∃ b, spec_l02Keeps N x.size o r = some b ∧ impl_keeps N x.size o r = some b := by
  intro r hr
  obtain ⟨_, _, h3⟩ := tempB_spec hx hv
  obtain ⟨h4, h5⟩ := h3 r hr
  have ha := okS_eq h4
  obtain ⟨n, hn⟩ : ∃ n : Nat, r.arity = n := ⟨r.arity.toNat, by omega⟩
  rw [h2] at h5 ⊢
  have hrel : relB' 2 r = true := by
    have := hv
    unfold tempB at this
    simp only [Bool.and_eq_true, List.all_eq_true] at this
    rw [h2] at this
    exact this.2.2 r hr
  exact keeps_eq hN ho hn (by omega) (fun t ht => by
    have h := h5 t ht
    unfold areB at h
    rw [hn] at h
    simp only [Bool.and_eq_true, List.all_eq_true, beq_iff_eq] at h
    refine ⟨fun a ha => ?_, by omega⟩
    have := h.2 a ha
    unfold okV at this
    simp at this
    omega) (hx r hr) (relB_sorted (hx r hr) hrel)
theorem is_eq {N : Nat} {x : Template} (hN : 10 ≤ N) (hx : smallT x) (hv : tempB x = true) (h2 : x.size = 2) {k : Int} (h1 : 1 ≤ k) (h6 : k ≤ 6) : ∃ b, spec_l09Is N x k = some b ∧ impl_classOp k = some (classOpL k) ∧ impl_isKept N x (classOpL k) = some b := by
  obtain ⟨c1, c2, m, ho⟩ := classOp_ok h1 h6
  have hk := keepsT hN hx hv h2 ho
  obtain ⟨kp, hkp⟩ : ∃ kp : Rel → Bool, kp = fun r => (impl_keeps N x.size (classOpL k) r).getD false := ⟨_, rfl⟩
  have hk1 : ∀ r ∈ x.rels, spec_l02Keeps N x.size (classOpL k) r = some (kp r) ∧ impl_keeps N x.size (classOpL k) r = some (kp r) := fun r hr => by
    obtain ⟨b, e1, e2⟩ := hk r hr
    have : kp r = b := by rw [hkp]; show (impl_keeps N x.size (classOpL k) r).getD false = b; rw [e2]; rfl
    rw [this]
    exact ⟨e1, e2⟩
  have hs : spec_l02First N x (classOpL k) = thn (some (outO (fnd (fun i r => if !kp r then some (i : Int) else none) x.rels 0))) (fun _ => some (-1)) := by
    unfold spec_l02First
    rw [forL_fnd (fun i r => if !kp r then some (i : Int) else none) (fun j r hj => by
      simp only [(hk1 r (List.mem_of_getElem? hj)).1, bnd_s]
      by_cases hv : kp r = true
      · simp [hv, ctlO]
      · simp [hv, ctlO])]
  have hi : impl_firstBroken N x (classOpL k) = thn (some (outO (fnd (fun i r => if !kp r then some (i : Int) else none) x.rels 0))) (fun _ => some (-1)) := by
    unfold impl_firstBroken slices_IndexFunc_s_Rel_Rel
    rw [forL_fnd (fun i r => if !kp r then some (i : Int) else none) (fun j r hj => by
      have hb : impl_firstBroken_1 N r (Template.mk x.size x.rels) (Op.mk (classOpL k).arity (classOpL k).table) = some (!kp r) := by
        unfold impl_firstBroken_1
        rw [show impl_keeps N (Template.mk x.size x.rels).size (Op.mk (classOpL k).arity (classOpL k).table) (Rel.mk r.arity r.tuples) = some (kp r) from (hk1 r (List.mem_of_getElem? hj)).2]
        rfl
      simp only [hb, bnd_s]
      by_cases hv : kp r = true
      · simp [hv, ctlO]
      · simp [hv, ctlO])]
    cases fnd (fun i r => if !kp r then some (i : Int) else none) x.rels 0 <;> rfl
  obtain ⟨z, hz⟩ : ∃ z : Int, thn (some (outO (fnd (fun i r => if !kp r then some (i : Int) else none) x.rels 0))) (fun _ => some (-1)) = some z := by
    cases fnd (fun i r => if !kp r then some (i : Int) else none) x.rels 0 with
    | none => exact ⟨-1, rfl⟩
    | some i => exact ⟨i, rfl⟩
  rw [hz] at hs hi
  refine ⟨decide (z < 0), ?_, c2, ?_⟩
  · unfold spec_l09Is
    rw [c1, bnd_s, show Op.mk (classOpL k).arity (classOpL k).table = classOpL k from rfl, hs]
    rfl
  · unfold impl_isKept
    rw [show Op.mk (classOpL k).arity (classOpL k).table = classOpL k from rfl, show Template.mk x.size x.rels = x from rfl, hi]
    rfl
def fault (x : Template) (k : Int) : Int := if !tempB x then 1 else if x.size != 2 then 4 else if !(decide (1 ≤ k) && decide (k ≤ 6)) then 2 else 0
theorem l09Two_eq {x : Template} (hx : smallT x) (k : Int) : spec_l09Two x k = some (fault x k) := by
  unfold spec_l09Two fault spec_l09Class
  rw [l01Template_eq x hx, l00In_eq]
  simp only [bnd_s]
  split
  · rfl
  · split
    · rfl
    · split <;> rfl
theorem classFault_eq {x : Template} (hx : smallT x) (k : Int) : impl_classFault x k = some (fault x k) := by
  unfold impl_classFault fault impl_isClass
  rw [show Template.mk x.size x.rels = x from rfl, ValidTemplate_eq x hx, within_eq]
  simp only [bnd_s]
  split
  · rfl
  · split
    · rfl
    · split <;> rfl
theorem fault_zero {x : Template} {k : Int} (h : fault x k = 0) : tempB x = true ∧ x.size = 2 ∧ 1 ≤ k ∧ k ≤ 6 := by
  unfold fault at h
  split at h
  · omega
  · rename_i h1
    split at h
    · omega
    · rename_i h2
      split at h
      · omega
      · rename_i h3
        simp at h1 h2 h3
        exact ⟨h1, h2, h3.1, h3.2⟩
theorem IsOfClass_eq {N : Nat} {x : Template} (hN : 10 ≤ N) (hx : smallT x) (k : Int) : ∃ b c, spec_IsOfClass N x k = some (b, c) ∧ impl_IsOfClass N x k = some (b, c) := by
  unfold spec_IsOfClass impl_IsOfClass
  rw [show Template.mk x.size x.rels = x from rfl, l09Two_eq hx, classFault_eq hx]
  simp only [bnd_s]
  by_cases hf : fault x k = 0
  · obtain ⟨h1, h2, h3, h4⟩ := fault_zero hf
    obtain ⟨b, e1, e2, e3⟩ := is_eq hN hx h1 h2 h3 h4
    exact ⟨b, 0, by simp [hf, e1], by simp [hf, e2, e3]⟩
  · exact ⟨false, fault x k, by simp [hf], by simp [hf]⟩
/-- Two while loops with a counter do the same. -/
theorem whl_two {α ρ : Type} {f g : List α × Int → Option (Ctl (List α × Int) ρ)} (B : Int) (h1 : ∀ s (c : Int), 1 ≤ c → c < B → (s.length : Int) ≤ c → ∃ s', f (s, c) = some (.go (s', c + 1)) ∧ g (s, c) = some (.go (s', c + 1)) ∧ s'.length ≤ s.length + 1)
    (h2 : ∀ s, f (s, B) = some (.brk (s, B)) ∧ g (s, B) = some (.brk (s, B))) : ∀ (d N : Nat) (c : Int) s, c + d = B → 1 ≤ c → (s.length : Int) ≤ c → d + 1 ≤ N → ∃ s', whl f N (s, c) = some (.nx (s', B)) ∧ whl g N (s, c) = some (.nx (s', B)) ∧ (s'.length : Int) ≤ B
  | 0, N, c, s, hc, _, hs, hN => by
    obtain ⟨M, rfl⟩ : ∃ M, N = M + 1 := ⟨N - 1, by omega⟩
    obtain rfl : c = B := by omega
    exact ⟨s, whl_brk (h2 s).1, whl_brk (h2 s).2, hs⟩
  | d + 1, N, c, s, hc, h0, hs, hN => by
    obtain ⟨M, rfl⟩ : ∃ M, N = M + 1 := ⟨N - 1, by omega⟩
    obtain ⟨s', e1, e2, e3⟩ := h1 s c h0 (by omega) hs
    rw [whl_go e1, whl_go e2]
    exact whl_two B h1 h2 d M (c + 1) s' (by omega) (by omega) (by omega) (by omega)
theorem ClassesOf_eq {N : Nat} {x : Template} (hN : 10 ≤ N) (hx : smallT x) : ∃ l c, spec_ClassesOf N x = some (l, c) ∧ impl_ClassesOf N x = some (l, c) ∧ l.length ≤ 7 := by
  unfold spec_ClassesOf impl_ClassesOf
  rw [show Template.mk x.size x.rels = x from rfl, l09Two_eq hx, classFault_eq hx]
  simp only [bnd_s]
  by_cases hf : fault x 1 = 0
  · obtain ⟨v1, v2, _, _⟩ := fault_zero hf
    have hne : (fault x 1 != 0) = false := by simp [hf]
    simp only [hne, Bool.false_eq_true, if_false]
    obtain ⟨s', e1, e2, e3⟩ := whl_two (α := Int) (ρ := (List Int) × Int) (f := fun (s : (List Int) × Int) =>
        match s with
        | (s72, s77) =>
          if (decide (s77 ≤ 6)) then
            bnd (spec_l09Is N x s77) fun z95 =>
            if z95 then
              bnd (ap s72 ([s77])) fun z106 =>
              bnd (ck (s77 + 1)) fun z114 =>
              some (.go (z106, z114))
            else
              bnd (ck (s77 + 1)) fun z116 =>
              some (.go (s72, z116))
          else
            some (.brk (s72, s77)))
      (g := fun (s : (List Int) × Int) =>
        match s with
        | (s78, s83) =>
          bnd (impl_isClass s83) fun z100 =>
          if z100 then
            bnd (impl_classOp s83) fun z104 =>
            bnd (impl_isKept N x z104) fun z110 =>
            if z110 then
              bnd (ap s78 ([s83])) fun z121 =>
              bnd (ck (s83 + 1)) fun z129 =>
              some (.go (z121, z129))
            else
              bnd (ck (s83 + 1)) fun z131 =>
              some (.go (s78, z131))
          else
            some (.brk (s78, s83))) 7
      (fun s c hc1 hc2 hs => by
        obtain ⟨b, b1, b2, b3⟩ := is_eq hN hx v1 v2 hc1 (show c ≤ 6 by omega)
        have h6 : c ≤ 6 := by omega
        have hcl : impl_isClass c = some true := by unfold impl_isClass; rw [within_eq]; simp [hc1, h6]
        have hap : ap s [c] = some (s ++ [c]) := ap_eq (by simp; omega)
        cases b with
        | true => exact ⟨s ++ [c], by simp [h6, b1, hap, ck_eq (x := c + 1) (by omega) (by omega)], by simp [hcl, b2, b3, hap, ck_eq (x := c + 1) (by omega) (by omega)], by simp⟩
        | false => exact ⟨s, by simp [h6, b1, ck_eq (x := c + 1) (by omega) (by omega)], by simp [hcl, b2, b3, ck_eq (x := c + 1) (by omega) (by omega)], by omega⟩)
      (fun s => by
        have hcl : impl_isClass 7 = some false := by unfold impl_isClass; rw [within_eq]; rfl
        exact ⟨by simp, by simp [hcl]⟩) 6 N 1 [] (by omega) (by omega) (by simp) (by omega)
    rw [e1, e2]
    exact ⟨s', 0, rfl, rfl, by omega⟩
  · have hne : (fault x 1 != 0) = true := by simp [hf]
    simp only [hne, if_true]
    exact ⟨[], fault x 1, rfl, rfl, by simp⟩
end Go.Proofs.Ytmfichdcomaaeaa
