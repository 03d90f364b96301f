/-
  Plain laws: an operation kept by a template; classes of templates.
-/
import Derived.Test.YtfepllddlmhjiaaM7
import Derived.Test.YtfepllddlmhjiaaX6
namespace Go.Proofs.Ytfepllddlmhjiaa
set_option linter.unusedVariables false
set_option linter.unusedSimpArgs false

theorem broken_eq {N : Nat} {o : Op} {x : Rel} {m n : Nat} (hN : 10 ≤ N) (ho : OpOk o m) (har : x.arity = n) (hn : 1 ≤ n ∧ n ≤ 4) (hT : ∀ t ∈ x.tuples, Bits t ∧ t.length = n) (hlen : x.tuples.length ≤ 1048576)
    (hs : ∀ j t u, x.tuples[j]? = some t → x.tuples[j + 1]? = some u → cmpM t u < 0) : ∃ sel R, spec_l02Breaks N 2 o x = some (sel, R, !R.isEmpty) ∧ impl_broken N 2 o x = some (sel, R) ∧ sel.length ≤ 3 ∧ (∀ t ∈ sel, t.length ≤ 4) ∧ R.length ≤ 4 := by
  obtain ⟨n', rfl⟩ : ∃ n', n = n' + 1 := ⟨n - 1, by omega⟩
  have hm1 := ho.m1
  have hm3 := ho.m3
  obtain ⟨p1, p2⟩ := powers n' (N := N) hN (by omega)
  have har' : x.arity = (n' : Int) + 1 := by omega
  have h16 : 2 ^ (n' + 1) ≤ 16 := by
    have : ∀ k : Nat, k < 4 → 2 ^ (k + 1) ≤ 16 := by decide
    exact this n' (by omega)
  obtain ⟨S, hSd⟩ : ∃ S, S = setOf x.tuples (List.replicate (2 ^ (n' + 1)) false) := ⟨_, rfl⟩
  have hSl : S.length = 2 ^ (n' + 1) := by rw [hSd, setOf_length, List.length_replicate]
  have hz : mkz (false : Bool) ((2 ^ (n' + 1) : Nat) : Int) = some (List.replicate (2 ^ (n' + 1)) false) := by
    unfold mkz
    rw [if_pos ⟨by omega, by omega⟩, Int.toNat_natCast]
  have hset : spec_l01SetOf N 2 x = some (2, (n' : Int) + 1, S) := by
    unfold spec_l01SetOf spec_l01Empty
    rw [har', p2, bnd_s, hz, bnd_s, bnd_s]
    rw [set_loop (n := n' + 1) (by omega) x.tuples 0 _ hT (by rw [List.length_replicate]), thn_nx, ← hSd]
  obtain ⟨p, q1, q2, q3, q4, q5⟩ := pow_any (T := (x.tuples.length : Int)) (m := m) (N := N) (by omega) (by omega) ⟨hm1, hm3⟩ (by omega)
  have hF : spec_l02Breaks N 2 o x = thn (forI (FB N o x S) p.toNat 0 ()) (fun _ => some ([], [], false)) := by
    unfold spec_l02Breaks
    rw [hset, bnd_s, show spec_l01Power N (x.tuples.length : Int) o.arity = some p by rw [ho.ar]; exact q2, bnd_s]
    rfl
  have hrd : ∀ k, k < 0 + p.toNat → 1 ≤ x.tuples.length ∧ (k : Int) ≤ 9223372036854775807 := fun k hk => by
    refine ⟨?_, by omega⟩
    rcases Nat.eq_zero_or_pos x.tuples.length with h | h
    · have := q5 (by omega); omega
    · exact h
  by_cases hfull : (x.tuples.length : Int) = ((2 ^ (n' + 1) : Nat) : Int)
  · have hfull' : x.tuples.length = 2 ^ (n' + 1) := by omega
    have hall : ∀ v, v < 2 ^ (n' + 1) → S[v]? = some true := by
      have hat : ∀ j, j < 2 ^ (n' + 1) → x.tuples[j]? = some (x.tuples.getD j []) := fun j hj => by
        have : x.tuples[j]? = some (x.tuples[j]'(by omega)) := List.getElem?_eq_getElem (by omega)
        rw [List.getD_eq_getElem?_getD, this]; rfl
      have hbd : ∀ j, j < 2 ^ (n' + 1) → 0 ≤ codeN (x.tuples.getD j []) ∧ codeN (x.tuples.getD j []) < ((2 ^ (n' + 1) : Nat) : Int) := fun j hj => by
        obtain ⟨b1, b2⟩ := hT _ (List.mem_of_getElem? (hat j hj))
        have := code_eq b1 (by omega)
        rw [b2] at this
        exact this.2
      have hr := rising (T := 2 ^ (n' + 1)) (fun j => (codeN (x.tuples.getD j [])).toNat) (fun j hj => by
        obtain ⟨b1, b2⟩ := hT _ (List.mem_of_getElem? (hat j (by omega)))
        obtain ⟨d1, d2⟩ := hT _ (List.mem_of_getElem? (hat (j + 1) hj))
        have h1 := code_lt b1 d1 (by omega) (by omega) (hs j _ _ (hat j (by omega)) (hat (j + 1) hj))
        have h2 := hbd j (by omega)
        have h3 := hbd (j + 1) hj
        show (codeN (x.tuples.getD j [])).toNat < (codeN (x.tuples.getD (j + 1) [])).toNat
        omega) (fun j hj => by
        have := hbd j hj
        show (codeN (x.tuples.getD j [])).toNat < _
        omega)
      intro v hv
      have h1 := setOf_mem x.tuples (List.replicate (2 ^ (n' + 1)) false) _ (List.mem_of_getElem? (hat v hv)) (by
        rw [List.length_replicate]
        have := hbd v hv
        omega)
      rw [show (codeN (x.tuples.getD v [])).toNat = v from hr v hv, ← hSd] at h1
      exact h1
    have hgo : forI (FB N o x S) p.toNat 0 () = some (.nx ()) := forI_allgo (fun k hk0 hk => by
      obtain ⟨r1, r2⟩ := hrd k hk
      obtain ⟨R, b, sel, e1, e2, e3, e4, e5, e6, e7, e8, e9⟩ := round (N := N) (k := k) hN ho hn hT r1 r2 hSl
      rw [hall _ (by omega)] at e6
      rw [e1, ← Option.some.inj e6]
      rfl)
    refine ⟨[], [], ?_, ?_, by simp, (fun t ht => nomatch ht), by simp⟩
    · rw [hF, hgo]
      rfl
    · unfold impl_broken
      rw [har', p1, bnd_s]
      rw [if_pos (by simpa using hfull)]
  · have hG : impl_broken N 2 o x = thn (forI (GB N o x S) p.toNat 0 ()) (fun _ => some ([], [])) := by
      unfold impl_broken
      rw [har', p1, bnd_s, if_neg (by simpa using hfull), hz, bnd_s]
      rw [indexOf_eq, set_loop (n := n' + 1) (by omega) x.tuples 0 _ hT (by rw [List.length_replicate]), thn_nx, ← hSd]
      rw [show impl_power (x.tuples.length : Int) o.arity = some p by rw [ho.ar]; exact q1, bnd_s]
      rfl
    rcases forI_rel (f := FB N o x S) (g := GB N o x S) (m := p.toNat) (k := 0) (fun r r' => r = (r'.1, r'.2, true) ∧ r'.2 ≠ [] ∧ r'.1.length ≤ 3 ∧ (∀ t ∈ r'.1, t.length ≤ 4) ∧ r'.2.length ≤ 4) (fun k hk0 hk => by
      obtain ⟨r1, r2⟩ := hrd k hk
      obtain ⟨R, b, sel, e1, e2, e3, e4, e5, e6, e7, e8, e9⟩ := round (N := N) (k := k) hN ho hn hT r1 r2 hSl
      cases b with
      | true => exact .inl ⟨e1, e2⟩
      | false => exact .inr ⟨_, _, e1, e2, rfl, e3, by show sel.length ≤ 3; omega, fun t ht => by have := e9 t ht; omega, by show R.length ≤ 4; omega⟩) with ⟨h1, h2⟩ | ⟨r, r', h1, h2, h3, h4, h5, h6, h7⟩
    · exact ⟨[], [], by rw [hF, h1]; rfl, by rw [hG, h2]; rfl, by simp, (fun t ht => nomatch ht), by simp⟩
    · refine ⟨r'.1, r'.2, ?_, ?_, h5, h6, h7⟩
      · rw [hF, h1, h3]
        have : r'.2.isEmpty = false := by cases hh : r'.2 with
          | nil => exact absurd hh h4
          | cons a l => rfl
        rw [this]
        rfl
      · rw [hG, h2]
        rfl
theorem keeps_of {N : Nat} {s : Int} {o : Op} {x : Rel} {sel : List (List Int)} {R : List Int} (h1 : spec_l02Breaks N s o x = some (sel, R, !R.isEmpty)) (h2 : impl_broken N s o x = some (sel, R)) : spec_l02Keeps N s o x = some R.isEmpty ∧ impl_keeps N s o x = some R.isEmpty := by
  constructor
  · unfold spec_l02Keeps
    rw [h1, bnd_s, Bool.not_not]
  · unfold impl_keeps
    rw [show Op.mk o.arity o.table = o from rfl, show Rel.mk x.arity x.tuples = x from rfl, h2]
    rfl
theorem classOp_ok {k : Int} (h1 : 1 ≤ k) (h6 : k ≤ 6) : spec_l09Op k = some (classOpL k) ∧ impl_classOp k = some (classOpL k) ∧ ∃ m, OpOk (classOpL k) m := by
  have hi : impl_classOp k = some (classOpL k) := by unfold impl_classOp; rw [if_pos ⟨h1, h6⟩]
  have hb : ∀ l : List Int, (l.all fun a => decide (0 ≤ a) && decide (a ≤ 1)) = true → Bits l := fun l h a ha => by simpa using List.all_eq_true.1 h a ha
  rcases class_kinds h1 h6 with rfl | rfl | rfl | rfl | rfl | rfl
  · exact ⟨rfl, hi, 1, ⟨rfl, by decide, by decide, rfl, hb _ (by decide)⟩⟩
  · exact ⟨rfl, hi, 1, ⟨rfl, by decide, by decide, rfl, hb _ (by decide)⟩⟩
  · exact ⟨rfl, hi, 2, ⟨rfl, by decide, by decide, rfl, hb _ (by decide)⟩⟩
  · exact ⟨rfl, hi, 2, ⟨rfl, by decide, by decide, rfl, hb _ (by decide)⟩⟩
  · exact ⟨rfl, hi, 3, ⟨rfl, by decide, by decide, rfl, hb _ (by decide)⟩⟩
  · exact ⟨rfl, hi, 3, ⟨rfl, by decide, by decide, rfl, hb _ (by decide)⟩⟩
theorem relB_sorted {s : Int} {x : Rel} (hN : x.tuples.length ≤ 1048576) (h : relB' s x = true) : ∀ j t u, x.tuples[j]? = some t → x.tuples[j + 1]? = some u → cmpM t u < 0 := by
  obtain ⟨b, h1, h2, h3⟩ := relOkS s x hN
  have : relB' s x = b := by unfold relB'; rw [h2]; rfl
  rw [this] at h
  exact (h3 h).2.2.2
theorem brokenT {N : Nat} {x : Template} (hN : 10 ≤ N) (hx : smallT x) (hv : tempB x = true) (h2 : x.size = 2) {o : Op} {m : Nat} (ho : OpOk o m) : ∀ r ∈ x.rels, ∃ sel R, spec_l02Breaks N x.size o r = some (sel, R, !R.isEmpty) ∧ impl_broken N x.size o r = some (sel, R) ∧ sel.length ≤ 3 ∧ (∀ t ∈ sel, t.length ≤ 4) ∧ R.length ≤ 4 := by
  intro r hr
  obtain ⟨_, _, h3⟩ := tempB_spec hx hv
  obtain ⟨h4, h5⟩ := h3 r hr
  have ha := okS_eq h4
  obtain ⟨n, hn⟩ : ∃ n : Nat, r.arity = n := ⟨r.arity.toNat, by omega⟩
  rw [h2] at h5 ⊢
  have hrel : relB' 2 r = true := by
    have := hv
    unfold tempB at this
    simp only [Bool.and_eq_true, List.all_eq_true] at this
    rw [h2] at this
    exact this.2.2 r hr
  exact broken_eq hN ho hn (by omega) (fun t ht => by
    have h := h5 t ht
    unfold areB at h
    rw [hn] at h
    simp only [Bool.and_eq_true, List.all_eq_true, beq_iff_eq] at h
    refine ⟨fun a ha => ?_, by omega⟩
    have := h.2 a ha
    unfold okV at this
    simp at this
    omega) (hx r hr) (relB_sorted (hx r hr) hrel)
theorem first_eq {N : Nat} {x : Template} (hN : 10 ≤ N) (hx : smallT x) (hv : tempB x = true) (h2 : x.size = 2) {k : Int} (h1 : 1 ≤ k) (h6 : k ≤ 6) : ∃ z : Int, spec_l02First N x (classOpL k) = some z ∧ impl_firstBroken N x (classOpL k) = some z ∧ (z < 0 ∨ ∃ i : Nat, z = i ∧ i < x.rels.length) := by
  obtain ⟨c1, c2, m, ho⟩ := classOp_ok h1 h6
  have hk : ∀ r ∈ x.rels, ∃ b, spec_l02Keeps N x.size (classOpL k) r = some b ∧ impl_keeps N x.size (classOpL k) r = some b := fun r hr => by
    obtain ⟨sel, R, e1, e2, _⟩ := brokenT hN hx hv h2 ho r hr
    exact ⟨_, keeps_of e1 e2⟩
  obtain ⟨kp, hkp⟩ : ∃ kp : Rel → Bool, kp = fun r => (impl_keeps N x.size (classOpL k) r).getD false := ⟨_, rfl⟩
  have hk1 : ∀ r ∈ x.rels, spec_l02Keeps N x.size (classOpL k) r = some (kp r) ∧ impl_keeps N x.size (classOpL k) r = some (kp r) := fun r hr => by
    obtain ⟨b, e1, e2⟩ := hk r hr
    have : kp r = b := by rw [hkp]; show (impl_keeps N x.size (classOpL k) r).getD false = b; rw [e2]; rfl
    rw [this]
    exact ⟨e1, e2⟩
  have hs : spec_l02First N x (classOpL k) = thn (some (outO (fnd (fun i r => if !kp r then some (i : Int) else none) x.rels 0))) (fun _ => some (-1)) := by
    unfold spec_l02First
    rw [forL_fnd (fun i r => if !kp r then some (i : Int) else none) (fun j r hj => by
      simp only [(hk1 r (List.mem_of_getElem? hj)).1, bnd_s]
      by_cases hv : kp r = true
      · simp [hv, ctlO]
      · simp [hv, ctlO])]
  have hi : impl_firstBroken N x (classOpL k) = thn (some (outO (fnd (fun i r => if !kp r then some (i : Int) else none) x.rels 0))) (fun _ => some (-1)) := by
    unfold impl_firstBroken slices_IndexFunc_s_Rel_Rel
    rw [forL_fnd (fun i r => if !kp r then some (i : Int) else none) (fun j r hj => by
      have hb : impl_firstBroken_1 N r (Template.mk x.size x.rels) (Op.mk (classOpL k).arity (classOpL k).table) = some (!kp r) := by
        unfold impl_firstBroken_1
        rw [show impl_keeps N (Template.mk x.size x.rels).size (Op.mk (classOpL k).arity (classOpL k).table) (Rel.mk r.arity r.tuples) = some (kp r) from (hk1 r (List.mem_of_getElem? hj)).2]
        rfl
      simp only [hb, bnd_s]
      by_cases hv : kp r = true
      · simp [hv, ctlO]
      · simp [hv, ctlO])]
    cases fnd (fun i r => if !kp r then some (i : Int) else none) x.rels 0 <;> rfl
  have hf : ∀ (l : List Rel) (j : Nat), fnd (fun i r => if !kp r then some (i : Int) else none) l j = none ∨ ∃ i : Nat, fnd (fun i r => if !kp r then some (i : Int) else none) l j = some (i : Int) ∧ i < j + l.length := by
    intro l
    induction l with
    | nil => intro j; exact .inl rfl
    | cons r l ih =>
      intro j
      unfold fnd
      cases hr : (!kp r) with
      | true => exact .inr ⟨j, by simp, by simp⟩
      | false =>
        rcases ih (j + 1) with h | ⟨i, h, hi⟩
        · exact .inl (by simpa using h)
        · exact .inr ⟨i, by simpa using h, by rw [List.length_cons]; omega⟩
  rw [hs, hi]
  rcases hf x.rels 0 with h | ⟨i, h, hi⟩
  · rw [h]
    exact ⟨-1, rfl, rfl, .inl (by decide)⟩
  · rw [h]
    exact ⟨i, rfl, rfl, .inr ⟨i, rfl, by omega⟩⟩
def fault (x : Template) (k : Int) : Int := if !tempB x then 1 else if x.size != 2 then 4 else if !(decide (1 ≤ k) && decide (k ≤ 6)) then 2 else 0
theorem l09Two_eq {x : Template} (hx : smallT x) (k : Int) : spec_l09Two x k = some (fault x k) := by
  unfold spec_l09Two fault spec_l09Class
  rw [l01Template_eq x hx, l00In_eq]
  simp only [bnd_s]
  split
  · rfl
  · split
    · rfl
    · split <;> rfl
theorem classFault_eq {x : Template} (hx : smallT x) (k : Int) : impl_classFault x k = some (fault x k) := by
  unfold impl_classFault fault impl_isClass
  rw [show Template.mk x.size x.rels = x from rfl, ValidTemplate_eq x hx, within_eq]
  simp only [bnd_s]
  split
  · rfl
  · split
    · rfl
    · split <;> rfl
theorem fault_zero {x : Template} {k : Int} (h : fault x k = 0) : tempB x = true ∧ x.size = 2 ∧ 1 ≤ k ∧ k ≤ 6 := by
  unfold fault at h
  split at h
  · omega
  · rename_i h1
    split at h
    · omega
    · rename_i h2
      split at h
      · omega
      · rename_i h3
        simp at h1 h2 h3
        exact ⟨h1, h2, h3.1, h3.2⟩
theorem clone_of {l : List Int} (h : l.length ≤ 4) : slices_Clone_s_int64_int64 l = some l := by
  unfold slices_Clone_s_int64_int64
  rw [ap_eq (by simp only [List.length_nil]; omega)]
  rfl
theorem ownLists_of : ∀ {l : List (List Int)}, l.length ≤ 3 → (∀ t ∈ l, t.length ≤ 4) → impl_ownLists l = some l := by
  intro l h1 h2
  unfold impl_ownLists
  rw [forL_map l (fun t => t) (fun i t s hi hs => by
    have hil := (List.getElem?_eq_some_iff.1 hi).1
    simp only [clone_of (h2 t (List.mem_of_getElem? hi)), bnd_s, ap_eq (l := s) (m := [t]) (by simp; omega)]) l 0 [] rfl rfl]
  simp
theorem WhyNotClass_two {N : Nat} (hN : 10 ≤ N) {x : Template} (hx : smallT x) (k : Int) : ∃ z sel R c, spec_WhyNotClass N x k = some (z, sel, R, c) ∧ impl_WhyNotClass N x k = some (z, sel, R, c) ∧ sel.length ≤ 3 ∧ (∀ t ∈ sel, t.length ≤ 4) ∧ R.length ≤ 4 := by
  unfold spec_WhyNotClass impl_WhyNotClass
  rw [show Template.mk x.size x.rels = x from rfl, l09Two_eq hx, classFault_eq hx]
  simp only [bnd_s]
  by_cases hf : fault x k = 0
  · obtain ⟨v1, v2, v3, v4⟩ := fault_zero hf
    obtain ⟨c1, c2, m, ho⟩ := classOp_ok v3 v4
    obtain ⟨z, z1, z2, z3⟩ := first_eq hN hx v1 v2 v3 v4
    have e0 : (fault x k != 0) = false := by simp [hf]
    rw [e0]
    simp only [Bool.false_eq_true, if_false, c1, c2, bnd_s, show Op.mk (classOpL k).arity (classOpL k).table = classOpL k from rfl, z1, z2]
    by_cases hz : z < 0
    · simp only [hz, decide_true, if_true]
      exact ⟨_, _, _, _, rfl, rfl, by simp, (fun t ht => nomatch ht), by simp⟩
    · obtain ⟨i, rfl, hi⟩ : ∃ i : Nat, z = i ∧ i < x.rels.length := z3.resolve_left hz
      have hxi : x.rels[i]? = some (x.rels[i]'hi) := List.getElem?_eq_getElem hi
      obtain ⟨sel, R, b1, b2, b3, b4, b5⟩ := brokenT hN hx v1 v2 ho _ (List.getElem_mem hi)
      rw [v2] at b1 b2
      generalize x.rels[i]'hi = r at hxi b1 b2
      simp only [hz, decide_false, Bool.false_eq_true, if_false, ix_nat hxi, bnd_s, b1, b2, ownLists_of b3 b4]
      exact ⟨_, _, _, _, rfl, rfl, b3, b4, b5⟩
  · have e0 : (fault x k != 0) = true := by simp [hf]
    rw [e0]
    simp only [if_true]
    exact ⟨_, _, _, _, rfl, rfl, by simp, (fun t ht => nomatch ht), by simp⟩
end Go.Proofs.Ytfepllddlmhjiaa
