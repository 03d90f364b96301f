/-
  Plain laws: the smallest reason.
-/
import Derived.Test.YtfepllddlmhjiaaGreatM13
import Derived.Test.YtfepllddlmhjiaaGreatS4b
namespace Go.Proofs.YtfepllddlmhjiaaGreat
set_option linter.unusedVariables false
set_option linter.unusedSimpArgs false

/-- The numbers from k on, m of them. -/
def nums (k m : Nat) : List Int := (List.range' k m).map (fun (j : Nat) => (j : Int))
theorem count_loop {ρ : Type} (g : Nat → Option Int) (hg : ∀ k, k ≤ 1048576 → g k = some (k : Int)) : ∀ (m k : Nat) (s : List Int), s.length + m ≤ 1048576 → k + m ≤ 1048576 → forI (σ := List Int) (ρ := ρ) (fun (k : Nat) (s : List Int) => bnd (g k) fun z => bnd (ap s [z]) fun z2 => some (.go z2)) m k s = some (.nx (s ++ nums k m))
  | 0, _, s, _, _ => by simp [forI, nums]
  | m + 1, k, s, h, h2 => by
    rw [forI_go (s' := s ++ [(k : Int)]) (by rw [hg k (by omega), bnd_s, ap_eq (by simp only [List.length_cons, List.length_nil]; omega), bnd_s]), count_loop g hg m (k + 1) _ (by simp only [List.length_append, List.length_singleton]; omega) (by omega)]
    simp [nums, List.range'_succ]
theorem counts_any (n : Nat) (h : n ≤ 1000) : impl_upTo 0 (n : Int) = some (nums 0 n) ∧ spec_l03Count (n : Int) = some (nums 0 n) := by
  constructor
  · unfold impl_upTo
    rw [count_loop (fun k => ck (0 + (k : Int))) (fun k hk => by rw [Int.zero_add]; exact ck_eq (by omega) (by omega)) _ 0 [] (by simp; omega) (by simp; omega), thn_nx]
    simp
  · have := count_loop (ρ := List Int) (fun k => some (k : Int)) (fun k hk => rfl) (n : Int).toNat 0 [] (by simp; omega) (by simp; omega)
    unfold spec_l03Count
    have h2 : forI (σ := (List Int)) (ρ := (List Int)) (fun (k48 : Nat) (s38 : (List Int)) => bnd (ap s38 ([(k48 : Int)])) fun z60 => some (.go z60)) (n : Int).toNat 0 [] = some (.nx ([] ++ nums 0 (n : Int).toNat)) := this
    rw [h2, thn_nx]
    simp
/-- The constraints that some numbers name. -/
def picks (y : Instance) (l : List Int) : List Con := l.map (fun k => y.cons.getD k.toNat (Con.mk 0 []))
theorem ixC {l : List Con} {v : Int} (h0 : 0 ≤ v) (h1 : v < l.length) : ix l v = some (l.getD v.toNat (Con.mk 0 [])) := by
  refine ix_of h0 ?_
  rw [List.getD_eq_getElem?_getD, List.getElem?_eq_getElem (by omega)]
  rfl
theorem pick_loop {ρ : Type} (y : Instance) : ∀ (l : List Int) (k : Nat) (s : List Con), (∀ v ∈ l, 0 ≤ v ∧ v < y.cons.length) → s.length + l.length ≤ 1048576 → forL (σ := List Con) (ρ := ρ) (fun (k : Nat) (x : Int) (s : List Con) => bnd (ix y.cons x) fun z => bnd (ap s [z]) fun z2 => some (.go z2)) l k s = some (.nx (s ++ picks y l))
  | [], _, s, _, _ => by simp [picks]
  | v :: l, k, s, hv, h => by
    rw [List.length_cons] at h
    have := hv v (by simp)
    rw [forL_go (s' := s ++ [y.cons.getD v.toNat (Con.mk 0 [])]) (by rw [ixC this.1 this.2, bnd_s, ap_eq (by simp only [List.length_cons, List.length_nil]; omega), bnd_s]), pick_loop y l (k + 1) _ (fun w hw => hv w (by simp [hw])) (by simp only [List.length_append, List.length_singleton]; omega)]
    simp [picks]
theorem own_loop {ρ : Type} : ∀ (l : List Con) (k : Nat) (s : List Con), (∀ c ∈ l, c.scope.length ≤ 1048576) → s.length + l.length ≤ 1048576 → forL (σ := List Con) (ρ := ρ) (fun (k : Nat) (x : Con) (s : List Con) => bnd (slices_Clone_s_int64_int64 x.scope) fun z => bnd (ap s [Con.mk x.rel z]) fun z2 => some (.go z2)) l k s = some (.nx (s ++ l))
  | [], _, s, _, _ => by simp
  | c :: l, k, s, hc, h => by
    rw [List.length_cons] at h
    rw [forL_go (s' := s ++ [c]) (by rw [clone_eq _ (hc c (by simp)), bnd_s, ap_eq (by simp only [List.length_cons, List.length_nil]; omega), bnd_s]), own_loop l (k + 1) _ (fun d hd => hc d (by simp [hd])) (by simp only [List.length_append, List.length_singleton]; omega)]
    simp
theorem kept_eq {y : Instance} {l : List Int} (hv : ∀ v ∈ l, 0 ≤ v ∧ v < y.cons.length) (hl : l.length ≤ 24) (hs : ∀ c ∈ picks y l, c.scope.length ≤ 1048576) : impl_kept y l = some (Instance.mk y.vars (picks y l)) ∧ spec_l08Some y l = some (Instance.mk y.vars (picks y l)) := by
  constructor
  · unfold impl_kept
    rw [pick_loop y l 0 [] hv (by simp; omega), thn_nx]
    unfold impl_ownInstance
    simp only [List.nil_append]
    rw [own_loop _ 0 [] hs (by simp [picks]; omega), thn_nx]
    rfl
  · unfold spec_l08Some
    rw [pick_loop y l 0 [] hv (by simp; omega), thn_nx]
    rfl
/-- A search of a right instance: its code in both. -/
theorem code_two {N : Nat} (hN : 5100 ≤ N) {x : Template} {y : Instance} {b : Int} (hx : smallT x) (hv : validB x y = true) (h0 : 0 ≤ b) (h1 : b ≤ 5000) : ∃ l s cd D q d, impl_SearchFor N x y b = some (l, s, cd) ∧ spec_l05Full x y = some D ∧ spec_l08Run N x y D b = some (q, cd, d) ∧ (cd = 0 ∨ cd = 6 ∨ cd = 7) := by
  obtain ⟨a1, a2, a3, a4, a5⟩ := validB_spec hv
  obtain ⟨D, d1, d2, d3⟩ := full_two (y := y) (tempB_spec hx a1).1 a2 a3
  obtain ⟨st, ln, vl, cd, d, d', ov, e1, e2, e3, e4, e5, e6, e7⟩ := run_two (N := N) (y := y) hN (by omega) (fun c hc => conOk_of hx a1 (by omega) (a5 c hc)) d3 h0 h1
  refine ⟨if cd = 7 then [] else vl, if cd = 7 then 0 else st, cd, D, _, _, ?_, d2, e2, by rcases e3 with h | ⟨h, _⟩ | h <;> simp [h]⟩
  unfold impl_SearchFor
  rw [show (Template.mk x.size x.rels) = x from rfl, show (Instance.mk y.vars y.cons) = y from rfl, (budget_ok hx hv h0 h1).1, bnd_s, if_neg (by simp), d1, bnd_s, e1, bnd_s]
  simp only
  rcases e3 with rfl | ⟨rfl, rfl⟩ | rfl <;> rfl
theorem filter_mid {P R : List Int} {k : Int} (h1 : ∀ a ∈ P, a ≠ k) (h2 : ∀ a ∈ R, a ≠ k) : (P ++ k :: R).filter (· != k) = P ++ R := by
  rw [List.filter_append, List.filter_cons]
  have e1 : P.filter (· != k) = P := List.filter_eq_self.2 (fun a ha => by simpa using h1 a ha)
  have e2 : R.filter (· != k) = R := List.filter_eq_self.2 (fun a ha => by simpa using h2 a ha)
  rw [e1, e2]
  simp
theorem reason_loop {N : Nat} (hN : 5100 ≤ N) {x : Template} {y : Instance} {b : Int} (hx : smallT x) (hv : validB x y = true) (h0 : 0 ≤ b) (h1 : b ≤ 5000) : ∀ (m k M : Nat) (P : List Int), k + m = y.cons.length → m < M → (∀ a ∈ P, 0 ≤ a ∧ a < (k : Int)) → P.length ≤ k →
    Two (forL (σ := (List Int)) (ρ := (List Int) × Int) (fun (k154 : Nat) (x156 : Con) (s140 : (List Int)) =>
          bnd (impl_without N s140 (k154 : Int)) fun z160 =>
          bnd (impl_kept (Instance.mk y.vars y.cons) z160) fun z176 =>
          bnd (impl_SearchFor N (Template.mk x.size x.rels) z176 b) fun z199 =>
          if (z199.2.2 == 7) then
            some (.ret ([], 7))
          else
            if (z199.2.2 == 6) then
              some (.go z160)
            else
              some (.go s140)) (y.cons.drop k) k (P ++ nums k m))
      (whl (σ := (List Int) × Int) (ρ := (List Int) × Int) (fun (s : (List Int) × Int) =>
            match s with
            | (s348, s353) =>
              if (decide (s353 < (s348.length : Int))) then
                bnd (sl s348 0 s353) fun z374 =>
                bnd (ck (s353 + 1)) fun z380 =>
                bnd (sl s348 z380 (s348.length : Int)) fun z382 =>
                bnd (ap ([]) z374) fun z401 =>
                bnd (ap z401 z382) fun z416 =>
                bnd (spec_l08Some (Instance.mk y.vars y.cons) z416) fun z430 =>
                bnd (spec_l05Full (Template.mk x.size x.rels) (Instance.mk z430.vars z430.cons)) fun z459 =>
                bnd (spec_l08Run N (Template.mk x.size x.rels) (Instance.mk z430.vars z430.cons) z459 b) fun z484 =>
                if (z484.2.1 == 7) then
                  some (.ret ([], z484.2.1))
                else
                  if (z484.2.1 == 6) then
                    some (.go (z416, s353))
                  else
                    some (.go (s348, z380))
              else
                some (.brk (s348, s353))) M (P ++ nums k m, (P.length : Int)))
      (OutR (fun s s' => s = s'.1 ∧ s.length ≤ 24) (fun r r' => r = r' ∧ r.1.length ≤ 24)) := by
  obtain ⟨a1, a2, a3, a4, a5⟩ := validB_spec hv
  intro m
  induction m with
  | zero =>
    intro k M P hk hM hP hl
    obtain ⟨M, rfl⟩ : ∃ q, M = q + 1 := ⟨M - 1, by omega⟩
    have e0 : nums k 0 = [] := rfl
    rw [e0, List.append_nil, List.drop_eq_nil_of_le (by omega)]
    rw [whl_brk (s' := (P, (P.length : Int))) (by simp)]
    exact ⟨_, _, rfl, rfl, rfl, by omega⟩
  | succ m ih =>
    intro k M P hk hM hP hl
    obtain ⟨M, rfl⟩ : ∃ q, M = q + 1 := ⟨M - 1, by omega⟩
    have hkl : k < y.cons.length := by omega
    have hnl : (nums (k + 1) m).length = m := by simp [nums]
    have en : nums k (m + 1) = (k : Int) :: nums (k + 1) m := by simp [nums, List.range'_succ]
    have hmem : ∀ a ∈ nums (k + 1) m, (k : Int) < a ∧ a < (y.cons.length : Int) := fun a ha => by
      unfold nums at ha
      obtain ⟨j, hj, rfl⟩ := List.mem_map.1 ha
      rw [List.mem_range'_1] at hj
      omega
    obtain ⟨R, hR⟩ : ∃ R, R = nums (k + 1) m := ⟨_, rfl⟩
    rw [← hR] at hmem hnl
    have hless : (P ++ (k : Int) :: R).filter (· != (k : Int)) = P ++ R := filter_mid (fun a ha => by have := hP a ha; omega) (fun a ha => by have := hmem a ha; omega)
    have hbnd : ∀ v ∈ P ++ R, 0 ≤ v ∧ v < (y.cons.length : Int) := fun v hv => by
      rcases List.mem_append.1 hv with h | h
      · have := hP v h; omega
      · have := hmem v h; omega
    have hin : ∀ c ∈ picks y (P ++ R), c ∈ y.cons := fun c hc => by
      unfold picks at hc
      obtain ⟨v, hv, rfl⟩ := List.mem_map.1 hc
      have := hbnd v hv
      rw [List.getD_eq_getElem?_getD, List.getElem?_eq_getElem (by omega)]
      exact List.getElem_mem _
    have hpl : (picks y (P ++ R)).length ≤ 24 := by simp [picks]; omega
    have hval := validB_some hv hin hpl
    have hlen : (P ++ R).length ≤ 24 := by simp; omega
    obtain ⟨k1, k2⟩ := kept_eq (y := y) hbnd hlen (fun c hc => by have := (conOk_of hx a1 (by omega) (a5 c (hin c hc))).four; omega)
    obtain ⟨lr, sr, cd, D, q, d, c1, c2, c3, c4⟩ := code_two (N := N) hN hx hval h0 h1
    have hwl : impl_without N (P ++ (k : Int) :: R) (k : Int) = some (P ++ R) := by rw [without_eq _ _ (by simp; omega) (by simp; omega), hless]
    have hc0 : y.cons.drop k = y.cons[k] :: y.cons.drop (k + 1) := List.drop_eq_getElem_cons hkl
    have s1 : sl (P ++ (k : Int) :: R) 0 (P.length : Int) = some P := by
      unfold sl
      rw [if_pos ⟨by omega, by omega, by simp; omega⟩]
      simp
    have s2 : sl (P ++ (k : Int) :: R) ((P.length : Int) + 1) ((P ++ (k : Int) :: R).length : Int) = some R := by
      unfold sl
      rw [if_pos ⟨by omega, by simp; omega, by omega⟩]
      simp only [Int.toNat_natCast, List.take_length]
      rw [show ((P.length : Int) + 1).toNat = P.length + 1 by omega, List.drop_append, List.drop_eq_nil_of_le (by omega), List.nil_append, show P.length + 1 - P.length = 1 by omega]
      rfl
    rw [en, ← hR, hc0]
    have hdec : decide ((P.length : Int) < ((P ++ (k : Int) :: R).length : Int)) = true := by simp; omega
    have hck : ck ((P.length : Int) + 1) = some ((P.length : Int) + 1) := ck_eq (by omega) (by omega)
    have hap1 : ap ([] : List Int) P = some P := by rw [ap_eq (by simp only [List.length_nil]; omega)]; rfl
    have hap2 : ap P R = some (P ++ R) := ap_eq (by omega)
    rcases c4 with rfl | rfl | rfl
    · -- it has a solution: the constraint stays
      rw [forL_go (s' := P ++ (k : Int) :: R) (by rw [hwl, bnd_s, show (Instance.mk y.vars y.cons) = y from rfl, k1, bnd_s, show (Template.mk x.size x.rels) = x from rfl, c1, bnd_s]; rfl)]
      rw [whl_go (s' := (P ++ (k : Int) :: R, (P.length : Int) + 1)) (by
        simp only [hdec, if_true, s1, bnd_s, hck, s2, hap1, hap2, show (Instance.mk y.vars y.cons) = y from rfl, k2, show (Template.mk x.size x.rels) = x from rfl, c2, c3]
        rfl)]
      have := ih (k + 1) M (P ++ [(k : Int)]) (by omega) (by omega) (fun a ha => by
        rcases List.mem_append.1 ha with h | h
        · have := hP a h; omega
        · rw [List.mem_singleton] at h; omega) (by simp; omega)
      rw [← hR] at this
      simpa using this
    · -- it has none
      rw [forL_go (s' := P ++ R) (by rw [hwl, bnd_s, show (Instance.mk y.vars y.cons) = y from rfl, k1, bnd_s, show (Template.mk x.size x.rels) = x from rfl, c1, bnd_s]; rfl)]
      rw [whl_go (s' := (P ++ R, (P.length : Int))) (by
        simp only [hdec, if_true, s1, bnd_s, hck, s2, hap1, hap2, show (Instance.mk y.vars y.cons) = y from rfl, k2, show (Template.mk x.size x.rels) = x from rfl, c2, c3]
        rfl)]
      have := ih (k + 1) M P (by omega) (by omega) (fun a ha => by have := hP a ha; omega) (by omega)
      rw [← hR] at this
      exact this
    · rw [forL_rt (r := ([], 7)) (by rw [hwl, bnd_s, show (Instance.mk y.vars y.cons) = y from rfl, k1, bnd_s, show (Template.mk x.size x.rels) = x from rfl, c1, bnd_s]; rfl)]
      rw [whl_rt (r := ([], 7)) (by
        simp only [hdec, if_true, s1, bnd_s, hck, s2, hap1, hap2, show (Instance.mk y.vars y.cons) = y from rfl, k2, show (Template.mk x.size x.rels) = x from rfl, c2, c3]
        rfl)]
      exact ⟨_, _, rfl, rfl, rfl, by simp⟩
theorem SmallestReason_two {N : Nat} (hN : 5100 ≤ N) {x : Template} {y : Instance} (b : Int) (hx : smallT x) : ∃ l c, impl_SmallestReason N x y b = some (l, c) ∧ spec_SmallestReason N x y b = some (l, c) ∧ l.length ≤ 24 := by
  obtain ⟨c, h1, h2, h3⟩ := budget_two x y b hx
  by_cases hc : c = 0
  · subst hc
    obtain ⟨hv, hb0, hb1⟩ := budget_valid hx h1
    obtain ⟨a1, a2, a3, a4, a5⟩ := validB_spec hv
    obtain ⟨lr, sr, cd, D, q, d, c1, c2, c3, c4⟩ := code_two (N := N) hN hx hv hb0 hb1
    obtain ⟨u1, u2⟩ := counts_any y.cons.length (by omega)
    unfold impl_SmallestReason spec_SmallestReason
    rw [show (Template.mk x.size x.rels) = x from rfl, show (Instance.mk y.vars y.cons) = y from rfl, c1, bnd_s, h2, bnd_s]
    have e0 : ((0 : Int) != 0) = false := rfl
    have e1 : ((6 : Int) == 0) = false := rfl
    have e2 : ((6 : Int) == 6) = true := rfl
    have e3 : ((6 : Int) == 7) = false := rfl
    have e4 : ((6 : Int) != 0) = true := rfl
    rw [e0]
    simp only [Bool.false_eq_true, if_false]
    rw [c2, bnd_s, c3, bnd_s]
    simp only
    rcases c4 with rfl | rfl | rfl
    · exact ⟨_, _, rfl, rfl, by simp⟩
    · rw [u1, u2]
      simp only [bnd_s]
      have q := reason_loop (N := N) hN hx hv hb0 hb1 y.cons.length 0 N [] (by omega) (by omega) (fun a ha => nomatch ha) (Nat.le_refl _)
      simp only [List.drop_zero, List.nil_append, List.length_nil] at q
      obtain ⟨a, b, t1, t2, t3⟩ := Two.thn (P := fun (a b : List Int × Int) => a = b ∧ a.1.length ≤ 24) (k := fun s => some (s, 0)) (k' := fun s => some (s.1, 0)) _ _ q (fun a b h => ⟨_, _, rfl, rfl, by rw [h.1], h.2⟩) (fun a b h => h)
      obtain ⟨rfl, t3⟩ := t3
      exact ⟨a.1, a.2, t1, t2, t3⟩
    · exact ⟨_, _, rfl, rfl, by simp⟩
  · unfold impl_SmallestReason spec_SmallestReason impl_SearchFor
    rw [show (Template.mk x.size x.rels) = x from rfl, show (Instance.mk y.vars y.cons) = y from rfl, h1, h2, bnd_s, bnd_s, if_pos (by simpa using hc), if_pos (by simpa using hc), bnd_s]
    simp only
    have e1 : (c == 0) = false := by simpa using hc
    rw [e1]
    have hc6 : c ≠ 6 := by
      intro h6
      subst h6
      unfold impl_budgetFault at h1
      rw [show (Template.mk x.size x.rels) = x from rfl, show (Instance.mk y.vars y.cons) = y from rfl, (ValidInstance_val x y hx).1, bnd_s] at h1
      cases hv : validB x y with
      | false => rw [hv] at h1; simp at h1
      | true =>
        rw [hv, if_neg (by simp), within_eq, bnd_s] at h1
        cases hb : (decide (0 ≤ b) && decide (b ≤ 5000)) with
        | false => rw [hb] at h1; simp at h1
        | true => rw [hb] at h1; simp at h1
    have e2 : (c == 6) = false := by simpa using hc6
    rw [e2]
    exact ⟨_, _, rfl, rfl, by simp⟩
end Go.Proofs.YtfepllddlmhjiaaGreat
