/-
  Plain laws: the equations over a relation.
-/
import Derived.Test.YtmfichdcomaaeaaM2
namespace Go.Proofs.Ytmfichdcomaaeaa
set_option linter.unusedVariables false
set_option linter.unusedSimpArgs false

theorem indexL_eq (l : List (List Int)) (p : List Int → Bool) (f : List Int → Option Bool) (hf : ∀ x ∈ l, f x = some (p x)) : ∃ i, slices_IndexFunc_s_s_int64_s_int64 l f = some i ∧ decide (0 ≤ i) = l.any p := by
  unfold slices_IndexFunc_s_s_int64_s_int64
  rw [forL_fnd (fun k x => if p x then some (k : Int) else none) (fun j x hj => by
    simp only [hf x (List.mem_of_getElem? hj), bnd_s]
    by_cases hv : p x = true
    · simp [hv, ctlO]
    · simp [hv, ctlO])]
  have key : ∀ (l : List (List Int)) (k : Nat), (l.any p = true ∧ ∃ i : Nat, fnd (fun k x => if p x then some (k : Int) else none) l k = some (i : Int)) ∨ (l.any p = false ∧ fnd (fun k x => if p x then some (k : Int) else none) l k = none) := by
    intro l
    induction l with
    | nil => intro k; exact .inr ⟨rfl, rfl⟩
    | cons x l ih =>
      intro k
      unfold fnd
      by_cases hv : p x = true
      · exact .inl ⟨by simp [hv], k, by simp [hv]⟩
      · have hv' : p x = false := by simpa using hv
        rcases ih (k + 1) with ⟨h1, i, h2⟩ | ⟨h1, h2⟩
        · exact .inl ⟨by simp [h1], i, by simp [hv', h2]⟩
        · exact .inr ⟨by simp [h1, hv'], by simp [hv', h2]⟩
  rcases key l 0 with ⟨h1, i, h2⟩ | ⟨h1, h2⟩
  · rw [h2]; exact ⟨i, rfl, by simp [h1]⟩
  · rw [h2]; exact ⟨-1, rfl, by simp [h1]⟩
theorem containsL_eq (l : List (List Int)) (p : List Int → Bool) (f : List Int → Option Bool) (hf : ∀ x ∈ l, f x = some (p x)) : slices_ContainsFunc_s_s_int64_s_int64 l f = some (l.any p) := by
  obtain ⟨i, h1, h2⟩ := indexL_eq l p f hf
  unfold slices_ContainsFunc_s_s_int64_s_int64
  rw [h1, bnd_s, h2]
theorem whl_all {α ρ : Type} (L : List α) (p : α → Bool) {b : Bool × Int → Option (Ctl (Bool × Int) ρ)}
    (h1 : ∀ (i : Nat) t, L[i]? = some t → b (true, (i : Int)) = some (.go (p t, ((i + 1 : Nat) : Int))))
    (h2 : ∀ (f : Bool) (i : Nat), (f = false ∨ L.length ≤ i) → b (f, (i : Int)) = some (.brk (f, (i : Int)))) :
    ∀ (r : List α) (i N : Nat), L.drop i = r → r.length + 2 ≤ N → ∃ j : Nat, whl b N (true, (i : Int)) = some (.nx (r.all p, (j : Int)))
  | [], i, N, hr, hN => by
    obtain ⟨M, rfl⟩ : ∃ M, N = M + 1 := ⟨N - 1, by omega⟩
    have hl := congrArg List.length hr
    rw [List.length_drop] at hl
    rw [whl_brk (h2 true i (.inr (by simp at hl; omega)))]
    exact ⟨i, rfl⟩
  | t :: r, i, N, hr, hN => by
    obtain ⟨M, rfl⟩ : ∃ M, N = M + 1 := ⟨N - 1, by omega⟩
    have ht : L[i]? = some t := by rw [← List.head?_drop, hr]; rfl
    have hd : L.drop (i + 1) = r := by rw [← List.drop_drop, hr]; rfl
    rw [whl_go (h1 i t ht)]
    by_cases hp : p t = true
    · rw [hp]
      obtain ⟨j, hj⟩ := whl_all L p h1 h2 r (i + 1) M hd (by simp at hN; omega)
      exact ⟨j, by rw [hj]; simp [hp]⟩
    · have hp' : p t = false := by simpa using hp
      rw [hp']
      obtain ⟨K, rfl⟩ : ∃ K, M = K + 1 := ⟨M - 1, by simp at hN; omega⟩
      rw [whl_brk (h2 false (i + 1) (.inl rfl))]
      exact ⟨i + 1, by simp [hp']⟩
theorem whl_mono {σ ρ : Type} {b : σ → Option (Ctl σ ρ)} {r : Out σ ρ} : ∀ {m M : Nat} {s : σ}, whl b m s = some r → m ≤ M → whl b M s = some r
  | 0, _, _, h, _ => by cases h
  | m + 1, M, s, h, hM => by
    obtain ⟨K, rfl⟩ : ∃ K, M = K + 1 := ⟨M - 1, by omega⟩
    unfold whl at h ⊢
    cases hb : b s with
    | none => rw [hb] at h; cases h
    | some c =>
      rw [hb] at h
      cases c with
      | go s' => exact whl_mono h (by omega)
      | brk s' => exact h
      | ret v => exact h
theorem thn_of {σ ρ : Type} {o : Out σ ρ} {k : σ → Option ρ} {r : ρ} (h : Then k r o) : thn (some o) k = some r := by
  cases o with
  | nx s => exact h
  | ret v => exact congrArg some h
theorem listOf_mono {m M : Nat} {a b c : Int} {d : List Int} (h : impl_listOf m a b c = some d) (hM : m ≤ M) : impl_listOf M a b c = some d := by
  unfold impl_listOf at h ⊢
  obtain ⟨z, h1, h⟩ := bnd_some h
  obtain ⟨y, h2, h⟩ := bnd_some h
  obtain ⟨o, ho, hk⟩ := thn_some h
  rw [h1, bnd_s, h2, bnd_s, whl_mono ho hM]
  exact thn_of hk
theorem power_mono {m M : Nat} {a b c : Int} (h : spec_l01Power m a b = some c) (hM : m ≤ M) : spec_l01Power M a b = some c := by
  unfold spec_l01Power at h ⊢
  obtain ⟨o, ho, hk⟩ := thn_some h
  rw [whl_mono ho hM]
  exact thn_of hk
def digOf (n : Nat) (o : Option (List Int)) : Bool :=
  match o with
  | some d => d.length == n + 1 && d.all (fun a => decide (0 ≤ a) && decide (a ≤ 1))
  | none => false
def digOk (n k : Nat) : Bool := digOf n (impl_listOf 10 2 ((n : Int) + 1) (1 + (k : Int)))
theorem digOk_all0 : ([0, 1, 2, 3, 4].all fun n => [0, 1, 2, 3, 4, 5, 6, 7, 8, 9, 10, 11, 12, 13, 14, 15, 16, 17, 18, 19, 20, 21, 22, 23, 24, 25, 26, 27, 28, 29, 30].all (digOk n)) = true := by decide +kernel
theorem digOk_all (n : Nat) (hn : n < 5) (k : Nat) (hk : k < 31) : digOk n k = true := by
  have h := List.all_eq_true.1 digOk_all0 n (by simp; omega)
  exact List.all_eq_true.1 h k (by simp; omega)
theorem digs {n k N : Nat} (hN : 10 ≤ N) (hn : n < 5) (hk : k < 31) : ∃ d, impl_listOf N 2 ((n : Int) + 1) (1 + (k : Int)) = some d ∧ d.length = n + 1 ∧ ∀ a ∈ d, 0 ≤ a ∧ a ≤ 1 := by
  obtain ⟨o, ho⟩ : ∃ o, o = impl_listOf 10 2 ((n : Int) + 1) (1 + (k : Int)) := ⟨_, rfl⟩
  have h : digOf n o = true := by rw [ho]; exact digOk_all n hn k hk
  cases o with
  | none => cases h
  | some d =>
    refine ⟨d, listOf_mono ho.symm hN, ?_⟩
    simpa [digOf] using h
theorem powers0 : ∀ n : Nat, n < 5 → impl_power 2 ((n : Int) + 1) = some ((2 ^ (n + 1) : Nat) : Int) ∧ spec_l01Power 10 2 ((n : Int) + 1) = some ((2 ^ (n + 1) : Nat) : Int) := by decide +kernel
theorem powers (n : Nat) {N : Nat} (hN : 10 ≤ N) (h : n < 5) : impl_power 2 ((n : Int) + 1) = some ((2 ^ (n + 1) : Nat) : Int) ∧ spec_l01Power N 2 ((n : Int) + 1) = some ((2 ^ (n + 1) : Nat) : Int) := ⟨(powers0 n h).1, power_mono (powers0 n h).2 hN⟩
theorem bit {l : List Int} (h : ∀ a ∈ l, 0 ≤ a ∧ a ≤ 1) (j : Nat) : l.getD j 0 = 0 ∨ l.getD j 0 = 1 := by
  rw [List.getD_eq_getElem?_getD]
  cases hj : l[j]? with
  | none => exact .inl rfl
  | some a => have := h a (List.mem_of_getElem? hj); show a = 0 ∨ a = 1; omega
theorem getD_of' {l : List Int} {j : Nat} {a : Int} (h : l[j]? = some a) : l.getD j 0 = a := by rw [List.getD_eq_getElem?_getD, h]; rfl
def prd (d t : List Int) (j : Nat) : Int := d.getD j 0 * t.getD j 0
theorem prd_bit {d t : List Int} (hd : ∀ a ∈ d, 0 ≤ a ∧ a ≤ 1) (ht : ∀ a ∈ t, 0 ≤ a ∧ a ≤ 1) (j : Nat) : 0 ≤ prd d t j ∧ prd d t j ≤ 1 := by
  unfold prd
  rcases bit hd j with h | h <;> rcases bit ht j with h' | h' <;> rw [h, h'] <;> decide
theorem isTrue_eq {n : Nat} {d t : List Int} {c : Int} (hn : n < 5) (hl : d.length = n + 1) (hd : ∀ a ∈ d, 0 ≤ a ∧ a ≤ 1) (ht : ∀ a ∈ t, 0 ≤ a ∧ a ≤ 1) (htl : t.length = n) :
    impl_isTrue 2 (Equation.mk (d.take n) c) t = some ((sumI (prd d t) n 0 0).tmod 2 == c) := by
  unfold impl_isTrue
  have hlen : (d.take n).length = n := by rw [List.length_take]; omega
  rw [forL_sum (prd d t) 1 10 (by omega) (by show (0 : Int) + ((d.take n).length : Int) * 1 ≤ 10; rw [hlen]; omega) (fun j _ _ => prd_bit hd ht j) (fun j x s hj h0 h1 => by
    rw [Nat.zero_add] at h1 ⊢
    have hj : (d.take n)[j]? = some x := hj
    have hjn : j < n := by
      have := (List.getElem?_eq_some_iff.1 hj).1
      omega
    have hx : d.getD j 0 = x := getD_of' (by rw [List.getElem?_take, if_pos hjn] at hj; exact hj)
    have hta : t[j]? = some (t[j]'(by omega)) := List.getElem?_eq_getElem (by omega)
    generalize t[j]'(by omega) = a at hta
    have ha : t.getD j 0 = a := getD_of' hta
    have hp : prd d t j = x * a := by unfold prd; rw [hx, ha]
    have hb := prd_bit hd ht j
    rw [hp] at h1 hb ⊢
    simp only [ix_nat hta, bnd_s, ck_eq (x := x * a) (by omega) (by omega), ck_eq (x := s + x * a) (by omega) (by omega)])]
  rw [show (Equation.mk (d.take n) c).left.length = n from hlen]
  simp [rm]
theorem parity {c S : Int} (hc : c = 0 ∨ c = 1) (h0 : 0 ≤ S) : ((c + S).tmod 2 == 0) = (S.tmod 2 == c) := by
  rw [Int.tmod_eq_emod_of_nonneg (by omega), Int.tmod_eq_emod_of_nonneg h0, Bool.eq_iff_iff]
  simp only [beq_iff_eq]
  omega
theorem equations_eq (x : Rel) (N : Nat) (hN : x.tuples.length ≤ 1048576) (hK : x.tuples.length + 10 ≤ N) (ha : okS x.arity = true) (hv : ∀ t ∈ x.tuples, areB 2 t x.arity = true) :
    ∃ l, spec_l09Equations N x = some l ∧ impl_equationsOver N x = some l ∧ l.length ≤ 31 ∧ ∀ d ∈ l, d.length ≤ 5 := by
  have har := okS_eq ha
  obtain ⟨n, hn⟩ : ∃ n : Nat, x.arity = n := ⟨x.arity.toNat, by omega⟩
  have hn5 : n < 5 := by omega
  have hn1 : 1 ≤ n := by omega
  have hT : ∀ t ∈ x.tuples, t.length = n ∧ ∀ a ∈ t, 0 ≤ a ∧ a ≤ 1 := fun t ht => by
    have h := hv t ht
    unfold areB at h
    rw [hn] at h
    simp only [Bool.and_eq_true, List.all_eq_true, beq_iff_eq] at h
    refine ⟨by omega, fun a ha => ?_⟩
    have := h.2 a ha
    unfold okV at this
    simp at this
    omega
  unfold spec_l09Equations impl_equationsOver
  obtain ⟨p1, p2⟩ := powers n (N := N) (by omega) hn5
  rw [hn, ck_eq (x := (n : Int) + 1) (by omega) (by omega)]
  simp only [bnd_s, p1, p2]
  have hpw : (((2 ^ (n + 1) : Nat) : Int) - 1).toNat ≤ 31 := by
    have : ∀ n : Nat, n < 5 → (((2 ^ (n + 1) : Nat) : Int) - 1).toNat ≤ 31 := by decide
    exact this n hn5
  obtain ⟨l, h1, h2, h3, h4⟩ := forI_two (ρ := List (List Int)) (ρ' := List (List Int)) (m := (((2 ^ (n + 1) : Nat) : Int) - 1).toNat) (k := 0) (s := []) (fun i s => s.length ≤ i ∧ ∀ d ∈ s, d.length ≤ 5)
    (f := fun (k768 : Nat) (s754 : (List (List Int))) =>
      bnd (spec_l01Digits N 2 ((n : Int) + 1) (1 + (k768 : Int))) fun z784 =>
      thn (σ := Bool × Int) (
        whl (σ := Bool × Int) (ρ := (Ctl ((List (List Int))) (List (List Int)))) (fun (s : Bool × Int) =>
          match s with
          | (s956, s957) =>
            thn (σ := Bool) (
              if (decide (s957 < (x.tuples.length : Int))) then   some (.nx s956) else   some (.nx false)) fun s981 =>
            if s981 then
              bnd (ix z784 (n : Int)) fun z998 =>
              thn (σ := Int) (
                forI (σ := Int) (ρ := (Ctl (Bool × Int) (Ctl ((List (List Int))) (List (List Int))))) (fun (k1064 : Nat) (s1060 : Int) =>
                  bnd (ix z784 (k1064 : Int)) fun z1075 =>
                  bnd (ix x.tuples s957) fun z1090 =>
                  bnd (ix z1090 (k1064 : Int)) fun z1100 =>
                  bnd (ck (z1075 * z1100)) fun z1107 =>
                  bnd (ck (s1060 + z1107)) fun z1109 =>
                  some (.go z1109)) (n : Int).toNat 0 z998) fun s1062 =>
              bnd (rm s1062 2) fun z1116 =>
              bnd (ck (s957 + 1)) fun z1118 =>
              some (.go ((z1116 == 0), z1118))
            else
              some (.brk (s956, s957))) N (true, 0)) fun (s959, s960) =>
      if s959 then
        bnd (ap s754 ([z784])) fun z1129 =>
        some (.go z1129)
      else
        some (.go s754))
    (g := fun (k179 : Nat) (s163 : (List (List Int))) =>
      bnd (impl_listOf N 2 ((n : Int) + 1) (1 + (k179 : Int))) fun z185 =>
      bnd (sl z185 0 (n : Int)) fun z198 =>
      bnd (ix z185 (n : Int)) fun z204 =>
      bnd (slices_ContainsFunc_s_s_int64_s_int64 x.tuples (fun a0 => impl_equationsOver_1 a0 (Equation.mk z198 z204))) fun z223 =>
      if (!z223) then
        bnd (ap s163 ([z185])) fun z237 =>
        some (.go z237)
      else
        some (.go s163))
    ⟨Nat.le_refl _, fun d hd => nomatch hd⟩ (fun j s hj0 hj hi => by
      obtain ⟨d, hd, hdl, hdb⟩ := digs (n := n) (k := j) (N := N) (by omega) hn5 (by omega)
      have hd2 : spec_l01Digits N 2 ((n : Int) + 1) (1 + (j : Int)) = some d := hd
      have hc : d[n]? = some (d[n]'(by omega)) := List.getElem?_eq_getElem (by omega)
      generalize d[n]'(by omega) = c at hc
      have hcb : c = 0 ∨ c = 1 := by have := hdb c (List.mem_of_getElem? hc); omega
      have hsl : sl d 0 (n : Int) = some (d.take n) := by
        unfold sl
        rw [if_pos ⟨by omega, by omega, by omega⟩]
        simp
      have hS : ∀ t ∈ x.tuples, 0 ≤ sumI (prd d t) n 0 0 ∧ sumI (prd d t) n 0 0 ≤ 5 := fun t ht => by
        have := sumI_le (prd d t) 1 n 0 0 (fun j _ _ => prd_bit hdb (hT t ht).2 j)
        omega
      have hC : slices_ContainsFunc_s_s_int64_s_int64 x.tuples (fun a0 => impl_equationsOver_1 a0 (Equation.mk (d.take n) c)) = some (x.tuples.any fun t => !((sumI (prd d t) n 0 0).tmod 2 == c)) :=
        containsL_eq _ _ _ (fun t ht => by unfold impl_equationsOver_1; rw [isTrue_eq hn5 hdl hdb (hT t ht).2 (hT t ht).1]; rfl)
      simp only [hd, hd2, bnd_s, hsl, ix_nat hc, hC]
      obtain ⟨e, he⟩ := whl_all x.tuples (fun t => ((sumI (prd d t) n 0 0).tmod 2 == c)) (ρ := (Ctl ((List (List Int))) (List (List Int))))
        (b := fun (s : Bool × Int) =>
          match s with
          | (s956, s957) =>
            thn (σ := Bool) (
              if (decide (s957 < (x.tuples.length : Int))) then   some (.nx s956) else   some (.nx false)) fun s981 =>
            if s981 then
              thn (σ := Int) (
                forI (σ := Int) (ρ := (Ctl (Bool × Int) (Ctl ((List (List Int))) (List (List Int))))) (fun (k1064 : Nat) (s1060 : Int) =>
                  bnd (ix d (k1064 : Int)) fun z1075 =>
                  bnd (ix x.tuples s957) fun z1090 =>
                  bnd (ix z1090 (k1064 : Int)) fun z1100 =>
                  bnd (ck (z1075 * z1100)) fun z1107 =>
                  bnd (ck (s1060 + z1107)) fun z1109 =>
                  some (.go z1109)) (n : Int).toNat 0 c) fun s1062 =>
              bnd (rm s1062 2) fun z1116 =>
              bnd (ck (s957 + 1)) fun z1118 =>
              some (.go ((z1116 == 0), z1118))
            else
              some (.brk (s956, s957)))
        (fun i t ht => by
          have hil : i < x.tuples.length := (List.getElem?_eq_some_iff.1 ht).1
          have htm := List.mem_of_getElem? ht
          obtain ⟨htl, htb⟩ := hT t htm
          have hi2 : ((i : Int) < (x.tuples.length : Int)) := by omega
          simp only [hi2, decide_true, if_true, thn_nx]
          have hB := fun j => prd_bit hdb htb j
          rw [show (n : Int).toNat = n by omega]
          rw [forI_sum (prd d t) 1 10 (by omega) (by omega) (fun j _ _ => hB j) (fun j s _ hj h0 h1 => by
            rw [Nat.zero_add] at hj
            have hda : d[j]? = some (d[j]'(by omega)) := List.getElem?_eq_getElem (by omega)
            generalize d[j]'(by omega) = y at hda
            have hta : t[j]? = some (t[j]'(by omega)) := List.getElem?_eq_getElem (by omega)
            generalize t[j]'(by omega) = a at hta
            have hp : prd d t j = y * a := by unfold prd; rw [getD_of' hda, getD_of' hta]
            have hb := hB j
            rw [hp] at h1 hb ⊢
            simp only [ix_nat hda, ix_nat ht, ix_nat hta, bnd_s, ck_eq (x := y * a) (by omega) (by omega), ck_eq (x := s + y * a) (by omega) (by omega)])]
          have hs := sumI_add (prd d t) n 0 0 c
          rw [Int.zero_add] at hs
          rw [hs]
          have hr : rm (c + sumI (prd d t) n 0 0) 2 = some ((c + sumI (prd d t) n 0 0).tmod 2) := by unfold rm; rw [if_neg (by decide)]
          simp only [thn_nx, hr, bnd_s, ck_eq (x := (i : Int) + 1) (by omega) (by omega), parity hcb (hS t htm).1]
          rfl)
        (fun f i hfi => by
          by_cases hl : ((i : Int) < (x.tuples.length : Int))
          · have hf : f = false := by
              rcases hfi with h | h
              · exact h
              · omega
            subst hf
            simp [hl]
          · simp [hl])
        x.tuples 0 N rfl (by omega)
      rw [show (((0 : Nat)) : Int) = 0 from rfl] at he
      rw [he]
      have hall : (!(x.tuples.any fun t => !((sumI (prd d t) n 0 0).tmod 2 == c))) = x.tuples.all (fun t => ((sumI (prd d t) n 0 0).tmod 2 == c)) := by
        rw [Bool.eq_iff_iff]; simp
      simp only [thn_nx, hall]
      by_cases hA : x.tuples.all (fun t => ((sumI (prd d t) n 0 0).tmod 2 == c)) = true
      · have hap : ap s [d] = some (s ++ [d]) := ap_eq (by have := hi.1; simp; omega)
        simp only [hA, if_true, hap, bnd_s]
        refine ⟨_, rfl, rfl, ?_, fun u hu => ?_⟩
        · have := hi.1; simp; omega
        · rcases List.mem_append.1 hu with h | h
          · exact hi.2 u h
          · rw [List.mem_singleton] at h; rw [h]; omega
      · simp only [hA, if_false, Bool.false_eq_true]
        exact ⟨_, rfl, rfl, Nat.le_succ_of_le hi.1, hi.2⟩)
  rw [h1, h2]
  exact ⟨l, rfl, rfl, by omega, h4⟩
theorem EquationsOver_eq (x : Rel) (N : Nat) (hN : x.tuples.length ≤ 1048576) (hK : x.tuples.length + 10 ≤ N) : ∃ l c, spec_EquationsOver N x = some (l, c) ∧ impl_EquationsOver N x = some (l, c) ∧ cntS List.length l ≤ 1000 := by
  obtain ⟨b, h1, h2, h3⟩ := relOk 2 x hN
  unfold spec_EquationsOver impl_EquationsOver
  rw [show Rel.mk x.arity x.tuples = x from rfl, h1, h2]
  cases b with
  | false => exact ⟨[], 1, rfl, rfl, by decide⟩
  | true =>
    obtain ⟨_, ha, hv⟩ := h3 rfl
    obtain ⟨l, e1, e2, e3, e4⟩ := equations_eq x N hN hK ha hv
    refine ⟨l, 0, by simp [e1], by simp [e2], ?_⟩
    have : ∀ l : List (List Int), (∀ d ∈ l, d.length ≤ 5) → cntS List.length l ≤ l.length * 5 := by
      intro l
      induction l with
      | nil => intro _; simp [cntS]
      | cons d l ih =>
        intro h
        rw [cntS_cons]
        have := ih (fun u hu => h u (by simp [hu]))
        have := h d (by simp)
        rw [List.length_cons]
        omega
    have := this l e4
    omega
end Go.Proofs.Ytmfichdcomaaeaa
