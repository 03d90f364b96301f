/-
  Plain laws: digits and powers.
-/
import Derived.Test.YtfepllddlmhjiaaM2
namespace Go.Proofs.Ytfepllddlmhjiaa
set_option linter.unusedVariables false
set_option linter.unusedSimpArgs false

theorem whl_all {α ρ : Type} (L : List α) (p : α → Bool) {b : Bool × Int → Option (Ctl (Bool × Int) ρ)}
    (h1 : ∀ (i : Nat) t, L[i]? = some t → b (true, (i : Int)) = some (.go (p t, ((i + 1 : Nat) : Int))))
    (h2 : ∀ (f : Bool) (i : Nat), (f = false ∨ L.length ≤ i) → b (f, (i : Int)) = some (.brk (f, (i : Int)))) :
    ∀ (r : List α) (i N : Nat), L.drop i = r → r.length + 2 ≤ N → ∃ j : Nat, whl b N (true, (i : Int)) = some (.nx (r.all p, (j : Int)))
  | [], i, N, hr, hN => by
    obtain ⟨M, rfl⟩ : ∃ M, N = M + 1 := ⟨N - 1, by omega⟩
    have hl := congrArg List.length hr
    rw [List.length_drop] at hl
    rw [whl_brk (h2 true i (.inr (by simp at hl; omega)))]
    exact ⟨i, rfl⟩
  | t :: r, i, N, hr, hN => by
    obtain ⟨M, rfl⟩ : ∃ M, N = M + 1 := ⟨N - 1, by omega⟩
    have ht : L[i]? = some t := by rw [← List.head?_drop, hr]; rfl
    have hd : L.drop (i + 1) = r := by rw [← List.drop_drop, hr]; rfl
    rw [whl_go (h1 i t ht)]
    by_cases hp : p t = true
    · rw [hp]
      obtain ⟨j, hj⟩ := whl_all L p h1 h2 r (i + 1) M hd (by simp at hN; omega)
      exact ⟨j, by rw [hj]; simp [hp]⟩
    · have hp' : p t = false := by simpa using hp
      rw [hp']
      obtain ⟨K, rfl⟩ : ∃ K, M = K + 1 := ⟨M - 1, by simp at hN; omega⟩
      rw [whl_brk (h2 false (i + 1) (.inl rfl))]
      exact ⟨i + 1, by simp [hp']⟩
theorem whl_mono {σ ρ : Type} {b : σ → Option (Ctl σ ρ)} {r : Out σ ρ} : ∀ {m M : Nat} {s : σ}, whl b m s = some r → m ≤ M → whl b M s = some r
  | 0, _, _, h, _ => by cases h
  | m + 1, M, s, h, hM => by
    obtain ⟨K, rfl⟩ : ∃ K, M = K + 1 := ⟨M - 1, by omega⟩
    unfold whl at h ⊢
    cases hb : b s with
    | none => rw [hb] at h; cases h
    | some c =>
      rw [hb] at h
      cases c with
      | go s' => exact whl_mono h (by omega)
      | brk s' => exact h
      | ret v => exact h
theorem thn_of {σ ρ : Type} {o : Out σ ρ} {k : σ → Option ρ} {r : ρ} (h : Then k r o) : thn (some o) k = some r := by
  cases o with
  | nx s => exact h
  | ret v => exact congrArg some h
theorem listOf_mono {m M : Nat} {a b c : Int} {d : List Int} (h : impl_listOf m a b c = some d) (hM : m ≤ M) : impl_listOf M a b c = some d := by
  unfold impl_listOf at h ⊢
  obtain ⟨z, h1, h⟩ := bnd_some h
  obtain ⟨y, h2, h⟩ := bnd_some h
  obtain ⟨o, ho, hk⟩ := thn_some h
  rw [h1, bnd_s, h2, bnd_s, whl_mono ho hM]
  exact thn_of hk
theorem power_mono {m M : Nat} {a b c : Int} (h : spec_l01Power m a b = some c) (hM : m ≤ M) : spec_l01Power M a b = some c := by
  unfold spec_l01Power at h ⊢
  obtain ⟨o, ho, hk⟩ := thn_some h
  rw [whl_mono ho hM]
  exact thn_of hk
def digOf (n : Nat) (o : Option (List Int)) : Bool :=
  match o with
  | some d => d.length == n + 1 && d.all (fun a => decide (0 ≤ a) && decide (a ≤ 1))
  | none => false
def digOk (n k : Nat) : Bool := digOf n (impl_listOf 10 2 ((n : Int) + 1) (1 + (k : Int)))
theorem digOk_all0 : ([0, 1, 2, 3, 4].all fun n => [0, 1, 2, 3, 4, 5, 6, 7, 8, 9, 10, 11, 12, 13, 14, 15, 16, 17, 18, 19, 20, 21, 22, 23, 24, 25, 26, 27, 28, 29, 30].all (digOk n)) = true := by decide +kernel
theorem digOk_all (n : Nat) (hn : n < 5) (k : Nat) (hk : k < 31) : digOk n k = true := by
  have h := List.all_eq_true.1 digOk_all0 n (by simp; omega)
  exact List.all_eq_true.1 h k (by simp; omega)
theorem digs {n k N : Nat} (hN : 10 ≤ N) (hn : n < 5) (hk : k < 31) : ∃ d, impl_listOf N 2 ((n : Int) + 1) (1 + (k : Int)) = some d ∧ d.length = n + 1 ∧ ∀ a ∈ d, 0 ≤ a ∧ a ≤ 1 := by
  obtain ⟨o, ho⟩ : ∃ o, o = impl_listOf 10 2 ((n : Int) + 1) (1 + (k : Int)) := ⟨_, rfl⟩
  have h : digOf n o = true := by rw [ho]; exact digOk_all n hn k hk
  cases o with
  | none => cases h
  | some d =>
    refine ⟨d, listOf_mono ho.symm hN, ?_⟩
    simpa [digOf] using h
theorem powers0 : ∀ n : Nat, n < 5 → impl_power 2 ((n : Int) + 1) = some ((2 ^ (n + 1) : Nat) : Int) ∧ spec_l01Power 10 2 ((n : Int) + 1) = some ((2 ^ (n + 1) : Nat) : Int) := by decide +kernel
theorem powers (n : Nat) {N : Nat} (hN : 10 ≤ N) (h : n < 5) : impl_power 2 ((n : Int) + 1) = some ((2 ^ (n + 1) : Nat) : Int) ∧ spec_l01Power N 2 ((n : Int) + 1) = some ((2 ^ (n + 1) : Nat) : Int) := ⟨(powers0 n h).1, power_mono (powers0 n h).2 hN⟩
theorem bit {l : List Int} (h : ∀ a ∈ l, 0 ≤ a ∧ a ≤ 1) (j : Nat) : l.getD j 0 = 0 ∨ l.getD j 0 = 1 := by
  rw [List.getD_eq_getElem?_getD]
  cases hj : l[j]? with
  | none => exact .inl rfl
  | some a => have := h a (List.mem_of_getElem? hj); show a = 0 ∨ a = 1; omega
theorem getD_of' {l : List Int} {j : Nat} {a : Int} (h : l[j]? = some a) : l.getD j 0 = a := by rw [List.getD_eq_getElem?_getD, h]; rfl
def prd (d t : List Int) (j : Nat) : Int := d.getD j 0 * t.getD j 0
theorem prd_bit {d t : List Int} (hd : ∀ a ∈ d, 0 ≤ a ∧ a ≤ 1) (ht : ∀ a ∈ t, 0 ≤ a ∧ a ≤ 1) (j : Nat) : 0 ≤ prd d t j ∧ prd d t j ≤ 1 := by
  unfold prd
  rcases bit hd j with h | h <;> rcases bit ht j with h' | h' <;> rw [h, h'] <;> decide
end Go.Proofs.Ytfepllddlmhjiaa
