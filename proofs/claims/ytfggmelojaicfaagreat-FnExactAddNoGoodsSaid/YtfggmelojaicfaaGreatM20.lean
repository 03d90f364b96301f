/-
  Plain law: AddNoGoods.
-/
import Derived.Test.YtfggmelojaicfaaGreatM18
import Derived.Test.YtfggmelojaicfaaGreatM19
import Derived.Test.YtfggmelojaicfaaGreatS5c
namespace Go.Proofs.YtfggmelojaicfaaGreat
set_option linter.unusedVariables false
set_option linter.unusedSimpArgs false
open Go.Lib Go.Sort

/-! ### No-goods whose variables are different -/
def onceB (l : List Literal) : Bool := okS (l.length : Int) && decide ((l.map Literal.var).Nodup)
theorem vars_loop {ρ : Type} : ∀ (l : List Literal) (k : Nat) (s : List Int), s.length + l.length ≤ 1048576 → forL (σ := List Int) (ρ := ρ) (fun (k : Nat) (x : Literal) (s : List Int) => bnd (ap s [x.var]) fun z => some (.go z)) l k s = some (.nx (s ++ l.map Literal.var))
  | [], _, s, _ => by simp
  | a :: l, k, s, h => by
    rw [List.length_cons] at h
    rw [forL_go (s' := s ++ [a.var]) (by rw [ap_eq (by simp only [List.length_cons, List.length_nil]; omega), bnd_s]), vars_loop l (k + 1) _ (by simp only [List.length_append, List.length_singleton]; omega)]
    simp
theorem rising_len (l : List Int) (h0 : 0 < l.length) (h1 : l.length ≤ 1048576) : ∃ r, impl_rising l = some r ∧ ((r.length : Int) == (l.length : Int)) = decide (l.Nodup) := by
  have hs : (l.mergeSort fun x y => decide (x ≤ y)).length = l.length := List.length_mergeSort _
  refine ⟨compactUpTo (l.mergeSort fun x y => decide (x ≤ y)).toArray l.length, ?_, ?_⟩
  · unfold impl_rising
    rw [clone_eq l h1, bnd_s]
    unfold slices_Sort_s_int64_int64
    rw [if_pos ⟨h0, h1⟩, bnd_s]
    unfold slices_Compact_s_int64_int64
    rw [if_pos ⟨by rw [hs]; exact h0, by rw [hs]; exact h1⟩, hs]
    rfl
  · rw [Bool.eq_iff_iff, decide_eq_true_eq, ← nodup_rising l]
    simp only [beq_iff_eq]
    omega
theorem isOnce_eq (l : List Literal) (h : l.length ≤ 1048576) : impl_isOnce l = some (onceB l) := by
  unfold impl_isOnce onceB
  rw [vars_loop l 0 [] (by simp; omega), thn_nx, List.nil_append, isArity_eq, bnd_s, List.length_map]
  cases ha : okS (l.length : Int) with
  | false => rfl
  | true =>
    have := okS_eq ha
    obtain ⟨r, h1, h2⟩ := rising_len (l.map Literal.var) (by rw [List.length_map]; omega) (by rw [List.length_map]; exact h)
    rw [List.length_map] at h2
    rw [if_pos rfl, h1, bnd_s, thn_nx, h2, Bool.true_and]
theorem dup_loop (l : List Literal) (v : Int) : ∀ (m k : Nat), k + m ≤ l.length → forI (σ := Unit) (ρ := Ctl Unit Bool) (fun (k : Nat) (s : Unit) => match s with | _ => bnd (ix l (k : Int)) fun z => if (v == z.var) then some (.ret (.ret false)) else some (.go ())) m k () = some (if (((l.take (k + m)).drop k).map Literal.var).contains v then .ret (.ret false) else .nx ())
  | 0, k, _ => by
    rw [Nat.add_zero, List.drop_take, Nat.sub_self]
    rfl
  | m + 1, k, h => by
    have hk : k < l.length := by omega
    have hx : ix l (k : Int) = some l[k] := ix_nat (List.getElem?_eq_getElem hk)
    have hd : (l.take (k + (m + 1))).drop k = l[k] :: (l.take (k + 1 + m)).drop (k + 1) := by
      rw [List.drop_eq_getElem_cons (by simp; omega)]
      congr 1
      · simp
      · rw [show k + (m + 1) = k + 1 + m by omega]
    rw [hd, List.map_cons, List.contains_cons]
    by_cases hv : (v == l[k].var) = true
    · rw [forI_rt (r := .ret false) (by rw [hx, bnd_s, if_pos hv]), hv, Bool.true_or]
      rfl
    · have hv' : (v == l[k].var) = false := by simpa using hv
      rw [forI_go (s' := ()) (by rw [hx, bnd_s, if_neg hv]), dup_loop l v m (k + 1) (by omega), hv', Bool.false_or]
theorem distinct_any (l : List Literal) : ∀ (r p : List Literal), l = p ++ r → (p.map Literal.var).Nodup → forL (σ := Unit) (ρ := Bool) (fun (k71 : Nat) (x73 : Literal) (s : Unit) =>
    match s with
    | _ =>
    thn (σ := Unit) (
     forI (σ := Unit) (ρ := (Ctl (Unit) Bool)) (fun (k105 : Nat) (s : Unit) =>
       match s with
       | _ =>
       bnd (ix l (k105 : Int)) fun z120 =>
       if (x73.var == z120.var) then
        some (.ret (.ret false))
       else
        some (.go ())) (k71 : Int).toNat 0 ()) fun _ =>
    some (.go ())) r p.length () = some (if decide ((l.map Literal.var).Nodup) then .nx () else .ret false)
  | [], p, he, hp => by
    rw [List.append_nil] at he
    rw [he, forL_nil', if_pos (by simpa using hp)]
  | a :: r, p, he, hp => by
    have hl : p.length ≤ l.length := by rw [he]; simp
    have hd := dup_loop l a.var p.length 0 (by omega)
    have ht : ((l.take (0 + p.length)).drop 0).map Literal.var = p.map Literal.var := by rw [Nat.zero_add, List.drop_zero, he, List.take_left]
    rw [ht] at hd
    by_cases hc : (p.map Literal.var).contains a.var = true
    · rw [hc] at hd
      have hn : ¬ (l.map Literal.var).Nodup := by
        rw [he, List.map_append, List.map_cons]
        intro hnd
        have := (List.nodup_append.1 hnd).2.2
        exact this a.var (by simpa using hc) a.var (by simp) rfl
      rw [forL_rt (r := false) (by simp only [Int.toNat_natCast, hd, if_true, thn_ret]), if_neg (by simpa using hn)]
    · have hc' : (p.map Literal.var).contains a.var = false := by simpa using hc
      rw [hc'] at hd
      rw [forL_go (s' := ()) (by simp only [Int.toNat_natCast, hd, Bool.false_eq_true, if_false, thn_nx])]
      have := distinct_any l r (p ++ [a]) (by rw [he]; simp) (by
        rw [List.map_append, List.map_singleton]
        refine List.nodup_append.2 ⟨hp, by simp, fun x hx y hy hxy => ?_⟩
        rw [List.mem_singleton] at hy
        subst hy
        subst hxy
        simp at hc
        obtain ⟨q, hq1, hq2⟩ := List.mem_map.1 hx
        exact hc q hq1 hq2)
      rw [List.length_append, List.length_singleton] at this
      exact this
theorem distinct_eq (l : List Literal) : spec_l08Distinct l = some (onceB l) := by
  unfold spec_l08Distinct onceB
  have := distinct_any l l [] rfl List.nodup_nil
  rw [List.length_nil] at this
  rw [this, l01Arity_eq]
  cases hd : decide ((l.map Literal.var).Nodup) with
  | false => simp
  | true => simp
/-! ### Copies -/
theorem copy_loop {ρ : Type} (f : List Int → Option (List Int)) : ∀ (l : List (List Int)) (k : Nat) (s : List (List Int)), (∀ t ∈ l, f t = some t) → s.length + l.length ≤ 2097152 → forL (σ := List (List Int)) (ρ := ρ) (fun (k : Nat) (x : List Int) (s : List (List Int)) => bnd (f x) fun z => bnd (ap s [z]) fun z2 => some (.go z2)) l k s = some (.nx (s ++ l))
  | [], _, s, _, _ => by simp
  | t :: l, k, s, hf, h => by
    rw [List.length_cons] at h
    rw [forL_go (s' := s ++ [t]) (by rw [hf t (by simp), bnd_s, ap_eq (by simp only [List.length_cons, List.length_nil]; omega), bnd_s]), copy_loop f l (k + 1) _ (fun u hu => hf u (by simp [hu])) (by simp only [List.length_append, List.length_singleton]; omega)]
    simp
theorem rels_loop {ρ : Type} (f : Rel → Option (List (List Int))) : ∀ (l : List Rel) (k : Nat) (s : List Rel), (∀ r ∈ l, f r = some r.tuples) → s.length + l.length ≤ 1048576 → forL (σ := List Rel) (ρ := ρ) (fun (k : Nat) (x : Rel) (s : List Rel) => bnd (f x) fun z => bnd (ap s [Rel.mk x.arity z]) fun z2 => some (.go z2)) l k s = some (.nx (s ++ l))
  | [], _, s, _, _ => by simp
  | r :: l, k, s, hf, h => by
    rw [List.length_cons] at h
    rw [forL_go (s' := s ++ [r]) (by rw [hf r (by simp), bnd_s, ap_eq (by simp only [List.length_cons, List.length_nil]; omega), bnd_s]), rels_loop f l (k + 1) _ (fun u hu => hf u (by simp [hu])) (by simp only [List.length_append, List.length_singleton]; omega)]
    simp
theorem ownLists_eq (l : List (List Int)) (hl : l.length ≤ 1048576) (h : ∀ t ∈ l, t.length ≤ 1048576) : impl_ownLists l = some l := by
  unfold impl_ownLists
  rw [copy_loop slices_Clone_s_int64_int64 l 0 [] (fun t ht => clone_eq t (h t ht)) (by simp only [List.length_nil]; omega), thn_nx]
  rfl
theorem ownTemplate_eq (x : Template) (hl : x.rels.length ≤ 6) (h : ∀ r ∈ x.rels, r.tuples.length ≤ 1048576 ∧ ∀ t ∈ r.tuples, t.length ≤ 4) : impl_ownTemplate x = some x ∧ spec_l03Rels x.rels = some x.rels := by
  constructor
  · unfold impl_ownTemplate
    rw [rels_loop (fun r => impl_ownLists r.tuples) x.rels 0 [] (fun r hr => ownLists_eq _ (h r hr).1 (fun t ht => by have := (h r hr).2 t ht; omega)) (by simp only [List.length_nil]; omega), thn_nx]
    rfl
  · unfold spec_l03Rels
    have hb : ∀ (r : Rel), r ∈ x.rels → forL (σ := (List (List Int))) (ρ := (Ctl ((List Rel)) (List Rel))) (fun (k903 : Nat) (x905 : (List Int)) (s881 : (List (List Int))) =>
     bnd (spec_l00Own x905) fun z942 =>
     bnd (ap s881 ([z942])) fun z970 =>
     some (.go z970)) r.tuples 0 [] = some (.nx r.tuples) := fun r hr => by
      rw [copy_loop spec_l00Own r.tuples 0 [] (fun t ht => own_eq t (by have := (h r hr).2 t ht; omega)) (by have := (h r hr).1; simp only [List.length_nil]; omega)]
      rfl
    have key : ∀ (l : List Rel) (k : Nat) (s : List Rel), (∀ r ∈ l, r ∈ x.rels) → s.length + l.length ≤ 1048576 → forL (σ := (List Rel)) (ρ := (List Rel)) (fun (k683 : Nat) (x685 : Rel) (s669 : (List Rel)) =>
   thn (σ := (List (List Int))) (
    forL (σ := (List (List Int))) (ρ := (Ctl ((List Rel)) (List Rel))) (fun (k903 : Nat) (x905 : (List Int)) (s881 : (List (List Int))) =>
     bnd (spec_l00Own x905) fun z942 =>
     bnd (ap s881 ([z942])) fun z970 =>
     some (.go z970)) x685.tuples 0 []) fun s892 =>
   bnd (ap s669 ([(Rel.mk x685.arity s892)])) fun z1006 =>
   some (.go z1006)) l k s = some (.nx (s ++ l)) := by
      intro l
      induction l with
      | nil => intro k s _ _; simp
      | cons r l ih =>
        intro k s hm hs
        rw [List.length_cons] at hs
        rw [forL_go (s' := s ++ [r]) (by rw [hb r (hm r (by simp)), thn_nx, ap_eq (by simp only [List.length_cons, List.length_nil]; omega), bnd_s]), ih (k + 1) _ (fun u hu => hm u (by simp [hu])) (by simp only [List.length_append, List.length_singleton]; omega)]
        simp
    rw [key x.rels 0 [] (fun r hr => hr) (by simp only [List.length_nil]; omega), thn_nx]
    rfl
theorem mapped_nums (n : Nat) : ∀ (l : List Int) (k : Nat) (s : List Int), (∀ v ∈ l, 0 ≤ v ∧ v < (n : Int)) → s.length + l.length ≤ 1048576 → forL (σ := (List Int)) (ρ := (List Int)) (fun (k62 : Nat) (x64 : Int) (s52 : (List Int)) =>
   bnd (ix (nums 0 n) x64) fun z74 =>
   bnd (ap s52 ([z74])) fun z87 =>
   some (.go z87)) l k s = some (.nx (s ++ l))
  | [], _, s, _, _ => by simp
  | v :: l, k, s, hv, h => by
    rw [List.length_cons] at h
    have hv0 := hv v (by simp)
    have hx : ix (nums 0 n) v = some v := ix_of hv0.1 (by
      unfold nums
      rw [List.getElem?_map, List.getElem?_range' (by omega)]
      simp
      omega)
    rw [forL_go (s' := s ++ [v]) (by rw [hx, bnd_s, ap_eq (by simp only [List.length_cons, List.length_nil]; omega), bnd_s]), mapped_nums n l (k + 1) _ (fun w hw => hv w (by simp [hw])) (by simp only [List.length_append, List.length_singleton]; omega)]
    simp
theorem moved_eq (n : Nat) (cs : List Con) (hl : cs.length ≤ 24) (h : ∀ c ∈ cs, c.scope.length ≤ 4 ∧ ∀ v ∈ c.scope, 0 ≤ v ∧ v < (n : Int)) : spec_l05Moved cs (nums 0 n) = some cs := by
  unfold spec_l05Moved
  have hm : ∀ c ∈ cs, spec_l01Mapped c.scope (nums 0 n) = some c.scope := fun c hc => by
    unfold spec_l01Mapped
    rw [mapped_nums n c.scope 0 [] (h c hc).2 (by have := (h c hc).1; simp only [List.length_nil]; omega), thn_nx]
    rfl
  have key : ∀ (l : List Con) (k : Nat) (s : List Con), (∀ c ∈ l, c ∈ cs) → s.length + l.length ≤ 1048576 → forL (σ := (List Con)) (ρ := (List Con)) (fun (k144 : Nat) (x146 : Con) (s130 : (List Con)) =>
   bnd (spec_l01Mapped x146.scope (nums 0 n)) fun z172 =>
   bnd (ap s130 ([(Con.mk x146.rel z172)])) fun z192 =>
   some (.go z192)) l k s = some (.nx (s ++ l)) := by
    intro l
    induction l with
    | nil => intro k s _ _; simp
    | cons c l ih =>
      intro k s hc hs
      rw [List.length_cons] at hs
      rw [forL_go (s' := s ++ [c]) (by rw [hm c (hc c (by simp)), bnd_s, ap_eq (by simp only [List.length_cons, List.length_nil]; omega), bnd_s]), ih (k + 1) _ (fun u hu => hc u (by simp [hu])) (by simp only [List.length_append, List.length_singleton]; omega)]
      simp
  rw [key cs 0 [] (fun c hc => hc) (by simp only [List.length_nil]; omega), thn_nx]
  rfl
theorem ownInstance_eq (y : Instance) (hl : y.cons.length ≤ 24) (h : ∀ c ∈ y.cons, c.scope.length ≤ 4) : impl_ownInstance y = some y := by
  unfold impl_ownInstance
  rw [own_loop y.cons 0 [] (fun c hc => by have := h c hc; omega) (by simp only [List.length_nil]; omega), thn_nx]
  rfl
/-! ### Powers, digits -/
theorem whl_mono {σ ρ : Type} {b : σ → Option (Ctl σ ρ)} {r : Out σ ρ} : ∀ {m M : Nat} {s : σ}, whl b m s = some r → m ≤ M → whl b M s = some r
  | 0, _, _, h, _ => by cases h
  | m + 1, M, s, h, hM => by
    obtain ⟨K, rfl⟩ : ∃ K, M = K + 1 := ⟨M - 1, by omega⟩
    unfold whl at h ⊢
    cases hb : b s with
    | none => rw [hb] at h; cases h
    | some c =>
      rw [hb] at h
      cases c with
      | go s' => exact whl_mono h (by omega)
      | brk s' => exact h
      | ret v => exact h
theorem thn_of {σ ρ : Type} {o : Out σ ρ} {k : σ → Option ρ} {r : ρ} (h : Then k r o) : thn (some o) k = some r := by
  cases o with
  | nx s => exact h
  | ret v => exact congrArg some h
theorem listOf_mono {m M : Nat} {a b c : Int} {d : List Int} (h : impl_listOf m a b c = some d) (hM : m ≤ M) : impl_listOf M a b c = some d := by
  unfold impl_listOf at h ⊢
  obtain ⟨z, h1, h⟩ := bnd_some h
  obtain ⟨y, h2, h⟩ := bnd_some h
  obtain ⟨o, ho, hk⟩ := thn_some h
  rw [h1, bnd_s, h2, bnd_s, whl_mono ho hM]
  exact thn_of hk
theorem power_mono {m M : Nat} {a b c : Int} (h : spec_l01Power m a b = some c) (hM : m ≤ M) : spec_l01Power M a b = some c := by
  unfold spec_l01Power at h ⊢
  obtain ⟨o, ho, hk⟩ := thn_some h
  rw [whl_mono ho hM]
  exact thn_of hk
theorem dig_loop {ρ : Type} {T : Int} (hT : 1 ≤ T) : ∀ (i : Nat) (r : Int) (d : List Int) (N : Nat), i ≤ d.length → i ≤ 1000 → 0 ≤ r → r ≤ 9223372036854775807 → (∀ a ∈ d, 0 ≤ a ∧ a < T) → i + 1 ≤ N →
    ∃ r' j d', whl (σ := Int × Int × (List Int)) (ρ := ρ) (fun (s : Int × Int × (List Int)) =>
      match s with
      | (s64, s66, s68) =>
        if (decide (0 ≤ s66)) then
          bnd (rm s64 T) fun z89 =>
          bnd (ix s68 s66) fun z91 =>
          bnd (dv s64 T) fun z102 =>
          bnd (ck (s66 - 1)) fun z104 =>
          some (.go (z102, z104, (s68.set (s66).toNat z89)))
        else
          some (.brk (s64, s66, s68))) N (r, (i : Int) - 1, d) = some (.nx (r', j, d')) ∧ d'.length = d.length ∧ ∀ a ∈ d', 0 ≤ a ∧ a < T
  | 0, r, d, N, _, _, h0, h1, hd, hN => by
    obtain ⟨M, rfl⟩ : ∃ M, N = M + 1 := ⟨N - 1, by omega⟩
    refine ⟨r, ((0 : Nat) : Int) - 1, d, whl_brk ?_, rfl, hd⟩
    simp
  | i + 1, r, d, N, hi, hi2, h0, h1, hd, hN => by
    obtain ⟨M, rfl⟩ : ∃ M, N = M + 1 := ⟨N - 1, by omega⟩
    have e1 : ((i + 1 : Nat) : Int) - 1 = (i : Int) := by omega
    have hx : d[i]? = some (d[i]'(by omega)) := List.getElem?_eq_getElem (by omega)
    have hm0 := Int.emod_nonneg r (show T ≠ 0 by omega)
    have hm1 := Int.emod_lt_of_pos r (show 0 < T by omega)
    have hr : rm r T = some (r % T) := by unfold rm; rw [if_neg (by omega), Int.tmod_eq_emod_of_nonneg h0]
    have hq0 := Int.ediv_nonneg h0 (show 0 ≤ T by omega)
    have hq1 := Int.ediv_le_self T h0
    have hdv : dv r T = some (r / T) := by unfold dv; rw [if_neg (by omega), Int.tdiv_eq_ediv_of_nonneg h0]; exact ck_eq (by omega) (by omega)
    obtain ⟨r', j, d', h2, h3, h4⟩ := dig_loop (ρ := ρ) hT i (r / T) (d.set i (r % T)) M (by rw [List.length_set]; omega) (by omega) hq0 (by omega) (fun a ha => by
      rcases List.mem_or_eq_of_mem_set ha with h | rfl
      · exact hd a h
      · exact ⟨hm0, hm1⟩) (by omega)
    refine ⟨r', j, d', ?_, by rw [h3, List.length_set], h4⟩
    rw [e1]
    rw [whl_go (s' := (r / T, (i : Int) - 1, d.set i (r % T))) (by
      have hi0 : (0 : Int) ≤ (i : Int) := by omega
      simp only [hi0, decide_true, if_true, hr, bnd_s, ix_nat hx, hdv, ck_eq (x := (i : Int) - 1) (by omega) (by omega), Int.toNat_natCast])]
    exact h2
theorem digits_any {T k : Int} {m N : Nat} (hT : 1 ≤ T) (hm : m ≤ 1000) (h0 : 0 ≤ k) (h1 : k ≤ 9223372036854775807) (hN : m + 1 ≤ N) : ∃ d, impl_listOf N T (m : Int) k = some d ∧ d.length = m ∧ ∀ a ∈ d, 0 ≤ a ∧ a < T := by
  unfold impl_listOf
  have hz : mkz (0 : Int) (m : Int) = some (List.replicate m 0) := by unfold mkz; rw [if_pos ⟨by omega, by omega⟩]; simp
  rw [hz, bnd_s, ck_eq (x := (m : Int) - 1) (by omega) (by omega), bnd_s]
  obtain ⟨r', j, d', h2, h3, h4⟩ := dig_loop (ρ := List Int) hT m k (List.replicate m 0) N (by simp) hm h0 h1 (fun a ha => by have := List.eq_of_mem_replicate ha; omega) hN
  rw [h2]
  exact ⟨d', rfl, by rw [h3, List.length_replicate], h4⟩
/-- A while loop over a list by index. -/
theorem pow4 : ∀ T ∈ [(1 : Int), 2, 3, 4], ∀ n ∈ [(1 : Int), 2, 3, 4], ∃ p ∈ (List.range 257), impl_power T n = some (p : Int) ∧ spec_l01Power 10 T n = some (p : Int) := by decide +kernel
theorem pow_two {T n : Int} {N : Nat} (hN : 10 ≤ N) (hT : okS T = true) (hn : okS n = true) : ∃ p : Nat, p ≤ 256 ∧ impl_power T n = some (p : Int) ∧ spec_l01Power N T n = some (p : Int) := by
  have h1 := okS_eq hT
  have h2 := okS_eq hn
  obtain ⟨p, hp, q1, q2⟩ := pow4 T (by simp; omega) n (by simp; omega)
  rw [List.mem_range] at hp
  exact ⟨p, by omega, q1, power_mono q2 hN⟩
theorem same_two (d v : List Int) : ∃ b, slices_Equal_s_int64_int64 d v = some b ∧ spec_l00Same d v = some b := by
  by_cases hl : (d.length : Int) = (v.length : Int)
  · have hb : ((d.length : Int) != (v.length : Int)) = false := by simp [hl]
    let f : Nat → Int → Option Bool := fun k x => if (x != v.getD k 0) then some false else none
    have hf : ∀ (j : Nat) (x : Int), d[j]? = some x → ix v (j : Int) = some (v.getD j 0) := fun j x hj => by
      have : j < d.length := (List.getElem?_eq_some_iff.1 hj).1
      refine ix_nat ?_
      rw [List.getD_eq_getElem?_getD, List.getElem?_eq_getElem (by omega)]
      rfl
    refine ⟨(fnd f d 0).getD true, ?_, ?_⟩
    · unfold slices_Equal_s_int64_int64
      rw [hb, if_neg (by simp)]
      rw [forL_fnd f (fun j x hj => by
        show _ = some (ctlO (if (x != v.getD (0 + j) 0) = true then some false else none))
        rw [Nat.zero_add, hf j x hj, bnd_s]
        cases (x != v.getD j 0) <;> rfl)]
      cases fnd f d 0 <;> rfl
    · unfold spec_l00Same
      rw [hb, if_neg (by simp)]
      rw [forL_fnd f (fun j x hj => by
        show _ = some (ctlO (if (x != v.getD (0 + j) 0) = true then some false else none))
        rw [Nat.zero_add, hf j x hj, bnd_s]
        cases (x != v.getD j 0) <;> rfl)]
      cases fnd f d 0 <;> rfl
  · have hb : ((d.length : Int) != (v.length : Int)) = true := by simpa using hl
    exact ⟨false, by unfold slices_Equal_s_int64_int64; rw [hb]; rfl, by unfold spec_l00Same; rw [hb]; rfl⟩
/-! ### Counts -/
theorem cntS_snoc {α : Type} (e : α → Nat) (x : α) : ∀ l : List α, cntS e (l ++ [x]) = cntS e l + e x
  | [] => by simp [cntS]
  | y :: l => by rw [List.cons_append, cntS_cons, cntS_cons, cntS_snoc e x l]; omega
theorem cntS_le {α : Type} (e : α → Nat) (b : Nat) : ∀ l : List α, (∀ x ∈ l, e x ≤ b) → cntS e l ≤ b * l.length
  | [], _ => by simp [cntS]
  | y :: l, h => by
    have h1 := h y (by simp)
    have h2 := cntS_le e b l (fun x hx => h x (by simp [hx]))
    rw [cntS_cons, List.length_cons, Nat.mul_add]
    omega
/-- The relation of all tuples but one: both make the same. -/
theorem but_two {ρ ρ' : Type} {N n : Nat} {T : Int} (vals : List Int) (hN : 10 ≤ N) (hT : okS T = true) (hn : n ≤ 4) (p : Nat) (hp : p ≤ 256) : ∃ s,
    forI (σ := (List (List Int))) (ρ := ρ) (fun (k127 : Nat) (s109 : (List (List Int))) =>
   bnd (impl_listOf N T (n : Int) (k127 : Int)) fun z133 =>
   bnd (impl_AddNoGoods_2 z133 vals) fun z146 =>
   if z146 then
    bnd (ap s109 ([z133])) fun z161 =>
    some (.go z161)
   else
    some (.go s109)) p 0 [] = some (.nx s) ∧
    forI (σ := (List (List Int))) (ρ := ρ') (fun (k3611 : Nat) (s3563 : (List (List Int))) =>
        bnd (spec_l01Digits N T (n : Int) (k3611 : Int)) fun z3617 =>
        bnd (spec_l00Same z3617 vals) fun z3646 =>
        if (!z3646) then
         bnd (ap s3563 ([z3617])) fun z3682 =>
         some (.go z3682)
        else
         some (.go s3563)) p 0 [] = some (.nx s) ∧ (s.length ≤ 0 + p ∧ ∀ t ∈ s, t.length = n) := by
  have hT' := okS_eq hT
  refine forI_two (fun (k : Nat) (s : List (List Int)) => s.length ≤ k ∧ ∀ t ∈ s, t.length = n) ⟨Nat.le_refl 0, fun t h => absurd h List.not_mem_nil⟩ (fun j s _ hj hi => ?_)
  obtain ⟨d, hd, hdl, _⟩ := digits_any (T := T) (k := (j : Int)) (m := n) (N := N) (by omega) (by omega) (by omega) (by omega) (by omega)
  obtain ⟨b, h1, h2⟩ := same_two d vals
  have hd2 : spec_l01Digits N T (n : Int) (j : Int) = some d := hd
  have ha : impl_AddNoGoods_2 d vals = some (!b) := by unfold impl_AddNoGoods_2; rw [h1, bnd_s]
  have hap : ap s [d] = some (s ++ [d]) := ap_eq (by simp only [List.length_cons, List.length_nil]; omega)
  rw [hd, bnd_s, ha, bnd_s, hd2, bnd_s, h2, bnd_s]
  cases b with
  | true => exact ⟨s, rfl, rfl, by omega, hi.2⟩
  | false =>
    refine ⟨s ++ [d], by rw [if_pos (show (!false) = true from rfl), hap, bnd_s], by rw [if_pos (show (!false) = true from rfl), hap, bnd_s], by rw [List.length_append, List.length_singleton]; omega, fun t ht => ?_⟩
    rcases List.mem_append.1 ht with ht | ht
    · exact hi.2 t ht
    · rw [List.mem_singleton] at ht; rw [ht]; exact hdl
theorem pair_loop {ρ : Type} : ∀ (l : List Literal) (k : Nat) (a b : List Int), a.length + l.length ≤ 1048576 → b.length + l.length ≤ 1048576 → forL (σ := List Int × List Int) (ρ := ρ) (fun (k : Nat) (x : Literal) (s : List Int × List Int) => match s with | (s1, s2) => bnd (ap s1 [x.var]) fun z => bnd (ap s2 [x.value]) fun z2 => some (.go (z, z2))) l k (a, b) = some (.nx (a ++ l.map Literal.var, b ++ l.map Literal.value))
  | [], _, a, b, _, _ => by simp
  | x :: l, k, a, b, h1, h2 => by
    rw [List.length_cons] at h1 h2
    rw [forL_go (s' := (a ++ [x.var], b ++ [x.value])) (by simp only [ap_eq (l := a) (m := [x.var]) (by simp only [List.length_cons, List.length_nil]; omega), ap_eq (l := b) (m := [x.value]) (by simp only [List.length_cons, List.length_nil]; omega), bnd_s]), pair_loop l (k + 1) _ _ (by simp only [List.length_append, List.length_singleton]; omega) (by simp only [List.length_append, List.length_singleton]; omega)]
    simp
theorem pair_loop' {ρ : Type} : ∀ (l : List Literal) (k : Nat) (a b : List Int), a.length + l.length ≤ 1048576 → b.length + l.length ≤ 1048576 → forL (σ := List Int × List Int) (ρ := ρ) (fun (k : Nat) (x : Literal) (s : List Int × List Int) => match s with | (s1, s2) => bnd (ap s2 [x.var]) fun z => bnd (ap s1 [x.value]) fun z2 => some (.go (z2, z))) l k (b, a) = some (.nx (b ++ l.map Literal.value, a ++ l.map Literal.var))
  | [], _, a, b, _, _ => by simp
  | x :: l, k, a, b, h1, h2 => by
    rw [List.length_cons] at h1 h2
    rw [forL_go (s' := (b ++ [x.value], a ++ [x.var])) (by simp only [ap_eq (l := a) (m := [x.var]) (by simp only [List.length_cons, List.length_nil]; omega), ap_eq (l := b) (m := [x.value]) (by simp only [List.length_cons, List.length_nil]; omega), bnd_s]), pair_loop' l (k + 1) _ _ (by simp only [List.length_append, List.length_singleton]; omega) (by simp only [List.length_append, List.length_singleton]; omega)]
    simp
theorem conScope {x : Template} {n : Int} (hx : smallT x) (ht : tempB x = true) {c : Con} (h : conB x n c = true) : c.scope.length ≤ 4 ∧ ∀ v ∈ c.scope, 0 ≤ v ∧ v < n := by
  obtain ⟨_, hl, hr⟩ := tempB_spec hx ht
  unfold conB at h
  split at h
  · rename_i hb
    simp only [Bool.and_eq_true, decide_eq_true_eq] at hb
    have hi : c.rel.toNat < x.rels.length := by omega
    have hxr : ix x.rels c.rel = some x.rels[c.rel.toNat] := ix_of hb.1 (List.getElem?_eq_getElem hi)
    rw [hxr] at h
    obtain ⟨r1, r2⟩ := hr _ (List.getElem_mem hi)
    have ha := okS_eq r1
    unfold areB at h
    simp only [Bool.and_eq_true, List.all_eq_true, beq_iff_eq] at h
    refine ⟨by omega, fun v hv => ?_⟩
    have := h.2 v hv
    unfold okV at this
    simp only [Bool.and_eq_true, decide_eq_true_eq] at this
    omega
  · cases h
theorem any_not {α : Type} (l : List α) (p : α → Bool) : (l.any fun a => !p a) = !(l.all p) := by rw [List.all_eq_not_any_not, Bool.not_not]
theorem AddNoGoods_two {N : Nat} (hN : 1100000 ≤ N) {x : Template} {y : Instance} (q : List (List Literal)) (hx : smallT x) (hq : ∀ l ∈ q, l.length ≤ 1048576) (hq2 : q.length ≤ 1048576) : ∃ t i c, impl_AddNoGoods N x y q = some (t, i, c) ∧ spec_AddNoGoods N x y q = some (t, i, c) ∧ t.cnt ≤ x.cnt + 20000 ∧ i.cnt ≤ y.cnt + 20000 := by
  obtain ⟨v1, v2⟩ := ValidInstance_val x y hx
  have z0 : (Template.mk 0 []).cnt ≤ x.cnt + 20000 := Nat.le_trans (Nat.zero_le _) (Nat.le_add_left 0 _)
  unfold impl_AddNoGoods spec_AddNoGoods
  rw [show (Template.mk x.size x.rels) = x from rfl, show (Instance.mk y.vars y.cons) = y from rfl, v1, v2, bnd_s, bnd_s]
  cases hv : validB x y with
  | false => exact ⟨_, _, _, rfl, rfl, by simp [Template.cnt, cntS], by simp [Instance.cnt, cntS]⟩
  | true =>
    obtain ⟨ht, y1, y2, y3, y4⟩ := validB_spec hv
    obtain ⟨hs, hxl, hxr⟩ := tempB_spec hx ht
    have hn : ck (y.vars - 1) = some (y.vars - 1) := ck_eq (by omega) (by omega)
    have hcs : ∀ c ∈ y.cons, c.scope.length ≤ 4 ∧ ∀ v ∈ c.scope, 0 ≤ v ∧ v < y.vars := fun c hc => conScope hx ht (y4 c hc)
    let okl : List Literal → Bool := fun l => l.all (litB x y) && onceB l
    have hci : slices_ContainsFunc_s_s_Literal_s_Literal q (fun a0 => impl_AddNoGoods_1 a0 x y) = some (!(q.all okl)) := by
      obtain ⟨i, h1, h2⟩ := forL_idx q (fun l => !okl l) (fun a0 => impl_AddNoGoods_1 a0 x y) (fun l hl => by
        unfold impl_AddNoGoods_1
        rw [show (impl_areLiterals x y l) = some (l.all (litB x y)) from (literals_two hs hn l).1, bnd_s]
        show _ = some (!(l.all (litB x y) && onceB l))
        cases hl1 : l.all (litB x y) with
        | false => rfl
        | true => rw [if_neg (by simp), isOnce_eq l (hq l hl), bnd_s, thn_nx, Bool.true_and])
      have h3 : slices_IndexFunc_s_s_Literal_s_Literal q (fun a0 => impl_AddNoGoods_1 a0 x y) = some i := h1
      unfold slices_ContainsFunc_s_s_Literal_s_Literal
      rw [h3, bnd_s, h2, any_not]
    simp only [Bool.not_true, Bool.false_eq_true, if_false]
    rw [hci, bnd_s]
    rw [forL_fnd (fun _ l => if (!okl l) then some ((Template.mk 0 ([])), (Instance.mk 0 ([])), 2) else none) (fun j l hj => by
      have hl := hq l (List.mem_of_getElem? hj)
      rw [(literals_two hs hn l).2, bnd_s]
      show _ = some (ctlO (if (!(l.all (litB x y) && onceB l)) = true then _ else _))
      cases hl1 : l.all (litB x y) with
      | false => rfl
      | true =>
        rw [if_neg (by simp), distinct_eq l, bnd_s, thn_nx, Bool.true_and]
        cases onceB l <;> rfl), fnd_any, any_not]
    cases ho : q.all okl with
    | false => exact ⟨_, _, _, rfl, rfl, by simp [Template.cnt, cntS], by simp [Instance.cnt, cntS]⟩
    | true =>
      simp only [Bool.not_true, Bool.false_eq_true, if_false, outO, thn_nx]
      have k1 : ck ((x.rels.length : Int) + (q.length : Int)) = some ((x.rels.length : Int) + (q.length : Int)) := ck_eq (by omega) (by omega)
      have k2 : ck ((y.cons.length : Int) + (q.length : Int)) = some ((y.cons.length : Int) + (q.length : Int)) := ck_eq (by omega) (by omega)
      rw [k1, bnd_s, k2, bnd_s]
      by_cases h6 : 6 < (x.rels.length : Int) + (q.length : Int)
      · rw [if_pos (by simpa using h6), thn_nx, thn_nx]
        exact ⟨_, _, _, rfl, rfl, by simp [Template.cnt, cntS], by simp [Instance.cnt, cntS]⟩
      · rw [if_neg (by simpa using h6), thn_nx, thn_nx]
        by_cases h24 : 24 < (y.cons.length : Int) + (q.length : Int)
        · rw [if_pos (by simpa using h24), if_pos (by simpa using h24)]
          exact ⟨_, _, _, rfl, rfl, by simp [Template.cnt, cntS], by simp [Instance.cnt, cntS]⟩
        · rw [if_neg (by simpa using h24), if_neg (by simpa using h24)]
          have hxt : ∀ r ∈ x.rels, r.tuples.length ≤ 1048576 ∧ ∀ t ∈ r.tuples, t.length ≤ 4 := fun r hr => ⟨hx r hr, fun t htt => by
            obtain ⟨r1, r2⟩ := hxr r hr
            have h1 := r2 t htt
            have h2 := okS_eq r1
            unfold areB at h1
            simp only [Bool.and_eq_true, beq_iff_eq] at h1
            omega⟩
          obtain ⟨o1, o2⟩ := ownTemplate_eq x hxl hxt
          obtain ⟨n, hnv⟩ : ∃ n : Nat, y.vars = n := ⟨y.vars.toNat, by omega⟩
          have o3 := counted n (by omega)
          have o4 := moved_eq n y.cons y3 (fun c hc => ⟨(hcs c hc).1, fun v hvv => by have := (hcs c hc).2 v hvv; omega⟩)
          have o5 := ownInstance_eq y y3 (fun c hc => (hcs c hc).1)
          rw [o1, o2, bnd_s, bnd_s, o5, bnd_s, hnv, o3, bnd_s, o4, bnd_s]
          obtain ⟨s, f1, f2, f3⟩ := forL_twoS (ρ := Template × Instance × Int) (ρ' := Template × Instance × Int) (l := q) (k := 0) (s := (x.rels, y.cons))
            (f := (fun (k3850 : Nat) (x3852 : (List Literal)) (s : (List Rel) × (List Con)) =>
       match s with
       | (s3796, s3803) =>
       thn (σ := (List Int) × (List Int)) (
        forL (σ := (List Int) × (List Int)) (ρ := (Ctl ((List Rel) × (List Con)) (Template × Instance × Int))) (fun (k4838 : Nat) (x4840 : Literal) (s : (List Int) × (List Int)) =>
          match s with
          | (s4754, s4759) =>
          bnd (ap s4754 ([x4840.var])) fun z4900 =>
          bnd (ap s4759 ([x4840.value])) fun z4943 =>
          some (.go (z4900, z4943))) x3852 0 ([], [])) fun (s4796, s4801) =>
       bnd (ap s3803 ([(Con.mk (s3796.length : Int) s4796)])) fun z5273 =>
       bnd (impl_relOf N x.size (x3852.length : Int) (fun a0 => impl_AddNoGoods_2 a0 s4801)) fun z5301 =>
       bnd (ap s3796 ([z5301])) fun z5354 =>
       some (.go (z5354, z5273))))
            (g := (fun (k2748 : Nat) (x2750 : (List Literal)) (s : (List Rel) × (List Con)) =>
      match s with
      | (s2694, s2701) =>
      thn (σ := (List Int) × (List Int)) (
       forL (σ := (List Int) × (List Int)) (ρ := (Ctl ((List Rel) × (List Con)) (Template × Instance × Int))) (fun (k3176 : Nat) (x3178 : Literal) (s : (List Int) × (List Int)) =>
         match s with
         | (s3100, s3105) =>
         bnd (ap s3105 ([x3178.var])) fun z3229 =>
         bnd (ap s3100 ([x3178.value])) fun z3285 =>
         some (.go (z3285, z3229))) x2750 0 ([], [])) fun (s3138, s3143) =>
      bnd (spec_l01Power N x.size (s3138.length : Int)) fun z3332 =>
      thn (σ := (List (List Int))) (
       forI (σ := (List (List Int))) (ρ := (Ctl ((List Rel) × (List Con)) (Template × Instance × Int))) (fun (k3611 : Nat) (s3563 : (List (List Int))) =>
        bnd (spec_l01Digits N x.size (s3138.length : Int) (k3611 : Int)) fun z3617 =>
        bnd (spec_l00Same z3617 s3138) fun z3646 =>
        if (!z3646) then
         bnd (ap s3563 ([z3617])) fun z3682 =>
         some (.go z3682)
        else
         some (.go s3563)) z3332.toNat 0 []) fun s3588 =>
      bnd (ap s2694 ([(Rel.mk (s3138.length : Int) s3588)])) fun z3746 =>
      bnd (ap s2701 ([(Con.mk (s2694.length : Int) s3143)])) fun z3797 =>
      some (.go (z3746, z3797))))
            (fun k s => s.1.length = x.rels.length + k ∧ s.2.length = y.cons.length + k ∧ cntS Rel.ecnt s.1 ≤ x.cnt + 2000 * k ∧ cntS Con.ecnt s.2 ≤ y.cnt + 20 * k)
            ⟨rfl, rfl, Nat.le_refl _, Nat.le_refl _⟩ (fun j l s hj hi => by
              obtain ⟨R, C⟩ := s
              obtain ⟨i1, i2, i3, i4⟩ := hi
              have hjq : j < q.length := (List.getElem?_eq_some_iff.1 hj).1
              have hol := List.all_eq_true.1 ho l (List.mem_of_getElem? hj)
              have hon : onceB l = true := by
                have : (l.all (litB x y) && onceB l) = true := hol
                rw [Bool.and_eq_true] at this
                exact this.2
              have hll : okS (l.length : Int) = true := by unfold onceB at hon; rw [Bool.and_eq_true] at hon; exact hon.1
              have hl4 := okS_eq hll
              obtain ⟨p, hp, p1, p2⟩ := pow_two (N := N) (T := x.size) (n := (l.length : Int)) (by omega) hs hll
              obtain ⟨S, s1, s2, s3, s4⟩ := but_two (ρ := Rel) (ρ' := Ctl ((List Rel) × (List Con)) (Template × Instance × Int)) (N := N) (n := l.length) (T := x.size) (l.map Literal.value) (by omega) hs (by omega) p hp
              have hrel : impl_relOf N x.size (l.length : Int) (fun a0 => impl_AddNoGoods_2 a0 (l.map Literal.value)) = some (Rel.mk (l.length : Int) S) := by
                unfold impl_relOf
                rw [p1, bnd_s, Int.toNat_natCast, s1, thn_nx]
              have hvl : ((l.map Literal.value).length : Int) = (l.length : Int) := by rw [List.length_map]
              simp only at i1 i2 i3 i4 ⊢
              have a1 : ap C [Con.mk (R.length : Int) (l.map Literal.var)] = some (C ++ [Con.mk (R.length : Int) (l.map Literal.var)]) := ap_eq (by simp only [List.length_cons, List.length_nil]; omega)
              have a2 : ap R [Rel.mk (l.length : Int) S] = some (R ++ [Rel.mk (l.length : Int) S]) := ap_eq (by simp only [List.length_cons, List.length_nil]; omega)
              refine ⟨(R ++ [Rel.mk (l.length : Int) S], C ++ [Con.mk (R.length : Int) (l.map Literal.var)]), ?_, ?_, ?_, ?_, ?_, ?_⟩
              · rw [pair_loop l 0 [] [] (by simp only [List.length_nil]; omega) (by simp only [List.length_nil]; omega), thn_nx]
                simp only [List.nil_append, a1, hrel, a2, bnd_s]
              · rw [pair_loop' l 0 [] [] (by simp only [List.length_nil]; omega) (by simp only [List.length_nil]; omega), thn_nx]
                simp only [List.nil_append, hvl, p2, bnd_s, Int.toNat_natCast, s2, thn_nx, a1, a2]
              · simp only [List.length_append, List.length_singleton]; omega
              · simp only [List.length_append, List.length_singleton]; omega
              · show cntS Rel.ecnt (R ++ [_]) ≤ _
                rw [cntS_snoc]
                have h1 := cntS_le List.length 4 S (fun t ht => by rw [s4 t ht]; omega)
                have h3 : (Rel.mk (l.length : Int) S).ecnt = 1 + cntS List.length S := rfl
                omega
              · show cntS Con.ecnt (C ++ [_]) ≤ _
                rw [cntS_snoc]
                have h3 : (Con.mk (R.length : Int) (l.map Literal.var)).ecnt ≤ 20 := by
                  unfold Con.ecnt Con.cnt
                  have := cntI (l.map Literal.var)
                  rw [List.length_map] at this
                  simp only
                  omega
                omega)
          rw [f1, f2]; simp only [thn_nx]
          obtain ⟨R, C⟩ := s
          obtain ⟨g1, g2, g3, g4⟩ := f3
          simp only at g1 g2 g3 g4
          refine ⟨Template.mk x.size R, Instance.mk y.vars C, 0, by rw [← hnv], by rw [← hnv], ?_, ?_⟩
          · show cntS Rel.ecnt R ≤ _
            omega
          · show cntS Con.ecnt C ≤ _
            omega
end Go.Proofs.YtfggmelojaicfaaGreat
