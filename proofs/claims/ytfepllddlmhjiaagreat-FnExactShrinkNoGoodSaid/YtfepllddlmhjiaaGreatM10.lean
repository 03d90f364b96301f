/-
  Plain laws: lists without a number, supports of values in constraints.
-/
import Derived.Test.YtfepllddlmhjiaaGreatS2b
import Derived.Test.YtfepllddlmhjiaaGreatM1
namespace Go.Proofs.YtfepllddlmhjiaaGreat
set_option linter.unusedVariables false
set_option linter.unusedSimpArgs false

theorem own_eq (l : List Int) (h : l.length ≤ 1048576) : spec_l00Own l = some l := by
  unfold spec_l00Own
  rw [ap_eq (by simp only [List.length_nil]; omega), bnd_s]; rfl
theorem clone_eq (l : List Int) (h : l.length ≤ 1048576) : slices_Clone_s_int64_int64 l = some l := by
  unfold slices_Clone_s_int64_int64
  rw [ap_eq (by simp only [List.length_nil]; omega), bnd_s]; rfl
theorem has_eq (l : List Int) (a : Int) : spec_l00Has l a = some (l.any (· == a)) := by
  unfold spec_l00Has
  rw [forL_fnd (fun _ x => if x == a then some true else none) (fun j x hj => by by_cases h : (x == a) = true <;> simp [h, ctlO]), fnd_any]
  cases h : l.any (· == a) <;> rfl
theorem contains_eq (l : List Int) (a : Int) : slices_Contains_s_int64_int64 l a = some (l.any (· == a)) := by
  unfold slices_Contains_s_int64_int64
  obtain ⟨i, h1, h2⟩ := forL_idx l (fun x => a == x) (fun x => some (a == x)) (fun _ _ => rfl)
  have h3 : slices_Index_s_int64_int64 l a = some i := h1
  rw [h3, bnd_s, h2]
  congr 2
  funext x
  exact Bool.beq_comm
/-- A loop that keeps some elements. -/
theorem forL_keep {ρ : Type} {b : Nat → Int → List Int → Option (Ctl (List Int) ρ)} (p : Int → Bool) (hb : ∀ k x s, s.length ≤ 2097152 → b k x s = some (.go (if p x then s ++ [x] else s))) : ∀ (l : List Int) (k : Nat) (s : List Int), s.length + l.length ≤ 2097152 → forL b l k s = some (.nx (s ++ l.filter p))
  | [], _, s, _ => by simp
  | x :: l, k, s, h => by
    rw [List.length_cons] at h
    rw [forL_go (hb k x s (by omega))]
    cases hp : p x with
    | true => rw [if_pos rfl, forL_keep p hb l _ _ (by simp only [List.length_append, List.length_singleton]; omega), List.filter_cons, hp, List.append_assoc]; rfl
    | false => rw [if_neg (by simp), forL_keep p hb l _ _ (by omega), List.filter_cons, hp]; rfl
theorem l05Without_eq (l : List Int) (a : Int) (h : l.length ≤ 1048576) : spec_l05Without l a = some (l.filter (· != a)) := by
  unfold spec_l05Without
  rw [forL_keep (fun x => x != a) (fun k x s hs => by
    by_cases hx : (x != a) = true
    · rw [if_pos hx, if_pos hx, ap_eq (by simp only [List.length_cons, List.length_nil]; omega), bnd_s]
    · rw [if_neg hx, if_neg hx]) l 0 [] (by simp only [List.length_nil]; omega), thn_nx]
  simp
/-- Where a list has its first hit. -/
def fstI (p : Int → Bool) : List Int → Nat → Option Nat
  | [], _ => none
  | x :: l, k => if p x then some k else fstI p l (k + 1)
theorem fstI_spec (p : Int → Bool) : ∀ (l : List Int) (k : Nat), (fstI p l k = none ∧ l.filter (fun x => !p x) = l) ∨ ∃ i, i < l.length ∧ fstI p l k = some (k + i) ∧ (l.take i).filter (fun x => !p x) = l.take i ∧ ∃ x, l[i]? = some x ∧ p x = true
  | [], _ => .inl ⟨rfl, rfl⟩
  | x :: l, k => by
    by_cases h : p x = true
    · exact .inr ⟨0, by simp, by simp [fstI, h], rfl, x, rfl, h⟩
    · have h' : p x = false := by simpa using h
      rcases fstI_spec p l (k + 1) with ⟨h1, h2⟩ | ⟨i, h1, h2, h3, y, h4, h5⟩
      · exact .inl ⟨by simp [fstI, h', h1], by rw [List.filter_cons]; simp [h', h2]⟩
      · refine .inr ⟨i + 1, by simp; omega, by simp [fstI, h', h2]; omega, ?_, y, by simpa using h4, h5⟩
        rw [List.take_succ_cons, List.filter_cons]; simp [h', h3]
theorem fnd_fstI (p : Int → Bool) : ∀ (l : List Int) (k : Nat), fnd (fun k x => if p x then some (k : Int) else none) l k = (fstI p l k).map (fun i => (i : Int))
  | [], _ => rfl
  | x :: l, k => by
    unfold fnd fstI
    by_cases h : p x = true
    · simp [h]
    · have h' : p x = false := by simpa using h
      simp only [h', Bool.false_eq_true, if_false]
      exact fnd_fstI p l (k + 1)
theorem indexFst (l : List Int) (p : Int → Bool) (f : Int → Option Bool) (hf : ∀ x, f x = some (p x)) : slices_IndexFunc_s_int64_int64 l f = some (match fstI p l 0 with | some i => (i : Int) | none => -1) := by
  have h0 : slices_IndexFunc_s_int64_int64 l f = thn (forL (σ := Unit) (ρ := Int) (fun (k : Nat) (x : Int) (s : Unit) => match s with | _ => bnd (f x) fun z => if z then some (.ret (k : Int)) else some (.go ())) l 0 ()) (fun _ => some (-1)) := rfl
  rw [h0, forL_fnd (fun k x => if p x then some (k : Int) else none) (fun j x hj => by simp only [hf, bnd_s]; by_cases hv : p x = true <;> simp [hv, ctlO]), fnd_fstI]
  cases fstI p l 0 <;> rfl
theorem set_take_succ {l : List Int} {i : Nat} (h : i < l.length) (x : Int) : (l.set i x).take (i + 1) = l.take i ++ [x] := by
  rw [List.take_add_one, List.take_set, List.getElem?_set_self h]
  congr 1
  rw [List.set_eq_of_length_le (by simp; omega)]
theorem set_drop {l : List Int} {i j : Nat} (h : i < j) (x : Int) : (l.set i x).drop j = l.drop j := by
  apply List.ext_getElem?
  intro k
  rw [List.getElem?_drop, List.getElem?_drop, List.getElem?_set_ne (by omega)]
/-- The loop of slices.DeleteFunc. -/
theorem del_loop (p : Int → Bool) (f : Int → Option Bool) (hf : ∀ x, f x = some (p x)) (l : List Int) (hl : l.length ≤ 1048576) : ∀ (N i j : Nat) (m : List Int), l.length - j < N → i < j → j ≤ l.length → m.length = l.length → m.take i = (l.take j).filter (fun x => !p x) → m.drop j = l.drop j →
    ∃ (i' : Nat) (m' : List Int), whl (σ := Int × Int × (List Int)) (ρ := (List Int)) (fun (s : Int × Int × (List Int)) =>
        match s with
        | (s94, s96, s98) =>
          if (decide (s96 < (s98.length : Int))) then
            bnd (ix s98 s96) fun z116 =>
            bnd (f z116) fun z124 =>
            if (!z124) then
              bnd (ix s98 s94) fun z127 =>
              bnd (ck (s94 + 1)) fun z138 =>
              bnd (ck (s96 + 1)) fun z140 =>
              some (.go (z138, z140, (s98.set (s94).toNat z116)))
            else
              bnd (ck (s96 + 1)) fun z142 =>
              some (.go (s94, z142, s98))
          else
            some (.brk (s94, s96, s98))) N ((i : Int), (j : Int), m) = some (.nx ((i' : Int), ((l.length : Nat) : Int), m')) ∧ i' ≤ m'.length ∧ m'.length = l.length ∧ m'.take i' = l.filter (fun x => !p x) := by
  intro N
  induction N with
  | zero => intro i j m h; omega
  | succ N ih =>
    intro i j m hN hij hj hm ht hd
    by_cases hlt : j < l.length
    · have hmj : m[j]? = l[j]? := by
        have := congrArg (fun q => q[0]?) hd
        simpa [List.getElem?_drop] using this
      have hlj : l[j]? = some l[j] := List.getElem?_eq_getElem hlt
      have hx : ix m (j : Int) = some l[j] := ix_nat (hmj.trans hlj)
      have hi : ix m (i : Int) = some m[i] := ix_nat (List.getElem?_eq_getElem (by omega))
      have hc1 : ck ((j : Int) + 1) = some (((j + 1 : Nat)) : Int) := ck_eq (by omega) (by omega)
      have hc2 : ck ((i : Int) + 1) = some (((i + 1 : Nat)) : Int) := ck_eq (by omega) (by omega)
      have htk : (l.take (j + 1)).filter (fun x => !p x) = (l.take j).filter (fun x => !p x) ++ (if p l[j] then [] else [l[j]]) := by
        rw [List.take_add_one, hlj, List.filter_append]
        cases hp : p l[j] <;> simp [hp]
      have hd1 : m.drop (j + 1) = l.drop (j + 1) := by
        have := congrArg (List.drop 1) hd
        simpa [List.drop_drop] using this
      cases hp : p l[j] with
      | true =>
        obtain ⟨i', m', h1, h2⟩ := ih i (j + 1) m (by omega) (by omega) (by omega) hm (by rw [htk, hp, ht]; simp) hd1
        refine ⟨i', m', ?_, h2⟩
        rw [whl_go (s' := ((i : Int), ((j + 1 : Nat) : Int), m)) (by simp only [hm]; rw [if_pos (by simp; omega), hx, bnd_s, hf, bnd_s, hp, hc1, bnd_s]; rfl), h1]
      | false =>
        obtain ⟨i', m', h1, h2⟩ := ih (i + 1) (j + 1) (m.set i l[j]) (by omega) (by omega) (by omega) (by simpa using hm) (by rw [htk, hp, set_take_succ (by omega), ht]; simp) (by rw [set_drop (by omega), hd1])
        refine ⟨i', m', ?_, h2⟩
        rw [whl_go (s' := (((i + 1 : Nat) : Int), ((j + 1 : Nat) : Int), m.set i l[j])) (by simp only [hm]; rw [if_pos (by simp; omega), hx, bnd_s, hf, bnd_s, hp, hi]; simp only [Bool.not_false, if_true, bnd_s, hc1, hc2, Int.toNat_natCast]), h1]
    · obtain rfl : j = l.length := by omega
      refine ⟨i, m, ?_, by omega, hm, by rw [ht, List.take_length]⟩
      exact whl_brk (by simp only [hm]; rw [if_neg (by simp)])
theorem deleteFunc_eq {N : Nat} (l : List Int) (p : Int → Bool) (f : Int → Option Bool) (hf : ∀ x, f x = some (p x)) (hl : l.length ≤ 1048576) (hN : l.length < N) : slices_DeleteFunc_s_int64_int64 N l f = some (l.filter (fun x => !p x)) := by
  unfold slices_DeleteFunc_s_int64_int64
  rw [indexFst l p f hf, bnd_s]
  rcases fstI_spec p l 0 with ⟨h1, h2⟩ | ⟨i, h1, h2, h3, x, h4, h5⟩
  · rw [h1, h2]; rfl
  · rw [h2, Nat.zero_add]
    simp only
    rw [if_neg (by simp <;> omega), show ck ((i : Int) + 1) = some (((i + 1 : Nat)) : Int) from ck_eq (by omega) (by omega), bnd_s]
    obtain ⟨i', m', g1, g2, g3, g4⟩ := del_loop p f hf l hl N i (i + 1) l (by omega) (by omega) (by omega) rfl (by
      rw [List.take_add_one, h4, List.filter_append, h3]
      simp [h5]) rfl
    rw [g1, thn_nx]
    simp only
    have hs1 : sl m' (i' : Int) (m'.length : Int) = some ((m'.take m'.length).drop i') := by
      unfold sl; rw [if_pos ⟨by omega, by omega, by omega⟩]; simp
    have hs2 : sl (m'.take i' ++ List.replicate (m'.length - i') (0 : Int)) 0 (i' : Int) = some (m'.take i') := by
      unfold sl
      rw [if_pos ⟨by omega, by omega, by simp; omega⟩]
      simp only [Int.toNat_natCast, show (0 : Int).toNat = 0 from rfl, List.drop_zero]
      rw [List.take_append_of_le_length (by simp; omega), List.take_take, Nat.min_self]
    rw [hs1, bnd_s]
    simp only [Int.toNat_natCast]
    rw [hs2, bnd_s, g4]
theorem without_eq {N : Nat} (l : List Int) (a : Int) (hl : l.length ≤ 1048576) (hN : l.length < N) : impl_without N l a = some (l.filter (· != a)) := by
  unfold impl_without
  rw [clone_eq l hl, bnd_s, deleteFunc_eq l (fun x => x == a) (fun a0 => impl_without_1 a0 a) (fun x => rfl) hl hN, bnd_s]
  rfl

/-! ### Supports -/
theorem forI_any {ρ : Type} {b : Nat → Unit → Option (Ctl Unit ρ)} (p : Nat → Bool) (r : ρ) : ∀ (m k : Nat), (∀ j, k ≤ j → j < k + m → b j () = some (if p j then .ret r else .go ())) → forI b m k () = some (if (List.range' k m).any p then .ret r else .nx ())
  | 0, k, _ => rfl
  | m + 1, k, h => by
    have h0 := h k (Nat.le_refl _) (by omega)
    cases hp : p k with
    | true => rw [hp] at h0; rw [forI_rt h0, List.range'_succ, List.any_cons, hp]; rfl
    | false =>
      rw [hp] at h0
      rw [forI_go (s' := ()) h0, forI_any p r m (k + 1) (fun j h1 h2 => h j (by omega) (by omega)), List.range'_succ, List.any_cons, hp]
      rfl
/-- Two places with the same variable and other values. -/
def agP (sc t : List Int) (k j : Nat) : Bool := (sc.getD k 0 == sc.getD j 0) && (t.getD k 0 != t.getD j 0)
def agB (sc t : List Int) : Bool := !((List.range' 0 sc.length).any fun k => (List.range' 0 k).any (agP sc t k))
theorem fnd_range {α : Type} (g : Nat → Bool) : ∀ (l : List α) (k : Nat), fnd (fun k _ => if g k then some false else none) l k = if (List.range' k l.length).any g then some false else none
  | [], _ => rfl
  | x :: l, k => by
    unfold fnd
    rw [List.length_cons, List.range'_succ, List.any_cons]
    by_cases h : g k = true
    · simp [h]
    · have h' : g k = false := by simpa using h
      simp only [h', Bool.false_eq_true, if_false, Bool.false_or]
      exact fnd_range g l (k + 1)
theorem getD_of {l : List Int} {k : Nat} {x : Int} (h : l[k]? = some x) : l.getD k 0 = x := by rw [List.getD_eq_getElem?_getD, h]; rfl
theorem ix_getD {l : List Int} {k : Nat} (h : k < l.length) : ix l (k : Int) = some (l.getD k 0) := ix_nat (by rw [List.getElem?_eq_getElem h, getD_of (List.getElem?_eq_getElem h)])
theorem agrees_eq (c : Con) (t : List Int) (h : t.length = c.scope.length) : impl_Con_agrees c t = some (agB c.scope t) := by
  unfold impl_Con_agrees
  rw [forL_fnd (fun k _ => if (List.range' 0 k).any (agP c.scope t k) then some false else none) (fun j x hj => by
    have hjl : j < c.scope.length := (List.getElem?_eq_some_iff.1 hj).1
    rw [Nat.zero_add]
    simp only [Int.toNat_natCast]
    rw [forI_any (agP c.scope t j) (.ret false) j 0 (fun q h1 h2 => by
      have hq : q < c.scope.length := by omega
      rw [ix_getD hq, bnd_s, ix_getD (by omega : q < t.length), ix_getD (by omega : j < t.length)]
      unfold agP
      rw [getD_of hj]
      generalize c.scope.getD q 0 = u
      generalize t.getD q 0 = v
      generalize t.getD j 0 = z
      simp only [bnd_s]
      by_cases h3 : u = x
      · by_cases h4 : v = z
        · simp [h3, h4]
        · simp [h3, h4, Ne.symm h4]
      · simp [h3, Ne.symm h3])]
    cases (List.range' 0 j).any (agP c.scope t j) <;> rfl), fnd_range]
  unfold agB
  cases (List.range' 0 c.scope.length).any fun k => (List.range' 0 k).any (agP c.scope t k) <;> rfl
theorem whole_eq (c : Con) (t : List Int) (h : t.length = c.scope.length) : spec_l05Whole c t = some (agB c.scope t) := by
  unfold spec_l05Whole
  rw [forL_fnd (fun k _ => if (List.range' 0 k).any (agP c.scope t k) then some false else none) (fun j x hj => by
    have hjl : j < t.length := (List.getElem?_eq_some_iff.1 hj).1
    rw [Nat.zero_add]
    simp only [Int.toNat_natCast]
    rw [forI_any (agP c.scope t j) (.ret false) j 0 (fun q h1 h2 => by
      have hq : q < c.scope.length := by omega
      rw [ix_getD (by omega : j < c.scope.length), bnd_s, ix_getD hq, bnd_s, ix_getD (by omega : q < t.length)]
      unfold agP
      rw [getD_of hj]
      generalize c.scope.getD q 0 = u
      generalize c.scope.getD j 0 = z
      generalize t.getD q 0 = v
      simp only [bnd_s]
      by_cases h3 : z = u
      · by_cases h4 : x = v
        · simp [h3, h4]
        · simp [h3, h4]
      · simp [h3])]
    cases (List.range' 0 j).any (agP c.scope t j) <;> rfl), fnd_range, h]
  unfold agB
  cases (List.range' 0 c.scope.length).any fun k => (List.range' 0 k).any (agP c.scope t k) <;> rfl
/-- Are all values of a tuple left? -/
def leftB (dom : List (List Int)) : List Int → List Int → Bool
  | v :: sc, a :: t => (dom.getD v.toNat []).any (· == a) && leftB dom sc t
  | _, _ => true
def supT (c : Con) (dom : List (List Int)) (p : Nat) (a : Int) (t : List Int) : Bool := (t.getD p 0 == a) && (agB c.scope t && leftB dom c.scope t)
theorem containsL_eq (l : List (List Int)) (p : List Int → Bool) (f : List Int → Option Bool) (hf : ∀ x ∈ l, f x = some (p x)) : slices_ContainsFunc_s_s_int64_s_int64 l f = some (l.any p) := by
  obtain ⟨i, h1, h2⟩ := forL_idx l p f hf
  have h3 : slices_IndexFunc_s_s_int64_s_int64 l f = some i := h1
  unfold slices_ContainsFunc_s_s_int64_s_int64
  rw [h3, bnd_s, h2]
theorem ixD {dom : List (List Int)} {v : Int} (h0 : 0 ≤ v) (h1 : v < dom.length) : ix dom v = some (dom.getD v.toNat []) := by
  refine ix_of h0 ?_
  rw [List.getD_eq_getElem?_getD, List.getElem?_eq_getElem (by omega)]
  rfl
theorem leftB_loop (dom : List (List Int)) (t : List Int) (bd : Nat → Int → Unit → Option (Ctl Unit Bool)) (hb : ∀ k v, bd k v () = (bnd (ix dom v) fun z107 => bnd (ix t (k : Int)) fun z117 => bnd (slices_Contains_s_int64_int64 z107 z117) fun z124 => if (!z124) then some (.ret false) else some (.go ()))) : ∀ (sc u : List Int) (k : Nat), t.drop k = u → u.length = sc.length → (∀ v ∈ sc, 0 ≤ v ∧ v < dom.length) →
    forL bd sc k () = some (if leftB dom sc u then .nx () else .ret false)
  | [], _, _, _, _, _ => rfl
  | v :: sc, [], k, _, h, _ => by simp at h
  | v :: sc, a :: u, k, hd, hl, hs => by
    have hv := hs v (by simp)
    have hta : t[k]? = some a := (drop_cons hd).2.1
    have hb0 := hb k v
    rw [ixD hv.1 hv.2, bnd_s, ix_nat hta, bnd_s, contains_eq, bnd_s] at hb0
    unfold leftB
    cases hh : (dom.getD v.toNat []).any (· == a) with
    | false => rw [hh] at hb0; rw [forL_rt hb0]; rfl
    | true =>
      rw [hh] at hb0
      rw [forL_go (s' := ()) hb0, leftB_loop dom t bd hb sc u (k + 1) (drop_cons hd).2.2 (by simpa using hl) (fun w hw => hs w (by simp [hw]))]
      rfl
theorem supT_impl (c : Con) (dom : List (List Int)) (p : Nat) (a : Int) (t : List Int) (h : t.length = c.scope.length) (hp : p < c.scope.length) (hs : ∀ v ∈ c.scope, 0 ≤ v ∧ v < dom.length) : impl_hasSupport_1 t (p : Int) a (Con.mk c.rel c.scope) dom = some (supT c dom p a t) := by
  unfold impl_hasSupport_1 supT
  rw [ix_getD (by omega), bnd_s, show (Con.mk c.rel c.scope) = c from rfl, agrees_eq c t h, bnd_s, leftB_loop dom t _ (fun k v => rfl) c.scope t 0 rfl h hs]
  generalize t.getD p 0 = y
  generalize leftB dom c.scope t = z
  generalize agB c.scope t = u
  by_cases h1 : y = a
  · cases u <;> cases z <;> simp [h1]
  · simp [h1]
theorem leftB_whl {ρ : Type} (dom : List (List Int)) (c : Con) (t : List Int) (ht : t.length ≤ 1048576) : ∀ (N : Nat) (sc u : List Int) (k : Nat), u.length < N → t.drop k = u → c.scope.drop k = sc → u.length = sc.length → k ≤ t.length → (∀ v ∈ sc, 0 ≤ v ∧ v < dom.length) →
    ∃ q, whl (σ := Bool × Int) (ρ := ρ) (fun (s : Bool × Int) =>
            match s with
            | (s315, s316) =>
              thn (σ := Bool) (
                if (decide (s316 < (t.length : Int))) then   some (.nx s315) else   some (.nx false)) fun s332 =>
              if s332 then
                bnd (ix c.scope s316) fun z344 =>
                bnd (ix dom z344) fun z351 =>
                bnd (ix t s316) fun z361 =>
                bnd (spec_l00Has z351 z361) fun z368 =>
                bnd (ck (s316 + 1)) fun z370 =>
                some (.go (z368, z370))
              else
                some (.brk (s315, s316))) N (true, (k : Int)) = some (.nx (leftB dom sc u, q))
  | 0, _, _, _, h, _, _, _, _, _ => by omega
  | N + 1, [], u, k, hN, hu, hsc, hl, hk, _ => by
    have hu0 : u = [] := List.length_eq_zero_iff.1 hl
    have : t.length ≤ k := by rw [hu0] at hu; exact List.drop_eq_nil_iff.1 hu
    refine ⟨(k : Int), whl_brk ?_⟩
    have hd : decide ((k : Int) < (t.length : Int)) = false := by simp; omega
    rw [hu0]
    simp only [hd, Bool.false_eq_true, if_false, thn_nx]
    rfl
  | N + 1, v :: sc, [], _, _, _, _, h, _, _ => by simp at h
  | N + 1, v :: sc, a :: u, k, hN, hu, hsc, hl, hk, hs => by
    have hv := hs v (by simp)
    have hta := drop_cons hu
    have hsv := drop_cons hsc
    have hd : decide ((k : Int) < (t.length : Int)) = true := by simp; exact hta.1
    have hc1 : ck ((k : Int) + 1) = some (((k + 1 : Nat)) : Int) := ck_eq (by omega) (by omega)
    have hb : ∀ b : Bool, b = (dom.getD v.toNat []).any (· == a) → ∃ q, whl (σ := Bool × Int) (ρ := ρ) (fun (s : Bool × Int) =>
            match s with
            | (s315, s316) =>
              thn (σ := Bool) (
                if (decide (s316 < (t.length : Int))) then   some (.nx s315) else   some (.nx false)) fun s332 =>
              if s332 then
                bnd (ix c.scope s316) fun z344 =>
                bnd (ix dom z344) fun z351 =>
                bnd (ix t s316) fun z361 =>
                bnd (spec_l00Has z351 z361) fun z368 =>
                bnd (ck (s316 + 1)) fun z370 =>
                some (.go (z368, z370))
              else
                some (.brk (s315, s316))) N (b, ((k + 1 : Nat) : Int)) = some (.nx (leftB dom (v :: sc) (a :: u), q)) := by
      intro b hbb
      unfold leftB
      rw [← hbb]
      cases b with
      | true =>
        obtain ⟨q, hq⟩ := leftB_whl (ρ := ρ) dom c t ht N sc u (k + 1) (by simp at hN; omega) hta.2.2 hsv.2.2 (by simpa using hl) (by omega) (fun w hw => hs w (by simp [hw]))
        exact ⟨q, by rw [hq]; rfl⟩
      | false =>
        cases N with
        | zero => simp at hN
        | succ N =>
          refine ⟨((k + 1 : Nat) : Int), whl_brk ?_⟩
          by_cases h9 : decide ((((k + 1 : Nat) : Int)) < (t.length : Int)) = true
          · simp only [h9, if_true, thn_nx]; rfl
          · have h9' : decide ((((k + 1 : Nat) : Int)) < (t.length : Int)) = false := by simpa using h9
            simp only [h9', thn_nx]; rfl
    obtain ⟨q, hq⟩ := hb _ rfl
    refine ⟨q, ?_⟩
    rw [whl_go (s' := ((dom.getD v.toNat []).any (· == a), ((k + 1 : Nat) : Int))) (by
      simp only [hd, if_true, thn_nx, ix_nat hsv.2.1, ix_nat hta.2.1, ixD hv.1 hv.2, has_eq, hc1, bnd_s]), hq]
theorem supT_spec {N : Nat} {ρ : Type} (c : Con) (dom : List (List Int)) (p : Nat) (a : Int) (t : List Int) (h : t.length = c.scope.length) (hp : p < c.scope.length) (hs : ∀ v ∈ c.scope, 0 ≤ v ∧ v < dom.length) (hN : t.length < N) (hl : t.length ≤ 1048576) (b : Bool) (hb : b = ((t.getD p 0 == a) && agB c.scope t)) :
    ∃ q, whl (σ := Bool × Int) (ρ := ρ) (fun (s : Bool × Int) =>
            match s with
            | (s315, s316) =>
              thn (σ := Bool) (
                if (decide (s316 < (t.length : Int))) then   some (.nx s315) else   some (.nx false)) fun s332 =>
              if s332 then
                bnd (ix c.scope s316) fun z344 =>
                bnd (ix dom z344) fun z351 =>
                bnd (ix t s316) fun z361 =>
                bnd (spec_l00Has z351 z361) fun z368 =>
                bnd (ck (s316 + 1)) fun z370 =>
                some (.go (z368, z370))
              else
                some (.brk (s315, s316))) N (b, 0) = some (.nx (supT c dom p a t, q)) := by
  unfold supT
  rw [← Bool.and_assoc, ← hb]
  cases b with
  | true =>
    obtain ⟨q, hq⟩ := leftB_whl (ρ := ρ) dom c t hl N c.scope t 0 hN rfl rfl h (Nat.zero_le _) hs
    exact ⟨q, by rw [Bool.true_and]; exact hq⟩
  | false =>
    cases N with
    | zero => omega
    | succ N =>
      refine ⟨0, whl_brk ?_⟩
      by_cases h9 : decide ((0 : Int) < (t.length : Int)) = true
      · simp only [h9, if_true, thn_nx]; rfl
      · have h9' : decide ((0 : Int) < (t.length : Int)) = false := by simpa using h9
        simp only [h9', thn_nx]; rfl
/-- What is asked of a constraint. -/
structure ConOk (x : Template) (c : Con) (n : Nat) : Prop where
  rel : ∃ r, ix x.rels c.rel = some r ∧ ∀ t ∈ r.tuples, t.length = c.scope.length
  sc : ∀ v ∈ c.scope, 0 ≤ v ∧ v < (n : Int)
  four : c.scope.length ≤ 4
theorem support_eq {N : Nat} {x : Template} {c : Con} {dom : List (List Int)} {p : Nat} (a : Int) (hN : 10 ≤ N) (hc : ConOk x c dom.length) (hp : p < c.scope.length) : ∃ b, impl_hasSupport x c dom (p : Int) a = some b ∧ spec_l05Support N x c dom (p : Int) a = some b := by
  obtain ⟨r, hr, hT⟩ := hc.rel
  have h4 := hc.four
  refine ⟨r.tuples.any (supT c dom p a), ?_, ?_⟩
  · unfold impl_hasSupport
    rw [hr, bnd_s, containsL_eq _ (supT c dom p a) _ (fun t ht => supT_impl c dom p a t (hT t ht) hp hc.sc), bnd_s]
  · unfold spec_l05Support
    rw [hr, bnd_s, forL_fnd (fun _ t => if supT c dom p a t then some true else none) (fun j t hj => by
      have hl := hT t (List.mem_of_getElem? hj)
      have hw : thn (σ := Bool) (ρ := Ctl Unit Bool) (bnd (ix t (p : Int)) fun z251 => if (z251 == a) then bnd (spec_l05Whole c t) fun z259 => some (.nx z259) else some (.nx false)) = fun k => k ((t.getD p 0 == a) && agB c.scope t) := by
        funext k
        rw [ix_getD (by omega), bnd_s, whole_eq c t hl, bnd_s]
        generalize t.getD p 0 = y
        by_cases h1 : y = a
        · simp [h1]
        · have h2 : (y == a) = false := by simpa using h1
          simp [h2]
      simp only [hw]
      obtain ⟨q, hq⟩ := supT_spec (N := N) (ρ := Ctl Unit Bool) c dom p a t hl hp hc.sc (by omega) (by omega) _ rfl
      rw [hq, thn_nx]
      cases supT c dom p a t <;> rfl), fnd_any]
    cases r.tuples.any (supT c dom p a) <;> rfl
end Go.Proofs.YtfepllddlmhjiaaGreat
