/-
  Plain law: the texts of formulas read, on both sides.
-/
import Derived.Test.YtbgkhipclkhlcaaGreatDoorM40
namespace Go.Proofs.YtbgkhipclkhlcaaGreatDoor
set_option maxRecDepth 100000
set_option linter.unusedVariables false
set_option linter.unusedSimpArgs false

def badF : Formula × Int := (⟨0, 0, []⟩, 5)
/-! The words of a formula's text -/
theorem cut_tail {α : Type} (t : α → List UInt8) : ∀ (ts : List α) (p : List UInt8), (∀ x ∈ p, x ≠ 32) → (∀ a ∈ ts, ∀ x ∈ t a, x ≠ 32) → cutAt 32 (p ++ (ts.map fun a => 32 :: t a).flatten) = p :: ts.map t
  | [], p, hp, _ => by simp only [List.map_nil, List.flatten_nil, List.append_nil]; exact cut_one hp
  | a :: ts, p, hp, h => by
    have ih := cut_tail t ts (t a) (h a (by simp)) (fun b hb => h b (by simp [hb]))
    rw [List.map_cons, List.flatten_cons, List.cons_append, cut_app _ hp, ih, List.map_cons]
theorem atomT_noblank (a : Atom) : ∀ c ∈ atomT a, c ≠ 32 := by
  intro c hc
  unfold atomT at hc
  rcases List.mem_append.1 hc with hc | hc
  · unfold relT at hc
    split at hc
    · simp at hc; subst hc; decide
    · rcases List.mem_cons.1 hc with rfl | hc
      · decide
      · exact num_noblank _ c hc
  · rcases List.mem_cons.1 hc with rfl | hc
    · decide
    · exact digT_ne (by decide) c hc
def wordF : List UInt8 := [102, 111, 114, 109, 117, 108, 97]
theorem words_form (f : Formula) : cutAt 32 (formT f) = wordF :: num f.free :: num f.vars :: f.atoms.map atomT := by
  have e : formT f = wordF ++ 32 :: (num f.free ++ 32 :: (num f.vars ++ (f.atoms.map fun a => 32 :: atomT a).flatten)) := by
    unfold formT wordF
    simp [List.append_assoc]
  rw [e, cut_app _ (by decide), cut_app _ (num_noblank _), cut_tail atomT _ _ (num_noblank _) (fun a _ => atomT_noblank a)]
/-! The program -/
def rdA (x : List UInt8) : Atom := (impl_readAtom (bstr x)).getD default
theorem rdA_eq {x : List UInt8} (h : x.length ≤ 1048576) : impl_readAtom (bstr x) = some (rdA x) := by
  obtain ⟨a, ha⟩ := readAtom_some h
  unfold rdA
  rw [ha]
  rfl
theorem rdA_atomT {v : Int} {a : Atom} (hv : v ≤ 8) (h : atomW v a = true) : rdA (atomT a) = a := by
  unfold rdA
  rw [readAtom_atomT hv h]
  rfl
theorem atoms_loop {ρ : Type} : ∀ (ws : List (List UInt8)) (k : Nat) (s : List Atom), (∀ x ∈ ws, x.length ≤ 1048576) → s.length + ws.length ≤ 1000000 → forL (σ := (List Atom)) (ρ := ρ) (fun (k183 : Nat) (x185 : ByteArray) (s177 : (List Atom)) =>
     bnd (impl_readAtom x185) fun z192 =>
     bnd (ap s177 ([(Atom.mk z192.rel z192.args)])) fun z201 =>
     some (.go z201)) (ws.map bstr) k s = some (.nx (s ++ ws.map rdA))
  | [], k, s, _, _ => by simp [forL]
  | x :: ws, k, s, h, hs => by
    rw [List.length_cons] at hs
    rw [List.map_cons, forL_go (s' := s ++ [rdA x]) (by rw [rdA_eq (h x (by simp)), bnd_s, ap_eq (by simp only [List.length_cons, List.length_nil]; omega), bnd_s]), atoms_loop ws (k + 1) _ (fun y hy => h y (by simp [hy])) (by rw [List.length_append, List.length_singleton]; omega), List.append_assoc]
    rfl
theorem sl_from {α : Type} {l : List α} {i : Nat} (h : i ≤ l.length) : sl l (i : Int) (l.length : Int) = some (l.drop i) := by
  unfold sl
  rw [if_pos ⟨by omega, by omega, by omega⟩]
  simp
theorem RF_impl {l : List UInt8} (hl : l.length ≤ 20000) : ∃ r, impl_ReadFormula (bstr l) = some r ∧ (r = badF ∨ (formW r.1 = true ∧ formT r.1 = l ∧ r.2 = 0)) ∧ ∀ f, formW f = true → formT f = l → r = (f, 0) := by
  unfold impl_ReadFormula
  rw [bstr_size, if_neg (by simp; omega), Split_eq (by omega), bnd_s]
  have hm := cutAt_mem 32 l
  have hlen := cutAt_len 32 l
  generalize hws : cutAt 32 l = ws at *
  rw [List.length_map]
  by_cases h3 : (ws.length : Int) < 3
  · rw [if_pos (decide_eq_true h3)]
    refine ⟨_, rfl, .inl rfl, fun f h1 h2 => ?_⟩
    rw [← h2, words_form] at hws
    rw [← hws] at h3
    simp only [List.length_cons] at h3
    omega
  · rw [if_neg (by simpa using h3)]
    obtain ⟨w0, w1, w2, rest, rfl⟩ : ∃ w0 w1 w2 rest, ws = w0 :: w1 :: w2 :: rest := by
      match ws, h3 with
      | a :: b :: c :: r, _ => exact ⟨a, b, c, r, rfl⟩
      | [], h => simp at h
      | [_], h => simp at h
      | [_, _], h => simp at h
    obtain ⟨n1, e1, _⟩ := readNumber_some (l := w1) (by have := hm w1 (by simp); omega)
    obtain ⟨n2, e2, _⟩ := readNumber_some (l := w2) (by have := hm w2 (by simp); omega)
    have hsl : sl ((w0 :: w1 :: w2 :: rest).map bstr) 3 ((w0 :: w1 :: w2 :: rest).length : Int) = some (rest.map bstr) := by
      have := sl_from (l := (w0 :: w1 :: w2 :: rest).map bstr) (i := 3) (by simp)
      rw [List.length_map] at this
      exact this
    simp only [List.length_cons] at hlen
    rw [show ix ((w0 :: w1 :: w2 :: rest).map bstr) 1 = some (bstr w1) from rfl, bnd_s, show ix ((w0 :: w1 :: w2 :: rest).map bstr) 2 = some (bstr w2) from rfl, bnd_s, e1, bnd_s, e2, bnd_s, hsl, bnd_s,
      atoms_loop rest 0 [] (fun x hx => by have := hm x (by simp [hx]); omega) (by simp only [List.length_nil]; omega), thn_nx, List.nil_append, FormulaText_impl, bnd_s, sEq_b]
    have hne : l ≠ [] := by
      intro e
      subst e
      simp [cutAt] at hws
    have key : ∀ f, formW f = true → formT f = l → n1 = f.free ∧ n2 = f.vars ∧ rest.map rdA = f.atoms := fun f h1 h2 => by
      obtain ⟨f1, f2, f3, f4, _, f5⟩ := formW_spec h1
      rw [← h2, words_form] at hws
      simp only [List.cons.injEq] at hws
      obtain ⟨_, rfl, rfl, rfl⟩ := hws
      rw [num_is f1 (by omega)] at e1
      rw [num_is f3 (by omega)] at e2
      refine ⟨(Option.some.inj e1).symm, (Option.some.inj e2).symm, ?_⟩
      rw [List.map_map]
      conv => rhs; rw [← List.map_id f.atoms]
      exact List.map_congr_left (fun a ha => rdA_atomT f4 (f5 a ha))
    by_cases hw : formW ⟨n1, n2, rest.map rdA⟩ = true ∧ formT ⟨n1, n2, rest.map rdA⟩ = l
    · rw [if_pos hw.1, hw.2, beq_self_eq_true, if_neg (by simp)]
      refine ⟨_, rfl, .inr ⟨hw.1, hw.2, rfl⟩, fun f h1 h2 => ?_⟩
      obtain ⟨rfl, rfl, h5⟩ := key f h1 h2
      rw [h5]
    · have : ((if formW ⟨n1, n2, rest.map rdA⟩ = true then formT ⟨n1, n2, rest.map rdA⟩ else []) == l) = false := by
        rw [beq_eq_false_iff_ne]
        split
        · rename_i h; exact fun e => hw ⟨h, e⟩
        · exact fun e => hne e.symm
      rw [this, if_pos (by rfl)]
      refine ⟨_, rfl, .inl rfl, fun f h1 h2 => ?_⟩
      obtain ⟨rfl, rfl, h5⟩ := key f h1 h2
      rw [h5] at hw
      exact absurd ⟨h1, h2⟩ hw
/-! The reference -/
def bodyF (z14 : List ByteArray) (s : Bool × Int × (List Atom)) : Option (Ctl (Bool × Int × (List Atom)) (Formula × Int)) :=
      match s with
      | (s580, s581, s583) =>
      thn (σ := Bool) (
       if (decide (s581 < (z14.length : Int))) then  some (.nx s580) else  some (.nx false)) fun s603 =>
      if s603 then
       bnd (ix z14 s581) fun z607 =>
       bnd (spec_l01Split z607 (58 : UInt8)) fun z612 =>
       thn (σ := Bool) (
        if ((z612.length : Int) == 2) then  bnd (ix z612 0) fun z630 =>
         some (.nx (decide (0 < (z630.size : Int)))) else  some (.nx false)) fun s627 =>
       if (!s627) then
        some (.brk (s627, s581, s583))
       else
        bnd (ix z612 0) fun z637 =>
        thn (σ := Bool × Int) (
         if (!sEq z637 (bstr [61])) then
          bnd (ssl z637 1 (z637.size : Int)) fun z678 =>
          bnd (spec_l01Number z678) fun z680 =>
          thn (σ := Bool) (
           if z680.2 then  bnd (six z637 0) fun z698 =>
            some (.nx ((z698.toNat : Int) == ((82 : UInt8).toNat : Int))) else  some (.nx false)) fun s693 =>
          some (.nx (s693, z680.1))
         else
          some (.nx (s627, (-1)))) fun (s671, s672) =>
        bnd (ix z612 1) fun z700 =>
        thn (σ := (List Int)) (
         forI (σ := (List Int)) (ρ := (Ctl (Bool × Int × (List Atom)) (Formula × Int))) (fun (k792 : Nat) (s786 : (List Int)) =>
          bnd (six z700 (k792 : Int)) fun z804 =>
          bnd (ck ((z804.toNat : Int) - 48)) fun z806 =>
          bnd (ap s786 ([z806])) fun z810 =>
          some (.go z810)) (z700.size : Int).toNat 0 []) fun s789 =>
        bnd (ap s583 ([(Atom.mk s672 s789)])) fun z840 =>
        bnd (ck (s581 + 1)) fun z844 =>
        some (.go (s671, z844, z840))
      else
       some (.brk (s580, s581, s583))
theorem ReadFormula_def (N : Nat) (x0 : ByteArray) : spec_ReadFormula N x0 =
 if (decide (20000 < (x0.size : Int))) then
  some ((Formula.mk 0 0 ([])), 2)
 else
  bnd (spec_l01Split x0 (32 : UInt8)) fun z14 =>
  thn (σ := Bool) (
   if (decide ((z14.length : Int) < 3)) then  some (.nx true) else  bnd (ix z14 0) fun z34 =>
    if (!sEq z34 (bstr [102, 111, 114, 109, 117, 108, 97])) then  some (.nx true) else  some (.nx (decide (19 < (z14.length : Int))))) fun s31 =>
  if s31 then
   some ((Formula.mk 0 0 ([])), 5)
  else
   bnd (ix z14 1) fun z43 =>
   bnd (spec_l01Number z43) fun z48 =>
   bnd (ix z14 2) fun z52 =>
   bnd (spec_l01Number z52) fun z57 =>
   thn (σ := Bool) (
    if z48.2 then  some (.nx z57.2) else  some (.nx false)) fun s66 =>
   thn (σ := Bool × Int × (List Atom)) (whl (bodyF z14) N (s66, 3, [])) fun (s586, s587, s589) =>
   thn (σ := Bool) (
    if (!s586) then  some (.nx true) else  bnd (spec_l03Shown (Formula.mk z48.1 z57.1 s589)) fun z860 =>
     if (!z860) then  some (.nx true) else  bnd (spec_l03Text N (Formula.mk z48.1 z57.1 s589)) fun z863 =>
      some (.nx (!sEq z863 x0))) fun s858 =>
   if s858 then
    some ((Formula.mk 0 0 ([])), 5)
   else
    some ((Formula.mk z48.1 z57.1 s589), 0) := rfl
/-- One round. -/
theorem bodyF_step {ws : List (List UInt8)} (hw : ∀ x ∈ ws, x.length ≤ 1048576) (b : Bool) {k : Nat} {ts : List Atom} (hk : k ≤ 1000) (ha : ts.length ≤ 1000000) :
    (∃ s, bodyF (ws.map bstr) (b, (k : Int), ts) = some (.brk s)) ∨ (k < ws.length ∧ ∃ b' a, bodyF (ws.map bstr) (b, (k : Int), ts) = some (.go (b', ((k + 1 : Nat) : Int), ts ++ [a]))) := by
  unfold bodyF
  dsimp only
  rw [List.length_map]
  by_cases h1 : k < ws.length
  · rw [if_pos (decide_eq_true (by omega)), thn_nx]
    cases b with
    | false => exact .inl ⟨_, rfl⟩
    | true =>
      have hg : ws[k]? = some ws[k] := List.getElem?_eq_getElem h1
      have hx := hw _ (List.mem_of_getElem? hg)
      rw [if_pos rfl, ix_nat (by rw [List.getElem?_map, hg]; rfl), bnd_s, l01Split_eq hx, bnd_s, List.length_map]
      generalize ws[k] = x at *
      have hp := cutAt_mem 58 x
      cases h2 : (((cutAt 58 x).length : Int) == 2) with
      | false => rw [if_neg (by simp), thn_nx]; exact .inl ⟨_, rfl⟩
      | true =>
        obtain ⟨p0, p1, he⟩ : ∃ p0 p1, cutAt 58 x = [p0, p1] := by
          have : (cutAt 58 x).length = 2 := by have := beq_iff_eq.1 h2; omega
          match cutAt 58 x, this with
          | [a, b], _ => exact ⟨a, b, rfl⟩
        rw [he] at hp ⊢
        have l0 := hp p0 (by simp)
        have l1 := hp p1 (by simp)
        rw [if_pos rfl, show ix ([p0, p1].map bstr) 0 = some (bstr p0) from rfl, bnd_s, thn_nx, bstr_size]
        by_cases h4 : (0 : Int) < (p0.length : Int)
        · rw [decide_eq_true h4, if_neg (by simp), bnd_s, sEq_b]
          have hs : ∃ q, (if (!p0 == [61]) = true then
              bnd (ssl (bstr p0) 1 ((bstr p0).size : Int)) fun z678 => bnd (spec_l01Number z678) fun z680 =>
                thn (σ := Bool) (if z680.2 = true then bnd (six (bstr p0) 0) fun z698 => some (Out.nx (ρ := Out (Bool × Int) (Ctl (Bool × Int × List Atom) (Formula × Int))) ((z698.toNat : Int) == ((82 : UInt8).toNat : Int))) else some (.nx false)) fun s693 => some (Out.nx (ρ := Ctl (Bool × Int × List Atom) (Formula × Int)) (s693, z680.1))
              else some (.nx (true, -1))) = some (.nx q) := by
            split
            · obtain ⟨c, hc⟩ : ∃ c, p0[0]? = some c := ⟨p0[0], List.getElem?_eq_getElem (by omega)⟩
              rw [bstr_size, show (1 : Int) = ((1 : Nat) : Int) from rfl, ssl_b (by omega) (Nat.le_refl _), bnd_s, numbersB, bnd_s, show (0 : Int) = ((0 : Nat) : Int) from rfl, six_b hc]
              split
              · rw [bnd_s, thn_nx]; exact ⟨_, rfl⟩
              · rw [thn_nx]; exact ⟨_, rfl⟩
            · exact ⟨_, rfl⟩
          obtain ⟨⟨q1, q2⟩, hq⟩ := hs
          rw [hq, thn_nx]
          dsimp only
          rw [show ix ([p0, p1].map bstr) 1 = some (bstr p1) from rfl, bnd_s, bstr_size, Int.toNat_natCast, dig_loop p1 p1.length 0 [] (by omega) (by simp only [List.length_nil]; omega), thn_nx, ap_eq (by simp only [List.length_cons, List.length_nil]; omega), bnd_s, ck_eq (by omega) (by omega), bnd_s]
          exact .inr ⟨h1, _, _, rfl⟩
        · rw [decide_eq_false h4, if_pos (by rfl)]
          exact .inl ⟨_, rfl⟩
  · rw [if_neg (by simp; omega), thn_nx]
    exact .inl ⟨_, rfl⟩
theorem bodyF_atom {ws : List (List UInt8)} {k : Nat} {ts : List Atom} {a : Atom} {v : Int} (hk : k ≤ 1000) (ha : ts.length ≤ 1000000) (hv : v ≤ 8) (h : atomW v a = true) (hg : ws[k]? = some (atomT a)) :
    bodyF (ws.map bstr) (true, (k : Int), ts) = some (.go (true, ((k + 1 : Nat) : Int), ts ++ [a])) := by
  have h1 : k < ws.length := (List.getElem?_eq_some_iff.1 hg).1
  obtain ⟨a1, a2, a3, a4⟩ := atomW_spec hv h
  have hl := atomT_len hv h
  have hc : cutAt 58 (atomT a) = [relT a, digT a.args] := by
    unfold atomT
    rw [cut_app _ relT_nocolon, cut_one (digT_ne (by decide))]
  unfold bodyF
  dsimp only
  rw [List.length_map, if_pos (decide_eq_true (by omega)), thn_nx, if_pos rfl, ix_nat (by rw [List.getElem?_map, hg]; rfl), bnd_s, l01Split_eq (by omega), bnd_s, hc]
  have hr : 0 < (relT a).length := by unfold relT; split <;> simp
  rw [if_pos (by rfl), show ix ([relT a, digT a.args].map bstr) 0 = some (bstr (relT a)) from rfl, bnd_s, thn_nx, bstr_size, decide_eq_true (by omega), if_neg (by simp), bnd_s, sEq_b]
  have hq : (if (!relT a == [61]) = true then
              bnd (ssl (bstr (relT a)) 1 ((bstr (relT a)).size : Int)) fun z678 => bnd (spec_l01Number z678) fun z680 =>
                thn (σ := Bool) (if z680.2 = true then bnd (six (bstr (relT a)) 0) fun z698 => some (Out.nx (ρ := Out (Bool × Int) (Ctl (Bool × Int × List Atom) (Formula × Int))) ((z698.toNat : Int) == ((82 : UInt8).toNat : Int))) else some (.nx false)) fun s693 => some (Out.nx (ρ := Ctl (Bool × Int × List Atom) (Formula × Int)) (s693, z680.1))
              else some (.nx (true, -1))) = some (.nx (true, a.rel)) := by
    by_cases hr : a.rel = -1
    · have e : relT a = [61] := by unfold relT; rw [if_pos hr]
      rw [e, hr]
      rfl
    · have e : relT a = 82 :: num a.rel := by unfold relT; rw [if_neg hr]
      have hne : ((82 :: num a.rel) == [61]) = false := by rw [beq_eq_false_iff_ne]; intro h; have := (List.cons.inj h).1; exact absurd this (by decide)
      rw [e, hne, if_pos (by rfl), bstr_size, show (1 : Int) = ((1 : Nat) : Int) from rfl, ssl_b (by simp) (Nat.le_refl _), bnd_s, List.take_length]
      show (bnd (spec_l01Number (bstr (num a.rel))) fun z680 => _) = _
      rw [numB_num (by omega) (by omega), bnd_s, if_pos rfl, show (0 : Int) = ((0 : Nat) : Int) from rfl, six_b (c := 82) rfl, bnd_s, thn_nx]
      rfl
  rw [hq, thn_nx]
  dsimp only
  rw [show ix ([relT a, digT a.args].map bstr) 1 = some (bstr (digT a.args)) from rfl, bnd_s, bstr_size, Int.toNat_natCast, dig_loop (digT a.args) (digT a.args).length 0 [] (by omega) (by have := digT_len a4; simp only [List.length_nil]; omega), thn_nx, List.drop_zero, List.nil_append, (digT_dig a4).2, ap_eq (by simp only [List.length_cons, List.length_nil]; omega), bnd_s, ck_eq (by omega) (by omega), bnd_s]
  rfl
theorem loopF_some {ws : List (List UInt8)} (hw : ∀ x ∈ ws, x.length ≤ 1048576) (hl : ws.length ≤ 999) : ∀ (m : Nat) (b : Bool) (k : Nat) (ts : List Atom), ws.length - k < m → k ≤ ws.length → ts.length ≤ k → ∃ s, whl (bodyF (ws.map bstr)) m (b, (k : Int), ts) = some (.nx s)
  | 0, _, _, _, h, _, _ => absurd h (by omega)
  | m + 1, b, k, ts, h, h1, h2 => by
    rcases bodyF_step hw b (k := k) (ts := ts) (by omega) (by omega) with ⟨s, hs⟩ | ⟨hk, b', a, hs⟩
    · exact ⟨s, whl_brk hs⟩
    · rw [whl_go hs]
      exact loopF_some hw hl m b' (k + 1) (ts ++ [a]) (by omega) (by omega) (by rw [List.length_append, List.length_singleton]; omega)
theorem loopF_atoms {ws : List (List UInt8)} (hl : ws.length ≤ 999) {v : Int} (hv : v ≤ 8) : ∀ (rest : List Atom) (m k : Nat) (ts : List Atom), (∀ a ∈ rest, atomW v a = true) → ws.drop k = rest.map atomT → k ≤ ws.length → rest.length < m → ts.length ≤ k → whl (bodyF (ws.map bstr)) m (true, (k : Int), ts) = some (.nx (true, (ws.length : Int), ts ++ rest))
  | _, 0, _, _, _, _, _, h, _ => absurd h (by omega)
  | [], m + 1, k, ts, _, hd, hk, _, _ => by
    have : ws.length ≤ k := by have := congrArg List.length hd; simp at this; omega
    obtain rfl : k = ws.length := by omega
    refine (whl_brk (s' := (true, (ws.length : Int), ts)) ?_).trans (by simp)
    unfold bodyF
    dsimp only
    rw [List.length_map, if_neg (by simp), thn_nx]
    rfl
  | a :: rest, m + 1, k, ts, ha, hd, hk, hm, hs => by
    have hg : ws[k]? = some (atomT a) := by
      have h := congrArg (fun l => l[0]?) hd
      simpa using h
    rw [whl_go (bodyF_atom (by omega) (by omega) hv (ha a (by simp)) hg), loopF_atoms hl hv rest m (k + 1) (ts ++ [a]) (fun b hb => ha b (by simp [hb])) (by rw [← List.drop_drop, hd]; rfl) ((List.getElem?_eq_some_iff.1 hg).1) (by simp at hm; omega) (by rw [List.length_append, List.length_singleton]; omega), List.append_assoc]
    rfl
theorem RF_spec {N : Nat} (hN : 20 ≤ N) {l : List UInt8} (hl : l.length ≤ 20000) : ∃ r, spec_ReadFormula N (bstr l) = some r ∧ (r = badF ∨ (formW r.1 = true ∧ formT r.1 = l ∧ r.2 = 0)) ∧ ∀ f, formW f = true → formT f = l → r = (f, 0) := by
  rw [ReadFormula_def, bstr_size, if_neg (by simp; omega), l01Split_eq (by omega), bnd_s]
  have hm := cutAt_mem 32 l
  have hlen := cutAt_len 32 l
  generalize hws : cutAt 32 l = ws at *
  rw [List.length_map]
  have early : ∀ b : Bool, b = true → (∀ f, formW f = true → formT f = l → False) → ∀ (k : Bool → Option (Formula × Int)), k true = some badF → ∃ r, thn (some (.nx b)) k = some r ∧ (r = badF ∨ (formW r.1 = true ∧ formT r.1 = l ∧ r.2 = 0)) ∧ ∀ f, formW f = true → formT f = l → r = (f, 0) := fun b hb hf k hk => by
    subst hb
    exact ⟨badF, by rw [thn_nx, hk], .inl rfl, fun f h1 h2 => (hf f h1 h2).elim⟩
  by_cases h3 : (ws.length : Int) < 3
  · rw [if_pos (decide_eq_true h3)]
    refine early true rfl (fun f h1 h2 => ?_) _ rfl
    rw [← h2, words_form] at hws
    rw [← hws] at h3
    simp only [List.length_cons] at h3
    omega
  rw [if_neg (by simpa using h3)]
  obtain ⟨w0, w1, w2, rest, rfl⟩ : ∃ w0 w1 w2 rest, ws = w0 :: w1 :: w2 :: rest := by
    match ws, h3 with
    | a :: b :: c :: r, _ => exact ⟨a, b, c, r, rfl⟩
    | [], h => simp at h
    | [_], h => simp at h
    | [_, _], h => simp at h
  rw [show ix ((w0 :: w1 :: w2 :: rest).map bstr) 0 = some (bstr w0) from rfl, bnd_s, show bstr [102, 111, 114, 109, 117, 108, 97] = bstr wordF from rfl, sEq_b]
  by_cases h0 : w0 = wordF
  case neg =>
    have : (w0 == wordF) = false := by rw [beq_eq_false_iff_ne]; exact h0
    rw [this, if_pos (by rfl)]
    refine early true rfl (fun f h1 h2 => ?_) _ rfl
    rw [← h2, words_form] at hws
    exact h0 (List.cons.inj hws).1.symm
  rw [h0, beq_self_eq_true, if_neg (by simp)]
  by_cases h19 : (19 : Int) < ((w0 :: w1 :: w2 :: rest).length : Int)
  · rw [h0] at h19
    rw [decide_eq_true h19]
    refine early true rfl (fun f h1 h2 => ?_) _ rfl
    obtain ⟨_, _, _, _, f5, _⟩ := formW_spec h1
    rw [← h2, words_form, h0] at hws
    rw [← hws] at h19
    simp only [List.length_cons, List.length_map] at h19
    omega
  rw [h0] at h19
  rw [decide_eq_false h19, thn_nx, if_neg (by simp)]
  subst h0
  have hrest : rest.length ≤ 16 := by simp only [List.length_cons] at h19; omega
  rw [show ix ((wordF :: w1 :: w2 :: rest).map bstr) 1 = some (bstr w1) from rfl, bnd_s, numbersB, bnd_s, show ix ((wordF :: w1 :: w2 :: rest).map bstr) 2 = some (bstr w2) from rfl, bnd_s, numbersB, bnd_s]
  have hw : ∀ x ∈ wordF :: w1 :: w2 :: rest, x.length ≤ 1048576 := fun x hx => by have := hm x hx; omega
  generalize hn1 : (if numB w1 = true then ((dval 0 w1 : Nat) : Int) else 0) = n1
  generalize hn2 : (if numB w2 = true then ((dval 0 w2 : Nat) : Int) else 0) = n2
  have hs66 : (if numB w1 = true then some (Out.nx (ρ := Formula × Int) (numB w2)) else some (.nx false)) = some (.nx (numB w1 && numB w2)) := by cases numB w1 <;> rfl
  dsimp only
  rw [hs66, thn_nx]
  have fin : ∀ (b : Bool) (i : Int) (ts : List Atom), (∀ f, formW f = true → formT f = l → b = true ∧ n1 = f.free ∧ n2 = f.vars ∧ ts = f.atoms) → ∃ r, (thn (σ := Bool × Int × (List Atom)) (some (.nx (b, i, ts))) fun (s586, s587, s589) =>
   thn (σ := Bool) (
    if (!s586) = true then  some (.nx true) else  bnd (spec_l03Shown (Formula.mk n1 n2 s589)) fun z860 =>
     if (!z860) = true then  some (.nx true) else  bnd (spec_l03Text N (Formula.mk n1 n2 s589)) fun z863 =>
      some (.nx (!sEq z863 (bstr l)))) fun s858 =>
   if s858 = true then
    some ((Formula.mk 0 0 ([])), (5 : Int))
   else
    some ((Formula.mk n1 n2 s589), 0)) = some r ∧ (r = badF ∨ (formW r.1 = true ∧ formT r.1 = l ∧ r.2 = 0)) ∧ ∀ f, formW f = true → formT f = l → r = (f, 0) := fun b i ts hf => by
    rw [thn_nx]
    dsimp only
    cases b with
    | false => exact ⟨badF, rfl, .inl rfl, fun f h1 h2 => absurd (hf f h1 h2).1 (by simp)⟩
    | true =>
      rw [if_neg (by simp), Shown_eq, bnd_s]
      cases hW : formW ⟨n1, n2, ts⟩ with
      | false =>
        refine ⟨badF, rfl, .inl rfl, fun f h1 h2 => ?_⟩
        obtain ⟨_, rfl, rfl, rfl⟩ := hf f h1 h2
        rw [hW] at h1
        cases h1
      | true =>
        rw [if_neg (by simp), l03Text_eq hN hW, bnd_s, thn_nx, sEq_b]
        by_cases hT : formT ⟨n1, n2, ts⟩ = l
        · rw [hT, beq_self_eq_true, if_neg (by simp)]
          refine ⟨_, rfl, .inr ⟨hW, hT, rfl⟩, fun f h1 h2 => ?_⟩
          obtain ⟨_, rfl, rfl, rfl⟩ := hf f h1 h2
          rfl
        · have : (formT ⟨n1, n2, ts⟩ == l) = false := by rw [beq_eq_false_iff_ne]; exact hT
          rw [this, if_pos (by rfl)]
          refine ⟨_, rfl, .inl rfl, fun f h1 h2 => ?_⟩
          obtain ⟨_, rfl, rfl, rfl⟩ := hf f h1 h2
          exact absurd h2 hT
  have hlen3 : (wordF :: w1 :: w2 :: rest).length ≤ 999 := by simp only [List.length_cons]; omega
  have dec : ∀ f, formW f = true → formT f = l → numB w1 = true ∧ numB w2 = true ∧ n1 = f.free ∧ n2 = f.vars ∧ rest = f.atoms.map atomT ∧ f.vars ≤ 8 ∧ ∀ a ∈ f.atoms, atomW f.vars a = true := fun f h1 h2 => by
    obtain ⟨f1, f2, f3, f4, _, f5⟩ := formW_spec h1
    rw [← h2, words_form] at hws
    simp only [List.cons.injEq] at hws
    obtain ⟨_, rfl, rfl, rfl⟩ := hws
    have g1 := (numbersB _).symm.trans (numB_num f1 (by omega : f.free ≤ 999))
    have g2 := (numbersB _).symm.trans (numB_num f3 (by omega : f.vars ≤ 999))
    rw [hn1] at g1
    rw [hn2] at g2
    simp only [Option.some.injEq, Prod.mk.injEq] at g1 g2
    exact ⟨g1.2, g2.2, g1.1, g2.1, rfl, f4, f5⟩
  by_cases hex : ∃ f, formW f = true ∧ formT f = l
  · obtain ⟨f, h1, h2⟩ := hex
    obtain ⟨d1, d2, d3, d4, d5, d6, d7⟩ := dec f h1 h2
    rw [d1, d2]
    have := loopF_atoms hlen3 d6 f.atoms N 3 [] d7 (by show rest = _; exact d5) (by simp) (by have := (formW_spec h1).2.2.2.2.1; omega) (by simp)
    rw [show ((3 : Nat) : Int) = 3 from rfl, List.nil_append] at this
    rw [show (true && true) = true from rfl, this]
    refine fin true _ f.atoms (fun g h3 h4 => ?_)
    obtain ⟨_, _, e3, e4, e5, _, e7⟩ := dec g h3 h4
    refine ⟨rfl, e3, e4, ?_⟩
    have hi : ∀ (ts bs : List Atom), (∀ a ∈ ts, atomW f.vars a = true) → (∀ a ∈ bs, atomW g.vars a = true) → ts.map atomT = bs.map atomT → ts = bs := fun ts bs ha hb h => by
      have h1 := congrArg (fun q => q.map rdA) h
      simp only [List.map_map] at h1
      have e1 : ts.map (rdA ∘ atomT) = ts := by
        conv => rhs; rw [← List.map_id ts]
        exact List.map_congr_left (fun a h => rdA_atomT d6 (ha a h))
      have e2 : bs.map (rdA ∘ atomT) = bs := by
        conv => rhs; rw [← List.map_id bs]
        exact List.map_congr_left (fun a h => rdA_atomT (by omega) (hb a h))
      rw [e1, e2] at h1
      exact h1
    exact hi _ _ d7 e7 (d5.symm.trans e5)
  · obtain ⟨⟨b, i, ts⟩, hs⟩ := loopF_some hw hlen3 N (numB w1 && numB w2) 3 [] (by simp only [List.length_cons]; omega) (by simp) (by simp)
    rw [show ((3 : Nat) : Int) = 3 from rfl] at hs
    rw [hs]
    exact fin b i ts (fun f h1 h2 => absurd ⟨f, h1, h2⟩ hex)
end Go.Proofs.YtbgkhipclkhlcaaGreatDoor
