/-
  Plain law: ReadLine, the reference's side.
-/
import Derived.Test.YtbgkhipclkhlcaaDoorM36
namespace Go.Proofs.YtbgkhipclkhlcaaDoor
set_option maxRecDepth 100000
set_option linter.unusedVariables false
set_option linter.unusedSimpArgs false

theorem numbers_b (x : List UInt8) : spec_l01Number (bstr x) = some (if numB x then ((dval 0 x : Nat) : Int) else 0, numB x) := l01Number_eq x
/-- The numbers behind the first word. -/
def dvI (x : List UInt8) : Int := ((dval 0 x : Nat) : Int)
theorem num_loop (ws : List (List UInt8)) : ∀ (m k : Nat) (out : List Int), 1 + k + m = ws.length → out.length + m ≤ 1000 → ∃ o' : List Int, o'.length ≤ out.length + m ∧ forI (σ := (List Int)) (ρ := (List Int) × Bool) (fun (k62 : Nat) (s52 : (List Int)) =>
   bnd (ix (ws.map bstr) (1 + (k62 : Int))) fun z69 =>
   bnd (spec_l01Number z69) fun z76 =>
   if (!z76.2) then
    some (.ret (s52, false))
   else
    bnd (ap s52 ([z76.1])) fun z87 =>
    some (.go z87)) m k out = some (if (ws.drop (1 + k)).all numB then .nx (out ++ (ws.drop (1 + k)).map dvI) else .ret (o', false))
  | 0, k, out, hk, _ => by
    refine ⟨out, Nat.le_refl _, ?_⟩
    rw [List.drop_eq_nil_of_le (by omega)]
    simp [forI]
  | m + 1, k, out, hk, ho => by
    have hlt : 1 + k < ws.length := by omega
    have hg : ws[1 + k]? = some ws[1 + k] := List.getElem?_eq_getElem hlt
    have hd : ws.drop (1 + k) = ws[1 + k] :: ws.drop (1 + k + 1) := List.drop_eq_getElem_cons hlt
    have hi : ix (ws.map bstr) (1 + (k : Int)) = some (bstr ws[1 + k]) := by
      rw [show (1 : Int) + (k : Int) = ((1 + k : Nat) : Int) by omega]
      exact ix_nat (by rw [List.getElem?_map, hg]; rfl)
    rw [hd]
    generalize ws[1 + k] = x at *
    cases hx : numB x with
    | false =>
      refine ⟨out, by omega, ?_⟩
      rw [forI_rt (r := (out, false)) (by rw [hi, bnd_s, numbers_b, bnd_s, hx]; rfl)]
      simp [hx]
    | true =>
      obtain ⟨o', h1, h2⟩ := num_loop ws m (k + 1) (out ++ [dvI x]) (by omega) (by rw [List.length_append, List.length_singleton]; omega)
      refine ⟨o', by rw [List.length_append, List.length_singleton] at h1; omega, ?_⟩
      rw [forI_go (s' := out ++ [dvI x]) (by rw [hi, bnd_s, numbers_b, bnd_s, hx, if_neg (by simp), ap_eq (by simp only [List.length_cons, List.length_nil]; omega), bnd_s]; rfl), h2]
      simp [hx, Nat.add_assoc]
theorem l05Numbers_eq (w : List UInt8) (r : List (List UInt8)) (hr : r.length ≤ 999) : ∃ o' : List Int, o'.length ≤ r.length ∧ spec_l05Numbers ((w :: r).map bstr) 1 = some (if r.all numB then (r.map dvI, true) else (o', false)) := by
  obtain ⟨o', h1, h2⟩ := num_loop (w :: r) r.length 0 [] (by rw [List.length_cons]; omega) (by simp only [List.length_nil]; omega)
  refine ⟨o', by simpa using h1, ?_⟩
  unfold spec_l05Numbers
  have e : ((((w :: r).map bstr).length : Int) - 1).toNat = r.length := by rw [List.length_map, List.length_cons]; omega
  rw [e, h2]
  have e2 : (w :: r).drop (1 + 0) = r := rfl
  rw [e2]
  cases r.all numB <;> rfl
/-- The list filled to three. -/
theorem fill3 {ρ : Type} (M : Nat) (out : List Int) (h : out.length ≤ 3) : whl (σ := (List Int)) (ρ := ρ) (fun (s281 : (List Int)) =>
       if (decide ((s281.length : Int) < 3)) then
        bnd (ap s281 ([0])) fun z308 =>
        some (.go z308)
       else
        some (.brk s281)) (M + 4) out = some (.nx (out ++ List.replicate (3 - out.length) 0)) := by
  have st : ∀ (l : List Int), l.length < 3 → (if (decide ((l.length : Int) < 3)) = true then bnd (ap l ([0])) fun z308 => some (Ctl.go (ρ := ρ) z308) else some (.brk l)) = some (.go (l ++ [0])) := fun l hl => by
    rw [if_pos (decide_eq_true (by omega)), ap_eq (by simp only [List.length_cons, List.length_nil]; omega), bnd_s]
  match out, h with
  | [], _ => rw [whl_go (s' := [0]) (st [] (by decide)), whl_go (s' := [0, 0]) (st [0] (by decide)), whl_go (s' := [0, 0, 0]) (st [0, 0] (by decide)), whl_brk rfl]; rfl
  | [a], _ => rw [whl_go (s' := [a, 0]) (st [a] (by simp)), whl_go (s' := [a, 0, 0]) (st [a, 0] (by simp)), whl_brk rfl]; rfl
  | [a, b], _ => rw [whl_go (s' := [a, b, 0]) (st [a, b] (by simp)), whl_brk rfl]; rfl
  | [a, b, c], _ => rw [whl_brk rfl]; rfl
  | _ :: _ :: _ :: _ :: _, h => simp at h
end Go.Proofs.YtbgkhipclkhlcaaDoor
