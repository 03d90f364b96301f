/-
  Plain law: RefutationText.
-/
import Derived.Test.YtjjdbdlbjdoebaaDoorM30
import Derived.Test.YtjjdbdlbjdoebaaDoorS4
namespace Go.Proofs.YtjjdbdlbjdoebaaDoor
set_option linter.unusedVariables false
set_option linter.unusedSimpArgs false

theorem lineT_len {x : Line} (h : lineB x = true) : (lineT x).length ≤ 80 := by
  obtain ⟨hk, h1, h2, h3⟩ := lineB_spec h
  have g1 := in9_spec h1
  have g2 := in9_spec h2
  have g3 := in9_spec h3
  have n1 := num_len (n := x.var) (by omega)
  have n2 := num_len (n := x.value) (by omega)
  have n3 := num_len (n := x.con) (by omega)
  unfold lineT
  split
  · simp only [List.length_append, List.length_cons, List.length_nil]; omega
  · split
    · simp only [List.length_append, List.length_cons, List.length_nil]; omega
    · simp only [List.length_append, List.length_cons, List.length_nil]; omega
theorem lineT_ne (x : Line) : (lineT x == ([] : List UInt8)) = false := by
  unfold lineT
  split
  · rfl
  · split <;> rfl
theorem bw_b {a b : List UInt8} (h : a.length + b.length ≤ 140737488355328) : bw (bstr a) (bstr b) = some (bstr (a ++ b)) := by
  unfold bw
  rw [bstr_size, bstr_size, if_pos h, bstr_app]
/-- The text of a refutation. -/
def refW (l : List Line) : Bool := decide ((l.length : Int) ≤ 4000) && l.all lineB
def refT (l : List Line) : List UInt8 := (l.map fun x => lineT x ++ [10]).flatten
theorem ref_impl : ∀ (l : List Line) (k : Nat) (s : List UInt8), s.length + 81 * l.length ≤ 1000000 → forL (σ := ByteArray) (ρ := ByteArray) (fun (k86 : Nat) (x88 : Line) (s82 : ByteArray) =>
    bnd (impl_LineText (Line.mk x88.kind x88.var x88.value x88.con)) fun z111 =>
    if (sEq z111 (bstr [])) then
     some (.ret ((bstr [])))
    else
     bnd (scat z111 (bstr [10])) fun z116 =>
     bnd (bw s82 z116) fun z118 =>
     some (.go z118)) l k (bstr s) = some (if l.all lineB then .nx (bstr (s ++ refT l)) else .ret (bstr []))
  | [], _, s, _ => by simp [refT]
  | x :: l, k, s, h => by
    rw [List.length_cons] at h
    cases hf : lineB x with
    | false =>
      rw [forL_rt (r := bstr []) (by rw [show (Line.mk x.kind x.var x.value x.con) = x from rfl, LineText_impl, bnd_s, hf, show (if false = true then lineT x else []) = [] from rfl, sEq_b]; rfl)]
      simp [hf]
    | true =>
      have hl := lineT_len hf
      rw [forL_go (s' := bstr (s ++ (lineT x ++ [10]))) (by
        rw [show (Line.mk x.kind x.var x.value x.con) = x from rfl, LineText_impl, bnd_s, hf, if_pos rfl, sEq_b, lineT_ne, if_neg (by simp), scat_b (by simp only [List.length_cons, List.length_nil]; omega), bnd_s, bw_b (by simp only [List.length_append, List.length_cons, List.length_nil]; omega), bnd_s]),
        ref_impl l (k + 1) _ (by simp only [List.length_append, List.length_cons, List.length_nil]; omega)]
      simp [hf, refT]
theorem ref_spec {N : Nat} (hN : 20 ≤ N) : ∀ (l : List Line) (k : Nat) (s : List UInt8), s.length + 81 * l.length ≤ 1000000 → forL (σ := ByteArray) (ρ := ByteArray) (fun (k46 : Nat) (x48 : Line) (s42 : ByteArray) =>
    bnd (spec_l08Line x48) fun z57 =>
    if (!z57) then
     some (.ret ((bstr [])))
    else
     bnd (spec_l08Text N x48) fun z64 =>
     bnd (scat z64 (bstr [10])) fun z68 =>
     bnd (scat s42 z68) fun z70 =>
     some (.go z70)) l k (bstr s) = some (if l.all lineB then .nx (bstr (s ++ refT l)) else .ret (bstr []))
  | [], _, s, _ => by simp [refT]
  | x :: l, k, s, h => by
    rw [List.length_cons] at h
    cases hf : lineB x with
    | false =>
      rw [forL_rt (r := bstr []) (by rw [l08Line_eq, bnd_s, hf]; rfl)]
      simp [hf]
    | true =>
      have hl := lineT_len hf
      rw [forL_go (s' := bstr (s ++ (lineT x ++ [10]))) (by
        rw [l08Line_eq, bnd_s, hf, if_neg (by simp), l08Text_eq hN hf, bnd_s, scat_b (by simp only [List.length_cons, List.length_nil]; omega), bnd_s, scat_b (by simp only [List.length_append, List.length_cons, List.length_nil]; omega), bnd_s]),
        ref_spec hN l (k + 1) _ (by simp only [List.length_append, List.length_cons, List.length_nil]; omega)]
      simp [hf, refT]
theorem RefutationText_impl (l : List Line) : impl_RefutationText l = some (bstr (if refW l then refT l else [])) := by
  unfold impl_RefutationText refW
  by_cases h : (l.length : Int) ≤ 4000
  · rw [if_neg (by simp; omega), ref_impl l 0 [] (by simp only [List.length_nil]; omega)]
    cases ha : l.all lineB <;> simp [h]
  · rw [if_pos (by simp; omega)]
    simp [h]
theorem RefutationText_spec {N : Nat} (hN : 20 ≤ N) (l : List Line) : spec_RefutationText N l = some (bstr (if refW l then refT l else [])) := by
  unfold spec_RefutationText refW
  by_cases h : (l.length : Int) ≤ 4000
  · rw [if_neg (by simp; omega), ref_spec hN l 0 [] (by simp only [List.length_nil]; omega)]
    cases ha : l.all lineB <;> simp [h]
  · rw [if_pos (by simp; omega)]
    simp [h]
end Go.Proofs.YtjjdbdlbjdoebaaDoor
