/-
  Plain law: ReadLine, the reference's side, and the law.
-/
import Derived.Test.YtbgkhipclkhlcaaDoorM37
namespace Go.Proofs.YtbgkhipclkhlcaaDoor
set_option maxRecDepth 100000
set_option linter.unusedVariables false
set_option linter.unusedSimpArgs false

def cntL (k : Int) : Nat := if k = 1 then 2 else if k = 2 then 3 else 1
theorem words_eqL {k : Int} (h1 : 1 ≤ k) (h2 : k ≤ 3) : spec_l08Words k = some (bstr (lineW k), (cntL k : Int)) := by
  rcases (show k = 1 ∨ k = 2 ∨ k = 3 by omega) with h | h | h <;> subst h <;> rfl
def fillB {ρ : Type} (s281 : List Int) : Option (Ctl (List Int) ρ) :=
       if (decide ((s281.length : Int) < 3)) then
        bnd (ap s281 ([0])) fun z308 =>
        some (.go z308)
       else
        some (.brk s281)
def restL (s196 : Int) (ok : Bool) (s287 : List Int) : Option (Ctl Int (Line × Bool)) :=
     bnd (ix s287 0) fun z315 =>
     bnd (ix s287 1) fun z322 =>
     bnd (ix s287 2) fun z329 =>
     thn (σ := Bool × Int × Int × Int × Int) (
      if ok then  bnd (spec_l08Line (Line.mk s196 z315 z322 z329)) fun z368 =>
       some (.nx (z368, s196, z315, z322, z329)) else  some (.nx (false, s196, z315, z322, z329))) fun (s356, s357, s359, s361, s363) =>
     some (.ret ((Line.mk s357 s359 s361 s363), s356))
def bodyL (N : Nat) (z13 : List ByteArray) (s196 : Int) : Option (Ctl Int (Line × Bool)) :=
   if (decide (s196 ≤ 3)) then
    bnd (spec_l08Words s196) fun z207 =>
    thn (σ := Bool) (
     bnd (ix z13 0) fun z228 =>
     if (!sEq z228 z207.1) then  some (.nx true) else  bnd (ck (z207.2 + 1)) fun z238 =>
      some (.nx ((z13.length : Int) != z238))) fun s227 =>
    if s227 then
     bnd (ck (s196 + 1)) fun z241 =>
     some (.go z241)
    else
     bnd (spec_l05Numbers z13 1) fun z243 =>
     thn (σ := (List Int)) (whl (ρ := (Ctl (Int) (Line × Bool))) fillB N z243.1) (restL s196 z243.2)
   else
    some (.brk s196)
theorem l08Read_def (N : Nat) (x0 : ByteArray) : spec_l08Read N x0 = bnd (spec_l01Split x0 (32 : UInt8)) fun z13 => thn (σ := Int) (whl (σ := Int) (ρ := Line × Bool) (bodyL N z13) N 1) fun _ => some ((Line.mk 0 0 0 0), false) := rfl
theorem fillB_eq {ρ : Type} (M : Nat) (out : List Int) (h : out.length ≤ 3) : whl (ρ := ρ) fillB (M + 4) out = some (.nx (out ++ List.replicate (3 - out.length) 0)) := fill3 M out h
theorem restL_eq (k : Int) (ok : Bool) (a b c : Int) : restL k ok [a, b, c] = some (.ret (⟨k, a, b, c⟩, ok && lineB ⟨k, a, b, c⟩)) := by
  unfold restL
  rw [show ix [a, b, c] 0 = some a from rfl, show ix [a, b, c] 1 = some b from rfl, show ix [a, b, c] 2 = some c from rfl, bnd_s, bnd_s, bnd_s]
  cases ok with
  | true => rw [if_pos rfl, l08Line_eq, bnd_s, thn_nx, Bool.true_and]
  | false => rw [if_neg (by simp), thn_nx, Bool.false_and]
theorem lineB_iff {k a b c : Int} : lineB ⟨k, a, b, c⟩ = true ↔ (1 ≤ k ∧ k ≤ 3) ∧ (0 ≤ a ∧ a ≤ 999) ∧ (0 ≤ b ∧ b ≤ 999) ∧ (0 ≤ c ∧ c ≤ 999) ∧ (k ≠ 2 → c = 0) ∧ (k = 3 → b = 0) :=
  ⟨lineB_parts, fun h => lineB_of h.1 h.2.1 h.2.2.1 h.2.2.2.1 h.2.2.2.2.1 h.2.2.2.2.2⟩
theorem num9_iff {x : List UInt8} : num9 x ↔ numB x = true ∧ dval 0 x ≤ 999 := by
  unfold num9 numB
  simp only [Bool.and_eq_true, decide_eq_true_eq]
  constructor
  · exact fun h => ⟨⟨h.1, h.2.1⟩, h.2.2⟩
  · exact fun h => ⟨h.1.1, h.1.2, h.2⟩
theorem three_of {l : List Int} (h : l.length = 3) : ∃ a b c, l = [a, b, c] := by
  match l, h with
  | [a, b, c], _ => exact ⟨a, b, c, rfl⟩
/-- A line of the wanted kind with as many words as it asks for. -/
theorem bodyL_hit {M : Nat} {w : List UInt8} {r : List (List UInt8)} {k : Int} (h1 : 1 ≤ k) (h2 : k ≤ 3) (hw : w = lineW k) (hr : r.length = cntL k) :
    ∃ L b, bodyL (M + 4) ((w :: r).map bstr) k = some (.ret (L, b)) ∧ (if b = true then (L, (0 : Int)) else badL) = resL (w :: r) := by
  have hk : kindL w = k := by rw [hw]; exact (kindL_word k h1 h2).1
  have hc : cntL k ≤ 3 ∧ 1 ≤ cntL k := by unfold cntL; split <;> (try split) <;> omega
  obtain ⟨o', q1, q2⟩ := l05Numbers_eq w r (by omega)
  unfold bodyL
  rw [if_pos (decide_eq_true h2), words_eqL h1 h2, bnd_s, show ix ((w :: r).map bstr) 0 = some (bstr w) from rfl, bnd_s, sEq_b, hw, beq_self_eq_true, if_neg (by simp), ck_eq (by omega) (by omega), bnd_s, thn_nx, if_neg (by simp; omega), ← hw, q2, bnd_s]
  cases ha : r.all numB with
  | false =>
    rw [if_neg (by simp), fillB_eq M o' (by omega), thn_nx]
    obtain ⟨a, b, c, he⟩ := three_of (l := o' ++ List.replicate (3 - o'.length) 0) (by rw [List.length_append, List.length_replicate]; omega)
    rw [he, restL_eq]
    refine ⟨_, _, rfl, ?_⟩
    rw [Bool.false_and, if_neg (by simp)]
    match r, ha with
    | [x], ha =>
      rw [resL2, if_neg]
      intro h
      have := (num9_iff.1 h.2).1
      simp [this] at ha
    | [x, y], ha =>
      rw [resL3, if_neg]
      intro h
      have e1 := (num9_iff.1 h.2.1).1
      have e2 := (num9_iff.1 h.2.2).1
      simp [e1, e2] at ha
    | [x, y, z], ha =>
      rw [resL4, if_neg]
      intro h
      have e1 := (num9_iff.1 h.2.1).1
      have e2 := (num9_iff.1 h.2.2.1).1
      have e3 := (num9_iff.1 h.2.2.2).1
      simp [e1, e2, e3] at ha
    | [], _ => rfl
    | _ :: _ :: _ :: _ :: _, _ => rfl
  | true =>
    rw [if_pos rfl, fillB_eq M _ (by rw [List.length_map]; omega), thn_nx]
    rcases (show k = 1 ∨ k = 2 ∨ k = 3 by omega) with h | h | h
    · subst h
      match r, hr, ha with
      | [x, y], _, ha =>
        refine ⟨_, _, restL_eq 1 true (dvI x) (dvI y) 0, ?_⟩
        simp only [List.all_cons, List.all_nil, Bool.and_true, Bool.and_eq_true] at ha
        rw [resL3, Bool.true_and]
        by_cases h9 : dval 0 x ≤ 999 ∧ dval 0 y ≤ 999
        · rw [if_pos (lineB_iff.2 (by unfold dvI; omega)), if_pos ⟨hk, num9_iff.2 ⟨ha.1, h9.1⟩, num9_iff.2 ⟨ha.2, h9.2⟩⟩]
          rfl
        · rw [if_neg (fun h => by have := lineB_iff.1 h; unfold dvI at this; omega), if_neg (fun h => by have := (num9_iff.1 h.2.1).2; have := (num9_iff.1 h.2.2).2; omega)]
    · subst h
      match r, hr, ha with
      | [x, y, z], _, ha =>
        refine ⟨_, _, restL_eq 2 true (dvI x) (dvI y) (dvI z), ?_⟩
        simp only [List.all_cons, List.all_nil, Bool.and_true, Bool.and_eq_true] at ha
        rw [resL4, Bool.true_and]
        by_cases h9 : dval 0 x ≤ 999 ∧ dval 0 y ≤ 999 ∧ dval 0 z ≤ 999
        · rw [if_pos (lineB_iff.2 (by unfold dvI; omega)), if_pos ⟨hk, num9_iff.2 ⟨ha.1, h9.1⟩, num9_iff.2 ⟨ha.2.1, h9.2.1⟩, num9_iff.2 ⟨ha.2.2, h9.2.2⟩⟩]
          rfl
        · rw [if_neg (fun h => by have := lineB_iff.1 h; unfold dvI at this; omega), if_neg (fun h => by have := (num9_iff.1 h.2.1).2; have := (num9_iff.1 h.2.2.1).2; have := (num9_iff.1 h.2.2.2).2; omega)]
    · subst h
      match r, hr, ha with
      | [x], _, ha =>
        refine ⟨_, _, restL_eq 3 true (dvI x) 0 0, ?_⟩
        simp only [List.all_cons, List.all_nil, Bool.and_true, Bool.and_eq_true] at ha
        rw [resL2, Bool.true_and]
        by_cases h9 : dval 0 x ≤ 999
        · rw [if_pos (lineB_iff.2 (by unfold dvI; omega)), if_pos ⟨hk, num9_iff.2 ⟨ha, h9⟩⟩]
          rfl
        · rw [if_neg (fun h => by have := lineB_iff.1 h; unfold dvI at this; omega), if_neg (fun h => by have := (num9_iff.1 h.2).2; omega)]
theorem bodyL_miss {N : Nat} {w : List UInt8} {r : List (List UInt8)} {k : Int} (h1 : 1 ≤ k) (h2 : k ≤ 3) (hl : r.length ≤ 2000000) (h : ¬ (w = lineW k ∧ r.length = cntL k)) :
    bodyL N ((w :: r).map bstr) k = some (.go (k + 1)) := by
  have hc : cntL k ≤ 3 ∧ 1 ≤ cntL k := by unfold cntL; split <;> (try split) <;> omega
  unfold bodyL
  rw [if_pos (decide_eq_true h2), words_eqL h1 h2, bnd_s, show ix ((w :: r).map bstr) 0 = some (bstr w) from rfl, bnd_s, sEq_b]
  by_cases hw : w = lineW k
  · rw [hw, beq_self_eq_true, if_neg (by simp), ck_eq (by omega) (by omega), bnd_s, thn_nx, if_pos (by
      simp only [List.map_cons, List.length_cons, List.length_map, bne_iff_ne]
      have : r.length ≠ cntL k := fun e => h ⟨hw, e⟩
      omega), ck_eq (by omega) (by omega), bnd_s]
  · have : (w == lineW k) = false := by rw [beq_eq_false_iff_ne]; exact hw
    rw [this, if_pos (by rfl), thn_nx, if_pos rfl, ck_eq (by omega) (by omega), bnd_s]
theorem resL_miss {w : List UInt8} {r : List (List UInt8)} (h : ∀ k : Int, 1 ≤ k → k ≤ 3 → ¬ (w = lineW k ∧ r.length = cntL k)) : resL (w :: r) = badL := by
  rcases kindL_cases w with h0 | ⟨k1, k2, k3⟩
  · exact resL0 r h0
  · have hn := h _ k1 k2
    match r, hn with
    | [], _ => rfl
    | [x], hn => rw [resL2, if_neg]; exact fun q => hn ⟨k3.symm, by rw [q.1]; rfl⟩
    | [x, y], hn => rw [resL3, if_neg]; exact fun q => hn ⟨k3.symm, by rw [q.1]; rfl⟩
    | [x, y, z], hn => rw [resL4, if_neg]; exact fun q => hn ⟨k3.symm, by rw [q.1]; rfl⟩
    | _ :: _ :: _ :: _ :: _, _ => rfl
theorem ReadLine_spec {N : Nat} (hN : 20 ≤ N) {l : List UInt8} (hl : l.length ≤ 1048576) : spec_ReadLine N (bstr l) = some (resL (cutAt 32 l)) := by
  obtain ⟨M, rfl⟩ : ∃ M, N = M + 4 := ⟨N - 4, by omega⟩
  unfold spec_ReadLine
  rw [l08Read_def, l01Split_eq hl, bnd_s]
  have hlen := cutAt_len 32 l
  cases hc : cutAt 32 l with
  | nil => exact absurd hc (cutAt_ne 32 l)
  | cons w r =>
    rw [hc, List.length_cons] at hlen
    have hm : ∀ {k : Int}, 1 ≤ k → k ≤ 3 → ¬ (w = lineW k ∧ r.length = cntL k) → bodyL (M + 4) ((w :: r).map bstr) k = some (.go (k + 1)) := fun a b c => bodyL_miss a b (by omega) c
    have done : ∀ {L : Line} {b : Bool}, (if b = true then (L, (0 : Int)) else badL) = resL (w :: r) → (bnd (thn (σ := Int) (some (.ret (L, b))) fun _ => some ((Line.mk 0 0 0 0), false)) fun z13 => if (!z13.2) then some ((Line.mk 0 0 0 0), (5 : Int)) else some ((Line.mk z13.1.kind z13.1.var z13.1.value z13.1.con), 0)) = some (resL (w :: r)) := fun {L b} h => by
      rw [thn_ret, bnd_s, ← h]
      cases b <;> rfl
    by_cases h1 : w = lineW 1 ∧ r.length = cntL 1
    · obtain ⟨L, b, e1, e2⟩ := bodyL_hit (M := M) (by decide) (by decide) h1.1 h1.2
      rw [whl_rt e1]
      exact done e2
    rw [whl_go (hm (by decide) (by decide) h1), show (1 : Int) + 1 = 2 from rfl]
    by_cases h2 : w = lineW 2 ∧ r.length = cntL 2
    · obtain ⟨L, b, e1, e2⟩ := bodyL_hit (M := M) (by decide) (by decide) h2.1 h2.2
      rw [whl_rt e1]
      exact done e2
    rw [whl_go (hm (by decide) (by decide) h2), show (2 : Int) + 1 = 3 from rfl]
    by_cases h3 : w = lineW 3 ∧ r.length = cntL 3
    · obtain ⟨L, b, e1, e2⟩ := bodyL_hit (M := M) (by decide) (by decide) h3.1 h3.2
      rw [whl_rt e1]
      exact done e2
    rw [whl_go (hm (by decide) (by decide) h3), show (3 : Int) + 1 = 4 from rfl, whl_brk (show bodyL (M + 4) ((w :: r).map bstr) 4 = some (.brk 4) from rfl), thn_nx, bnd_s, resL_miss (fun k a b => by
      rcases (show k = 1 ∨ k = 2 ∨ k = 3 by omega) with h | h | h <;> subst h <;> assumption)]
    rfl
end Go.Proofs.YtbgkhipclkhlcaaDoor
