/-
  Plain laws: whether an operation keeps a relation: both say the same.
-/
import Derived.Test.YtfepllddlmhjiaaM6
namespace Go.Proofs.Ytfepllddlmhjiaa
set_option linter.unusedVariables false
set_option linter.unusedSimpArgs false

theorem forI_rel {ρ ρ' : Type} {f : Nat → Unit → Option (Ctl Unit ρ)} {g : Nat → Unit → Option (Ctl Unit ρ')} (Q : ρ → ρ' → Prop) : ∀ {m k : Nat}, (∀ j, k ≤ j → j < k + m → (f j () = some (.go ()) ∧ g j () = some (.go ())) ∨ ∃ r r', f j () = some (.ret r) ∧ g j () = some (.ret r') ∧ Q r r') →
    (forI f m k () = some (.nx ()) ∧ forI g m k () = some (.nx ())) ∨ ∃ r r', forI f m k () = some (.ret r) ∧ forI g m k () = some (.ret r') ∧ Q r r'
  | 0, _, _ => .inl ⟨rfl, rfl⟩
  | m + 1, k, h => by
    rcases h k (Nat.le_refl _) (by omega) with ⟨h1, h2⟩ | ⟨r, r', h1, h2, h3⟩
    · rw [forI_go h1, forI_go h2]
      exact forI_rel Q (fun j hj hj2 => h j (by omega) (by omega))
    · exact .inr ⟨r, r', forI_rt h1, forI_rt h2, h3⟩
theorem forI_allgo {ρ : Type} {f : Nat → Unit → Option (Ctl Unit ρ)} : ∀ {m k : Nat}, (∀ j, k ≤ j → j < k + m → f j () = some (.go ())) → forI f m k () = some (.nx ())
  | 0, _, _ => rfl
  | m + 1, k, h => by
    rw [forI_go (h k (Nat.le_refl _) (by omega))]
    exact forI_allgo (fun j hj hj2 => h j (by omega) (by omega))
/-- A round of the reference. -/
def FB (N : Nat) (x1 : Op) (x2 : Rel) (S : List Bool) (k551 : Nat) (s : Unit) : Option (Ctl Unit ((List (List Int)) × (List Int) × Bool)) :=
      match s with
      | _ =>
        bnd (spec_l01Digits N (x2.tuples.length : Int) x1.arity (k551 : Int)) fun z562 =>
        thn (σ := (List (List Int)) × Int) (
          whl (σ := (List (List Int)) × Int) (ρ := (Ctl (Unit) ((List (List Int)) × (List Int) × Bool))) (fun (s : (List (List Int)) × Int) =>
            match s with
            | (s720, s726) =>
              if (decide (s726 < (z562.length : Int))) then
                bnd (ix z562 s726) fun z760 =>
                bnd (ix x2.tuples z760) fun z767 =>
                bnd (ap s720 ([z767])) fun z789 =>
                bnd (ck (s726 + 1)) fun z801 =>
                some (.go (z789, z801))
              else
                some (.brk (s720, s726))) N ([], 0)) fun (s733, s739) =>
        bnd (spec_l02Make 2 x1 s733) fun z803 =>
        bnd (spec_l01Code 2 z803) fun z817 =>
        bnd (ix S z817) fun z819 =>
        if (!z819) then
          thn (σ := (List (List Int)) × Int) (
            whl (σ := (List (List Int)) × Int) (ρ := (Ctl (Unit) ((List (List Int)) × (List Int) × Bool))) (fun (s : (List (List Int)) × Int) =>
              match s with
              | (s975, s982) =>
                if (decide (s982 < (s733.length : Int))) then
                  bnd (ix s733 s982) fun z1007 =>
                  bnd (spec_l00Own z1007) fun z1018 =>
                  bnd (ap s975 ([z1018])) fun z1047 =>
                  bnd (ck (s982 + 1)) fun z1058 =>
                  some (.go (z1047, z1058))
                else
                  some (.brk (s975, s982))) N ([], 0)) fun (s988, s995) =>
          some (.ret (s988, z803, true))
        else
          some (.go ())
/-- A round of the program. -/
def GB (N : Nat) (x1 : Op) (x2 : Rel) (S : List Bool) (k434 : Nat) (s : Unit) : Option (Ctl Unit ((List (List Int)) × (List Int))) :=
        match s with
        | _ =>
          bnd (impl_listOf N (x2.tuples.length : Int) x1.arity (k434 : Int)) fun z450 =>
          thn (σ := (List (List Int))) (
            forL (σ := (List (List Int))) (ρ := (Ctl (Unit) ((List (List Int)) × (List Int)))) (fun (k622 : Nat) (x624 : Int) (s596 : (List (List Int))) =>
              bnd (ix x2.tuples x624) fun z634 =>
              bnd (ap s596 ([z634])) fun z660 =>
              some (.go z660)) z450 0 []) fun s610 =>
          bnd (impl_made 2 (Op.mk x1.arity x1.table) s610) fun z677 =>
          bnd (impl_indexOf 2 z677) fun z694 =>
          bnd (ix S z694) fun z696 =>
          if (!z696) then
            bnd (nev z677) fun z704 =>
            some (.ret (s610, z677))
          else
            some (.go ())
theorem mkR_ok {o : Op} {m n : Nat} (ho : OpOk o m) {sel : List (List Int)} (h : ∀ t ∈ sel, Bits t ∧ t.length = n) (hm : sel.length = m) : Bits (mkR o sel n) ∧ (mkR o sel n).length = n := by
  refine ⟨fun a ha => ?_, by unfold mkR; simp⟩
  unfold mkR at ha
  obtain ⟨k, _, rfl⟩ := List.mem_map.1 ha
  exact (val_at ho h hm k).2.2
theorem round {N : Nat} {o : Op} {x : Rel} {m n k : Nat} {S : List Bool} (hN : 10 ≤ N) (ho : OpOk o m) (hn : 1 ≤ n ∧ n ≤ 4) (hT : ∀ t ∈ x.tuples, Bits t ∧ t.length = n) (h1 : 1 ≤ x.tuples.length) (hk : (k : Int) ≤ 9223372036854775807) (hS : S.length = 2 ^ n) :
    ∃ (R : List Int) (b : Bool) (sel : List (List Int)), FB N o x S k () = some (if b then .go () else .ret (sel, R, true)) ∧ GB N o x S k () = some (if b then .go () else .ret (sel, R)) ∧ R ≠ [] ∧ 0 ≤ codeN R ∧ codeN R < ((2 ^ n : Nat) : Int) ∧ S[(codeN R).toNat]? = some b ∧ R.length = n ∧ sel.length = m ∧ ∀ t ∈ sel, t.length = n := by
  have hm1 := ho.m1
  have hm3 := ho.m3
  obtain ⟨d, d1, d2, d3⟩ := digits_any (T := (x.tuples.length : Int)) (k := (k : Int)) (m := m) (N := N) (by omega) (by omega) (by omega) hk (by omega)
  let sel := d.map fun v => x.tuples.getD v.toNat []
  have hat : ∀ v ∈ d, ix x.tuples v = some (x.tuples.getD v.toNat []) := fun v hv => by
    have := d3 v hv
    have hlt : v.toNat < x.tuples.length := by omega
    have he : x.tuples[v.toNat]? = some (x.tuples[v.toNat]'hlt) := List.getElem?_eq_getElem hlt
    rw [List.getD_eq_getElem?_getD, he]
    exact ix_of this.1 he
  have hsel : ∀ t ∈ sel, Bits t ∧ t.length = n := fun t ht => by
    obtain ⟨v, hv, rfl⟩ := List.mem_map.1 ht
    have := d3 v hv
    have hlt : v.toNat < x.tuples.length := by omega
    have he : x.tuples[v.toNat]? = some (x.tuples[v.toNat]'hlt) := List.getElem?_eq_getElem hlt
    rw [List.getD_eq_getElem?_getD, he]
    exact hT _ (List.getElem_mem hlt)
  have hsl : sel.length = m := by show (d.map _).length = m; rw [List.length_map, d2]
  obtain ⟨r1, r2⟩ := mkR_ok ho hsel hsl
  obtain ⟨c1, c2, c3⟩ := code_eq r1 (by omega)
  rw [r2] at c3
  have hlt : (codeN (mkR o sel n)).toNat < S.length := by rw [hS]; omega
  have hx : S[(codeN (mkR o sel n)).toNat]? = some (S[(codeN (mkR o sel n)).toNat]'hlt) := List.getElem?_eq_getElem hlt
  generalize S[(codeN (mkR o sel n)).toNat]'hlt = b at hx
  have hne : mkR o sel n ≠ [] := fun h => by rw [h] at r2; simp at r2; omega
  obtain ⟨j1, e1⟩ := whl_list (ρ := (Ctl (Unit) ((List (List Int)) × (List Int) × Bool))) d (fun v => x.tuples.getD v.toNat []) (b := fun (s : (List (List Int)) × Int) =>
            match s with
            | (s720, s726) =>
              if (decide (s726 < (d.length : Int))) then
                bnd (ix d s726) fun z760 =>
                bnd (ix x.tuples z760) fun z767 =>
                bnd (ap s720 ([z767])) fun z789 =>
                bnd (ck (s726 + 1)) fun z801 =>
                some (.go (z789, z801))
              else
                some (.brk (s720, s726)))
    (fun i v s hi hs => by
      have hil := (List.getElem?_eq_some_iff.1 hi).1
      have hi2 : (i : Int) < (d.length : Int) := by omega
      simp only [hi2, decide_true, if_true, ix_nat hi, bnd_s, hat v (List.mem_of_getElem? hi), ap_eq (l := s) (m := [x.tuples.getD v.toNat []]) (by simp; omega), ck_eq (x := (i : Int) + 1) (by omega) (by omega)]
      rfl)
    (fun i s hi => by
      have hi2 : ¬ (i : Int) < (d.length : Int) := by omega
      simp [hi2]) d 0 N [] rfl rfl (by omega)
  obtain ⟨j2, e2⟩ := whl_list (ρ := (Ctl (Unit) ((List (List Int)) × (List Int) × Bool))) sel (fun t => t) (b := fun (s : (List (List Int)) × Int) =>
              match s with
              | (s975, s982) =>
                if (decide (s982 < (sel.length : Int))) then
                  bnd (ix sel s982) fun z1007 =>
                  bnd (spec_l00Own z1007) fun z1018 =>
                  bnd (ap s975 ([z1018])) fun z1047 =>
                  bnd (ck (s982 + 1)) fun z1058 =>
                  some (.go (z1047, z1058))
                else
                  some (.brk (s975, s982)))
    (fun i t s hi hs => by
      have hil := (List.getElem?_eq_some_iff.1 hi).1
      have hi2 : (i : Int) < (sel.length : Int) := by omega
      have ht := hsel t (List.mem_of_getElem? hi)
      have how : spec_l00Own t = some t := by unfold spec_l00Own; rw [ap_eq (by simp; omega)]; rfl
      simp only [hi2, decide_true, if_true, ix_nat hi, bnd_s, how, ap_eq (l := s) (m := [t]) (by simp; omega), ck_eq (x := (i : Int) + 1) (by omega) (by omega)]
      rfl)
    (fun i s hi => by
      have hi2 : ¬ (i : Int) < (sel.length : Int) := by omega
      simp [hi2]) sel 0 N [] rfl rfl (by omega)
  have hid : [] ++ sel.map (fun t => t) = sel := by simp
  rw [hid] at e2
  refine ⟨mkR o sel n, b, sel, ?_, ?_, hne, c2, c3, hx, r2, hsl, fun t ht => (hsel t ht).2⟩
  · unfold FB
    simp only [digits_eq, ho.ar, d1, bnd_s]
    rw [show (((0 : Nat)) : Int) = 0 from rfl] at e1 e2
    rw [e1]
    simp only [thn_nx]
    rw [show [] ++ List.map (fun v => x.tuples.getD v.toNat []) d = sel from List.nil_append _]
    simp only [make_eq ho hn.2 hsel hsl, bnd_s, c1, ix_of c2 hx]
    cases b with
    | true => rfl
    | false =>
      simp only [Bool.not_false, if_true]
      rw [e2]
      rfl
  · unfold GB
    simp only [ho.ar, d1, bnd_s]
    rw [forL_map d (fun v => x.tuples.getD v.toNat []) (fun i v s hi hs => by
      have hil := (List.getElem?_eq_some_iff.1 hi).1
      simp only [hat v (List.mem_of_getElem? hi), bnd_s, ap_eq (l := s) (m := [x.tuples.getD v.toNat []]) (by simp; omega)]) d 0 [] rfl rfl]
    simp only [thn_nx]
    rw [show [] ++ List.map (fun v => x.tuples.getD v.toNat []) d = sel from List.nil_append _]
    rw [show Op.mk (m : Int) o.table = o by rw [← ho.ar]]
    simp only [made_eq ho hn.2 hsel hsl, bnd_s, indexOf_eq, c1, ix_of c2 hx]
    cases b with
    | true => rfl
    | false =>
      have hnv : nev (mkR o sel n) = some () := by
        cases h : mkR o sel n with
        | nil => exact (hne h).elim
        | cons a l => rfl
      simp only [Bool.not_false, if_true, hnv, bnd_s]
      rfl
end Go.Proofs.Ytfepllddlmhjiaa
