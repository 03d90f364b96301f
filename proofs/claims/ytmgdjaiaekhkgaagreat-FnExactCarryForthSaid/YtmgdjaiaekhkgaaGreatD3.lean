/-
  slices.Sort of numbers, out of the shelf.
-/
import Derived.Test.YtmgdjaiaekhkgaaGreatD2
import Derived.Shelf.SortG.Plain
namespace Go.Proofs.YtmgdjaiaekhkgaaGreat
set_option linter.unusedVariables false
set_option linter.unusedSimpArgs false
set_option maxRecDepth 100000
open Go.RowKit Go.Sort Go.Lib

def zX (x0 : List Int) : Option (List Int) :=
  if 0 < x0.length ∧ x0.length ≤ 1048576 then some (x0.mergeSort fun x y => decide (x ≤ y)) else none
theorem slices_Sort_s_int64_int64_c {x0 : List Int} (r : List Int) (hR : zX x0 = some r) {v0 : Value} {rb0 : List Nat} (w0 : World) (A0 : Row 1 xK 2 0 w0 v0 x0 rb0 []) : Calls Tryz.prog 196 #[v0] w0 (GivesX rb0 (fun v w' => v = .tuple #[] ∧ Row 1 xK 2 0 w' v0 r rb0 []) w0) := by
  unfold zX at hR
  split at hR
  case isFalse => cases hR
  rename_i hc
  obtain rfl := Option.some.inj hR
  clear hR
  obtain ⟨g, cap, cur, rfl, rfl, hK, hle, hmx, hsz, hcur, hI⟩ := ofRowI A0 hc.1
  have hH : Holds (Value.int .i64) w0 g 0 x0.toArray := by
    intro j hj
    have hj' : j < x0.length := by simpa using hj
    refine ⟨?_, hK.frozen _⟩
    rw [Nat.zero_add, hK.cell, hcur j _ (List.getElem?_eq_getElem hj'), getElem!_pos x0.toArray j hj]
    simp
  have h := AnyG.slices_Sort_int layS g 0 cap x0 w0 hH hK.lt (by omega)
  refine (show Calls Tryz.prog 196 #[.slice (some ⟨g, 0, none⟩) x0.length cap] w0 _ from by simpa [layS_ren] using h).mono ?_
  rintro e w' ⟨rfl, q, os, rfl⟩
  have hln : (x0.mergeSort fun x y => decide (x ≤ y)).length = x0.length := List.length_mergeSort _
  obtain ⟨m, hm⟩ : ∃ m, m = x0.mergeSort fun x y => decide (x ≤ y) := ⟨_, rfl⟩
  have hmem : ∀ x ∈ m, x ∈ x0 := fun x hx => by rw [hm] at hx; exact List.mem_mergeSort.1 hx
  rw [← hm] at hln ⊢
  have hK1 : vS (Go.Sort.ahead w0 q) g cur 2 := hK
  have hq : Only [g] w0 (Go.Sort.ahead w0 q) := ⟨rfl, rfl, rfl, Nat.le_refl _, fun _ _ _ => rfl⟩
  obtain ⟨k1, k2⟩ := putRow_blk hK1 m.toArray
  have hq2 := hq.trans k2
  have hg : Only [g] w0 (grow (putRow (Value.int .i64) (Go.Sort.ahead w0 q) g 0 m.toArray) os) := by
    refine hq2.trans ⟨rfl, rfl, rfl, by simp [grow], fun k hk _ => heap_grow_old _ _ hk⟩
  have k3 : vS (grow (putRow (Value.int .i64) (Go.Sort.ahead w0 q) g 0 m.toArray) os) g (putCells (Value.int .i64) 0 m.toArray cur) 2 := by
    unfold vS at k1 ⊢
    rw [heap_grow_old _ _ (kX k1), k1]
  have R := toRowI (l := m) k3 (by omega) hmx (by simp [putCells, hsz]) (fun i x hx => by
    have hi := (List.getElem?_eq_some_iff.1 hx).1
    have hsz2 : i < cur.size := by omega
    unfold putCells
    rw [Array.getElem?_mapIdx, Array.getElem?_eq_getElem hsz2, Option.map_some, if_pos ⟨Nat.zero_le _, by simp; omega⟩, Nat.sub_zero]
    have hg : (m.toArray)[i]! = x := by
      rw [getElem!_pos m.toArray i (by simpa using hi)]
      simp only [List.getElem_toArray]
      exact (List.getElem?_eq_some_iff.1 hx).2
    rw [hg]) (fun x hx => hI x (hmem x hx))
  rw [hln] at R
  exact ⟨_, rfl, hg, rfl, R⟩
end Go.Proofs.YtmgdjaiaekhkgaaGreat
