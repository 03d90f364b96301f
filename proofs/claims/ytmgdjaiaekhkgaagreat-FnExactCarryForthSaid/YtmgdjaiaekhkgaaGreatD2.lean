/-
  slices.Compact of numbers, out of the shelf.
-/
import Derived.Test.YtmgdjaiaekhkgaaGreatQ
import Derived.Test.YtmgdjaiaekhkgaaGreatDL
import Derived.Shelf.SlicesE.Compact
namespace Go.Proofs.YtmgdjaiaekhkgaaGreat
set_option linter.unusedVariables false
set_option linter.unusedSimpArgs false
set_option maxRecDepth 100000
open Go.RowKit Go.Sort Go.Lib

/-- Of a row of numbers of one's own: its block. -/
theorem ofRowI {E B : Nat} {w : World} {v : Value} {l : List Int} {rb : List Nat} (A : Row 1 xK E B w v l rb []) (hl : 0 < l.length) :
    ∃ g cap cur, v = .slice (some ⟨g, 0, none⟩) l.length cap ∧ rb = [g] ∧ vS w g cur E ∧ l.length ≤ cap ∧ cap ≤ maxLen ∧ cur.size = cap ∧ (∀ (i : Nat) (x : Int), l[i]? = some x → cur[i]? = some (Value.int .i64 x)) ∧ ∀ x ∈ l, xY x := by
  obtain ⟨xs, bss, ho, hbl, hfl, he⟩ := A.row
  have hrb := A.hrb
  have hat : ∀ (i : Nat) (x : Int), l[i]? = some x → xs[i]? = some (.int .i64 x) ∧ xY x := by
    intro i x hx
    have hi := (List.getElem?_eq_some_iff.1 hx).1
    obtain ⟨h1, h2, _⟩ := he i x bss[i] hx (List.getElem?_eq_getElem (by omega))
    exact ⟨by simpa using h1, h2⟩
  rcases ho.2 with ⟨rfl, hn⟩ | ⟨g, cap, cur, rfl, hbg, hg, h4, h5, h6, h7⟩
  · omega
  · refine ⟨g, cap, cur, rfl, ?_, hg, h4, h5, by omega, fun i x hx => ?_, fun x hx => ?_⟩
    · rw [hrb]; simp [rbOf, Value.ownBlock]
    · have hi := (List.getElem?_eq_some_iff.1 hx).1
      have := (hat i x hx).1
      rw [← h7, List.getElem?_take, if_pos (by omega)] at this
      simpa using this
    · obtain ⟨i, hi, rfl⟩ := List.mem_iff_getElem.1 hx
      exact (hat i _ (List.getElem?_eq_getElem hi)).2
theorem toRowI {E g cap : Nat} {w : World} {l : List Int} {cur : Array Value} (hK : vS w g cur E) (h4 : l.length ≤ cap) (h5 : cap ≤ maxLen) (h6 : cur.size = cap) (h7 : ∀ (i : Nat) (x : Int), l[i]? = some x → cur[i]? = some (Value.int .i64 x)) (hI : ∀ x ∈ l, xY x) :
    Row 1 xK E 0 w (.slice (some ⟨g, 0, none⟩) l.length cap) l [g] [] := by
  refine ⟨⟨l.map (fun x => Value.int .i64 x), List.replicate l.length [], ⟨by simp, .inr ⟨g, cap, cur, rfl, Nat.zero_le _, hK, h4, h5, by omega, ?_⟩⟩, by simp, by simp, fun i x bi hx hb => ?_⟩, by simp [rbOf, Value.ownBlock], xX.nil _, Dj.nil _⟩
  · refine List.ext_getElem? (fun m => ?_)
    rw [List.getElem?_take, List.getElem?_map]
    split
    · rename_i hm
      have : l[m]? = some (l[m]'(by omega)) := List.getElem?_eq_getElem (by omega)
      rw [Array.getElem?_toList, this, h7 m _ this]
      rfl
    · rename_i hm
      rw [List.getElem?_eq_none (by omega)]
      rfl
  · have hb2 := List.eq_of_mem_replicate (List.mem_of_getElem? hb)
    refine ⟨?_, hI x (List.mem_of_getElem? hx), hb2⟩
    show (List.map (fun x => Value.int .i64 x) l)[i * 1 + 0]? = _
    rw [Nat.mul_one, Nat.add_zero, List.getElem?_map, hx]
    rfl
/-- A row's cells put anew: its block. -/
theorem putRow_blk {E g : Nat} {w : World} {cur : Array Value} (hK : vS w g cur E) (d : Array Int) : vS (putRow (Value.int .i64) w g 0 d) g (putCells (Value.int .i64) 0 d cur) E ∧ Only [g] w (putRow (Value.int .i64) w g 0 d) := by
  have hlt := hK.lt
  unfold vS at hK ⊢
  unfold putRow mapBlock
  refine ⟨?_, rfl, rfl, rfl, ?_, fun k hk hn => ?_⟩
  · simp only [Array.getElem?_modify, if_true, hK]
    rfl
  · simp
  · simp only [Array.getElem?_modify]
    rw [if_neg (fun e => hn (by simp [e]))]
def zK (x0 : List Int) : Option (List Int) :=
  if 0 < x0.length ∧ x0.length ≤ 1048576 then some (compactUpTo x0.toArray x0.length) else none
theorem compactUpTo_len (d : Array Int) (m : Nat) : (compactUpTo d m).length ≤ m := by
  unfold compactUpTo
  rw [List.length_map]
  exact Nat.le_trans (List.length_filter_le _ _) (by simp)
theorem slices_Compact_s_int64_int64_c {x0 : List Int} (r : List Int) (hR : zK x0 = some r) {v0 : Value} {rb0 : List Nat} (w0 : World) (A0 : Row 1 xK 2 0 w0 v0 x0 rb0 []) : Calls Tryz.prog 197 #[v0] w0 (GivesX rb0 (fun v w' => ∃ (v1' : Value) (rb2' : List Nat), v = v1' ∧ Row 1 xK 2 0 w' v1' r rb2' [] ∧ Frs rb0 w0.heap.size rb2') w0) := by
  unfold zK at hR
  split at hR
  case isFalse => cases hR
  rename_i hc
  obtain rfl := Option.some.inj hR
  clear hR
  obtain ⟨g, cap, cur, rfl, rfl, hK, hle, hmx, hsz, hcur, hI⟩ := ofRowI A0 hc.1
  have hH : Holds (Value.int .i64) w0 g 0 x0.toArray := by
    intro j hj
    have hj' : j < x0.length := by simpa using hj
    refine ⟨?_, hK.frozen _⟩
    rw [Nat.zero_add, hK.cell, hcur j _ (List.getElem?_eq_getElem hj'), getElem!_pos x0.toArray j hj]
    simp
  have h := AnyE.slices_Compact layC (Value.int .i64) (fun x => rfl) (EqlAt.int _ _ _) (NeqAt.int _ _ _) 0 Tryz.zeroValue2 g 0 cap x0.toArray w0 hH (by simp; omega) (by simpa using hle)
  refine (show Calls Tryz.prog 197 #[.slice (some ⟨g, 0, none⟩) x0.length cap] w0 _ from by simpa [layC_ren] using h).mono ?_
  rintro e w' ⟨rfl, q, rfl⟩
  have hln := compactUpTo_len x0.toArray x0.length
  have hK1 : vS (Go.Sort.ahead w0 q) g cur 2 := hK
  have hq : Only [g] w0 (Go.Sort.ahead w0 q) := ⟨rfl, rfl, rfl, Nat.le_refl _, fun _ _ _ => rfl⟩
  obtain ⟨k1, k2⟩ := putRow_blk hK1 (compactUpTo x0.toArray x0.length ++ List.replicate (x0.length - (compactUpTo x0.toArray x0.length).length) 0).toArray
  refine ⟨_, rfl, hq.trans k2, _, [g], rfl, toRowI k1 (by omega) hmx (by simp [putCells, hsz]) (fun i x hx => ?_) (fun x hx => ?_), Frs.mem (fun c hc => hc)⟩
  · have hi := (List.getElem?_eq_some_iff.1 hx).1
    have hsz2 : i < cur.size := by omega
    unfold putCells
    rw [Array.getElem?_mapIdx, Array.getElem?_eq_getElem hsz2, Option.map_some, if_pos ⟨Nat.zero_le _, by simp; omega⟩, Nat.sub_zero]
    have hg : ((compactUpTo x0.toArray x0.length ++ List.replicate (x0.length - (compactUpTo x0.toArray x0.length).length) 0).toArray)[i]! = x := by
      rw [getElem!_pos _ _ (by simp; omega)]
      simp only [List.getElem_toArray]
      rw [List.getElem_append_left hi]
      exact (List.getElem?_eq_some_iff.1 hx).2
    rw [hg]
  · unfold compactUpTo at hx
    obtain ⟨j, hj, rfl⟩ := List.mem_map.1 hx
    have hj2 : j < x0.length := by
      have := (List.mem_filter.1 hj).1
      simpa using this
    rw [getElem!_pos _ _ (by simpa using hj2)]
    exact hI _ (by simp)
end Go.Proofs.YtmgdjaiaekhkgaaGreat
