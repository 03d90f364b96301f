/-
  Contracts of small functions that every other reaches: ranges of numbers, lists of values.
-/
import Derived.Test.YtmfichdcomaaeaaRows
import Derived.Test.YtmfichdcomaaeaaT
import Derived.BigQuiet
import Derived.Lib.QuietBelow
import Derived.Shelf.GgClosure.Gives
namespace Go.Proofs.Ytmfichdcomaaeaa
set_option linter.unusedVariables false
set_option linter.unusedSimpArgs false
open Go.RowKit Go.Sort
set_option maxRecDepth 100000

def withinB (n lo hi : Int) : Bool := decide (lo ≤ n) && decide (n ≤ hi)
theorem withinB_iff (n lo hi : Int) : withinB n lo hi = true ↔ lo ≤ n ∧ n ≤ hi := by simp [withinB]
theorem withinB_false (n lo hi : Int) : withinB n lo hi = false ↔ ¬ (lo ≤ n ∧ n ≤ hi) := by rw [← withinB_iff]; simp
def idxB {α : Type} (p : α → Bool) (l : List α) : Int := if l.findIdx p < l.length then l.findIdx p else -1

theorem idxB_at {α : Type} {p : α → Bool} {l : List α} {k : Nat} {x : α} (hk : k < l.length) (hx : l[k]? = some x) (hno : ∀ y ∈ l.take k, p y = false) (hp : p x = true) : idxB p l = k := by
  have hge : l.findIdx p = k := by
    rw [List.findIdx_eq hk]
    refine ⟨by rw [List.getElem?_eq_getElem hk] at hx; cases hx; exact hp, fun j hj => ?_⟩
    exact hno _ (List.mem_take_iff_getElem.2 ⟨j, by omega, rfl⟩)
  unfold idxB
  rw [hge, if_pos hk]
theorem idxB_none {α : Type} {p : α → Bool} {l : List α} (hno : ∀ y ∈ l, p y = false) : idxB p l = -1 := by
  have h : l.findIdx p = l.length := List.findIdx_eq_length.2 hno
  unfold idxB
  rw [h, if_neg (Nat.lt_irrefl _)]

set_option maxHeartbeats 400000 in
theorem within_any (n lo hi : Int) (w : World) :
    Calls Try.prog 60 #[.int .i64 n, .int .i64 lo, .int .i64 hi] w (Says (.bool (withinB n lo hi)) w) := by
  by_cases h1 : lo ≤ n
  · by_cases h2 : n ≤ hi
    · rw [(withinB_iff n lo hi).2 ⟨h1, h2⟩]
      go_enter Try.func60, Try.ntmps60
      go_wp2
      go_ret
      exact ⟨rfl, Below.refl _ _⟩
    · rw [(withinB_false n lo hi).2 (fun h => h2 h.2)]
      go_enter Try.func60, Try.ntmps60
      go_wp2
      go_ret
      exact ⟨rfl, Below.refl _ _⟩
  · rw [(withinB_false n lo hi).2 (fun h => h1 h.1)]
    go_enter Try.func60, Try.ntmps60
    go_wp2
    go_ret
    exact ⟨rfl, Below.refl _ _⟩

set_option maxHeartbeats 400000 in
theorem l00In_any (n lo hi : Int) (w : World) :
    Calls Try.prog 116 #[.int .i64 n, .int .i64 lo, .int .i64 hi] w (Says (.bool (withinB n lo hi)) w) := by
  by_cases h1 : lo ≤ n
  · by_cases h2 : n ≤ hi
    · rw [(withinB_iff n lo hi).2 ⟨h1, h2⟩]
      go_enter Try.func116, Try.ntmps116
      go_wp2
      go_ret
      exact ⟨rfl, Below.refl _ _⟩
    · rw [(withinB_false n lo hi).2 (fun h => h2 h.2)]
      go_enter Try.func116, Try.ntmps116
      go_wp2
      go_ret
      exact ⟨rfl, Below.refl _ _⟩
  · rw [(withinB_false n lo hi).2 (fun h => h1 h.1)]
    go_enter Try.func116, Try.ntmps116
    go_wp2
    go_ret
    exact ⟨rfl, Below.refl _ _⟩

/-- A value of a size: the size may be any number, its predecessor wraps. -/
def isValueB (size a : Int) : Bool := withinB a 0 (wrap64 (size - 1))
theorem isValueB_of {size : Int} (h : I64 size) (hs : -9223372036854775808 < size) (a : Int) : isValueB size a = withinB a 0 (size - 1) := by
  unfold isValueB
  rw [IntWalk.wrap64_in (size - 1) (by unfold I64 at h; omega)]
set_option maxHeartbeats 400000 in
theorem isValue_any (size a : Int) (w : World) :
    Calls Try.prog 119 #[.int .i64 size, .int .i64 a] w (Says (.bool (isValueB size a)) w) := by
  go_enter Try.func119, Try.ntmps119
  go_wp2_with fail
  (with_reducible refine (within_any _ _ _ _).mono ?_)
  rintro e w1 ⟨rfl, hb⟩
  go_wp2
  go_ret
  exact ⟨rfl, hb⟩

set_option maxHeartbeats 1000000 in
theorem indexI_any (v : Value) (l : List Int) (bs : List Nat) (w : World) (h : Ints w v l bs) (hm : InMem bs w) (g : Nat) (lb : Array Value) (p : Int → Bool)
    (eg : ∀ args w, (callFunc g args).run Try.prog w = .ok (.enter g args) w)
    (hp : ∀ x, x ∈ l → ∀ W, Below w.heap.size w W → Calls Try.prog g (#[.int .i64 x] ++ lb) W (Says (.bool (p x)) W)) :
    Calls Try.prog 120 #[v, .func (.func g) #[] lb] w (Says (.int .i64 (idxB p l)) w) := by
  obtain ⟨a, c, rfl, hc1, hc2, _, hat0⟩ := h.at
  have hat := hd hat0
  have hp' := hd hp
  clear hat0 h hp
  go_enter Try.func120, Try.ntmps120
  go_wp2
  go_loopw [8] (fun i wr => ∃ k : Nat, k ≤ l.length ∧ i = .int .i64 k ∧ Below w.heap.size w wr ∧ ∀ x ∈ l.take k, p x = false) (fun i _ => l.length - (intOf i).toNat)
  case atStart => exact ⟨0, Nat.zero_le _, rfl, Below.refl _ _, by simp⟩
  case round =>
    obtain ⟨k, hk, rfl, hB, hno0⟩ := hrel
    have hno := hd hno0
    clear hno0
    by_cases hlt : k < l.length
    · obtain ⟨x, b, o, hx0, rfl, hb, hx64, hcell⟩ := hat.out k hlt
      have hx := hd hx0
      have hcr : wr.cell? ⟨b, o + k, none⟩ = some (.int .i64 x) := ((bcell hB).1 b _ (hm b hb)).trans hcell
      clear hcell hx0
      have hcall := hd (hp'.out x (List.mem_of_getElem? hx.out) wr hB)
      go_wp2_with fail
      (with_reducible refine hcall.out.mono ?_)
      rintro e w1 ⟨rfl, hb1⟩
      have hB1 := Below.through hb1 hB
      cases hpx : p x
      · have hpx' := hd hpx
        clear hpx
        go_wp2
        go_roundw
        case rel =>
          refine ⟨k + 1, hlt, by go_num, hB1, fun y hy => ?_⟩
          rw [take_succ_of hx.out] at hy
          rcases List.mem_append.1 hy with hy | hy
          · exact hno.out y hy
          · rw [List.mem_singleton] at hy
            rw [hy]
            exact hpx'.out
        case measure => simp [intOf]; omega
      · have hpx' := hd hpx
        clear hpx
        go_wp2
        go_ret
        refine ⟨?_, hB1⟩
        rw [idxB_at hlt hx.out hno.out hpx'.out]
        rfl
    · obtain rfl : k = l.length := by omega
      go_wp2
      go_ret
      refine ⟨?_, hB⟩
      rw [idxB_none (by simpa using hno.out)]
      rfl

theorem any_idxB {α : Type} (p : α → Bool) (l : List α) : l.any p = decide (0 ≤ idxB p l) := by
  by_cases h : ∃ x ∈ l, p x = true
  · obtain ⟨x, hx, hp⟩ := h
    have h1 := List.findIdx_lt_length_of_exists ⟨x, hx, hp⟩
    rw [List.any_eq_true.2 ⟨x, hx, hp⟩]
    unfold idxB
    rw [if_pos h1]
    simp
  · have h2 : ∀ x ∈ l, p x = false := fun x hx => by
      cases hp : p x
      · rfl
      · exact absurd ⟨x, hx, hp⟩ h
    rw [idxB_none h2, List.any_eq_false.2 (fun x hx => by simp [h2 x hx])]
    rfl

set_option maxHeartbeats 1000000 in
theorem containsI_any (v : Value) (l : List Int) (bs : List Nat) (w : World) (h : Ints w v l bs) (hm : InMem bs w) (g : Nat) (lb : Array Value) (p : Int → Bool)
    (eg : ∀ args w, (callFunc g args).run Try.prog w = .ok (.enter g args) w)
    (hp : ∀ x, x ∈ l → ∀ W, Below w.heap.size w W → Calls Try.prog g (#[.int .i64 x] ++ lb) W (Says (.bool (p x)) W)) :
    Calls Try.prog 62 #[v, .func (.func g) #[] lb] w (Says (.bool (l.any p)) w) := by
  rw [any_idxB]
  obtain ⟨a, c, rfl⟩ := h.val
  go_enter Try.func62, Try.ntmps62
  go_wp2_with fail
  (with_reducible refine (indexI_any _ l bs _ h hm g lb p eg hp).mono ?_)
  rintro e w1 ⟨rfl, hb⟩
  go_wp2
  go_ret
  exact ⟨rfl, hb⟩

/-- A list of so many values of a size. -/
def areValuesB (size : Int) (l : List Int) (many : Int) : Bool := decide ((l.length : Int) = many) && l.all (fun a => isValueB size a)
set_option maxHeartbeats 1000000 in
theorem areValues_any (size many : Int) (v : Value) (l : List Int) (bs : List Nat) (w : World) (h : Ints w v l bs) (hm : InMem bs w) :
    Calls Try.prog 61 #[.int .i64 size, v, .int .i64 many] w (Says (.bool (areValuesB size l many)) w) := by
  have eg : ∀ args w, (callFunc 118 args).run Try.prog w = .ok (.enter 118 args) w := enters_of Try.func118 (by kernel_rfl) rfl
  have eg' := hd eg
  clear eg
  obtain ⟨a, c, rfl, hc1, hc2, _, _⟩ := h.open
  have hmf : ∀ (fn : Fn) (first cap : Array Value) (w : World), (Instr.makeFunc fn first cap).run Try.prog w = .ok (.func fn first cap) w := fun _ _ _ _ => rfl
  by_cases hlen : (l.length : Int) = many
  · have hlb : ((l.length : Int) == many) = true := by simp [hlen]
    have hl' := hd hlen
    clear hlen
    go_enter Try.func61, Try.ntmps61
    go_wp2_with fail
    (with_reducible refine (containsI_any _ l bs _ ?_ ?_ _ _ (fun a => !isValueB size a) eg'.out ?_).mono ?_)
    · exact h.same RInt.fr (hm.same (by repeat (first | exact Below.refl _ _ | refine Below.alloc ?_ (by simp) _)))
    · exact hm.le (by simp)
    · intro x _ W hW
      have hc0 := (hW.cell (p := ⟨w.heap.size, 0, none⟩) (by simp)).trans (World.cell?_alloc_at (w := w) #[.int .i64 size] 2 _ 0 rfl)
      have hcc : W.cell? ⟨w.heap.size, 0, none⟩ = some (.int .i64 size) := hc0
      clear hc0
      show Calls Try.prog _ #[.int .i64 x, .pointer (some ⟨w.heap.size, 0, none⟩)] W _
      go_enter Try.func118, Try.ntmps118
      go_wp2_with fail
      (with_reducible refine (isValue_any _ _ _).mono ?_)
      rintro e w1 ⟨rfl, hb⟩
      go_wp2
      go_ret
      exact ⟨rfl, hb⟩
    rintro e w1 ⟨rfl, hb⟩
    go_wp2
    go_ret
    refine ⟨?_, Below.through hb (by repeat (first | exact Below.refl _ _ | refine Below.alloc ?_ (by simp) _))⟩
    unfold areValuesB
    rw [hl'.out]
    simp [List.all_eq_not_any_not]
  · have hlb : ((l.length : Int) == many) = false := by simp [hlen]
    have hl' := hd hlen
    clear hlen
    go_enter Try.func61, Try.ntmps61
    go_wp2
    go_ret
    refine ⟨?_, by repeat (first | exact Below.refl _ _ | refine Below.alloc ?_ (by simp) _)⟩
    unfold areValuesB
    rw [decide_eq_false hl'.out]
    rfl
end Go.Proofs.Ytmfichdcomaaeaa
