/-
  Contracts of the classes' functions: readDigits, classOp, ClassOp on both sides.
-/
import Derived.Test.YtfepllddlmhjiaaRows
import Derived.Test.YtfepllddlmhjiaaT
import Derived.BigQuiet
import Derived.Lib.QuietBelow
import Derived.Test.YtfepllddlmhjiaaL2
import Derived.Test.YtfepllddlmhjiaaA
import Derived.Laws.IdiomStrings
import Derived.BigRegion
import Derived.RegionTactic
import Derived.Deep.RegionWith
namespace Go.Proofs.Ytfepllddlmhjiaa
set_option linter.unusedVariables false
set_option linter.unusedSimpArgs false
open Go.RowKit Go.Sort
set_option maxRecDepth 100000

def isDigit (c : UInt8) : Bool := decide (48 ≤ c.toNat) && decide (c.toNat ≤ 57)
def digitOf (c : UInt8) : Int := (c.toNat : Int) - 48
/-- The digits of a text; none of other bytes. -/
def digitsOf (s : List UInt8) : List Int := if s.all isDigit then s.map digitOf else []

set_option maxHeartbeats 2000000 in
theorem readDigits_any (s : ByteArray) (w : World) (hs : s.size ≤ 1048576) :
    Calls Try.prog 42 #[.string s] w (RetSl 1 RInt (digitsOf s.data.toList) w) := by
  have hcv := fun W => run_bytes_of_string (P := Try.prog) W 9 92 5 s (by kernel_rfl) (by kernel_rfl) (by kernel_rfl)
  go_enter Try.func42, Try.ntmps42
  go_wp2
  go_loopw [3, 10] (fun v i wr => ∃ (k : Nat) (bss : List (List Nat)), k ≤ s.size ∧ i = .int .i64 k ∧ (s.data.toList.take k).all isDigit = true ∧
      App 1 RInt 2 w.heap.size w ((s.data.toList.take k).map digitOf) wr v bss ∧ v.ownBlock ≠ some (w.heap.size + 1) ∧ w.heap.size + 1 < wr.heap.size ∧
      Hd (∀ j c, s.data.toList[j]? = some c → wr.cell? ⟨w.heap.size + 1, j, none⟩ = some (.int .u8 (c.toNat : Nat)))) (fun _ i _ => s.size - (intOf i).toNat)
  case atStart =>
    refine ⟨0, [], Nat.zero_le _, rfl, rfl, App.empty 1 RInt _ (Nat.le_refl _) (Nat.le_refl _) (Blk.drew ?_) ?_, by simp [Value.ownBlock], by simp, ⟨fun j c hc => ?_⟩⟩
    · exact Blk.old (Blk.new rfl) _
    · exact (((Below.refl _ _).alloc (Nat.le_refl _) _).alloc (by simp) _).drew
    · rw [World.cell?_drew]
      have hm := World.cell?_alloc_mark (w.alloc (.cells #[] 2)) (bytesRow s (grownCap (w.alloc (.cells #[] 2)) s.size 0 5)) 5 ((bytesRow s (grownCap (w.alloc (.cells #[] 2)) s.size 0 5)).size, (bytesRow s (grownCap (w.alloc (.cells #[] 2)) s.size 0 5)).size + 1) j
      rw [World.size_alloc] at hm
      refine hm.trans ?_
      unfold bytesRow
      obtain ⟨hj, hcj⟩ := List.getElem?_eq_some_iff.1 hc
      rw [Array.getElem?_append_left (by rw [Array.size_map]; exact hj), Array.getElem?_map, ← Array.getElem?_toList, hc]
      rfl
  case round =>
    obtain ⟨k, bss, hk, rfl, hall0, hA, hne, hlt1, hcells⟩ := hrel
    have hall := hd hall0
    clear hall0
    have hsl : s.data.toList.length = s.size := Array.length_toList
    have hsl' := hd hsl
    clear hsl
    by_cases hlt : k < s.size
    · obtain ⟨c, hc⟩ : ∃ c, s.data.toList[k]? = some c := ⟨_, List.getElem?_eq_getElem (by rw [hsl'.out]; exact hlt)⟩
      have hcell := hcells.out k c hc
      have hc' := hd hc
      have hn : c.toNat ≤ 255 := by have := c.toNat_lt; omega
      obtain ⟨n, hcn⟩ : ∃ n, n = c.toNat := ⟨_, rfl⟩
      rw [← hcn] at hcell hn
      have hcn' := hd hcn
      clear hc hcn
      by_cases hdig : 48 ≤ n ∧ n ≤ 57
      · obtain ⟨h48, h57⟩ := hdig
        have h1 : ¬ ((n : Int) < 48) := by omega
        have h2 : ¬ ((57 : Int) < (n : Int)) := by omega
        have hlen : ((s.data.toList.take k).map digitOf).length = k := by rw [List.length_map, List.length_take, hsl'.out]; omega
        have hlen' := hd hlen
        clear hlen
        have hA' := hd hA
        clear hA
        go_wp2_with (at_builtin; refine wpList_app_int rfl _ _ 27 rfl Try.underlying27 (by kernel_rfl) (hA'.out.alloc RInt.fr _) rfl rfl ((n : Int) - 48) (Blk.new rfl) ?c1 ?c2 ?c3 ?_)
        case c1 => exact I64.of ⟨by omega, by omega⟩
        case c2 => omega
        case c3 => omega
        intro v' w1 hA1 hg1 ho1
        go_wp2
        go_roundw
        case rel =>
          refine ⟨k + 1, bss ++ [[]], hlt, by go_num, ?_, ?_, ?_, ?_, ?_⟩
          · rw [take_succ_of hc'.out, List.all_append, hall.out]
            simp [isDigit, ← hcn'.out, h48, h57]
          · have e : (s.data.toList.take (k + 1)).map digitOf = (s.data.toList.take k).map digitOf ++ [(n : Int) - 48] := by
              rw [take_succ_of hc'.out, List.map_append, List.map_singleton]
              unfold digitOf
              rw [← hcn'.out]
            rw [e, List.map_take]
            exact hA1
          · rcases ho1 with ho1 | ho1
            · rw [ho1]; exact hne
            · rw [ho1]; intro e; injection e; omega
          · have := hg1.size; rw [World.size_alloc] at this; omega
          · refine ⟨fun j d hj => ?_⟩
            have h9 := hcells.out j d hj
            rw [← h9, World.cell?_of_block (w := wr.alloc _) (hg1.block _ (by simp; omega) (fun e => hne e.symm)), World.cell?_alloc_past _ _ _ (by omega)]
        case measure => simp [intOf]; omega
      · have hfail : digitsOf s.data.toList = [] := by
          unfold digitsOf
          rw [if_neg]
          intro h
          have := List.all_eq_true.1 h c (List.mem_of_getElem? hc'.out)
          unfold isDigit at this
          rw [← hcn'.out] at this
          simp at this
          omega
        have hfail' := hd hfail
        clear hfail
        by_cases h48 : n < 48
        · have h1 : (n : Int) < 48 := by omega
          go_wp2
          go_ret
          rw [hfail'.out]
          exact ⟨_, [], rfl, ⟨none, 0, rfl, Nat.le_refl _, by unfold maxLen; omega, fun _ => rfl, .inl ⟨rfl, rfl⟩⟩, Own.nil _ _, hA.below⟩
        · have h1 : ¬ ((n : Int) < 48) := by omega
          have h2 : (57 : Int) < (n : Int) := by omega
          go_wp2
          go_ret
          rw [hfail'.out]
          exact ⟨_, [], rfl, ⟨none, 0, rfl, Nat.le_refl _, by unfold maxLen; omega, fun _ => rfl, .inl ⟨rfl, rfl⟩⟩, Own.nil _ _, hA.below⟩
    · obtain rfl : k = s.size := by omega
      have htake : s.data.toList.take s.size = s.data.toList := List.take_of_length_le (by rw [hsl'.out]; exact Nat.le_refl _)
      have hfin : digitsOf s.data.toList = (s.data.toList.take s.size).map digitOf := by
        unfold digitsOf
        rw [if_pos (by rw [← htake]; exact hall.out), htake]
      have hfin' := hd hfin
      clear hfin htake
      obtain ⟨bs, h1, h2, _⟩ := hA.done RInt.fr
      have h1' := hd h1
      clear h1
      go_wp2
      go_ret
      rw [hfin'.out]
      exact ⟨_, bs, rfl, h1'.out, h2, hA.below⟩

/-- The operation of a class. -/
def classTable (k : Int) : List Int := if k = 1 then [0, 0] else if k = 2 then [1, 1] else if k = 3 then [0, 0, 0, 1] else if k = 4 then [0, 1, 1, 1] else if k = 5 then [0, 0, 0, 1, 0, 1, 1, 1] else [0, 1, 1, 0, 1, 0, 0, 1]
def classArity (k : Int) : Int := if k = 1 then 1 else if k = 2 then 1 else if k = 3 then 2 else if k = 4 then 2 else 3
def classOpL (k : Int) : Op := ⟨classArity k, classTable k⟩
theorem class_kinds {k : Int} (h1 : 1 ≤ k) (h6 : k ≤ 6) : k = 1 ∨ k = 2 ∨ k = 3 ∨ k = 4 ∨ k = 5 ∨ k = 6 := by omega

def classStr : Nat → ByteArray
  | 0 => ⟨#[48, 48]⟩ | 1 => ⟨#[49, 49]⟩ | 2 => ⟨#[48, 48, 48, 49]⟩ | 3 => ⟨#[48, 49, 49, 49]⟩ | 4 => ⟨#[48, 48, 48, 49, 48, 49, 49, 49]⟩ | _ => ⟨#[48, 49, 49, 48, 49, 48, 48, 49]⟩
theorem classStr_ok {i : Nat} (hi : i < 6) : digitsOf (classStr i).data.toList = classTable ((i : Int) + 1) ∧ (classStr i).size ≤ 1048576 := by
  match i, hi with
  | 0, _ => decide
  | 1, _ => decide
  | 2, _ => decide
  | 3, _ => decide
  | 4, _ => decide
  | 5, _ => decide

set_option maxHeartbeats 4000000 in
theorem implClassOp_any (k : Int) (w : World) (h1 : 1 ≤ k) (h6 : k ≤ 6) :
    Calls Try.prog 23 #[.int .i64 k] w (RetAgg 2 ROp (classOpL k) w) := by
  obtain ⟨i, rfl⟩ : ∃ i : Nat, k = (i : Int) + 1 := ⟨(k - 1).toNat, by omega⟩
  have hi : i < 6 := by omega
  have hA : ∀ h, ([Value.int .i64 1, .int .i64 1, .int .i64 2, .int .i64 2, .int .i64 3, .int .i64 3] : List Value)[i]'h = .int .i64 (classArity ((i : Int) + 1)) := by
    intro h
    match i, hi with
    | 0, _ => rfl
    | 1, _ => rfl
    | 2, _ => rfl
    | 3, _ => rfl
    | 4, _ => rfl
    | 5, _ => rfl
  have hS : ∀ h, ([Value.string ⟨#[48, 48]⟩, .string ⟨#[49, 49]⟩, .string ⟨#[48, 48, 48, 49]⟩, .string ⟨#[48, 49, 49, 49]⟩, .string ⟨#[48, 48, 48, 49, 48, 49, 49, 49]⟩, .string ⟨#[48, 49, 49, 48, 49, 48, 48, 49]⟩] : List Value)[i]'h = .string (classStr i) := by
    intro h
    match i, hi with
    | 0, _ => rfl
    | 1, _ => rfl
    | 2, _ => rfl
    | 3, _ => rfl
    | 4, _ => rfl
    | 5, _ => rfl
  have hok := hd (classStr_ok hi)
  have hI : I64 (classArity ((i : Int) + 1)) := by
    match i, hi with
    | 0, _ => exact ⟨by decide, by decide⟩
    | 1, _ => exact ⟨by decide, by decide⟩
    | 2, _ => exact ⟨by decide, by decide⟩
    | 3, _ => exact ⟨by decide, by decide⟩
    | 4, _ => exact ⟨by decide, by decide⟩
    | 5, _ => exact ⟨by decide, by decide⟩
  unfold classOpL
  generalize classStr i = S at *
  generalize classArity ((i : Int) + 1) = ar at *
  generalize classTable ((i : Int) + 1) = L at *
  have hrd := hd (show ∀ W, Calls Try.prog 42 #[.string S] W (RetSl 1 RInt L W) from fun W => by have := readDigits_any S W hok.out.2; rw [hok.out.1] at this; exact this)
  clear hok
  have e1 : IntKind.i64.wrap ((i : Int) + 1 - 1) = (i : Int) := by rw [show (i : Int) + 1 - 1 = (i : Int) by omega]; exact IntWalk.i64_in _ (by omega)
  have e4 : IntKind.i64.wrap (i : Int) = (i : Int) := IntWalk.i64_in _ (by omega)
  have e2 : (i : Int) < 6 := by omega
  have e3 : (0 : Int) ≤ (i : Int) := by omega
  go_enter Try.func23, Try.ntmps23
  go_wp2
  go_region_with (go_at_call 42; (refine (hrd.out _).mono ?_; rintro e w1 ⟨v, bs, rfl, hv, ho, hb⟩; obtain ⟨a1, n1, rfl⟩ := hv.val; obtain ⟨hc1, hf1, ht1⟩ := bcell3 hb; have T0 : w.heap.size < w1.heap.size := ?_; have T1 : w.heap.size + 1 < w1.heap.size := ?_; rotate_left; (apply ht1; simp <;> omega); (apply ht1; simp <;> omega); clear ht1))
  all_goals go_wp2
  all_goals
    have K1 : Blk w1 w.heap.size #[.int .i64 0, .slice none 0 0] 45 := Blk.thru (by repeat (first | with_reducible apply Blk.drew | ((with_reducible refine Blk.new ?_); rfl) | with_reducible refine Blk.old ?_ _)) hb
    have C1 := K1.cell
    refine bodyPost_ret (v := .agg #[.int .i64 ar, .slice a1 L.length n1]) (by simp [results, Try.results23, go_sem, C1, T0]) rfl ?_
    have hne : ∀ b ∈ bs, b ≠ w.heap.size := fun b hbm => by have := (ho.2 b hbm).1; simp at this; omega
    have hin := ho.inMem
    have hB1 : Below w.heap.size w w1 := Below.through hb (by repeat (first | exact Below.refl _ _ | refine Below.alloc ?_ (by simp <;> omega) _ | apply Below.drew))
    refine RetAgg.of ROp.fr (ROp.mk' (x := ⟨ar, L⟩) hI hv) (ho.mono (by simp; omega)) ?_ ?_
    · repeat (first | with_reducible exact SameAt.refl _ _ | ((with_reducible refine SameAt.set ?_ ?_ _); rotate_left; focus exact hne) | ((with_reducible refine SameAt.alloc ?_ ?_ _); rotate_left; focus exact hin.le (by simp)) | with_reducible apply SameAt.drew)
    · repeat (first | with_reducible exact hB1 | ((with_reducible refine Below.setCell ?_ ?_ _); rotate_left; focus (simp; done)) | ((with_reducible refine Below.alloc ?_ ?_ _); rotate_left; focus (first | (simp; done) | (simp; omega))) | with_reducible apply Below.drew)

end Go.Proofs.Ytfepllddlmhjiaa
