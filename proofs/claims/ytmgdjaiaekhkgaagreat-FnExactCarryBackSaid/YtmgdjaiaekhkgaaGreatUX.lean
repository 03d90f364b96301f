/-
  Structs that no law takes, as the steps of a walk ask for them. Printed by gen_ux.py. No program.
-/
import Derived.Test.YtmgdjaiaekhkgaaGreatU
import Derived.Test.YtmgdjaiaekhkgaaGreatQ
namespace Go.Proofs.YtmgdjaiaekhkgaaGreat
set_option linter.unusedVariables false
set_option linter.unusedSimpArgs false
open Go.RowKit

structure solver where
  t : Template
  vars : Int
  due : List (List Atom)
def Rsolver : ER solver := fun w f x bs => ∃ v1 v3 : Value, ∃ b1 b3 : List Nat, f 0 = some (.int .i64 x.t.size) ∧ I64 x.t.size ∧ f 1 = some v1 ∧ Sl 2 RRel w v1 x.t.rels b1 ∧ f 2 = some (.int .i64 x.vars) ∧ I64 x.vars ∧ f 3 = some v3 ∧ Sl 1 (RSl 2 RAtom) w v3 x.due b3 ∧ bs = b1 ++ b3
theorem Rsolver.fr : Fr 4 Rsolver := by
  intro w w' f g x bs h hs hg
  obtain ⟨v1, v3, b1, b3, h0, k0, h1, k1, h2, k2, h3, k3, rfl⟩ := h
  exact ⟨v1, v3, _, _, (hg 0 (by omega)).trans h0, k0, (hg 1 (by omega)).trans h1, k1.same RRel.fr (fun c hc => hs c (by simp [hc])), (hg 2 (by omega)).trans h2, k2, (hg 3 (by omega)).trans h3, k3.same (RSl.fr RAtom.fr) (fun c hc => hs c (by simp [hc])), rfl⟩
instance : FrC 4 Rsolver := ⟨Rsolver.fr, fun w f x bs h => by
  obtain ⟨v1, v3, b1, b3, h0, k0, h1, k1, h2, k2, h3, k3, hbs⟩ := h
  exact (tots (tots (tots (tots tot0 h0 rfl) h1 k1.one) h2 rfl) h3 k3.one)⟩
theorem Rsolver.f0 {w : World} {y : solver} : ∀ f bi, Rsolver w f y bi → ∃ bj, RTemplate w (fun j => f (0 + j)) y.t bj ∧ ∀ c ∈ bj, c ∈ bi := fun f bi h => by
  obtain ⟨v1, v3, b1, b3, h0, k0, h1, k1, h2, k2, h3, k3, hbs⟩ := h
  exact ⟨b1, ⟨v1, b1, by simpa using h0, k0, by simpa using h1, k1, rfl⟩, fun c hc => by rw [hbs]; simp [hc]⟩
theorem Rsolver.f1 {w : World} {y : solver} : ∀ f bi, Rsolver w f y bi → ∃ bj, RInt w (fun j => f (2 + j)) y.vars bj ∧ ∀ c ∈ bj, c ∈ bi := fun f bi h => by
  obtain ⟨v1, v3, b1, b3, h0, k0, h1, k1, h2, k2, h3, k3, hbs⟩ := h
  exact ⟨[], ⟨by simpa using h2, k2, rfl⟩, fun c hc => nomatch hc⟩
theorem Rsolver.f2 {w : World} {y : solver} : ∀ f bi, Rsolver w f y bi → ∃ bj, (RSl 1 (RSl 2 RAtom)) w (fun j => f (3 + j)) y.due bj ∧ ∀ c ∈ bj, c ∈ bi := fun f bi h => by
  obtain ⟨v1, v3, b1, b3, h0, k0, h1, k1, h2, k2, h3, k3, hbs⟩ := h
  exact ⟨b3, ⟨v3, by simpa using h3, k3⟩, fun c hc => by rw [hbs]; simp [hc]⟩
theorem Rsolver.rd {w : World} {v : Value} {x : solver} {bs : List Nat} (h : Rd (Agg 4 Rsolver) w v x bs) : ∃ v1 v3 : Value, ∃ b1 b3 : List Nat, v = .agg #[.int .i64 x.t.size, v1, .int .i64 x.vars, v3] ∧ I64 x.t.size ∧ Rd (Sl 2 RRel) w v1 x.t.rels b1 ∧ I64 x.vars ∧ Rd (Sl 1 (RSl 2 RAtom)) w v3 x.due b3 ∧ bs = b1 ++ b3 := by
  obtain ⟨⟨cs, hl, rfl, v1, v3, b1, b3, h0, k0, h1, k1, h2, k2, h3, k3, hbs⟩, hm⟩ := h
  match cs, hl with
  | [c0, c1, c2, c3], _ =>
    obtain rfl := Option.some.inj h0
    obtain rfl := Option.some.inj h1
    obtain rfl := Option.some.inj h2
    obtain rfl := Option.some.inj h3
    exact ⟨_, _, _, _, rfl, k0, ⟨k1, fun c hc => hm c (by rw [hbs]; simp [hc])⟩, k2, ⟨k3, fun c hc => hm c (by rw [hbs]; simp [hc])⟩, hbs⟩
theorem Rsolver.mk2 {w : World} {f0 : Int} {f1 : List Rel} {f2 : Int} {f3 : List (List Atom)} {v1 : Value} {b1 : List Nat} {v3 : Value} {b3 : List Nat} (h0 : I64 f0) (h1 : Rd (Sl 2 RRel) w v1 f1 b1) (h2 : I64 f2) (h3 : Rd (Sl 1 (RSl 2 RAtom)) w v3 f3 b3) : Rd (Agg 4 Rsolver) w (.agg #[.int .i64 f0, v1, .int .i64 f2, v3]) (solver.mk (Template.mk f0 f1) f2 f3) (b1 ++ b3) :=
  ⟨⟨[.int .i64 f0, v1, .int .i64 f2, v3], rfl, rfl, _, _, _, _, rfl, h0, rfl, h1.r, rfl, h2, rfl, h3.r, rfl⟩, (h1.m).append h3.m⟩
theorem Rsolver.blk {w : World} {T : TypeId} {b : Nat} {f0 : Int} {f1 : List Rel} {f2 : Int} {f3 : List (List Atom)} {v1 : Value} {b1 : List Nat} {v3 : Value} {b3 : List Nat} (K : Blk w b #[.int .i64 f0, v1, .int .i64 f2, v3] T) (h0 : I64 f0) (h1 : Rd (Sl 2 RRel) w v1 f1 b1) (h2 : I64 f2) (h3 : Rd (Sl 1 (RSl 2 RAtom)) w v3 f3 b3) : Rd (Pt 4 Rsolver) w (.pointer (some ⟨b, 0, none⟩)) (solver.mk (Template.mk f0 f1) f2 f3) (b :: (b1 ++ b3)) := by
  have hm : InMem (b1 ++ b3) w := (h1.m).append h3.m
  refine ⟨⟨b, 0, _, rfl, rfl, _, _, _, _, (K.cell (0 + 0)).trans rfl, h0, (K.cell (0 + 1)).trans rfl, h1.r, (K.cell (0 + 2)).trans rfl, h2, (K.cell (0 + 3)).trans rfl, h3.r, rfl⟩, fun c hc => ?_⟩
  rcases List.mem_cons.1 hc with rfl | hc
  · exact K.lt
  · exact hm c hc
/-- A pointer to a datum, as a cell. -/
def RP {α : Type} (sz : Nat) (R : ER α) : ER α := fun w f x bs => ∃ p, f 0 = some p ∧ Pt sz R w p x bs
instance {α : Type} {sz : Nat} {R : ER α} [h : FrC sz R] : FrC 1 (RP sz R) := ⟨fun w w' f g x bs ⟨p, h0, hp⟩ hs hg => ⟨p, (hg 0 (by omega)).trans h0, VF.same hp hs⟩, fun w f x bs h j hj => by
  obtain rfl : j = 0 := by omega
  obtain ⟨p, h0, b, o, bi, rfl, _⟩ := h
  exact ⟨_, h0, rfl⟩⟩
section
variable {P : Program} {ops : Array Oper} {Q : Exit → Act → World → Prop} {C : World → Prop} {K : Act → Prop} {a : Act} {w : World} {n : Nat} {L : List (Nat × Value)} {rest : List Oper} {d : Nat} {dd : Option Tmp} {ty : TypeId} {pos : String} {af : Array Edge} {g : Option (Nat × Bool)}
end
/-- A box that holds a pointer to a datum. -/
theorem cell1P {α : Type} {sz : Nat} {R : ER α} {w : World} {T : TypeId} {b : Nat} {p : Value} {x : α} {bs : List Nat} (K : Blk w b #[p] T) (h : Rd (Pt sz R) w p x bs) : Rd (Pt 1 (RP sz R)) w (.pointer (some ⟨b, 0, none⟩)) x (b :: bs) :=
  ⟨⟨b, 0, _, rfl, rfl, p, (K.cell (0 + 0)).trans rfl, h.r⟩, fun c hc => by
    rcases List.mem_cons.1 hc with rfl | hc
    · exact K.lt
    · exact h.m c hc⟩
end Go.Proofs.YtmgdjaiaekhkgaaGreat
