/-
  The structs, as the steps of a walk ask for them. Printed by gen_u.py. No program.
-/
import Derived.Test.YtmgdjaiaekhkgaaGreatH
import Derived.Test.YtmgdjaiaekhkgaaGreatT
namespace Go.Proofs.YtmgdjaiaekhkgaaGreat
set_option linter.unusedVariables false
set_option linter.unusedSimpArgs false
open Go.RowKit
theorem tots {n : Nat} {f : Nat → Option Value} (h : ∀ j, j < n → ∃ v : Value, f j = some v ∧ v.oneCell' = true) {u : Value} (e : f n = some u) (hu : u.oneCell' = true) : ∀ j, j < n + 1 → ∃ v : Value, f j = some v ∧ v.oneCell' = true := fun j hj => by
  by_cases hjn : j = n
  · subst hjn; exact ⟨u, e, hu⟩
  · exact h j (by omega)
theorem tot0 {f : Nat → Option Value} : ∀ j, j < 0 → ∃ v : Value, f j = some v ∧ v.oneCell' = true := fun j hj => by omega
theorem Sl.one {α : Type} {sz : Nat} {R : ER α} {w : World} {v : Value} {l : List α} {bs : List Nat} (h : Sl sz R w v l bs) : v.oneCell' = true := by obtain ⟨a, c, rfl⟩ := h.val; rfl

instance : FrC 2 RRel := ⟨RRel.fr, fun w f x bs h => by
  obtain ⟨v1, b1, h0, k0, h1, k1, hbs⟩ := h
  exact (tots (tots tot0 h0 rfl) h1 k1.one)⟩
theorem RRel.f0 {w : World} {y : Rel} : ∀ f bi, RRel w f y bi → ∃ bj, RInt w (fun j => f (0 + j)) y.arity bj ∧ ∀ c ∈ bj, c ∈ bi := fun f bi h => by
  obtain ⟨v1, b1, h0, k0, h1, k1, hbs⟩ := h
  exact ⟨[], ⟨by simpa using h0, k0, rfl⟩, fun c hc => nomatch hc⟩
theorem RRel.f1 {w : World} {y : Rel} : ∀ f bi, RRel w f y bi → ∃ bj, (RSl 1 RInts) w (fun j => f (1 + j)) y.tuples bj ∧ ∀ c ∈ bj, c ∈ bi := fun f bi h => by
  obtain ⟨v1, b1, h0, k0, h1, k1, hbs⟩ := h
  exact ⟨b1, ⟨v1, by simpa using h1, k1⟩, fun c hc => by rw [hbs]; simp [hc]⟩
theorem RRel.rd {w : World} {v : Value} {x : Rel} {bs : List Nat} (h : Rd (Agg 2 RRel) w v x bs) : ∃ v1 : Value, ∃ b1 : List Nat, v = .agg #[.int .i64 x.arity, v1] ∧ I64 x.arity ∧ Rd (Sl 1 RInts) w v1 x.tuples b1 ∧ bs = b1 := by
  obtain ⟨v1, b1, e, k0, k1, hbs⟩ := RRel.open h.r
  exact ⟨v1, b1, e, k0, ⟨k1, fun c hc => h.m c (by rw [hbs]; simp [hc])⟩, hbs⟩
theorem RRel.mk2 {w : World} {f0 : Int} {f1 : List (List Int)} {v1 : Value} {b1 : List Nat} (h0 : I64 f0) (h1 : Rd (Sl 1 RInts) w v1 f1 b1) : Rd (Agg 2 RRel) w (.agg #[.int .i64 f0, v1]) (Rel.mk f0 f1) (b1) :=
  ⟨RRel.mk' (x := ⟨f0, f1⟩) h0 h1.r, h1.m⟩
theorem RRel.blk {w : World} {T : TypeId} {b : Nat} {f0 : Int} {f1 : List (List Int)} {v1 : Value} {b1 : List Nat} (K : Blk w b #[.int .i64 f0, v1] T) (h0 : I64 f0) (h1 : Rd (Sl 1 RInts) w v1 f1 b1) : Rd (Pt 2 RRel) w (.pointer (some ⟨b, 0, none⟩)) (Rel.mk f0 f1) (b :: (b1)) := by
  have hm : InMem (b1) w := h1.m
  refine ⟨⟨b, 0, _, rfl, rfl, _, _, (K.cell (0 + 0)).trans rfl, h0, (K.cell (0 + 1)).trans rfl, h1.r, rfl⟩, fun c hc => ?_⟩
  rcases List.mem_cons.1 hc with rfl | hc
  · exact K.lt
  · exact hm c hc
instance : FrC 2 RTemplate := ⟨RTemplate.fr, fun w f x bs h => by
  obtain ⟨v1, b1, h0, k0, h1, k1, hbs⟩ := h
  exact (tots (tots tot0 h0 rfl) h1 k1.one)⟩
theorem RTemplate.f0 {w : World} {y : Template} : ∀ f bi, RTemplate w f y bi → ∃ bj, RInt w (fun j => f (0 + j)) y.size bj ∧ ∀ c ∈ bj, c ∈ bi := fun f bi h => by
  obtain ⟨v1, b1, h0, k0, h1, k1, hbs⟩ := h
  exact ⟨[], ⟨by simpa using h0, k0, rfl⟩, fun c hc => nomatch hc⟩
theorem RTemplate.f1 {w : World} {y : Template} : ∀ f bi, RTemplate w f y bi → ∃ bj, (RSl 2 RRel) w (fun j => f (1 + j)) y.rels bj ∧ ∀ c ∈ bj, c ∈ bi := fun f bi h => by
  obtain ⟨v1, b1, h0, k0, h1, k1, hbs⟩ := h
  exact ⟨b1, ⟨v1, by simpa using h1, k1⟩, fun c hc => by rw [hbs]; simp [hc]⟩
theorem RTemplate.rd {w : World} {v : Value} {x : Template} {bs : List Nat} (h : Rd (Agg 2 RTemplate) w v x bs) : ∃ v1 : Value, ∃ b1 : List Nat, v = .agg #[.int .i64 x.size, v1] ∧ I64 x.size ∧ Rd (Sl 2 RRel) w v1 x.rels b1 ∧ bs = b1 := by
  obtain ⟨v1, b1, e, k0, k1, hbs⟩ := RTemplate.open h.r
  exact ⟨v1, b1, e, k0, ⟨k1, fun c hc => h.m c (by rw [hbs]; simp [hc])⟩, hbs⟩
theorem RTemplate.mk2 {w : World} {f0 : Int} {f1 : List Rel} {v1 : Value} {b1 : List Nat} (h0 : I64 f0) (h1 : Rd (Sl 2 RRel) w v1 f1 b1) : Rd (Agg 2 RTemplate) w (.agg #[.int .i64 f0, v1]) (Template.mk f0 f1) (b1) :=
  ⟨RTemplate.mk' (x := ⟨f0, f1⟩) h0 h1.r, h1.m⟩
theorem RTemplate.blk {w : World} {T : TypeId} {b : Nat} {f0 : Int} {f1 : List Rel} {v1 : Value} {b1 : List Nat} (K : Blk w b #[.int .i64 f0, v1] T) (h0 : I64 f0) (h1 : Rd (Sl 2 RRel) w v1 f1 b1) : Rd (Pt 2 RTemplate) w (.pointer (some ⟨b, 0, none⟩)) (Template.mk f0 f1) (b :: (b1)) := by
  have hm : InMem (b1) w := h1.m
  refine ⟨⟨b, 0, _, rfl, rfl, _, _, (K.cell (0 + 0)).trans rfl, h0, (K.cell (0 + 1)).trans rfl, h1.r, rfl⟩, fun c hc => ?_⟩
  rcases List.mem_cons.1 hc with rfl | hc
  · exact K.lt
  · exact hm c hc
instance : FrC 2 ROp := ⟨ROp.fr, fun w f x bs h => by
  obtain ⟨v1, b1, h0, k0, h1, k1, hbs⟩ := h
  exact (tots (tots tot0 h0 rfl) h1 k1.one)⟩
theorem ROp.f0 {w : World} {y : Op} : ∀ f bi, ROp w f y bi → ∃ bj, RInt w (fun j => f (0 + j)) y.arity bj ∧ ∀ c ∈ bj, c ∈ bi := fun f bi h => by
  obtain ⟨v1, b1, h0, k0, h1, k1, hbs⟩ := h
  exact ⟨[], ⟨by simpa using h0, k0, rfl⟩, fun c hc => nomatch hc⟩
theorem ROp.f1 {w : World} {y : Op} : ∀ f bi, ROp w f y bi → ∃ bj, (RSl 1 RInt) w (fun j => f (1 + j)) y.table bj ∧ ∀ c ∈ bj, c ∈ bi := fun f bi h => by
  obtain ⟨v1, b1, h0, k0, h1, k1, hbs⟩ := h
  exact ⟨b1, ⟨v1, by simpa using h1, k1⟩, fun c hc => by rw [hbs]; simp [hc]⟩
theorem ROp.rd {w : World} {v : Value} {x : Op} {bs : List Nat} (h : Rd (Agg 2 ROp) w v x bs) : ∃ v1 : Value, ∃ b1 : List Nat, v = .agg #[.int .i64 x.arity, v1] ∧ I64 x.arity ∧ Rd (Sl 1 RInt) w v1 x.table b1 ∧ bs = b1 := by
  obtain ⟨v1, b1, e, k0, k1, hbs⟩ := ROp.open h.r
  exact ⟨v1, b1, e, k0, ⟨k1, fun c hc => h.m c (by rw [hbs]; simp [hc])⟩, hbs⟩
theorem ROp.mk2 {w : World} {f0 : Int} {f1 : List Int} {v1 : Value} {b1 : List Nat} (h0 : I64 f0) (h1 : Rd (Sl 1 RInt) w v1 f1 b1) : Rd (Agg 2 ROp) w (.agg #[.int .i64 f0, v1]) (Op.mk f0 f1) (b1) :=
  ⟨ROp.mk' (x := ⟨f0, f1⟩) h0 h1.r, h1.m⟩
theorem ROp.blk {w : World} {T : TypeId} {b : Nat} {f0 : Int} {f1 : List Int} {v1 : Value} {b1 : List Nat} (K : Blk w b #[.int .i64 f0, v1] T) (h0 : I64 f0) (h1 : Rd (Sl 1 RInt) w v1 f1 b1) : Rd (Pt 2 ROp) w (.pointer (some ⟨b, 0, none⟩)) (Op.mk f0 f1) (b :: (b1)) := by
  have hm : InMem (b1) w := h1.m
  refine ⟨⟨b, 0, _, rfl, rfl, _, _, (K.cell (0 + 0)).trans rfl, h0, (K.cell (0 + 1)).trans rfl, h1.r, rfl⟩, fun c hc => ?_⟩
  rcases List.mem_cons.1 hc with rfl | hc
  · exact K.lt
  · exact hm c hc
instance : FrC 2 RAtom := ⟨RAtom.fr, fun w f x bs h => by
  obtain ⟨v1, b1, h0, k0, h1, k1, hbs⟩ := h
  exact (tots (tots tot0 h0 rfl) h1 k1.one)⟩
theorem RAtom.f0 {w : World} {y : Atom} : ∀ f bi, RAtom w f y bi → ∃ bj, RInt w (fun j => f (0 + j)) y.rel bj ∧ ∀ c ∈ bj, c ∈ bi := fun f bi h => by
  obtain ⟨v1, b1, h0, k0, h1, k1, hbs⟩ := h
  exact ⟨[], ⟨by simpa using h0, k0, rfl⟩, fun c hc => nomatch hc⟩
theorem RAtom.f1 {w : World} {y : Atom} : ∀ f bi, RAtom w f y bi → ∃ bj, (RSl 1 RInt) w (fun j => f (1 + j)) y.args bj ∧ ∀ c ∈ bj, c ∈ bi := fun f bi h => by
  obtain ⟨v1, b1, h0, k0, h1, k1, hbs⟩ := h
  exact ⟨b1, ⟨v1, by simpa using h1, k1⟩, fun c hc => by rw [hbs]; simp [hc]⟩
theorem RAtom.rd {w : World} {v : Value} {x : Atom} {bs : List Nat} (h : Rd (Agg 2 RAtom) w v x bs) : ∃ v1 : Value, ∃ b1 : List Nat, v = .agg #[.int .i64 x.rel, v1] ∧ I64 x.rel ∧ Rd (Sl 1 RInt) w v1 x.args b1 ∧ bs = b1 := by
  obtain ⟨v1, b1, e, k0, k1, hbs⟩ := RAtom.open h.r
  exact ⟨v1, b1, e, k0, ⟨k1, fun c hc => h.m c (by rw [hbs]; simp [hc])⟩, hbs⟩
theorem RAtom.mk2 {w : World} {f0 : Int} {f1 : List Int} {v1 : Value} {b1 : List Nat} (h0 : I64 f0) (h1 : Rd (Sl 1 RInt) w v1 f1 b1) : Rd (Agg 2 RAtom) w (.agg #[.int .i64 f0, v1]) (Atom.mk f0 f1) (b1) :=
  ⟨RAtom.mk' (x := ⟨f0, f1⟩) h0 h1.r, h1.m⟩
theorem RAtom.blk {w : World} {T : TypeId} {b : Nat} {f0 : Int} {f1 : List Int} {v1 : Value} {b1 : List Nat} (K : Blk w b #[.int .i64 f0, v1] T) (h0 : I64 f0) (h1 : Rd (Sl 1 RInt) w v1 f1 b1) : Rd (Pt 2 RAtom) w (.pointer (some ⟨b, 0, none⟩)) (Atom.mk f0 f1) (b :: (b1)) := by
  have hm : InMem (b1) w := h1.m
  refine ⟨⟨b, 0, _, rfl, rfl, _, _, (K.cell (0 + 0)).trans rfl, h0, (K.cell (0 + 1)).trans rfl, h1.r, rfl⟩, fun c hc => ?_⟩
  rcases List.mem_cons.1 hc with rfl | hc
  · exact K.lt
  · exact hm c hc
instance : FrC 3 RFormula := ⟨RFormula.fr, fun w f x bs h => by
  obtain ⟨v2, b2, h0, k0, h1, k1, h2, k2, hbs⟩ := h
  exact (tots (tots (tots tot0 h0 rfl) h1 rfl) h2 k2.one)⟩
theorem RFormula.f0 {w : World} {y : Formula} : ∀ f bi, RFormula w f y bi → ∃ bj, RInt w (fun j => f (0 + j)) y.free bj ∧ ∀ c ∈ bj, c ∈ bi := fun f bi h => by
  obtain ⟨v2, b2, h0, k0, h1, k1, h2, k2, hbs⟩ := h
  exact ⟨[], ⟨by simpa using h0, k0, rfl⟩, fun c hc => nomatch hc⟩
theorem RFormula.f1 {w : World} {y : Formula} : ∀ f bi, RFormula w f y bi → ∃ bj, RInt w (fun j => f (1 + j)) y.vars bj ∧ ∀ c ∈ bj, c ∈ bi := fun f bi h => by
  obtain ⟨v2, b2, h0, k0, h1, k1, h2, k2, hbs⟩ := h
  exact ⟨[], ⟨by simpa using h1, k1, rfl⟩, fun c hc => nomatch hc⟩
theorem RFormula.f2 {w : World} {y : Formula} : ∀ f bi, RFormula w f y bi → ∃ bj, (RSl 2 RAtom) w (fun j => f (2 + j)) y.atoms bj ∧ ∀ c ∈ bj, c ∈ bi := fun f bi h => by
  obtain ⟨v2, b2, h0, k0, h1, k1, h2, k2, hbs⟩ := h
  exact ⟨b2, ⟨v2, by simpa using h2, k2⟩, fun c hc => by rw [hbs]; simp [hc]⟩
theorem RFormula.rd {w : World} {v : Value} {x : Formula} {bs : List Nat} (h : Rd (Agg 3 RFormula) w v x bs) : ∃ v2 : Value, ∃ b2 : List Nat, v = .agg #[.int .i64 x.free, .int .i64 x.vars, v2] ∧ I64 x.free ∧ I64 x.vars ∧ Rd (Sl 2 RAtom) w v2 x.atoms b2 ∧ bs = b2 := by
  obtain ⟨v2, b2, e, k0, k1, k2, hbs⟩ := RFormula.open h.r
  exact ⟨v2, b2, e, k0, k1, ⟨k2, fun c hc => h.m c (by rw [hbs]; simp [hc])⟩, hbs⟩
theorem RFormula.mk2 {w : World} {f0 : Int} {f1 : Int} {f2 : List Atom} {v2 : Value} {b2 : List Nat} (h0 : I64 f0) (h1 : I64 f1) (h2 : Rd (Sl 2 RAtom) w v2 f2 b2) : Rd (Agg 3 RFormula) w (.agg #[.int .i64 f0, .int .i64 f1, v2]) (Formula.mk f0 f1 f2) (b2) :=
  ⟨RFormula.mk' (x := ⟨f0, f1, f2⟩) h0 h1 h2.r, h2.m⟩
theorem RFormula.blk {w : World} {T : TypeId} {b : Nat} {f0 : Int} {f1 : Int} {f2 : List Atom} {v2 : Value} {b2 : List Nat} (K : Blk w b #[.int .i64 f0, .int .i64 f1, v2] T) (h0 : I64 f0) (h1 : I64 f1) (h2 : Rd (Sl 2 RAtom) w v2 f2 b2) : Rd (Pt 3 RFormula) w (.pointer (some ⟨b, 0, none⟩)) (Formula.mk f0 f1 f2) (b :: (b2)) := by
  have hm : InMem (b2) w := h2.m
  refine ⟨⟨b, 0, _, rfl, rfl, _, _, (K.cell (0 + 0)).trans rfl, h0, (K.cell (0 + 1)).trans rfl, h1, (K.cell (0 + 2)).trans rfl, h2.r, rfl⟩, fun c hc => ?_⟩
  rcases List.mem_cons.1 hc with rfl | hc
  · exact K.lt
  · exact hm c hc
instance : FrC 2 RCon := ⟨RCon.fr, fun w f x bs h => by
  obtain ⟨v1, b1, h0, k0, h1, k1, hbs⟩ := h
  exact (tots (tots tot0 h0 rfl) h1 k1.one)⟩
theorem RCon.f0 {w : World} {y : Con} : ∀ f bi, RCon w f y bi → ∃ bj, RInt w (fun j => f (0 + j)) y.rel bj ∧ ∀ c ∈ bj, c ∈ bi := fun f bi h => by
  obtain ⟨v1, b1, h0, k0, h1, k1, hbs⟩ := h
  exact ⟨[], ⟨by simpa using h0, k0, rfl⟩, fun c hc => nomatch hc⟩
theorem RCon.f1 {w : World} {y : Con} : ∀ f bi, RCon w f y bi → ∃ bj, (RSl 1 RInt) w (fun j => f (1 + j)) y.scope bj ∧ ∀ c ∈ bj, c ∈ bi := fun f bi h => by
  obtain ⟨v1, b1, h0, k0, h1, k1, hbs⟩ := h
  exact ⟨b1, ⟨v1, by simpa using h1, k1⟩, fun c hc => by rw [hbs]; simp [hc]⟩
theorem RCon.rd {w : World} {v : Value} {x : Con} {bs : List Nat} (h : Rd (Agg 2 RCon) w v x bs) : ∃ v1 : Value, ∃ b1 : List Nat, v = .agg #[.int .i64 x.rel, v1] ∧ I64 x.rel ∧ Rd (Sl 1 RInt) w v1 x.scope b1 ∧ bs = b1 := by
  obtain ⟨v1, b1, e, k0, k1, hbs⟩ := RCon.open h.r
  exact ⟨v1, b1, e, k0, ⟨k1, fun c hc => h.m c (by rw [hbs]; simp [hc])⟩, hbs⟩
theorem RCon.mk2 {w : World} {f0 : Int} {f1 : List Int} {v1 : Value} {b1 : List Nat} (h0 : I64 f0) (h1 : Rd (Sl 1 RInt) w v1 f1 b1) : Rd (Agg 2 RCon) w (.agg #[.int .i64 f0, v1]) (Con.mk f0 f1) (b1) :=
  ⟨RCon.mk' (x := ⟨f0, f1⟩) h0 h1.r, h1.m⟩
theorem RCon.blk {w : World} {T : TypeId} {b : Nat} {f0 : Int} {f1 : List Int} {v1 : Value} {b1 : List Nat} (K : Blk w b #[.int .i64 f0, v1] T) (h0 : I64 f0) (h1 : Rd (Sl 1 RInt) w v1 f1 b1) : Rd (Pt 2 RCon) w (.pointer (some ⟨b, 0, none⟩)) (Con.mk f0 f1) (b :: (b1)) := by
  have hm : InMem (b1) w := h1.m
  refine ⟨⟨b, 0, _, rfl, rfl, _, _, (K.cell (0 + 0)).trans rfl, h0, (K.cell (0 + 1)).trans rfl, h1.r, rfl⟩, fun c hc => ?_⟩
  rcases List.mem_cons.1 hc with rfl | hc
  · exact K.lt
  · exact hm c hc
instance : FrC 2 RInstance := ⟨RInstance.fr, fun w f x bs h => by
  obtain ⟨v1, b1, h0, k0, h1, k1, hbs⟩ := h
  exact (tots (tots tot0 h0 rfl) h1 k1.one)⟩
theorem RInstance.f0 {w : World} {y : Instance} : ∀ f bi, RInstance w f y bi → ∃ bj, RInt w (fun j => f (0 + j)) y.vars bj ∧ ∀ c ∈ bj, c ∈ bi := fun f bi h => by
  obtain ⟨v1, b1, h0, k0, h1, k1, hbs⟩ := h
  exact ⟨[], ⟨by simpa using h0, k0, rfl⟩, fun c hc => nomatch hc⟩
theorem RInstance.f1 {w : World} {y : Instance} : ∀ f bi, RInstance w f y bi → ∃ bj, (RSl 2 RCon) w (fun j => f (1 + j)) y.cons bj ∧ ∀ c ∈ bj, c ∈ bi := fun f bi h => by
  obtain ⟨v1, b1, h0, k0, h1, k1, hbs⟩ := h
  exact ⟨b1, ⟨v1, by simpa using h1, k1⟩, fun c hc => by rw [hbs]; simp [hc]⟩
theorem RInstance.rd {w : World} {v : Value} {x : Instance} {bs : List Nat} (h : Rd (Agg 2 RInstance) w v x bs) : ∃ v1 : Value, ∃ b1 : List Nat, v = .agg #[.int .i64 x.vars, v1] ∧ I64 x.vars ∧ Rd (Sl 2 RCon) w v1 x.cons b1 ∧ bs = b1 := by
  obtain ⟨v1, b1, e, k0, k1, hbs⟩ := RInstance.open h.r
  exact ⟨v1, b1, e, k0, ⟨k1, fun c hc => h.m c (by rw [hbs]; simp [hc])⟩, hbs⟩
theorem RInstance.mk2 {w : World} {f0 : Int} {f1 : List Con} {v1 : Value} {b1 : List Nat} (h0 : I64 f0) (h1 : Rd (Sl 2 RCon) w v1 f1 b1) : Rd (Agg 2 RInstance) w (.agg #[.int .i64 f0, v1]) (Instance.mk f0 f1) (b1) :=
  ⟨RInstance.mk' (x := ⟨f0, f1⟩) h0 h1.r, h1.m⟩
theorem RInstance.blk {w : World} {T : TypeId} {b : Nat} {f0 : Int} {f1 : List Con} {v1 : Value} {b1 : List Nat} (K : Blk w b #[.int .i64 f0, v1] T) (h0 : I64 f0) (h1 : Rd (Sl 2 RCon) w v1 f1 b1) : Rd (Pt 2 RInstance) w (.pointer (some ⟨b, 0, none⟩)) (Instance.mk f0 f1) (b :: (b1)) := by
  have hm : InMem (b1) w := h1.m
  refine ⟨⟨b, 0, _, rfl, rfl, _, _, (K.cell (0 + 0)).trans rfl, h0, (K.cell (0 + 1)).trans rfl, h1.r, rfl⟩, fun c hc => ?_⟩
  rcases List.mem_cons.1 hc with rfl | hc
  · exact K.lt
  · exact hm c hc
instance : FrC 3 RArcStep := ⟨RArcStep.fr, fun w f x bs h => by
  obtain ⟨h0, k0, h1, k1, h2, k2, hbs⟩ := h
  exact (tots (tots (tots tot0 h0 rfl) h1 rfl) h2 rfl)⟩
theorem RArcStep.f0 {w : World} {y : ArcStep} : ∀ f bi, RArcStep w f y bi → ∃ bj, RInt w (fun j => f (0 + j)) y.var bj ∧ ∀ c ∈ bj, c ∈ bi := fun f bi h => by
  obtain ⟨h0, k0, h1, k1, h2, k2, hbs⟩ := h
  exact ⟨[], ⟨by simpa using h0, k0, rfl⟩, fun c hc => nomatch hc⟩
theorem RArcStep.f1 {w : World} {y : ArcStep} : ∀ f bi, RArcStep w f y bi → ∃ bj, RInt w (fun j => f (1 + j)) y.value bj ∧ ∀ c ∈ bj, c ∈ bi := fun f bi h => by
  obtain ⟨h0, k0, h1, k1, h2, k2, hbs⟩ := h
  exact ⟨[], ⟨by simpa using h1, k1, rfl⟩, fun c hc => nomatch hc⟩
theorem RArcStep.f2 {w : World} {y : ArcStep} : ∀ f bi, RArcStep w f y bi → ∃ bj, RInt w (fun j => f (2 + j)) y.con bj ∧ ∀ c ∈ bj, c ∈ bi := fun f bi h => by
  obtain ⟨h0, k0, h1, k1, h2, k2, hbs⟩ := h
  exact ⟨[], ⟨by simpa using h2, k2, rfl⟩, fun c hc => nomatch hc⟩
theorem RArcStep.rd {w : World} {v : Value} {x : ArcStep} {bs : List Nat} (h : Rd (Agg 3 RArcStep) w v x bs) : v = .agg #[.int .i64 x.var, .int .i64 x.value, .int .i64 x.con] ∧ I64 x.var ∧ I64 x.value ∧ I64 x.con ∧ bs = [] := by
  obtain ⟨e, k0, k1, k2, hbs⟩ := RArcStep.open h.r
  exact ⟨e, k0, k1, k2, hbs⟩
theorem RArcStep.mk2 {w : World} {f0 : Int} {f1 : Int} {f2 : Int}  (h0 : I64 f0) (h1 : I64 f1) (h2 : I64 f2) : Rd (Agg 3 RArcStep) w (.agg #[.int .i64 f0, .int .i64 f1, .int .i64 f2]) (ArcStep.mk f0 f1 f2) ([]) :=
  ⟨RArcStep.mk' (x := ⟨f0, f1, f2⟩) h0 h1 h2, InMem.nil w⟩
theorem RArcStep.blk {w : World} {T : TypeId} {b : Nat} {f0 : Int} {f1 : Int} {f2 : Int}  (K : Blk w b #[.int .i64 f0, .int .i64 f1, .int .i64 f2] T) (h0 : I64 f0) (h1 : I64 f1) (h2 : I64 f2) : Rd (Pt 3 RArcStep) w (.pointer (some ⟨b, 0, none⟩)) (ArcStep.mk f0 f1 f2) (b :: ([])) := by
  have hm : InMem ([]) w := InMem.nil w
  refine ⟨⟨b, 0, _, rfl, rfl, (K.cell (0 + 0)).trans rfl, h0, (K.cell (0 + 1)).trans rfl, h1, (K.cell (0 + 2)).trans rfl, h2, rfl⟩, fun c hc => ?_⟩
  rcases List.mem_cons.1 hc with rfl | hc
  · exact K.lt
  · exact hm c hc
instance : FrC 3 RPairStep := ⟨RPairStep.fr, fun w f x bs h => by
  obtain ⟨h0, k0, h1, k1, h2, k2, hbs⟩ := h
  exact (tots (tots (tots tot0 h0 rfl) h1 rfl) h2 rfl)⟩
theorem RPairStep.f0 {w : World} {y : PairStep} : ∀ f bi, RPairStep w f y bi → ∃ bj, RInt w (fun j => f (0 + j)) y.i bj ∧ ∀ c ∈ bj, c ∈ bi := fun f bi h => by
  obtain ⟨h0, k0, h1, k1, h2, k2, hbs⟩ := h
  exact ⟨[], ⟨by simpa using h0, k0, rfl⟩, fun c hc => nomatch hc⟩
theorem RPairStep.f1 {w : World} {y : PairStep} : ∀ f bi, RPairStep w f y bi → ∃ bj, RInt w (fun j => f (1 + j)) y.j bj ∧ ∀ c ∈ bj, c ∈ bi := fun f bi h => by
  obtain ⟨h0, k0, h1, k1, h2, k2, hbs⟩ := h
  exact ⟨[], ⟨by simpa using h1, k1, rfl⟩, fun c hc => nomatch hc⟩
theorem RPairStep.f2 {w : World} {y : PairStep} : ∀ f bi, RPairStep w f y bi → ∃ bj, RInt w (fun j => f (2 + j)) y.through bj ∧ ∀ c ∈ bj, c ∈ bi := fun f bi h => by
  obtain ⟨h0, k0, h1, k1, h2, k2, hbs⟩ := h
  exact ⟨[], ⟨by simpa using h2, k2, rfl⟩, fun c hc => nomatch hc⟩
theorem RPairStep.rd {w : World} {v : Value} {x : PairStep} {bs : List Nat} (h : Rd (Agg 3 RPairStep) w v x bs) : v = .agg #[.int .i64 x.i, .int .i64 x.j, .int .i64 x.through] ∧ I64 x.i ∧ I64 x.j ∧ I64 x.through ∧ bs = [] := by
  obtain ⟨e, k0, k1, k2, hbs⟩ := RPairStep.open h.r
  exact ⟨e, k0, k1, k2, hbs⟩
theorem RPairStep.mk2 {w : World} {f0 : Int} {f1 : Int} {f2 : Int}  (h0 : I64 f0) (h1 : I64 f1) (h2 : I64 f2) : Rd (Agg 3 RPairStep) w (.agg #[.int .i64 f0, .int .i64 f1, .int .i64 f2]) (PairStep.mk f0 f1 f2) ([]) :=
  ⟨RPairStep.mk' (x := ⟨f0, f1, f2⟩) h0 h1 h2, InMem.nil w⟩
theorem RPairStep.blk {w : World} {T : TypeId} {b : Nat} {f0 : Int} {f1 : Int} {f2 : Int}  (K : Blk w b #[.int .i64 f0, .int .i64 f1, .int .i64 f2] T) (h0 : I64 f0) (h1 : I64 f1) (h2 : I64 f2) : Rd (Pt 3 RPairStep) w (.pointer (some ⟨b, 0, none⟩)) (PairStep.mk f0 f1 f2) (b :: ([])) := by
  have hm : InMem ([]) w := InMem.nil w
  refine ⟨⟨b, 0, _, rfl, rfl, (K.cell (0 + 0)).trans rfl, h0, (K.cell (0 + 1)).trans rfl, h1, (K.cell (0 + 2)).trans rfl, h2, rfl⟩, fun c hc => ?_⟩
  rcases List.mem_cons.1 hc with rfl | hc
  · exact K.lt
  · exact hm c hc
instance : FrC 5 RVerdict := ⟨RVerdict.fr, fun w f x bs h => by
  obtain ⟨v1, v2, v3, v4, b1, b2, b3, b4, h0, k0, h1, k1, h2, k2, h3, k3, h4, k4, hbs⟩ := h
  exact (tots (tots (tots (tots (tots tot0 h0 rfl) h1 k1.one) h2 k2.one) h3 k3.one) h4 k4.one)⟩
theorem RVerdict.f0 {w : World} {y : Verdict} : ∀ f bi, RVerdict w f y bi → ∃ bj, RInt w (fun j => f (0 + j)) y.kind bj ∧ ∀ c ∈ bj, c ∈ bi := fun f bi h => by
  obtain ⟨v1, v2, v3, v4, b1, b2, b3, b4, h0, k0, h1, k1, h2, k2, h3, k3, h4, k4, hbs⟩ := h
  exact ⟨[], ⟨by simpa using h0, k0, rfl⟩, fun c hc => nomatch hc⟩
theorem RVerdict.f1 {w : World} {y : Verdict} : ∀ f bi, RVerdict w f y bi → ∃ bj, (RSl 1 RInt) w (fun j => f (1 + j)) y.values bj ∧ ∀ c ∈ bj, c ∈ bi := fun f bi h => by
  obtain ⟨v1, v2, v3, v4, b1, b2, b3, b4, h0, k0, h1, k1, h2, k2, h3, k3, h4, k4, hbs⟩ := h
  exact ⟨b1, ⟨v1, by simpa using h1, k1⟩, fun c hc => by rw [hbs]; simp [hc]⟩
theorem RVerdict.f2 {w : World} {y : Verdict} : ∀ f bi, RVerdict w f y bi → ∃ bj, (RSl 3 RArcStep) w (fun j => f (2 + j)) y.arcs bj ∧ ∀ c ∈ bj, c ∈ bi := fun f bi h => by
  obtain ⟨v1, v2, v3, v4, b1, b2, b3, b4, h0, k0, h1, k1, h2, k2, h3, k3, h4, k4, hbs⟩ := h
  exact ⟨b2, ⟨v2, by simpa using h2, k2⟩, fun c hc => by rw [hbs]; simp [hc]⟩
theorem RVerdict.f3 {w : World} {y : Verdict} : ∀ f bi, RVerdict w f y bi → ∃ bj, (RSl 3 RPairStep) w (fun j => f (3 + j)) y.pairs bj ∧ ∀ c ∈ bj, c ∈ bi := fun f bi h => by
  obtain ⟨v1, v2, v3, v4, b1, b2, b3, b4, h0, k0, h1, k1, h2, k2, h3, k3, h4, k4, hbs⟩ := h
  exact ⟨b3, ⟨v3, by simpa using h3, k3⟩, fun c hc => by rw [hbs]; simp [hc]⟩
theorem RVerdict.f4 {w : World} {y : Verdict} : ∀ f bi, RVerdict w f y bi → ∃ bj, (RSl 1 RInt) w (fun j => f (4 + j)) y.numbers bj ∧ ∀ c ∈ bj, c ∈ bi := fun f bi h => by
  obtain ⟨v1, v2, v3, v4, b1, b2, b3, b4, h0, k0, h1, k1, h2, k2, h3, k3, h4, k4, hbs⟩ := h
  exact ⟨b4, ⟨v4, by simpa using h4, k4⟩, fun c hc => by rw [hbs]; simp [hc]⟩
theorem RVerdict.rd {w : World} {v : Value} {x : Verdict} {bs : List Nat} (h : Rd (Agg 5 RVerdict) w v x bs) : ∃ v1 v2 v3 v4 : Value, ∃ b1 b2 b3 b4 : List Nat, v = .agg #[.int .i64 x.kind, v1, v2, v3, v4] ∧ I64 x.kind ∧ Rd (Sl 1 RInt) w v1 x.values b1 ∧ Rd (Sl 3 RArcStep) w v2 x.arcs b2 ∧ Rd (Sl 3 RPairStep) w v3 x.pairs b3 ∧ Rd (Sl 1 RInt) w v4 x.numbers b4 ∧ bs = b1 ++ b2 ++ b3 ++ b4 := by
  obtain ⟨v1, v2, v3, v4, b1, b2, b3, b4, e, k0, k1, k2, k3, k4, hbs⟩ := RVerdict.open h.r
  exact ⟨v1, v2, v3, v4, b1, b2, b3, b4, e, k0, ⟨k1, fun c hc => h.m c (by rw [hbs]; simp [hc])⟩, ⟨k2, fun c hc => h.m c (by rw [hbs]; simp [hc])⟩, ⟨k3, fun c hc => h.m c (by rw [hbs]; simp [hc])⟩, ⟨k4, fun c hc => h.m c (by rw [hbs]; simp [hc])⟩, hbs⟩
theorem RVerdict.mk2 {w : World} {f0 : Int} {f1 : List Int} {f2 : List ArcStep} {f3 : List PairStep} {f4 : List Int} {v1 : Value} {b1 : List Nat} {v2 : Value} {b2 : List Nat} {v3 : Value} {b3 : List Nat} {v4 : Value} {b4 : List Nat} (h0 : I64 f0) (h1 : Rd (Sl 1 RInt) w v1 f1 b1) (h2 : Rd (Sl 3 RArcStep) w v2 f2 b2) (h3 : Rd (Sl 3 RPairStep) w v3 f3 b3) (h4 : Rd (Sl 1 RInt) w v4 f4 b4) : Rd (Agg 5 RVerdict) w (.agg #[.int .i64 f0, v1, v2, v3, v4]) (Verdict.mk f0 f1 f2 f3 f4) (b1 ++ b2 ++ b3 ++ b4) :=
  ⟨RVerdict.mk' (x := ⟨f0, f1, f2, f3, f4⟩) h0 h1.r h2.r h3.r h4.r, (((h1.m).append h2.m).append h3.m).append h4.m⟩
theorem RVerdict.blk {w : World} {T : TypeId} {b : Nat} {f0 : Int} {f1 : List Int} {f2 : List ArcStep} {f3 : List PairStep} {f4 : List Int} {v1 : Value} {b1 : List Nat} {v2 : Value} {b2 : List Nat} {v3 : Value} {b3 : List Nat} {v4 : Value} {b4 : List Nat} (K : Blk w b #[.int .i64 f0, v1, v2, v3, v4] T) (h0 : I64 f0) (h1 : Rd (Sl 1 RInt) w v1 f1 b1) (h2 : Rd (Sl 3 RArcStep) w v2 f2 b2) (h3 : Rd (Sl 3 RPairStep) w v3 f3 b3) (h4 : Rd (Sl 1 RInt) w v4 f4 b4) : Rd (Pt 5 RVerdict) w (.pointer (some ⟨b, 0, none⟩)) (Verdict.mk f0 f1 f2 f3 f4) (b :: (b1 ++ b2 ++ b3 ++ b4)) := by
  have hm : InMem (b1 ++ b2 ++ b3 ++ b4) w := (((h1.m).append h2.m).append h3.m).append h4.m
  refine ⟨⟨b, 0, _, rfl, rfl, _, _, _, _, _, _, _, _, (K.cell (0 + 0)).trans rfl, h0, (K.cell (0 + 1)).trans rfl, h1.r, (K.cell (0 + 2)).trans rfl, h2.r, (K.cell (0 + 3)).trans rfl, h3.r, (K.cell (0 + 4)).trans rfl, h4.r, rfl⟩, fun c hc => ?_⟩
  rcases List.mem_cons.1 hc with rfl | hc
  · exact K.lt
  · exact hm c hc
instance : FrC 2 REquation := ⟨REquation.fr, fun w f x bs h => by
  obtain ⟨v0, b0, h0, k0, h1, k1, hbs⟩ := h
  exact (tots (tots tot0 h0 k0.one) h1 rfl)⟩
theorem REquation.f0 {w : World} {y : Equation} : ∀ f bi, REquation w f y bi → ∃ bj, (RSl 1 RInt) w (fun j => f (0 + j)) y.left bj ∧ ∀ c ∈ bj, c ∈ bi := fun f bi h => by
  obtain ⟨v0, b0, h0, k0, h1, k1, hbs⟩ := h
  exact ⟨b0, ⟨v0, by simpa using h0, k0⟩, fun c hc => by rw [hbs]; simp [hc]⟩
theorem REquation.f1 {w : World} {y : Equation} : ∀ f bi, REquation w f y bi → ∃ bj, RInt w (fun j => f (1 + j)) y.right bj ∧ ∀ c ∈ bj, c ∈ bi := fun f bi h => by
  obtain ⟨v0, b0, h0, k0, h1, k1, hbs⟩ := h
  exact ⟨[], ⟨by simpa using h1, k1, rfl⟩, fun c hc => nomatch hc⟩
theorem REquation.rd {w : World} {v : Value} {x : Equation} {bs : List Nat} (h : Rd (Agg 2 REquation) w v x bs) : ∃ v0 : Value, ∃ b0 : List Nat, v = .agg #[v0, .int .i64 x.right] ∧ Rd (Sl 1 RInt) w v0 x.left b0 ∧ I64 x.right ∧ bs = b0 := by
  obtain ⟨v0, b0, e, k0, k1, hbs⟩ := REquation.open h.r
  exact ⟨v0, b0, e, ⟨k0, fun c hc => h.m c (by rw [hbs]; simp [hc])⟩, k1, hbs⟩
theorem REquation.mk2 {w : World} {f0 : List Int} {f1 : Int} {v0 : Value} {b0 : List Nat} (h0 : Rd (Sl 1 RInt) w v0 f0 b0) (h1 : I64 f1) : Rd (Agg 2 REquation) w (.agg #[v0, .int .i64 f1]) (Equation.mk f0 f1) (b0) :=
  ⟨REquation.mk' (x := ⟨f0, f1⟩) h0.r h1, h0.m⟩
theorem REquation.blk {w : World} {T : TypeId} {b : Nat} {f0 : List Int} {f1 : Int} {v0 : Value} {b0 : List Nat} (K : Blk w b #[v0, .int .i64 f1] T) (h0 : Rd (Sl 1 RInt) w v0 f0 b0) (h1 : I64 f1) : Rd (Pt 2 REquation) w (.pointer (some ⟨b, 0, none⟩)) (Equation.mk f0 f1) (b :: (b0)) := by
  have hm : InMem (b0) w := h0.m
  refine ⟨⟨b, 0, _, rfl, rfl, _, _, (K.cell (0 + 0)).trans rfl, h0.r, (K.cell (0 + 1)).trans rfl, h1, rfl⟩, fun c hc => ?_⟩
  rcases List.mem_cons.1 hc with rfl | hc
  · exact K.lt
  · exact hm c hc
instance : FrC 4 RLine := ⟨RLine.fr, fun w f x bs h => by
  obtain ⟨h0, k0, h1, k1, h2, k2, h3, k3, hbs⟩ := h
  exact (tots (tots (tots (tots tot0 h0 rfl) h1 rfl) h2 rfl) h3 rfl)⟩
theorem RLine.f0 {w : World} {y : Line} : ∀ f bi, RLine w f y bi → ∃ bj, RInt w (fun j => f (0 + j)) y.kind bj ∧ ∀ c ∈ bj, c ∈ bi := fun f bi h => by
  obtain ⟨h0, k0, h1, k1, h2, k2, h3, k3, hbs⟩ := h
  exact ⟨[], ⟨by simpa using h0, k0, rfl⟩, fun c hc => nomatch hc⟩
theorem RLine.f1 {w : World} {y : Line} : ∀ f bi, RLine w f y bi → ∃ bj, RInt w (fun j => f (1 + j)) y.var bj ∧ ∀ c ∈ bj, c ∈ bi := fun f bi h => by
  obtain ⟨h0, k0, h1, k1, h2, k2, h3, k3, hbs⟩ := h
  exact ⟨[], ⟨by simpa using h1, k1, rfl⟩, fun c hc => nomatch hc⟩
theorem RLine.f2 {w : World} {y : Line} : ∀ f bi, RLine w f y bi → ∃ bj, RInt w (fun j => f (2 + j)) y.value bj ∧ ∀ c ∈ bj, c ∈ bi := fun f bi h => by
  obtain ⟨h0, k0, h1, k1, h2, k2, h3, k3, hbs⟩ := h
  exact ⟨[], ⟨by simpa using h2, k2, rfl⟩, fun c hc => nomatch hc⟩
theorem RLine.f3 {w : World} {y : Line} : ∀ f bi, RLine w f y bi → ∃ bj, RInt w (fun j => f (3 + j)) y.con bj ∧ ∀ c ∈ bj, c ∈ bi := fun f bi h => by
  obtain ⟨h0, k0, h1, k1, h2, k2, h3, k3, hbs⟩ := h
  exact ⟨[], ⟨by simpa using h3, k3, rfl⟩, fun c hc => nomatch hc⟩
theorem RLine.rd {w : World} {v : Value} {x : Line} {bs : List Nat} (h : Rd (Agg 4 RLine) w v x bs) : v = .agg #[.int .i64 x.kind, .int .i64 x.var, .int .i64 x.value, .int .i64 x.con] ∧ I64 x.kind ∧ I64 x.var ∧ I64 x.value ∧ I64 x.con ∧ bs = [] := by
  obtain ⟨e, k0, k1, k2, k3, hbs⟩ := RLine.open h.r
  exact ⟨e, k0, k1, k2, k3, hbs⟩
theorem RLine.mk2 {w : World} {f0 : Int} {f1 : Int} {f2 : Int} {f3 : Int}  (h0 : I64 f0) (h1 : I64 f1) (h2 : I64 f2) (h3 : I64 f3) : Rd (Agg 4 RLine) w (.agg #[.int .i64 f0, .int .i64 f1, .int .i64 f2, .int .i64 f3]) (Line.mk f0 f1 f2 f3) ([]) :=
  ⟨RLine.mk' (x := ⟨f0, f1, f2, f3⟩) h0 h1 h2 h3, InMem.nil w⟩
theorem RLine.blk {w : World} {T : TypeId} {b : Nat} {f0 : Int} {f1 : Int} {f2 : Int} {f3 : Int}  (K : Blk w b #[.int .i64 f0, .int .i64 f1, .int .i64 f2, .int .i64 f3] T) (h0 : I64 f0) (h1 : I64 f1) (h2 : I64 f2) (h3 : I64 f3) : Rd (Pt 4 RLine) w (.pointer (some ⟨b, 0, none⟩)) (Line.mk f0 f1 f2 f3) (b :: ([])) := by
  have hm : InMem ([]) w := InMem.nil w
  refine ⟨⟨b, 0, _, rfl, rfl, (K.cell (0 + 0)).trans rfl, h0, (K.cell (0 + 1)).trans rfl, h1, (K.cell (0 + 2)).trans rfl, h2, (K.cell (0 + 3)).trans rfl, h3, rfl⟩, fun c hc => ?_⟩
  rcases List.mem_cons.1 hc with rfl | hc
  · exact K.lt
  · exact hm c hc
instance : FrC 2 RLiteral := ⟨RLiteral.fr, fun w f x bs h => by
  obtain ⟨h0, k0, h1, k1, hbs⟩ := h
  exact (tots (tots tot0 h0 rfl) h1 rfl)⟩
theorem RLiteral.f0 {w : World} {y : Literal} : ∀ f bi, RLiteral w f y bi → ∃ bj, RInt w (fun j => f (0 + j)) y.var bj ∧ ∀ c ∈ bj, c ∈ bi := fun f bi h => by
  obtain ⟨h0, k0, h1, k1, hbs⟩ := h
  exact ⟨[], ⟨by simpa using h0, k0, rfl⟩, fun c hc => nomatch hc⟩
theorem RLiteral.f1 {w : World} {y : Literal} : ∀ f bi, RLiteral w f y bi → ∃ bj, RInt w (fun j => f (1 + j)) y.value bj ∧ ∀ c ∈ bj, c ∈ bi := fun f bi h => by
  obtain ⟨h0, k0, h1, k1, hbs⟩ := h
  exact ⟨[], ⟨by simpa using h1, k1, rfl⟩, fun c hc => nomatch hc⟩
theorem RLiteral.rd {w : World} {v : Value} {x : Literal} {bs : List Nat} (h : Rd (Agg 2 RLiteral) w v x bs) : v = .agg #[.int .i64 x.var, .int .i64 x.value] ∧ I64 x.var ∧ I64 x.value ∧ bs = [] := by
  obtain ⟨e, k0, k1, hbs⟩ := RLiteral.open h.r
  exact ⟨e, k0, k1, hbs⟩
theorem RLiteral.mk2 {w : World} {f0 : Int} {f1 : Int}  (h0 : I64 f0) (h1 : I64 f1) : Rd (Agg 2 RLiteral) w (.agg #[.int .i64 f0, .int .i64 f1]) (Literal.mk f0 f1) ([]) :=
  ⟨RLiteral.mk' (x := ⟨f0, f1⟩) h0 h1, InMem.nil w⟩
theorem RLiteral.blk {w : World} {T : TypeId} {b : Nat} {f0 : Int} {f1 : Int}  (K : Blk w b #[.int .i64 f0, .int .i64 f1] T) (h0 : I64 f0) (h1 : I64 f1) : Rd (Pt 2 RLiteral) w (.pointer (some ⟨b, 0, none⟩)) (Literal.mk f0 f1) (b :: ([])) := by
  have hm : InMem ([]) w := InMem.nil w
  refine ⟨⟨b, 0, _, rfl, rfl, (K.cell (0 + 0)).trans rfl, h0, (K.cell (0 + 1)).trans rfl, h1, rfl⟩, fun c hc => ?_⟩
  rcases List.mem_cons.1 hc with rfl | hc
  · exact K.lt
  · exact hm c hc
instance : FrC 1 RGadgets := ⟨RGadgets.fr, fun w f x bs h => by
  obtain ⟨v0, b0, h0, k0, hbs⟩ := h
  exact (tots tot0 h0 k0.one)⟩
theorem RGadgets.f0 {w : World} {y : Gadgets} : ∀ f bi, RGadgets w f y bi → ∃ bj, (RSl 3 RFormula) w (fun j => f (0 + j)) y.formulas bj ∧ ∀ c ∈ bj, c ∈ bi := fun f bi h => by
  obtain ⟨v0, b0, h0, k0, hbs⟩ := h
  exact ⟨b0, ⟨v0, by simpa using h0, k0⟩, fun c hc => by rw [hbs]; simp [hc]⟩
theorem RGadgets.rd {w : World} {v : Value} {x : Gadgets} {bs : List Nat} (h : Rd (Agg 1 RGadgets) w v x bs) : ∃ v0 : Value, ∃ b0 : List Nat, v = .agg #[v0] ∧ Rd (Sl 3 RFormula) w v0 x.formulas b0 ∧ bs = b0 := by
  obtain ⟨v0, b0, e, k0, hbs⟩ := RGadgets.open h.r
  exact ⟨v0, b0, e, ⟨k0, fun c hc => h.m c (by rw [hbs]; simp [hc])⟩, hbs⟩
theorem RGadgets.mk2 {w : World} {f0 : List Formula} {v0 : Value} {b0 : List Nat} (h0 : Rd (Sl 3 RFormula) w v0 f0 b0) : Rd (Agg 1 RGadgets) w (.agg #[v0]) (Gadgets.mk f0) (b0) :=
  ⟨RGadgets.mk' (x := ⟨f0⟩) h0.r, h0.m⟩
theorem RGadgets.blk {w : World} {T : TypeId} {b : Nat} {f0 : List Formula} {v0 : Value} {b0 : List Nat} (K : Blk w b #[v0] T) (h0 : Rd (Sl 3 RFormula) w v0 f0 b0) : Rd (Pt 1 RGadgets) w (.pointer (some ⟨b, 0, none⟩)) (Gadgets.mk f0) (b :: (b0)) := by
  have hm : InMem (b0) w := h0.m
  refine ⟨⟨b, 0, _, rfl, rfl, _, _, (K.cell (0 + 0)).trans rfl, h0.r, rfl⟩, fun c hc => ?_⟩
  rcases List.mem_cons.1 hc with rfl | hc
  · exact K.lt
  · exact hm c hc
instance : FrC 3 RDeed := ⟨RDeed.fr, fun w f x bs h => by
  obtain ⟨h0, k0, h1, k1, h2, k2, hbs⟩ := h
  exact (tots (tots (tots tot0 h0 rfl) h1 rfl) h2 rfl)⟩
theorem RDeed.f0 {w : World} {y : Deed} : ∀ f bi, RDeed w f y bi → ∃ bj, RInt w (fun j => f (0 + j)) y.kind bj ∧ ∀ c ∈ bj, c ∈ bi := fun f bi h => by
  obtain ⟨h0, k0, h1, k1, h2, k2, hbs⟩ := h
  exact ⟨[], ⟨by simpa using h0, k0, rfl⟩, fun c hc => nomatch hc⟩
theorem RDeed.f1 {w : World} {y : Deed} : ∀ f bi, RDeed w f y bi → ∃ bj, RInt w (fun j => f (1 + j)) y.a bj ∧ ∀ c ∈ bj, c ∈ bi := fun f bi h => by
  obtain ⟨h0, k0, h1, k1, h2, k2, hbs⟩ := h
  exact ⟨[], ⟨by simpa using h1, k1, rfl⟩, fun c hc => nomatch hc⟩
theorem RDeed.f2 {w : World} {y : Deed} : ∀ f bi, RDeed w f y bi → ∃ bj, RInt w (fun j => f (2 + j)) y.b bj ∧ ∀ c ∈ bj, c ∈ bi := fun f bi h => by
  obtain ⟨h0, k0, h1, k1, h2, k2, hbs⟩ := h
  exact ⟨[], ⟨by simpa using h2, k2, rfl⟩, fun c hc => nomatch hc⟩
theorem RDeed.rd {w : World} {v : Value} {x : Deed} {bs : List Nat} (h : Rd (Agg 3 RDeed) w v x bs) : v = .agg #[.int .i64 x.kind, .int .i64 x.a, .int .i64 x.b] ∧ I64 x.kind ∧ I64 x.a ∧ I64 x.b ∧ bs = [] := by
  obtain ⟨e, k0, k1, k2, hbs⟩ := RDeed.open h.r
  exact ⟨e, k0, k1, k2, hbs⟩
theorem RDeed.mk2 {w : World} {f0 : Int} {f1 : Int} {f2 : Int}  (h0 : I64 f0) (h1 : I64 f1) (h2 : I64 f2) : Rd (Agg 3 RDeed) w (.agg #[.int .i64 f0, .int .i64 f1, .int .i64 f2]) (Deed.mk f0 f1 f2) ([]) :=
  ⟨RDeed.mk' (x := ⟨f0, f1, f2⟩) h0 h1 h2, InMem.nil w⟩
theorem RDeed.blk {w : World} {T : TypeId} {b : Nat} {f0 : Int} {f1 : Int} {f2 : Int}  (K : Blk w b #[.int .i64 f0, .int .i64 f1, .int .i64 f2] T) (h0 : I64 f0) (h1 : I64 f1) (h2 : I64 f2) : Rd (Pt 3 RDeed) w (.pointer (some ⟨b, 0, none⟩)) (Deed.mk f0 f1 f2) (b :: ([])) := by
  have hm : InMem ([]) w := InMem.nil w
  refine ⟨⟨b, 0, _, rfl, rfl, (K.cell (0 + 0)).trans rfl, h0, (K.cell (0 + 1)).trans rfl, h1, (K.cell (0 + 2)).trans rfl, h2, rfl⟩, fun c hc => ?_⟩
  rcases List.mem_cons.1 hc with rfl | hc
  · exact K.lt
  · exact hm c hc
theorem cell1I {w : World} {T : TypeId} {b : Nat} {x : Int} (K : Blk w b #[.int .i64 x] T) (h : I64 x) : Rd (Pt 1 RInt) w (.pointer (some ⟨b, 0, none⟩)) x [b] :=
  ⟨⟨b, 0, [], rfl, rfl, (K.cell (0 + 0)).trans rfl, h, rfl⟩, fun c hc => by rw [List.mem_singleton] at hc; subst hc; exact K.lt⟩
theorem cell1S {α : Type} {sz : Nat} {R : ER α} {w : World} {T : TypeId} {b : Nat} {v : Value} {x : List α} {bs : List Nat} (K : Blk w b #[v] T) (h : Rd (Sl sz R) w v x bs) : Rd (Pt 1 (RSl sz R)) w (.pointer (some ⟨b, 0, none⟩)) x (b :: bs) :=
  ⟨⟨b, 0, _, rfl, rfl, v, (K.cell (0 + 0)).trans rfl, h.r⟩, fun c hc => by
    rcases List.mem_cons.1 hc with rfl | hc
    · exact K.lt
    · exact h.m c hc⟩
end Go.Proofs.YtmgdjaiaekhkgaaGreat
