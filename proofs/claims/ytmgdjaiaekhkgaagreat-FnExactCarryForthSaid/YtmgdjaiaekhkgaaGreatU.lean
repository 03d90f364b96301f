/-
  The structs, as the steps of a walk ask for them. Printed by gen_u.py. No program.
-/
import Derived.Test.YtmgdjaiaekhkgaaGreatH
import Derived.Test.YtmgdjaiaekhkgaaGreatT
namespace Go.Proofs.YtmgdjaiaekhkgaaGreat
set_option linter.unusedVariables false
set_option linter.unusedSimpArgs false
open Go.RowKit
theorem tots {n : Nat} {f : Nat → Option Value} (h : ∀ j, j < n → ∃ v : Value, f j = some v ∧ v.oneCell' = true) {u : Value} (e : f n = some u) (hu : u.oneCell' = true) : ∀ j, j < n + 1 → ∃ v : Value, f j = some v ∧ v.oneCell' = true := fun j hj => by
  by_cases hjn : j = n
  · subst hjn; exact ⟨u, e, hu⟩
  · exact h j (by omega)
theorem tot0 {f : Nat → Option Value} : ∀ j, j < 0 → ∃ v : Value, f j = some v ∧ v.oneCell' = true := fun j hj => by omega
theorem Sl.one {α : Type} {sz : Nat} {R : ER α} {w : World} {v : Value} {l : List α} {bs : List Nat} (h : Sl sz R w v l bs) : v.oneCell' = true := by obtain ⟨a, c, rfl⟩ := h.val; rfl

instance : FrC 2 qE := ⟨qE.fr, fun w f x bs h => by
  obtain ⟨v1, b1, h0, k0, h1, k1, hbs⟩ := h
  exact (tots (tots tot0 h0 rfl) h1 k1.one)⟩
theorem qE.f0 {w : World} {y : Rel} : ∀ f bi, qE w f y bi → ∃ bj, xK w (fun j => f (0 + j)) y.arity bj ∧ ∀ c ∈ bj, c ∈ bi := fun f bi h => by
  obtain ⟨v1, b1, h0, k0, h1, k1, hbs⟩ := h
  exact ⟨[], ⟨by simpa using h0, k0, rfl⟩, fun c hc => nomatch hc⟩
theorem qE.f1 {w : World} {y : Rel} : ∀ f bi, qE w f y bi → ∃ bj, (RSl 1 zA) w (fun j => f (1 + j)) y.tuples bj ∧ ∀ c ∈ bj, c ∈ bi := fun f bi h => by
  obtain ⟨v1, b1, h0, k0, h1, k1, hbs⟩ := h
  exact ⟨b1, ⟨v1, by simpa using h1, k1⟩, fun c hc => by rw [hbs]; simp [hc]⟩
theorem qE.rd {w : World} {v : Value} {x : Rel} {bs : List Nat} (h : Rd (qH 2 qE) w v x bs) : ∃ v1 : Value, ∃ b1 : List Nat, v = .agg #[.int .i64 x.arity, v1] ∧ xY x.arity ∧ Rd (Sl 1 zA) w v1 x.tuples b1 ∧ bs = b1 := by
  obtain ⟨v1, b1, e, k0, k1, hbs⟩ := qE.open h.r
  exact ⟨v1, b1, e, k0, ⟨k1, fun c hc => h.m c (by rw [hbs]; simp [hc])⟩, hbs⟩
theorem qE.mk2 {w : World} {f0 : Int} {f1 : List (List Int)} {v1 : Value} {b1 : List Nat} (h0 : xY f0) (h1 : Rd (Sl 1 zA) w v1 f1 b1) : Rd (qH 2 qE) w (.agg #[.int .i64 f0, v1]) (Rel.mk f0 f1) (b1) :=
  ⟨qE.mk' (x := ⟨f0, f1⟩) h0 h1.r, h1.m⟩
theorem qE.blk {w : World} {T : TypeId} {b : Nat} {f0 : Int} {f1 : List (List Int)} {v1 : Value} {b1 : List Nat} (K : vS w b #[.int .i64 f0, v1] T) (h0 : xY f0) (h1 : Rd (Sl 1 zA) w v1 f1 b1) : Rd (Pt 2 qE) w (.pointer (some ⟨b, 0, none⟩)) (Rel.mk f0 f1) (b :: (b1)) := by
  have hm : xX (b1) w := h1.m
  refine ⟨⟨b, 0, _, rfl, rfl, _, _, (K.cell (0 + 0)).trans rfl, h0, (K.cell (0 + 1)).trans rfl, h1.r, rfl⟩, fun c hc => ?_⟩
  rcases List.mem_cons.1 hc with rfl | hc
  · exact K.lt
  · exact hm c hc
instance : FrC 2 xJ := ⟨xJ.fr, fun w f x bs h => by
  obtain ⟨v1, b1, h0, k0, h1, k1, hbs⟩ := h
  exact (tots (tots tot0 h0 rfl) h1 k1.one)⟩
theorem xJ.f0 {w : World} {y : Template} : ∀ f bi, xJ w f y bi → ∃ bj, xK w (fun j => f (0 + j)) y.size bj ∧ ∀ c ∈ bj, c ∈ bi := fun f bi h => by
  obtain ⟨v1, b1, h0, k0, h1, k1, hbs⟩ := h
  exact ⟨[], ⟨by simpa using h0, k0, rfl⟩, fun c hc => nomatch hc⟩
theorem xJ.f1 {w : World} {y : Template} : ∀ f bi, xJ w f y bi → ∃ bj, (RSl 2 qE) w (fun j => f (1 + j)) y.rels bj ∧ ∀ c ∈ bj, c ∈ bi := fun f bi h => by
  obtain ⟨v1, b1, h0, k0, h1, k1, hbs⟩ := h
  exact ⟨b1, ⟨v1, by simpa using h1, k1⟩, fun c hc => by rw [hbs]; simp [hc]⟩
theorem xJ.rd {w : World} {v : Value} {x : Template} {bs : List Nat} (h : Rd (qH 2 xJ) w v x bs) : ∃ v1 : Value, ∃ b1 : List Nat, v = .agg #[.int .i64 x.size, v1] ∧ xY x.size ∧ Rd (Sl 2 qE) w v1 x.rels b1 ∧ bs = b1 := by
  obtain ⟨v1, b1, e, k0, k1, hbs⟩ := xJ.open h.r
  exact ⟨v1, b1, e, k0, ⟨k1, fun c hc => h.m c (by rw [hbs]; simp [hc])⟩, hbs⟩
theorem xJ.mk2 {w : World} {f0 : Int} {f1 : List Rel} {v1 : Value} {b1 : List Nat} (h0 : xY f0) (h1 : Rd (Sl 2 qE) w v1 f1 b1) : Rd (qH 2 xJ) w (.agg #[.int .i64 f0, v1]) (Template.mk f0 f1) (b1) :=
  ⟨xJ.mk' (x := ⟨f0, f1⟩) h0 h1.r, h1.m⟩
theorem xJ.blk {w : World} {T : TypeId} {b : Nat} {f0 : Int} {f1 : List Rel} {v1 : Value} {b1 : List Nat} (K : vS w b #[.int .i64 f0, v1] T) (h0 : xY f0) (h1 : Rd (Sl 2 qE) w v1 f1 b1) : Rd (Pt 2 xJ) w (.pointer (some ⟨b, 0, none⟩)) (Template.mk f0 f1) (b :: (b1)) := by
  have hm : xX (b1) w := h1.m
  refine ⟨⟨b, 0, _, rfl, rfl, _, _, (K.cell (0 + 0)).trans rfl, h0, (K.cell (0 + 1)).trans rfl, h1.r, rfl⟩, fun c hc => ?_⟩
  rcases List.mem_cons.1 hc with rfl | hc
  · exact K.lt
  · exact hm c hc
instance : FrC 2 ROp := ⟨ROp.fr, fun w f x bs h => by
  obtain ⟨v1, b1, h0, k0, h1, k1, hbs⟩ := h
  exact (tots (tots tot0 h0 rfl) h1 k1.one)⟩
theorem ROp.f0 {w : World} {y : Op} : ∀ f bi, ROp w f y bi → ∃ bj, xK w (fun j => f (0 + j)) y.arity bj ∧ ∀ c ∈ bj, c ∈ bi := fun f bi h => by
  obtain ⟨v1, b1, h0, k0, h1, k1, hbs⟩ := h
  exact ⟨[], ⟨by simpa using h0, k0, rfl⟩, fun c hc => nomatch hc⟩
theorem ROp.f1 {w : World} {y : Op} : ∀ f bi, ROp w f y bi → ∃ bj, (RSl 1 xK) w (fun j => f (1 + j)) y.table bj ∧ ∀ c ∈ bj, c ∈ bi := fun f bi h => by
  obtain ⟨v1, b1, h0, k0, h1, k1, hbs⟩ := h
  exact ⟨b1, ⟨v1, by simpa using h1, k1⟩, fun c hc => by rw [hbs]; simp [hc]⟩
theorem ROp.rd {w : World} {v : Value} {x : Op} {bs : List Nat} (h : Rd (qH 2 ROp) w v x bs) : ∃ v1 : Value, ∃ b1 : List Nat, v = .agg #[.int .i64 x.arity, v1] ∧ xY x.arity ∧ Rd (Sl 1 xK) w v1 x.table b1 ∧ bs = b1 := by
  obtain ⟨v1, b1, e, k0, k1, hbs⟩ := ROp.open h.r
  exact ⟨v1, b1, e, k0, ⟨k1, fun c hc => h.m c (by rw [hbs]; simp [hc])⟩, hbs⟩
theorem ROp.mk2 {w : World} {f0 : Int} {f1 : List Int} {v1 : Value} {b1 : List Nat} (h0 : xY f0) (h1 : Rd (Sl 1 xK) w v1 f1 b1) : Rd (qH 2 ROp) w (.agg #[.int .i64 f0, v1]) (Op.mk f0 f1) (b1) :=
  ⟨ROp.mk' (x := ⟨f0, f1⟩) h0 h1.r, h1.m⟩
theorem ROp.blk {w : World} {T : TypeId} {b : Nat} {f0 : Int} {f1 : List Int} {v1 : Value} {b1 : List Nat} (K : vS w b #[.int .i64 f0, v1] T) (h0 : xY f0) (h1 : Rd (Sl 1 xK) w v1 f1 b1) : Rd (Pt 2 ROp) w (.pointer (some ⟨b, 0, none⟩)) (Op.mk f0 f1) (b :: (b1)) := by
  have hm : xX (b1) w := h1.m
  refine ⟨⟨b, 0, _, rfl, rfl, _, _, (K.cell (0 + 0)).trans rfl, h0, (K.cell (0 + 1)).trans rfl, h1.r, rfl⟩, fun c hc => ?_⟩
  rcases List.mem_cons.1 hc with rfl | hc
  · exact K.lt
  · exact hm c hc
instance : FrC 2 xU := ⟨xU.fr, fun w f x bs h => by
  obtain ⟨v1, b1, h0, k0, h1, k1, hbs⟩ := h
  exact (tots (tots tot0 h0 rfl) h1 k1.one)⟩
theorem xU.f0 {w : World} {y : Atom} : ∀ f bi, xU w f y bi → ∃ bj, xK w (fun j => f (0 + j)) y.rel bj ∧ ∀ c ∈ bj, c ∈ bi := fun f bi h => by
  obtain ⟨v1, b1, h0, k0, h1, k1, hbs⟩ := h
  exact ⟨[], ⟨by simpa using h0, k0, rfl⟩, fun c hc => nomatch hc⟩
theorem xU.f1 {w : World} {y : Atom} : ∀ f bi, xU w f y bi → ∃ bj, (RSl 1 xK) w (fun j => f (1 + j)) y.args bj ∧ ∀ c ∈ bj, c ∈ bi := fun f bi h => by
  obtain ⟨v1, b1, h0, k0, h1, k1, hbs⟩ := h
  exact ⟨b1, ⟨v1, by simpa using h1, k1⟩, fun c hc => by rw [hbs]; simp [hc]⟩
theorem xU.rd {w : World} {v : Value} {x : Atom} {bs : List Nat} (h : Rd (qH 2 xU) w v x bs) : ∃ v1 : Value, ∃ b1 : List Nat, v = .agg #[.int .i64 x.rel, v1] ∧ xY x.rel ∧ Rd (Sl 1 xK) w v1 x.args b1 ∧ bs = b1 := by
  obtain ⟨v1, b1, e, k0, k1, hbs⟩ := xU.open h.r
  exact ⟨v1, b1, e, k0, ⟨k1, fun c hc => h.m c (by rw [hbs]; simp [hc])⟩, hbs⟩
theorem xU.mk2 {w : World} {f0 : Int} {f1 : List Int} {v1 : Value} {b1 : List Nat} (h0 : xY f0) (h1 : Rd (Sl 1 xK) w v1 f1 b1) : Rd (qH 2 xU) w (.agg #[.int .i64 f0, v1]) (Atom.mk f0 f1) (b1) :=
  ⟨xU.mk' (x := ⟨f0, f1⟩) h0 h1.r, h1.m⟩
theorem xU.blk {w : World} {T : TypeId} {b : Nat} {f0 : Int} {f1 : List Int} {v1 : Value} {b1 : List Nat} (K : vS w b #[.int .i64 f0, v1] T) (h0 : xY f0) (h1 : Rd (Sl 1 xK) w v1 f1 b1) : Rd (Pt 2 xU) w (.pointer (some ⟨b, 0, none⟩)) (Atom.mk f0 f1) (b :: (b1)) := by
  have hm : xX (b1) w := h1.m
  refine ⟨⟨b, 0, _, rfl, rfl, _, _, (K.cell (0 + 0)).trans rfl, h0, (K.cell (0 + 1)).trans rfl, h1.r, rfl⟩, fun c hc => ?_⟩
  rcases List.mem_cons.1 hc with rfl | hc
  · exact K.lt
  · exact hm c hc
instance : FrC 3 xL := ⟨xL.fr, fun w f x bs h => by
  obtain ⟨v2, b2, h0, k0, h1, k1, h2, k2, hbs⟩ := h
  exact (tots (tots (tots tot0 h0 rfl) h1 rfl) h2 k2.one)⟩
theorem xL.f0 {w : World} {y : Formula} : ∀ f bi, xL w f y bi → ∃ bj, xK w (fun j => f (0 + j)) y.free bj ∧ ∀ c ∈ bj, c ∈ bi := fun f bi h => by
  obtain ⟨v2, b2, h0, k0, h1, k1, h2, k2, hbs⟩ := h
  exact ⟨[], ⟨by simpa using h0, k0, rfl⟩, fun c hc => nomatch hc⟩
theorem xL.f1 {w : World} {y : Formula} : ∀ f bi, xL w f y bi → ∃ bj, xK w (fun j => f (1 + j)) y.vars bj ∧ ∀ c ∈ bj, c ∈ bi := fun f bi h => by
  obtain ⟨v2, b2, h0, k0, h1, k1, h2, k2, hbs⟩ := h
  exact ⟨[], ⟨by simpa using h1, k1, rfl⟩, fun c hc => nomatch hc⟩
theorem xL.f2 {w : World} {y : Formula} : ∀ f bi, xL w f y bi → ∃ bj, (RSl 2 xU) w (fun j => f (2 + j)) y.atoms bj ∧ ∀ c ∈ bj, c ∈ bi := fun f bi h => by
  obtain ⟨v2, b2, h0, k0, h1, k1, h2, k2, hbs⟩ := h
  exact ⟨b2, ⟨v2, by simpa using h2, k2⟩, fun c hc => by rw [hbs]; simp [hc]⟩
theorem xL.rd {w : World} {v : Value} {x : Formula} {bs : List Nat} (h : Rd (qH 3 xL) w v x bs) : ∃ v2 : Value, ∃ b2 : List Nat, v = .agg #[.int .i64 x.free, .int .i64 x.vars, v2] ∧ xY x.free ∧ xY x.vars ∧ Rd (Sl 2 xU) w v2 x.atoms b2 ∧ bs = b2 := by
  obtain ⟨v2, b2, e, k0, k1, k2, hbs⟩ := xL.open h.r
  exact ⟨v2, b2, e, k0, k1, ⟨k2, fun c hc => h.m c (by rw [hbs]; simp [hc])⟩, hbs⟩
theorem xL.mk2 {w : World} {f0 : Int} {f1 : Int} {f2 : List Atom} {v2 : Value} {b2 : List Nat} (h0 : xY f0) (h1 : xY f1) (h2 : Rd (Sl 2 xU) w v2 f2 b2) : Rd (qH 3 xL) w (.agg #[.int .i64 f0, .int .i64 f1, v2]) (Formula.mk f0 f1 f2) (b2) :=
  ⟨xL.mk' (x := ⟨f0, f1, f2⟩) h0 h1 h2.r, h2.m⟩
theorem xL.blk {w : World} {T : TypeId} {b : Nat} {f0 : Int} {f1 : Int} {f2 : List Atom} {v2 : Value} {b2 : List Nat} (K : vS w b #[.int .i64 f0, .int .i64 f1, v2] T) (h0 : xY f0) (h1 : xY f1) (h2 : Rd (Sl 2 xU) w v2 f2 b2) : Rd (Pt 3 xL) w (.pointer (some ⟨b, 0, none⟩)) (Formula.mk f0 f1 f2) (b :: (b2)) := by
  have hm : xX (b2) w := h2.m
  refine ⟨⟨b, 0, _, rfl, rfl, _, _, (K.cell (0 + 0)).trans rfl, h0, (K.cell (0 + 1)).trans rfl, h1, (K.cell (0 + 2)).trans rfl, h2.r, rfl⟩, fun c hc => ?_⟩
  rcases List.mem_cons.1 hc with rfl | hc
  · exact K.lt
  · exact hm c hc
instance : FrC 2 oZ := ⟨oZ.fr, fun w f x bs h => by
  obtain ⟨v1, b1, h0, k0, h1, k1, hbs⟩ := h
  exact (tots (tots tot0 h0 rfl) h1 k1.one)⟩
theorem oZ.f0 {w : World} {y : Con} : ∀ f bi, oZ w f y bi → ∃ bj, xK w (fun j => f (0 + j)) y.rel bj ∧ ∀ c ∈ bj, c ∈ bi := fun f bi h => by
  obtain ⟨v1, b1, h0, k0, h1, k1, hbs⟩ := h
  exact ⟨[], ⟨by simpa using h0, k0, rfl⟩, fun c hc => nomatch hc⟩
theorem oZ.f1 {w : World} {y : Con} : ∀ f bi, oZ w f y bi → ∃ bj, (RSl 1 xK) w (fun j => f (1 + j)) y.scope bj ∧ ∀ c ∈ bj, c ∈ bi := fun f bi h => by
  obtain ⟨v1, b1, h0, k0, h1, k1, hbs⟩ := h
  exact ⟨b1, ⟨v1, by simpa using h1, k1⟩, fun c hc => by rw [hbs]; simp [hc]⟩
theorem oZ.rd {w : World} {v : Value} {x : Con} {bs : List Nat} (h : Rd (qH 2 oZ) w v x bs) : ∃ v1 : Value, ∃ b1 : List Nat, v = .agg #[.int .i64 x.rel, v1] ∧ xY x.rel ∧ Rd (Sl 1 xK) w v1 x.scope b1 ∧ bs = b1 := by
  obtain ⟨v1, b1, e, k0, k1, hbs⟩ := oZ.open h.r
  exact ⟨v1, b1, e, k0, ⟨k1, fun c hc => h.m c (by rw [hbs]; simp [hc])⟩, hbs⟩
theorem oZ.mk2 {w : World} {f0 : Int} {f1 : List Int} {v1 : Value} {b1 : List Nat} (h0 : xY f0) (h1 : Rd (Sl 1 xK) w v1 f1 b1) : Rd (qH 2 oZ) w (.agg #[.int .i64 f0, v1]) (Con.mk f0 f1) (b1) :=
  ⟨oZ.mk' (x := ⟨f0, f1⟩) h0 h1.r, h1.m⟩
theorem oZ.blk {w : World} {T : TypeId} {b : Nat} {f0 : Int} {f1 : List Int} {v1 : Value} {b1 : List Nat} (K : vS w b #[.int .i64 f0, v1] T) (h0 : xY f0) (h1 : Rd (Sl 1 xK) w v1 f1 b1) : Rd (Pt 2 oZ) w (.pointer (some ⟨b, 0, none⟩)) (Con.mk f0 f1) (b :: (b1)) := by
  have hm : xX (b1) w := h1.m
  refine ⟨⟨b, 0, _, rfl, rfl, _, _, (K.cell (0 + 0)).trans rfl, h0, (K.cell (0 + 1)).trans rfl, h1.r, rfl⟩, fun c hc => ?_⟩
  rcases List.mem_cons.1 hc with rfl | hc
  · exact K.lt
  · exact hm c hc
instance : FrC 2 xM := ⟨xM.fr, fun w f x bs h => by
  obtain ⟨v1, b1, h0, k0, h1, k1, hbs⟩ := h
  exact (tots (tots tot0 h0 rfl) h1 k1.one)⟩
theorem xM.f0 {w : World} {y : Instance} : ∀ f bi, xM w f y bi → ∃ bj, xK w (fun j => f (0 + j)) y.vars bj ∧ ∀ c ∈ bj, c ∈ bi := fun f bi h => by
  obtain ⟨v1, b1, h0, k0, h1, k1, hbs⟩ := h
  exact ⟨[], ⟨by simpa using h0, k0, rfl⟩, fun c hc => nomatch hc⟩
theorem xM.f1 {w : World} {y : Instance} : ∀ f bi, xM w f y bi → ∃ bj, (RSl 2 oZ) w (fun j => f (1 + j)) y.cons bj ∧ ∀ c ∈ bj, c ∈ bi := fun f bi h => by
  obtain ⟨v1, b1, h0, k0, h1, k1, hbs⟩ := h
  exact ⟨b1, ⟨v1, by simpa using h1, k1⟩, fun c hc => by rw [hbs]; simp [hc]⟩
theorem xM.rd {w : World} {v : Value} {x : Instance} {bs : List Nat} (h : Rd (qH 2 xM) w v x bs) : ∃ v1 : Value, ∃ b1 : List Nat, v = .agg #[.int .i64 x.vars, v1] ∧ xY x.vars ∧ Rd (Sl 2 oZ) w v1 x.cons b1 ∧ bs = b1 := by
  obtain ⟨v1, b1, e, k0, k1, hbs⟩ := xM.open h.r
  exact ⟨v1, b1, e, k0, ⟨k1, fun c hc => h.m c (by rw [hbs]; simp [hc])⟩, hbs⟩
theorem xM.mk2 {w : World} {f0 : Int} {f1 : List Con} {v1 : Value} {b1 : List Nat} (h0 : xY f0) (h1 : Rd (Sl 2 oZ) w v1 f1 b1) : Rd (qH 2 xM) w (.agg #[.int .i64 f0, v1]) (Instance.mk f0 f1) (b1) :=
  ⟨xM.mk' (x := ⟨f0, f1⟩) h0 h1.r, h1.m⟩
theorem xM.blk {w : World} {T : TypeId} {b : Nat} {f0 : Int} {f1 : List Con} {v1 : Value} {b1 : List Nat} (K : vS w b #[.int .i64 f0, v1] T) (h0 : xY f0) (h1 : Rd (Sl 2 oZ) w v1 f1 b1) : Rd (Pt 2 xM) w (.pointer (some ⟨b, 0, none⟩)) (Instance.mk f0 f1) (b :: (b1)) := by
  have hm : xX (b1) w := h1.m
  refine ⟨⟨b, 0, _, rfl, rfl, _, _, (K.cell (0 + 0)).trans rfl, h0, (K.cell (0 + 1)).trans rfl, h1.r, rfl⟩, fun c hc => ?_⟩
  rcases List.mem_cons.1 hc with rfl | hc
  · exact K.lt
  · exact hm c hc
instance : FrC 3 qJ := ⟨qJ.fr, fun w f x bs h => by
  obtain ⟨h0, k0, h1, k1, h2, k2, hbs⟩ := h
  exact (tots (tots (tots tot0 h0 rfl) h1 rfl) h2 rfl)⟩
theorem qJ.f0 {w : World} {y : ArcStep} : ∀ f bi, qJ w f y bi → ∃ bj, xK w (fun j => f (0 + j)) y.var bj ∧ ∀ c ∈ bj, c ∈ bi := fun f bi h => by
  obtain ⟨h0, k0, h1, k1, h2, k2, hbs⟩ := h
  exact ⟨[], ⟨by simpa using h0, k0, rfl⟩, fun c hc => nomatch hc⟩
theorem qJ.f1 {w : World} {y : ArcStep} : ∀ f bi, qJ w f y bi → ∃ bj, xK w (fun j => f (1 + j)) y.value bj ∧ ∀ c ∈ bj, c ∈ bi := fun f bi h => by
  obtain ⟨h0, k0, h1, k1, h2, k2, hbs⟩ := h
  exact ⟨[], ⟨by simpa using h1, k1, rfl⟩, fun c hc => nomatch hc⟩
theorem qJ.f2 {w : World} {y : ArcStep} : ∀ f bi, qJ w f y bi → ∃ bj, xK w (fun j => f (2 + j)) y.con bj ∧ ∀ c ∈ bj, c ∈ bi := fun f bi h => by
  obtain ⟨h0, k0, h1, k1, h2, k2, hbs⟩ := h
  exact ⟨[], ⟨by simpa using h2, k2, rfl⟩, fun c hc => nomatch hc⟩
theorem qJ.rd {w : World} {v : Value} {x : ArcStep} {bs : List Nat} (h : Rd (qH 3 qJ) w v x bs) : v = .agg #[.int .i64 x.var, .int .i64 x.value, .int .i64 x.con] ∧ xY x.var ∧ xY x.value ∧ xY x.con ∧ bs = [] := by
  obtain ⟨e, k0, k1, k2, hbs⟩ := qJ.open h.r
  exact ⟨e, k0, k1, k2, hbs⟩
theorem qJ.mk2 {w : World} {f0 : Int} {f1 : Int} {f2 : Int}  (h0 : xY f0) (h1 : xY f1) (h2 : xY f2) : Rd (qH 3 qJ) w (.agg #[.int .i64 f0, .int .i64 f1, .int .i64 f2]) (ArcStep.mk f0 f1 f2) ([]) :=
  ⟨qJ.mk' (x := ⟨f0, f1, f2⟩) h0 h1 h2, xX.nil w⟩
theorem qJ.blk {w : World} {T : TypeId} {b : Nat} {f0 : Int} {f1 : Int} {f2 : Int}  (K : vS w b #[.int .i64 f0, .int .i64 f1, .int .i64 f2] T) (h0 : xY f0) (h1 : xY f1) (h2 : xY f2) : Rd (Pt 3 qJ) w (.pointer (some ⟨b, 0, none⟩)) (ArcStep.mk f0 f1 f2) (b :: ([])) := by
  have hm : xX ([]) w := xX.nil w
  refine ⟨⟨b, 0, _, rfl, rfl, (K.cell (0 + 0)).trans rfl, h0, (K.cell (0 + 1)).trans rfl, h1, (K.cell (0 + 2)).trans rfl, h2, rfl⟩, fun c hc => ?_⟩
  rcases List.mem_cons.1 hc with rfl | hc
  · exact K.lt
  · exact hm c hc
instance : FrC 3 oY := ⟨oY.fr, fun w f x bs h => by
  obtain ⟨h0, k0, h1, k1, h2, k2, hbs⟩ := h
  exact (tots (tots (tots tot0 h0 rfl) h1 rfl) h2 rfl)⟩
theorem oY.f0 {w : World} {y : PairStep} : ∀ f bi, oY w f y bi → ∃ bj, xK w (fun j => f (0 + j)) y.i bj ∧ ∀ c ∈ bj, c ∈ bi := fun f bi h => by
  obtain ⟨h0, k0, h1, k1, h2, k2, hbs⟩ := h
  exact ⟨[], ⟨by simpa using h0, k0, rfl⟩, fun c hc => nomatch hc⟩
theorem oY.f1 {w : World} {y : PairStep} : ∀ f bi, oY w f y bi → ∃ bj, xK w (fun j => f (1 + j)) y.j bj ∧ ∀ c ∈ bj, c ∈ bi := fun f bi h => by
  obtain ⟨h0, k0, h1, k1, h2, k2, hbs⟩ := h
  exact ⟨[], ⟨by simpa using h1, k1, rfl⟩, fun c hc => nomatch hc⟩
theorem oY.f2 {w : World} {y : PairStep} : ∀ f bi, oY w f y bi → ∃ bj, xK w (fun j => f (2 + j)) y.through bj ∧ ∀ c ∈ bj, c ∈ bi := fun f bi h => by
  obtain ⟨h0, k0, h1, k1, h2, k2, hbs⟩ := h
  exact ⟨[], ⟨by simpa using h2, k2, rfl⟩, fun c hc => nomatch hc⟩
theorem oY.rd {w : World} {v : Value} {x : PairStep} {bs : List Nat} (h : Rd (qH 3 oY) w v x bs) : v = .agg #[.int .i64 x.i, .int .i64 x.j, .int .i64 x.through] ∧ xY x.i ∧ xY x.j ∧ xY x.through ∧ bs = [] := by
  obtain ⟨e, k0, k1, k2, hbs⟩ := oY.open h.r
  exact ⟨e, k0, k1, k2, hbs⟩
theorem oY.mk2 {w : World} {f0 : Int} {f1 : Int} {f2 : Int}  (h0 : xY f0) (h1 : xY f1) (h2 : xY f2) : Rd (qH 3 oY) w (.agg #[.int .i64 f0, .int .i64 f1, .int .i64 f2]) (PairStep.mk f0 f1 f2) ([]) :=
  ⟨oY.mk' (x := ⟨f0, f1, f2⟩) h0 h1 h2, xX.nil w⟩
theorem oY.blk {w : World} {T : TypeId} {b : Nat} {f0 : Int} {f1 : Int} {f2 : Int}  (K : vS w b #[.int .i64 f0, .int .i64 f1, .int .i64 f2] T) (h0 : xY f0) (h1 : xY f1) (h2 : xY f2) : Rd (Pt 3 oY) w (.pointer (some ⟨b, 0, none⟩)) (PairStep.mk f0 f1 f2) (b :: ([])) := by
  have hm : xX ([]) w := xX.nil w
  refine ⟨⟨b, 0, _, rfl, rfl, (K.cell (0 + 0)).trans rfl, h0, (K.cell (0 + 1)).trans rfl, h1, (K.cell (0 + 2)).trans rfl, h2, rfl⟩, fun c hc => ?_⟩
  rcases List.mem_cons.1 hc with rfl | hc
  · exact K.lt
  · exact hm c hc
instance : FrC 5 qX := ⟨qX.fr, fun w f x bs h => by
  obtain ⟨v1, v2, v3, v4, b1, b2, b3, b4, h0, k0, h1, k1, h2, k2, h3, k3, h4, k4, hbs⟩ := h
  exact (tots (tots (tots (tots (tots tot0 h0 rfl) h1 k1.one) h2 k2.one) h3 k3.one) h4 k4.one)⟩
theorem qX.f0 {w : World} {y : Verdict} : ∀ f bi, qX w f y bi → ∃ bj, xK w (fun j => f (0 + j)) y.kind bj ∧ ∀ c ∈ bj, c ∈ bi := fun f bi h => by
  obtain ⟨v1, v2, v3, v4, b1, b2, b3, b4, h0, k0, h1, k1, h2, k2, h3, k3, h4, k4, hbs⟩ := h
  exact ⟨[], ⟨by simpa using h0, k0, rfl⟩, fun c hc => nomatch hc⟩
theorem qX.f1 {w : World} {y : Verdict} : ∀ f bi, qX w f y bi → ∃ bj, (RSl 1 xK) w (fun j => f (1 + j)) y.values bj ∧ ∀ c ∈ bj, c ∈ bi := fun f bi h => by
  obtain ⟨v1, v2, v3, v4, b1, b2, b3, b4, h0, k0, h1, k1, h2, k2, h3, k3, h4, k4, hbs⟩ := h
  exact ⟨b1, ⟨v1, by simpa using h1, k1⟩, fun c hc => by rw [hbs]; simp [hc]⟩
theorem qX.f2 {w : World} {y : Verdict} : ∀ f bi, qX w f y bi → ∃ bj, (RSl 3 qJ) w (fun j => f (2 + j)) y.arcs bj ∧ ∀ c ∈ bj, c ∈ bi := fun f bi h => by
  obtain ⟨v1, v2, v3, v4, b1, b2, b3, b4, h0, k0, h1, k1, h2, k2, h3, k3, h4, k4, hbs⟩ := h
  exact ⟨b2, ⟨v2, by simpa using h2, k2⟩, fun c hc => by rw [hbs]; simp [hc]⟩
theorem qX.f3 {w : World} {y : Verdict} : ∀ f bi, qX w f y bi → ∃ bj, (RSl 3 oY) w (fun j => f (3 + j)) y.pairs bj ∧ ∀ c ∈ bj, c ∈ bi := fun f bi h => by
  obtain ⟨v1, v2, v3, v4, b1, b2, b3, b4, h0, k0, h1, k1, h2, k2, h3, k3, h4, k4, hbs⟩ := h
  exact ⟨b3, ⟨v3, by simpa using h3, k3⟩, fun c hc => by rw [hbs]; simp [hc]⟩
theorem qX.f4 {w : World} {y : Verdict} : ∀ f bi, qX w f y bi → ∃ bj, (RSl 1 xK) w (fun j => f (4 + j)) y.numbers bj ∧ ∀ c ∈ bj, c ∈ bi := fun f bi h => by
  obtain ⟨v1, v2, v3, v4, b1, b2, b3, b4, h0, k0, h1, k1, h2, k2, h3, k3, h4, k4, hbs⟩ := h
  exact ⟨b4, ⟨v4, by simpa using h4, k4⟩, fun c hc => by rw [hbs]; simp [hc]⟩
theorem qX.rd {w : World} {v : Value} {x : Verdict} {bs : List Nat} (h : Rd (qH 5 qX) w v x bs) : ∃ v1 v2 v3 v4 : Value, ∃ b1 b2 b3 b4 : List Nat, v = .agg #[.int .i64 x.kind, v1, v2, v3, v4] ∧ xY x.kind ∧ Rd (Sl 1 xK) w v1 x.values b1 ∧ Rd (Sl 3 qJ) w v2 x.arcs b2 ∧ Rd (Sl 3 oY) w v3 x.pairs b3 ∧ Rd (Sl 1 xK) w v4 x.numbers b4 ∧ bs = b1 ++ b2 ++ b3 ++ b4 := by
  obtain ⟨v1, v2, v3, v4, b1, b2, b3, b4, e, k0, k1, k2, k3, k4, hbs⟩ := qX.open h.r
  exact ⟨v1, v2, v3, v4, b1, b2, b3, b4, e, k0, ⟨k1, fun c hc => h.m c (by rw [hbs]; simp [hc])⟩, ⟨k2, fun c hc => h.m c (by rw [hbs]; simp [hc])⟩, ⟨k3, fun c hc => h.m c (by rw [hbs]; simp [hc])⟩, ⟨k4, fun c hc => h.m c (by rw [hbs]; simp [hc])⟩, hbs⟩
theorem qX.mk2 {w : World} {f0 : Int} {f1 : List Int} {f2 : List ArcStep} {f3 : List PairStep} {f4 : List Int} {v1 : Value} {b1 : List Nat} {v2 : Value} {b2 : List Nat} {v3 : Value} {b3 : List Nat} {v4 : Value} {b4 : List Nat} (h0 : xY f0) (h1 : Rd (Sl 1 xK) w v1 f1 b1) (h2 : Rd (Sl 3 qJ) w v2 f2 b2) (h3 : Rd (Sl 3 oY) w v3 f3 b3) (h4 : Rd (Sl 1 xK) w v4 f4 b4) : Rd (qH 5 qX) w (.agg #[.int .i64 f0, v1, v2, v3, v4]) (Verdict.mk f0 f1 f2 f3 f4) (b1 ++ b2 ++ b3 ++ b4) :=
  ⟨qX.mk' (x := ⟨f0, f1, f2, f3, f4⟩) h0 h1.r h2.r h3.r h4.r, (((h1.m).append h2.m).append h3.m).append h4.m⟩
theorem qX.blk {w : World} {T : TypeId} {b : Nat} {f0 : Int} {f1 : List Int} {f2 : List ArcStep} {f3 : List PairStep} {f4 : List Int} {v1 : Value} {b1 : List Nat} {v2 : Value} {b2 : List Nat} {v3 : Value} {b3 : List Nat} {v4 : Value} {b4 : List Nat} (K : vS w b #[.int .i64 f0, v1, v2, v3, v4] T) (h0 : xY f0) (h1 : Rd (Sl 1 xK) w v1 f1 b1) (h2 : Rd (Sl 3 qJ) w v2 f2 b2) (h3 : Rd (Sl 3 oY) w v3 f3 b3) (h4 : Rd (Sl 1 xK) w v4 f4 b4) : Rd (Pt 5 qX) w (.pointer (some ⟨b, 0, none⟩)) (Verdict.mk f0 f1 f2 f3 f4) (b :: (b1 ++ b2 ++ b3 ++ b4)) := by
  have hm : xX (b1 ++ b2 ++ b3 ++ b4) w := (((h1.m).append h2.m).append h3.m).append h4.m
  refine ⟨⟨b, 0, _, rfl, rfl, _, _, _, _, _, _, _, _, (K.cell (0 + 0)).trans rfl, h0, (K.cell (0 + 1)).trans rfl, h1.r, (K.cell (0 + 2)).trans rfl, h2.r, (K.cell (0 + 3)).trans rfl, h3.r, (K.cell (0 + 4)).trans rfl, h4.r, rfl⟩, fun c hc => ?_⟩
  rcases List.mem_cons.1 hc with rfl | hc
  · exact K.lt
  · exact hm c hc
instance : FrC 2 qY := ⟨qY.fr, fun w f x bs h => by
  obtain ⟨v0, b0, h0, k0, h1, k1, hbs⟩ := h
  exact (tots (tots tot0 h0 k0.one) h1 rfl)⟩
theorem qY.f0 {w : World} {y : Equation} : ∀ f bi, qY w f y bi → ∃ bj, (RSl 1 xK) w (fun j => f (0 + j)) y.left bj ∧ ∀ c ∈ bj, c ∈ bi := fun f bi h => by
  obtain ⟨v0, b0, h0, k0, h1, k1, hbs⟩ := h
  exact ⟨b0, ⟨v0, by simpa using h0, k0⟩, fun c hc => by rw [hbs]; simp [hc]⟩
theorem qY.f1 {w : World} {y : Equation} : ∀ f bi, qY w f y bi → ∃ bj, xK w (fun j => f (1 + j)) y.right bj ∧ ∀ c ∈ bj, c ∈ bi := fun f bi h => by
  obtain ⟨v0, b0, h0, k0, h1, k1, hbs⟩ := h
  exact ⟨[], ⟨by simpa using h1, k1, rfl⟩, fun c hc => nomatch hc⟩
theorem qY.rd {w : World} {v : Value} {x : Equation} {bs : List Nat} (h : Rd (qH 2 qY) w v x bs) : ∃ v0 : Value, ∃ b0 : List Nat, v = .agg #[v0, .int .i64 x.right] ∧ Rd (Sl 1 xK) w v0 x.left b0 ∧ xY x.right ∧ bs = b0 := by
  obtain ⟨v0, b0, e, k0, k1, hbs⟩ := qY.open h.r
  exact ⟨v0, b0, e, ⟨k0, fun c hc => h.m c (by rw [hbs]; simp [hc])⟩, k1, hbs⟩
theorem qY.mk2 {w : World} {f0 : List Int} {f1 : Int} {v0 : Value} {b0 : List Nat} (h0 : Rd (Sl 1 xK) w v0 f0 b0) (h1 : xY f1) : Rd (qH 2 qY) w (.agg #[v0, .int .i64 f1]) (Equation.mk f0 f1) (b0) :=
  ⟨qY.mk' (x := ⟨f0, f1⟩) h0.r h1, h0.m⟩
theorem qY.blk {w : World} {T : TypeId} {b : Nat} {f0 : List Int} {f1 : Int} {v0 : Value} {b0 : List Nat} (K : vS w b #[v0, .int .i64 f1] T) (h0 : Rd (Sl 1 xK) w v0 f0 b0) (h1 : xY f1) : Rd (Pt 2 qY) w (.pointer (some ⟨b, 0, none⟩)) (Equation.mk f0 f1) (b :: (b0)) := by
  have hm : xX (b0) w := h0.m
  refine ⟨⟨b, 0, _, rfl, rfl, _, _, (K.cell (0 + 0)).trans rfl, h0.r, (K.cell (0 + 1)).trans rfl, h1, rfl⟩, fun c hc => ?_⟩
  rcases List.mem_cons.1 hc with rfl | hc
  · exact K.lt
  · exact hm c hc
instance : FrC 4 kW := ⟨kW.fr, fun w f x bs h => by
  obtain ⟨h0, k0, h1, k1, h2, k2, h3, k3, hbs⟩ := h
  exact (tots (tots (tots (tots tot0 h0 rfl) h1 rfl) h2 rfl) h3 rfl)⟩
theorem kW.f0 {w : World} {y : Line} : ∀ f bi, kW w f y bi → ∃ bj, xK w (fun j => f (0 + j)) y.kind bj ∧ ∀ c ∈ bj, c ∈ bi := fun f bi h => by
  obtain ⟨h0, k0, h1, k1, h2, k2, h3, k3, hbs⟩ := h
  exact ⟨[], ⟨by simpa using h0, k0, rfl⟩, fun c hc => nomatch hc⟩
theorem kW.f1 {w : World} {y : Line} : ∀ f bi, kW w f y bi → ∃ bj, xK w (fun j => f (1 + j)) y.var bj ∧ ∀ c ∈ bj, c ∈ bi := fun f bi h => by
  obtain ⟨h0, k0, h1, k1, h2, k2, h3, k3, hbs⟩ := h
  exact ⟨[], ⟨by simpa using h1, k1, rfl⟩, fun c hc => nomatch hc⟩
theorem kW.f2 {w : World} {y : Line} : ∀ f bi, kW w f y bi → ∃ bj, xK w (fun j => f (2 + j)) y.value bj ∧ ∀ c ∈ bj, c ∈ bi := fun f bi h => by
  obtain ⟨h0, k0, h1, k1, h2, k2, h3, k3, hbs⟩ := h
  exact ⟨[], ⟨by simpa using h2, k2, rfl⟩, fun c hc => nomatch hc⟩
theorem kW.f3 {w : World} {y : Line} : ∀ f bi, kW w f y bi → ∃ bj, xK w (fun j => f (3 + j)) y.con bj ∧ ∀ c ∈ bj, c ∈ bi := fun f bi h => by
  obtain ⟨h0, k0, h1, k1, h2, k2, h3, k3, hbs⟩ := h
  exact ⟨[], ⟨by simpa using h3, k3, rfl⟩, fun c hc => nomatch hc⟩
theorem kW.rd {w : World} {v : Value} {x : Line} {bs : List Nat} (h : Rd (qH 4 kW) w v x bs) : v = .agg #[.int .i64 x.kind, .int .i64 x.var, .int .i64 x.value, .int .i64 x.con] ∧ xY x.kind ∧ xY x.var ∧ xY x.value ∧ xY x.con ∧ bs = [] := by
  obtain ⟨e, k0, k1, k2, k3, hbs⟩ := kW.open h.r
  exact ⟨e, k0, k1, k2, k3, hbs⟩
theorem kW.mk2 {w : World} {f0 : Int} {f1 : Int} {f2 : Int} {f3 : Int}  (h0 : xY f0) (h1 : xY f1) (h2 : xY f2) (h3 : xY f3) : Rd (qH 4 kW) w (.agg #[.int .i64 f0, .int .i64 f1, .int .i64 f2, .int .i64 f3]) (Line.mk f0 f1 f2 f3) ([]) :=
  ⟨kW.mk' (x := ⟨f0, f1, f2, f3⟩) h0 h1 h2 h3, xX.nil w⟩
theorem kW.blk {w : World} {T : TypeId} {b : Nat} {f0 : Int} {f1 : Int} {f2 : Int} {f3 : Int}  (K : vS w b #[.int .i64 f0, .int .i64 f1, .int .i64 f2, .int .i64 f3] T) (h0 : xY f0) (h1 : xY f1) (h2 : xY f2) (h3 : xY f3) : Rd (Pt 4 kW) w (.pointer (some ⟨b, 0, none⟩)) (Line.mk f0 f1 f2 f3) (b :: ([])) := by
  have hm : xX ([]) w := xX.nil w
  refine ⟨⟨b, 0, _, rfl, rfl, (K.cell (0 + 0)).trans rfl, h0, (K.cell (0 + 1)).trans rfl, h1, (K.cell (0 + 2)).trans rfl, h2, (K.cell (0 + 3)).trans rfl, h3, rfl⟩, fun c hc => ?_⟩
  rcases List.mem_cons.1 hc with rfl | hc
  · exact K.lt
  · exact hm c hc
instance : FrC 2 vP := ⟨vP.fr, fun w f x bs h => by
  obtain ⟨h0, k0, h1, k1, hbs⟩ := h
  exact (tots (tots tot0 h0 rfl) h1 rfl)⟩
theorem vP.f0 {w : World} {y : Literal} : ∀ f bi, vP w f y bi → ∃ bj, xK w (fun j => f (0 + j)) y.var bj ∧ ∀ c ∈ bj, c ∈ bi := fun f bi h => by
  obtain ⟨h0, k0, h1, k1, hbs⟩ := h
  exact ⟨[], ⟨by simpa using h0, k0, rfl⟩, fun c hc => nomatch hc⟩
theorem vP.f1 {w : World} {y : Literal} : ∀ f bi, vP w f y bi → ∃ bj, xK w (fun j => f (1 + j)) y.value bj ∧ ∀ c ∈ bj, c ∈ bi := fun f bi h => by
  obtain ⟨h0, k0, h1, k1, hbs⟩ := h
  exact ⟨[], ⟨by simpa using h1, k1, rfl⟩, fun c hc => nomatch hc⟩
theorem vP.rd {w : World} {v : Value} {x : Literal} {bs : List Nat} (h : Rd (qH 2 vP) w v x bs) : v = .agg #[.int .i64 x.var, .int .i64 x.value] ∧ xY x.var ∧ xY x.value ∧ bs = [] := by
  obtain ⟨e, k0, k1, hbs⟩ := vP.open h.r
  exact ⟨e, k0, k1, hbs⟩
theorem vP.mk2 {w : World} {f0 : Int} {f1 : Int}  (h0 : xY f0) (h1 : xY f1) : Rd (qH 2 vP) w (.agg #[.int .i64 f0, .int .i64 f1]) (Literal.mk f0 f1) ([]) :=
  ⟨vP.mk' (x := ⟨f0, f1⟩) h0 h1, xX.nil w⟩
theorem vP.blk {w : World} {T : TypeId} {b : Nat} {f0 : Int} {f1 : Int}  (K : vS w b #[.int .i64 f0, .int .i64 f1] T) (h0 : xY f0) (h1 : xY f1) : Rd (Pt 2 vP) w (.pointer (some ⟨b, 0, none⟩)) (Literal.mk f0 f1) (b :: ([])) := by
  have hm : xX ([]) w := xX.nil w
  refine ⟨⟨b, 0, _, rfl, rfl, (K.cell (0 + 0)).trans rfl, h0, (K.cell (0 + 1)).trans rfl, h1, rfl⟩, fun c hc => ?_⟩
  rcases List.mem_cons.1 hc with rfl | hc
  · exact K.lt
  · exact hm c hc
instance : FrC 1 xV := ⟨xV.fr, fun w f x bs h => by
  obtain ⟨v0, b0, h0, k0, hbs⟩ := h
  exact (tots tot0 h0 k0.one)⟩
theorem xV.f0 {w : World} {y : Gadgets} : ∀ f bi, xV w f y bi → ∃ bj, (RSl 3 xL) w (fun j => f (0 + j)) y.formulas bj ∧ ∀ c ∈ bj, c ∈ bi := fun f bi h => by
  obtain ⟨v0, b0, h0, k0, hbs⟩ := h
  exact ⟨b0, ⟨v0, by simpa using h0, k0⟩, fun c hc => by rw [hbs]; simp [hc]⟩
theorem xV.rd {w : World} {v : Value} {x : Gadgets} {bs : List Nat} (h : Rd (qH 1 xV) w v x bs) : ∃ v0 : Value, ∃ b0 : List Nat, v = .agg #[v0] ∧ Rd (Sl 3 xL) w v0 x.formulas b0 ∧ bs = b0 := by
  obtain ⟨v0, b0, e, k0, hbs⟩ := xV.open h.r
  exact ⟨v0, b0, e, ⟨k0, fun c hc => h.m c (by rw [hbs]; simp [hc])⟩, hbs⟩
theorem xV.mk2 {w : World} {f0 : List Formula} {v0 : Value} {b0 : List Nat} (h0 : Rd (Sl 3 xL) w v0 f0 b0) : Rd (qH 1 xV) w (.agg #[v0]) (Gadgets.mk f0) (b0) :=
  ⟨xV.mk' (x := ⟨f0⟩) h0.r, h0.m⟩
theorem xV.blk {w : World} {T : TypeId} {b : Nat} {f0 : List Formula} {v0 : Value} {b0 : List Nat} (K : vS w b #[v0] T) (h0 : Rd (Sl 3 xL) w v0 f0 b0) : Rd (Pt 1 xV) w (.pointer (some ⟨b, 0, none⟩)) (Gadgets.mk f0) (b :: (b0)) := by
  have hm : xX (b0) w := h0.m
  refine ⟨⟨b, 0, _, rfl, rfl, _, _, (K.cell (0 + 0)).trans rfl, h0.r, rfl⟩, fun c hc => ?_⟩
  rcases List.mem_cons.1 hc with rfl | hc
  · exact K.lt
  · exact hm c hc
instance : FrC 3 RDeed := ⟨RDeed.fr, fun w f x bs h => by
  obtain ⟨h0, k0, h1, k1, h2, k2, hbs⟩ := h
  exact (tots (tots (tots tot0 h0 rfl) h1 rfl) h2 rfl)⟩
theorem RDeed.f0 {w : World} {y : Deed} : ∀ f bi, RDeed w f y bi → ∃ bj, xK w (fun j => f (0 + j)) y.kind bj ∧ ∀ c ∈ bj, c ∈ bi := fun f bi h => by
  obtain ⟨h0, k0, h1, k1, h2, k2, hbs⟩ := h
  exact ⟨[], ⟨by simpa using h0, k0, rfl⟩, fun c hc => nomatch hc⟩
theorem RDeed.f1 {w : World} {y : Deed} : ∀ f bi, RDeed w f y bi → ∃ bj, xK w (fun j => f (1 + j)) y.a bj ∧ ∀ c ∈ bj, c ∈ bi := fun f bi h => by
  obtain ⟨h0, k0, h1, k1, h2, k2, hbs⟩ := h
  exact ⟨[], ⟨by simpa using h1, k1, rfl⟩, fun c hc => nomatch hc⟩
theorem RDeed.f2 {w : World} {y : Deed} : ∀ f bi, RDeed w f y bi → ∃ bj, xK w (fun j => f (2 + j)) y.b bj ∧ ∀ c ∈ bj, c ∈ bi := fun f bi h => by
  obtain ⟨h0, k0, h1, k1, h2, k2, hbs⟩ := h
  exact ⟨[], ⟨by simpa using h2, k2, rfl⟩, fun c hc => nomatch hc⟩
theorem RDeed.rd {w : World} {v : Value} {x : Deed} {bs : List Nat} (h : Rd (qH 3 RDeed) w v x bs) : v = .agg #[.int .i64 x.kind, .int .i64 x.a, .int .i64 x.b] ∧ xY x.kind ∧ xY x.a ∧ xY x.b ∧ bs = [] := by
  obtain ⟨e, k0, k1, k2, hbs⟩ := RDeed.open h.r
  exact ⟨e, k0, k1, k2, hbs⟩
theorem RDeed.mk2 {w : World} {f0 : Int} {f1 : Int} {f2 : Int}  (h0 : xY f0) (h1 : xY f1) (h2 : xY f2) : Rd (qH 3 RDeed) w (.agg #[.int .i64 f0, .int .i64 f1, .int .i64 f2]) (Deed.mk f0 f1 f2) ([]) :=
  ⟨RDeed.mk' (x := ⟨f0, f1, f2⟩) h0 h1 h2, xX.nil w⟩
theorem RDeed.blk {w : World} {T : TypeId} {b : Nat} {f0 : Int} {f1 : Int} {f2 : Int}  (K : vS w b #[.int .i64 f0, .int .i64 f1, .int .i64 f2] T) (h0 : xY f0) (h1 : xY f1) (h2 : xY f2) : Rd (Pt 3 RDeed) w (.pointer (some ⟨b, 0, none⟩)) (Deed.mk f0 f1 f2) (b :: ([])) := by
  have hm : xX ([]) w := xX.nil w
  refine ⟨⟨b, 0, _, rfl, rfl, (K.cell (0 + 0)).trans rfl, h0, (K.cell (0 + 1)).trans rfl, h1, (K.cell (0 + 2)).trans rfl, h2, rfl⟩, fun c hc => ?_⟩
  rcases List.mem_cons.1 hc with rfl | hc
  · exact K.lt
  · exact hm c hc
theorem cell1I {w : World} {T : TypeId} {b : Nat} {x : Int} (K : vS w b #[.int .i64 x] T) (h : xY x) : Rd (Pt 1 xK) w (.pointer (some ⟨b, 0, none⟩)) x [b] :=
  ⟨⟨b, 0, [], rfl, rfl, (K.cell (0 + 0)).trans rfl, h, rfl⟩, fun c hc => by rw [List.mem_singleton] at hc; subst hc; exact K.lt⟩
theorem cell1S {α : Type} {sz : Nat} {R : ER α} {w : World} {T : TypeId} {b : Nat} {v : Value} {x : List α} {bs : List Nat} (K : vS w b #[v] T) (h : Rd (Sl sz R) w v x bs) : Rd (Pt 1 (RSl sz R)) w (.pointer (some ⟨b, 0, none⟩)) x (b :: bs) :=
  ⟨⟨b, 0, _, rfl, rfl, v, (K.cell (0 + 0)).trans rfl, h.r⟩, fun c hc => by
    rcases List.mem_cons.1 hc with rfl | hc
    · exact K.lt
    · exact h.m c hc⟩
end Go.Proofs.YtmgdjaiaekhkgaaGreat
