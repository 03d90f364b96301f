/-
  A slice of the call's own that is appended to, element by element or list by list. No program.
-/
import Derived.Test.YtmgdjaiaekhkgaaGreatB
namespace Go.Proofs.YtmgdjaiaekhkgaaGreat
set_option linter.unusedVariables false
set_option linter.unusedSimpArgs false
open Go.RowKit

theorem bcell3 {W w1 : World} (hb : Below W.heap.size W w1) : (∀ b o, b < W.heap.size → w1.cell? ⟨b, o, none⟩ = W.cell? ⟨b, o, none⟩) ∧ (∀ b o, b < W.heap.size → w1.frozen? ⟨b, o, none⟩ = W.frozen? ⟨b, o, none⟩) ∧ (∀ b, b < W.heap.size → b < w1.heap.size) :=
  ⟨(bcell hb).1, (bcell hb).2, fun b h => Nat.lt_of_lt_of_le h hb.size⟩

theorem zY.one {B b : Nat} {w : World} {arr : Array Value} {T : TypeId} (h : vS w b arr T) (hB : B ≤ b) : zY B [b] w :=
  ⟨by simp, fun c hc => by rw [List.mem_singleton] at hc; subst hc; exact ⟨hB, arr, T, h⟩⟩
theorem RetAgg.of {α : Type} {sz : Nat} {R : ER α} (hR : Fr sz R) {x : α} {w w1 W : World} {v : Value} {bs : List Nat} (h : qH sz R w1 v x bs) (ho : zY w.heap.size bs w1) (hs : xT bs w1 W) (hb : Below w.heap.size w W) : RetAgg sz R x w (.returned v) W :=
  ⟨v, bs, rfl, h.same hR hs, ho.same hs, hb⟩
theorem RetSl.of {α : Type} {sz : Nat} {R : ER α} (hR : Fr sz R) {l : List α} {w w1 W : World} {v : Value} {bs : List Nat} (h : Sl sz R w1 v l bs) (ho : zY w.heap.size bs w1) (hs : xT bs w1 W) (hb : Below w.heap.size w W) : RetSl sz R l w (.returned v) W :=
  ⟨v, bs, rfl, h.same hR hs, ho.same hs, hb⟩
/-- What a function gives that makes a struct and a code. -/
def RetAggC {α : Type} (sz : Nat) (R : ER α) (x : α) (c : Int) (w : World) (e : Ending) (w' : World) : Prop :=
  ∃ v bs, e = .returned (.tuple #[v, .int .i64 c]) ∧ qH sz R w' v x bs ∧ zY w.heap.size bs w' ∧ Below w.heap.size w w'
theorem RetAggC.of {α : Type} {sz : Nat} {R : ER α} (hR : Fr sz R) {x : α} {c : Int} {w w1 W : World} {v : Value} {bs : List Nat} (h : qH sz R w1 v x bs) (ho : zY w.heap.size bs w1) (hs : xT bs w1 W) (hb : Below w.heap.size w W) : RetAggC sz R x c w (.returned (.tuple #[v, .int .i64 c])) W :=
  ⟨v, bs, rfl, h.same hR hs, ho.same hs, hb⟩
/-- What a function gives that makes a slice and a code. -/
def RetSlC {α : Type} (sz : Nat) (R : ER α) (l : List α) (c : Int) (w : World) (e : Ending) (w' : World) : Prop :=
  ∃ v bs, e = .returned (.tuple #[v, .int .i64 c]) ∧ Sl sz R w' v l bs ∧ zY w.heap.size bs w' ∧ Below w.heap.size w w'
theorem RetSlC.of {α : Type} {sz : Nat} {R : ER α} (hR : Fr sz R) {l : List α} {c : Int} {w w1 W : World} {v : Value} {bs : List Nat} (h : Sl sz R w1 v l bs) (ho : zY w.heap.size bs w1) (hs : xT bs w1 W) (hb : Below w.heap.size w W) : RetSlC sz R l c w (.returned (.tuple #[v, .int .i64 c])) W :=
  ⟨v, bs, rfl, h.same hR hs, ho.same hs, hb⟩

/-- A slice over l that the call appends to: its own row, its elements read by R, in blocks of the call's own. -/
structure App {α : Type} (sz : Nat) (R : ER α) (E : TypeId) (base : Nat) (w0 : World) (l : List α) (wr : World) (v : Value) (bss : List (List Nat)) : Prop where
  row : ∃ xs, wr.ownsRow base E sz v l.length xs ∧ ∀ i x bi, l[i]? = some x → bss[i]? = some bi → R wr (fun j => xs[i * sz + j]?) x bi
  len : bss.length = l.length
  hbase : w0.heap.size ≤ base
  own : zY base bss.flatten wr
  apart : ∀ b, v.ownBlock = some b → b ∉ bss.flatten
  below : Below w0.heap.size w0 wr

theorem App.val {α : Type} {sz : Nat} {R : ER α} {E : TypeId} {base : Nat} {w0 : World} {l : List α} {wr : World} {v : Value} {bss : List (List Nat)} (h : App sz R E base w0 l wr v bss) : ∃ a c, v = .slice a l.length c := by
  obtain ⟨xs, ho, _⟩ := h.row
  rcases ho.2 with ⟨hv, hn⟩ | ⟨g, cap, cur, hv, _⟩
  · exact ⟨none, 0, by rw [hn]; exact hv⟩
  · exact ⟨_, _, hv⟩

theorem App.lt {α : Type} {sz : Nat} {R : ER α} {E : TypeId} {base : Nat} {w0 : World} {l : List α} {wr : World} {v : Value} {bss : List (List Nat)} (h : App sz R E base w0 l wr v bss) : ∀ b, v.ownBlock = some b → base ≤ b ∧ b < wr.heap.size := by
  obtain ⟨xs, ho, _⟩ := h.row
  exact ho.lt

theorem App.blk {α : Type} {sz : Nat} {R : ER α} {E : TypeId} {base : Nat} {w0 : World} {l : List α} {wr : World} {v : Value} {bss : List (List Nat)} (h : App sz R E base w0 l wr v bss) : ∀ b, v.ownBlock = some b → ∃ cur, wr.heap[b]? = some (.cells cur E (0, 0)) := by
  obtain ⟨xs, ho, _⟩ := h.row
  intro b hb
  rcases ho.2 with ⟨rfl, _⟩ | ⟨g, cap, cur, rfl, _, hg, _⟩
  · simp [Value.ownBlock] at hb
  · simp [Value.ownBlock] at hb
    subst hb
    exact ⟨cur, hg⟩

/-- It stays while its blocks stay. -/
theorem App.move {α : Type} {sz : Nat} {R : ER α} (hR : Fr sz R) {E : TypeId} {base : Nat} {w0 : World} {l : List α} {wr w1 : World} {v : Value} {bss : List (List Nat)} (h : App sz R E base w0 l wr v bss)
    (hv : ∀ b, v.ownBlock = some b → w1.heap[b]? = wr.heap[b]?) (hs : xT bss.flatten wr w1) (hb : Below w0.heap.size w0 w1) : App sz R E base w0 l w1 v bss := by
  obtain ⟨xs, ho, he⟩ := h.row
  refine ⟨⟨xs, ⟨ho.1, ?_⟩, fun i x bi hx hi => hR _ _ _ _ x bi (he i x bi hx hi) (fun c hc => hs c (List.mem_flatten.2 ⟨bi, List.mem_of_getElem? hi, hc⟩)) (fun _ _ => rfl)⟩, h.len, h.hbase, h.own.same hs, h.apart, hb⟩
  rcases ho.2 with h1 | ⟨g, cap, cur, rfl, h2, h3, h4⟩
  · exact .inl h1
  · exact .inr ⟨g, cap, cur, rfl, h2, by rw [hv g (by simp [Value.ownBlock])]; exact h3, h4⟩
theorem App.thru {α : Type} {sz : Nat} {R : ER α} (hR : Fr sz R) {E : TypeId} {base : Nat} {w0 : World} {l : List α} {wr w1 : World} {v : Value} {bss : List (List Nat)} (h : App sz R E base w0 l wr v bss)
    (hw : Below wr.heap.size wr w1) : App sz R E base w0 l w1 v bss :=
  h.move hR (fun b hb => hw.block b (h.lt b hb).2) (h.own.inMem.same hw) (hw.through h.below)
theorem App.alloc {α : Type} {sz : Nat} {R : ER α} (hR : Fr sz R) {E : TypeId} {base : Nat} {w0 : World} {l : List α} {wr : World} {v : Value} {bss : List (List Nat)} (h : App sz R E base w0 l wr v bss) (o : Obj) : App sz R E base w0 l (wr.alloc o) v bss :=
  h.thru hR ((Below.refl _ _).alloc (Nat.le_refl _) o)
theorem App.drew {α : Type} {sz : Nat} {R : ER α} (hR : Fr sz R) {E : TypeId} {base : Nat} {w0 : World} {l : List α} {wr : World} {v : Value} {bss : List (List Nat)} (h : App sz R E base w0 l wr v bss) : App sz R E base w0 l wr.drew v bss :=
  h.thru hR (Below.refl _ _).drew
/-- A store into a block that is none of its own. -/
theorem App.set {α : Type} {sz : Nat} {R : ER α} (hR : Fr sz R) {E : TypeId} {base : Nat} {w0 : World} {l : List α} {wr : World} {v : Value} {bss : List (List Nat)} (h : App sz R E base w0 l wr v bss) {a : Addr} (h0 : w0.heap.size ≤ a.block)
    (h1 : v.ownBlock ≠ some a.block) (h2 : a.block ∉ bss.flatten) (u : Value) : App sz R E base w0 l (wr.setCell a u) v bss :=
  h.move hR (fun b hb => Below.heap_setCell _ _ _ _ (fun e => h1 (by rw [hb, e]))) (fun b hb => Below.heap_setCell _ _ _ _ (fun e => h2 (e ▸ hb))) (h.below.setCell h0 u)

theorem App.nil {α : Type} (sz : Nat) (R : ER α) (E : TypeId) (base : Nat) {w0 w : World} (hb : w0.heap.size ≤ base) (hw : Below w0.heap.size w0 w) : App sz R E base w0 [] w (.slice none 0 0) [] :=
  ⟨⟨[], World.ownsRow_nil _ _ _ _, fun i x bi hx => by simp at hx⟩, rfl, hb, zY.nil _ _, fun b hb => by simp [Value.ownBlock] at hb, hw⟩
/-- An empty slice that was built: 'T{}'. -/
theorem App.empty {α : Type} (sz : Nat) (R : ER α) (E : TypeId) {base b : Nat} {w0 w : World} (hb : w0.heap.size ≤ base) (hbb : base ≤ b) (h : vS w b #[] E) (hw : Below w0.heap.size w0 w) : App sz R E base w0 [] w (.slice (some ⟨b, 0, none⟩) 0 0) [] :=
  ⟨⟨[], ⟨by simp, .inr ⟨b, 0, #[], rfl, hbb, h, Nat.le_refl _, by unfold maxLen; omega, by simp, by simp⟩⟩, fun i x bi hx => by simp at hx⟩, rfl, hb, zY.nil _ _, fun b hb => by simp, hw⟩

/-- What it comes to. -/
theorem App.done {α : Type} {sz : Nat} {R : ER α} (hR : Fr sz R) {E : TypeId} {base : Nat} {w0 : World} {l : List α} {wr : World} {v : Value} {bss : List (List Nat)} (h : App sz R E base w0 l wr v bss) :
    ∃ bs, Sl sz R wr v l bs ∧ zY w0.heap.size bs wr ∧ ∀ b ∈ bs, v.ownBlock = some b ∨ b ∈ bss.flatten := by
  obtain ⟨xs, ho, he⟩ := h.row
  rcases ho.2 with ⟨rfl, hn⟩ | ⟨g, cap, cur, rfl, h2, h3, h4, h5, h6, h7⟩
  · have hl : l = [] := List.length_eq_zero_iff.1 hn
    subst hl
    exact ⟨[], ⟨none, 0, rfl, Nat.le_refl _, by unfold maxLen; omega, fun _ => rfl, .inl ⟨rfl, rfl⟩⟩, zY.nil _ _, fun b hb => by cases hb⟩
  · refine ⟨g :: bss.flatten, ⟨_, cap, rfl, h4, h5, (fun h => nomatch h), .inr ⟨g, 0, bss, rfl, rfl, h.len, fun i x bi hx hi => ?_⟩⟩, ⟨List.nodup_cons.2 ⟨h.apart g (by simp [Value.ownBlock]), h.own.1⟩, fun b hb => ?_⟩, fun b hb => ?_⟩
    · refine hR _ _ _ _ x bi (he i x bi hx hi) (fun _ _ => rfl) (fun j hj => ?_)
      have hil : i < l.length := (List.getElem?_eq_some_iff.1 hx).1
      have hm : (i + 1) * sz ≤ l.length * sz := Nat.mul_le_mul_right _ hil
      rw [Nat.add_mul] at hm
      rw [Nat.zero_add, (zY.cell0 h3 _).1, ← h7, List.getElem?_take, if_pos (by omega)]
      simp
    · rcases List.mem_cons.1 hb with rfl | hb
      · exact ⟨Nat.le_trans h.hbase h2, cur, E, h3⟩
      · exact ⟨Nat.le_trans h.hbase (h.own.2 b hb).1, (h.own.2 b hb).2⟩
    · rcases List.mem_cons.1 hb with rfl | hb
      · exact .inl (by simp [Value.ownBlock])
      · exact .inr hb

section
variable {P : Program}
theorem run_append_at (w : World) (base : Nat) (t ty e : TypeId) (i : TypeInfo) (z : Value) (size bytes : Nat) (ht : P.underlying t = some (.slice e)) (hi : P.info? e = some i) (hz : i.zero = some z)
    (hsize : i.size = size) (hby : i.bytes = bytes) (hzs : z.cells.size = size) (hsz : 0 < size)
    (v : Value) (n : Nat) (xs : List Value) (hown : w.ownsRow base e size v n xs)
    (a : Addr) (m c : Nat) (news : List Value) (hl : news.length = m * size) (hnews : ∀ j u, news[j]? = some u → w.cell? (a.add j) = some u) (h1 : ∀ u ∈ news, u.oneCell' = true)
    (h63 : n + m ≤ maxLen) (hbytes : (n + m) * bytes ≤ 140737488355328) (hbase : base ≤ w.heap.size) :
    ∃ v' w', (Builtin.append_ #[t, t] ty #[v, .slice (some a) m c]).run P w = .ok v' w' ∧ w'.ownsRow base e size v' (n + m) (xs ++ news) ∧ w.grownBy w' v.ownBlock ∧
      (v'.ownBlock = v.ownBlock ∨ v'.ownBlock = some w.heap.size) := by
  obtain ⟨v', w', hr, h2, h3, h4⟩ := run_append_own (P := P) w base t ty e i z size bytes ht hi hz hsize hby hzs hsz v n xs hown a m c news hl hnews h1 h63 hbytes hbase
  refine ⟨v', w', hr, h2, h3, ?_⟩
  subst hsize
  subst hby
  have hsmall : n + m ≤ 9223372036854775807 := by simp only [maxLen] at h63; omega
  rcases hown.2 with ⟨rfl, rfl⟩ | ⟨g, cap, cur, rfl, hbg, hg, hnc, hcm, hcs, htake⟩
  · by_cases hm : m = 0
    · exact .inl (by rw [h4.2 ⟨rfl, hm⟩])
    · have hr' := run_append_nil (P := P) w t ty e i z ht hi hz a m c news hl hnews (by omega) (by omega) (by have hb := hbytes; simp only [Nat.zero_add] at hb; omega)
      rw [hr'] at hr
      injection hr with e1 e2
      subst e1
      exact .inr (by simp [Value.ownBlock])
  · by_cases hroom : n + m ≤ cap
    · have hfit : n * i.size + news.length ≤ cur.size := by rw [hl, hcs, ← Nat.add_mul]; exact Nat.mul_le_mul_right _ hroom
      have hr' := run_append_room (P := P) w t ty e i ht hi g n cap cur hg a m c news hl hnews h1 hroom hfit
      rw [hr'] at hr
      injection hr with e1 e2
      subst e1
      exact .inl (by simp [Value.ownBlock])
    · have holds : ∀ j u, xs[j]? = some u → w.cell? ((⟨g, 0, none⟩ : Addr).add j) = some u := hown.cells (g := g) rfl
      have hr' := run_append_grow (P := P) w t ty e i z ht hi hz ⟨g, 0, none⟩ n cap xs hown.1 holds a m c news hl hnews (by omega) (by omega) (growslice_fits (by omega) hbytes)
      rw [hr'] at hr
      injection hr with e1 e2
      subst e1
      exact .inr (by simp [Value.ownBlock])

/-- The append, of m elements that lie at an address. -/
theorem wpList_app {α : Type} {sz : Nat} {R : ER α} (hR : Fr sz R) {ops : Array Oper} {rest : List Oper} {o : Oper} {a : Act} {Q : Exit → Act → World → Prop} {W : World} (hgd : o.guard = none) (s x : Operand) (t : TypeId)
    (ho : o.op = .call { callee := .builtin .append, args := #[s, x], argTypes := #[t, t] })
    {E : TypeId} {z : Value} {bytes : Nat} (ht : P.underlying t = some (.slice E)) (hinfo : (P.info? E).map (fun i => (i.zero, i.size, i.bytes)) = some (some z, sz, bytes)) (hzs : z.cells.size = sz) (hsz : 0 < sz)
    {base : Nat} {w0 : World} {l : List α} {v : Value} {bss : List (List Nat)} (hA : App sz R E base w0 l W v bss) (hs : a.eval s = v)
    {ad : Addr} {m c : Nat} (hx : a.eval x = .slice (some ad) m c) (l2 : List α) (hm : l2.length = m) (news : List Value) (hl : news.length = m * sz) (hnews : ∀ j u, news[j]? = some u → W.cell? (ad.add j) = some u) (h1 : ∀ u ∈ news, u.oneCell' = true)
    (bss2 : List (List Nat)) (hlen2 : bss2.length = m) (hr2 : ∀ i y bi, l2[i]? = some y → bss2[i]? = some bi → R W (fun j => news[i * sz + j]?) y bi)
    (ho2 : zY base bss2.flatten W) (hd2 : ∀ b ∈ bss.flatten, b ∉ bss2.flatten) (hv2 : ∀ b, v.ownBlock = some b → b ∉ bss2.flatten)
    (h63 : l.length + m ≤ maxLen) (hbytes : (l.length + m) * bytes ≤ 140737488355328) (hbase : base ≤ W.heap.size)
    (h : ∀ v' w', App sz R E base w0 (l ++ l2) w' v' (bss ++ bss2) → W.grownBy w' v.ownBlock → (v'.ownBlock = v.ownBlock ∨ v'.ownBlock = some W.heap.size) → wpList P ops Q rest (a.put o.dst v') w') : wpList P ops Q (o :: rest) a W := by
  obtain ⟨xs, hown, he⟩ := hA.row
  obtain ⟨i, hi, hzz⟩ := Option.map_eq_some_iff.1 hinfo
  simp only [Prod.mk.injEq] at hzz
  obtain ⟨hz, hsize, hby⟩ := hzz
  obtain ⟨v', w', hr, h2, h3, h4⟩ := run_append_at (P := P) W base t o.type E i z sz bytes ht hi hz hsize hby hzs hsz v l.length xs hown ad m c news hl hnews h1 h63 hbytes hbase
  have hsame : xT bss.flatten W w' := fun b hb => h3.block b (hA.own.inMem b hb) (fun e => hA.apart b e.symm hb)
  have hsame2 : xT bss2.flatten W w' := fun b hb => h3.block b (ho2.inMem b hb) (fun e => hv2 b e.symm hb)
  have hApp : App sz R E base w0 (l ++ l2) w' v' (bss ++ bss2) := by
    refine ⟨⟨xs ++ news, by rw [List.length_append, hm]; exact h2, fun k y bi hy hbi => ?_⟩, by rw [List.length_append, List.length_append, hA.len, hlen2, hm], hA.hbase, ?_, fun b hb => ?_, ?_⟩
    · by_cases hk : k < l.length
      · rw [List.getElem?_append_left hk] at hy
        rw [List.getElem?_append_left (by rw [hA.len]; exact hk)] at hbi
        have hmul : (k + 1) * sz ≤ l.length * sz := Nat.mul_le_mul_right _ hk
        rw [Nat.add_mul] at hmul
        refine hR _ _ _ _ y bi (he k y bi hy hbi) (fun d hd => hsame d (List.mem_flatten.2 ⟨bi, List.mem_of_getElem? hbi, hd⟩)) (fun j hj => ?_)
        exact List.getElem?_append_left (by rw [hown.1]; omega)
      · rw [List.getElem?_append_right (by omega)] at hy
        rw [List.getElem?_append_right (by rw [hA.len]; omega), hA.len] at hbi
        refine hR _ _ _ _ y bi (hr2 _ y bi hy hbi) (fun d hd => hsame2 d (List.mem_flatten.2 ⟨bi, List.mem_of_getElem? hbi, hd⟩)) (fun j hj => ?_)
        have hge : l.length * sz ≤ k * sz := Nat.mul_le_mul_right _ (by omega)
        rw [List.getElem?_append_right (by rw [hown.1]; omega), hown.1, Nat.sub_mul]
        congr 1
        omega
    · rw [List.flatten_append]
      exact (hA.own.same hsame).append (ho2.same hsame2) hd2
    · rw [List.flatten_append, List.mem_append]
      rintro (hb' | hb')
      · rcases h4 with h4 | h4
        · exact hA.apart b (h4 ▸ hb) hb'
        · rw [h4] at hb; cases hb
          exact absurd (hA.own.inMem _ hb') (Nat.lt_irrefl _)
      · rcases h4 with h4 | h4
        · exact hv2 b (h4 ▸ hb) hb'
        · rw [h4] at hb; cases hb
          exact absurd (ho2.inMem _ hb') (Nat.lt_irrefl _)
    · refine hA.below.grown h3 (hA.below.size) (fun k hk => ?_)
      exact Nat.le_trans hA.hbase (hA.lt k hk).1
  refine wpList_plain hgd fun K hK => ?_
  unfold Oper.wp execOp
  simp only [ho, resolve, invoke, builtin, Sem.run_bind, Sem.run_pure, Result.andThen_ok, List.map_toArray, List.map_cons, List.map_nil, hs, hx, hr]
  exact hK _ _ (h v' w' hApp h3 h4)
/-- The append of one element that lies in a block of its own. -/
theorem wpList_app_one {α : Type} {sz : Nat} {R : ER α} (hR : Fr sz R) {ops : Array Oper} {rest : List Oper} {o : Oper} {a : Act} {Q : Exit → Act → World → Prop} {W : World} (hgd : o.guard = none) (s x : Operand) (t : TypeId)
    (ho : o.op = .call { callee := .builtin .append, args := #[s, x], argTypes := #[t, t] })
    {E : TypeId} {z : Value} {bytes : Nat} (ht : P.underlying t = some (.slice E)) (hinfo : (P.info? E).map (fun i => (i.zero, i.size, i.bytes)) = some (some z, sz, bytes)) (hzs : z.cells.size = sz) (hsz : 0 < sz)
    {base : Nat} {w0 : World} {l : List α} {v : Value} {bss : List (List Nat)} (hA : App sz R E base w0 l W v bss) (hs : a.eval s = v)
    {g c : Nat} (hx : a.eval x = .slice (some ⟨g, 0, none⟩) 1 c) (y : α) {arr : Array Value} {T' : TypeId} (hb : vS W g arr T') (hal : arr.size = sz) (h1 : ∀ u ∈ arr.toList, u.oneCell' = true)
    (bi : List Nat) (hr : R W (fun j => arr[j]?) y bi) (ho2 : zY base bi W) (hd2 : ∀ b ∈ bss.flatten, b ∉ bi) (hv2 : ∀ b, v.ownBlock = some b → b ∉ bi)
    (hlen : (l.length + 1) * bytes ≤ 140737488355328) (hby : 0 < bytes) (hbase : base ≤ W.heap.size)
    (h : ∀ v' w', App sz R E base w0 (l ++ [y]) w' v' (bss ++ [bi]) → W.grownBy w' v.ownBlock → (v'.ownBlock = v.ownBlock ∨ v'.ownBlock = some W.heap.size) → wpList P ops Q rest (a.put o.dst v') w') : wpList P ops Q (o :: rest) a W := by
  have h63 : l.length + 1 ≤ maxLen := by
    have := Nat.le_mul_of_pos_right (l.length + 1) hby
    unfold maxLen
    omega
  refine wpList_app hR hgd s x t ho ht hinfo hzs hsz hA hs hx [y] rfl arr.toList (by rw [Array.length_toList, hal]; omega) (fun j u hu => ?_) h1 [bi] rfl (fun i y' bi' hy hbi => ?_) (by simpa using ho2) (by simpa using hd2) (by simpa using hv2) h63 hlen hbase h
  · have hadd : (⟨g, 0, none⟩ : Addr).add j = ⟨g, j, none⟩ := by unfold Addr.add; split <;> simp_all
    rw [hadd, hb.cell]
    simpa using hu
  · have hi0 : i = 0 := by
      have := (List.getElem?_eq_some_iff.1 hy).1
      simp at this
      exact this
    subst hi0
    cases hy
    cases hbi
    refine hR _ _ _ _ _ _ hr (fun _ _ => rfl) (fun j _ => ?_)
    simp
/-- .. of one number. -/
theorem wpList_app_int {ops : Array Oper} {rest : List Oper} {o : Oper} {a : Act} {Q : Exit → Act → World → Prop} {W : World} (hgd : o.guard = none) (s x : Operand) (t : TypeId)
    (ho : o.op = .call { callee := .builtin .append, args := #[s, x], argTypes := #[t, t] })
    {E : TypeId} (ht : P.underlying t = some (.slice E)) (hinfo : (P.info? E).map (fun i => (i.zero, i.size, i.bytes)) = some (some (.int .i64 0), 1, 8))
    {base : Nat} {w0 : World} {l : List Int} {v : Value} {bss : List (List Nat)} (hA : App 1 xK E base w0 l W v bss) (hs : a.eval s = v)
    {g c : Nat} (hx : a.eval x = .slice (some ⟨g, 0, none⟩) 1 c) (y : Int) {T' : TypeId} (hb : vS W g #[.int .i64 y] T') (hy : xY y)
    (hlen : l.length + 1 ≤ 17592186044416) (hbase : base ≤ W.heap.size)
    (h : ∀ v' w', App 1 xK E base w0 (l ++ [y]) w' v' (bss ++ [[]]) → W.grownBy w' v.ownBlock → (v'.ownBlock = v.ownBlock ∨ v'.ownBlock = some W.heap.size) → wpList P ops Q rest (a.put o.dst v') w') : wpList P ops Q (o :: rest) a W :=
  wpList_app_one xK.fr hgd s x t ho ht hinfo rfl (by decide) hA hs hx y hb rfl (by simp [Value.oneCell']) [] ⟨rfl, hy, rfl⟩ (zY.nil _ _) (fun _ _ h => by cases h) (fun _ _ h => by cases h) (by omega) (by decide) hbase h
end
end Go.Proofs.YtmgdjaiaekhkgaaGreat
