/-
  Plain laws: a search goes the same way in both.
-/
import Derived.Test.YtfepllddlmhjiaaGreatM11
import Derived.Test.YtfepllddlmhjiaaGreatS3
namespace Go.Proofs.YtfepllddlmhjiaaGreat
set_option linter.unusedVariables false
set_option linter.unusedSimpArgs false

/-- How two rounds end: both go on, or both end (in whatever way). -/
def CtlG {σ σ' ρ ρ' : Type} (R : σ → σ' → Prop) (EE : Out σ ρ → Out σ' ρ' → Prop) : Ctl σ ρ → Ctl σ' ρ' → Prop
  | .go s, .go s' => R s s'
  | .brk s, .brk s' => EE (.nx s) (.nx s')
  | .brk s, .ret r' => EE (.nx s) (.ret r')
  | .ret r, .brk s' => EE (.ret r) (.nx s')
  | .ret r, .ret r' => EE (.ret r) (.ret r')
  | _, _ => False
theorem Two.loop {σ σ' ρ ρ' : Type} {P : ρ → ρ' → Prop} (R : σ → σ' → Prop) (μ : σ → Nat) {f : σ → Option (Ctl σ ρ)} {g : σ' → Option (Ctl σ' ρ')} {k : σ → Option ρ} {k' : σ' → Option ρ'} :
    ∀ {N : Nat} {s : σ} {s' : σ'}, μ s < N → R s s' → (∀ s s', R s s' → Two (f s) (g s') (CtlG (fun t t' => R t t' ∧ μ t < μ s) (fun e e' => Two (Go.Proofs.YtfepllddlmhjiaaGreat.thn (some e) k) (Go.Proofs.YtfepllddlmhjiaaGreat.thn (some e') k') P))) → Two (Go.Proofs.YtfepllddlmhjiaaGreat.thn (Go.Proofs.YtfepllddlmhjiaaGreat.whl f N s) k) (Go.Proofs.YtfepllddlmhjiaaGreat.thn (Go.Proofs.YtfepllddlmhjiaaGreat.whl g N s') k') P
  | 0, _, _, h, _, _ => by omega
  | N + 1, s, s', hN, h, hh => by
    obtain ⟨a, b, h1, h2, h3⟩ := hh s s' h
    cases a with
    | go t =>
      cases b with
      | go t' =>
        rw [whl_go h1, whl_go h2]
        exact Two.loop R μ (by have := h3.2; omega) h3.1 hh
      | brk t' => exact h3.elim
      | ret r' => exact h3.elim
    | brk t =>
      cases b with
      | go t' => exact h3.elim
      | brk t' => rw [whl_brk h1, whl_brk h2]; exact h3
      | ret r' => rw [whl_brk h1, whl_rt h2]; exact h3
    | ret r =>
      cases b with
      | go t' => exact h3.elim
      | brk t' => rw [whl_rt h1, whl_brk h2]; exact h3
      | ret r' => rw [whl_rt h1, whl_rt h2]; exact h3
theorem lines_loop {ρ : Type} (f : ArcStep → Line) : ∀ (out : List ArcStep) (k : Nat) (s : List Line), s.length + out.length ≤ 1048576 → forL (σ := List Line) (ρ := ρ) (fun (k : Nat) (x : ArcStep) (s : List Line) => bnd (ap s [f x]) fun z => some (.go z)) out k s = some (.nx (s ++ out.map f))
  | [], _, s, _ => by simp
  | x :: out, k, s, h => by
    rw [List.length_cons] at h
    rw [forL_go (s' := s ++ [f x]) (by rw [ap_eq (by simp only [List.length_cons, List.length_nil]; omega), bnd_s]), lines_loop f out (k + 1) _ (by simp only [List.length_append, List.length_singleton]; omega)]
    simp
theorem val_loop {ρ : Type} : ∀ (dom : List (List Int)) (k : Nat) (s : List Int), Full dom → s.length + dom.length ≤ 1048576 → forL (σ := List Int) (ρ := ρ) (fun (k : Nat) (x : List Int) (s : List Int) => bnd (ix x 0) fun z => bnd (ap s [z]) fun z2 => some (.go z2)) dom k s = some (.nx (s ++ dom.map (fun d => d.getD 0 0)))
  | [], _, s, _, _ => by simp
  | x :: dom, k, s, hF, h => by
    rw [List.length_cons] at h
    have hx : 0 < x.length := List.length_pos_iff.2 (hF x (by simp))
    have h0 : ix x 0 = some (x.getD 0 0) := ix_getD (k := 0) hx
    rw [forL_go (s' := s ++ [x.getD 0 0]) (by rw [h0, bnd_s, ap_eq (by simp only [List.length_cons, List.length_nil]; omega), bnd_s]), val_loop dom (k + 1) _ (fun d hd => hF d (by simp [hd])) (by simp only [List.length_append, List.length_singleton]; omega)]
    simp
theorem own_lists {ρ : Type} (g : List Int → Option (List Int)) (hg : ∀ l : List Int, l.length ≤ 1048576 → g l = some l) : ∀ (dom : List (List Int)) (k : Nat) (s : List (List Int)), (∀ d ∈ dom, d.length ≤ 1048576) → s.length + dom.length ≤ 1048576 → forL (σ := List (List Int)) (ρ := ρ) (fun (k : Nat) (x : List Int) (s : List (List Int)) => bnd (g x) fun z => bnd (ap s [z]) fun z2 => some (.go z2)) dom k s = some (.nx (s ++ dom))
  | [], _, s, _, _ => by simp
  | x :: dom, k, s, hF, h => by
    rw [List.length_cons] at h
    rw [forL_go (s' := s ++ [x]) (by rw [hg x (hF x (by simp)), bnd_s, ap_eq (by simp only [List.length_cons, List.length_nil]; omega), bnd_s]), own_lists g hg dom (k + 1) _ (fun d hd => hF d (by simp [hd])) (by simp only [List.length_append, List.length_singleton]; omega)]
    simp
theorem ownLists_eq (dom : List (List Int)) (h : ∀ d ∈ dom, d.length ≤ 1048576) (hl : dom.length ≤ 1048576) : impl_ownLists dom = some dom := by
  unfold impl_ownLists
  rw [own_lists _ clone_eq dom 0 [] h (by simpa using hl), thn_nx]; rfl
theorem l05Copies_eq (dom : List (List Int)) (h : ∀ d ∈ dom, d.length ≤ 1048576) (hl : dom.length ≤ 1048576) : spec_l05Copies dom = some dom := by
  unfold spec_l05Copies
  rw [own_lists _ own_eq dom 0 [] h (by simpa using hl), thn_nx]; rfl
theorem branch_eq (dom : List (List Int)) (a : Template) (b : Instance) (c d : Int) (e : List Line) (f : List Int) (g : Bool) : ∃ v, impl_branch dom = some v ∧ spec_l08Search_next a b c d e f g dom = some v ∧ -1 ≤ v ∧ (0 ≤ v → ∃ q, ix dom v = some q ∧ dom[v.toNat]? = some q ∧ 2 ≤ q.length) := by
  unfold impl_branch spec_l08Search_next
  obtain ⟨s', h1, h2, h3⟩ := forL_twoS (l := dom) (k := 0) (s := (-1 : Int)) (f := fun (k67 : Nat) (x69 : (List Int)) (s63 : Int) =>
      thn (σ := Bool) (
        if (decide (2 ≤ (x69.length : Int))) then   if (decide (s63 < 0)) then   some (.nx true) else   bnd (ix dom s63) fun z104 =>
            some (.nx (decide ((x69.length : Int) < (z104.length : Int)))) else   some (.nx false)) fun s99 =>
      if s99 then
        some (Ctl.go (ρ := Int) (k67 : Int))
      else
        some (.go s63)) (g := fun (k92 : Nat) (x94 : (List Int)) (s88 : Int) =>
      thn (σ := Bool) (
        if (decide (1 < (x94.length : Int))) then   if (decide (s88 < 0)) then   some (.nx true) else   bnd (ix dom s88) fun z154 =>
            some (.nx (decide ((x94.length : Int) < (z154.length : Int)))) else   some (.nx false)) fun s133 =>
      if s133 then
        some (Ctl.go (ρ := Int) (k92 : Int))
      else
        some (.go s88)) (fun k s => -1 ≤ s ∧ s < (k : Int) ∧ (0 ≤ s → ∃ q, ix dom s = some q ∧ dom[s.toNat]? = some q ∧ 2 ≤ q.length)) ⟨by omega, by omega, fun h => by omega⟩ (fun j x s hj hI => by
    obtain ⟨i1, i2, i3⟩ := hI
    rw [Nat.zero_add] at i2 ⊢
    have hd : decide (1 < (x.length : Int)) = decide (2 ≤ (x.length : Int)) := by
      by_cases h : 2 ≤ (x.length : Int)
      · rw [decide_eq_true h, decide_eq_true (by omega)]
      · rw [decide_eq_false h, decide_eq_false (by omega)]
    rw [hd]
    have hgo : 2 ≤ (x.length : Int) → -1 ≤ (j : Int) ∧ (j : Int) < ((j + 1 : Nat) : Int) ∧ (0 ≤ (j : Int) → ∃ q, ix dom (j : Int) = some q ∧ dom[(j : Int).toNat]? = some q ∧ 2 ≤ q.length) := fun h => ⟨by omega, by omega, fun _ => ⟨x, ix_nat hj, by simpa using hj, by omega⟩⟩
    have hst : -1 ≤ s ∧ s < ((j + 1 : Nat) : Int) ∧ (0 ≤ s → ∃ q, ix dom s = some q ∧ dom[s.toNat]? = some q ∧ 2 ≤ q.length) := ⟨i1, by omega, i3⟩
    by_cases h2 : 2 ≤ (x.length : Int)
    · rw [decide_eq_true h2]
      by_cases h3 : s < 0
      · rw [decide_eq_true h3]
        exact ⟨(j : Int), rfl, rfl, hgo h2⟩
      · rw [decide_eq_false h3]
        obtain ⟨q, q1, q2, q3⟩ := i3 (by omega)
        simp only [if_true, Bool.false_eq_true, if_false, q1, bnd_s, thn_nx]
        by_cases h4 : (x.length : Int) < (q.length : Int)
        · rw [decide_eq_true h4]; exact ⟨(j : Int), rfl, rfl, hgo h2⟩
        · rw [decide_eq_false h4]; exact ⟨s, rfl, rfl, hst⟩
    · rw [decide_eq_false h2]
      exact ⟨s, rfl, rfl, hst⟩)
  rw [h1, h2, thn_nx]
  exact ⟨s', rfl, rfl, h3.1, h3.2.2⟩
/-- One step: the arcs of a level. -/
theorem step_two {N n : Nat} {x : Template} {y : Instance} {bud st cd : Int} {ln : List Line} {vl : List Int} {dom : List (List Int)} (hN : 60 ≤ N) (hn : n ≤ 10) (hy : ∀ c ∈ y.cons, ConOk x c n) (hok : DomOk n 40 dom) (hs0 : 0 ≤ st) (hs1 : st < bud) (hb : bud ≤ 5000) (hln : (ln.length : Int) ≤ 42 * st) :
    ∃ dom' out, impl_searcher_arcs N x.size x.rels y.vars y.cons bud st ln vl cd dom = some (true, st + 1, ln ++ out.map (fun a => Line.mk 2 a.var a.value a.con), vl, cd, dom') ∧ spec_l05ArcsUntil N x y dom true = some (out, dom') ∧ DomOk n 40 dom' ∧ out.length ≤ 40 := by
  have hck : ck (st + 1) = some (st + 1) := ck_eq (by omega) (by omega)
  have hlen := hok.len
  have hle := hok.le
  unfold impl_searcher_arcs
  rw [if_neg (by simp; omega), hck, bnd_s, isEmpty_any, bnd_s]
  by_cases hF : Full dom
  · have hok2 : DomOk n (tot dom) dom := ⟨hok.len, hok.nd, Nat.le_refl _⟩
    obtain ⟨⟨out, dom'⟩, r', h1, h2, rfl, h3, h4⟩ := arcs_two (N := N) (x := x) (y := y) (by omega) hy hok2 (by omega) (by omega) (by omega) (by omega) hF
    simp only at h3 h4
    refine ⟨dom', out, ?_, h2, ⟨h3.len, h3.nd, by omega⟩, by omega⟩
    rw [(full_iff dom).2 hF, if_neg (by simp), show (Template.mk x.size x.rels) = x from rfl, show (Instance.mk y.vars y.cons) = y from rfl, h1, bnd_s]
    simp only
    rw [lines_loop (fun a => Line.mk 2 a.var a.value a.con) out 0 ln (by omega), thn_nx]
  · have h2 : (dom.any (fun d => (d.length : Int) == 0)) = true := by
      cases h3 : (dom.any (fun d => (d.length : Int) == 0)) with
      | true => rfl
      | false => exact absurd ((full_iff dom).1 h3) hF
    refine ⟨dom, [], ?_, arcs_none (by omega) (by omega) hF, hok, by simp⟩
    rw [h2, if_pos rfl]
    simp
/-- Lines that open and close alike: each choice (1) is closed by an emptiness (3). -/
inductive Bal : List Line → Prop
  | nil : Bal []
  | two {l : List Line} {x : Line} : Bal l → x.kind ≠ 1 → x.kind ≠ 3 → Bal (l ++ [x])
  | pair {l s : List Line} {x z : Line} : Bal l → x.kind = 1 → Bal s → z.kind = 3 → Bal (l ++ ([x] ++ (s ++ [z])))
theorem Bal.twos {l : List Line} : ∀ (m : List Line), Bal l → (∀ x ∈ m, x.kind ≠ 1 ∧ x.kind ≠ 3) → Bal (l ++ m)
  | [], h, _ => by rw [List.append_nil]; exact h
  | x :: m, h, hm => by
    have := Bal.twos m (h.two (hm x (by simp)).1 (hm x (by simp)).2) (fun y hy => hm y (by simp [hy]))
    simpa using this
/-- What a level's end is in both. -/
structure LEnd (n : Nat) (bud st : Int) (ln : List Line) (r : Bool × Int × (List Line) × (List Int) × Int × (List (List Int))) (r' : Bool × Int × (List Line) × (List Int) × Bool × (List (List Int))) : Prop where
  eb : r'.1 = !r.1
  est : r'.2.1 = r.2.1
  eln : r'.2.2.1 = r.2.2.1
  evl : r'.2.2.2.1 = r.2.2.2.1
  ecd : (r.2.2.2.2.1 = 0 ∧ r'.2.2.2.2.1 = false) ∨ (r.2.2.2.2.1 = 7 ∧ r'.2.2.2.2.1 = true ∧ r.1 = false)
  ego : r.1 = true → r.2.2.2.1 = []
  elo : st ≤ r.2.1
  ehi : r.2.1 ≤ bud
  ele : (r.2.2.1.length : Int) ≤ 42 * r.2.1
  evn : r.2.2.2.1.length ≤ n
  ebr : r.1 = true → ∃ seg i, Bal seg ∧ r.2.2.1 = ln ++ (seg ++ [Line.mk 3 i 0 0])
theorem level_two {n : Nat} {x : Template} {y : Instance} {bud : Int} (hn : n ≤ 10) (hy : ∀ c ∈ y.cons, ConOk x c n) (hb : bud ≤ 5000) : ∀ (m N : Nat) (st : Int) (ln : List Line) (dom : List (List Int)), (bud - st).toNat ≤ m → m + 70 ≤ N → 0 ≤ st → st ≤ bud → (ln.length : Int) ≤ 42 * st → DomOk n 40 dom →
    Two (impl_searcher_level N x.size x.rels y.vars y.cons bud st ln [] 0 dom) (spec_l08Search_level N x y bud st ln [] false dom) (LEnd n bud st ln) := by
  intro m
  induction m with
  | zero =>
    intro N st ln dom hm hN h0 h1 hl hok
    obtain ⟨N, rfl⟩ : ∃ k, N = k + 1 := ⟨N - 1, by omega⟩
    have he : st = bud := by omega
    subst he
    rw [impl_searcher_level, spec_l08Search_level]
    obtain ⟨N, rfl⟩ : ∃ k, N = k + 1 := ⟨N - 1, by omega⟩
    have e1 : impl_searcher_arcs (N + 1) x.size x.rels y.vars y.cons st st ln [] 0 dom = some (false, st, ln, [], 7, dom) := by
      unfold impl_searcher_arcs
      rw [if_pos (by simp)]
    rw [whl_brk (s' := (dom, st, ln, [], 7)) (by simp only [e1, bnd_s]; rfl), thn_nx]
    rw [whl_rt (r := (true, st, ln, [], true, dom)) (by simp), thn_ret]
    exact Two.s ⟨rfl, rfl, rfl, rfl, .inr ⟨rfl, rfl, rfl⟩, (fun h => nomatch h), by simp, by simp, hl, by simp, (fun h => nomatch h)⟩
  | succ m ih =>
    intro N st ln dom hm hN h0 h1 hl hok
    obtain ⟨N, rfl⟩ : ∃ k, N = k + 1 := ⟨N - 1, by omega⟩
    rw [impl_searcher_level, spec_l08Search_level]
    refine Two.loop (fun s s' => ∃ d t l, s = (d, t, l, [], 0) ∧ s' = (d, t, l, [], false) ∧ st ≤ t ∧ t ≤ bud ∧ (l.length : Int) ≤ 42 * t ∧ DomOk n 40 d ∧ ∃ seg, Bal seg ∧ l = ln ++ seg) (fun s => (bud - s.2.1).toNat) (by simp only; omega) ⟨dom, st, ln, rfl, rfl, by omega, h1, hl, hok, [], Bal.nil, by simp⟩ (fun s s' hR => ?_)
    obtain ⟨d, t, l, rfl, rfl, ht0, ht1, hll, hdok, seg, hseg, hsl⟩ := hR
    simp only
    by_cases htb : t = bud
    · subst htb
      have e1 : impl_searcher_arcs N x.size x.rels y.vars y.cons t t l [] 0 d = some (false, t, l, [], 7, d) := by
        unfold impl_searcher_arcs
        rw [if_pos (by simp)]
      refine Two.l e1 ?_
      rw [if_neg (by simp), if_pos (by simp)]
      refine Two.s ?_
      show Two (thn (some (.nx _)) _) (thn (some (.ret _)) _) _
      rw [thn_nx, thn_ret]
      exact Two.s ⟨rfl, rfl, rfl, rfl, .inr ⟨rfl, rfl, rfl⟩, (fun h => nomatch h), ht0, by simp, hll, by simp, (fun h => nomatch h)⟩
    · obtain ⟨d', out, e1, e2, hd'ok, hout⟩ := step_two (N := N) (bud := bud) (st := t) (cd := 0) (ln := l) (vl := []) (dom := d) (x := x) (y := y) (by omega) hn hy hdok (by omega) (by omega) hb hll
      obtain ⟨ln', hln'⟩ : ∃ q, q = l ++ out.map (fun a => Line.mk 2 a.var a.value a.con) := ⟨_, rfl⟩
      rw [← hln'] at e1
      have hln'l : (ln'.length : Int) ≤ 42 * t + 40 := by rw [hln', List.length_append, List.length_map]; omega
      have hbal : Bal (seg ++ out.map (fun a => Line.mk 2 a.var a.value a.con)) := Bal.twos _ hseg (fun q hq => by
        obtain ⟨a, _, rfl⟩ := List.mem_map.1 hq
        exact ⟨show (2 : Int) ≠ 1 by decide, show (2 : Int) ≠ 3 by decide⟩)
      obtain ⟨sg, hsg⟩ : ∃ sg, sg = seg ++ out.map (fun a => Line.mk 2 a.var a.value a.con) := ⟨_, rfl⟩
      have hlns : ln' = ln ++ sg := by rw [hln', hsg, hsl, List.append_assoc]
      rw [← hsg] at hbal
      have hd'len := hd'ok.len
      have hd'le := hd'ok.le
      have hck : ck (t + 1) = some (t + 1) := ck_eq (by omega) (by omega)
      have hsml : ∀ q ∈ d', q.length ≤ 1048576 := fun q hq => by have := len_le_tot hq; omega
      refine Two.l e1 ?_
      rw [if_pos rfl, if_neg (by simpa using htb)]
      refine Two.r hck (Two.r e2 ?_)
      simp only
      rw [lines_loop (fun a => Line.mk 2 a.var a.value a.con) out 0 l (by omega), thn_nx, ← hln']
      obtain ⟨i, i1, i2⟩ := forL_idx d' (fun q => (q.length : Int) == 0) (fun a0 => impl_isEmpty a0) (fun _ _ => rfl)
      have i3 : slices_IndexFunc_s_s_int64_s_int64 d' (fun a0 => impl_isEmpty a0) = some i := i1
      have i4 : spec_l08Search_empty x y bud (t + 1) ln' [] false d' = some i := i1
      refine Two.l i3 (Two.r i4 ?_)
      cases hany : d'.any (fun q => (q.length : Int) == 0) with
      | true =>
        rw [hany] at i2
        have hap : ap ln' [Line.mk 3 i 0 0] = some (ln' ++ [Line.mk 3 i 0 0]) := ap_eq (by simp only [List.length_cons, List.length_nil]; omega)
        rw [if_pos i2, if_pos i2]
        refine Two.l hap (Two.r hap (Two.s ?_))
        show Two (thn (some (.ret _)) _) (thn (some (.ret _)) _) _
        rw [thn_ret, thn_ret]
        exact Two.s ⟨rfl, rfl, rfl, rfl, .inl ⟨rfl, rfl⟩, fun _ => rfl, by simp only; omega, by simp only; omega, by simp only [List.length_append, List.length_singleton]; omega, by simp, fun _ => ⟨sg, i, hbal, by simp only [hlns, List.append_assoc]⟩⟩
      | false =>
        rw [hany] at i2
        have hF' := (full_iff d').1 hany
        rw [if_neg (by rw [i2]; simp), if_neg (by rw [i2]; simp)]
        obtain ⟨v, b1, b2, b3, b4⟩ := branch_eq d' x y bud (t + 1) ln' [] false
        refine Two.l b1 (Two.r b2 ?_)
        by_cases hv : v < 0
        · rw [if_pos (by simpa using hv), if_pos (by simpa using hv)]
          rw [val_loop d' 0 [] hF' (by simp; omega), val_loop d' 0 [] hF' (by simp; omega), thn_nx, thn_nx]
          refine Two.s ?_
          show Two (thn (some (.ret _)) _) (thn (some (.ret _)) _) _
          rw [thn_ret, thn_ret]
          exact Two.s ⟨rfl, rfl, rfl, rfl, .inl ⟨rfl, rfl⟩, (fun h => nomatch h), by simp only; omega, by simp only; omega, by simp only; omega, by simp; omega, (fun h => nomatch h)⟩
        · rw [if_neg (by simpa using hv), if_neg (by simpa using hv)]
          obtain ⟨q, q1, q2, q3⟩ := b4 (by omega)
          have hqm : q ∈ d' := List.mem_of_getElem? q2
          have hq0 : ix q 0 = some (q.getD 0 0) := ix_getD (k := 0) (by omega)
          obtain ⟨a, ha⟩ : ∃ a, a = q.getD 0 0 := ⟨_, rfl⟩
          rw [← ha] at hq0
          have hap : ap ln' [Line.mk 1 v a 0] = some (ln' ++ [Line.mk 1 v a 0]) := ap_eq (by simp only [List.length_cons, List.length_nil]; omega)
          have hin : DomOk n 40 (d'.set v.toNat [a]) := hd'ok.set q2 (by simp) (by simp; omega)
          have hout2 : DomOk n 40 (d'.set v.toNat (q.filter (· != a))) := hd'ok.set q2 ((hd'ok.nd q hqm).filter _) (List.length_filter_le _ _)
          refine Two.l q1 (Two.r q1 (Two.l hq0 (Two.r hq0 (Two.l hap (Two.r hap (Two.l (ownLists_eq d' hsml (by omega)) (Two.r (l05Copies_eq d' hsml (by omega)) (Two.l q1 (Two.r q1 ?_)))))))))
          refine Two.bnd (ih N (t + 1) (ln' ++ [Line.mk 1 v a 0]) (d'.set v.toNat [a]) (by omega) (by omega) (by omega) (by omega) (by simp only [List.length_append, List.length_singleton]; omega) hin) (fun r r' hE => ?_)
          obtain ⟨b, s2, l2, v2, c2, dd⟩ := r
          obtain ⟨b', s2', l2', v2', o2, dd'⟩ := r'
          obtain ⟨E1, E2, E3, E4, E5, E6, E7, E8, E9, E10, E11⟩ := hE
          simp only at E1 E2 E3 E4 E5 E6 E7 E8 E9 E10 E11 ⊢
          subst E1 E2 E3 E4
          cases b with
          | false =>
            simp only [Bool.not_false, if_true]
            refine Two.s ?_
            show Two (thn (some (.ret _)) _) (thn (some (.ret _)) _) _
            rw [thn_ret, thn_ret]
            exact Two.s ⟨rfl, rfl, rfl, rfl, E5, (fun h => nomatch h), by simp only; omega, E8, E9, E10, (fun h => nomatch h)⟩
          | true =>
            simp only [Bool.not_true, Bool.false_eq_true, if_false]
            have hc : c2 = 0 ∧ o2 = false := by
              rcases E5 with h | ⟨_, _, h⟩
              · exact h
              · cases h
            obtain ⟨rfl, rfl⟩ := hc
            have hv2 := E6 rfl
            subst hv2
            have hql := hsml q hqm
            have hqt := len_le_tot hqm
            refine Two.l (without_eq q a hql (by omega)) (Two.r (l05Without_eq q a hql) (Two.s ?_))
            obtain ⟨sg2, i2', hb2, hl2⟩ := E11 rfl
            refine ⟨⟨_, _, _, rfl, rfl, by omega, E8, E9, hout2, sg ++ ([Line.mk 1 v a 0] ++ (sg2 ++ [Line.mk 3 i2' 0 0])), Bal.pair hbal rfl hb2 rfl, ?_⟩, by simp only; omega⟩
            rw [hl2, hlns]
            simp only [List.append_assoc]
end Go.Proofs.YtfepllddlmhjiaaGreat
