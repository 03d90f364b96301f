/-
  The program's text of a refutation is the reference's, for all lists of lines. No condition.
-/
import Derived.Test.YtjjdbdlbjdoebaaDoorM33
import Derived.Test.YtjjdbdlbjdoebaaDoorMC
import Derived.Test.YtjjdbdlbjdoebaaDoorLRefutationText
import Derived.Test.YtjjdbdlbjdoebaaDoorGF
namespace Go.Proofs.YtjjdbdlbjdoebaaDoor
set_option linter.unusedVariables false
set_option linter.unusedSimpArgs false
open Go.ChangeShapes Go.WideShapes Go.ChangeAt Go.RowKit Go.Deep
set_option maxRecDepth 100000

theorem law_RefutationText {N : Nat} (hN : 20 ≤ N) (x : List Line) : laws_FnExactRefutationText N x = some true := by
  unfold laws_FnExactRefutationText
  obtain ⟨z, h1, h2⟩ := szq_two (left := 1048576) (n := x.length) (by decide) (by decide)
  rw [h1, bnd_s]
  rcases h2 with h2 | ⟨h2, h3, h4⟩
  · rw [h2]; rfl
  · rw [h2, if_neg (by simp), toq_eq (by omega), bnd_s, RefutationText_spec hN, bnd_s, RefutationText_impl, bnd_s, sEq_self, eqq_eq]
    rfl
theorem walk_FnExactRefutationText {w : World} (hG : Glo w) (v1 : Value) (x : List Line) (bs1 : List Nat) (h1 : Sl 4 RLine w v1 x bs1) (hm1 : InMem bs1 w) :
    Calls Tryd.prog 4 #[v1] w (Says (.bool true) w) := by
  obtain ⟨N, hN⟩ : ∃ N, 20 ≤ N := ⟨_, Nat.le_refl _⟩
  exact laws_FnExactRefutationText_c true (law_RefutationText hN x) w hG ⟨h1, hm1⟩
/-- What the row asks. -/
theorem own_FnExactRefutationText : ownKnob Tryd.prog.godebug = none := by kernel_rfl
theorem lmet_FnExactRefutationText (os : Os) (args : Array Value) : laidMetH Tryd.prog Rows.fnExactRefutationTextRow.laid ((World.laidAll Tryd.prog os Rows.fnExactRefutationTextRow.laid).forCall (fun _ _ => 0) ⟨#[], args, []⟩).memory := by
  rw [MakeChecks.laidMetH_plain _ _ _ (by kernel_rfl)]; exact laidMet_laidAll _ (by kernel_rfl) (by kernel_rfl)
theorem wit_FnExactRefutationText (os : Os) {H : Type} (enc : TypeId × Value → H) : (OpenSpec.ofChange Rows.fnExactRefutationTextSpec).preRow enc Tryd.prog Tryd.f4 Rows.fnExactRefutationTextRow.domain false Rows.fnExactRefutationTextRow.laid ((World.laidAll Tryd.prog os Rows.fnExactRefutationTextRow.laid).forCall (fun _ _ => 0) ⟨#[], #[.slice none 0 0], []⟩).memory #[.slice none 0 0] := by
  have hw : (DataW.whole enc Tryd.prog ((World.laidAll Tryd.prog os Rows.fnExactRefutationTextRow.laid).forCall (fun _ _ => 0) ⟨#[], #[.slice none 0 0], []⟩).memory Tryd.f4.params.toList (OpenSpec.ofChange Rows.fnExactRefutationTextSpec).vars false (#[.slice none 0 0] : Array Value).toList 12).isSome = true := by kernel_rfl
  obtain ⟨x, hx⟩ := Option.isSome_iff_exists.1 hw
  exact OpenSpec.preRow_of_cond 12 hx rfl (fun k hk => by cases hk) (by kernel_rfl) (lmet_FnExactRefutationText os _)
set_option maxRecDepth 100000 in
theorem lifted_FnExactRefutationText (os : Os) (started : os.Started) (H : Type) (enc : TypeId × Value → H) (F0 : Stop.Interp) :
    ReturnsInHanded {} Tryd.checked os 4 .any ((OpenSpec.ofChange Rows.fnExactRefutationTextSpec).preRow enc Tryd.prog Tryd.f4 Rows.fnExactRefutationTextRow.domain false Rows.fnExactRefutationTextRow.laid) (((OpenSpec.ofChange Rows.fnExactRefutationTextSpec).at F0).post enc Tryd.prog Tryd.f4 false true false false) := by
  refine returnsInHanded_of_row (C := Tryd.checked) (s := (OpenSpec.ofChange Rows.fnExactRefutationTextSpec)) own_FnExactRefutationText started (by kernel_rfl) Tryd.func4
    (witness_row_at (enc := enc) (C := Tryd.checked) false (World.laidAll Tryd.prog os Rows.fnExactRefutationTextRow.laid) #[.slice none 0 0] (World.laidAll_os _ _ _) (by kernel_rfl) (by kernel_rfl) (by kernel_rfl) (wit_FnExactRefutationText os enc)) ?_
  intro W base args ds gs before hval0 hW _ _ _ hL hsh _
  have hval : ∀ (j : Nat) t v, Tryd.f4.params[j]? = some t → args[j]? = some v → Value.okWide Tryd.prog W .any base t v := hval0
  have hW' := hW
  obtain ⟨p, q, hA0, hV, rfl, hfz, hnd⟩ := hW
  have hA : DataW.TrodAll enc Tryd.prog W 0 (fun _ => true) true Tryd.f4.params.toList args.toList ds p := hA0
  rw [Tryd.params4] at hA hval
  obtain ⟨v0, vs0, d0, ds0, p0, q0, hargs, rfl, rfl, h0, r0⟩ := trodAll_cons hA
  obtain ⟨rfl, rfl, rfl⟩ := trodAll_nil r0
  obtain rfl : args = #[v0] := by cases args; simp_all
  obtain ⟨rfl, rfl⟩ := trodVars_none hV
  obtain ⟨x0, bs0, g0, m0⟩ := open_sl Tryd.underlying28 opens_SLine (hval 0 28 v0 rfl rfl) h0
  clear hval0
  rw [MakeChecks.laidMetH_plain _ _ _ (by kernel_rfl)] at hL
  have hG : Glo W := ⟨tab_of_laid hL (by unfold Rows.fnExactRefutationTextRow; simp [tab_data]), layS.s1_3 W hsh⟩
  have hlt0 : ∀ x ∈ p0, x.block < W.heap.size := fun x hx => hW'.lt x (by simp [hx])
  refine (walk_FnExactRefutationText hG v0 x0 bs0 g0 m0).mono fun e W' ⟨he, hg⟩ => ?_
  subst he
  exact ⟨_, rfl, _, _, _, [], _, [], hW', trodAll_cons_mk (shut_bool Tryd.underlying4 true) trodAll_mk0, (trodAll_cons_mk (Below.trod Tryd.laidOut (by kernel_rfl) (of_decide_eq_true (by kernel_rfl)) h0 hg hlt0) trodAll_mk0), rfl, hg.frame _, fun h => by cases h⟩
theorem FnExactRefutationText_row : Rows.FnExactRefutationTextSaid :=
  OpenClaim.holds_of_cond 4 Tryd.f4 rfl rfl rfl rfl rfl rfl rfl ⟨rfl, rfl, rfl, rfl, rfl⟩ rfl rfl rfl rfl rfl (by kernel_rfl) Tryd.func4 (by kernel_rfl)
    (of_decide_eq_true (by kernel_rfl)) (by unfold Func.isWrapper; first | (rw [if_pos (by decide +kernel)]; kernel_rfl) | (rw [if_neg (by decide +kernel)]; exact ⟨rfl, rfl⟩))
    (fun os started H enc _ F0 => by rw [OpenClaim.pre_eq_preRow]; exact lifted_FnExactRefutationText os started H enc F0)
theorem FnExactRefutationTextCard_holds : Rows.FnExactRefutationTextCardSaid :=
  Claim7.holds_tied_plain_at .later [] [.data, .data, .data] true (true, "61548f62f8bb4edc89a8024d197c1683b4f294cce198c3fd892b0facb79e265a") true
    FnExactRefutationText_row (fun _ h => by cases h) (by kernel_rfl) (fun _ h => by cases h) fnExactRefutationText_row_tie rfl ⟨rfl, rfl⟩ (by kernel_rfl) rfl
    (fun f fn hf hfn => by
      obtain rfl : f = 4 := Option.some.inj ((show Tryd.prog.funcNamed "loop.example/g01085/laws.FnExactRefutationText" = some 4 by kernel_rfl).symm.trans hf) |>.symm
      obtain rfl : fn = Tryd.f4 := (Option.some.inj (Tryd.func4.symm.trans hfn)).symm
      exact ⟨by kernel_rfl, fun j t ht => by
        rw [Tryd.params4] at ht
        have hm : t ∈ [28] := by simpa using Array.mem_of_getElem? ht
        have hall : ([28].all fun u => !Tryd.prog.wantsStandIn u) = true := by kernel_rfl
        exact (show Tryd.prog.wantsStandIn t = false by simpa using List.all_eq_true.1 hall t hm)⟩)
    (by kernel_rfl)
end Go.Proofs.YtjjdbdlbjdoebaaDoor
