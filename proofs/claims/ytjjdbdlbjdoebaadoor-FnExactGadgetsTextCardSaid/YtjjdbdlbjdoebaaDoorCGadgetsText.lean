/-
  The program's text of gadgets is the reference's, for all gadgets. No condition.
-/
import Derived.Test.YtjjdbdlbjdoebaaDoorM31
import Derived.Test.YtjjdbdlbjdoebaaDoorMC
import Derived.Test.YtjjdbdlbjdoebaaDoorLGadgetsText
import Derived.Test.YtjjdbdlbjdoebaaDoorGF
namespace Go.Proofs.YtjjdbdlbjdoebaaDoor
set_option linter.unusedVariables false
set_option linter.unusedSimpArgs false
open Go.ChangeShapes Go.WideShapes Go.ChangeAt Go.RowKit Go.Deep
set_option maxRecDepth 100000

theorem law_GadgetsText {N : Nat} (hN : 20 ≤ N) (x : Gadgets) : laws_FnExactGadgetsText N x = some true := by
  unfold laws_FnExactGadgetsText
  obtain ⟨z, h1, h2⟩ := szq_two (left := 1048576) (n := x.sz) (by decide) (by decide)
  rw [h1, bnd_s]
  rcases h2 with h2 | ⟨h2, h3, h4⟩
  · rw [h2]; rfl
  · rw [h2, if_neg (by simp), toq_eq (by omega), bnd_s, GadgetsText_spec hN, bnd_s, GadgetsText_impl, bnd_s, sEq_self, eqq_eq]
    rfl
theorem walk_FnExactGadgetsText {w : World} (hG : Glo w) (v1 : Value) (x : Gadgets) (bs1 : List Nat) (h1 : Agg 1 RGadgets w v1 x bs1) (hm1 : InMem bs1 w) :
    Calls Tryd.prog 6 #[v1] w (Says (.bool true) w) := by
  obtain ⟨N, hN⟩ : ∃ N, 20 ≤ N := ⟨_, Nat.le_refl _⟩
  exact laws_FnExactGadgetsText_c true (law_GadgetsText hN x) w hG ⟨h1, hm1⟩
/-- What the row asks. -/
theorem own_FnExactGadgetsText : ownKnob Tryd.prog.godebug = none := by kernel_rfl
theorem lmet_FnExactGadgetsText (os : Os) (args : Array Value) : laidMetH Tryd.prog Rows.fnExactGadgetsTextRow.laid ((World.laidAll Tryd.prog os Rows.fnExactGadgetsTextRow.laid).forCall (fun _ _ => 0) ⟨#[], args, []⟩).memory := by
  rw [MakeChecks.laidMetH_plain _ _ _ (by kernel_rfl)]; exact laidMet_laidAll _ (by kernel_rfl) (by kernel_rfl)
theorem wit_FnExactGadgetsText (os : Os) {H : Type} (enc : TypeId × Value → H) : (OpenSpec.ofChange Rows.fnExactGadgetsTextSpec).preRow enc Tryd.prog Tryd.f6 Rows.fnExactGadgetsTextRow.domain false Rows.fnExactGadgetsTextRow.laid ((World.laidAll Tryd.prog os Rows.fnExactGadgetsTextRow.laid).forCall (fun _ _ => 0) ⟨#[], #[.agg #[.slice none 0 0]], []⟩).memory #[.agg #[.slice none 0 0]] := by
  have hw : (DataW.whole enc Tryd.prog ((World.laidAll Tryd.prog os Rows.fnExactGadgetsTextRow.laid).forCall (fun _ _ => 0) ⟨#[], #[.agg #[.slice none 0 0]], []⟩).memory Tryd.f6.params.toList (OpenSpec.ofChange Rows.fnExactGadgetsTextSpec).vars false (#[.agg #[.slice none 0 0]] : Array Value).toList 12).isSome = true := by kernel_rfl
  obtain ⟨x, hx⟩ := Option.isSome_iff_exists.1 hw
  exact OpenSpec.preRow_of_cond 12 hx rfl (fun k hk => by cases hk) (by kernel_rfl) (lmet_FnExactGadgetsText os _)
set_option maxRecDepth 100000 in
theorem lifted_FnExactGadgetsText (os : Os) (started : os.Started) (H : Type) (enc : TypeId × Value → H) (F0 : Stop.Interp) :
    ReturnsInHanded {} Tryd.checked os 6 .any ((OpenSpec.ofChange Rows.fnExactGadgetsTextSpec).preRow enc Tryd.prog Tryd.f6 Rows.fnExactGadgetsTextRow.domain false Rows.fnExactGadgetsTextRow.laid) (((OpenSpec.ofChange Rows.fnExactGadgetsTextSpec).at F0).post enc Tryd.prog Tryd.f6 false true false false) := by
  refine returnsInHanded_of_row (C := Tryd.checked) (s := (OpenSpec.ofChange Rows.fnExactGadgetsTextSpec)) own_FnExactGadgetsText started (by kernel_rfl) Tryd.func6
    (witness_row_at (enc := enc) (C := Tryd.checked) false (World.laidAll Tryd.prog os Rows.fnExactGadgetsTextRow.laid) #[.agg #[.slice none 0 0]] (World.laidAll_os _ _ _) (by kernel_rfl) (by kernel_rfl) (by kernel_rfl) (wit_FnExactGadgetsText os enc)) ?_
  intro W base args ds gs before hval0 hW _ _ _ hL hsh _
  have hval : ∀ (j : Nat) t v, Tryd.f6.params[j]? = some t → args[j]? = some v → Value.okWide Tryd.prog W .any base t v := hval0
  have hW' := hW
  obtain ⟨p, q, hA0, hV, rfl, hfz, hnd⟩ := hW
  have hA : DataW.TrodAll enc Tryd.prog W 0 (fun _ => true) true Tryd.f6.params.toList args.toList ds p := hA0
  rw [Tryd.params6] at hA hval
  obtain ⟨v0, vs0, d0, ds0, p0, q0, hargs, rfl, rfl, h0, r0⟩ := trodAll_cons hA
  obtain ⟨rfl, rfl, rfl⟩ := trodAll_nil r0
  obtain rfl : args = #[v0] := by cases args; simp_all
  obtain ⟨rfl, rfl⟩ := trodVars_none hV
  obtain ⟨x0, bs0, g0, m0⟩ := open_agg Tryd.underlying43 opens_Gadgets (hval 0 43 v0 rfl rfl) h0
  clear hval0
  rw [MakeChecks.laidMetH_plain _ _ _ (by kernel_rfl)] at hL
  have hG : Glo W := ⟨tab_of_laid hL (by unfold Rows.fnExactGadgetsTextRow; simp [tab_data]), layS.s1_3 W hsh⟩
  have hlt0 : ∀ x ∈ p0, x.block < W.heap.size := fun x hx => hW'.lt x (by simp [hx])
  refine (walk_FnExactGadgetsText hG v0 x0 bs0 g0 m0).mono fun e W' ⟨he, hg⟩ => ?_
  subst he
  exact ⟨_, rfl, _, _, _, [], _, [], hW', trodAll_cons_mk (shut_bool Tryd.underlying4 true) trodAll_mk0, (trodAll_cons_mk (Below.trod Tryd.laidOut (by kernel_rfl) (of_decide_eq_true (by kernel_rfl)) h0 hg hlt0) trodAll_mk0), rfl, hg.frame _, fun h => by cases h⟩
theorem FnExactGadgetsText_row : Rows.FnExactGadgetsTextSaid :=
  OpenClaim.holds_of_cond 6 Tryd.f6 rfl rfl rfl rfl rfl rfl rfl ⟨rfl, rfl, rfl, rfl, rfl⟩ rfl rfl rfl rfl rfl (by kernel_rfl) Tryd.func6 (by kernel_rfl)
    (of_decide_eq_true (by kernel_rfl)) (by unfold Func.isWrapper; first | (rw [if_pos (by decide +kernel)]; kernel_rfl) | (rw [if_neg (by decide +kernel)]; exact ⟨rfl, rfl⟩))
    (fun os started H enc _ F0 => by rw [OpenClaim.pre_eq_preRow]; exact lifted_FnExactGadgetsText os started H enc F0)
theorem FnExactGadgetsTextCard_holds : Rows.FnExactGadgetsTextCardSaid :=
  Claim7.holds_tied_plain_at .later [] [.data, .data, .data] true (true, "61548f62f8bb4edc89a8024d197c1683b4f294cce198c3fd892b0facb79e265a") true
    FnExactGadgetsText_row (fun _ h => by cases h) (by kernel_rfl) (fun _ h => by cases h) fnExactGadgetsText_row_tie rfl ⟨rfl, rfl⟩ (by kernel_rfl) rfl
    (fun f fn hf hfn => by
      obtain rfl : f = 6 := Option.some.inj ((show Tryd.prog.funcNamed "loop.example/g01085/laws.FnExactGadgetsText" = some 6 by kernel_rfl).symm.trans hf) |>.symm
      obtain rfl : fn = Tryd.f6 := (Option.some.inj (Tryd.func6.symm.trans hfn)).symm
      exact ⟨by kernel_rfl, fun j t ht => by
        rw [Tryd.params6] at ht
        have hm : t ∈ [43] := by simpa using Array.mem_of_getElem? ht
        have hall : ([43].all fun u => !Tryd.prog.wantsStandIn u) = true := by kernel_rfl
        exact (show Tryd.prog.wantsStandIn t = false by simpa using List.all_eq_true.1 hall t hm)⟩)
    (by kernel_rfl)
end Go.Proofs.YtjjdbdlbjdoebaaDoor
