/-
  The program reads the text of gadgets as the reference does, for all texts. No condition.
-/
import Derived.Test.YtbgkhipclkhlcaaGreatDoorM42
import Derived.Test.YtbgkhipclkhlcaaGreatDoorLReadGadgets
import Derived.Test.YtbgkhipclkhlcaaGreatDoorGE
namespace Go.Proofs.YtbgkhipclkhlcaaGreatDoor
set_option linter.unusedVariables false
set_option linter.unusedSimpArgs false
open Go.ChangeShapes Go.WideShapes Go.ChangeAt Go.RowKit Go.Deep
set_option maxRecDepth 100000

theorem law_ReadGadgets {N : Nat} (hN : 20 ≤ N) (x : ByteArray) : laws_FnExactReadGadgets N x = some true := by
  unfold laws_FnExactReadGadgets
  have hx : bstr x.data.toList = x := by apply ByteArray.ext; simp [bstr]
  by_cases h : 1048576 < (x.size : Int)
  · rw [if_pos (by simpa using h)]
  · have hl : x.data.toList.length ≤ 1048576 := by
      have : x.size = x.data.toList.length := rfl
      omega
    obtain ⟨r, h1, h2, h3⟩ := RG_two hN _ hl
    have h4 := gad_cnt h3
    rw [hx] at h1 h2
    rw [if_neg (by simpa using h), h1, bnd_s, h2, bnd_s]
    have e : (Gadgets.mk r.1.formulas) = r.1 := rfl
    have hk : mkq 1 r.1.cnt = some (1 + (r.1.cnt : Nat)) := mkq_eq (by decide) (by omega)
    have n1 : ¬ ((1 : Int) + (r.1.cnt : Int) < 0) := by omega
    simp [e, eqq_eq, hk, n1]
theorem walk_FnExactReadGadgets {w : World} (hG : GloE w) (x : ByteArray) (hx : x.size ≤ maxLen) :
    Calls Tryz.prog 3 #[.string x] w (Says (.bool true) w) := by
  obtain ⟨N, hN⟩ : ∃ N, 20 ≤ N := ⟨_, Nat.le_refl _⟩
  exact laws_FnExactReadGadgets_c (B := fun _ => False) true (law_ReadGadgets hN x) w (fun _ h => h.elim) hG hx
/-- What the row asks. -/
theorem own_FnExactReadGadgets : ownKnob Tryz.prog.godebug = none := by kernel_rfl
theorem lmet_FnExactReadGadgets (os : Os) (args : Array Value) : laidMetH Tryz.prog Rows.fnExactReadGadgetsRow.laid ((World.laidAll Tryz.prog os Rows.fnExactReadGadgetsRow.laid).forCall (fun _ _ => 0) ⟨#[], args, []⟩).memory := by
  rw [MakeChecks.laidMetH_plain _ _ _ (by kernel_rfl)]; exact laidMet_laidAll _ (by kernel_rfl) (by kernel_rfl)
theorem wit_FnExactReadGadgets (os : Os) {H : Type} (enc : TypeId × Value → H) : (OpenSpec.ofChange Rows.fnExactReadGadgetsSpec).preRow enc Tryz.prog Tryz.f3 Rows.fnExactReadGadgetsRow.domain false Rows.fnExactReadGadgetsRow.laid ((World.laidAll Tryz.prog os Rows.fnExactReadGadgetsRow.laid).forCall (fun _ _ => 0) ⟨#[], #[.string ⟨#[]⟩], []⟩).memory #[.string ⟨#[]⟩] := by
  have hw : (DataW.whole enc Tryz.prog ((World.laidAll Tryz.prog os Rows.fnExactReadGadgetsRow.laid).forCall (fun _ _ => 0) ⟨#[], #[.string ⟨#[]⟩], []⟩).memory Tryz.f3.params.toList (OpenSpec.ofChange Rows.fnExactReadGadgetsSpec).vars false (#[.string ⟨#[]⟩] : Array Value).toList 12).isSome = true := by kernel_rfl
  obtain ⟨x, hx⟩ := Option.isSome_iff_exists.1 hw
  exact OpenSpec.preRow_of_cond 12 hx rfl (fun k hk => by cases hk) (by kernel_rfl) (lmet_FnExactReadGadgets os _)
set_option maxRecDepth 100000 in
theorem lifted_FnExactReadGadgets (os : Os) (started : os.Started) (H : Type) (enc : TypeId × Value → H) (F0 : Stop.Interp) :
    ReturnsInHanded {} Tryz.checked os 3 .any ((OpenSpec.ofChange Rows.fnExactReadGadgetsSpec).preRow enc Tryz.prog Tryz.f3 Rows.fnExactReadGadgetsRow.domain false Rows.fnExactReadGadgetsRow.laid) (((OpenSpec.ofChange Rows.fnExactReadGadgetsSpec).at F0).post enc Tryz.prog Tryz.f3 false true false false) := by
  refine returnsInHanded_of_row (C := Tryz.checked) (s := (OpenSpec.ofChange Rows.fnExactReadGadgetsSpec)) own_FnExactReadGadgets started (by kernel_rfl) Tryz.func3
    (witness_row_at (enc := enc) (C := Tryz.checked) false (World.laidAll Tryz.prog os Rows.fnExactReadGadgetsRow.laid) #[.string ⟨#[]⟩] (World.laidAll_os _ _ _) (by kernel_rfl) (by kernel_rfl) (by kernel_rfl) (wit_FnExactReadGadgets os enc)) ?_
  intro W base args ds gs before hval0 hW _ _ _ hL hsh _
  have hval : ∀ (j : Nat) t v, Tryz.f3.params[j]? = some t → args[j]? = some v → Value.okWide Tryz.prog W .any base t v := hval0
  have hW' := hW
  obtain ⟨p, q, hA0, hV, rfl, hfz, hnd⟩ := hW
  have hA : DataW.TrodAll enc Tryz.prog W 0 (fun _ => true) true Tryz.f3.params.toList args.toList ds p := hA0
  rw [Tryz.params3] at hA hval
  obtain ⟨v0, vs0, d0, ds0, p0, q0, hargs, rfl, rfl, h0, r0⟩ := trodAll_cons hA
  obtain ⟨rfl, rfl, rfl⟩ := trodAll_nil r0
  obtain rfl : args = #[v0] := by cases args; simp_all
  obtain ⟨rfl, rfl⟩ := trodVars_none hV
  obtain ⟨a0, rfl, rfl, rfl, w0⟩ := Go.ChangeMaps.open_string Tryz.underlying9 (hval 0 9 v0 rfl rfl) h0
  clear hval0
  rw [MakeChecks.laidMetH_plain _ _ _ (by kernel_rfl)] at hL
  have hG0 : Glo W := ⟨tab_of_laid hL (by unfold Rows.fnExactReadGadgetsRow; simp [tab_data]), layS.s1_3 W hsh⟩
  have hG : GloE W := ⟨hG0, sent_of hL.tail.tail.tail.tail.tail (by kernel_rfl), sent_of hL.tail.tail.tail.tail (by kernel_rfl)⟩
  refine (walk_FnExactReadGadgets hG a0 w0).mono fun e W' ⟨he, hg⟩ => ?_
  subst he
  exact ⟨_, rfl, _, _, _, [], _, [], hW', trodAll_cons_mk (shut_bool Tryz.underlying4 true) trodAll_mk0, (trodAll_cons_mk (Go.ChangeMaps.shut_string Tryz.underlying9 w0) trodAll_mk0), rfl, hg.frame _, fun h => by cases h⟩
theorem FnExactReadGadgets_row : Rows.FnExactReadGadgetsSaid :=
  OpenClaim.holds_of_cond 3 Tryz.f3 rfl rfl rfl rfl rfl rfl rfl ⟨rfl, rfl, rfl, rfl, rfl⟩ rfl rfl rfl rfl rfl (by kernel_rfl) Tryz.func3 (by kernel_rfl)
    (of_decide_eq_true (by kernel_rfl)) (by unfold Func.isWrapper; first | (rw [if_pos (by decide +kernel)]; kernel_rfl) | (rw [if_neg (by decide +kernel)]; exact ⟨rfl, rfl⟩))
    (fun os started H enc _ F0 => by rw [OpenClaim.pre_eq_preRow]; exact lifted_FnExactReadGadgets os started H enc F0)
theorem FnExactReadGadgetsCard_holds : Rows.FnExactReadGadgetsCardSaid :=
  Claim7.holds_tied_plain_at .later [] [.data, .data, .data, .data, .sentinel, .sentinel, .pinned] true (true, "c2037b4b7cab2b5ea627b3671d15622005e3fcb9c706eba5a5e0817459c0d27b") true
    FnExactReadGadgets_row (fun _ h => by cases h) (by kernel_rfl) (fun _ h => by cases h) fnExactReadGadgets_row_tie rfl ⟨rfl, rfl⟩ (by kernel_rfl) rfl
    (fun f fn hf hfn => by
      obtain rfl : f = 3 := Option.some.inj ((show Tryz.prog.funcNamed "loop.example/g01085/laws.FnExactReadGadgets" = some 3 by kernel_rfl).symm.trans hf) |>.symm
      obtain rfl : fn = Tryz.f3 := (Option.some.inj (Tryz.func3.symm.trans hfn)).symm
      exact ⟨by kernel_rfl, fun j t ht => by
        rw [Tryz.params3] at ht
        have hm : t ∈ [9] := by simpa using Array.mem_of_getElem? ht
        have hall : ([9].all fun u => !Tryz.prog.wantsStandIn u) = true := by kernel_rfl
        exact (show Tryz.prog.wantsStandIn t = false by simpa using List.all_eq_true.1 hall t hm)⟩)
    (by kernel_rfl)
end Go.Proofs.YtbgkhipclkhlcaaGreatDoor
