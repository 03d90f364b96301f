/-
  The program reads the text of a deed as the reference does, for all texts. No condition.
-/
import Derived.Test.YtjjdbdlbjdoebaaDoorM35
import Derived.Test.YtjjdbdlbjdoebaaDoorLReadDeed
import Derived.Test.YtjjdbdlbjdoebaaDoorGE
namespace Go.Proofs.YtjjdbdlbjdoebaaDoor
set_option linter.unusedVariables false
set_option linter.unusedSimpArgs false
open Go.ChangeShapes Go.WideShapes Go.ChangeAt Go.RowKit Go.Deep
set_option maxRecDepth 100000

theorem law_ReadDeed {N : Nat} (hN : 20 ≤ N) (x : ByteArray) : laws_FnExactReadDeed N x = some true := by
  unfold laws_FnExactReadDeed
  have hx : bstr x.data.toList = x := by apply ByteArray.ext; simp [bstr]
  by_cases h : 1048576 < (x.size : Int)
  · rw [if_pos (by simpa using h)]
  · have hl : x.data.toList.length ≤ 1048576 := by
      have : x.size = x.data.toList.length := rfl
      omega
    have h1 := ReadDeed_spec hN hl
    have h2 := ReadDeed_impl hl
    rw [hx] at h1 h2
    rw [if_neg (by simpa using h), h1, bnd_s, h2, bnd_s, eqq_eq, bnd_s]
    simp
theorem walk_FnExactReadDeed {w : World} (hG : GloE w) (x : ByteArray) (hx : x.size ≤ maxLen) :
    Calls Tryd.prog 7 #[.string x] w (Says (.bool true) w) := by
  obtain ⟨N, hN⟩ : ∃ N, 20 ≤ N := ⟨_, Nat.le_refl _⟩
  exact laws_FnExactReadDeed_c true (law_ReadDeed hN x) w hG hx
/-- What the row asks. -/
theorem own_FnExactReadDeed : ownKnob Tryd.prog.godebug = none := by kernel_rfl
theorem lmet_FnExactReadDeed (os : Os) (args : Array Value) : laidMetH Tryd.prog Rows.fnExactReadDeedRow.laid ((World.laidAll Tryd.prog os Rows.fnExactReadDeedRow.laid).forCall (fun _ _ => 0) ⟨#[], args, []⟩).memory := by
  rw [MakeChecks.laidMetH_plain _ _ _ (by kernel_rfl)]; exact laidMet_laidAll _ (by kernel_rfl) (by kernel_rfl)
theorem wit_FnExactReadDeed (os : Os) {H : Type} (enc : TypeId × Value → H) : (OpenSpec.ofChange Rows.fnExactReadDeedSpec).preRow enc Tryd.prog Tryd.f7 Rows.fnExactReadDeedRow.domain false Rows.fnExactReadDeedRow.laid ((World.laidAll Tryd.prog os Rows.fnExactReadDeedRow.laid).forCall (fun _ _ => 0) ⟨#[], #[.string ⟨#[]⟩], []⟩).memory #[.string ⟨#[]⟩] := by
  have hw : (DataW.whole enc Tryd.prog ((World.laidAll Tryd.prog os Rows.fnExactReadDeedRow.laid).forCall (fun _ _ => 0) ⟨#[], #[.string ⟨#[]⟩], []⟩).memory Tryd.f7.params.toList (OpenSpec.ofChange Rows.fnExactReadDeedSpec).vars false (#[.string ⟨#[]⟩] : Array Value).toList 12).isSome = true := by kernel_rfl
  obtain ⟨x, hx⟩ := Option.isSome_iff_exists.1 hw
  exact OpenSpec.preRow_of_cond 12 hx rfl (fun k hk => by cases hk) (by kernel_rfl) (lmet_FnExactReadDeed os _)
set_option maxRecDepth 100000 in
theorem lifted_FnExactReadDeed (os : Os) (started : os.Started) (H : Type) (enc : TypeId × Value → H) (F0 : Stop.Interp) :
    ReturnsInHanded {} Tryd.checked os 7 .any ((OpenSpec.ofChange Rows.fnExactReadDeedSpec).preRow enc Tryd.prog Tryd.f7 Rows.fnExactReadDeedRow.domain false Rows.fnExactReadDeedRow.laid) (((OpenSpec.ofChange Rows.fnExactReadDeedSpec).at F0).post enc Tryd.prog Tryd.f7 false true false false) := by
  refine returnsInHanded_of_row (C := Tryd.checked) (s := (OpenSpec.ofChange Rows.fnExactReadDeedSpec)) own_FnExactReadDeed started (by kernel_rfl) Tryd.func7
    (witness_row_at (enc := enc) (C := Tryd.checked) false (World.laidAll Tryd.prog os Rows.fnExactReadDeedRow.laid) #[.string ⟨#[]⟩] (World.laidAll_os _ _ _) (by kernel_rfl) (by kernel_rfl) (by kernel_rfl) (wit_FnExactReadDeed os enc)) ?_
  intro W base args ds gs before hval0 hW _ _ _ hL hsh _
  have hval : ∀ (j : Nat) t v, Tryd.f7.params[j]? = some t → args[j]? = some v → Value.okWide Tryd.prog W .any base t v := hval0
  have hW' := hW
  obtain ⟨p, q, hA0, hV, rfl, hfz, hnd⟩ := hW
  have hA : DataW.TrodAll enc Tryd.prog W 0 (fun _ => true) true Tryd.f7.params.toList args.toList ds p := hA0
  rw [Tryd.params7] at hA hval
  obtain ⟨v0, vs0, d0, ds0, p0, q0, hargs, rfl, rfl, h0, r0⟩ := trodAll_cons hA
  obtain ⟨rfl, rfl, rfl⟩ := trodAll_nil r0
  obtain rfl : args = #[v0] := by cases args; simp_all
  obtain ⟨rfl, rfl⟩ := trodVars_none hV
  obtain ⟨a0, rfl, rfl, rfl, w0⟩ := Go.ChangeMaps.open_string Tryd.underlying9 (hval 0 9 v0 rfl rfl) h0
  clear hval0
  rw [MakeChecks.laidMetH_plain _ _ _ (by kernel_rfl)] at hL
  have hG0 : Glo W := ⟨tab_of_laid hL (by unfold Rows.fnExactReadDeedRow; simp [tab_data]), layS.s1_3 W hsh⟩
  have hG : GloE W := ⟨hG0, sent_of hL.tail.tail.tail.tail.tail (by kernel_rfl), sent_of hL.tail.tail.tail.tail (by kernel_rfl)⟩
  refine (walk_FnExactReadDeed hG a0 w0).mono fun e W' ⟨he, hg⟩ => ?_
  subst he
  exact ⟨_, rfl, _, _, _, [], _, [], hW', trodAll_cons_mk (shut_bool Tryd.underlying4 true) trodAll_mk0, (trodAll_cons_mk (Go.ChangeMaps.shut_string Tryd.underlying9 w0) trodAll_mk0), rfl, hg.frame _, fun h => by cases h⟩
theorem FnExactReadDeed_row : Rows.FnExactReadDeedSaid :=
  OpenClaim.holds_of_cond 7 Tryd.f7 rfl rfl rfl rfl rfl rfl rfl ⟨rfl, rfl, rfl, rfl, rfl⟩ rfl rfl rfl rfl rfl (by kernel_rfl) Tryd.func7 (by kernel_rfl)
    (of_decide_eq_true (by kernel_rfl)) (by unfold Func.isWrapper; first | (rw [if_pos (by decide +kernel)]; kernel_rfl) | (rw [if_neg (by decide +kernel)]; exact ⟨rfl, rfl⟩))
    (fun os started H enc _ F0 => by rw [OpenClaim.pre_eq_preRow]; exact lifted_FnExactReadDeed os started H enc F0)
theorem FnExactReadDeedCard_holds : Rows.FnExactReadDeedCardSaid :=
  Claim7.holds_tied_plain_at .later [] [.data, .data, .data, .data, .sentinel, .sentinel, .pinned] true (true, "61548f62f8bb4edc89a8024d197c1683b4f294cce198c3fd892b0facb79e265a") true
    FnExactReadDeed_row (fun _ h => by cases h) (by kernel_rfl) (fun _ h => by cases h) fnExactReadDeed_row_tie rfl ⟨rfl, rfl⟩ (by kernel_rfl) rfl
    (fun f fn hf hfn => by
      obtain rfl : f = 7 := Option.some.inj ((show Tryd.prog.funcNamed "loop.example/g01085/laws.FnExactReadDeed" = some 7 by kernel_rfl).symm.trans hf) |>.symm
      obtain rfl : fn = Tryd.f7 := (Option.some.inj (Tryd.func7.symm.trans hfn)).symm
      exact ⟨by kernel_rfl, fun j t ht => by
        rw [Tryd.params7] at ht
        have hm : t ∈ [9] := by simpa using Array.mem_of_getElem? ht
        have hall : ([9].all fun u => !Tryd.prog.wantsStandIn u) = true := by kernel_rfl
        exact (show Tryd.prog.wantsStandIn t = false by simpa using List.all_eq_true.1 hall t hm)⟩)
    (by kernel_rfl)
end Go.Proofs.YtjjdbdlbjdoebaaDoor
