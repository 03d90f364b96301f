/-
  The program reads the text of a line as the reference does, for all texts. No condition.
-/
import Derived.Test.YtbgkhipclkhlcaaDoorM38
import Derived.Test.YtbgkhipclkhlcaaDoorLReadLine
import Derived.Test.YtbgkhipclkhlcaaDoorGE
namespace Go.Proofs.YtbgkhipclkhlcaaDoor
set_option linter.unusedVariables false
set_option linter.unusedSimpArgs false
open Go.ChangeShapes Go.WideShapes Go.ChangeAt Go.RowKit Go.Deep
set_option maxRecDepth 100000

theorem law_ReadLine {N : Nat} (hN : 20 ≤ N) (x : ByteArray) : laws_FnExactReadLine N x = some true := by
  unfold laws_FnExactReadLine
  have hx : bstr x.data.toList = x := by apply ByteArray.ext; simp [bstr]
  by_cases h : 1048576 < (x.size : Int)
  · rw [if_pos (by simpa using h)]
  · have hl : x.data.toList.length ≤ 1048576 := by
      have : x.size = x.data.toList.length := rfl
      omega
    have h1 := ReadLine_spec hN hl
    have h2 := ReadLine_impl hl
    rw [hx] at h1 h2
    rw [if_neg (by simpa using h), h1, bnd_s, h2, bnd_s, eqq_eq, bnd_s]
    simp
theorem walk_FnExactReadLine {w : World} (hG : GloE w) (x : ByteArray) (hx : x.size ≤ maxLen) :
    Calls Tryd.prog 3 #[.string x] w (Says (.bool true) w) := by
  obtain ⟨N, hN⟩ : ∃ N, 20 ≤ N := ⟨_, Nat.le_refl _⟩
  exact laws_FnExactReadLine_c true (law_ReadLine hN x) w hG hx
/-- What the row asks. -/
theorem own_FnExactReadLine : ownKnob Tryd.prog.godebug = none := by kernel_rfl
theorem lmet_FnExactReadLine (os : Os) (args : Array Value) : laidMetH Tryd.prog Rows.fnExactReadLineRow.laid ((World.laidAll Tryd.prog os Rows.fnExactReadLineRow.laid).forCall (fun _ _ => 0) ⟨#[], args, []⟩).memory := by
  rw [MakeChecks.laidMetH_plain _ _ _ (by kernel_rfl)]; exact laidMet_laidAll _ (by kernel_rfl) (by kernel_rfl)
theorem wit_FnExactReadLine (os : Os) {H : Type} (enc : TypeId × Value → H) : (OpenSpec.ofChange Rows.fnExactReadLineSpec).preRow enc Tryd.prog Tryd.f3 Rows.fnExactReadLineRow.domain false Rows.fnExactReadLineRow.laid ((World.laidAll Tryd.prog os Rows.fnExactReadLineRow.laid).forCall (fun _ _ => 0) ⟨#[], #[.string ⟨#[]⟩], []⟩).memory #[.string ⟨#[]⟩] := by
  have hw : (DataW.whole enc Tryd.prog ((World.laidAll Tryd.prog os Rows.fnExactReadLineRow.laid).forCall (fun _ _ => 0) ⟨#[], #[.string ⟨#[]⟩], []⟩).memory Tryd.f3.params.toList (OpenSpec.ofChange Rows.fnExactReadLineSpec).vars false (#[.string ⟨#[]⟩] : Array Value).toList 12).isSome = true := by kernel_rfl
  obtain ⟨x, hx⟩ := Option.isSome_iff_exists.1 hw
  exact OpenSpec.preRow_of_cond 12 hx rfl (fun k hk => by cases hk) (by kernel_rfl) (lmet_FnExactReadLine os _)
set_option maxRecDepth 100000 in
theorem lifted_FnExactReadLine (os : Os) (started : os.Started) (H : Type) (enc : TypeId × Value → H) (F0 : Stop.Interp) :
    ReturnsInHanded {} Tryd.checked os 3 .any ((OpenSpec.ofChange Rows.fnExactReadLineSpec).preRow enc Tryd.prog Tryd.f3 Rows.fnExactReadLineRow.domain false Rows.fnExactReadLineRow.laid) (((OpenSpec.ofChange Rows.fnExactReadLineSpec).at F0).post enc Tryd.prog Tryd.f3 false true false false) := by
  refine returnsInHanded_of_row (C := Tryd.checked) (s := (OpenSpec.ofChange Rows.fnExactReadLineSpec)) own_FnExactReadLine started (by kernel_rfl) Tryd.func3
    (witness_row_at (enc := enc) (C := Tryd.checked) false (World.laidAll Tryd.prog os Rows.fnExactReadLineRow.laid) #[.string ⟨#[]⟩] (World.laidAll_os _ _ _) (by kernel_rfl) (by kernel_rfl) (by kernel_rfl) (wit_FnExactReadLine os enc)) ?_
  intro W base args ds gs before hval0 hW _ _ _ hL hsh _
  have hval : ∀ (j : Nat) t v, Tryd.f3.params[j]? = some t → args[j]? = some v → Value.okWide Tryd.prog W .any base t v := hval0
  have hW' := hW
  obtain ⟨p, q, hA0, hV, rfl, hfz, hnd⟩ := hW
  have hA : DataW.TrodAll enc Tryd.prog W 0 (fun _ => true) true Tryd.f3.params.toList args.toList ds p := hA0
  rw [Tryd.params3] at hA hval
  obtain ⟨v0, vs0, d0, ds0, p0, q0, hargs, rfl, rfl, h0, r0⟩ := trodAll_cons hA
  obtain ⟨rfl, rfl, rfl⟩ := trodAll_nil r0
  obtain rfl : args = #[v0] := by cases args; simp_all
  obtain ⟨rfl, rfl⟩ := trodVars_none hV
  obtain ⟨a0, rfl, rfl, rfl, w0⟩ := Go.ChangeMaps.open_string Tryd.underlying9 (hval 0 9 v0 rfl rfl) h0
  clear hval0
  rw [MakeChecks.laidMetH_plain _ _ _ (by kernel_rfl)] at hL
  have hG0 : Glo W := ⟨tab_of_laid hL (by unfold Rows.fnExactReadLineRow; simp [tab_data]), layS.s1_3 W hsh⟩
  have hG : GloE W := ⟨hG0, sent_of hL.tail.tail.tail.tail.tail (by kernel_rfl), sent_of hL.tail.tail.tail.tail (by kernel_rfl)⟩
  refine (walk_FnExactReadLine hG a0 w0).mono fun e W' ⟨he, hg⟩ => ?_
  subst he
  exact ⟨_, rfl, _, _, _, [], _, [], hW', trodAll_cons_mk (shut_bool Tryd.underlying4 true) trodAll_mk0, (trodAll_cons_mk (Go.ChangeMaps.shut_string Tryd.underlying9 w0) trodAll_mk0), rfl, hg.frame _, fun h => by cases h⟩
theorem FnExactReadLine_row : Rows.FnExactReadLineSaid :=
  OpenClaim.holds_of_cond 3 Tryd.f3 rfl rfl rfl rfl rfl rfl rfl ⟨rfl, rfl, rfl, rfl, rfl⟩ rfl rfl rfl rfl rfl (by kernel_rfl) Tryd.func3 (by kernel_rfl)
    (of_decide_eq_true (by kernel_rfl)) (by unfold Func.isWrapper; first | (rw [if_pos (by decide +kernel)]; kernel_rfl) | (rw [if_neg (by decide +kernel)]; exact ⟨rfl, rfl⟩))
    (fun os started H enc _ F0 => by rw [OpenClaim.pre_eq_preRow]; exact lifted_FnExactReadLine os started H enc F0)
theorem FnExactReadLineCard_holds : Rows.FnExactReadLineCardSaid :=
  Claim7.holds_tied_plain_at .later [] [.data, .data, .data, .data, .sentinel, .sentinel, .pinned] true (true, "12a2bd29b1a76fa8267af310dad805a445a9211334488af406145d6786d0c5b2") true
    FnExactReadLine_row (fun _ h => by cases h) (by kernel_rfl) (fun _ h => by cases h) fnExactReadLine_row_tie rfl ⟨rfl, rfl⟩ (by kernel_rfl) rfl
    (fun f fn hf hfn => by
      obtain rfl : f = 3 := Option.some.inj ((show Tryd.prog.funcNamed "loop.example/g01085/laws.FnExactReadLine" = some 3 by kernel_rfl).symm.trans hf) |>.symm
      obtain rfl : fn = Tryd.f3 := (Option.some.inj (Tryd.func3.symm.trans hfn)).symm
      exact ⟨by kernel_rfl, fun j t ht => by
        rw [Tryd.params3] at ht
        have hm : t ∈ [9] := by simpa using Array.mem_of_getElem? ht
        have hall : ([9].all fun u => !Tryd.prog.wantsStandIn u) = true := by kernel_rfl
        exact (show Tryd.prog.wantsStandIn t = false by simpa using List.all_eq_true.1 hall t hm)⟩)
    (by kernel_rfl)
end Go.Proofs.YtbgkhipclkhlcaaDoor
