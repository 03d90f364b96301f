/-
  The solver's walk: a function value that changes what it captures, as a state. By hand, out of what sg.py prints.
-/
import Derived.Test.YtmgdjaiaekhkgaaGreatS2
namespace Go.Proofs.YtmgdjaiaekhkgaaGreat
open Go.Proofs.Tryz
set_option linter.unusedVariables false
set_option linter.unusedSimpArgs false
set_option maxRecDepth 100000
open Go.RowKit
def solver_walk {σ : Type} (y : List Int → σ → Option (Bool × σ)) : Nat → solver → (List Int) → σ → Option (Bool × σ)
  | 0, _, _, _ => none
  | N + 1, x0, x1, s0 =>
  if ((x1.length : Int) == x0.vars) then
   oJ (qV x1) fun z16 =>
   y z16 s0
  else
   kJ (σ := σ) (
    kT (σ := σ) (ρ := Bool × σ) (fun (k60 : Nat) (s : σ) =>
      oJ (zV x1) fun z66 =>
      oJ (ap z66 ([(k60 : Int)])) fun z73 =>
      oJ (kZ N x0 z73) fun z86 =>
      if z86 then oJ (solver_walk y N x0 z73 s) fun z89 =>
        if z89.1 then some (.go z89.2) else some (.ret (false, z89.2))
      else some (.go s)) x0.t.size.toNat 0 s0) fun s =>
   some (true, s)
/-- What is asked of the function value. -/
def Yld {σ : Type} (T : σ → As) (y : List Int → σ → Option (Bool × σ)) (g2 : FuncId) (lb2 : List Value) : Prop :=
  ∀ (a0 : List Int) (s : σ) (r : Bool × σ), y a0 s = some r → ∀ {X : List Nat} {N : Nat → Prop} (W : World) (u0 : Value), Sep X N W W [rl 1 xK 2 u0 a0, T s] → Calls Tryz.prog g2 ([u0] ++ lb2 : List Value).toArray W (Gv (fun v w' => v = .bool r.1 ∧ Sep X N W w' [T r.2]))
set_option maxHeartbeats 1000000 in
theorem solver_walk_c {σ : Type} {T : σ → As} (hT : ∀ s c, ¬ (T s).N c) {y : List Int → σ → Option (Bool × σ)} {g2 : FuncId} {lb2 : List Value} (hg2 : ∀ args w, (callFunc g2 args).run Tryz.prog w = .ok (.enter g2 args) w) (hp2 : Yld T y g2 lb2) : ∀ (N : Nat) {B : Nat → Prop} {x0 : solver} {x1 : List Int} {s0 : σ} (r : Bool × σ) (hR : solver_walk y N x0 x1 s0 = some r) {v0 : Value} {v1 : Value} {X : List Nat} (w0 : World) (H : Sep X B w0 w0 [T s0]) (A0 : Bo B w0 (Pt 4 vL) v0 x0) (A1 : Bo B w0 (Sl 1 xK) v1 x1), Calls Tryz.prog 168 #[v0, v1, .func (.func g2) #[] lb2.toArray] w0 (Gv (fun v w' => v = .bool r.1 ∧ Sep X B w0 w' [T r.2])) := by
  intro N
  induction N with
  | zero => intro B x0 x1 s0 r hR; unfold solver_walk at hR; cases hR
  | succ N ih =>
  intro B x0 x1 s0 r hR v0 v1 X w0 H A0 A1
  rw [solver_walk] at hR
  refine oD (L := [(0, v0), (1, v1), (2, .func (.func g2) #[] lb2.toArray)]) func168 rfl rfl rfl (sc rfl (sc rfl (sc rfl sn))) (fun a F => ?_)
  refine xC ?_
  refine xH ?_
  refine xA F rfl rfl (fun a F => ?_)
  refine xF ?_
  refine xG ?_
  refine xC ?_
  refine xC ?_
  refine xH ?_
  refine xB F rfl rfl (fun a F => ?_)
  refine oL underlying42 F rfl rfl A1 (fun a i11 F => ?_)
  refine xB F rfl rfl (fun a F => ?_)
  refine oN F rfl rfl A0 (fun a F => ?_)
  refine oF (s' := 1) fa257_1 F rfl rfl A0 vL.f1 (fun a p12 h13 F => ?_)
  refine olI isAgg2 F rfl rfl H.sm h13 (fun a i14 F => ?_)
  refine o_eql F rfl rfl rfl (fun a F => ?_)
  refine xF ?_
  refine xG ?_
  refine vC F rfl (fun hb15 => ?_) (fun hb15 => ?_)
  ·
   replace hR := zD hb15 hR
   refine xC ?_
   refine xH ?_
   refine xB F rfl rfl (fun a F => ?_)
   refine xB F rfl rfl (fun a F => ?_)
   obtain ⟨z16, c17, hR⟩ := xI hR
   refine oG F rfl call56 rfl (slices_Clone_s_int64_int64_c z16 c17 _ aA (H.a A1)) (fun a vv w ⟨v18, hv20, S⟩ F => ?_)
   subst vv
   have H := H.r1 S n0
   obtain ⟨X1, K1, back⟩ := H.lend2
   refine oGV F rfl rfl hg2 rfl (hp2 _ _ _ hR _ _ K1) (fun a vv w ⟨hv, S⟩ F => ?_)
   subst vv
   have H := back S
   refine xA F rfl rfl (fun a F => ?_)
   refine xF ?_
   refine xG ?_
   refine xW ?_
   refine oV ?_
   refine xR F rfl (oO F rfl) ?_
   exact ⟨_, rfl, rfl, H⟩
  ·
   replace hR := zE hb15 hR
   refine xO ?_
   refine xG ?_
   refine xC ?_
   refine xC ?_
   refine xH ?_
   refine xB F rfl rfl (fun a F => ?_)
   refine oN F rfl rfl A0 (fun a F => ?_)
   refine oF (s' := 2) fa257_0 F rfl rfl A0 vL.f0 (fun a p23 h24 F => ?_)
   refine oF (s' := 1) fa33_0 F rfl rfl h24 xJ.f0 (fun a p25 h26 F => ?_)
   refine olI isAgg2 F rfl rfl H.sm h26 (fun a i27 F => ?_)
   refine xB F rfl rfl (fun a F => ?_)
   refine xF ?_
   refine xG ?_
   obtain ⟨o54, hR, hk55⟩ := xS hR
   refine oQ (fun a w => ∃ s, o54 = .nx s ∧ Sk a 44 [] ∧ Sep X B w0 w [T s]) ?_ ?_
   ·
    refine oU ?_
    obtain ⟨fl58, hf59, hR⟩ := forI_gen hR
    refine qU (fun g a w => ∃ (k60 : Nat) (s : σ), k60 + g = x0.t.size.toNat ∧ kT fl58 g k60 s = some o54 ∧ Sk a 44 [(25, .int .i64 (k60 : Int)), (0, v0), (1, v1), (2, .func (.func g2) #[] lb2.toArray), (24, .int .i64 x0.t.size)] ∧ Sep X B w0 w [T s]) x0.t.size.toNat ?_ ?_
    ·
     exact ⟨0, s0, (Nat.zero_add _), hR, F.sub (sc rfl (sc rfl (sc rfl (sc rfl (sc rfl sn))))), H⟩
    ·
     intro g63 a w ⟨k60, s, hd64, hR, F, H⟩
     cases g63 with
     | zero =>
      replace hR := forI_zero hR
      have hlk60 := dec_noI hd64
      refine xC ?_
      refine xH ?_
      refine oR F rfl rfl rfl (fun a F => ?_)
      refine xF ?_
      refine xG ?_
      refine xC ?_
      refine vV F rfl hlk60 ?_
      refine qK ?_
      refine qQ ?_
      refine qQ ?_
      refine zT ?_
      refine xG ?_
      exact ⟨s, (Option.some.inj hR).symm, F.sub sn, H⟩
     | succ g63 =>
      obtain ⟨ck60, hR, hn57⟩ := forI_succ hR
      rw [hf59] at hR
      have hlk60 := dec_yesI hd64
      refine xC ?_
      refine xH ?_
      refine oR F rfl rfl rfl (fun a F => ?_)
      refine xF ?_
      refine xG ?_
      refine xC ?_
      refine vZ F rfl hlk60 ?_
      refine xO ?_
      refine xG ?_
      refine xC ?_
      have ikk60 := k64I hd64 i27
      have ink60 := inc64I hd64 i27
      refine oU ?_
      refine xC ?_
      refine xH ?_
      refine xB F rfl rfl (fun a F => ?_)
      refine xA F rfl rfl (fun a F => ?_)
      refine xF ?_
      refine xG ?_
      refine xC ?_
      refine xH ?_
      refine xB F rfl rfl (fun a F => ?_)
      obtain ⟨z66, c67, hR⟩ := xI hR
      refine oG F rfl call222 rfl (slices_Clip_s_int64_int64_c z66 c67 _ H.hN (H.u A1)) (fun a vv w ⟨p68, hv70, S, h69⟩ F => ?_)
      subst vv
      have h69 := H.dn h69
      have H := H.r0 S
      refine xB F rfl rfl (fun a F => ?_)
      refine oR1z (R := xK) (y := (k60 : Int)) underlying42 sizeOf2 zeroValue2 rfl rfl F rfl rfl H (Eo.int ikk60) (fun a w v71 H F => ?_)
      obtain ⟨z73, c74, hR⟩ := xI hR
      refine oPc (z := (.int .i64 0)) (bytes := 8) underlying42 (by kernel_rfl) rfl (by decide) rfl F rfl rfl rfl (H.a h69) H (H.l 0 rfl) (by simp) c74 (fun a w v75 H F => ?_)
      refine xA F rfl rfl (fun a F => ?_)
      refine xF ?_
      refine xG ?_
      refine xC ?_
      refine oQ (fun a w => ∃ (b : Bool) (s' : σ), (if b then (some (.ret (false, s')) : Option (Ctl σ (Bool × σ))) else some (.go s')) = some ck60 ∧ Sk a 44 [(0, v0), (1, v1), (2, .func (.func g2) #[] lb2.toArray), (24, .int .i64 x0.t.size), (25, .int .i64 (k60 : Int)), (42, .bool b)] ∧ Sep X B w0 w [T s']) ?_ ?_
      ·
       refine xH ?_
       refine xB F rfl rfl (fun a F => ?_)
       refine xB F rfl rfl (fun a F => ?_)
       obtain ⟨z86, c87, hR⟩ := xI hR
       refine oK F rfl call167 rfl H (impl_solver_goes_c z86 c87 _ aA (H.a A0) (H.l 0 rfl)) (fun a w H F => ?_)
       refine xB F rfl rfl (fun a F => ?_)
       rcases vD z86 with hb88 | hb88
       ·
        replace hR := zD hb88 hR
        have F := F.eq (t := 36) rfl (congrArg Value.bool hb88)
        refine xB F rfl rfl (fun a F => ?_)
        refine xB F rfl rfl (fun a F => ?_)
        refine xB F rfl rfl (fun a F => ?_)
        obtain ⟨z89, c90, hR⟩ := xI hR
        obtain ⟨wf, rfl⟩ : ∃ x, x = w := ⟨_, rfl⟩
        obtain ⟨X1, N1, g1, e1, H, th⟩ := (H.s [0, 2] rfl rfl).fz
        refine oG F rfl call168 rfl (ih z89 c90 _ H (e1 A0) g1.ld) (fun a vv w ⟨hv, S⟩ F => ?_)
        subst vv
        have H := (th.1 S (fun A hA c hc => by rw [List.mem_singleton] at hA; subst hA; exact (hT _ c hc).elim)).s [1] rfl rfl
        refine kE F rfl rfl (fun a F => ?_)
        refine vH F rfl rfl rfl (fun a F => ?_)
        refine xF ?_
        refine xG ?_
        refine ⟨(!z89.1), z89.2, ?_, F.sub (sc rfl (sc rfl (sc rfl (sc rfl (sc rfl (sc rfl sn)))))), H⟩
        rw [← hR]
        cases z89.1 <;> rfl
       ·
        replace hR := zE hb88 hR
        have F := F.eq (t := 36) rfl (congrArg Value.bool hb88)
        refine oH F rfl rfl (fun a F => ?_)
        refine oH F rfl rfl (fun a F => ?_)
        refine oH F rfl rfl (fun a F => ?_)
        refine oH F rfl rfl (fun a F => ?_)
        refine oH F rfl rfl (fun a F => ?_)
        refine qZ F rfl rfl rfl (fun a F => ?_)
        refine xF ?_
        refine xG ?_
        exact ⟨false, s, hR, F.sub (sc rfl (sc rfl (sc rfl (sc rfl (sc rfl (sc rfl sn)))))), (H.s [2] rfl rfl)⟩
      ·
       intro a w ⟨b, s', hR, F, H⟩
       refine xG ?_
       refine vC F rfl (fun hb91 => ?_) (fun hb91 => ?_)
       ·
        rw [if_pos hb91] at hR
        refine xC ?_
        refine xH ?_
        refine xA F rfl rfl (fun a F => ?_)
        refine xF ?_
        refine xG ?_
        refine xW ?_
        refine kB ?_
        refine oV ?_
        refine oV ?_
        replace hR := l_ret hR hn57
        refine kB ?_
        refine oV ?_
        replace hR := j_ret hR hk55
        refine oV ?_
        refine xR F rfl (oO F rfl) ?_
        obtain rfl := Option.some.inj hR
        exact ⟨_, rfl, rfl, H⟩
       ·
        rw [if_neg (by simp [hb91])] at hR
        refine xO ?_
        refine zN ?_
        refine xG ?_
        refine xH ?_
        refine vM F rfl rfl rfl ink60 (fun a F => ?_)
        refine xB F rfl rfl (fun a F => ?_)
        refine xF ?_
        refine xG ?_
        replace hR := zH hR hn57
        exact ⟨_, Nat.lt_succ_self _, k60 + 1, s', (by omega), hR, F.sub (sc rfl (sc rfl (sc rfl (sc rfl (sc rfl sn))))), H⟩
   ·
    intro a w ⟨s, ho56, F, H⟩
    subst ho56
    have hR := xZ hk55
    refine xG ?_
    refine xC ?_
    refine xH ?_
    refine xA F rfl rfl (fun a F => ?_)
    refine xF ?_
    refine xG ?_
    refine xW ?_
    refine xR F rfl (oO F rfl) ?_
    obtain rfl := Option.some.inj hR
    exact ⟨_, rfl, rfl, H⟩
/-- A variable that holds a list of numbers of one's own. -/
def bI (b : Nat) (l : List Int) : As := exA (fun v => pr (bx b [v] 42) (rl 1 xK 2 v l)) (fun _ _ h => h.elim id id)
theorem first1_c (b : Nat) : Yld (bI b) (fun a _ => some (false, a)) 169 [.pointer (some ⟨b, 0, none⟩)] := by
  intro a0 s r hR X N W u0 H
  refine oD (L := [(0, u0), (1, .pointer (some ⟨b, 0, none⟩))]) func169 rfl rfl rfl (sc rfl (sc rfl sn)) (fun a F => ?_)
  obtain ⟨v, H⟩ := (H.s [1, 0] rfl rfl).exE
  have H := H.um
  refine xC ?_
  refine xH ?_
  refine xA F rfl rfl (fun a F => ?_)
  refine xF ?_
  refine xG ?_
  refine xC ?_
  refine xH ?_
  refine xB F rfl rfl (fun a F => ?_)
  refine oW sizeOf42 F rfl rfl rfl H (H.l 2 rfl).one rfl rfl (fun w H => ?_)
  refine xF ?_
  refine xG ?_
  refine xC ?_
  refine xH ?_
  refine xA F rfl rfl (fun a F => ?_)
  refine xF ?_
  refine xG ?_
  refine xW ?_
  refine xR F rfl (oO F rfl) ?_
  obtain rfl := Option.some.inj hR
  exact ⟨_, rfl, rfl, Sep.exI (f := fun v => pr (bx b [v] 42) (rl 1 xK 2 v a0)) (b := u0) (H.s [0, 2] rfl rfl).mg⟩
end Go.Proofs.YtmgdjaiaekhkgaaGreat
