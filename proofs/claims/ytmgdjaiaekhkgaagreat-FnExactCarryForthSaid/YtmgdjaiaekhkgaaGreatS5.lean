/-
  Functions of the program as plain functions, and that they compute them. Printed by sg.py.
-/
import Derived.Test.YtmgdjaiaekhkgaaGreatS4a
import Derived.Test.YtmgdjaiaekhkgaaGreatDS
namespace Go.Proofs.YtmgdjaiaekhkgaaGreat
open Go.Proofs.Tryz
set_option maxHeartbeats 1000000
set_option linter.unusedVariables false
set_option linter.unusedSimpArgs false
set_option maxRecDepth 100000
open Go.RowKit
def spec_l05Ok (x0 : Template) (x1 : Instance) : Option Bool :=
 kJ (σ := Bool) (
  oJ (kI x0) fun z29 =>
  if (!z29) then  some (.nx true) else  oJ (spec_l00In x1.vars 1 10) fun z35 =>
   if (!z35) then  some (.nx true) else  some (.nx (decide (24 < (x1.cons.length : Int))))) fun s28 =>
 if s28 then
  some false
 else
  kJ (σ := Unit) (
   qT (σ := Unit) (ρ := Bool) (fun (k155 : Nat) (x157 : Con) (s : Unit) =>
     match s with
     | _ =>
     kJ (σ := Bool) (
      oJ (ck ((x0.rels.length : Int) - 1)) fun z226 =>
      oJ (spec_l00In x157.rel 0 z226) fun z228 =>
      if (!z228) then  some (.nx true) else  oJ (ix x0.rels x157.rel) fun z243 =>
       if ((x157.scope.length : Int) != z243.arity) then  some (.nx true) else  oJ (spec_l01Places x157.scope x1.vars) fun z258 =>
        some (.nx (!z258))) fun s217 =>
     if s217 then
      some (.ret false)
     else
      some (.go ())) x1.cons 0 ()) fun _ =>
  some true
theorem spec_l05Ok_c {B : Nat → Prop} {x0 : Template} {x1 : Instance} (r : Bool) (hR : spec_l05Ok x0 x1 = some r) {v0 : Value} {v1 : Value} (w0 : World) (hN : ∀ c, B c → c < w0.heap.size) (A0 : Bo B w0 (Pt 2 xJ) v0 x0) (A1 : Bo B w0 (Pt 2 xM) v1 x1) : Calls Tryz.prog 78 #[v0, v1] w0 (vR (.bool r) w0) := by
 unfold spec_l05Ok at hR
 refine oD (L := [(0, v0), (1, v1)]) func78 rfl rfl rfl (sc rfl (sc rfl sn)) (fun a F => ?_)
 have H := Sep.start hN
 refine xC (xH (xA F rfl rfl fun a F => xF (xG (xC (xC ?_)))))
 obtain ⟨o25, hR, hk26⟩ := xS hR
 refine oQ (fun a w => ∃ (s28 : Bool), o25 = .nx s28 ∧ Sk a 84 [(0, v0), (1, v1), (25, .bool s28)] ∧ Sep [] B w0 w []) ?_ ?_
 ·
  refine xH (xB F rfl rfl (fun a F => ?_))
  obtain ⟨z29, c30, hR⟩ := xI hR
  refine oK F rfl call108 rfl H (spec_l01Template_c z29 c30 _ aA (H.a A0)) fun a w H F => kE F rfl rfl fun a F => xB F rfl rfl (fun a F => ?_)
  rcases vD (!z29) with hb31 | hb31
  ·
   replace hR := zD hb31 hR
   have F := F.eq (t := 10) rfl (congrArg Value.bool hb31)
   refine oH F rfl rfl fun a F => oH F rfl rfl fun a F => oH F rfl rfl fun a F => oH F rfl rfl fun a F => oH F rfl rfl fun a F => oH F rfl rfl fun a F => vH F rfl rfl rfl fun a F => xB F rfl rfl fun a F => oH F rfl rfl fun a F => oH F rfl rfl fun a F => oH F rfl rfl (fun a F => ?_)
   refine oH F rfl rfl fun a F => oH F rfl rfl fun a F => oH F rfl rfl fun a F => vH F rfl rfl rfl fun a F => xF (xG ?_)
   exact ⟨true, (Option.some.inj hR).symm, F.sub (sc rfl (sc rfl (sc rfl sn))), H⟩
  replace hR := zE hb31 hR
  have F := F.eq (t := 10) rfl (congrArg Value.bool hb31)
  refine xB F rfl rfl fun a F => oN F rfl rfl A1 fun a F => oF (s' := 1) fa58_0 F rfl rfl A1 xM.f0 fun a p32 h33 F => olI isAgg2 F rfl rfl H.sm h33 (fun a i34 F => ?_)
  obtain ⟨z35, c36, hR⟩ := xI hR
  refine oK F rfl call133 rfl H (spec_l00In_c z35 c36 _ aA i34 (show xY (1) by decide) (show xY (10) by decide)) fun a w H F => kE F rfl rfl fun a F => qZ F rfl rfl rfl fun a F => xB F rfl rfl (fun a F => ?_)
  rcases vD (!z35) with hb37 | hb37
  ·
   replace hR := zD hb37 hR
   have F := F.eq (t := 18) rfl (congrArg Value.bool hb37)
   refine oH F rfl rfl fun a F => oH F rfl rfl fun a F => oH F rfl rfl fun a F => oH F rfl rfl fun a F => oH F rfl rfl fun a F => oH F rfl rfl fun a F => vH F rfl rfl rfl fun a F => xF (xG ?_)
   exact ⟨true, (Option.some.inj hR).symm, F.sub (sc rfl (sc rfl (sc rfl sn))), H⟩
  replace hR := zE hb37 hR
  have F := F.eq (t := 18) rfl (congrArg Value.bool hb37)
  refine xB F rfl rfl fun a F => oN F rfl rfl A1 fun a F => oF (s' := 1) fa58_1 F rfl rfl A1 xM.f1 fun a p38 h39 F => olS isAgg56 F rfl rfl H.sm h39 fun a v40 h41 F => oL underlying56 F rfl rfl h41 fun a i42 F => o_gtr F rfl rfl rfl fun a F => qZ F rfl rfl rfl fun a F => xF (xG ?_)
  exact ⟨(decide (24 < (x1.cons.length : Int))), (Option.some.inj hR).symm, F.sub (sc rfl (sc rfl (sc rfl sn))), H⟩
 intro a w ⟨s28, ho27, F, H⟩
 subst ho27
 have hR := xZ hk26
 refine xG (vC F rfl (fun hb43 => ?_) (fun hb43 => ?_))
 ·
  replace hR := zD hb43 hR
  refine xC (xH (xA F rfl rfl fun a F => xF (xG (xW (oV (xR F rfl (oO F rfl) ?_))))))
  obtain rfl := Option.some.inj hR
  exact ⟨rfl, H.bl⟩
 replace hR := zE hb43 hR
 refine xO (xG (xC (xC (xH (xA F rfl rfl fun a F => xF (xG ?_))))))
 obtain ⟨o149, hR, hk150⟩ := xS hR
 refine oQ (fun a w => o149 = .nx () ∧ Sk a 84 [] ∧ Sep [] B w0 w []) ?_ ?_
 ·
  refine oU ?_
  obtain ⟨fl153, hf154, hR⟩ := qP hR
  refine qU (fun g a w => ∃ (k155 : Nat) (rest156 : List Con), (k155 ≤ x1.cons.length ∧ x1.cons.drop k155 = rest156) ∧ rest156.length = g ∧ qT fl153 rest156 k155 () = some o149 ∧ Sk a 84 [(5, .int .i64 (k155 : Int)), (0, v0), (1, v1)] ∧ Sep [] B w0 w []) x1.cons.length ?_ ?_
  ·
   exact ⟨0, x1.cons, ⟨Nat.zero_le _, rfl⟩, rfl, hR, F.sub (sc rfl (sc rfl (sc rfl sn))), H⟩
  intro g158 a w ⟨k155, rest156, hd159, hg160, hR, F, H⟩
  cases rest156 with
  | nil =>
   replace hR := qS hR
   have hkk155 := qR hd159.1 hd159.2
   have hlk155 := vW hkk155
   refine xC (xC (xH (xB F rfl rfl fun a F => xB F rfl rfl fun a F => oN F rfl rfl A1 fun a F => oF (s' := 1) fa58_1 F rfl rfl A1 xM.f1 fun a p261 h262 F => olS isAgg56 F rfl rfl H.sm h262 fun a v263 h264 F => oL underlying56 F rfl rfl h264 fun a i265 F => oR F rfl rfl rfl fun a F => xF ?_)))
   refine xG (vV F rfl hlk155 (qK (qQ (qQ (zT (xG ?_))))))
   exact ⟨(Option.some.inj hR).symm, F.sub sn, H⟩
  | cons x157 rest156 =>
   subst hg160
   replace hd159 := qD hd159.2
   have hxk155 := qG hd159.2.1
   obtain ⟨ck155, hR, hn152⟩ := qC hR
   rw [hf154] at hR
   have hlk155 := vA hd159.1
   refine xC (xC (xH (xB F rfl rfl fun a F => xB F rfl rfl fun a F => oN F rfl rfl A1 fun a F => oF (s' := 1) fa58_1 F rfl rfl A1 xM.f1 fun a p161 h162 F => olS isAgg56 F rfl rfl H.sm h162 fun a v163 h164 F => oL underlying56 F rfl rfl h164 fun a i165 F => oR F rfl rfl rfl fun a F => xF ?_)))
   refine xG (vZ F rfl hlk155 (xO (xG (xC ?_))))
   have ikk155 := k64 (Nat.le_of_lt hd159.1) i165
   have ink155 := zW hd159.1 i165
   refine oU (xC (xH (xB F rfl rfl fun a F => oN F rfl rfl A1 fun a F => oF (s' := 1) fa58_1 F rfl rfl A1 xM.f1 fun a p166 h167 F => olS isAgg56 F rfl rfl H.sm h167 fun a v168 h169 F => xB F rfl rfl fun a F => oI underlying56 sizeOf165 F rfl rfl rfl h169 hxk155 fun a p170 h171 F => xA F rfl rfl fun a F => xF ?_)))
   refine xG (xC ?_)
   obtain ⟨o214, hR, hk215⟩ := xS hR
   refine oQ (fun a w => ∃ (s217 : Bool), o214 = .nx s217 ∧ Sk a 84 [(0, v0), (1, v1), (5, .int .i64 (k155 : Int)), (83, .bool s217)] ∧ Sep [] B w0 w []) ?_ ?_
   ·
    refine xQ H (by kernel_rfl) (by kernel_rfl) (xN F rfl (fun w l => xP F rfl) fun a F => qN F rfl rfl h171 fun a F => qF (s' := 1) fa165_0 F rfl rfl h171 oZ.f0 fun a p218 h219 F => qlI isAgg2 F rfl rfl H.q h219 fun a i220 F => xN F rfl (fun w l => xP F rfl) fun a F => qN F rfl rfl A0 fun a F => qF (s' := 1) fa33_1 F rfl rfl A0 xJ.f1 fun a p221 h222 F => qlS isAgg31 F rfl rfl H.q h222 fun a v223 h224 F => qL underlying31 F rfl rfl h224 (fun a i225 F => ?_))
    obtain ⟨z226, c227, hR⟩ := xI hR
    refine xN F rfl (fun w l => r_sub F rfl rfl c227) (fun a F => ?_)
    obtain ⟨z228, c229, hR⟩ := xI hR
    refine q_says F rfl call133 rfl (fun w w' h l => l.through h) (fun w l => spec_l00In_c z228 c229 w aA i220 (show xY (0) by decide) (ck64 c227)) fun a F => xN F rfl (fun w l => r_not F rfl) fun a F => xN F rfl (fun w l => xP F rfl) (fun a F => ?_)
    rcases vD (!z228) with hb230 | hb230
    ·
     replace hR := zD hb230 hR
     have F := F.eq (t := 53) rfl (congrArg Value.bool hb230)
     refine oE F rfl rfl fun a F => oE F rfl rfl fun a F => oE F rfl rfl fun a F => oE F rfl rfl fun a F => oE F rfl rfl fun a F => oE F rfl rfl fun a F => oE F rfl rfl fun a F => oE F rfl rfl fun a F => oE F rfl rfl fun a F => oE F rfl rfl fun a F => oE F rfl rfl (fun a F => ?_)
     refine oE F rfl rfl fun a F => oE F rfl rfl fun a F => oE F rfl rfl fun a F => oE F rfl rfl fun a F => oE F rfl rfl fun a F => oE F rfl rfl fun a F => xN F rfl (fun w l => kM F rfl rfl) fun a F => xN F rfl (fun w l => xP F rfl) fun a F => oE F rfl rfl fun a F => oE F rfl rfl fun a F => oE F rfl rfl (fun a F => ?_)
     refine oE F rfl rfl fun a F => oE F rfl rfl fun a F => oE F rfl rfl fun a F => oE F rfl rfl fun a F => oE F rfl rfl fun a F => oE F rfl rfl fun a F => oE F rfl rfl fun a F => xN F rfl (fun w l => kM F rfl rfl) fun a F => kA fun w H => xG ?_
     exact ⟨true, (Option.some.inj hR).symm, F.sub (sc rfl (sc rfl (sc rfl (sc rfl sn)))), H⟩
    replace hR := zE hb230 hR
    have F := F.eq (t := 53) rfl (congrArg Value.bool hb230)
    refine xN F rfl (fun w l => xP F rfl) fun a F => qN F rfl rfl h171 fun a F => qF (s' := 1) fa165_1 F rfl rfl h171 oZ.f1 fun a p231 h232 F => qlS isAgg42 F rfl rfl H.q h232 fun a v233 h234 F => qL underlying42 F rfl rfl h234 fun a i235 F => xN F rfl (fun w l => xP F rfl) fun a F => qN F rfl rfl A0 fun a F => qF (s' := 1) fa33_1 F rfl rfl A0 xJ.f1 fun a p236 h237 F => qlS isAgg31 F rfl rfl H.q h237 fun a v238 h239 F => xN F rfl (fun w l => xP F rfl) fun a F => qN F rfl rfl h171 (fun a F => ?_)
    refine qF (s' := 1) fa165_0 F rfl rfl h171 oZ.f0 fun a p240 h241 F => qlI isAgg2 F rfl rfl H.q h241 (fun a i242 F => ?_)
    obtain ⟨z243, c244, hR⟩ := xI hR
    refine qI underlying31 sizeOf84 F rfl rfl rfl h239 c244 fun a p245 h246 F => qF (s' := 1) fa84_0 F rfl rfl h246 qE.f0 fun a p247 h248 F => qlI isAgg2 F rfl rfl H.q h248 fun a i249 F => xN F rfl (fun w l => r_neq F rfl rfl) fun a F => xN F rfl (fun w l => r_pickf F rfl rfl) fun a F => xN F rfl (fun w l => xP F rfl) (fun a F => ?_)
    rcases vD ((x157.scope.length : Int) != z243.arity) with hb250 | hb250
    ·
     replace hR := zD hb250 hR
     have F := F.eq (t := 72) rfl (congrArg Value.bool hb250)
     refine oE F rfl rfl fun a F => oE F rfl rfl fun a F => oE F rfl rfl fun a F => oE F rfl rfl fun a F => oE F rfl rfl fun a F => oE F rfl rfl fun a F => oE F rfl rfl fun a F => oE F rfl rfl fun a F => oE F rfl rfl fun a F => oE F rfl rfl fun a F => xN F rfl (fun w l => kM F rfl rfl) (fun a F => ?_)
     refine kA fun w H => xG ?_
     exact ⟨true, (Option.some.inj hR).symm, F.sub (sc rfl (sc rfl (sc rfl (sc rfl sn)))), H⟩
    replace hR := zE hb250 hR
    have F := F.eq (t := 72) rfl (congrArg Value.bool hb250)
    refine xN F rfl (fun w l => xP F rfl) fun a F => qN F rfl rfl h171 fun a F => qF (s' := 1) fa165_1 F rfl rfl h171 oZ.f1 fun a p251 h252 F => qlS isAgg42 F rfl rfl H.q h252 fun a v253 h254 F => xN F rfl (fun w l => xP F rfl) fun a F => qN F rfl rfl A1 fun a F => qF (s' := 1) fa58_0 F rfl rfl A1 xM.f0 fun a p255 h256 F => qlI isAgg2 F rfl rfl H.q h256 (fun a i257 F => ?_)
    obtain ⟨z258, c259, hR⟩ := xI hR
    refine q_says F rfl call140 rfl (fun w w' h l => l.through h) (fun w l => spec_l01Places_c z258 c259 w aA ((H.go l).a h254) i257) fun a F => xN F rfl (fun w l => r_not F rfl) fun a F => xN F rfl (fun w l => r_pickf F rfl rfl) fun a F => kA fun w H => xG ?_
    exact ⟨(!z258), (Option.some.inj hR).symm, F.sub (sc rfl (sc rfl (sc rfl (sc rfl sn)))), H⟩
   intro a w ⟨s217, ho216, F, H⟩
   subst ho216
   have hR := xZ hk215
   refine xG (vC F rfl (fun hb260 => ?_) (fun hb260 => ?_))
   ·
    replace hR := zD hb260 hR
    refine xC (xH (xA F rfl rfl fun a F => xF (xG (xW (kB (oV (oV ?_)))))))
    replace hR := l_ret hR hn152
    refine kB (oV ?_)
    replace hR := j_ret hR hk150
    refine oV (xR F rfl (oO F rfl) ?_)
    obtain rfl := Option.some.inj hR
    exact ⟨rfl, H.bl⟩
   replace hR := zE hb260 hR
   refine xO (zN (xG (xH (xB F rfl rfl fun a F => vM F rfl rfl rfl ink155 fun a F => xA F rfl rfl fun a F => xF (xG ?_)))))
   replace hR := zH hR hn152
   exact ⟨_, Nat.lt_succ_self _, k155 + 1, rest156, ⟨hd159.1, hd159.2.2⟩, rfl, hR, F.sub (sc rfl (sc rfl (sc rfl sn))), H⟩
 intro a w ⟨ho151, F, H⟩
 subst ho151
 have hR := xZ hk150
 refine xG (xC (xH (xA F rfl rfl fun a F => xF (xG (xW (xR F rfl (oO F rfl) ?_))))))
 obtain rfl := Option.some.inj hR
 exact ⟨rfl, H.bl⟩

def spec_l09Asked (N : Nat) (x0 : Template) (x1 : Template) (x2 : Gadgets) (x3 : Instance) : Option Bool :=
 kJ (σ := Bool) (
  oJ (spec_l09Ok N x0 x1 x2) fun z20 =>
  if z20 then  oJ (spec_l05Ok x0 x3) fun z23 =>
   some (.nx z23) else  some (.nx false)) fun s19 =>
 some s19
theorem spec_l09Asked_c {B : Nat → Prop} {N : Nat} {x0 : Template} {x1 : Template} {x2 : Gadgets} {x3 : Instance} (r : Bool) (hR : spec_l09Asked N x0 x1 x2 x3 = some r) {v0 : Value} {v1 : Value} {v2 : Value} {v3 : Value} (w0 : World) (hN : ∀ c, B c → c < w0.heap.size) (A0 : Bo B w0 (Pt 2 xJ) v0 x0) (A1 : Bo B w0 (Pt 2 xJ) v1 x1) (A2 : Bo B w0 (Pt 1 xV) v2 x2) (A3 : Bo B w0 (Pt 2 xM) v3 x3) : Calls Tryz.prog 64 #[v0, v1, v2, v3] w0 (vR (.bool r) w0) := by
 unfold spec_l09Asked at hR
 refine oD (L := [(0, v0), (1, v1), (2, v2), (3, v3)]) func64 rfl rfl rfl (sc rfl (sc rfl (sc rfl (sc rfl sn)))) (fun a F => ?_)
 have H := Sep.start hN
 refine xC (xH (xA F rfl rfl fun a F => xF (xG (xC ?_))))
 obtain ⟨o16, hR, hk17⟩ := xS hR
 refine oQ (fun a w => ∃ (s19 : Bool), o16 = .nx s19 ∧ Sk a 18 [(8, .bool s19)] ∧ Sep [] B w0 w []) ?_ ?_
 ·
  refine xH (xB F rfl rfl fun a F => xB F rfl rfl fun a F => xB F rfl rfl (fun a F => ?_))
  obtain ⟨z20, c21, hR⟩ := xI hR
  refine oK F rfl call44 rfl H (spec_l09Ok_c z20 c21 _ aA (H.a A0) (H.a A1) (H.a A2)) fun a w H F => xB F rfl rfl (fun a F => ?_)
  rcases vD z20 with hb22 | hb22
  ·
   replace hR := zD hb22 hR
   have F := F.eq (t := 13) rfl (congrArg Value.bool hb22)
   refine xB F rfl rfl fun a F => xB F rfl rfl (fun a F => ?_)
   obtain ⟨z23, c24, hR⟩ := xI hR
   refine oK F rfl call78 rfl H (spec_l05Ok_c z23 c24 _ aA (H.a A0) (H.a A3)) fun a w H F => vH F rfl rfl rfl fun a F => xA F rfl rfl fun a F => xF (xG ?_)
   exact ⟨z23, (Option.some.inj hR).symm, F.sub (sc rfl sn), H⟩
  replace hR := zE hb22 hR
  have F := F.eq (t := 13) rfl (congrArg Value.bool hb22)
  refine oH F rfl rfl fun a F => oH F rfl rfl fun a F => oH F rfl rfl fun a F => qZ F rfl rfl rfl fun a F => xA F rfl rfl fun a F => xF (xG ?_)
  exact ⟨false, (Option.some.inj hR).symm, F.sub (sc rfl sn), H⟩
 intro a w ⟨s19, ho18, F, H⟩
 subst ho18
 have hR := xZ hk17
 refine xG (xW (xR F rfl (oO F rfl) ?_))
 obtain rfl := Option.some.inj hR
 exact ⟨rfl, H.bl⟩

def spec_l03Count (x0 : Int) : Option (List Int) :=
 kJ (σ := (List Int)) (
  kT (σ := (List Int)) (ρ := (List Int)) (fun (k34 : Nat) (s28 : (List Int)) =>
   oJ (ap s28 ([(k34 : Int)])) fun z42 =>
   some (.go z42)) x0.toNat 0 []) fun s31 =>
 some s31
theorem spec_l03Count_c {B : Nat → Prop} {x0 : Int} (r : (List Int)) (hR : spec_l03Count x0 = some r)  (w0 : World) (hN : ∀ c, B c → c < w0.heap.size) (hx0 : xY x0) : Calls Tryz.prog 123 #[.int .i64 x0] w0 (Gv (fun v w' => ∃ (v1' : Value), v = v1' ∧ Sep [] B w0 w' [rl 1 xK 2 v1' r])) := by
 unfold spec_l03Count at hR
 refine oD (L := [(0, .int .i64 x0)]) func123 rfl rfl rfl (sc rfl sn) (fun a F => ?_)
 have H := Sep.start hN
 refine xC (xH (xA F rfl rfl fun a F => xF (xG (xC (xH (oR0 (R := xK) underlying42 sizeOf2 F rfl H fun a w v11 H F => xA F rfl rfl fun a F => xF (xG ?_)))))))
 refine xC (xC (xH (xA F rfl rfl fun a F => xF (xG ?_))))
 obtain ⟨o22, hR, hk23⟩ := xS hR
 refine oQ (fun a w => ∃ (s31 : List Int) (v33 : Value), o22 = .nx s31 ∧ Sk a 16 [(3, v33)] ∧ Sep [] B w0 w [rl 1 xK 2 v33 s31]) ?_ ?_
 ·
  refine oU ?_
  obtain ⟨fl26, hf27, hR⟩ := forI_gen hR
  refine qU (fun g a w => ∃ (k34 : Nat) (s28 : List Int) (v30 : Value), k34 + g = x0.toNat ∧ kT fl26 g k34 s28 = some o22 ∧ Sk a 16 [(4, .int .i64 (k34 : Int)), (0, .int .i64 x0), (3, v30)] ∧ Sep [] B w0 w [rl 1 xK 2 v30 s28]) x0.toNat ?_ ?_
  ·
   exact ⟨0, [], v11, (Nat.zero_add _), hR, F.sub (sc rfl (sc rfl (sc rfl sn))), H⟩
  intro g37 a w ⟨k34, s28, v30, hd38, hR, F, H⟩
  cases g37 with
  | zero =>
   replace hR := forI_zero hR
   have hlk34 := dec_noI hd38
   refine xC (xC (xH (xB F rfl rfl fun a F => xB F rfl rfl fun a F => oR F rfl rfl rfl fun a F => xF (xG (vV F rfl hlk34 (qK (qQ ?_)))))))
   refine qQ (zT (xG ?_))
   exact ⟨s28, v30, (Option.some.inj hR).symm, F.sub (sc rfl sn), H⟩
  | succ g37 =>
   obtain ⟨ck34, hR, hn25⟩ := forI_succ hR
   rw [hf27] at hR
   have hlk34 := dec_yesI hd38
   refine xC (xC (xH (xB F rfl rfl fun a F => xB F rfl rfl fun a F => oR F rfl rfl rfl fun a F => xF (xG (vZ F rfl hlk34 (xO (xG ?_)))))))
   refine xC ?_
   have ikk34 := k64I hd38 hx0
   have ink34 := inc64I hd38 hx0
   refine oU (xH (xB F rfl rfl fun a F => xB F rfl rfl fun a F => oR1z (R := xK) (y := (k34 : Int)) underlying42 sizeOf2 zeroValue2 rfl rfl F rfl rfl H (Eo.int ikk34) (fun a w v40 H F => ?_)))
   obtain ⟨z42, c43, hR⟩ := xI hR
   refine oPL (sz := 1) (R := xK) (z := (.int .i64 0)) (bytes := 8) underlying42 (by kernel_rfl) rfl rfl F rfl rfl rfl (H.s [1, 0] rfl rfl) c43 fun a w v44 H F => xA F rfl rfl fun a F => xF (zN (xG (xH (xB F rfl rfl fun a F => vM F rfl rfl rfl ink34 fun a F => xA F rfl rfl fun a F => xF (xG ?_)))))
   replace hR := zH hR hn25
   exact ⟨_, Nat.lt_succ_self _, k34 + 1, z42, v44, (by omega), hR, F.sub (sc rfl (sc rfl (sc rfl sn))), H⟩
 intro a w ⟨s31, v33, ho24, F, H⟩
 subst ho24
 have hR := xZ hk23
 refine xG (xC (xH (xB F rfl rfl fun a F => xA F rfl rfl fun a F => xF (xG (xW (xR F rfl (oO F rfl) ?_))))))
 obtain rfl := Option.some.inj hR
 exact ⟨_, rfl, v33, rfl, H⟩

def spec_l00Min (x0 : Int) (x1 : Int) : Option Int :=
 if (decide (x0 < x1)) then
  some x0
 else
  some x1
theorem spec_l00Min_c {B : Nat → Prop} {x0 : Int} {x1 : Int} (r : Int) (hR : spec_l00Min x0 x1 = some r)  (w0 : World) (hN : ∀ c, B c → c < w0.heap.size) (hx0 : xY x0) (hx1 : xY x1) : Calls Tryz.prog 125 #[.int .i64 x0, .int .i64 x1] w0 (SaysI r w0) := by
 unfold spec_l00Min at hR
 refine oD (L := [(0, .int .i64 x0), (1, .int .i64 x1)]) func125 rfl rfl rfl (sc rfl (sc rfl sn)) (fun a F => ?_)
 have H := Sep.start hN
 refine xC (xH (xA F rfl rfl fun a F => xF (xG (xC (xC (xH (xB F rfl rfl fun a F => xB F rfl rfl fun a F => oR F rfl rfl rfl (fun a F => ?_))))))))
 refine xF (xG (vC F rfl (fun hb11 => ?_) (fun hb11 => ?_)))
 ·
  replace hR := zD hb11 hR
  refine xC (xH (xB F rfl rfl fun a F => xA F rfl rfl fun a F => xF (xG (xW (oV (xR F rfl (oO F rfl) ?_))))))
  obtain rfl := Option.some.inj hR
  exact ⟨⟨rfl, H.bl⟩, hx0⟩
 replace hR := zE hb11 hR
 refine xO (xG (xC (xH (xB F rfl rfl fun a F => xA F rfl rfl fun a F => xF (xG (xW (xR F rfl (oO F rfl) ?_)))))))
 obtain rfl := Option.some.inj hR
 exact ⟨⟨rfl, H.bl⟩, hx1⟩

def spec_l09Apply (x0 : Gadgets) (x1 : Instance) : Option (Instance × (List Int) × Int) :=
 kJ (σ := Int × (List Atom)) (
  qT (σ := Int × (List Atom)) (ρ := Instance × (List Int) × Int) (fun (k151 : Nat) (x153 : Con) (s : Int × (List Atom)) =>
    match s with
    | (s141, s143) =>
    oJ (ix x0.formulas x153.rel) fun z175 =>
    oJ (zO x153.scope) fun z189 =>
    kJ (σ := Int × (List Int)) (
     kT (σ := Int × (List Int)) (ρ := (Ctl (Int × (List Atom)) (Instance × (List Int) × Int))) (fun (k232 : Nat) (s : Int × (List Int)) =>
       match s with
       | (s222, s224) =>
       oJ (ap s224 ([s222])) fun z243 =>
       oJ (ck (s222 + 1)) fun z247 =>
       some (.go (z247, z243))) (z175.vars - z175.free).toNat 0 (s141, z189)) fun (s227, s229) =>
    oJ (spec_l03Moved z175.atoms s229) fun z256 =>
    oJ (ap s143 z256) fun z261 =>
    some (.go (s227, z261))) x1.cons 0 (x1.vars, [])) fun (s146, s148) =>
 oJ (spec_l03Count s146) fun z270 =>
 kJ (σ := (List Int)) (
  qT (σ := (List Int)) (ρ := Instance × (List Int) × Int) (fun (k495 : Nat) (x497 : Atom) (s489 : (List Int)) =>
   if (x497.rel != (-1)) then
    some (.go s489)
   else
    oJ (ix x497.args 0) fun z514 =>
    oJ (ix s489 z514) fun z519 =>
    oJ (ix x497.args 1) fun z530 =>
    oJ (ix s489 z530) fun z535 =>
    kJ (σ := (List Int)) (
     kT (σ := (List Int)) (ρ := (Ctl ((List Int)) (Instance × (List Int) × Int))) (fun (k583 : Nat) (s577 : (List Int)) =>
      oJ (ix s577 (k583 : Int)) fun z589 =>
      oJ (spec_l00Max z519 z535) fun z594 =>
      if (z589 == z594) then
       oJ (spec_l00Min z519 z535) fun z597 =>
       some (.go (s577.set ((k583 : Int)).toNat z597))
      else
       some (.go s577)) s146.toNat 0 s489) fun s580 =>
    some (.go s580)) s148 0 z270) fun s492 =>
 oJ (mkz (0 : Int) s146) fun z604 =>
 kJ (σ := (List Int) × Int) (
  kT (σ := (List Int) × Int) (ρ := Instance × (List Int) × Int) (fun (k658 : Nat) (s : (List Int) × Int) =>
    match s with
    | (s648, s651) =>
    oJ (ix s492 (k658 : Int)) fun z664 =>
    if (z664 == (k658 : Int)) then
     oJ (ix s648 (k658 : Int)) fun z670 =>
     oJ (ck (s651 + 1)) fun z676 =>
     some (.go ((s648.set ((k658 : Int)).toNat s651), z676))
    else
     some (.go (s648, s651))) s146.toNat 0 (z604, 0)) fun (s653, s656) =>
 kJ (σ := (List Int)) (
  kT (σ := (List Int)) (ρ := Instance × (List Int) × Int) (fun (k725 : Nat) (s719 : (List Int)) =>
   oJ (ix s492 (k725 : Int)) fun z731 =>
   oJ (ix s719 z731) fun z736 =>
   oJ (ix s719 (k725 : Int)) fun z741 =>
   some (.go (s719.set ((k725 : Int)).toNat z736))) s146.toNat 0 s653) fun s722 =>
 kJ (σ := (List Con)) (
  qT (σ := (List Con)) (ρ := Instance × (List Int) × Int) (fun (k925 : Nat) (x927 : Atom) (s919 : (List Con)) =>
   if (x927.rel != (-1)) then
    oJ (spec_l01Mapped x927.args s722) fun z949 =>
    oJ (ap s919 ([(Con.mk x927.rel z949)])) fun z957 =>
    some (.go z957)
   else
    some (.go s919)) s148 0 []) fun s922 =>
 kJ (σ := Bool) (
  if (decide (10 < s656)) then  some (.nx true) else  some (.nx (decide (24 < (s922.length : Int))))) fun s1018 =>
 if s1018 then
  some ((Instance.mk 0 ([])), [], 3)
 else
  oJ (sl s722 0 x1.vars) fun z1028 =>
  some ((Instance.mk s656 s922), z1028, 0)
theorem spec_l09Apply_c {B : Nat → Prop} {x0 : Gadgets} {x1 : Instance} (r : Instance × (List Int) × Int) (hR : spec_l09Apply x0 x1 = some r) {v0 : Value} {v1 : Value} (w0 : World) (hN : ∀ c, B c → c < w0.heap.size) (A0 : Bo B w0 (Pt 1 xV) v0 x0) (A1 : Bo B w0 (Pt 2 xM) v1 x1) : Calls Tryz.prog 65 #[v0, v1] w0 (Gv (fun v w' => ∃ (v1' : Value) (v2' : Value), v = .tuple #[.agg #[.int .i64 r.1.vars, v1'], v2', .int .i64 r.2.2] ∧ Sep [] B w0 w' [rl 2 oZ 165 v1' r.1.cons, rl 1 xK 2 v2' r.2.1] ∧ xY r.1.vars ∧ xY r.2.2)) := by
 unfold spec_l09Apply at hR
 refine oD (L := [(0, v0), (1, v1)]) func65 rfl rfl rfl (sc rfl (sc rfl sn)) (fun a F => ?_)
 have H := Sep.start hN
 refine xC (xH (oA zeroValue58 F rfl rfl H fun a w b11 H F => xA F rfl rfl fun a F => xA F rfl rfl fun a F => xF (xG (xC (xH (xB F rfl rfl fun a F => oN F rfl rfl A1 (fun a F => ?_)))))))
 refine oF (s' := 1) fa58_0 F rfl rfl A1 xM.f0 fun a p12 h13 F => olI isAgg2 F rfl rfl H.sm h13 fun a i14 F => xA F rfl rfl fun a F => xF (xG (xC (xH (oR0 (R := xU) underlying93 sizeOf158 F rfl H fun a w v15 H F => xA F rfl rfl fun a F => xF (xG ?_)))))
 refine xC (xC (xH (xA F rfl rfl fun a F => xF (xG ?_))))
 obtain ⟨o135, hR, hk136⟩ := xS hR
 refine oQ (fun a w => ∃ (s146 : Int) (s148 : List Atom) (v150 : Value), o135 = .nx (s146, s148) ∧ Sk a 224 [(1, v1), (4, .pointer (some ⟨b11, 0, none⟩)), (7, .int .i64 s146), (8, v150)] ∧ Sep [] B w0 w [rl 2 xU 158 v150 s148, bx b11 [.int .i64 0, (.slice none 0 0)] 58] ∧ xY s146) ?_ ?_
 ·
  refine oU ?_
  obtain ⟨fl139, hf140, hR⟩ := qP hR
  refine qU (fun g a w => ∃ (k151 : Nat) (rest152 : List Con) (s141 : Int) (s143 : List Atom) (v145 : Value), (k151 ≤ x1.cons.length ∧ x1.cons.drop k151 = rest152) ∧ rest152.length = g ∧ qT fl139 rest152 k151 (s141, s143) = some o135 ∧ Sk a 224 [(9, .int .i64 (k151 : Int)), (0, v0), (1, v1), (4, .pointer (some ⟨b11, 0, none⟩)), (7, .int .i64 s141), (8, v145)] ∧ Sep [] B w0 w [rl 2 xU 158 v145 s143, bx b11 [.int .i64 0, (.slice none 0 0)] 58] ∧ xY s141) x1.cons.length ?_ ?_
  ·
   exact ⟨0, x1.cons, x1.vars, [], v15, ⟨Nat.zero_le _, rfl⟩, rfl, hR, F.sub (sc rfl (sc rfl (sc rfl (sc rfl (sc rfl (sc rfl sn)))))), H, i14⟩
  intro g154 a w ⟨k151, rest152, s141, s143, v145, hd155, hg156, hR, F, H, i142⟩
  cases rest152 with
  | nil =>
   replace hR := qS hR
   have hkk151 := qR hd155.1 hd155.2
   have hlk151 := vW hkk151
   refine xC (xC (xH (xB F rfl rfl fun a F => xB F rfl rfl fun a F => oN F rfl rfl A1 fun a F => oF (s' := 1) fa58_1 F rfl rfl A1 xM.f1 fun a p265 h266 F => olS isAgg56 F rfl rfl H.sm h266 fun a v267 h268 F => oL underlying56 F rfl rfl h268 fun a i269 F => oR F rfl rfl rfl fun a F => xF ?_)))
   refine xG (vV F rfl hlk151 (qK (qQ (qQ (zT (xG ?_))))))
   exact ⟨s141, s143, v145, (Option.some.inj hR).symm, F.sub (sc rfl (sc rfl (sc rfl (sc rfl sn)))), H, i142⟩
  | cons x153 rest152 =>
   subst hg156
   replace hd155 := qD hd155.2
   have hxk151 := qG hd155.2.1
   obtain ⟨ck151, hR, hn138⟩ := qC hR
   rw [hf140] at hR
   have hlk151 := vA hd155.1
   refine xC (xC (xH (xB F rfl rfl fun a F => xB F rfl rfl fun a F => oN F rfl rfl A1 fun a F => oF (s' := 1) fa58_1 F rfl rfl A1 xM.f1 fun a p157 h158 F => olS isAgg56 F rfl rfl H.sm h158 fun a v159 h160 F => oL underlying56 F rfl rfl h160 fun a i161 F => oR F rfl rfl rfl fun a F => xF ?_)))
   refine xG (vZ F rfl hlk151 (xO (xG (xC ?_))))
   have ikk151 := k64 (Nat.le_of_lt hd155.1) i161
   have ink151 := zW hd155.1 i161
   refine oU (xC (xQ H (by kernel_rfl) (by kernel_rfl) (xN F rfl (fun w l => xP F rfl) fun a F => qN F rfl rfl A0 fun a F => qF (s' := 1) fa37_0 F rfl rfl A0 xV.f0 fun a p162 h163 F => qlS isAgg35 F rfl rfl H.q h163 fun a v164 h165 F => xN F rfl (fun w l => xP F rfl) fun a F => qN F rfl rfl A1 fun a F => qF (s' := 1) fa58_1 F rfl rfl A1 xM.f1 fun a p166 h167 F => qlS isAgg56 F rfl rfl H.q h167 (fun a v168 h169 F => ?_))))
   refine xN F rfl (fun w l => xP F rfl) fun a F => qI underlying56 sizeOf165 F rfl rfl rfl h169 hxk151 fun a p170 h171 F => qF (s' := 1) fa165_0 F rfl rfl h171 oZ.f0 fun a p172 h173 F => qlI isAgg2 F rfl rfl H.q h173 (fun a i174 F => ?_)
   obtain ⟨z175, c176, hR⟩ := xI hR
   refine qI underlying35 sizeOf95 F rfl rfl rfl h165 c176 fun a p177 h178 F => xN F rfl (fun w l => vO F rfl) fun a F => kA fun w H => xG (xC (xH (xB F rfl rfl fun a F => oN F rfl rfl A1 fun a F => oF (s' := 1) fa58_1 F rfl rfl A1 xM.f1 fun a p179 h180 F => olS isAgg56 F rfl rfl H.sm h180 fun a v181 h182 F => xB F rfl rfl (fun a F => ?_))))
   refine oI underlying56 sizeOf165 F rfl rfl rfl h182 hxk151 fun a p183 h184 F => oF (s' := 1) fa165_1 F rfl rfl h184 oZ.f1 fun a p185 h186 F => olS isAgg42 F rfl rfl H.sm h186 (fun a v187 h188 F => ?_)
   obtain ⟨z189, c190, hR⟩ := xI hR
   refine oG F rfl call115 rfl (spec_l00Own_c z189 c190 _ aA (H.a h188)) (fun a vv w ⟨v191, hv193, S⟩ F => ?_)
   subst vv
   have H := H.r1 S n0
   refine xA F rfl rfl fun a F => xF (xG (xC (xC (xH (xB F rfl rfl fun a F => oN F rfl rfl h178 fun a F => oF (s' := 1) fa95_0 F rfl rfl h178 xL.f0 fun a p194 h195 F => olI isAgg2 F rfl rfl H.sm h195 fun a i196 F => xA F rfl rfl (fun a F => ?_))))))
   refine xF (xG ?_)
   obtain ⟨o216, hR, hk217⟩ := xS hR
   refine oQ (fun a w => ∃ (s227 : Int) (s229 : List Int) (v231 : Value), o216 = .nx (s227, s229) ∧ Sk a 224 [(0, v0), (1, v1), (4, .pointer (some ⟨b11, 0, none⟩)), (7, .int .i64 s227), (8, v145), (9, .int .i64 (k151 : Int)), (10, p177), (11, v231)] ∧ Sep [] B w0 w [rl 1 xK 2 v231 s229, rl 2 xU 158 v145 s143, bx b11 [.int .i64 0, (.slice none 0 0)] 58] ∧ xY s227) ?_ ?_
   ·
    refine oU ?_
    obtain ⟨fl220, hf221, hR⟩ := forI_gen hR
    have F := F.eq (t := 12) rfl (show Value.int .i64 z175.free = Value.int .i64 (z175.free + ((0 : Nat) : Int)) by rw [Int.ofNat_zero, Int.add_zero])
    refine qU (fun g a w => ∃ (k232 : Nat) (s222 : Int) (s224 : List Int) (v226 : Value), k232 + g = (z175.vars - z175.free).toNat ∧ kT fl220 g k232 (s222, s224) = some o216 ∧ Sk a 224 [(12, .int .i64 (z175.free + (k232 : Int))), (0, v0), (1, v1), (4, .pointer (some ⟨b11, 0, none⟩)), (7, .int .i64 s222), (8, v145), (9, .int .i64 (k151 : Int)), (10, p177), (11, v226)] ∧ Sep [] B w0 w [rl 1 xK 2 v226 s224, rl 2 xU 158 v145 s143, bx b11 [.int .i64 0, (.slice none 0 0)] 58] ∧ xY s222) (z175.vars - z175.free).toNat ?_ ?_
    ·
     exact ⟨0, s141, z189, v191, (Nat.zero_add _), hR, F.sub (sc rfl (sc rfl (sc rfl (sc rfl (sc rfl (sc rfl (sc rfl (sc rfl (sc rfl sn))))))))), H, i142⟩
    intro g235 a w ⟨k232, s222, s224, v226, hd236, hR, F, H, i223⟩
    cases g235 with
    | zero =>
     replace hR := forI_zero hR
     have hlk232 := dec_noIO hd236
     refine xC (xC (xH (xB F rfl rfl fun a F => xB F rfl rfl fun a F => oN F rfl rfl h178 fun a F => oF (s' := 1) fa95_1 F rfl rfl h178 xL.f1 fun a p249 h250 F => olI isAgg2 F rfl rfl H.sm h250 fun a i251 F => oR F rfl rfl rfl fun a F => xF (xG ?_))))
     refine vV F rfl hlk232 (qK (qQ (qQ (zT (xG ?_)))))
     exact ⟨s222, s224, v226, (Option.some.inj hR).symm, F.sub (sc rfl (sc rfl (sc rfl (sc rfl (sc rfl (sc rfl (sc rfl (sc rfl sn)))))))), H, i223⟩
    | succ g235 =>
     obtain ⟨ck232, hR, hn219⟩ := forI_succ hR
     rw [hf221] at hR
     have hlk232 := dec_yesIO hd236
     refine xC (xC (xH (xB F rfl rfl fun a F => xB F rfl rfl fun a F => oN F rfl rfl h178 fun a F => oF (s' := 1) fa95_1 F rfl rfl h178 xL.f1 fun a p238 h239 F => olI isAgg2 F rfl rfl H.sm h239 fun a i240 F => oR F rfl rfl rfl fun a F => xF (xG ?_))))
     refine vZ F rfl hlk232 (xO (xG (xC ?_)))
     have ikk232 := k64O hd236 i196 i240
     have ink232 := inc64O hd236 i196 i240
     refine oU (xC (xH (xB F rfl rfl fun a F => xB F rfl rfl fun a F => oR1z (R := xK) (y := s222) underlying42 sizeOf2 zeroValue2 rfl rfl F rfl rfl H (Eo.int i223) (fun a w v241 H F => ?_))))
     obtain ⟨z243, c244, hR⟩ := xI hR
     refine oPL (sz := 1) (R := xK) (z := (.int .i64 0)) (bytes := 8) underlying42 (by kernel_rfl) rfl rfl F rfl rfl rfl (H.s [1, 0, 2, 3] rfl rfl) c244 fun a w v245 H F => xA F rfl rfl fun a F => xF (xG (xH (xB F rfl rfl (fun a F => ?_))))
     obtain ⟨z247, c248, hR⟩ := xI hR
     refine o_add F rfl rfl rfl c248 fun a F => xA F rfl rfl fun a F => xF (zN (xG (xH (xB F rfl rfl fun a F => o_incO F rfl rfl rfl ink232 fun a F => xA F rfl rfl fun a F => xF (xG ?_)))))
     replace hR := zH hR hn219
     exact ⟨_, Nat.lt_succ_self _, k232 + 1, z247, z243, v245, (by omega), hR, F.sub (sc rfl (sc rfl (sc rfl (sc rfl (sc rfl (sc rfl (sc rfl (sc rfl (sc rfl sn))))))))), H, (ck64 c248)⟩
   intro a w ⟨s227, s229, v231, ho218, F, H, i228⟩
   subst ho218
   have hR := xZ hk217
   refine xG (xH (xB F rfl rfl fun a F => xB F rfl rfl fun a F => oN F rfl rfl h178 fun a F => oF (s' := 1) fa95_2 F rfl rfl h178 xL.f2 fun a p252 h253 F => olS isAgg93 F rfl rfl H.sm h253 fun a v254 h255 F => xB F rfl rfl (fun a F => ?_)))
   obtain ⟨z256, c257, hR⟩ := xI hR
   refine oG F rfl call116 rfl (spec_l03Moved_c z256 c257 _ aA (H.a h255) (H.l 0 rfl)) (fun a vv w ⟨v258, hv260, S⟩ F => ?_)
   subst vv
   have H := H.r1 S n0
   obtain ⟨z261, c262, hR⟩ := xI hR
   refine oPL (sz := 2) (R := xU) (z := (.agg #[.int .i64 0, (.slice none 0 0)])) (bytes := 32) underlying93 (by kernel_rfl) rfl rfl F rfl rfl rfl (H.s [2, 0, 1, 3] rfl rfl) c262 fun a w v263 H F => xA F rfl rfl fun a F => xF (zN (xG (xH (xB F rfl rfl fun a F => vM F rfl rfl rfl ink151 fun a F => xA F rfl rfl fun a F => xF (xG ?_)))))
   replace hR := zH hR hn138
   exact ⟨_, Nat.lt_succ_self _, k151 + 1, rest152, s227, z261, v263, ⟨hd155.1, hd155.2.2⟩, rfl, hR, F.sub (sc rfl (sc rfl (sc rfl (sc rfl (sc rfl (sc rfl sn)))))), (H.s [0, 2] rfl rfl), i228⟩
 intro a w ⟨s146, s148, v150, ho137, F, H, i147⟩
 subst ho137
 have hR := xZ hk136
 refine xG (xC (xH (xB F rfl rfl (fun a F => ?_))))
 obtain ⟨z270, c271, hR⟩ := xI hR
 refine oG F rfl call123 rfl (spec_l03Count_c z270 c271 _ aA i147) (fun a vv w ⟨v272, hv274, S⟩ F => ?_)
 subst vv
 have H := H.r1 S n0
 refine xA F rfl rfl fun a F => xF (xG (xC (xC (xH (xA F rfl rfl fun a F => xF (xG ?_))))))
 obtain ⟨o483, hR, hk484⟩ := xS hR
 refine oQ (fun a w => ∃ (s492 : List Int) (v494 : Value), o483 = .nx s492 ∧ Sk a 224 [(1, v1), (4, .pointer (some ⟨b11, 0, none⟩)), (7, .int .i64 s146), (8, v150), (13, v494)] ∧ Sep [] B w0 w [rl 1 xK 2 v494 s492, rl 2 xU 158 v150 s148, bx b11 [.int .i64 0, (.slice none 0 0)] 58]) ?_ ?_
 ·
  refine oU ?_
  obtain ⟨fl487, hf488, hR⟩ := qP hR
  refine qU (fun g a w => ∃ (k495 : Nat) (rest496 : List Atom) (s489 : List Int) (v491 : Value), (k495 ≤ s148.length ∧ s148.drop k495 = rest496) ∧ rest496.length = g ∧ qT fl487 rest496 k495 s489 = some o483 ∧ Sk a 224 [(14, .int .i64 (k495 : Int)), (1, v1), (4, .pointer (some ⟨b11, 0, none⟩)), (7, .int .i64 s146), (8, v150), (13, v491)] ∧ Sep [] B w0 w [rl 1 xK 2 v491 s489, rl 2 xU 158 v150 s148, bx b11 [.int .i64 0, (.slice none 0 0)] 58]) s148.length ?_ ?_
  ·
   exact ⟨0, s148, z270, v272, ⟨Nat.zero_le _, rfl⟩, rfl, hR, F.sub (sc rfl (sc rfl (sc rfl (sc rfl (sc rfl (sc rfl sn)))))), H⟩
  intro g498 a w ⟨k495, rest496, s489, v491, hd499, hg500, hR, F, H⟩
  cases rest496 with
  | nil =>
   replace hR := qS hR
   have hkk495 := qR hd499.1 hd499.2
   have hlk495 := vW hkk495
   refine xC (xC (xH (xB F rfl rfl fun a F => xB F rfl rfl fun a F => oL underlying93 F rfl rfl (H.l 1 rfl) fun a i603 F => oR F rfl rfl rfl fun a F => xF (xG (vV F rfl hlk495 (qK ?_))))))
   refine qQ (qQ (zT (xG ?_)))
   exact ⟨s489, v491, (Option.some.inj hR).symm, F.sub (sc rfl (sc rfl (sc rfl (sc rfl (sc rfl sn))))), H⟩
  | cons x497 rest496 =>
   subst hg500
   replace hd499 := qD hd499.2
   have hxk495 := qG hd499.2.1
   obtain ⟨ck495, hR, hn486⟩ := qC hR
   rw [hf488] at hR
   have hlk495 := vA hd499.1
   refine xC (xC (xH (xB F rfl rfl fun a F => xB F rfl rfl fun a F => oL underlying93 F rfl rfl (H.l 1 rfl) fun a i501 F => oR F rfl rfl rfl fun a F => xF (xG (vZ F rfl hlk495 (xO ?_))))))
   refine xG (xC ?_)
   have ikk495 := k64 (Nat.le_of_lt hd499.1) i501
   have ink495 := zW hd499.1 i501
   refine oU (xC (xC (xH (xB F rfl rfl fun a F => xB F rfl rfl fun a F => oI underlying93 sizeOf158 F rfl rfl rfl (H.l 1 rfl) hxk495 fun a p502 h503 F => oF (s' := 1) fa158_0 F rfl rfl h503 xU.f0 fun a p504 h505 F => olI isAgg2 F rfl rfl (Sm.refl _ _) h505 fun a i506 F => o_neq F rfl rfl rfl fun a F => xF ?_))))
   refine xG (vC F rfl (fun hb507 => ?_) (fun hb507 => ?_))
   ·
    replace hR := zD hb507 hR
    refine qK (qQ (zT (xG (xH (xB F rfl rfl fun a F => vM F rfl rfl rfl ink495 fun a F => xA F rfl rfl fun a F => xF (xG ?_))))))
    replace hR := zH hR hn486
    exact ⟨_, Nat.lt_succ_self _, k495 + 1, rest496, s489, v491, ⟨hd499.1, hd499.2.2⟩, rfl, hR, F.sub (sc rfl (sc rfl (sc rfl (sc rfl (sc rfl (sc rfl sn)))))), H⟩
   replace hR := zE hb507 hR
   refine xO (xG (xC (xH (xB F rfl rfl fun a F => xB F rfl rfl fun a F => xB F rfl rfl fun a F => oI underlying93 sizeOf158 F rfl rfl rfl (H.l 1 rfl) hxk495 fun a p508 h509 F => oF (s' := 1) fa158_1 F rfl rfl h509 xU.f1 fun a p510 h511 F => olS isAgg42 F rfl rfl (Sm.refl _ _) h511 (fun a v512 h513 F => ?_)))))
   obtain ⟨z514, c515, hR⟩ := xI hR
   refine oI underlying42 sizeOf2 F rfl rfl rfl h513 c515 fun a p516 h517 F => olI isAgg2 F rfl rfl (Sm.refl _ _) h517 (fun a i518 F => ?_)
   obtain ⟨z519, c520, hR⟩ := xI hR
   refine oI underlying42 sizeOf2 F rfl rfl rfl (H.l 0 rfl) c520 fun a p521 h522 F => olI isAgg2 F rfl rfl (Sm.refl _ _) h522 fun a i523 F => xA F rfl rfl fun a F => xF (xG (xC (xH (xB F rfl rfl fun a F => xB F rfl rfl fun a F => xB F rfl rfl fun a F => oI underlying93 sizeOf158 F rfl rfl rfl (H.l 1 rfl) hxk495 (fun a p524 h525 F => ?_)))))
   refine oF (s' := 1) fa158_1 F rfl rfl h525 xU.f1 fun a p526 h527 F => olS isAgg42 F rfl rfl (Sm.refl _ _) h527 (fun a v528 h529 F => ?_)
   obtain ⟨z530, c531, hR⟩ := xI hR
   refine oI underlying42 sizeOf2 F rfl rfl rfl h529 c531 fun a p532 h533 F => olI isAgg2 F rfl rfl (Sm.refl _ _) h533 (fun a i534 F => ?_)
   obtain ⟨z535, c536, hR⟩ := xI hR
   refine oI underlying42 sizeOf2 F rfl rfl rfl (H.l 0 rfl) c536 fun a p537 h538 F => olI isAgg2 F rfl rfl (Sm.refl _ _) h538 fun a i539 F => xA F rfl rfl fun a F => xF (xG (xC (xH (xA F rfl rfl fun a F => xF (xG ?_)))))
   obtain ⟨o571, hR, hk572⟩ := xS hR
   refine oQ (fun a w => ∃ (s580 : List Int) (v582 : Value), o571 = .nx s580 ∧ Sk a 224 [(1, v1), (4, .pointer (some ⟨b11, 0, none⟩)), (7, .int .i64 s146), (8, v150), (13, v582), (14, .int .i64 (k495 : Int))] ∧ Sep [] B w0 w [rl 1 xK 2 v582 s580, rl 2 xU 158 v150 s148, bx b11 [.int .i64 0, (.slice none 0 0)] 58]) ?_ ?_
   ·
    refine oU ?_
    obtain ⟨fl575, hf576, hR⟩ := forI_gen hR
    refine qU (fun g a w => ∃ (k583 : Nat) (s577 : List Int) (v579 : Value), k583 + g = s146.toNat ∧ kT fl575 g k583 s577 = some o571 ∧ Sk a 224 [(17, .int .i64 (k583 : Int)), (1, v1), (4, .pointer (some ⟨b11, 0, none⟩)), (7, .int .i64 s146), (8, v150), (13, v579), (14, .int .i64 (k495 : Int)), (15, .int .i64 z519), (16, .int .i64 z535)] ∧ Sep [] B w0 w [rl 1 xK 2 v579 s577, rl 2 xU 158 v150 s148, bx b11 [.int .i64 0, (.slice none 0 0)] 58]) s146.toNat ?_ ?_
    ·
     exact ⟨0, s489, v491, (Nat.zero_add _), hR, F.sub (sc rfl (sc rfl (sc rfl (sc rfl (sc rfl (sc rfl (sc rfl (sc rfl (sc rfl sn))))))))), H⟩
    intro g586 a w ⟨k583, s577, v579, hd587, hR, F, H⟩
    cases g586 with
    | zero =>
     replace hR := forI_zero hR
     have hlk583 := dec_noI hd587
     refine xC (xC (xH (xB F rfl rfl fun a F => xB F rfl rfl fun a F => oR F rfl rfl rfl fun a F => xF (xG (vV F rfl hlk583 (qK (qQ ?_)))))))
     refine qQ (zT (xG ?_))
     exact ⟨s577, v579, (Option.some.inj hR).symm, F.sub (sc rfl (sc rfl (sc rfl (sc rfl (sc rfl (sc rfl sn)))))), H⟩
    | succ g586 =>
     obtain ⟨ck583, hR, hn574⟩ := forI_succ hR
     rw [hf576] at hR
     have hlk583 := dec_yesI hd587
     refine xC (xC (xH (xB F rfl rfl fun a F => xB F rfl rfl fun a F => oR F rfl rfl rfl fun a F => xF (xG (vZ F rfl hlk583 (xO (xG ?_)))))))
     refine xC ?_
     have ikk583 := k64I hd587 i147
     have ink583 := inc64I hd587 i147
     refine oU (xC (xQ H (by kernel_rfl) (by kernel_rfl) (xN F rfl (fun w l => xP F rfl) fun a F => xN F rfl (fun w l => xP F rfl) (fun a F => ?_))))
     obtain ⟨z589, c590, hR⟩ := xI hR
     refine qI underlying42 sizeOf2 F rfl rfl rfl (H.l 0 rfl) c590 fun a p591 h592 F => qlI isAgg2 F rfl rfl qA h592 fun a i593 F => xN F rfl (fun w l => xP F rfl) fun a F => xN F rfl (fun w l => xP F rfl) (fun a F => ?_)
     obtain ⟨z594, c595, hR⟩ := xI hR
     refine q_saysI F rfl call124 rfl (fun w w' h l => l.through h) _ (Below.refl _ _) (fun w l => spec_l00Max_c z594 c595 w aA i523 i539) fun a iz594 F => xN F rfl (fun w l => r_eql F rfl rfl) fun a F => kA fun w H => xG (vC F rfl (fun hb596 => ?_) (fun hb596 => ?_))
     ·
      replace hR := zD hb596 hR
      refine xH (xB F rfl rfl fun a F => xB F rfl rfl fun a F => xB F rfl rfl fun a F => xB F rfl rfl (fun a F => ?_))
      obtain ⟨z597, c598, hR⟩ := xI hR
      refine oKI F rfl call125 rfl H (spec_l00Min_c z597 c598 _ aA i523 i539) fun a w H iz597 F => oRl underlying42 sizeOf2 F rfl rfl rfl H 0 rfl c590 (fun a p599 h600 rp601 F => ?_)
      have H := H.lw
      refine oS sizeOf2 F rfl rfl rfl H rp601 (ix_lt c590) (Eo.int iz597) rfl rfl (fun w H => ?_)
      have H := H.tl
      refine xF (zN (xG (xH (xB F rfl rfl fun a F => vM F rfl rfl rfl ink583 fun a F => xA F rfl rfl fun a F => xF (xG ?_)))))
      replace hR := zH hR hn574
      exact ⟨_, Nat.lt_succ_self _, k583 + 1, (s577.set ((k583 : Int)).toNat z597), v579, (by omega), hR, F.sub (sc rfl (sc rfl (sc rfl (sc rfl (sc rfl (sc rfl (sc rfl (sc rfl (sc rfl sn))))))))), H⟩
     replace hR := zE hb596 hR
     refine xO (zN (xG (xH (xB F rfl rfl fun a F => vM F rfl rfl rfl ink583 fun a F => xA F rfl rfl fun a F => xF (xG ?_)))))
     replace hR := zH hR hn574
     exact ⟨_, Nat.lt_succ_self _, k583 + 1, s577, v579, (by omega), hR, F.sub (sc rfl (sc rfl (sc rfl (sc rfl (sc rfl (sc rfl (sc rfl (sc rfl (sc rfl sn))))))))), H⟩
   intro a w ⟨s580, v582, ho573, F, H⟩
   subst ho573
   have hR := xZ hk572
   refine zN (xG (xH (xB F rfl rfl fun a F => vM F rfl rfl rfl ink495 fun a F => xA F rfl rfl fun a F => xF (xG ?_))))
   replace hR := zH hR hn486
   exact ⟨_, Nat.lt_succ_self _, k495 + 1, rest496, s580, v582, ⟨hd499.1, hd499.2.2⟩, rfl, hR, F.sub (sc rfl (sc rfl (sc rfl (sc rfl (sc rfl (sc rfl sn)))))), H⟩
 intro a w ⟨s492, v494, ho485, F, H⟩
 subst ho485
 have hR := xZ hk484
 refine xG (xC (xH (xB F rfl rfl (fun a F => ?_))))
 obtain ⟨z604, c605, hR⟩ := xI hR
 refine oRM (sz := 1) (R := xK) (z := (.int .i64 0)) (bytes := 8) underlying42 (by kernel_rfl) rfl (by decide) (by decide) (fun w => ⟨rfl, by decide, rfl⟩) F rfl rfl rfl c605 H fun a w v606 H F => xA F rfl rfl fun a F => xF (xG (xC (xH (o_build underlying58 zeroValue58 (fun w => by simp [sizeOf2, sizeOf56]; rfl) F rfl rfl rfl rfl rfl on rfl rfl fun a F => oA zeroValue58 F rfl rfl H fun a w b608 H F => oWA (vs := [.int .i64 0, (.slice none 0 0)]) sizeOf58 F rfl rfl rfl H (oc rfl (oc rfl on)) rfl rfl fun w H => xF (xG ?_)))))
 refine xC (xC (xH (xA F rfl rfl fun a F => xF (xG ?_))))
 obtain ⟨o642, hR, hk643⟩ := xS hR
 refine oQ (fun a w => ∃ (s653 : List Int) (v655 : Value) (s656 : Int), o642 = .nx (s653, s656) ∧ Sk a 224 [(1, v1), (4, .pointer (some ⟨b11, 0, none⟩)), (7, .int .i64 s146), (8, v150), (13, v494), (18, v655), (19, .pointer (some ⟨b608, 0, none⟩))] ∧ Sep [] B w0 w [bx b608 [.int .i64 s656, (.slice none 0 0)] 58, rl 1 xK 2 v655 s653, rl 1 xK 2 v494 s492, rl 2 xU 158 v150 s148, bx b11 [.int .i64 0, (.slice none 0 0)] 58] ∧ xY s656) ?_ ?_
 ·
  refine oU ?_
  obtain ⟨fl646, hf647, hR⟩ := forI_gen hR
  refine qU (fun g a w => ∃ (k658 : Nat) (s648 : List Int) (v650 : Value) (s651 : Int), k658 + g = s146.toNat ∧ kT fl646 g k658 (s648, s651) = some o642 ∧ Sk a 224 [(20, .int .i64 (k658 : Int)), (1, v1), (4, .pointer (some ⟨b11, 0, none⟩)), (7, .int .i64 s146), (8, v150), (13, v494), (18, v650), (19, .pointer (some ⟨b608, 0, none⟩))] ∧ Sep [] B w0 w [bx b608 [.int .i64 s651, (.slice none 0 0)] 58, rl 1 xK 2 v650 s648, rl 1 xK 2 v494 s492, rl 2 xU 158 v150 s148, bx b11 [.int .i64 0, (.slice none 0 0)] 58] ∧ xY s651) s146.toNat ?_ ?_
  ·
   exact ⟨0, z604, v606, 0, (Nat.zero_add _), hR, F.sub (sc rfl (sc rfl (sc rfl (sc rfl (sc rfl (sc rfl (sc rfl (sc rfl sn)))))))), H, (show xY 0 by decide)⟩
  intro g661 a w ⟨k658, s648, v650, s651, hd662, hR, F, H, i652⟩
  cases g661 with
  | zero =>
   replace hR := forI_zero hR
   have hlk658 := dec_noI hd662
   refine xC (xC (xH (xB F rfl rfl fun a F => xB F rfl rfl fun a F => oR F rfl rfl rfl fun a F => xF (xG (vV F rfl hlk658 (qK (qQ ?_)))))))
   refine qQ (zT (xG ?_))
   exact ⟨s648, v650, s651, (Option.some.inj hR).symm, F.sub (sc rfl (sc rfl (sc rfl (sc rfl (sc rfl (sc rfl (sc rfl sn))))))), H, i652⟩
  | succ g661 =>
   obtain ⟨ck658, hR, hn645⟩ := forI_succ hR
   rw [hf647] at hR
   have hlk658 := dec_yesI hd662
   refine xC (xC (xH (xB F rfl rfl fun a F => xB F rfl rfl fun a F => oR F rfl rfl rfl fun a F => xF (xG (vZ F rfl hlk658 (xO (xG ?_)))))))
   refine xC ?_
   have ikk658 := k64I hd662 i147
   have ink658 := inc64I hd662 i147
   refine oU (xC (xH (xB F rfl rfl fun a F => xB F rfl rfl (fun a F => ?_))))
   obtain ⟨z664, c665, hR⟩ := xI hR
   refine oI underlying42 sizeOf2 F rfl rfl rfl (H.l 2 rfl) c665 fun a p666 h667 F => olI isAgg2 F rfl rfl (Sm.refl _ _) h667 fun a i668 F => xB F rfl rfl fun a F => o_eql F rfl rfl rfl fun a F => xF (xG (vC F rfl (fun hb669 => ?_) (fun hb669 => ?_)))
   ·
    replace hR := zD hb669 hR
    refine xC (xH (xB F rfl rfl fun a F => xB F rfl rfl fun a F => oM fa58_0 F rfl rfl rfl fun a F => oB isAgg2 F rfl rfl (H.b 0 rfl) rfl (fun a F => ?_)))
    obtain ⟨z670, c671, hR⟩ := xI hR
    refine oRl underlying42 sizeOf2 F rfl rfl rfl H 1 rfl c671 (fun a p672 h673 rp674 F => ?_)
    have H := (H.s [1, 0, 2, 3, 4] rfl rfl).lw
    refine oS sizeOf2 F rfl rfl rfl H rp674 (ix_lt c671) (Eo.int i652) rfl rfl (fun w H => ?_)
    have H := H.tl
    refine xF (xG (xH (oM fa58_0 F rfl rfl rfl fun a F => oB isAgg2 F rfl rfl (H.b 1 rfl) rfl (fun a F => ?_))))
    obtain ⟨z676, c677, hR⟩ := xI hR
    refine o_add F rfl rfl rfl c677 fun a F => oM fa58_0 F rfl rfl rfl fun a F => oW sizeOf2 F rfl rfl rfl (H.s [1, 0, 2, 3, 4] rfl rfl) rfl rfl rfl fun w H => xF (zN (xG (xH (xB F rfl rfl fun a F => vM F rfl rfl rfl ink658 fun a F => xA F rfl rfl fun a F => xF ?_))))
    refine xG ?_
    replace hR := zH hR hn645
    exact ⟨_, Nat.lt_succ_self _, k658 + 1, (s648.set ((k658 : Int)).toNat s651), v650, z676, (by omega), hR, F.sub (sc rfl (sc rfl (sc rfl (sc rfl (sc rfl (sc rfl (sc rfl (sc rfl sn)))))))), H, (ck64 c677)⟩
   replace hR := zE hb669 hR
   refine xO (zN (xG (xH (xB F rfl rfl fun a F => vM F rfl rfl rfl ink658 fun a F => xA F rfl rfl fun a F => xF (xG ?_)))))
   replace hR := zH hR hn645
   exact ⟨_, Nat.lt_succ_self _, k658 + 1, s648, v650, s651, (by omega), hR, F.sub (sc rfl (sc rfl (sc rfl (sc rfl (sc rfl (sc rfl (sc rfl (sc rfl sn)))))))), H, i652⟩
 intro a w ⟨s653, v655, s656, ho644, F, H, i657⟩
 subst ho644
 have hR := xZ hk643
 refine xG (xC (xC (xH (xA F rfl rfl fun a F => xF (xG ?_)))))
 obtain ⟨o713, hR, hk714⟩ := xS hR
 refine oQ (fun a w => ∃ (s722 : List Int) (v724 : Value), o713 = .nx s722 ∧ Sk a 224 [(1, v1), (4, .pointer (some ⟨b11, 0, none⟩)), (8, v150), (18, v724), (19, .pointer (some ⟨b608, 0, none⟩))] ∧ Sep [] B w0 w [bx b608 [.int .i64 s656, (.slice none 0 0)] 58, rl 1 xK 2 v724 s722, rl 2 xU 158 v150 s148, bx b11 [.int .i64 0, (.slice none 0 0)] 58]) ?_ ?_
 ·
  refine oU ?_
  obtain ⟨fl717, hf718, hR⟩ := forI_gen hR
  refine qU (fun g a w => ∃ (k725 : Nat) (s719 : List Int) (v721 : Value), k725 + g = s146.toNat ∧ kT fl717 g k725 s719 = some o713 ∧ Sk a 224 [(21, .int .i64 (k725 : Int)), (1, v1), (4, .pointer (some ⟨b11, 0, none⟩)), (7, .int .i64 s146), (8, v150), (13, v494), (18, v721), (19, .pointer (some ⟨b608, 0, none⟩))] ∧ Sep [] B w0 w [bx b608 [.int .i64 s656, (.slice none 0 0)] 58, rl 1 xK 2 v721 s719, rl 1 xK 2 v494 s492, rl 2 xU 158 v150 s148, bx b11 [.int .i64 0, (.slice none 0 0)] 58]) s146.toNat ?_ ?_
  ·
   exact ⟨0, s653, v655, (Nat.zero_add _), hR, F.sub (sc rfl (sc rfl (sc rfl (sc rfl (sc rfl (sc rfl (sc rfl (sc rfl sn)))))))), H⟩
  intro g728 a w ⟨k725, s719, v721, hd729, hR, F, H⟩
  cases g728 with
  | zero =>
   replace hR := forI_zero hR
   have hlk725 := dec_noI hd729
   refine xC (xC (xH (xB F rfl rfl fun a F => xB F rfl rfl fun a F => oR F rfl rfl rfl fun a F => xF (xG (vV F rfl hlk725 (qK (qQ ?_)))))))
   refine qQ (zT (xG ?_))
   exact ⟨s719, v721, (Option.some.inj hR).symm, F.sub (sc rfl (sc rfl (sc rfl (sc rfl (sc rfl sn))))), (H.s [0, 1, 3, 4] rfl rfl)⟩
  | succ g728 =>
   obtain ⟨ck725, hR, hn716⟩ := forI_succ hR
   rw [hf718] at hR
   have hlk725 := dec_yesI hd729
   refine xC (xC (xH (xB F rfl rfl fun a F => xB F rfl rfl fun a F => oR F rfl rfl rfl fun a F => xF (xG (vZ F rfl hlk725 (xO (xG ?_)))))))
   refine xC ?_
   have ikk725 := k64I hd729 i147
   have ink725 := inc64I hd729 i147
   refine oU (xH (xB F rfl rfl fun a F => xB F rfl rfl fun a F => xB F rfl rfl fun a F => xB F rfl rfl fun a F => xB F rfl rfl (fun a F => ?_)))
   obtain ⟨z731, c732, hR⟩ := xI hR
   refine oI underlying42 sizeOf2 F rfl rfl rfl (H.l 2 rfl) c732 fun a p733 h734 F => olI isAgg2 F rfl rfl (Sm.refl _ _) h734 (fun a i735 F => ?_)
   obtain ⟨z736, c737, hR⟩ := xI hR
   refine oI underlying42 sizeOf2 F rfl rfl rfl (H.l 1 rfl) c737 fun a p738 h739 F => olI isAgg2 F rfl rfl (Sm.refl _ _) h739 (fun a i740 F => ?_)
   obtain ⟨z741, c742, hR⟩ := xI hR
   refine oRl underlying42 sizeOf2 F rfl rfl rfl H 1 rfl c742 (fun a p743 h744 rp745 F => ?_)
   have H := (H.s [1, 0, 2, 3, 4] rfl rfl).lw
   refine oS sizeOf2 F rfl rfl rfl H rp745 (ix_lt c742) (Eo.int i740) rfl rfl (fun w H => ?_)
   have H := H.tl
   refine xF (zN (xG (xH (xB F rfl rfl fun a F => vM F rfl rfl rfl ink725 fun a F => xA F rfl rfl fun a F => xF (xG ?_)))))
   replace hR := zH hR hn716
   exact ⟨_, Nat.lt_succ_self _, k725 + 1, (s719.set ((k725 : Int)).toNat z736), v721, (by omega), hR, F.sub (sc rfl (sc rfl (sc rfl (sc rfl (sc rfl (sc rfl (sc rfl (sc rfl sn)))))))), (H.s [1, 0, 2, 3, 4] rfl rfl)⟩
 intro a w ⟨s722, v724, ho715, F, H⟩
 subst ho715
 have hR := xZ hk714
 refine xG (xC (xC (xH (xA F rfl rfl fun a F => xF (xG ?_)))))
 obtain ⟨o913, hR, hk914⟩ := xS hR
 refine oQ (fun a w => ∃ (s922 : List Con) (v924 : Value), o913 = .nx s922 ∧ Sk a 224 [(1, v1), (4, .pointer (some ⟨b11, 0, none⟩)), (18, v724), (19, .pointer (some ⟨b608, 0, none⟩))] ∧ Sep [] B w0 w [rl 2 oZ 165 v924 s922, bx b608 [.int .i64 s656, v924] 58, rl 1 xK 2 v724 s722, bx b11 [.int .i64 0, (.slice none 0 0)] 58]) ?_ ?_
 ·
  refine oU ?_
  obtain ⟨fl917, hf918, hR⟩ := qP hR
  refine qU (fun g a w => ∃ (k925 : Nat) (rest926 : List Atom) (s919 : List Con) (v921 : Value), (k925 ≤ s148.length ∧ s148.drop k925 = rest926) ∧ rest926.length = g ∧ qT fl917 rest926 k925 s919 = some o913 ∧ Sk a 224 [(22, .int .i64 (k925 : Int)), (1, v1), (4, .pointer (some ⟨b11, 0, none⟩)), (8, v150), (18, v724), (19, .pointer (some ⟨b608, 0, none⟩))] ∧ Sep [] B w0 w [rl 2 oZ 165 v921 s919, bx b608 [.int .i64 s656, v921] 58, rl 1 xK 2 v724 s722, rl 2 xU 158 v150 s148, bx b11 [.int .i64 0, (.slice none 0 0)] 58]) s148.length ?_ ?_
  ·
   exact ⟨0, s148, [], (.slice none 0 0), ⟨Nat.zero_le _, rfl⟩, rfl, hR, F.sub (sc rfl (sc rfl (sc rfl (sc rfl (sc rfl (sc rfl sn)))))), (H.nl 2 oZ 165)⟩
  intro g928 a w ⟨k925, rest926, s919, v921, hd929, hg930, hR, F, H⟩
  cases rest926 with
  | nil =>
   replace hR := qS hR
   have hkk925 := qR hd929.1 hd929.2
   have hlk925 := vW hkk925
   refine xC (xC (xH (xB F rfl rfl fun a F => xB F rfl rfl fun a F => oL underlying93 F rfl rfl (H.l 3 rfl) fun a i1011 F => oR F rfl rfl rfl fun a F => xF (xG (vV F rfl hlk925 (qK ?_))))))
   refine qQ (qQ (zT (xG ?_)))
   exact ⟨s919, v921, (Option.some.inj hR).symm, F.sub (sc rfl (sc rfl (sc rfl (sc rfl sn)))), (H.s [0, 1, 2, 4] rfl rfl)⟩
  | cons x927 rest926 =>
   subst hg930
   replace hd929 := qD hd929.2
   have hxk925 := qG hd929.2.1
   obtain ⟨ck925, hR, hn916⟩ := qC hR
   rw [hf918] at hR
   have hlk925 := vA hd929.1
   refine xC (xC (xH (xB F rfl rfl fun a F => xB F rfl rfl fun a F => oL underlying93 F rfl rfl (H.l 3 rfl) fun a i931 F => oR F rfl rfl rfl fun a F => xF (xG (vZ F rfl hlk925 (xO ?_))))))
   refine xG (xC ?_)
   have ikk925 := k64 (Nat.le_of_lt hd929.1) i931
   have ink925 := zW hd929.1 i931
   refine oU (xC (xH (xB F rfl rfl fun a F => xB F rfl rfl fun a F => oI underlying93 sizeOf158 F rfl rfl rfl (H.l 3 rfl) hxk925 fun a p932 h933 F => oF (s' := 1) fa158_0 F rfl rfl h933 xU.f0 fun a p934 h935 F => olI isAgg2 F rfl rfl (Sm.refl _ _) h935 fun a i936 F => o_neq F rfl rfl rfl fun a F => xF (xG ?_))))
   refine vC F rfl (fun hb937 => ?_) (fun hb937 => ?_)
   ·
    replace hR := zD hb937 hR
    obtain ⟨z949, c950, hR⟩ := xI hR
    obtain ⟨z957, c958, hR⟩ := xI hR
    obtain ⟨w973, rfl⟩ : ∃ x, x = w := ⟨_, rfl⟩
    obtain ⟨X968, N969, g970, e971, H, th972⟩ := (H.s [3, 0, 1, 2, 4] rfl rfl).fz
    have h974 := g970.ld
    refine xD H (by kernel_rfl) fun w H => dp (fun G => ∀ (v1007 : Value) (a : Act) (w : World), Sk a 224 [(1, v1), (4, .pointer (some ⟨b11, 0, none⟩)), (8, v150), (18, v724), (19, .pointer (some ⟨b608, 0, none⟩)), (22, .int .i64 (k925 : Int)), (189, v921), (203, v1007)] → Sep X968 N969 w973 w [rl 2 oZ 165 v1007 ([(Con.mk x927.rel z949)]), rl 2 oZ 165 v921 s919, bx b608 [.int .i64 s656, v921] 58, rl 1 xK 2 v724 s722, bx b11 [.int .i64 0, (.slice none 0 0)] 58] → ∀ ls, ls = #[true, true, true, true, true, true, true, true, true, true, true, true, true, true, true, true, false, false, false] → G 3 ls a w) ?_ (fun H1008 => ?_)
    ·
     intro v1007 a w F H ls hls
     subst hls
     refine xE H 16 rfl (by kernel_rfl) (oPL (sz := 2) (R := oZ) (z := (.agg #[.int .i64 0, (.slice none 0 0)])) (bytes := 32) underlying56 (by kernel_rfl) rfl rfl F rfl rfl rfl (H.s [1, 0, 2, 3, 4] rfl rfl) c958 fun a w v1009 H F => xF (xG (⟨⟨_, H⟩, ?_⟩)))
     refine b_q 17 (by kernel_rfl) rfl (by kernel_rfl) (by kernel_rfl) (by kernel_rfl) (by kernel_rfl) (qO F rfl (fun w l => zJ fa58_1 F rfl rfl) fun a F => xE H 18 rfl (by kernel_rfl) (oW sizeOf56 F rfl rfl rfl (H.s [1, 0, 2, 3] rfl rfl) ((H.s [1, 0, 2, 3] rfl rfl).l 1 rfl).one rfl rfl fun w H => xF (xG (⟨⟨_, H⟩, ?_⟩))))
     refine b_end (by kernel_rfl) (zN (xG (xH (xB F rfl rfl fun a F => vM F rfl rfl rfl ink925 fun a F => xA F rfl rfl fun a F => xF (xG ?_)))))
     replace hR := zH hR hn916
     exact ⟨_, Nat.lt_succ_self _, k925 + 1, rest926, z957, v1009, ⟨hd929.1, hd929.2.2⟩, rfl, hR, F.sub (sc rfl (sc rfl (sc rfl (sc rfl (sc rfl (sc rfl sn)))))), ((th972.1 H (Ns.all ⟨n0, ⟨n0, ⟨n0, ⟨n0, trivial⟩⟩⟩⟩)).s [2, 1, 3, 0, 4] rfl rfl)⟩
    refine dp (fun G => ∀ (v1001 : Value) (a : Act) (w : World), Sk a 224 [(1, v1), (4, .pointer (some ⟨b11, 0, none⟩)), (8, v150), (18, v724), (19, .pointer (some ⟨b608, 0, none⟩)), (22, .int .i64 (k925 : Int)), (189, v921), (202, (.agg #[.int .i64 x927.rel, v1001]))] → Sep X968 N969 w973 w [rl 1 xK 2 v1001 z949, rl 2 oZ 165 v921 s919, bx b608 [.int .i64 s656, v921] 58, rl 1 xK 2 v724 s722, bx b11 [.int .i64 0, (.slice none 0 0)] 58] → xY x927.rel → ∀ ls, ls = #[true, true, true, true, true, true, true, true, true, true, true, true, true, true, true, false, false, false, false] → G 4 ls a w) ?_ (fun H1002 => ?_)
    ·
     intro v1001 a w F H i999 ls hls
     subst hls
     refine xE H 15 rfl (by kernel_rfl) ?_
     have H := (oZ.w i999 H)
     refine oR1L (R := oZ) (y := (Con.mk x927.rel z949)) underlying56 sizeOf165 zeroValue165 rfl rfl F rfl rfl H El.agg fun a w v1003 H F => xF (xG (⟨⟨_, H⟩, ?_⟩))
     exact H1008 v1003 _ _ (F.sub (sc rfl (sc rfl (sc rfl (sc rfl (sc rfl (sc rfl (sc rfl (sc rfl sn))))))))) H _ (by kernel_rfl)
    refine dp (fun G => ∀ (v997 : Value) (a : Act) (w : World), Sk a 224 [(1, v1), (4, .pointer (some ⟨b11, 0, none⟩)), (8, v150), (18, v724), (19, .pointer (some ⟨b608, 0, none⟩)), (22, .int .i64 (k925 : Int)), (189, v921), (194, .int .i64 x927.rel), (201, v997)] → Sep X968 N969 w973 w [rl 1 xK 2 v997 z949, rl 2 oZ 165 v921 s919, bx b608 [.int .i64 s656, v921] 58, rl 1 xK 2 v724 s722, bx b11 [.int .i64 0, (.slice none 0 0)] 58] → xY x927.rel → ∀ ls, ls = #[true, true, true, true, true, true, true, true, true, true, true, true, true, true, false, false, false, false, false] → G 5 ls a w) ?_ (fun H998 => ?_)
    ·
     intro v997 a w F H i995 ls hls
     subst hls
     refine xE H 14 rfl (by kernel_rfl) (o_build underlying165 zeroValue165 (fun w => by simp [sizeOf2, sizeOf42]; rfl) F rfl rfl rfl rfl rfl (oc rfl (oc (H.l 0 rfl).one on)) rfl rfl fun a F => xF (xG (⟨⟨_, H⟩, ?_⟩)))
     exact H1002 v997 _ _ (F.sub (sc rfl (sc rfl (sc rfl (sc rfl (sc rfl (sc rfl (sc rfl (sc rfl sn))))))))) H i995 _ (by kernel_rfl)
    refine b_q 0 (by kernel_rfl) rfl (by kernel_rfl) (by kernel_rfl) (by kernel_rfl) (by kernel_rfl) (qO F rfl (fun w l => zJ fa58_1 F rfl rfl) fun a F => zZ 2 rfl (by kernel_rfl) (by kernel_rfl) (by kernel_rfl) (qO F rfl (fun w l => xP F rfl) fun a F => zZ 3 rfl (by kernel_rfl) (by kernel_rfl) (by kernel_rfl) (qO F rfl (fun w l => xP F rfl) fun a F => b_q 4 (by kernel_rfl) rfl (by kernel_rfl) (by kernel_rfl) (by kernel_rfl) (by kernel_rfl) (vI underlying93 sizeOf158 F rfl rfl rfl h974 hxk925 fun a p975 h976 F => b_q 5 (by kernel_rfl) rfl (by kernel_rfl) (by kernel_rfl) (by kernel_rfl) (by kernel_rfl) (vF (s' := 1) fa158_0 F rfl rfl h976 xU.f0 fun a p977 h978 F => b_q 6 (by kernel_rfl) rfl (by kernel_rfl) (by kernel_rfl) (by kernel_rfl) (by kernel_rfl) ?_)))))
    refine vlI isAgg2 F rfl rfl H.v h978 fun a i979 F => zZ 7 rfl (by kernel_rfl) (by kernel_rfl) (by kernel_rfl) (qO F rfl (fun w l => xP F rfl) fun a F => zZ 8 rfl (by kernel_rfl) (by kernel_rfl) (by kernel_rfl) (qO F rfl (fun w l => xP F rfl) fun a F => b_q 9 (by kernel_rfl) rfl (by kernel_rfl) (by kernel_rfl) (by kernel_rfl) (by kernel_rfl) (vI underlying93 sizeOf158 F rfl rfl rfl h974 hxk925 fun a p980 h981 F => b_q 10 (by kernel_rfl) rfl (by kernel_rfl) (by kernel_rfl) (by kernel_rfl) (by kernel_rfl) (vF (s' := 1) fa158_1 F rfl rfl h981 xU.f1 fun a p982 h983 F => b_q 11 (by kernel_rfl) rfl (by kernel_rfl) (by kernel_rfl) (by kernel_rfl) (by kernel_rfl) (vlS isAgg42 F rfl rfl H.v h983 (fun a v984 h985 F => ?_))))))
    refine zZ 12 rfl (by kernel_rfl) (by kernel_rfl) (by kernel_rfl) (qO F rfl (fun w l => xP F rfl) fun a F => b_es [1, 13] (by kernel_rfl) (by simp) ⟨⟨_, rfl, ?_⟩, ⟨_, rfl, ?_⟩, trivial⟩)
    ·
     refine xEs H (oB isAgg56 F rfl rfl (H.b 1 rfl) rfl fun a F => xF (xG (⟨⟨_, H⟩, ?_⟩)))
     refine xE H 13 rfl (by kernel_rfl) (oG F rfl call126 rfl (spec_l01Mapped_c z949 c950 _ aA (H.a h985) (H.l 2 rfl)) (fun a vv w ⟨v986, hv988, S⟩ F => ?_))
     subst vv
     have H := H.r1 S n0
     refine xF (xG (⟨⟨_, H⟩, ?_⟩))
     exact H998 v986 _ _ (F.sub (sc rfl (sc rfl (sc rfl (sc rfl (sc rfl (sc rfl (sc rfl (sc rfl (sc rfl sn)))))))))) H i979 _ (by kernel_rfl)
    refine xEs H (oG F rfl call126 rfl (spec_l01Mapped_c z949 c950 _ aA (H.a h985) (H.l 2 rfl)) (fun a vv w ⟨v989, hv991, S⟩ F => ?_))
    subst vv
    have H := H.r1 S n0
    refine xF (xG (⟨⟨_, H⟩, ?_⟩))
    refine b_es [1, 14] (by kernel_rfl) (by simp) ⟨⟨_, rfl, ?_⟩, ⟨_, rfl, ?_⟩, trivial⟩
    ·
     refine xEs H (oB isAgg56 F rfl rfl (H.b 2 rfl) rfl fun a F => xF (xG (⟨⟨_, H⟩, ?_⟩)))
     exact H998 v989 _ _ (F.sub (sc rfl (sc rfl (sc rfl (sc rfl (sc rfl (sc rfl (sc rfl (sc rfl (sc rfl sn)))))))))) H i979 _ (by kernel_rfl)
    refine xEs H (o_build underlying165 zeroValue165 (fun w => by simp [sizeOf2, sizeOf42]; rfl) F rfl rfl rfl rfl rfl (oc rfl (oc (H.l 0 rfl).one on)) rfl rfl fun a F => xF (xG (⟨⟨_, H⟩, ?_⟩)))
    refine b_es [1, 15] (by kernel_rfl) (by simp) ⟨⟨_, rfl, ?_⟩, ⟨_, rfl, ?_⟩, trivial⟩
    ·
     refine xEs H (oB isAgg56 F rfl rfl (H.b 2 rfl) rfl fun a F => xF (xG (⟨⟨_, H⟩, ?_⟩)))
     exact H1002 v989 _ _ (F.sub (sc rfl (sc rfl (sc rfl (sc rfl (sc rfl (sc rfl (sc rfl (sc rfl sn))))))))) H i979 _ (by kernel_rfl)
    refine xEs H ?_
    have H := (oZ.w i979 H)
    refine oR1L (R := oZ) (y := (Con.mk x927.rel z949)) underlying56 sizeOf165 zeroValue165 rfl rfl F rfl rfl H El.agg fun a w v992 H F => xF (xG (⟨⟨_, H⟩, ?_⟩))
    refine xE H 1 rfl (by kernel_rfl) (oB isAgg56 F rfl rfl (H.b 2 rfl) rfl fun a F => xF (xG (⟨⟨_, H⟩, ?_⟩)))
    exact H1008 v992 _ _ (F.sub (sc rfl (sc rfl (sc rfl (sc rfl (sc rfl (sc rfl (sc rfl (sc rfl sn))))))))) H _ (by kernel_rfl)
   replace hR := zE hb937 hR
   refine xO (zN (xG (xH (xB F rfl rfl fun a F => vM F rfl rfl rfl ink925 fun a F => xA F rfl rfl fun a F => xF (xG ?_)))))
   replace hR := zH hR hn916
   exact ⟨_, Nat.lt_succ_self _, k925 + 1, rest926, s919, v921, ⟨hd929.1, hd929.2.2⟩, rfl, hR, F.sub (sc rfl (sc rfl (sc rfl (sc rfl (sc rfl (sc rfl sn)))))), H⟩
 intro a w ⟨s922, v924, ho915, F, H⟩
 subst ho915
 have hR := xZ hk914
 refine xG (xC (xC ?_))
 obtain ⟨o1015, hR, hk1016⟩ := xS hR
 refine oQ (fun a w => ∃ (s1018 : Bool), o1015 = .nx s1018 ∧ Sk a 224 [(1, v1), (4, .pointer (some ⟨b11, 0, none⟩)), (18, v724), (19, .pointer (some ⟨b608, 0, none⟩)), (214, .bool s1018)] ∧ Sep [] B w0 w [rl 2 oZ 165 v924 s922, bx b608 [.int .i64 s656, v924] 58, rl 1 xK 2 v724 s722, bx b11 [.int .i64 0, (.slice none 0 0)] 58]) ?_ ?_
 ·
  refine xH (oM fa58_0 F rfl rfl rfl fun a F => oB isAgg2 F rfl rfl (H.b 1 rfl) rfl fun a F => o_gtr F rfl rfl rfl fun a F => xB F rfl rfl (fun a F => ?_))
  rcases vD (decide (10 < s656)) with hb1019 | hb1019
  ·
   replace hR := zD hb1019 hR
   have F := F.eq (t := 209) rfl (congrArg Value.bool hb1019)
   refine oH F rfl rfl fun a F => oH F rfl rfl fun a F => oH F rfl rfl fun a F => oH F rfl rfl fun a F => vH F rfl rfl rfl fun a F => xF (xG ?_)
   exact ⟨true, (Option.some.inj hR).symm, F.sub (sc rfl (sc rfl (sc rfl (sc rfl (sc rfl sn))))), H⟩
  replace hR := zE hb1019 hR
  have F := F.eq (t := 209) rfl (congrArg Value.bool hb1019)
  refine oM fa58_1 F rfl rfl rfl fun a F => oB isAgg56 F rfl rfl (H.b 1 rfl) rfl fun a F => oL underlying56 F rfl rfl (H.l 0 rfl) fun a i1020 F => o_gtr F rfl rfl rfl fun a F => qZ F rfl rfl rfl fun a F => xF (xG ?_)
  exact ⟨(decide (24 < (s922.length : Int))), (Option.some.inj hR).symm, F.sub (sc rfl (sc rfl (sc rfl (sc rfl (sc rfl sn))))), H⟩
 intro a w ⟨s1018, ho1017, F, H⟩
 subst ho1017
 have hR := xZ hk1016
 refine xG (vC F rfl (fun hb1021 => ?_) (fun hb1021 => ?_))
 ·
  replace hR := zD hb1021 hR
  refine xC (xH (o_build underlying58 zeroValue58 (fun w => by simp [sizeOf2, sizeOf56]; rfl) F rfl rfl rfl rfl rfl on rfl rfl fun a F => oR0 (R := xK) underlying42 sizeOf2 F rfl H fun a w v1022 H F => oWA (vs := [.int .i64 0, (.slice none 0 0)]) sizeOf58 F rfl rfl rfl (H.s [4, 0, 1, 2, 3] rfl rfl) (oc rfl (oc rfl on)) rfl rfl fun w H => xA F rfl rfl fun a F => xA F rfl rfl fun a F => xF (xG (xW (oV ?_)))))
  refine x_res3 F rfl (rv_cA (arr := #[.int .i64 0, (.slice none 0 0)]) F isAgg58 sizeOf58 rfl (H.b 0 rfl)) (oO F rfl) (oO F rfl) ?_
  obtain rfl := Option.some.inj hR
  exact ⟨_, rfl, (.slice none 0 0), v1022, rfl, ((H.nl 2 oZ 165).s [0, 2] rfl rfl), (show xY 0 by decide), (show xY (3) by decide)⟩
 replace hR := zE hb1021 hR
 refine xO (xG (xC ?_))
 obtain ⟨z1028, c1029, hR⟩ := xI hR
 obtain ⟨w1037, rfl⟩ : ∃ x, x = w := ⟨_, rfl⟩
 obtain ⟨X1032, N1033, g1034, e1035, H, th1036⟩ := (H.s [1, 0, 2, 3] rfl rfl).fz
 have K1038 := g1034.bk
 refine xD H (by kernel_rfl) fun w H => dp (fun G => ∀ (v1047 : Value) (a : Act) (w : World), Sk a 224 [(4, .pointer (some ⟨b11, 0, none⟩)), (223, v1047)] → Sep X1032 N1033 w1037 w [rl 1 xK 2 v1047 z1028, bx b11 [.int .i64 s656, v924] 58, rl 2 oZ 165 v924 s922] → ∀ ls, ls = #[true, true, true, true, true, true, true, true, false, false] → G 2 ls a w) ?_ (fun H1048 => ?_)
 ·
  intro v1047 a w F H ls hls
  subst hls
  refine zZ 8 rfl (by kernel_rfl) (by kernel_rfl) (by kernel_rfl) (qO F rfl (fun w l => vO F rfl) fun a F => zZ 9 rfl (by kernel_rfl) (by kernel_rfl) (by kernel_rfl) (qO F rfl (fun w l => vO F rfl) fun a F => b_end (by kernel_rfl) (xG (xW ?_))))
  have H := (th1036.1 H (Ns.all ⟨n0, ⟨n0, ⟨n0, trivial⟩⟩⟩))
  refine x_res3 F rfl (rv_cA (arr := #[.int .i64 s656, v924]) F isAgg58 sizeOf58 rfl (H.b 2 rfl)) (oO F rfl) (oO F rfl) ?_
  obtain rfl := Option.some.inj hR
  exact ⟨_, rfl, v924, v1047, rfl, (H.s [3, 1] rfl rfl), i657, (show xY (0) by decide)⟩
 refine b_q 0 (by kernel_rfl) rfl (by kernel_rfl) (by kernel_rfl) (by kernel_rfl) (by kernel_rfl) (vBA isAgg58 sizeOf58 F rfl rfl (K1038.v H.sm) rfl rfl fun a F => zZ 1 rfl (by kernel_rfl) (by kernel_rfl) (by kernel_rfl) (qO F rfl (fun w l => xP F rfl) fun a F => zZ 2 rfl (by kernel_rfl) (by kernel_rfl) (by kernel_rfl) (qO F rfl (fun w l => xP F rfl) fun a F => b_q 3 (by kernel_rfl) rfl (by kernel_rfl) (by kernel_rfl) (by kernel_rfl) (by kernel_rfl) (vN F rfl rfl (e1035 A1) fun a F => b_q 4 (by kernel_rfl) rfl (by kernel_rfl) (by kernel_rfl) (by kernel_rfl) (by kernel_rfl) (vF (s' := 1) fa58_0 F rfl rfl (e1035 A1) xM.f0 fun a p1039 h1040 F => b_q 5 (by kernel_rfl) rfl (by kernel_rfl) (by kernel_rfl) (by kernel_rfl) (by kernel_rfl) ?_)))))
 refine vlI isAgg2 F rfl rfl H.v h1040 fun a i1041 F => b_es [6, 7] (by kernel_rfl) (by simp) ⟨⟨_, rfl, ?_⟩, ⟨_, rfl, ?_⟩, trivial⟩
 ·
  refine xEs H (oT underlying42 sizeOf2 F rfl rfl rfl (H.s [1, 0, 2] rfl rfl).lw c1029 (fun a v1042 H F => ?_))
  have H := H.tl
  refine xF (xG (⟨⟨_, H⟩, ?_⟩))
  refine xE H 7 rfl (by kernel_rfl) (oWA (vs := [.int .i64 s656, v924]) sizeOf58 F rfl rfl rfl (H.s [2, 0, 1] rfl rfl) (oc rfl (oc ((H.s [2, 0, 1] rfl rfl).l 2 rfl).one on)) rfl rfl fun w H => xF (xG (⟨⟨_, H⟩, ?_⟩)))
  exact H1048 v1042 _ _ (F.sub (sc rfl (sc rfl sn))) (H.s [1, 0, 2] rfl rfl) _ (by kernel_rfl)
 refine xEs H (oWA (vs := [.int .i64 s656, v924]) sizeOf58 F rfl rfl rfl (H.s [2, 0, 1] rfl rfl) (oc rfl (oc ((H.s [2, 0, 1] rfl rfl).l 1 rfl).one on)) rfl rfl fun w H => xF (xG (⟨⟨_, H⟩, ?_⟩)))
 refine xE H 6 rfl (by kernel_rfl) (oT underlying42 sizeOf2 F rfl rfl rfl (H.s [2, 0, 1] rfl rfl).lw c1029 (fun a v1044 H F => ?_))
 have H := H.tl
 refine xF (xG (⟨⟨_, H⟩, ?_⟩))
 exact H1048 v1044 _ _ (F.sub (sc rfl (sc rfl sn))) H _ (by kernel_rfl)

def impl_isVars (x0 : Int) : Option Bool :=
 oJ (impl_within x0 1 10) fun z11 =>
 some z11
theorem impl_isVars_c {B : Nat → Prop} {x0 : Int} (r : Bool) (hR : impl_isVars x0 = some r)  (w0 : World) (hN : ∀ c, B c → c < w0.heap.size) (hx0 : xY x0) : Calls Tryz.prog 147 #[.int .i64 x0] w0 (vR (.bool r) w0) := by
 unfold impl_isVars at hR
 refine oD (L := [(0, .int .i64 x0)]) func147 rfl rfl rfl (sc rfl sn) (fun a F => ?_)
 have H := Sep.start hN
 refine xC (xH (xA F rfl rfl fun a F => xF (xG (xC (xH (xB F rfl rfl (fun a F => ?_)))))))
 obtain ⟨z11, c12, hR⟩ := xI hR
 refine oK F rfl call150 rfl H (impl_within_c z11 c12 _ aA hx0 (show xY (1) by decide) (show xY (10) by decide)) fun a w H F => xA F rfl rfl fun a F => xF (xG (xW (xR F rfl (oO F rfl) ?_)))
 obtain rfl := Option.some.inj hR
 exact ⟨rfl, H.bl⟩

def impl_ValidInstance_1 (x0 : Con) (y0 : Template) (y1 : Instance) : Option Bool :=
 kJ (σ := Bool) (
  oJ (ck ((y0.rels.length : Int) - 1)) fun z50 =>
  oJ (impl_within x0.rel 0 z50) fun z52 =>
  if (!z52) then  some (.nx true) else  oJ (ix y0.rels x0.rel) fun z62 =>
   oJ (zS y1.vars x0.scope z62.arity) fun z69 =>
   some (.nx (!z69))) fun s44 =>
 some s44
theorem impl_ValidInstance_1_c {B : Nat → Prop} {x0 : Con} {y0 : Template} {y1 : Instance} (r : Bool) (hR : impl_ValidInstance_1 x0 y0 y1 = some r) {v0 : Value} {v1 : Value} {v2 : Value} (w0 : World) (hN : ∀ c, B c → c < w0.heap.size) (A0 : Bo B w0 (qH 2 oZ) v0 x0) (A1 : Bo B w0 (Pt 2 xJ) v1 y0) (A2 : Bo B w0 (Pt 2 xM) v2 y1) : Calls Tryz.prog 149 #[v0, v1, v2] w0 (vR (.bool r) w0) := by
 unfold impl_ValidInstance_1 at hR
 refine oD (L := [(0, v0), (1, v1), (2, v2)]) func149 rfl rfl rfl (sc rfl (sc rfl (sc rfl sn))) (fun a F => ?_)
 have H := Sep.start hN
 refine xC (xH ?_)
 obtain ⟨v12, rfl, i11, h13⟩ := oZ.o A0
 refine oX F rfl rfl rfl H fun a w b14 H F => xA F rfl rfl fun a F => xF (xG (xC ?_))
 obtain ⟨o41, hR, hk42⟩ := xS hR
 refine oQ (fun a w => ∃ (s44 : Bool), o41 = .nx s44 ∧ Sk a 28 [(4, .bool s44)] ∧ Sep [] B w0 w []) ?_ ?_
 ·
  refine xQ H (by kernel_rfl) (by kernel_rfl) (xN F rfl (fun w l => zJ fa165_0 F rfl rfl) fun a F => qB isAgg2 F rfl rfl (H.qb 0 rfl) rfl fun a F => qF (s' := 1) fa33_1 F rfl rfl A1 xJ.f1 fun a p45 h46 F => qlS isAgg31 F rfl rfl H.q h46 fun a v47 h48 F => qL underlying31 F rfl rfl h48 (fun a i49 F => ?_))
  obtain ⟨z50, c51, hR⟩ := xI hR
  refine xN F rfl (fun w l => r_sub F rfl rfl c51) (fun a F => ?_)
  obtain ⟨z52, c53, hR⟩ := xI hR
  refine q_says F rfl call150 rfl (fun w w' h l => l.through h) (fun w l => impl_within_c z52 c53 w aA i11 (show xY (0) by decide) (ck64 c51)) fun a F => xN F rfl (fun w l => r_not F rfl) fun a F => xN F rfl (fun w l => xP F rfl) (fun a F => ?_)
  rcases vD (!z52) with hb54 | hb54
  ·
   replace hR := zD hb54 hR
   have F := F.eq (t := 13) rfl (congrArg Value.bool hb54)
   refine oE F rfl rfl fun a F => oE F rfl rfl fun a F => oE F rfl rfl fun a F => oE F rfl rfl fun a F => oE F rfl rfl fun a F => oE F rfl rfl fun a F => oE F rfl rfl fun a F => oE F rfl rfl fun a F => oE F rfl rfl fun a F => oE F rfl rfl fun a F => oE F rfl rfl (fun a F => ?_)
   refine oE F rfl rfl fun a F => oE F rfl rfl fun a F => xN F rfl (fun w l => kM F rfl rfl) fun a F => xN F rfl (fun w l => vO F rfl) fun a F => kA fun w H => xG ?_
   exact ⟨true, (Option.some.inj hR).symm, F.sub (sc rfl sn), (H.s [] rfl rfl)⟩
  replace hR := zE hb54 hR
  have F := F.eq (t := 13) rfl (congrArg Value.bool hb54)
  refine qF (s' := 1) fa58_0 F rfl rfl A2 xM.f0 fun a p55 h56 F => qlI isAgg2 F rfl rfl H.q h56 fun a i57 F => xN F rfl (fun w l => zJ fa165_1 F rfl rfl) fun a F => qB isAgg42 F rfl rfl (H.qb 0 rfl) rfl fun a F => qF (s' := 1) fa33_1 F rfl rfl A1 xJ.f1 fun a p58 h59 F => qlS isAgg31 F rfl rfl H.q h59 fun a v60 h61 F => xN F rfl (fun w l => zJ fa165_0 F rfl rfl) fun a F => qB isAgg2 F rfl rfl (H.qb 0 rfl) rfl (fun a F => ?_)
  obtain ⟨z62, c63, hR⟩ := xI hR
  refine qI underlying31 sizeOf84 F rfl rfl rfl h61 c63 fun a p64 h65 F => qF (s' := 1) fa84_0 F rfl rfl h65 qE.f0 fun a p66 h67 F => qlI isAgg2 F rfl rfl H.q h67 (fun a i68 F => ?_)
  obtain ⟨z69, c70, hR⟩ := xI hR
  refine q_says F rfl call75 rfl (fun w w' h l => l.through h) (fun w l => impl_areValues_c z69 c70 w aA i57 ((H.go l).a h13) i68) fun a F => xN F rfl (fun w l => r_not F rfl) fun a F => xN F rfl (fun w l => r_pickf F rfl rfl) fun a F => xN F rfl (fun w l => vO F rfl) fun a F => kA fun w H => xG ?_
  exact ⟨(!z69), (Option.some.inj hR).symm, F.sub (sc rfl sn), (H.s [] rfl rfl)⟩
 intro a w ⟨s44, ho43, F, H⟩
 subst ho43
 have hR := xZ hk42
 refine xG (xW (xR F rfl (oO F rfl) ?_))
 obtain rfl := Option.some.inj hR
 exact ⟨rfl, H.bl⟩

def zC (x0 : List Con) (x1 : Con → Option Bool) : Option Int :=
 kJ (σ := Unit) (
  qT (σ := Unit) (ρ := Int) (fun (k25 : Nat) (x27 : Con) (s : Unit) =>
    match s with
    | _ =>
    oJ (x1 x27) fun z35 =>
    if z35 then
     some (.ret ((k25 : Int)))
    else
     some (.go ())) x0 0 ()) fun _ =>
 some ((-1))
theorem slices_IndexFunc_s_Con_Con_c {B : Nat → Prop} {x0 : List Con} {x1 : Con → Option Bool} (r : Int) (hR : zC x0 x1 = some r) {v0 : Value} {g1 : FuncId} {lb1 : List Value} (w0 : World) (hN : ∀ c, B c → c < w0.heap.size) (A0 : Bo B w0 (Sl 2 oZ) v0 x0) (hg1 : ∀ args w, (callFunc g1 args).run Tryz.prog w = .ok (.enter g1 args) w) (hp1 : ∀ (a0 : Con) (r : Bool), x1 a0 = some r → ∀ W, Below w0.heap.size w0 W → ∀ (u0 : Value), Bo (All W) W (qH 2 oZ) u0 a0 → Calls Tryz.prog g1 ([u0] ++ lb1 : List Value).toArray W (vR (.bool r) W)) : Calls Tryz.prog 138 #[v0, .func (.func g1) #[] lb1.toArray] w0 (SaysI r w0) := by
 unfold zC at hR
 refine oD (L := [(0, v0), (1, .func (.func g1) #[] lb1.toArray)]) func138 rfl rfl rfl (sc rfl (sc rfl sn)) (fun a F => ?_)
 have H := Sep.start hN
 refine xC (xH (xA F rfl rfl fun a F => xF (xG (xC (xC (xH (xB F rfl rfl fun a F => oL underlying56 F rfl rfl A0 fun a i11 F => xB F rfl rfl (fun a F => ?_))))))))
 refine xF (xG ?_)
 obtain ⟨o19, hR, hk20⟩ := xS hR
 refine oQ (fun a w => o19 = .nx () ∧ Sk a 19 [] ∧ Sep [] B w0 w []) ?_ ?_
 ·
  refine oU ?_
  obtain ⟨fl23, hf24, hR⟩ := qP hR
  refine qU (fun g a w => ∃ (k25 : Nat) (rest26 : List Con), (k25 ≤ x0.length ∧ x0.drop k25 = rest26) ∧ rest26.length = g ∧ qT fl23 rest26 k25 () = some o19 ∧ Sk a 19 [(8, .int .i64 (k25 : Int)), (0, v0), (1, .func (.func g1) #[] lb1.toArray), (7, .int .i64 (x0.length : Int))] ∧ Sep [] B w0 w []) x0.length ?_ ?_
  ·
   exact ⟨0, x0, ⟨Nat.zero_le _, rfl⟩, rfl, hR, F.sub (sc rfl (sc rfl (sc rfl (sc rfl sn)))), H⟩
  intro g28 a w ⟨k25, rest26, hd29, hg30, hR, F, H⟩
  cases rest26 with
  | nil =>
   replace hR := qS hR
   have hkk25 := qR hd29.1 hd29.2
   have hlk25 := vW hkk25
   refine xC (xH (oR F rfl rfl rfl fun a F => xF (xG (xC (vV F rfl hlk25 (qK (qQ (qQ (zT ?_)))))))))
   refine xG ?_
   exact ⟨(Option.some.inj hR).symm, F.sub sn, H⟩
  | cons x27 rest26 =>
   subst hg30
   replace hd29 := qD hd29.2
   have hxk25 := qG hd29.2.1
   obtain ⟨ck25, hR, hn22⟩ := qC hR
   rw [hf24] at hR
   have hlk25 := vA hd29.1
   refine xC (xH (oR F rfl rfl rfl fun a F => xF (xG (xC (vZ F rfl hlk25 (xO (xG (xC ?_))))))))
   have ikk25 := k64 (Nat.le_of_lt hd29.1) i11
   have ink25 := zW hd29.1 i11
   refine oU (xC (xH (xB F rfl rfl fun a F => xA F rfl rfl fun a F => xF (xG (xC (xH (xB F rfl rfl fun a F => xB F rfl rfl (fun a F => ?_))))))))
   refine xB F rfl rfl fun a F => oI underlying56 sizeOf165 F rfl rfl rfl A0 hxk25 fun a p31 h32 F => olA isAgg165 sizeOf165 F rfl rfl H.sm h32 (fun a v33 h34 F => ?_)
   obtain ⟨z35, c36, hR⟩ := xI hR
   refine oKV F rfl rfl hg1 rfl H (hp1 _ z35 c36 _ H.bl _ (H.a h34)) fun a w H F => xF (xG (vC F rfl (fun hb37 => ?_) (fun hb37 => ?_)))
   ·
    replace hR := zD hb37 hR
    refine xC (xH (xB F rfl rfl fun a F => xA F rfl rfl fun a F => xF (xG (xW (kB (oV (oV ?_)))))))
    replace hR := l_ret hR hn22
    refine kB (oV ?_)
    replace hR := j_ret hR hk20
    refine oV (xR F rfl (oO F rfl) ?_)
    obtain rfl := Option.some.inj hR
    exact ⟨⟨rfl, H.bl⟩, ikk25⟩
   replace hR := zE hb37 hR
   refine xO (zN (xG (xH (vM F rfl rfl rfl ink25 fun a F => xB F rfl rfl fun a F => xF (xG ?_)))))
   replace hR := zH hR hn22
   exact ⟨_, Nat.lt_succ_self _, k25 + 1, rest26, ⟨hd29.1, hd29.2.2⟩, rfl, hR, F.sub (sc rfl (sc rfl (sc rfl (sc rfl sn)))), H⟩
 intro a w ⟨ho21, F, H⟩
 subst ho21
 have hR := xZ hk20
 refine xG (xC (xH (xA F rfl rfl fun a F => xF (xG (xW (xR F rfl (oO F rfl) ?_))))))
 obtain rfl := Option.some.inj hR
 exact ⟨⟨rfl, H.bl⟩, (show xY (-1) by decide)⟩

def zF (x0 : List Con) (x1 : Con → Option Bool) : Option Bool :=
 oJ (zC x0 x1) fun z11 =>
 some ((decide (0 ≤ z11)))
theorem slices_ContainsFunc_s_Con_Con_c {B : Nat → Prop} {x0 : List Con} {x1 : Con → Option Bool} (r : Bool) (hR : zF x0 x1 = some r) {v0 : Value} {g1 : FuncId} {lb1 : List Value} (w0 : World) (hN : ∀ c, B c → c < w0.heap.size) (A0 : Bo B w0 (Sl 2 oZ) v0 x0) (hg1 : ∀ args w, (callFunc g1 args).run Tryz.prog w = .ok (.enter g1 args) w) (hp1 : ∀ (a0 : Con) (r : Bool), x1 a0 = some r → ∀ W, Below w0.heap.size w0 W → ∀ (u0 : Value), Bo (All W) W (qH 2 oZ) u0 a0 → Calls Tryz.prog g1 ([u0] ++ lb1 : List Value).toArray W (vR (.bool r) W)) : Calls Tryz.prog 148 #[v0, .func (.func g1) #[] lb1.toArray] w0 (vR (.bool r) w0) := by
 unfold zF at hR
 refine oD (L := [(0, v0), (1, .func (.func g1) #[] lb1.toArray)]) func148 rfl rfl rfl (sc rfl (sc rfl sn)) (fun a F => ?_)
 have H := Sep.start hN
 refine xC (xH (xA F rfl rfl fun a F => xF (xG (xC (xH (xB F rfl rfl fun a F => xB F rfl rfl (fun a F => ?_)))))))
 obtain ⟨z11, c12, hR⟩ := xI hR
 refine oKI F rfl call138 rfl H (slices_IndexFunc_s_Con_Con_c z11 c12 _ aA (H.a A0) hg1 (fun a0 r h W l1 => hp1 a0 r h W (H.bl.trans (l1.mono H.fr.size)))) fun a w H iz11 F => o_geq F rfl rfl rfl fun a F => xA F rfl rfl fun a F => xF (xG (xW (xR F rfl (oO F rfl) ?_)))
 obtain rfl := Option.some.inj hR
 exact ⟨rfl, H.bl⟩

def impl_ValidInstance (x0 : Template) (x1 : Instance) : Option Bool :=
 kJ (σ := Bool) (
  oJ (vK (Template.mk x0.size x0.rels)) fun z33 =>
  if z33 then  oJ (impl_isVars x1.vars) fun z36 =>
   if z36 then  if (decide ((x1.cons.length : Int) ≤ 24)) then  oJ (zF x1.cons (fun a0 => impl_ValidInstance_1 a0 (Template.mk x0.size x0.rels) (Instance.mk x1.vars x1.cons))) fun z41 =>
     some (.nx (!z41)) else  some (.nx false) else  some (.nx false) else  some (.nx false)) fun s32 =>
 some s32
theorem impl_ValidInstance_c {B : Nat → Prop} {x0 : Template} {x1 : Instance} (r : Bool) (hR : impl_ValidInstance x0 x1 = some r) {v0 : Value} {v1 : Value} (w0 : World) (hN : ∀ c, B c → c < w0.heap.size) (A0 : Bo B w0 (qH 2 xJ) v0 x0) (A1 : Bo B w0 (qH 2 xM) v1 x1) : Calls Tryz.prog 83 #[v0, v1] w0 (vR (.bool r) w0) := by
 unfold impl_ValidInstance at hR
 refine oD (L := [(0, v0), (1, v1)]) func83 rfl rfl rfl (sc rfl (sc rfl sn)) (fun a F => ?_)
 have H := Sep.start hN
 refine xC (xH ?_)
 obtain ⟨v12, rfl, i11, h13⟩ := xJ.o A0
 refine oX F rfl rfl rfl H (fun a w b14 H F => ?_)
 obtain ⟨v16, rfl, i15, h17⟩ := xM.o A1
 refine oX F rfl rfl rfl H fun a w b18 H F => xA F rfl rfl fun a F => xF (xG (xC ?_))
 obtain ⟨o29, hR, hk30⟩ := xS hR
 refine oQ (fun a w => ∃ (s32 : Bool), o29 = .nx s32 ∧ Sk a 25 [(4, .bool s32)] ∧ Sep [] B w0 w []) ?_ ?_
 ·
  refine xH (oBA isAgg33 sizeOf33 F rfl rfl (H.b 1 rfl) rfl rfl (fun a F => ?_))
  obtain ⟨z33, c34, hR⟩ := xI hR
  refine oK F rfl call100 rfl H (impl_ValidTemplate_c z33 c34 _ aA (xJ.m i11 (H.a h13))) fun a w H F => xB F rfl rfl (fun a F => ?_)
  rcases vD z33 with hb35 | hb35
  ·
   replace hR := zD hb35 hR
   have F := F.eq (t := 7) rfl (congrArg Value.bool hb35)
   refine oM fa58_0 F rfl rfl rfl fun a F => oB isAgg2 F rfl rfl (H.b 0 rfl) rfl (fun a F => ?_)
   obtain ⟨z36, c37, hR⟩ := xI hR
   refine oK F rfl call147 rfl H (impl_isVars_c z36 c37 _ aA i15) fun a w H F => vH F rfl rfl rfl fun a F => xB F rfl rfl (fun a F => ?_)
   rcases vD z36 with hb38 | hb38
   ·
    replace hR := zD hb38 hR
    have F := F.eq (t := 12) rfl (congrArg Value.bool hb38)
    refine oM fa58_1 F rfl rfl rfl fun a F => oB isAgg56 F rfl rfl (H.b 0 rfl) rfl fun a F => oL underlying56 F rfl rfl h17 fun a i39 F => o_leq F rfl rfl rfl fun a F => vH F rfl rfl rfl fun a F => xB F rfl rfl (fun a F => ?_)
    rcases vD (decide ((x1.cons.length : Int) ≤ 24)) with hb40 | hb40
    ·
     replace hR := zD hb40 hR
     have F := F.eq (t := 18) rfl (congrArg Value.bool hb40)
     refine oM fa58_1 F rfl rfl rfl fun a F => oB isAgg56 F rfl rfl (H.b 0 rfl) rfl fun a F => o_func F rfl rfl rfl (fun a F => ?_)
     obtain ⟨z41, c42, hR⟩ := xI hR
     refine oK F rfl call148 rfl H (slices_ContainsFunc_s_Con_Con_c z41 c42 _ aA (H.a h17) call149 (fun a0 r h W l1 u0 f0 => impl_ValidInstance_1_c r h W aA f0 ((xJ.b (H.g 1 rfl).bk i11 (H.a h13)).w l1) ((xM.b (H.g 0 rfl).bk i15 (H.a h17)).w l1))) fun a w H F => kE F rfl rfl fun a F => vH F rfl rfl rfl fun a F => xA F rfl rfl fun a F => xF (xG ?_)
     exact ⟨(!z41), (Option.some.inj hR).symm, F.sub (sc rfl sn), (H.s [] rfl rfl)⟩
    replace hR := zE hb40 hR
    have F := F.eq (t := 18) rfl (congrArg Value.bool hb40)
    refine oH F rfl rfl fun a F => oH F rfl rfl fun a F => oH F rfl rfl fun a F => oH F rfl rfl fun a F => oH F rfl rfl fun a F => qZ F rfl rfl rfl fun a F => xA F rfl rfl fun a F => xF (xG ?_)
    exact ⟨false, (Option.some.inj hR).symm, F.sub (sc rfl sn), (H.s [] rfl rfl)⟩
   replace hR := zE hb38 hR
   have F := F.eq (t := 12) rfl (congrArg Value.bool hb38)
   refine oH F rfl rfl fun a F => oH F rfl rfl fun a F => oH F rfl rfl fun a F => oH F rfl rfl fun a F => qZ F rfl rfl rfl fun a F => xB F rfl rfl fun a F => oH F rfl rfl fun a F => oH F rfl rfl fun a F => oH F rfl rfl fun a F => oH F rfl rfl fun a F => oH F rfl rfl (fun a F => ?_)
   refine qZ F rfl rfl rfl fun a F => xA F rfl rfl fun a F => xF (xG ?_)
   exact ⟨false, (Option.some.inj hR).symm, F.sub (sc rfl sn), (H.s [] rfl rfl)⟩
  replace hR := zE hb35 hR
  have F := F.eq (t := 7) rfl (congrArg Value.bool hb35)
  refine oH F rfl rfl fun a F => oH F rfl rfl fun a F => oH F rfl rfl fun a F => qZ F rfl rfl rfl fun a F => xB F rfl rfl fun a F => oH F rfl rfl fun a F => oH F rfl rfl fun a F => oH F rfl rfl fun a F => oH F rfl rfl fun a F => qZ F rfl rfl rfl fun a F => xB F rfl rfl (fun a F => ?_)
  refine oH F rfl rfl fun a F => oH F rfl rfl fun a F => oH F rfl rfl fun a F => oH F rfl rfl fun a F => oH F rfl rfl fun a F => qZ F rfl rfl rfl fun a F => xA F rfl rfl fun a F => xF (xG ?_)
  exact ⟨false, (Option.some.inj hR).symm, F.sub (sc rfl sn), (H.s [] rfl rfl)⟩
 intro a w ⟨s32, ho31, F, H⟩
 subst ho31
 have hR := xZ hk30
 refine xG (xW (xR F rfl (oO F rfl) ?_))
 obtain rfl := Option.some.inj hR
 exact ⟨rfl, H.bl⟩

def impl_applyFault (N : Nat) (x0 : Template) (x1 : Template) (x2 : Gadgets) (x3 : Instance) : Option Int :=
 kJ (σ := Bool) (
  oJ (impl_ValidGadgets N (Template.mk x0.size x0.rels) (Template.mk x1.size x1.rels) (Gadgets.mk x2.formulas)) fun z35 =>
  if (!z35) then  some (.nx true) else  oJ (impl_ValidInstance (Template.mk x0.size x0.rels) (Instance.mk x3.vars x3.cons)) fun z38 =>
   some (.nx (!z38))) fun s34 =>
 if s34 then
  some 1
 else
  some 0
theorem impl_applyFault_c {B : Nat → Prop} {N : Nat} {x0 : Template} {x1 : Template} {x2 : Gadgets} {x3 : Instance} (r : Int) (hR : impl_applyFault N x0 x1 x2 x3 = some r) {v0 : Value} {v1 : Value} {v2 : Value} {v3 : Value} (w0 : World) (hN : ∀ c, B c → c < w0.heap.size) (A0 : Bo B w0 (qH 2 xJ) v0 x0) (A1 : Bo B w0 (qH 2 xJ) v1 x1) (A2 : Bo B w0 (qH 1 xV) v2 x2) (A3 : Bo B w0 (qH 2 xM) v3 x3) : Calls Tryz.prog 67 #[v0, v1, v2, v3] w0 (SaysI r w0) := by
 unfold impl_applyFault at hR
 refine oD (L := [(0, v0), (1, v1), (2, v2), (3, v3)]) func67 rfl rfl rfl (sc rfl (sc rfl (sc rfl (sc rfl sn)))) (fun a F => ?_)
 have H := Sep.start hN
 refine xC (xH ?_)
 obtain ⟨v12, rfl, i11, h13⟩ := xJ.o A0
 refine oX F rfl rfl rfl H (fun a w b14 H F => ?_)
 obtain ⟨v16, rfl, i15, h17⟩ := xJ.o A1
 refine oX F rfl rfl rfl H (fun a w b18 H F => ?_)
 obtain ⟨v19, rfl, h20⟩ := xV.o A2
 refine oX F rfl rfl rfl H (fun a w b21 H F => ?_)
 obtain ⟨v23, rfl, i22, h24⟩ := xM.o A3
 refine oX F rfl rfl rfl H fun a w b25 H F => xA F rfl rfl fun a F => xF (xG (xC (xC ?_)))
 obtain ⟨o31, hR, hk32⟩ := xS hR
 refine oQ (fun a w => ∃ (s34 : Bool), o31 = .nx s34 ∧ Sk a 20 [(19, .bool s34)] ∧ Sep [] B w0 w []) ?_ ?_
 ·
  refine xH (oBA isAgg33 sizeOf33 F rfl rfl (H.b 3 rfl) rfl rfl fun a F => oBA isAgg33 sizeOf33 F rfl rfl (H.b 2 rfl) rfl rfl fun a F => oBA isAgg37 sizeOf37 F rfl rfl (H.b 1 rfl) rfl rfl (fun a F => ?_))
  obtain ⟨z35, c36, hR⟩ := xI hR
  refine oK F rfl call15 rfl H (impl_ValidGadgets_c z35 c36 _ aA (xJ.m i11 (H.a h13)) (xJ.m i15 (H.a h17)) (xV.m (H.a h20))) fun a w H F => kE F rfl rfl fun a F => xB F rfl rfl (fun a F => ?_)
  rcases vD (!z35) with hb37 | hb37
  ·
   replace hR := zD hb37 hR
   have F := F.eq (t := 14) rfl (congrArg Value.bool hb37)
   refine oH F rfl rfl fun a F => oH F rfl rfl fun a F => oH F rfl rfl fun a F => oH F rfl rfl fun a F => vH F rfl rfl rfl fun a F => xF (xG ?_)
   exact ⟨true, (Option.some.inj hR).symm, F.sub (sc rfl sn), (H.s [] rfl rfl)⟩
  replace hR := zE hb37 hR
  have F := F.eq (t := 14) rfl (congrArg Value.bool hb37)
  refine oBA isAgg33 sizeOf33 F rfl rfl (H.b 3 rfl) rfl rfl fun a F => oBA isAgg58 sizeOf58 F rfl rfl (H.b 0 rfl) rfl rfl (fun a F => ?_)
  obtain ⟨z38, c39, hR⟩ := xI hR
  refine oK F rfl call83 rfl H (impl_ValidInstance_c z38 c39 _ aA (xJ.m i11 (H.a h13)) (xM.m i22 (H.a h24))) fun a w H F => kE F rfl rfl fun a F => qZ F rfl rfl rfl fun a F => xF (xG ?_)
  exact ⟨(!z38), (Option.some.inj hR).symm, F.sub (sc rfl sn), (H.s [] rfl rfl)⟩
 intro a w ⟨s34, ho33, F, H⟩
 subst ho33
 have hR := xZ hk32
 refine xG (vC F rfl (fun hb40 => ?_) (fun hb40 => ?_))
 ·
  replace hR := zD hb40 hR
  refine xC (xH (xA F rfl rfl fun a F => xF (xG (xW (oV (xR F rfl (oO F rfl) ?_))))))
  obtain rfl := Option.some.inj hR
  exact ⟨⟨rfl, H.bl⟩, (show xY (1) by decide)⟩
 replace hR := zE hb40 hR
 refine xO (xG (xC (xH (xA F rfl rfl fun a F => xF (xG (xW (xR F rfl (oO F rfl) ?_)))))))
 obtain rfl := Option.some.inj hR
 exact ⟨⟨rfl, H.bl⟩, (show xY (0) by decide)⟩

def impl_upTo (x0 : Int) (x1 : Int) : Option (List Int) :=
 kJ (σ := (List Int)) (
  kT (σ := (List Int)) (ρ := (List Int)) (fun (k36 : Nat) (s30 : (List Int)) =>
   oJ (ck (x0 + (k36 : Int))) fun z42 =>
   oJ (ap s30 ([z42])) fun z46 =>
   some (.go z46)) x1.toNat 0 []) fun s33 =>
 some s33
theorem impl_upTo_c {B : Nat → Prop} {x0 : Int} {x1 : Int} (r : (List Int)) (hR : impl_upTo x0 x1 = some r)  (w0 : World) (hN : ∀ c, B c → c < w0.heap.size) (hx0 : xY x0) (hx1 : xY x1) : Calls Tryz.prog 128 #[.int .i64 x0, .int .i64 x1] w0 (Gv (fun v w' => ∃ (v1' : Value), v = v1' ∧ Sep [] B w0 w' [rl 1 xK 2 v1' r])) := by
 unfold impl_upTo at hR
 refine oD (L := [(0, .int .i64 x0), (1, .int .i64 x1)]) func128 rfl rfl rfl (sc rfl (sc rfl sn)) (fun a F => ?_)
 have H := Sep.start hN
 refine xC (xH (xA F rfl rfl fun a F => xF (xG (xC (xH (oR0 (R := xK) underlying42 sizeOf2 F rfl H fun a w v11 H F => xA F rfl rfl fun a F => xF (xG ?_)))))))
 refine xC (xC (xH (xB F rfl rfl fun a F => xB F rfl rfl fun a F => xF (xG ?_))))
 obtain ⟨o24, hR, hk25⟩ := xS hR
 refine oQ (fun a w => ∃ (s33 : List Int) (v35 : Value), o24 = .nx s33 ∧ Sk a 20 [(5, v35)] ∧ Sep [] B w0 w [rl 1 xK 2 v35 s33]) ?_ ?_
 ·
  refine oU ?_
  obtain ⟨fl28, hf29, hR⟩ := forI_gen hR
  refine qU (fun g a w => ∃ (k36 : Nat) (s30 : List Int) (v32 : Value), k36 + g = x1.toNat ∧ kT fl28 g k36 s30 = some o24 ∧ Sk a 20 [(9, .int .i64 (k36 : Int)), (0, .int .i64 x0), (5, v32), (8, .int .i64 x1)] ∧ Sep [] B w0 w [rl 1 xK 2 v32 s30]) x1.toNat ?_ ?_
  ·
   exact ⟨0, [], v11, (Nat.zero_add _), hR, F.sub (sc rfl (sc rfl (sc rfl (sc rfl sn)))), H⟩
  intro g39 a w ⟨k36, s30, v32, hd40, hR, F, H⟩
  cases g39 with
  | zero =>
   replace hR := forI_zero hR
   have hlk36 := dec_noI hd40
   refine xC (xH (oR F rfl rfl rfl fun a F => xF (xG (xC (vV F rfl hlk36 (qK (qQ (qQ (zT ?_)))))))))
   refine xG ?_
   exact ⟨s30, v32, (Option.some.inj hR).symm, F.sub (sc rfl sn), H⟩
  | succ g39 =>
   obtain ⟨ck36, hR, hn27⟩ := forI_succ hR
   rw [hf29] at hR
   have hlk36 := dec_yesI hd40
   refine xC (xH (oR F rfl rfl rfl fun a F => xF (xG (xC (vZ F rfl hlk36 (xO (xG (xC ?_))))))))
   have ikk36 := k64I hd40 hx1
   have ink36 := inc64I hd40 hx1
   refine oU (xC (xH (xB F rfl rfl fun a F => xA F rfl rfl fun a F => xF (xG (xH (xB F rfl rfl fun a F => xB F rfl rfl fun a F => xB F rfl rfl (fun a F => ?_)))))))
   obtain ⟨z42, c43, hR⟩ := xI hR
   refine o_add F rfl rfl rfl c43 fun a F => oR1z (R := xK) (y := z42) underlying42 sizeOf2 zeroValue2 rfl rfl F rfl rfl H (Eo.int (ck64 c43)) (fun a w v44 H F => ?_)
   obtain ⟨z46, c47, hR⟩ := xI hR
   refine oPL (sz := 1) (R := xK) (z := (.int .i64 0)) (bytes := 8) underlying42 (by kernel_rfl) rfl rfl F rfl rfl rfl (H.s [1, 0] rfl rfl) c47 fun a w v48 H F => xA F rfl rfl fun a F => xF (zN (xG (xH (vM F rfl rfl rfl ink36 fun a F => xB F rfl rfl fun a F => xF (xG ?_)))))
   replace hR := zH hR hn27
   exact ⟨_, Nat.lt_succ_self _, k36 + 1, z46, v48, (by omega), hR, F.sub (sc rfl (sc rfl (sc rfl (sc rfl sn)))), H⟩
 intro a w ⟨s33, v35, ho26, F, H⟩
 subst ho26
 have hR := xZ hk25
 refine xG (xC (xH (xB F rfl rfl fun a F => xA F rfl rfl fun a F => xF (xG (xW (xR F rfl (oO F rfl) ?_))))))
 obtain rfl := Option.some.inj hR
 exact ⟨_, rfl, v35, rfl, H⟩

def impl_applied_1 (x0 : Int) (y0 : Formula) (y1 : Con) (y2 : Int) : Option Int :=
 if (decide (x0 < y0.free)) then
  oJ (ix y1.scope x0) fun z19 =>
  some z19
 else
  oJ (ck (x0 + y2)) fun z25 =>
  some z25
theorem impl_applied_1_c {B : Nat → Prop} {x0 : Int} {y0 : Formula} {y1 : Con} {y2 : Int} (r : Int) (hR : impl_applied_1 x0 y0 y1 y2 = some r) {v1 : Value} {v2 : Value} {v3 : Value} (w0 : World) (hN : ∀ c, B c → c < w0.heap.size) (hx0 : xY x0) (A1 : Bo B w0 (Pt 3 xL) v1 y0) (A2 : Bo B w0 (Pt 2 oZ) v2 y1) (A3 : Bo B w0 (Pt 1 xK) v3 y2) : Calls Tryz.prog 129 #[.int .i64 x0, v1, v2, v3] w0 (SaysI r w0) := by
 unfold impl_applied_1 at hR
 refine oD (L := [(0, .int .i64 x0), (1, v1), (2, v2), (3, v3)]) func129 rfl rfl rfl (sc rfl (sc rfl (sc rfl (sc rfl sn)))) (fun a F => ?_)
 have H := Sep.start hN
 refine xC (xH (xA F rfl rfl fun a F => xF (xG (xC (xC (xH (xB F rfl rfl fun a F => oF (s' := 1) fa95_0 F rfl rfl A1 xL.f0 fun a p11 h12 F => olI isAgg2 F rfl rfl H.sm h12 (fun a i13 F => ?_))))))))
 refine oR F rfl rfl rfl fun a F => xF (xG (vC F rfl (fun hb14 => ?_) (fun hb14 => ?_)))
 ·
  replace hR := zD hb14 hR
  refine xC (xH (oF (s' := 1) fa165_1 F rfl rfl A2 oZ.f1 fun a p15 h16 F => olS isAgg42 F rfl rfl H.sm h16 fun a v17 h18 F => xB F rfl rfl (fun a F => ?_)))
  obtain ⟨z19, c20, hR⟩ := xI hR
  refine oI underlying42 sizeOf2 F rfl rfl rfl h18 c20 fun a p21 h22 F => olI isAgg2 F rfl rfl H.sm h22 fun a i23 F => xA F rfl rfl fun a F => xF (xG (xW (oV (xR F rfl (oO F rfl) ?_))))
  obtain rfl := Option.some.inj hR
  exact ⟨⟨rfl, H.bl⟩, i23⟩
 replace hR := zE hb14 hR
 refine xO (xG (xC (xH (xB F rfl rfl fun a F => olI isAgg2 F rfl rfl H.sm A3 (fun a i24 F => ?_)))))
 obtain ⟨z25, c26, hR⟩ := xI hR
 refine o_add F rfl rfl rfl c26 fun a F => xA F rfl rfl fun a F => xF (xG (xW (xR F rfl (oO F rfl) ?_)))
 obtain rfl := Option.some.inj hR
 exact ⟨⟨rfl, H.bl⟩, (ck64 c26)⟩

def impl_rising (x0 : List Int) : Option (List Int) :=
 oJ (qV x0) fun z11 =>
 oJ (zX z11) fun z16 =>
 oJ (zK z16) fun z18 =>
 some z18
theorem impl_rising_c {B : Nat → Prop} {x0 : List Int} (r : (List Int)) (hR : impl_rising x0 = some r) {v0 : Value} (w0 : World) (hN : ∀ c, B c → c < w0.heap.size) (A0 : Bo B w0 (Sl 1 xK) v0 x0) : Calls Tryz.prog 130 #[v0] w0 (Gv (fun v w' => ∃ (v1' : Value), v = v1' ∧ Sep [] B w0 w' [rl 1 xK 2 v1' r])) := by
 unfold impl_rising at hR
 refine oD (L := [(0, v0)]) func130 rfl rfl rfl (sc rfl sn) (fun a F => ?_)
 have H := Sep.start hN
 refine xC (xH (xA F rfl rfl fun a F => xF (xG (xC (xH (xB F rfl rfl (fun a F => ?_)))))))
 obtain ⟨z11, c12, hR⟩ := xI hR
 refine oG F rfl call56 rfl (slices_Clone_s_int64_int64_c z11 c12 _ aA (H.a A0)) (fun a vv w ⟨v13, hv15, S⟩ F => ?_)
 subst vv
 have H := H.r1 S n0
 refine xA F rfl rfl fun a F => xF (xG (xC (xH (xB F rfl rfl (fun a F => ?_)))))
 obtain ⟨z16, c17, hR⟩ := xI hR
 refine oSort F rfl call196 rfl H c17 fun a w H F => xF (xG (xC (xH (xB F rfl rfl (fun a F => ?_)))))
 obtain ⟨z18, c19, hR⟩ := xI hR
 refine oCompact F rfl call197 rfl H c19 fun a w v20 H F => xA F rfl rfl fun a F => xF (xG (xW (xR F rfl (oO F rfl) ?_)))
 obtain rfl := Option.some.inj hR
 exact ⟨_, rfl, v20, rfl, H⟩

def vT (x0 : List Int) (x1 : Int) : Option Int :=
 kJ (σ := Unit) (
  qT (σ := Unit) (ρ := Int) (fun (k22 : Nat) (x24 : Int) (s : Unit) =>
    match s with
    | _ =>
    if (x1 == x24) then
     some (.ret ((k22 : Int)))
    else
     some (.go ())) x0 0 ()) fun _ =>
 some ((-1))
theorem slices_Index_s_int64_int64_c {B : Nat → Prop} {x0 : List Int} {x1 : Int} (r : Int) (hR : vT x0 x1 = some r) {v0 : Value} (w0 : World) (hN : ∀ c, B c → c < w0.heap.size) (A0 : Bo B w0 (Sl 1 xK) v0 x0) (hx1 : xY x1) : Calls Tryz.prog 131 #[v0, .int .i64 x1] w0 (SaysI r w0) := by
 unfold vT at hR
 refine oD (L := [(0, v0), (1, .int .i64 x1)]) func131 rfl rfl rfl (sc rfl (sc rfl sn)) (fun a F => ?_)
 have H := Sep.start hN
 refine xC (xH (xA F rfl rfl fun a F => xF (xG (xC (xC (xH (xB F rfl rfl fun a F => oL underlying42 F rfl rfl A0 fun a i11 F => xB F rfl rfl (fun a F => ?_))))))))
 refine xF (xG ?_)
 obtain ⟨o16, hR, hk17⟩ := xS hR
 refine oQ (fun a w => o16 = .nx () ∧ Sk a 19 [] ∧ Sep [] B w0 w []) ?_ ?_
 ·
  refine oU ?_
  obtain ⟨fl20, hf21, hR⟩ := qP hR
  refine qU (fun g a w => ∃ (k22 : Nat) (rest23 : List Int), (k22 ≤ x0.length ∧ x0.drop k22 = rest23) ∧ rest23.length = g ∧ qT fl20 rest23 k22 () = some o16 ∧ Sk a 19 [(8, .int .i64 (k22 : Int)), (0, v0), (1, .int .i64 x1), (7, .int .i64 (x0.length : Int))] ∧ Sep [] B w0 w []) x0.length ?_ ?_
  ·
   exact ⟨0, x0, ⟨Nat.zero_le _, rfl⟩, rfl, hR, F.sub (sc rfl (sc rfl (sc rfl (sc rfl sn)))), H⟩
  intro g25 a w ⟨k22, rest23, hd26, hg27, hR, F, H⟩
  cases rest23 with
  | nil =>
   replace hR := qS hR
   have hkk22 := qR hd26.1 hd26.2
   have hlk22 := vW hkk22
   refine xC (xH (oR F rfl rfl rfl fun a F => xF (xG (xC (vV F rfl hlk22 (qK (qQ (qQ (zT ?_)))))))))
   refine xG ?_
   exact ⟨(Option.some.inj hR).symm, F.sub sn, H⟩
  | cons x24 rest23 =>
   subst hg27
   replace hd26 := qD hd26.2
   have hxk22 := qG hd26.2.1
   obtain ⟨ck22, hR, hn19⟩ := qC hR
   rw [hf21] at hR
   have hlk22 := vA hd26.1
   refine xC (xH (oR F rfl rfl rfl fun a F => xF (xG (xC (vZ F rfl hlk22 (xO (xG (xC ?_))))))))
   have ikk22 := k64 (Nat.le_of_lt hd26.1) i11
   have ink22 := zW hd26.1 i11
   refine oU (xC (xH (xB F rfl rfl fun a F => xA F rfl rfl fun a F => xF (xG (xC (xH (xB F rfl rfl fun a F => xB F rfl rfl (fun a F => ?_))))))))
   refine xB F rfl rfl fun a F => oI underlying42 sizeOf2 F rfl rfl rfl A0 hxk22 fun a p28 h29 F => olI isAgg2 F rfl rfl H.sm h29 fun a i30 F => o_eql F rfl rfl rfl fun a F => xF (xG (vC F rfl (fun hb31 => ?_) (fun hb31 => ?_)))
   ·
    replace hR := zD hb31 hR
    refine xC (xH (xB F rfl rfl fun a F => xA F rfl rfl fun a F => xF (xG (xW (kB (oV (oV ?_)))))))
    replace hR := l_ret hR hn19
    refine kB (oV ?_)
    replace hR := j_ret hR hk17
    refine oV (xR F rfl (oO F rfl) ?_)
    obtain rfl := Option.some.inj hR
    exact ⟨⟨rfl, H.bl⟩, ikk22⟩
   replace hR := zE hb31 hR
   refine xO (zN (xG (xH (vM F rfl rfl rfl ink22 fun a F => xB F rfl rfl fun a F => xF (xG ?_)))))
   replace hR := zH hR hn19
   exact ⟨_, Nat.lt_succ_self _, k22 + 1, rest23, ⟨hd26.1, hd26.2.2⟩, rfl, hR, F.sub (sc rfl (sc rfl (sc rfl (sc rfl sn)))), H⟩
 intro a w ⟨ho18, F, H⟩
 subst ho18
 have hR := xZ hk17
 refine xG (xC (xH (xA F rfl rfl fun a F => xF (xG (xW (xR F rfl (oO F rfl) ?_))))))
 obtain rfl := Option.some.inj hR
 exact ⟨⟨rfl, H.bl⟩, (show xY (-1) by decide)⟩

def impl_applied (x0 : Gadgets) (x1 : Instance) : Option (Instance × (List Int) × Int) :=
 oJ (impl_upTo 0 x1.vars) fun z19 =>
 kJ (σ := (List Int) × (List Atom)) (
  qT (σ := (List Int) × (List Atom)) (ρ := Instance × (List Int) × Int) (fun (k95 : Nat) (x97 : Con) (s : (List Int) × (List Atom)) =>
    match s with
    | (s83, s86) =>
    oJ (ix x0.formulas x97.rel) fun z109 =>
    oJ (ck ((s83.length : Int) - z109.free)) fun z121 =>
    oJ (impl_renamed z109.atoms (fun a0 => impl_applied_1 a0 (Formula.mk z109.free z109.vars z109.atoms) (Con.mk x97.rel x97.scope) z121)) fun z124 =>
    oJ (ap s86 z124) fun z129 =>
    oJ (ck (z109.vars - z109.free)) fun z134 =>
    oJ (impl_upTo (s83.length : Int) z134) fun z136 =>
    oJ (ap s83 z136) fun z141 =>
    some (.go (z141, z129))) x1.cons 0 (z19, [])) fun (s89, s92) =>
 kJ (σ := (List Int)) (
  qT (σ := (List Int)) (ρ := Instance × (List Int) × Int) (fun (k363 : Nat) (x365 : Atom) (s357 : (List Int)) =>
   if (x365.rel != (-1)) then
    some (.go s357)
   else
    oJ (ix x365.args 0) fun z385 =>
    oJ (ix s357 z385) fun z390 =>
    oJ (ix x365.args 1) fun z395 =>
    oJ (ix s357 z395) fun z400 =>
    kJ (σ := (List Int)) (
     qT (σ := (List Int)) (ρ := (Ctl ((List Int)) (Instance × (List Int) × Int))) (fun (k454 : Nat) (x456 : Int) (s446 : (List Int)) =>
      oJ (ix s446 (k454 : Int)) fun z460 =>
      if (z460 == (if z390 < z400 then z400 else z390)) then
       some (.go (s446.set ((k454 : Int)).toNat (if z400 < z390 then z400 else z390)))
      else
       some (.go s446)) s357 0 s357) fun s450 =>
    some (.go s450)) s92 0 s89) fun s360 =>
 oJ (impl_rising s360) fun z470 =>
 kJ (σ := (List Int)) (
  qT (σ := (List Int)) (ρ := Instance × (List Int) × Int) (fun (k514 : Nat) (x516 : Int) (s506 : (List Int)) =>
   oJ (ix s506 (k514 : Int)) fun z520 =>
   oJ (vT z470 z520) fun z525 =>
   some (.go (s506.set ((k514 : Int)).toNat z525))) s360 0 s360) fun s510 =>
 kJ (σ := (List Con)) (
  qT (σ := (List Con)) (ρ := Instance × (List Int) × Int) (fun (k681 : Nat) (x683 : Atom) (s675 : (List Con)) =>
   if (x683.rel != (-1)) then
    oJ (impl_chosen s510 x683.args) fun z703 =>
    oJ (ap s675 ([(Con.mk x683.rel z703)])) fun z711 =>
    some (.go z711)
   else
    some (.go s675)) s92 0 []) fun s678 =>
 kJ (σ := Bool) (
  if (decide (10 < (z470.length : Int))) then  some (.nx true) else  some (.nx (decide (24 < (s678.length : Int))))) fun s758 =>
 if s758 then
  some ((Instance.mk 0 ([])), [], 3)
 else
  oJ (sl s510 0 x1.vars) fun z764 =>
  oJ (qV z764) fun z768 =>
  some ((Instance.mk (z470.length : Int) s678), z768, 0)
theorem impl_applied_c {B : Nat → Prop} {x0 : Gadgets} {x1 : Instance} (r : Instance × (List Int) × Int) (hR : impl_applied x0 x1 = some r) {v0 : Value} {v1 : Value} (w0 : World) (hN : ∀ c, B c → c < w0.heap.size) (A0 : Bo B w0 (qH 1 xV) v0 x0) (A1 : Bo B w0 (qH 2 xM) v1 x1) : Calls Tryz.prog 68 #[v0, v1] w0 (Gv (fun v w' => ∃ (v1' : Value) (v2' : Value), v = .tuple #[.agg #[.int .i64 r.1.vars, v1'], v2', .int .i64 r.2.2] ∧ Sep [] B w0 w' [rl 2 oZ 165 v1' r.1.cons, rl 1 xK 2 v2' r.2.1] ∧ xY r.1.vars ∧ xY r.2.2)) := by
 unfold impl_applied at hR
 refine oD (L := [(0, v0), (1, v1)]) func68 rfl rfl rfl (sc rfl (sc rfl sn)) (fun a F => ?_)
 have H := Sep.start hN
 refine xC (xH ?_)
 obtain ⟨v11, rfl, h12⟩ := xV.o A0
 refine oX F rfl rfl rfl H (fun a w b13 H F => ?_)
 obtain ⟨v15, rfl, i14, h16⟩ := xM.o A1
 refine oX F rfl rfl rfl H fun a w b17 H F => oA zeroValue58 F rfl rfl H fun a w b18 H F => xA F rfl rfl fun a F => xA F rfl rfl fun a F => xF (xG (xC (xH (oM fa58_0 F rfl rfl rfl fun a F => oB isAgg2 F rfl rfl (H.b 1 rfl) rfl (fun a F => ?_)))))
 obtain ⟨z19, c20, hR⟩ := xI hR
 refine oG F rfl call128 rfl (impl_upTo_c z19 c20 _ aA (show xY (0) by decide) i14) (fun a vv w ⟨v21, hv23, S⟩ F => ?_)
 subst vv
 have H := H.r1 S n0
 refine xA F rfl rfl fun a F => xF (xG (xC (xH (oR0 (R := xU) underlying93 sizeOf158 F rfl H fun a w v24 H F => xA F rfl rfl fun a F => xF (xG (xC (xC ?_)))))))
 refine xH (oM fa58_1 F rfl rfl rfl fun a F => oB isAgg56 F rfl rfl (H.b 3 rfl) rfl fun a F => oL underlying56 F rfl rfl h16 fun a i26 F => xB F rfl rfl fun a F => xF (xG ?_))
 obtain ⟨o77, hR, hk78⟩ := xS hR
 refine oQ (fun a w => ∃ (s89 : List Int) (v91 : Value) (s92 : List Atom) (v94 : Value), o77 = .nx (s89, s92) ∧ Sk a 176 [(3, .pointer (some ⟨b17, 0, none⟩)), (4, .pointer (some ⟨b18, 0, none⟩)), (7, v91), (8, v94)] ∧ Sep [] B w0 w [rl 2 xU 158 v94 s92, rl 1 xK 2 v91 s89, bx b18 [.int .i64 0, (.slice none 0 0)] 58, bx b17 [.int .i64 x1.vars, v15] 58]) ?_ ?_
 ·
  refine oU ?_
  obtain ⟨fl81, hf82, hR⟩ := qP hR
  refine qU (fun g a w => ∃ (k95 : Nat) (rest96 : List Con) (s83 : List Int) (v85 : Value) (s86 : List Atom) (v88 : Value), (k95 ≤ x1.cons.length ∧ x1.cons.drop k95 = rest96) ∧ rest96.length = g ∧ qT fl81 rest96 k95 (s83, s86) = some o77 ∧ Sk a 176 [(32, .int .i64 (k95 : Int)), (2, .pointer (some ⟨b13, 0, none⟩)), (3, .pointer (some ⟨b17, 0, none⟩)), (4, .pointer (some ⟨b18, 0, none⟩)), (7, v85), (8, v88), (30, v15), (31, .int .i64 (x1.cons.length : Int))] ∧ Sep [] B w0 w [rl 2 xU 158 v88 s86, rl 1 xK 2 v85 s83, bx b18 [.int .i64 0, (.slice none 0 0)] 58, bx b17 [.int .i64 x1.vars, v15] 58, bx b13 [v11] 37]) x1.cons.length ?_ ?_
  ·
   exact ⟨0, x1.cons, z19, v21, [], v24, ⟨Nat.zero_le _, rfl⟩, rfl, hR, F.sub (sc rfl (sc rfl (sc rfl (sc rfl (sc rfl (sc rfl (sc rfl (sc rfl sn)))))))), H⟩
  intro g98 a w ⟨k95, rest96, s83, v85, s86, v88, hd99, hg100, hR, F, H⟩
  cases rest96 with
  | nil =>
   replace hR := qS hR
   have hkk95 := qR hd99.1 hd99.2
   have hlk95 := vW hkk95
   refine xC (xH (oR F rfl rfl rfl fun a F => xF (xG (xC (vV F rfl hlk95 (qK (qQ (qQ (zT ?_)))))))))
   refine xG ?_
   exact ⟨s83, v85, s86, v88, (Option.some.inj hR).symm, F.sub (sc rfl (sc rfl (sc rfl (sc rfl sn)))), (H.s [0, 1, 2, 3] rfl rfl)⟩
  | cons x97 rest96 =>
   subst hg100
   replace hd99 := qD hd99.2
   have hxk95 := qG hd99.2.1
   obtain ⟨ck95, hR, hn80⟩ := qC hR
   rw [hf82] at hR
   have hlk95 := vA hd99.1
   refine xC (xH (oR F rfl rfl rfl fun a F => xF (xG (xC (vZ F rfl hlk95 (xO (xG (xC ?_))))))))
   have ikk95 := k64 (Nat.le_of_lt hd99.1) i26
   have ink95 := zW hd99.1 i26
   refine oU (xC (xH (oI underlying56 sizeOf165 F rfl rfl rfl h16 hxk95 fun a p101 h102 F => olA isAgg165 sizeOf165 F rfl rfl H.sm h102 fun a v103 h104 F => oA zeroValue165 F rfl rfl H (fun a w b105 H F => ?_))))
   obtain ⟨v107, rfl, i106, h108⟩ := oZ.o h104
   refine oWA (vs := [.int .i64 x97.rel, v107]) sizeOf165 F rfl rfl rfl H (oc rfl (oc (H.a h108).one on)) rfl rfl fun w H => xF (xG (xC (xH (oM fa37_0 F rfl rfl rfl fun a F => oB isAgg35 F rfl rfl (H.b 5 rfl) rfl fun a F => oM fa165_0 F rfl rfl rfl fun a F => oB isAgg2 F rfl rfl (H.b 0 rfl) rfl (fun a F => ?_)))))
   obtain ⟨z109, c110, hR⟩ := xI hR
   refine oI underlying35 sizeOf95 F rfl rfl rfl h12 c110 fun a p111 h112 F => olA isAgg95 sizeOf95 F rfl rfl H.sm h112 fun a v113 h114 F => oA zeroValue95 F rfl rfl H (fun a w b115 H F => ?_)
   obtain ⟨v118, rfl, i116, i117, h119⟩ := xL.o h114
   refine oWA (vs := [.int .i64 z109.free, .int .i64 z109.vars, v118]) sizeOf95 F rfl rfl rfl H (oc rfl (oc rfl (oc (H.a h119).one on))) rfl rfl fun w H => xF (xG (xC (xH (xB F rfl rfl fun a F => oL underlying42 F rfl rfl (H.l 3 rfl) fun a i120 F => oM fa95_0 F rfl rfl rfl fun a F => oB isAgg2 F rfl rfl (H.b 0 rfl) rfl (fun a F => ?_)))))
   obtain ⟨z121, c122, hR⟩ := xI hR
   refine o_sub F rfl rfl rfl c122 fun a F => oA zeroValue2 F rfl rfl H fun a w b123 H F => oW sizeOf2 F rfl rfl rfl H rfl rfl rfl fun w H => xF (xG (xC (xH (xB F rfl rfl fun a F => oM fa95_2 F rfl rfl rfl fun a F => oB isAgg93 F rfl rfl (H.b 1 rfl) rfl fun a F => o_func F rfl rfl rfl (fun a F => ?_)))))
   obtain ⟨z124, c125, hR⟩ := xI hR
   refine oG F rfl call117 rfl (impl_renamed_c z124 c125 _ aA (H.a h119) call129 (fun a0 r h W l1 f0 => impl_applied_1_c r h W aA f0 ((xL.b (H.g 1 rfl).bk i116 i117 (H.a h119)).w l1) ((oZ.b (H.g 2 rfl).bk i106 (H.a h108)).w l1) ((c1I (H.g 0 rfl).bk (ck64 c122)).w l1))) (fun a vv w ⟨v126, hv128, S⟩ F => ?_)
   subst vv
   have H := H.r1 S n0
   obtain ⟨z129, c130, hR⟩ := xI hR
   refine oPL (sz := 2) (R := xU) (z := (.agg #[.int .i64 0, (.slice none 0 0)])) (bytes := 32) underlying93 (by kernel_rfl) rfl rfl F rfl rfl rfl (H.s [4, 0, 1, 2, 3, 5, 6, 7, 8] rfl rfl) c130 fun a w v131 H F => xA F rfl rfl fun a F => xF (xG (xH (xB F rfl rfl fun a F => xB F rfl rfl fun a F => oL underlying42 F rfl rfl (H.l 4 rfl) fun a i133 F => oM fa95_1 F rfl rfl rfl fun a F => oB isAgg2 F rfl rfl (H.b 2 rfl) rfl fun a F => oM fa95_0 F rfl rfl rfl (fun a F => ?_))))
   refine oB isAgg2 F rfl rfl (H.b 2 rfl) rfl (fun a F => ?_)
   obtain ⟨z134, c135, hR⟩ := xI hR
   refine o_sub F rfl rfl rfl c135 (fun a F => ?_)
   obtain ⟨z136, c137, hR⟩ := xI hR
   refine oG F rfl call128 rfl (impl_upTo_c z136 c137 _ aA i133 (ck64 c135)) (fun a vv w ⟨v138, hv140, S⟩ F => ?_)
   subst vv
   have H := H.r1 S n0
   obtain ⟨z141, c142, hR⟩ := xI hR
   refine oPL (sz := 1) (R := xK) (z := (.int .i64 0)) (bytes := 8) underlying42 (by kernel_rfl) rfl rfl F rfl rfl rfl (H.s [5, 0, 1, 2, 3, 4, 6, 7, 8] rfl rfl) c142 fun a w v143 H F => xA F rfl rfl fun a F => xF (zN (xG (xH (vM F rfl rfl rfl ink95 fun a F => xB F rfl rfl fun a F => xF (xG ?_)))))
   replace hR := zH hR hn80
   exact ⟨_, Nat.lt_succ_self _, k95 + 1, rest96, z141, v143, z129, v131, ⟨hd99.1, hd99.2.2⟩, rfl, hR, F.sub (sc rfl (sc rfl (sc rfl (sc rfl (sc rfl (sc rfl (sc rfl (sc rfl sn)))))))), (H.s [1, 0, 5, 6, 7] rfl rfl)⟩
 intro a w ⟨s89, v91, s92, v94, ho79, F, H⟩
 subst ho79
 have hR := xZ hk78
 refine xG (xC (xC (xH (xB F rfl rfl fun a F => oL underlying93 F rfl rfl (H.l 0 rfl) fun a i145 F => xB F rfl rfl fun a F => xF (xG ?_)))))
 obtain ⟨o351, hR, hk352⟩ := xS hR
 refine oQ (fun a w => ∃ (s360 : List Int) (v362 : Value), o351 = .nx s360 ∧ Sk a 176 [(3, .pointer (some ⟨b17, 0, none⟩)), (4, .pointer (some ⟨b18, 0, none⟩)), (7, v362), (8, v94)] ∧ Sep [] B w0 w [rl 2 xU 158 v94 s92, rl 1 xK 2 v362 s360, bx b18 [.int .i64 0, (.slice none 0 0)] 58, bx b17 [.int .i64 x1.vars, v15] 58]) ?_ ?_
 ·
  refine oU ?_
  obtain ⟨fl355, hf356, hR⟩ := qP hR
  refine qU (fun g a w => ∃ (k363 : Nat) (rest364 : List Atom) (s357 : List Int) (v359 : Value), (k363 ≤ s92.length ∧ s92.drop k363 = rest364) ∧ rest364.length = g ∧ qT fl355 rest364 k363 s357 = some o351 ∧ Sk a 176 [(66, .int .i64 (k363 : Int)), (3, .pointer (some ⟨b17, 0, none⟩)), (4, .pointer (some ⟨b18, 0, none⟩)), (7, v359), (8, v94), (64, v94), (65, .int .i64 (s92.length : Int))] ∧ Sep [] B w0 w [rl 2 xU 158 v94 s92, rl 1 xK 2 v359 s357, bx b18 [.int .i64 0, (.slice none 0 0)] 58, bx b17 [.int .i64 x1.vars, v15] 58]) s92.length ?_ ?_
  ·
   exact ⟨0, s92, s89, v91, ⟨Nat.zero_le _, rfl⟩, rfl, hR, F.sub (sc rfl (sc rfl (sc rfl (sc rfl (sc rfl (sc rfl (sc rfl sn))))))), H⟩
  intro g366 a w ⟨k363, rest364, s357, v359, hd367, hg368, hR, F, H⟩
  cases rest364 with
  | nil =>
   replace hR := qS hR
   have hkk363 := qR hd367.1 hd367.2
   have hlk363 := vW hkk363
   refine xC (xH (oR F rfl rfl rfl fun a F => xF (xG (xC (vV F rfl hlk363 (qK (qQ (qQ (zT ?_)))))))))
   refine xG ?_
   exact ⟨s357, v359, (Option.some.inj hR).symm, F.sub (sc rfl (sc rfl (sc rfl (sc rfl sn)))), H⟩
  | cons x365 rest364 =>
   subst hg368
   replace hd367 := qD hd367.2
   have hxk363 := qG hd367.2.1
   obtain ⟨ck363, hR, hn354⟩ := qC hR
   rw [hf356] at hR
   have hlk363 := vA hd367.1
   refine xC (xH (oR F rfl rfl rfl fun a F => xF (xG (xC (vZ F rfl hlk363 (xO (xG (xC ?_))))))))
   have ikk363 := k64 (Nat.le_of_lt hd367.1) i145
   have ink363 := zW hd367.1 i145
   refine oU (xC (xH ?_))
   obtain ⟨w376, rfl⟩ : ∃ x, x = w := ⟨_, rfl⟩
   obtain ⟨X371, N372, g373, e374, H, th375⟩ := H.fz
   have h377 := g373.ld
   refine oI underlying93 sizeOf158 F rfl rfl rfl h377 hxk363 fun a p369 h370 F => olA isAgg158 sizeOf158 F rfl rfl H.sm h370 fun a v378 h379 F => oA zeroValue158 F rfl rfl H (fun a w b380 H F => ?_)
   obtain ⟨v382, rfl, i381, h383⟩ := xU.o h379
   refine oWA (vs := [.int .i64 x365.rel, v382]) sizeOf158 F rfl rfl rfl H (oc rfl (oc (H.a h383).one on)) rfl rfl fun w H => xF (xG (xC (xC (xH (oM fa158_0 F rfl rfl rfl fun a F => oB isAgg2 F rfl rfl (H.b 0 rfl) rfl fun a F => o_neq F rfl rfl rfl fun a F => xF (xG ?_))))))
   refine vC F rfl (fun hb384 => ?_) (fun hb384 => ?_)
   ·
    replace hR := zD hb384 hR
    refine qK (qQ (zT (xG (xH (vM F rfl rfl rfl ink363 fun a F => xB F rfl rfl fun a F => xF (xG ?_))))))
    replace hR := zH hR hn354
    exact ⟨_, Nat.lt_succ_self _, k363 + 1, rest364, s357, v359, ⟨hd367.1, hd367.2.2⟩, rfl, hR, F.sub (sc rfl (sc rfl (sc rfl (sc rfl (sc rfl (sc rfl (sc rfl sn))))))), (th375.1 (H.s [1, 2, 3] rfl rfl) (Ns.all ⟨n0, ⟨n0, ⟨n0, trivial⟩⟩⟩))⟩
   replace hR := zE hb384 hR
   refine xO (xG (xC (xQ H (by kernel_rfl) (by kernel_rfl) (xN F rfl (fun w l => xP F rfl) fun a F => xN F rfl (fun w l => zJ fa158_1 F rfl rfl) fun a F => qB isAgg42 F rfl rfl (H.qb 0 rfl) rfl (fun a F => ?_)))))
   obtain ⟨z385, c386, hR⟩ := xI hR
   refine qI underlying42 sizeOf2 F rfl rfl rfl h383 c386 fun a p387 h388 F => qlI isAgg2 F rfl rfl H.q h388 (fun a i389 F => ?_)
   obtain ⟨z390, c391, hR⟩ := xI hR
   refine qI underlying42 sizeOf2 F rfl rfl rfl (H.l 1 rfl) c391 fun a p392 h393 F => qlI isAgg2 F rfl rfl qA h393 fun a i394 F => xN F rfl (fun w l => xP F rfl) fun a F => xN F rfl (fun w l => zJ fa158_1 F rfl rfl) fun a F => qB isAgg42 F rfl rfl (H.qb 0 rfl) rfl (fun a F => ?_)
   obtain ⟨z395, c396, hR⟩ := xI hR
   refine qI underlying42 sizeOf2 F rfl rfl rfl h383 c396 fun a p397 h398 F => qlI isAgg2 F rfl rfl H.q h398 (fun a i399 F => ?_)
   obtain ⟨z400, c401, hR⟩ := xI hR
   refine qI underlying42 sizeOf2 F rfl rfl rfl (H.l 1 rfl) c401 fun a p402 h403 F => qlI isAgg2 F rfl rfl qA h403 fun a i404 F => xN F rfl (fun w l => r_min F rfl rfl) fun a F => xN F rfl (fun w l => xP F rfl) fun a F => xN F rfl (fun w l => zJ fa158_1 F rfl rfl) fun a F => qB isAgg42 F rfl rfl (H.qb 0 rfl) rfl fun a F => qI underlying42 sizeOf2 F rfl rfl rfl h383 c386 fun a p405 h406 F => qlI isAgg2 F rfl rfl H.q h406 fun a i407 F => qI underlying42 sizeOf2 F rfl rfl rfl (H.l 1 rfl) c391 fun a p408 h409 F => qlI isAgg2 F rfl rfl qA h409 fun a i410 F => xN F rfl (fun w l => xP F rfl) (fun a F => ?_)
   refine xN F rfl (fun w l => zJ fa158_1 F rfl rfl) fun a F => qB isAgg42 F rfl rfl (H.qb 0 rfl) rfl fun a F => qI underlying42 sizeOf2 F rfl rfl rfl h383 c396 fun a p411 h412 F => qlI isAgg2 F rfl rfl H.q h412 fun a i413 F => qI underlying42 sizeOf2 F rfl rfl rfl (H.l 1 rfl) c401 fun a p414 h415 F => qlI isAgg2 F rfl rfl qA h415 fun a i416 F => xN F rfl (fun w l => r_max F rfl rfl) fun a F => xN F rfl (fun w l => vO F rfl) fun a F => xN F rfl (fun w l => vO F rfl) fun a F => kA fun w H => xG ?_
   refine xC (xH (xB F rfl rfl fun a F => oL underlying42 F rfl rfl (H.l 1 rfl) fun a i417 F => xB F rfl rfl fun a F => xF (xG ?_)))
   obtain ⟨o440, hR, hk441⟩ := xS hR
   refine oQ (fun a w => ∃ (s450 : List Int) (v452 : Value), o440 = .nx s450 ∧ Sk a 176 [(3, .pointer (some ⟨b17, 0, none⟩)), (4, .pointer (some ⟨b18, 0, none⟩)), (7, v452), (8, v94), (64, v94), (65, .int .i64 (s92.length : Int)), (66, .int .i64 (k363 : Int))] ∧ Sep X371 N372 w376 w [rl 1 xK 2 v452 s450, bx b18 [.int .i64 0, (.slice none 0 0)] 58, bx b17 [.int .i64 x1.vars, v15] 58]) ?_ ?_
   ·
    refine oU ?_
    obtain ⟨fl444, hf445, hR⟩ := qP hR
    refine qU (fun g a w => ∃ (k454 : Nat) (rest455 : List Int) (s446 : List Int) (v448 : Value), (k454 ≤ s357.length ∧ s357.drop k454 = rest455) ∧ rest455.length = g ∧ qT fl444 rest455 k454 s446 = some o440 ∧ Sk a 176 [(105, .int .i64 (k454 : Int)), (3, .pointer (some ⟨b17, 0, none⟩)), (4, .pointer (some ⟨b18, 0, none⟩)), (7, v448), (8, v94), (15, .int .i64 (if z400 < z390 then z400 else z390)), (16, .int .i64 (if z390 < z400 then z400 else z390)), (64, v94), (65, .int .i64 (s92.length : Int)), (66, .int .i64 (k363 : Int)), (103, v448), (104, .int .i64 (s357.length : Int))] ∧ Sep X371 N372 w376 w [rl 1 xK 2 v448 s446, bx b18 [.int .i64 0, (.slice none 0 0)] 58, bx b17 [.int .i64 x1.vars, v15] 58]) s357.length ?_ ?_
    ·
     exact ⟨0, s357, s357, v359, ⟨Nat.zero_le _, rfl⟩, rfl, hR, F.sub (sc rfl (sc rfl (sc rfl (sc rfl (sc rfl (sc rfl (sc rfl (sc rfl (sc rfl (sc rfl (sc rfl (sc rfl sn)))))))))))), (H.s [1, 2, 3] rfl rfl)⟩
    intro g457 a w ⟨k454, rest455, s446, v448, hd458, hg459, hR, F, H⟩
    cases rest455 with
    | nil =>
     replace hR := qS hR
     have hkk454 := qR hd458.1 hd458.2
     have hlk454 := vW hkk454
     refine xC (xH (oR F rfl rfl rfl fun a F => xF (xG (xC (vV F rfl hlk454 (qK (qQ (qQ (zT ?_)))))))))
     refine xG ?_
     exact ⟨s446, v448, (Option.some.inj hR).symm, F.sub (sc rfl (sc rfl (sc rfl (sc rfl (sc rfl (sc rfl (sc rfl sn))))))), H⟩
    | cons x456 rest455 =>
     subst hg459
     replace hd458 := qD hd458.2
     have hxk454 := qG hd458.2.1
     obtain ⟨ck454, hR, hn443⟩ := qC hR
     rw [hf445] at hR
     have hlk454 := vA hd458.1
     refine xC (xH (oR F rfl rfl rfl fun a F => xF (xG (xC (vZ F rfl hlk454 (xO (xG (xC ?_))))))))
     have ikk454 := k64 (Nat.le_of_lt hd458.1) i417
     have ink454 := zW hd458.1 i417
     refine oU (xC (xH (xB F rfl rfl (fun a F => ?_))))
     obtain ⟨z460, c461, hR⟩ := xI hR
     refine oI underlying42 sizeOf2 F rfl rfl rfl (H.l 0 rfl) c461 fun a p462 h463 F => olI isAgg2 F rfl rfl (Sm.refl _ _) h463 fun a i464 F => xA F rfl rfl fun a F => xA F rfl rfl fun a F => xF (xG (xC (xH (xB F rfl rfl fun a F => xB F rfl rfl fun a F => o_eql F rfl rfl rfl (fun a F => ?_)))))
     refine xF (xG (vC F rfl (fun hb465 => ?_) (fun hb465 => ?_)))
     ·
      replace hR := zD hb465 hR
      refine xH (xB F rfl rfl fun a F => xB F rfl rfl fun a F => xB F rfl rfl fun a F => oRl underlying42 sizeOf2 F rfl rfl rfl H 0 rfl c461 (fun a p466 h467 rp468 F => ?_))
      have H := H.lw
      refine oS sizeOf2 F rfl rfl rfl H rp468 (ix_lt c461) (Eo.int (min64 i394 i404)) rfl rfl (fun w H => ?_)
      have H := H.tl
      refine xF (zN (xG (xH (vM F rfl rfl rfl ink454 fun a F => xB F rfl rfl fun a F => xF (xG ?_)))))
      replace hR := zH hR hn443
      exact ⟨_, Nat.lt_succ_self _, k454 + 1, rest455, (s446.set ((k454 : Int)).toNat (if z400 < z390 then z400 else z390)), v448, ⟨hd458.1, hd458.2.2⟩, rfl, hR, F.sub (sc rfl (sc rfl (sc rfl (sc rfl (sc rfl (sc rfl (sc rfl (sc rfl (sc rfl (sc rfl (sc rfl (sc rfl sn)))))))))))), H⟩
     replace hR := zE hb465 hR
     refine xO (zN (xG (xH (vM F rfl rfl rfl ink454 fun a F => xB F rfl rfl fun a F => xF (xG ?_)))))
     replace hR := zH hR hn443
     exact ⟨_, Nat.lt_succ_self _, k454 + 1, rest455, s446, v448, ⟨hd458.1, hd458.2.2⟩, rfl, hR, F.sub (sc rfl (sc rfl (sc rfl (sc rfl (sc rfl (sc rfl (sc rfl (sc rfl (sc rfl (sc rfl (sc rfl (sc rfl sn)))))))))))), H⟩
   intro a w ⟨s450, v452, ho442, F, H⟩
   subst ho442
   have hR := xZ hk441
   refine zN (xG (xH (vM F rfl rfl rfl ink363 fun a F => xB F rfl rfl fun a F => xF (xG ?_))))
   replace hR := zH hR hn354
   exact ⟨_, Nat.lt_succ_self _, k363 + 1, rest364, s450, v452, ⟨hd367.1, hd367.2.2⟩, rfl, hR, F.sub (sc rfl (sc rfl (sc rfl (sc rfl (sc rfl (sc rfl (sc rfl sn))))))), (th375.1 H (Ns.all ⟨n0, ⟨n0, ⟨n0, trivial⟩⟩⟩))⟩
 intro a w ⟨s360, v362, ho353, F, H⟩
 subst ho353
 have hR := xZ hk352
 refine xG (xC (xH (xB F rfl rfl (fun a F => ?_))))
 obtain ⟨z470, c471, hR⟩ := xI hR
 refine oG F rfl call130 rfl (impl_rising_c z470 c471 _ aA (H.l 1 rfl)) (fun a vv w ⟨v472, hv474, S⟩ F => ?_)
 subst vv
 have H := H.r1 S n0
 refine xA F rfl rfl fun a F => xF (xG (xC (xC (xH (xB F rfl rfl fun a F => oL underlying42 F rfl rfl (H.l 2 rfl) fun a i475 F => xB F rfl rfl fun a F => xF (xG ?_))))))
 obtain ⟨o500, hR, hk501⟩ := xS hR
 refine oQ (fun a w => ∃ (s510 : List Int) (v512 : Value), o500 = .nx s510 ∧ Sk a 176 [(3, .pointer (some ⟨b17, 0, none⟩)), (4, .pointer (some ⟨b18, 0, none⟩)), (7, v512), (8, v94), (19, v472)] ∧ Sep [] B w0 w [rl 1 xK 2 v472 z470, rl 2 xU 158 v94 s92, rl 1 xK 2 v512 s510, bx b18 [.int .i64 0, (.slice none 0 0)] 58, bx b17 [.int .i64 x1.vars, v15] 58]) ?_ ?_
 ·
  refine oU ?_
  obtain ⟨fl504, hf505, hR⟩ := qP hR
  refine qU (fun g a w => ∃ (k514 : Nat) (rest515 : List Int) (s506 : List Int) (v508 : Value), (k514 ≤ s360.length ∧ s360.drop k514 = rest515) ∧ rest515.length = g ∧ qT fl504 rest515 k514 s506 = some o500 ∧ Sk a 176 [(123, .int .i64 (k514 : Int)), (3, .pointer (some ⟨b17, 0, none⟩)), (4, .pointer (some ⟨b18, 0, none⟩)), (7, v508), (8, v94), (19, v472), (121, v508), (122, .int .i64 (s360.length : Int))] ∧ Sep [] B w0 w [rl 1 xK 2 v472 z470, rl 2 xU 158 v94 s92, rl 1 xK 2 v508 s506, bx b18 [.int .i64 0, (.slice none 0 0)] 58, bx b17 [.int .i64 x1.vars, v15] 58]) s360.length ?_ ?_
  ·
   exact ⟨0, s360, s360, v362, ⟨Nat.zero_le _, rfl⟩, rfl, hR, F.sub (sc rfl (sc rfl (sc rfl (sc rfl (sc rfl (sc rfl (sc rfl (sc rfl sn)))))))), H⟩
  intro g517 a w ⟨k514, rest515, s506, v508, hd518, hg519, hR, F, H⟩
  cases rest515 with
  | nil =>
   replace hR := qS hR
   have hkk514 := qR hd518.1 hd518.2
   have hlk514 := vW hkk514
   refine xC (xH (oR F rfl rfl rfl fun a F => xF (xG (xC (vV F rfl hlk514 (qK (qQ (qQ (zT ?_)))))))))
   refine xG ?_
   exact ⟨s506, v508, (Option.some.inj hR).symm, F.sub (sc rfl (sc rfl (sc rfl (sc rfl (sc rfl sn))))), H⟩
  | cons x516 rest515 =>
   subst hg519
   replace hd518 := qD hd518.2
   have hxk514 := qG hd518.2.1
   obtain ⟨ck514, hR, hn503⟩ := qC hR
   rw [hf505] at hR
   have hlk514 := vA hd518.1
   refine xC (xH (oR F rfl rfl rfl fun a F => xF (xG (xC (vZ F rfl hlk514 (xO (xG (xC ?_))))))))
   have ikk514 := k64 (Nat.le_of_lt hd518.1) i475
   have ink514 := zW hd518.1 i475
   refine oU (xC (xH (xB F rfl rfl (fun a F => ?_))))
   obtain ⟨z520, c521, hR⟩ := xI hR
   refine oI underlying42 sizeOf2 F rfl rfl rfl (H.l 2 rfl) c521 fun a p522 h523 F => olI isAgg2 F rfl rfl (Sm.refl _ _) h523 fun a i524 F => xA F rfl rfl fun a F => xA F rfl rfl fun a F => xF (xG (xH (xB F rfl rfl fun a F => xB F rfl rfl fun a F => xB F rfl rfl fun a F => xB F rfl rfl (fun a F => ?_))))
   obtain ⟨z525, c526, hR⟩ := xI hR
   refine oKI F rfl call131 rfl H (slices_Index_s_int64_int64_c z525 c526 _ aA (H.l 0 rfl) i524) fun a w H iz525 F => oRl underlying42 sizeOf2 F rfl rfl rfl H 2 rfl c521 (fun a p527 h528 rp529 F => ?_)
   have H := (H.s [2, 0, 1, 3, 4] rfl rfl).lw
   refine oS sizeOf2 F rfl rfl rfl H rp529 (ix_lt c521) (Eo.int iz525) rfl rfl (fun w H => ?_)
   have H := H.tl
   refine xF (zN (xG (xH (vM F rfl rfl rfl ink514 fun a F => xB F rfl rfl fun a F => xF (xG ?_)))))
   replace hR := zH hR hn503
   exact ⟨_, Nat.lt_succ_self _, k514 + 1, rest515, (s506.set ((k514 : Int)).toNat z525), v508, ⟨hd518.1, hd518.2.2⟩, rfl, hR, F.sub (sc rfl (sc rfl (sc rfl (sc rfl (sc rfl (sc rfl (sc rfl (sc rfl sn)))))))), (H.s [1, 2, 0, 3, 4] rfl rfl)⟩
 intro a w ⟨s510, v512, ho502, F, H⟩
 subst ho502
 have hR := xZ hk501
 refine xG (xC (xH (xB F rfl rfl fun a F => oL underlying42 F rfl rfl (H.l 0 rfl) fun a i531 F => o_build underlying58 zeroValue58 (fun w => by simp [sizeOf2, sizeOf56]; rfl) F rfl rfl rfl rfl rfl (oc rfl on) rfl rfl fun a F => oA zeroValue58 F rfl rfl H fun a w b532 H F => oWA (vs := [.int .i64 (z470.length : Int), (.slice none 0 0)]) sizeOf58 F rfl rfl rfl H (oc rfl (oc rfl on)) rfl rfl fun w H => xF (xG (xC ?_)))))
 refine xC (xH (xB F rfl rfl fun a F => oL underlying93 F rfl rfl (H.l 2 rfl) fun a i533 F => xB F rfl rfl fun a F => xF (xG ?_)))
 obtain ⟨o669, hR, hk670⟩ := xS hR
 refine oQ (fun a w => ∃ (s678 : List Con) (v680 : Value), o669 = .nx s678 ∧ Sk a 176 [(3, .pointer (some ⟨b17, 0, none⟩)), (4, .pointer (some ⟨b18, 0, none⟩)), (7, v512), (22, .pointer (some ⟨b532, 0, none⟩))] ∧ Sep [] B w0 w [rl 2 oZ 165 v680 s678, bx b532 [.int .i64 (z470.length : Int), v680] 58, rl 1 xK 2 v512 s510, bx b18 [.int .i64 0, (.slice none 0 0)] 58, bx b17 [.int .i64 x1.vars, v15] 58]) ?_ ?_
 ·
  refine oU ?_
  obtain ⟨fl673, hf674, hR⟩ := qP hR
  refine qU (fun g a w => ∃ (k681 : Nat) (rest682 : List Atom) (s675 : List Con) (v677 : Value), (k681 ≤ s92.length ∧ s92.drop k681 = rest682) ∧ rest682.length = g ∧ qT fl673 rest682 k681 s675 = some o669 ∧ Sk a 176 [(140, .int .i64 (k681 : Int)), (3, .pointer (some ⟨b17, 0, none⟩)), (4, .pointer (some ⟨b18, 0, none⟩)), (7, v512), (22, .pointer (some ⟨b532, 0, none⟩)), (138, v94), (139, .int .i64 (s92.length : Int))] ∧ Sep [] B w0 w [rl 2 oZ 165 v677 s675, bx b532 [.int .i64 (z470.length : Int), v677] 58, rl 2 xU 158 v94 s92, rl 1 xK 2 v512 s510, bx b18 [.int .i64 0, (.slice none 0 0)] 58, bx b17 [.int .i64 x1.vars, v15] 58]) s92.length ?_ ?_
  ·
   exact ⟨0, s92, [], (.slice none 0 0), ⟨Nat.zero_le _, rfl⟩, rfl, hR, F.sub (sc rfl (sc rfl (sc rfl (sc rfl (sc rfl (sc rfl (sc rfl sn))))))), ((H.nl 2 oZ 165).s [0, 1, 3, 4, 5, 6] rfl rfl)⟩
  intro g684 a w ⟨k681, rest682, s675, v677, hd685, hg686, hR, F, H⟩
  cases rest682 with
  | nil =>
   replace hR := qS hR
   have hkk681 := qR hd685.1 hd685.2
   have hlk681 := vW hkk681
   refine xC (xH (oR F rfl rfl rfl fun a F => xF (xG (xC (vV F rfl hlk681 (qK (qQ (qQ (zT ?_)))))))))
   refine xG ?_
   exact ⟨s675, v677, (Option.some.inj hR).symm, F.sub (sc rfl (sc rfl (sc rfl (sc rfl sn)))), (H.s [0, 1, 3, 4, 5] rfl rfl)⟩
  | cons x683 rest682 =>
   subst hg686
   replace hd685 := qD hd685.2
   have hxk681 := qG hd685.2.1
   obtain ⟨ck681, hR, hn672⟩ := qC hR
   rw [hf674] at hR
   have hlk681 := vA hd685.1
   refine xC (xH (oR F rfl rfl rfl fun a F => xF (xG (xC (vZ F rfl hlk681 (xO (xG (xC ?_))))))))
   have ikk681 := k64 (Nat.le_of_lt hd685.1) i533
   have ink681 := zW hd685.1 i533
   refine oU (xC (xH ?_))
   obtain ⟨w694, rfl⟩ : ∃ x, x = w := ⟨_, rfl⟩
   obtain ⟨X689, N690, g691, e692, H, th693⟩ := (H.s [2, 0, 1, 3, 4, 5] rfl rfl).fz
   have h695 := g691.ld
   refine oI underlying93 sizeOf158 F rfl rfl rfl h695 hxk681 fun a p687 h688 F => olA isAgg158 sizeOf158 F rfl rfl H.sm h688 fun a v696 h697 F => oA zeroValue158 F rfl rfl H (fun a w b698 H F => ?_)
   obtain ⟨v700, rfl, i699, h701⟩ := xU.o h697
   refine oWA (vs := [.int .i64 x683.rel, v700]) sizeOf158 F rfl rfl rfl H (oc rfl (oc (H.a h701).one on)) rfl rfl fun w H => xF (xG (xC (xH (oM fa158_0 F rfl rfl rfl fun a F => oB isAgg2 F rfl rfl (H.b 0 rfl) rfl fun a F => o_neq F rfl rfl rfl fun a F => xF (xG (vC F rfl (fun hb702 => ?_) (fun hb702 => ?_)))))))
   ·
    replace hR := zD hb702 hR
    obtain ⟨z703, c704, hR⟩ := xI hR
    obtain ⟨z711, c712, hR⟩ := xI hR
    obtain ⟨w727, rfl⟩ : ∃ x, x = w := ⟨_, rfl⟩
    obtain ⟨X722, N723, g724, e725, H, th726⟩ := H.fz
    have K728 := g724.bk
    refine xD H (by kernel_rfl) fun w H => dp (fun G => ∀ (v748 : Value) (a : Act) (w : World), Sk a 176 [(3, .pointer (some ⟨b17, 0, none⟩)), (4, .pointer (some ⟨b18, 0, none⟩)), (7, v512), (22, .pointer (some ⟨b532, 0, none⟩)), (138, v94), (139, .int .i64 (s92.length : Int)), (140, .int .i64 (k681 : Int)), (148, v677), (156, v748)] → Sep X722 N723 w727 w [rl 2 oZ 165 v748 ([(Con.mk x683.rel z703)]), rl 2 oZ 165 v677 s675, bx b532 [.int .i64 (z470.length : Int), v677] 58, rl 1 xK 2 v512 s510, bx b18 [.int .i64 0, (.slice none 0 0)] 58, bx b17 [.int .i64 x1.vars, v15] 58] → ∀ ls, ls = #[true, true, true, true, true, true, true, true, true, true, false, false, false] → G 3 ls a w) ?_ (fun H749 => ?_)
    ·
     intro v748 a w F H ls hls
     subst hls
     refine xE H 10 rfl (by kernel_rfl) (oPL (sz := 2) (R := oZ) (z := (.agg #[.int .i64 0, (.slice none 0 0)])) (bytes := 32) underlying56 (by kernel_rfl) rfl rfl F rfl rfl rfl (H.s [1, 0, 2, 3, 4, 5] rfl rfl) c712 fun a w v750 H F => xF (xG (⟨⟨_, H⟩, ?_⟩)))
     refine b_q 11 (by kernel_rfl) rfl (by kernel_rfl) (by kernel_rfl) (by kernel_rfl) (by kernel_rfl) (qO F rfl (fun w l => zJ fa58_1 F rfl rfl) fun a F => xE H 12 rfl (by kernel_rfl) (oW sizeOf56 F rfl rfl rfl (H.s [1, 0, 2, 3, 4] rfl rfl) ((H.s [1, 0, 2, 3, 4] rfl rfl).l 1 rfl).one rfl rfl fun w H => xF (xG (⟨⟨_, H⟩, ?_⟩))))
     refine b_end (by kernel_rfl) (zN (xG (xH (vM F rfl rfl rfl ink681 fun a F => xB F rfl rfl fun a F => xF (xG ?_)))))
     replace hR := zH hR hn672
     exact ⟨_, Nat.lt_succ_self _, k681 + 1, rest682, z711, v750, ⟨hd685.1, hd685.2.2⟩, rfl, hR, F.sub (sc rfl (sc rfl (sc rfl (sc rfl (sc rfl (sc rfl (sc rfl sn))))))), ((th693.1 (th726.1 H (Ns.all ⟨n0, ⟨n0, ⟨n0, ⟨n0, ⟨n0, trivial⟩⟩⟩⟩⟩)) (Ns.all ⟨n0, ⟨n0, ⟨n0, ⟨n0, ⟨n0, ⟨n0, trivial⟩⟩⟩⟩⟩⟩)).s [3, 2, 0, 4, 5, 6] rfl rfl)⟩
    refine dp (fun G => ∀ (v742 : Value) (a : Act) (w : World), Sk a 176 [(3, .pointer (some ⟨b17, 0, none⟩)), (4, .pointer (some ⟨b18, 0, none⟩)), (7, v512), (22, .pointer (some ⟨b532, 0, none⟩)), (138, v94), (139, .int .i64 (s92.length : Int)), (140, .int .i64 (k681 : Int)), (148, v677), (155, (.agg #[.int .i64 x683.rel, v742]))] → Sep X722 N723 w727 w [rl 1 xK 2 v742 z703, rl 2 oZ 165 v677 s675, bx b532 [.int .i64 (z470.length : Int), v677] 58, rl 1 xK 2 v512 s510, bx b18 [.int .i64 0, (.slice none 0 0)] 58, bx b17 [.int .i64 x1.vars, v15] 58] → ∀ ls, ls = #[true, true, true, true, true, true, true, true, true, false, false, false, false] → G 4 ls a w) ?_ (fun H743 => ?_)
    ·
     intro v742 a w F H ls hls
     subst hls
     refine xE H 9 rfl (by kernel_rfl) ?_
     have H := (oZ.w i699 H)
     refine oR1L (R := oZ) (y := (Con.mk x683.rel z703)) underlying56 sizeOf165 zeroValue165 rfl rfl F rfl rfl H El.agg fun a w v744 H F => xF (xG (⟨⟨_, H⟩, ?_⟩))
     exact H749 v744 _ _ (F.sub (sc rfl (sc rfl (sc rfl (sc rfl (sc rfl (sc rfl (sc rfl (sc rfl (sc rfl sn)))))))))) H _ (by kernel_rfl)
    refine dp (fun G => ∀ (v739 : Value) (a : Act) (w : World), Sk a 176 [(3, .pointer (some ⟨b17, 0, none⟩)), (4, .pointer (some ⟨b18, 0, none⟩)), (7, v512), (22, .pointer (some ⟨b532, 0, none⟩)), (138, v94), (139, .int .i64 (s92.length : Int)), (140, .int .i64 (k681 : Int)), (148, v677), (150, .int .i64 x683.rel), (154, v739)] → Sep X722 N723 w727 w [rl 1 xK 2 v739 z703, rl 2 oZ 165 v677 s675, bx b532 [.int .i64 (z470.length : Int), v677] 58, rl 1 xK 2 v512 s510, bx b18 [.int .i64 0, (.slice none 0 0)] 58, bx b17 [.int .i64 x1.vars, v15] 58] → ∀ ls, ls = #[true, true, true, true, true, true, true, true, false, false, false, false, false] → G 5 ls a w) ?_ (fun H740 => ?_)
    ·
     intro v739 a w F H ls hls
     subst hls
     refine xE H 8 rfl (by kernel_rfl) (o_build underlying165 zeroValue165 (fun w => by simp [sizeOf2, sizeOf42]; rfl) F rfl rfl rfl rfl rfl (oc rfl (oc (H.l 0 rfl).one on)) rfl rfl fun a F => xF (xG (⟨⟨_, H⟩, ?_⟩)))
     exact H743 v739 _ _ (F.sub (sc rfl (sc rfl (sc rfl (sc rfl (sc rfl (sc rfl (sc rfl (sc rfl (sc rfl sn)))))))))) H _ (by kernel_rfl)
    refine b_q 0 (by kernel_rfl) rfl (by kernel_rfl) (by kernel_rfl) (by kernel_rfl) (by kernel_rfl) (qO F rfl (fun w l => zJ fa58_1 F rfl rfl) fun a F => b_q 2 (by kernel_rfl) rfl (by kernel_rfl) (by kernel_rfl) (by kernel_rfl) (by kernel_rfl) (qO F rfl (fun w l => zJ fa158_0 F rfl rfl) fun a F => b_q 3 (by kernel_rfl) rfl (by kernel_rfl) (by kernel_rfl) (by kernel_rfl) (by kernel_rfl) (vB isAgg2 F rfl rfl (K728.v H.sm) rfl fun a F => zZ 4 rfl (by kernel_rfl) (by kernel_rfl) (by kernel_rfl) (qO F rfl (fun w l => xP F rfl) fun a F => b_q 5 (by kernel_rfl) rfl (by kernel_rfl) (by kernel_rfl) (by kernel_rfl) (by kernel_rfl) (qO F rfl (fun w l => zJ fa158_1 F rfl rfl) fun a F => b_q 6 (by kernel_rfl) rfl (by kernel_rfl) (by kernel_rfl) (by kernel_rfl) (by kernel_rfl) ?_)))))
    refine vB isAgg42 F rfl rfl (K728.v H.sm) rfl fun a F => b_es [1, 7] (by kernel_rfl) (by simp) ⟨⟨_, rfl, ?_⟩, ⟨_, rfl, ?_⟩, trivial⟩
    ·
     refine xEs H (oB isAgg56 F rfl rfl (H.b 1 rfl) rfl fun a F => xF (xG (⟨⟨_, H⟩, ?_⟩)))
     refine xE H 7 rfl (by kernel_rfl) (oG F rfl call77 rfl (impl_chosen_c z703 c704 _ aA (H.l 2 rfl) (H.a (e725 h701))) (fun a vv w ⟨v729, hv731, S⟩ F => ?_))
     subst vv
     have H := H.r1 S n0
     refine xF (xG (⟨⟨_, H⟩, ?_⟩))
     exact H740 v729 _ _ (F.sub (sc rfl (sc rfl (sc rfl (sc rfl (sc rfl (sc rfl (sc rfl (sc rfl (sc rfl (sc rfl sn))))))))))) H _ (by kernel_rfl)
    refine xEs H (oG F rfl call77 rfl (impl_chosen_c z703 c704 _ aA (H.l 2 rfl) (H.a (e725 h701))) (fun a vv w ⟨v732, hv734, S⟩ F => ?_))
    subst vv
    have H := H.r1 S n0
    refine xF (xG (⟨⟨_, H⟩, ?_⟩))
    refine b_es [1, 8] (by kernel_rfl) (by simp) ⟨⟨_, rfl, ?_⟩, ⟨_, rfl, ?_⟩, trivial⟩
    ·
     refine xEs H (oB isAgg56 F rfl rfl (H.b 2 rfl) rfl fun a F => xF (xG (⟨⟨_, H⟩, ?_⟩)))
     exact H740 v732 _ _ (F.sub (sc rfl (sc rfl (sc rfl (sc rfl (sc rfl (sc rfl (sc rfl (sc rfl (sc rfl (sc rfl sn))))))))))) H _ (by kernel_rfl)
    refine xEs H (o_build underlying165 zeroValue165 (fun w => by simp [sizeOf2, sizeOf42]; rfl) F rfl rfl rfl rfl rfl (oc rfl (oc (H.l 0 rfl).one on)) rfl rfl fun a F => xF (xG (⟨⟨_, H⟩, ?_⟩)))
    refine b_es [1, 9] (by kernel_rfl) (by simp) ⟨⟨_, rfl, ?_⟩, ⟨_, rfl, ?_⟩, trivial⟩
    ·
     refine xEs H (oB isAgg56 F rfl rfl (H.b 2 rfl) rfl fun a F => xF (xG (⟨⟨_, H⟩, ?_⟩)))
     exact H743 v732 _ _ (F.sub (sc rfl (sc rfl (sc rfl (sc rfl (sc rfl (sc rfl (sc rfl (sc rfl (sc rfl sn)))))))))) H _ (by kernel_rfl)
    refine xEs H ?_
    have H := (oZ.w i699 H)
    refine oR1L (R := oZ) (y := (Con.mk x683.rel z703)) underlying56 sizeOf165 zeroValue165 rfl rfl F rfl rfl H El.agg fun a w v735 H F => xF (xG (⟨⟨_, H⟩, ?_⟩))
    refine xE H 1 rfl (by kernel_rfl) (oB isAgg56 F rfl rfl (H.b 2 rfl) rfl fun a F => xF (xG (⟨⟨_, H⟩, ?_⟩)))
    exact H749 v735 _ _ (F.sub (sc rfl (sc rfl (sc rfl (sc rfl (sc rfl (sc rfl (sc rfl (sc rfl (sc rfl sn)))))))))) H _ (by kernel_rfl)
   replace hR := zE hb702 hR
   refine xO (zN (xG (xH (vM F rfl rfl rfl ink681 fun a F => xB F rfl rfl fun a F => xF (xG ?_)))))
   replace hR := zH hR hn672
   exact ⟨_, Nat.lt_succ_self _, k681 + 1, rest682, s675, v677, ⟨hd685.1, hd685.2.2⟩, rfl, hR, F.sub (sc rfl (sc rfl (sc rfl (sc rfl (sc rfl (sc rfl (sc rfl sn))))))), ((th693.1 (H.s [1, 2, 3, 4, 5] rfl rfl) (Ns.all ⟨n0, ⟨n0, ⟨n0, ⟨n0, ⟨n0, trivial⟩⟩⟩⟩⟩)).s [1, 2, 0, 3, 4, 5] rfl rfl)⟩
 intro a w ⟨s678, v680, ho671, F, H⟩
 subst ho671
 have hR := xZ hk670
 refine xG (xC (xC ?_))
 obtain ⟨o755, hR, hk756⟩ := xS hR
 refine oQ (fun a w => ∃ (s758 : Bool), o755 = .nx s758 ∧ Sk a 176 [(3, .pointer (some ⟨b17, 0, none⟩)), (4, .pointer (some ⟨b18, 0, none⟩)), (7, v512), (22, .pointer (some ⟨b532, 0, none⟩)), (168, .bool s758)] ∧ Sep [] B w0 w [rl 2 oZ 165 v680 s678, bx b532 [.int .i64 (z470.length : Int), v680] 58, rl 1 xK 2 v512 s510, bx b18 [.int .i64 0, (.slice none 0 0)] 58, bx b17 [.int .i64 x1.vars, v15] 58]) ?_ ?_
 ·
  refine xH (oM fa58_0 F rfl rfl rfl fun a F => oB isAgg2 F rfl rfl (H.b 1 rfl) rfl fun a F => o_gtr F rfl rfl rfl fun a F => xB F rfl rfl (fun a F => ?_))
  rcases vD (decide (10 < (z470.length : Int))) with hb759 | hb759
  ·
   replace hR := zD hb759 hR
   have F := F.eq (t := 163) rfl (congrArg Value.bool hb759)
   refine oH F rfl rfl fun a F => oH F rfl rfl fun a F => oH F rfl rfl fun a F => oH F rfl rfl fun a F => vH F rfl rfl rfl fun a F => xF (xG ?_)
   exact ⟨true, (Option.some.inj hR).symm, F.sub (sc rfl (sc rfl (sc rfl (sc rfl (sc rfl sn))))), H⟩
  replace hR := zE hb759 hR
  have F := F.eq (t := 163) rfl (congrArg Value.bool hb759)
  refine oM fa58_1 F rfl rfl rfl fun a F => oB isAgg56 F rfl rfl (H.b 1 rfl) rfl fun a F => oL underlying56 F rfl rfl (H.l 0 rfl) fun a i760 F => o_gtr F rfl rfl rfl fun a F => qZ F rfl rfl rfl fun a F => xF (xG ?_)
  exact ⟨(decide (24 < (s678.length : Int))), (Option.some.inj hR).symm, F.sub (sc rfl (sc rfl (sc rfl (sc rfl (sc rfl sn))))), H⟩
 intro a w ⟨s758, ho757, F, H⟩
 subst ho757
 have hR := xZ hk756
 refine xG (vC F rfl (fun hb761 => ?_) (fun hb761 => ?_))
 ·
  replace hR := zD hb761 hR
  refine xC (xH (o_build underlying58 zeroValue58 (fun w => by simp [sizeOf2, sizeOf56]; rfl) F rfl rfl rfl rfl rfl on rfl rfl fun a F => oWA (vs := [.int .i64 0, (.slice none 0 0)]) sizeOf58 F rfl rfl rfl (H.s [3, 0, 1, 2, 4] rfl rfl) (oc rfl (oc rfl on)) rfl rfl fun w H => xA F rfl rfl fun a F => xA F rfl rfl fun a F => xF (xG (xW (oV (x_res3 F rfl (rv_cA (arr := #[.int .i64 0, (.slice none 0 0)]) F isAgg58 sizeOf58 rfl (H.b 0 rfl)) (oO F rfl) (oO F rfl) ?_))))))
  obtain rfl := Option.some.inj hR
  exact ⟨_, rfl, (.slice none 0 0), (.slice none 0 0), rfl, (((H.nl 2 oZ 165).nl 1 xK 2).s [1, 0] rfl rfl), (show xY 0 by decide), (show xY (3) by decide)⟩
 replace hR := zE hb761 hR
 refine xO (xG (xC ?_))
 obtain ⟨z764, c765, hR⟩ := xI hR
 obtain ⟨z768, c769, hR⟩ := xI hR
 obtain ⟨w778, rfl⟩ : ∃ x, x = w := ⟨_, rfl⟩
 obtain ⟨X773, N774, g775, e776, H, th777⟩ := (H.s [1, 4, 0, 2, 3] rfl rfl).mg.fz
 have K779 := g775.l.bk
 have K780 := g775.r.bk
 refine xD H (by kernel_rfl) fun w H => b_q 0 (by kernel_rfl) rfl (by kernel_rfl) (by kernel_rfl) (by kernel_rfl) (by kernel_rfl) (vBA isAgg58 sizeOf58 F rfl rfl (K779.v H.sm) rfl rfl fun a F => zZ 1 rfl (by kernel_rfl) (by kernel_rfl) (by kernel_rfl) (qO F rfl (fun w l => xP F rfl) fun a F => b_q 2 (by kernel_rfl) rfl (by kernel_rfl) (by kernel_rfl) (by kernel_rfl) (by kernel_rfl) (qO F rfl (fun w l => zJ fa58_0 F rfl rfl) fun a F => b_q 3 (by kernel_rfl) rfl (by kernel_rfl) (by kernel_rfl) (by kernel_rfl) (by kernel_rfl) (vB isAgg2 F rfl rfl (K780.v H.sm) rfl fun a F => xE H 4 rfl (by kernel_rfl) (oT underlying42 sizeOf2 F rfl rfl rfl (H.s [1, 0, 2] rfl rfl).lw c765 (fun a v781 H F => ?_))))))
 have H := H.tl
 refine xF (xG (⟨⟨_, H⟩, ?_⟩))
 refine xE H 5 rfl (by kernel_rfl) (oG F rfl call56 rfl (slices_Clone_s_int64_int64_c z768 c769 _ aA (H.l 0 rfl)) (fun a vv w ⟨v783, hv785, S⟩ F => ?_))
 subst vv
 have H := H.r1 S n0
 refine xF (xG (⟨⟨_, H⟩, ?_⟩))
 refine xE H 6 rfl (by kernel_rfl) (oWA (vs := [.int .i64 (z470.length : Int), v680]) sizeOf58 F rfl rfl rfl (H.s [3, 0, 1, 2] rfl rfl) (oc rfl (oc ((H.s [3, 0, 1, 2] rfl rfl).l 3 rfl).one on)) rfl rfl fun w H => xF (xG (⟨⟨_, H⟩, ?_⟩)))
 refine zZ 7 rfl (by kernel_rfl) (by kernel_rfl) (by kernel_rfl) (qO F rfl (fun w l => vO F rfl) fun a F => zZ 8 rfl (by kernel_rfl) (by kernel_rfl) (by kernel_rfl) (qO F rfl (fun w l => vO F rfl) fun a F => b_end (by kernel_rfl) (xG (xW ?_))))
 have H := (th777.1 H (Ns.all ⟨n0, ⟨n0, ⟨n0, ⟨n0, trivial⟩⟩⟩⟩)).um
 refine x_res3 F rfl (rv_cA (arr := #[.int .i64 (z470.length : Int), v680]) F isAgg58 sizeOf58 rfl (H.b 2 rfl)) (oO F rfl) (oO F rfl) ?_
 obtain rfl := Option.some.inj hR
 exact ⟨_, rfl, v680, v783, rfl, (H.s [5, 3] rfl rfl), i531, (show xY (0) by decide)⟩

end Go.Proofs.YtmgdjaiaekhkgaaGreat
