/-
  Functions of the program as plain functions, and that they compute them. Printed by sg.py.
-/
import Derived.Test.YtmgdjaiaekhkgaaGreatS6
import Derived.Test.YtmgdjaiaekhkgaaGreatDR
namespace Go.Proofs.YtmgdjaiaekhkgaaGreat
open Go.Proofs.Tryz
set_option maxHeartbeats 1000000
set_option linter.unusedVariables false
set_option linter.unusedSimpArgs false
set_option maxRecDepth 100000
open Go.RowKit
def kP (x0 : l05Find) (x1 : List Int) : Option Bool :=
 oJ (ck ((x1.length : Int) - 1)) fun z12 =>
 kJ (σ := Unit) (
  qT (σ := Unit) (ρ := Bool) (fun (k123 : Nat) (x125 : Con) (s : Unit) =>
    match s with
    | _ =>
    kJ (σ := Int) (
     qT (σ := Int) (ρ := (Ctl (Unit) Bool)) (fun (k179 : Nat) (x181 : Int) (s175 : Int) =>
      oJ (spec_l00Max s175 x181) fun z197 =>
      some (.go z197)) x125.scope 0 0) fun s177 =>
    kJ (σ := Bool) (
     if (s177 == z12) then  oJ (spec_l05Holds x0.t x125 x1) fun z220 =>
      some (.nx (!z220)) else  some (.nx false)) fun s214 =>
    if s214 then
     some (.ret false)
    else
     some (.go ())) x0.x.cons 0 ()) fun _ =>
 some true
theorem spec_l05Find_sure_c {B : Nat → Prop} {x0 : l05Find} {x1 : List Int} (r : Bool) (hR : kP x0 x1 = some r) {v0 : Value} {v1 : Value} (w0 : World) (hN : ∀ c, B c → c < w0.heap.size) (A0 : Bo B w0 (Pt 5 vG) v0 x0) (A1 : Bo B w0 (Sl 1 xK) v1 x1) : Calls Tryz.prog 165 #[v0, v1] w0 (vR (.bool r) w0) := by
 unfold kP at hR
 refine oD (L := [(0, v0), (1, v1)]) func165 rfl rfl rfl (sc rfl (sc rfl sn)) (fun a F => ?_)
 have H := Sep.start hN
 refine xC (xH (xA F rfl rfl fun a F => xF (xG (xC (xH (xB F rfl rfl fun a F => oL underlying42 F rfl rfl A1 (fun a i11 F => ?_)))))))
 obtain ⟨z12, c13, hR⟩ := xI hR
 refine o_sub F rfl rfl rfl c13 fun a F => xA F rfl rfl fun a F => xF (xG (xC (xC (xH (xA F rfl rfl fun a F => xF (xG ?_))))))
 obtain ⟨o117, hR, hk118⟩ := xS hR
 refine oQ (fun a w => o117 = .nx () ∧ Sk a 65 [] ∧ Sep [] B w0 w []) ?_ ?_
 ·
  refine oU ?_
  obtain ⟨fl121, hf122, hR⟩ := qP hR
  refine qU (fun g a w => ∃ (k123 : Nat) (rest124 : List Con), (k123 ≤ x0.x.cons.length ∧ x0.x.cons.drop k123 = rest124) ∧ rest124.length = g ∧ qT fl121 rest124 k123 () = some o117 ∧ Sk a 65 [(6, .int .i64 (k123 : Int)), (0, v0), (1, v1), (5, .int .i64 z12)] ∧ Sep [] B w0 w []) x0.x.cons.length ?_ ?_
  ·
   exact ⟨0, x0.x.cons, ⟨Nat.zero_le _, rfl⟩, rfl, hR, F.sub (sc rfl (sc rfl (sc rfl (sc rfl sn)))), H⟩
  intro g126 a w ⟨k123, rest124, hd127, hg128, hR, F, H⟩
  cases rest124 with
  | nil =>
   replace hR := qS hR
   have hkk123 := qR hd127.1 hd127.2
   have hlk123 := vW hkk123
   refine xC (xC (xH (xB F rfl rfl fun a F => xB F rfl rfl fun a F => oN F rfl rfl A0 fun a F => oF (s' := 1) fa207_1 F rfl rfl A0 vG.f1 fun a p223 h224 F => olP isAgg103 F rfl rfl H.sm h224 fun a v225 h226 F => oN F rfl rfl h226 fun a F => oF (s' := 1) fa58_1 F rfl rfl h226 xM.f1 fun a p227 h228 F => olS isAgg56 F rfl rfl H.sm h228 (fun a v229 h230 F => ?_))))
   refine oL underlying56 F rfl rfl h230 fun a i231 F => oR F rfl rfl rfl fun a F => xF (xG (vV F rfl hlk123 (qK (qQ (qQ (zT (xG ?_)))))))
   exact ⟨(Option.some.inj hR).symm, F.sub sn, H⟩
  | cons x125 rest124 =>
   subst hg128
   replace hd127 := qD hd127.2
   have hxk123 := qG hd127.2.1
   obtain ⟨ck123, hR, hn120⟩ := qC hR
   rw [hf122] at hR
   have hlk123 := vA hd127.1
   refine xC (xC (xH (xB F rfl rfl fun a F => xB F rfl rfl fun a F => oN F rfl rfl A0 fun a F => oF (s' := 1) fa207_1 F rfl rfl A0 vG.f1 fun a p129 h130 F => olP isAgg103 F rfl rfl H.sm h130 fun a v131 h132 F => oN F rfl rfl h132 fun a F => oF (s' := 1) fa58_1 F rfl rfl h132 xM.f1 fun a p133 h134 F => olS isAgg56 F rfl rfl H.sm h134 (fun a v135 h136 F => ?_))))
   refine oL underlying56 F rfl rfl h136 fun a i137 F => oR F rfl rfl rfl fun a F => xF (xG (vZ F rfl hlk123 (xO (xG (xC ?_)))))
   have ikk123 := k64 (Nat.le_of_lt hd127.1) i137
   have ink123 := zW hd127.1 i137
   refine oU (xC (xH (xB F rfl rfl fun a F => oN F rfl rfl A0 fun a F => oF (s' := 1) fa207_1 F rfl rfl A0 vG.f1 fun a p138 h139 F => olP isAgg103 F rfl rfl H.sm h139 fun a v140 h141 F => oN F rfl rfl h141 fun a F => oF (s' := 1) fa58_1 F rfl rfl h141 xM.f1 fun a p142 h143 F => olS isAgg56 F rfl rfl H.sm h143 fun a v144 h145 F => xB F rfl rfl (fun a F => ?_))))
   refine oI underlying56 sizeOf165 F rfl rfl rfl h145 hxk123 fun a p146 h147 F => xA F rfl rfl fun a F => xF (xG (xC (xH (xA F rfl rfl fun a F => xF (xG (xC (xC ?_)))))))
   refine xH (xA F rfl rfl fun a F => xF (xG ?_))
   obtain ⟨o169, hR, hk170⟩ := xS hR
   refine oQ (fun a w => ∃ (s177 : Int), o169 = .nx s177 ∧ Sk a 65 [(0, v0), (1, v1), (5, .int .i64 z12), (6, .int .i64 (k123 : Int)), (7, p146), (8, .int .i64 s177)] ∧ Sep [] B w0 w [] ∧ xY s177) ?_ ?_
   ·
    refine oU ?_
    obtain ⟨fl173, hf174, hR⟩ := qP hR
    refine qU (fun g a w => ∃ (k179 : Nat) (rest180 : List Int) (s175 : Int), (k179 ≤ x125.scope.length ∧ x125.scope.drop k179 = rest180) ∧ rest180.length = g ∧ qT fl173 rest180 k179 s175 = some o169 ∧ Sk a 65 [(9, .int .i64 (k179 : Int)), (0, v0), (1, v1), (5, .int .i64 z12), (6, .int .i64 (k123 : Int)), (7, p146), (8, .int .i64 s175)] ∧ Sep [] B w0 w [] ∧ xY s175) x125.scope.length ?_ ?_
    ·
     exact ⟨0, x125.scope, 0, ⟨Nat.zero_le _, rfl⟩, rfl, hR, F.sub (sc rfl (sc rfl (sc rfl (sc rfl (sc rfl (sc rfl (sc rfl sn))))))), H, (show xY (0) by decide)⟩
    intro g182 a w ⟨k179, rest180, s175, hd183, hg184, hR, F, H, i176⟩
    cases rest180 with
    | nil =>
     replace hR := qS hR
     have hkk179 := qR hd183.1 hd183.2
     have hlk179 := vW hkk179
     refine xC (xC (xH (xB F rfl rfl fun a F => xB F rfl rfl fun a F => oN F rfl rfl h147 fun a F => oF (s' := 1) fa165_1 F rfl rfl h147 oZ.f1 fun a p199 h200 F => olS isAgg42 F rfl rfl H.sm h200 fun a v201 h202 F => oL underlying42 F rfl rfl h202 fun a i203 F => oR F rfl rfl rfl fun a F => xF ?_)))
     refine xG (vV F rfl hlk179 (qK (qQ (qQ (zT (xG ?_))))))
     exact ⟨s175, (Option.some.inj hR).symm, F.sub (sc rfl (sc rfl (sc rfl (sc rfl (sc rfl (sc rfl sn)))))), H, i176⟩
    | cons x181 rest180 =>
     subst hg184
     replace hd183 := qD hd183.2
     have hxk179 := qG hd183.2.1
     obtain ⟨ck179, hR, hn172⟩ := qC hR
     rw [hf174] at hR
     have hlk179 := vA hd183.1
     refine xC (xC (xH (xB F rfl rfl fun a F => xB F rfl rfl fun a F => oN F rfl rfl h147 fun a F => oF (s' := 1) fa165_1 F rfl rfl h147 oZ.f1 fun a p185 h186 F => olS isAgg42 F rfl rfl H.sm h186 fun a v187 h188 F => oL underlying42 F rfl rfl h188 fun a i189 F => oR F rfl rfl rfl fun a F => xF ?_)))
     refine xG (vZ F rfl hlk179 (xO (xG (xC ?_))))
     have ikk179 := k64 (Nat.le_of_lt hd183.1) i189
     have ink179 := zW hd183.1 i189
     refine oU (xH (xB F rfl rfl fun a F => xB F rfl rfl fun a F => oN F rfl rfl h147 fun a F => oF (s' := 1) fa165_1 F rfl rfl h147 oZ.f1 fun a p190 h191 F => olS isAgg42 F rfl rfl H.sm h191 fun a v192 h193 F => xB F rfl rfl fun a F => oI underlying42 sizeOf2 F rfl rfl rfl h193 hxk179 fun a p194 h195 F => olI isAgg2 F rfl rfl H.sm h195 (fun a i196 F => ?_)))
     obtain ⟨z197, c198, hR⟩ := xI hR
     refine oKI F rfl call124 rfl H (spec_l00Max_c z197 c198 _ aA i176 i196) fun a w H iz197 F => xA F rfl rfl fun a F => xF (zN (xG (xH (xB F rfl rfl fun a F => vM F rfl rfl rfl ink179 fun a F => xA F rfl rfl fun a F => xF (xG ?_)))))
     replace hR := zH hR hn172
     exact ⟨_, Nat.lt_succ_self _, k179 + 1, rest180, z197, ⟨hd183.1, hd183.2.2⟩, rfl, hR, F.sub (sc rfl (sc rfl (sc rfl (sc rfl (sc rfl (sc rfl (sc rfl sn))))))), H, iz197⟩
   intro a w ⟨s177, ho171, F, H, i178⟩
   subst ho171
   have hR := xZ hk170
   refine xG (xC ?_)
   obtain ⟨o211, hR, hk212⟩ := xS hR
   refine oQ (fun a w => ∃ (s214 : Bool), o211 = .nx s214 ∧ Sk a 65 [(0, v0), (1, v1), (5, .int .i64 z12), (6, .int .i64 (k123 : Int)), (64, .bool s214)] ∧ Sep [] B w0 w []) ?_ ?_
   ·
    refine xH (xB F rfl rfl fun a F => xB F rfl rfl fun a F => o_eql F rfl rfl rfl fun a F => xB F rfl rfl (fun a F => ?_))
    rcases vD (s177 == z12) with hb215 | hb215
    ·
     replace hR := zD hb215 hR
     have F := F.eq (t := 55) rfl (congrArg Value.bool hb215)
     refine xB F rfl rfl fun a F => oN F rfl rfl A0 fun a F => oF (s' := 1) fa207_0 F rfl rfl A0 vG.f0 fun a p216 h217 F => olP isAgg74 F rfl rfl H.sm h217 fun a v218 h219 F => xB F rfl rfl fun a F => xB F rfl rfl (fun a F => ?_)
     obtain ⟨z220, c221, hR⟩ := xI hR
     refine oK F rfl call134 rfl H (spec_l05Holds_c z220 c221 _ aA (H.a h219) (H.a h147) (H.a A1)) fun a w H F => kE F rfl rfl fun a F => vH F rfl rfl rfl fun a F => xF (xG ?_)
     exact ⟨(!z220), (Option.some.inj hR).symm, F.sub (sc rfl (sc rfl (sc rfl (sc rfl (sc rfl sn))))), H⟩
    replace hR := zE hb215 hR
    have F := F.eq (t := 55) rfl (congrArg Value.bool hb215)
    refine oH F rfl rfl fun a F => oH F rfl rfl fun a F => oH F rfl rfl fun a F => oH F rfl rfl fun a F => oH F rfl rfl fun a F => oH F rfl rfl fun a F => oH F rfl rfl fun a F => oH F rfl rfl fun a F => qZ F rfl rfl rfl fun a F => xF (xG ?_)
    exact ⟨false, (Option.some.inj hR).symm, F.sub (sc rfl (sc rfl (sc rfl (sc rfl (sc rfl sn))))), H⟩
   intro a w ⟨s214, ho213, F, H⟩
   subst ho213
   have hR := xZ hk212
   refine xG (vC F rfl (fun hb222 => ?_) (fun hb222 => ?_))
   ·
    replace hR := zD hb222 hR
    refine xC (xH (xA F rfl rfl fun a F => xF (xG (xW (kB (oV (oV ?_)))))))
    replace hR := l_ret hR hn120
    refine kB (oV ?_)
    replace hR := j_ret hR hk118
    refine oV (xR F rfl (oO F rfl) ?_)
    obtain rfl := Option.some.inj hR
    exact ⟨rfl, H.bl⟩
   replace hR := zE hb222 hR
   refine xO (zN (xG (xH (xB F rfl rfl fun a F => vM F rfl rfl rfl ink123 fun a F => xA F rfl rfl fun a F => xF (xG ?_)))))
   replace hR := zH hR hn120
   exact ⟨_, Nat.lt_succ_self _, k123 + 1, rest124, ⟨hd127.1, hd127.2.2⟩, rfl, hR, F.sub (sc rfl (sc rfl (sc rfl (sc rfl sn)))), H⟩
 intro a w ⟨ho119, F, H⟩
 subst ho119
 have hR := xZ hk118
 refine xG (xC (xH (xA F rfl rfl fun a F => xF (xG (xW (xR F rfl (oO F rfl) ?_))))))
 obtain rfl := Option.some.inj hR
 exact ⟨rfl, H.bl⟩

def zR : Nat → Template → Instance → (List Int) → (List Int) → Option ((List Int) × Bool)
  | 0, _, _, _, _ => none
  | N + 1, x0, x1, x2, x3 =>
  if ((x3.length : Int) == x1.vars) then
   some (x3, true)
  else
   kJ (σ := Unit) (
    kT (σ := Unit) (ρ := (List Int) × Bool) (fun (k80 : Nat) (s : Unit) =>
      match s with
      | _ =>
      kJ (σ := Bool) (
       oJ (ix x2 (x3.length : Int)) fun z102 =>
       if (decide (0 ≤ z102)) then  some (.nx (z102 != (k80 : Int))) else  some (.nx false)) fun s101 =>
      if s101 then
       some (.go ())
      else
       oJ (zO x3) fun z112 =>
       oJ (ap z112 ([(k80 : Int)])) fun z119 =>
       oJ (kP (l05Find.mk x0 x1 0 ([]) 0) z119) fun z123 =>
       if (!z123) then
        some (.go ())
       else
        oJ (zR N x0 x1 x2 z119) fun z133 =>
        if z133.2 then
         some (.ret (z133.1, true))
        else
         some (.go ())) x0.size.toNat 0 ()) fun _ =>
   some ([], false)
theorem spec_l09Fill_cA : ∀ (N : Nat) {B : Nat → Prop} {x0 : Template} {x1 : Instance} {x2 : List Int} {x3 : List Int} (r : (List Int) × Bool) (hR : zR N x0 x1 x2 x3 = some r) {v0 : Value} {v1 : Value} {v2 : Value} {v3 : Value} (w0 : World) (hN : ∀ c, B c → c < w0.heap.size) (A0 : Bo B w0 (Pt 2 xJ) v0 x0) (A1 : Bo B w0 (Pt 2 xM) v1 x1) (A2 : Bo B w0 (Sl 1 xK) v2 x2) (A3 : Bo B w0 (Sl 1 xK) v3 x3), Calls Tryz.prog 93 #[v0, v1, v2, v3] w0 (Gv (fun v w' => ∃ (v1' : Value), v = .tuple #[v1', .bool r.2] ∧ Sep [] B w0 w' [ro B (V := (Sl 1 xK)) v1' r.1])) := by
  intro N
  induction N with
  | zero => intro B x0 x1 x2 x3 r hR; unfold zR at hR; cases hR
  | succ N ih =>
  intro B x0 x1 x2 x3 r hR v0 v1 v2 v3 w0 hN A0 A1 A2 A3
  rw [zR] at hR
  refine oD (L := [(0, v0), (1, v1), (2, v2), (3, v3)]) func93 rfl rfl rfl (sc rfl (sc rfl (sc rfl (sc rfl sn)))) (fun a F => ?_)
  have H := Sep.start hN
  refine xC (xH (xA F rfl rfl fun a F => xA F rfl rfl fun a F => xF (xG (xC (xH (xB F rfl rfl fun a F => oL underlying42 F rfl rfl A3 fun a i11 F => xA F rfl rfl (fun a F => ?_)))))))
  refine xF (xG (xC (xC (xH (xB F rfl rfl fun a F => xB F rfl rfl fun a F => oN F rfl rfl A1 fun a F => oF (s' := 1) fa58_0 F rfl rfl A1 xM.f0 fun a p12 h13 F => olI isAgg2 F rfl rfl H.sm h13 fun a i14 F => o_eql F rfl rfl rfl (fun a F => ?_))))))
  refine xF (xG (vC F rfl (fun hb15 => ?_) (fun hb15 => ?_)))
  ·
   replace hR := zD hb15 hR
   refine xC (xH (xB F rfl rfl fun a F => xA F rfl rfl fun a F => xA F rfl rfl fun a F => xF (xG (xW (oV ?_)))))
   have H := H.rob A3
   refine kY F rfl (oO F rfl) (oO F rfl) ?_
   obtain rfl := Option.some.inj hR
   exact ⟨_, rfl, v3, rfl, H⟩
  replace hR := zE hb15 hR
  refine xO (xG (xC (xH (xB F rfl rfl fun a F => xB F rfl rfl fun a F => o_build underlying207 zeroValue207 (fun w => by simp [sizeOf103, sizeOf2, sizeOf3, sizeOf74, sizeOf82]; rfl) F rfl rfl rfl rfl rfl (oc (H.a A0).pone (oc (H.a A1).pone on)) rfl rfl fun a F => oX F rfl rfl rfl H fun a w b17 H F => xA F rfl rfl fun a F => xF (xG ?_)))))
  refine xC (xC (xH (xA F rfl rfl fun a F => xF (xG ?_))))
  obtain ⟨o74, hR, hk75⟩ := xS hR
  refine oQ (fun a w => o74 = .nx () ∧ Sk a 70 [] ∧ Sep [] B w0 w []) ?_ ?_
  ·
   refine oU ?_
   obtain ⟨fl78, hf79, hR⟩ := forI_gen hR
   refine qU (fun g a w => ∃ (k80 : Nat), k80 + g = x0.size.toNat ∧ kT fl78 g k80 () = some o74 ∧ Sk a 70 [(12, .int .i64 (k80 : Int)), (0, v0), (1, v1), (2, v2), (3, v3), (10, .int .i64 (x3.length : Int)), (11, .pointer (some ⟨b17, 0, none⟩))] ∧ Sep [] B w0 w [bx b17 [v0, v1, .int .i64 0, (.slice none 0 0), .int .i64 0] 207]) x0.size.toNat ?_ ?_
   ·
    exact ⟨0, (Nat.zero_add _), hR, F.sub (sc rfl (sc rfl (sc rfl (sc rfl (sc rfl (sc rfl (sc rfl sn))))))), H⟩
   intro g83 a w ⟨k80, hd84, hR, F, H⟩
   cases g83 with
   | zero =>
    replace hR := forI_zero hR
    have hlk80 := dec_noI hd84
    refine xC (xC (xH (xB F rfl rfl fun a F => xB F rfl rfl fun a F => oN F rfl rfl A0 fun a F => oF (s' := 1) fa33_0 F rfl rfl A0 xJ.f0 fun a p139 h140 F => olI isAgg2 F rfl rfl H.sm h140 fun a i141 F => oR F rfl rfl rfl fun a F => xF (xG ?_))))
    refine vV F rfl hlk80 (qK (qQ (qQ (zT (xG ?_)))))
    exact ⟨(Option.some.inj hR).symm, F.sub sn, (H.s [] rfl rfl)⟩
   | succ g83 =>
    obtain ⟨ck80, hR, hn77⟩ := forI_succ hR
    rw [hf79] at hR
    have hlk80 := dec_yesI hd84
    refine xC (xC (xH (xB F rfl rfl fun a F => xB F rfl rfl fun a F => oN F rfl rfl A0 fun a F => oF (s' := 1) fa33_0 F rfl rfl A0 xJ.f0 fun a p86 h87 F => olI isAgg2 F rfl rfl H.sm h87 fun a i88 F => oR F rfl rfl rfl fun a F => xF (xG ?_))))
    refine vZ F rfl hlk80 (xO (xG (xC ?_)))
    have ikk80 := k64I hd84 i88
    have ink80 := inc64I hd84 i88
    refine oU (xC (xC ?_))
    obtain ⟨o98, hR, hk99⟩ := xS hR
    refine oQ (fun a w => ∃ (s101 : Bool), o98 = .nx s101 ∧ Sk a 70 [(0, v0), (1, v1), (2, v2), (3, v3), (10, .int .i64 (x3.length : Int)), (11, .pointer (some ⟨b17, 0, none⟩)), (12, .int .i64 (k80 : Int)), (49, .bool s101)] ∧ Sep [] B w0 w [bx b17 [v0, v1, .int .i64 0, (.slice none 0 0), .int .i64 0] 207]) ?_ ?_
    ·
     refine xH (xB F rfl rfl fun a F => xB F rfl rfl (fun a F => ?_))
     obtain ⟨z102, c103, hR⟩ := xI hR
     refine oI underlying42 sizeOf2 F rfl rfl rfl A2 c103 fun a p104 h105 F => olI isAgg2 F rfl rfl H.sm h105 fun a i106 F => o_geq F rfl rfl rfl fun a F => xB F rfl rfl (fun a F => ?_)
     rcases vD (decide (0 ≤ z102)) with hb107 | hb107
     ·
      replace hR := zD hb107 hR
      have F := F.eq (t := 42) rfl (congrArg Value.bool hb107)
      refine xB F rfl rfl fun a F => xB F rfl rfl fun a F => oI underlying42 sizeOf2 F rfl rfl rfl A2 c103 fun a p108 h109 F => olI isAgg2 F rfl rfl H.sm h109 fun a i110 F => xB F rfl rfl fun a F => o_neq F rfl rfl rfl fun a F => vH F rfl rfl rfl fun a F => xF (xG ?_)
      exact ⟨(z102 != (k80 : Int)), (Option.some.inj hR).symm, F.sub (sc rfl (sc rfl (sc rfl (sc rfl (sc rfl (sc rfl (sc rfl (sc rfl sn)))))))), H⟩
     replace hR := zE hb107 hR
     have F := F.eq (t := 42) rfl (congrArg Value.bool hb107)
     refine oH F rfl rfl fun a F => oH F rfl rfl fun a F => oH F rfl rfl fun a F => oH F rfl rfl fun a F => oH F rfl rfl fun a F => oH F rfl rfl fun a F => qZ F rfl rfl rfl fun a F => xF (xG ?_)
     exact ⟨false, (Option.some.inj hR).symm, F.sub (sc rfl (sc rfl (sc rfl (sc rfl (sc rfl (sc rfl (sc rfl (sc rfl sn)))))))), H⟩
    intro a w ⟨s101, ho100, F, H⟩
    subst ho100
    have hR := xZ hk99
    refine xG (vC F rfl (fun hb111 => ?_) (fun hb111 => ?_))
    ·
     replace hR := zD hb111 hR
     refine qK (qQ (zT (xG (xH (xB F rfl rfl fun a F => vM F rfl rfl rfl ink80 fun a F => xA F rfl rfl fun a F => xF (xG ?_))))))
     replace hR := zH hR hn77
     exact ⟨_, Nat.lt_succ_self _, k80 + 1, (by omega), hR, F.sub (sc rfl (sc rfl (sc rfl (sc rfl (sc rfl (sc rfl (sc rfl sn))))))), H⟩
    replace hR := zE hb111 hR
    refine xO (xG (xC (xH (xB F rfl rfl (fun a F => ?_)))))
    obtain ⟨z112, c113, hR⟩ := xI hR
    refine oG F rfl call115 rfl (spec_l00Own_c z112 c113 _ aA (H.a A3)) (fun a vv w ⟨v114, hv116, S⟩ F => ?_)
    subst vv
    have H := H.r1 S n0
    refine xB F rfl rfl fun a F => oR1z (R := xK) (y := (k80 : Int)) underlying42 sizeOf2 zeroValue2 rfl rfl F rfl rfl H (Eo.int ikk80) (fun a w v117 H F => ?_)
    obtain ⟨z119, c120, hR⟩ := xI hR
    refine oPL (sz := 1) (R := xK) (z := (.int .i64 0)) (bytes := 8) underlying42 (by kernel_rfl) rfl rfl F rfl rfl rfl (H.s [1, 0, 2] rfl rfl) c120 fun a w v121 H F => xA F rfl rfl fun a F => xF (xG (xC (xC (xH (xB F rfl rfl fun a F => xB F rfl rfl (fun a F => ?_))))))
    obtain ⟨z123, c124, hR⟩ := xI hR
    refine oK F rfl call165 rfl H (spec_l05Find_sure_c z123 c124 _ aA (vG.b (H.g 1 rfl).bk (H.a A0) (H.a A1) (show xY 0 by decide) Bo.snil (show xY 0 by decide)) (H.l 0 rfl)) fun a w H F => kE F rfl rfl fun a F => xF (xG (vC F rfl (fun hb125 => ?_) (fun hb125 => ?_)))
    ·
     replace hR := zD hb125 hR
     refine qK (qQ (zT (xG (xH (xB F rfl rfl fun a F => vM F rfl rfl rfl ink80 fun a F => xA F rfl rfl fun a F => xF (xG ?_))))))
     replace hR := zH hR hn77
     exact ⟨_, Nat.lt_succ_self _, k80 + 1, (by omega), hR, F.sub (sc rfl (sc rfl (sc rfl (sc rfl (sc rfl (sc rfl (sc rfl sn))))))), (H.s [1] rfl rfl)⟩
    replace hR := zE hb125 hR
    refine xO (xG (xC (xH (xB F rfl rfl fun a F => xB F rfl rfl fun a F => xB F rfl rfl fun a F => xB F rfl rfl (fun a F => ?_)))))
    obtain ⟨w131, rfl⟩ : ∃ x, x = w := ⟨_, rfl⟩
    obtain ⟨X126, N127, g128, e129, H, th130⟩ := H.fz
    have h132 := g128.ld
    obtain ⟨z133, c134, hR⟩ := xI hR
    refine oG F rfl call93 rfl (ih z133 c134 _ H.hN (H.u (e129 A0)) (H.u (e129 A1)) (H.u (e129 A2)) (H.u h132)) (fun a vv w ⟨v135, hv137, S⟩ F => ?_)
    subst vv
    have H := H.r1 S n1
    refine xB F rfl rfl fun a F => vE F rfl rfl rfl fun a F => vE F rfl rfl rfl fun a F => xA F rfl rfl fun a F => xA F rfl rfl fun a F => xF (xG (xC (xH (xB F rfl rfl fun a F => xF ?_))))
    refine xG (vC F rfl (fun hb138 => ?_) (fun hb138 => ?_))
    ·
     replace hR := zD hb138 hR
     refine xC (xH (xB F rfl rfl fun a F => xA F rfl rfl fun a F => xA F rfl rfl fun a F => xF (xG (xW (kB (oV (oV ?_)))))))
     replace hR := l_ret hR hn77
     refine kB (oV ?_)
     replace hR := j_ret hR hk75
     refine oV ?_
     have H := (th130.2.1 (H.s [0] rfl rfl) (Ns.all trivial))
     refine kY F rfl (oO F rfl) (oO F rfl) ?_
     obtain rfl := Option.some.inj hR
     exact ⟨_, rfl, v135, rfl, H⟩
    replace hR := zE hb138 hR
    refine xO (zN (xG (xH (xB F rfl rfl fun a F => vM F rfl rfl rfl ink80 fun a F => xA F rfl rfl fun a F => xF (xG ?_)))))
    replace hR := zH hR hn77
    exact ⟨_, Nat.lt_succ_self _, k80 + 1, (by omega), hR, F.sub (sc rfl (sc rfl (sc rfl (sc rfl (sc rfl (sc rfl (sc rfl sn))))))), ((th130.1 (H.s [1] rfl rfl) (Ns.all ⟨n0, trivial⟩)).s [1] rfl rfl)⟩
  intro a w ⟨ho76, F, H⟩
  subst ho76
  have hR := xZ hk75
  refine xG (xC (xH (oR0 (R := xK) underlying42 sizeOf2 F rfl H fun a w v142 H F => xA F rfl rfl fun a F => xA F rfl rfl fun a F => xF (xG (xW ?_)))))
  have H := H.lw.rwo.rok
  refine kY F rfl (oO F rfl) (oO F rfl) ?_
  obtain rfl := Option.some.inj hR
  exact ⟨_, rfl, v142, rfl, H⟩
theorem spec_l09Fill_c {B : Nat → Prop} {N : Nat} {x0 : Template} {x1 : Instance} {x2 : List Int} {x3 : List Int} (r : (List Int) × Bool) (hR : zR N x0 x1 x2 x3 = some r) {v0 : Value} {v1 : Value} {v2 : Value} {v3 : Value} (w0 : World) (hN : ∀ c, B c → c < w0.heap.size) (A0 : Bo B w0 (Pt 2 xJ) v0 x0) (A1 : Bo B w0 (Pt 2 xM) v1 x1) (A2 : Bo B w0 (Sl 1 xK) v2 x2) (A3 : Bo B w0 (Sl 1 xK) v3 x3) : Calls Tryz.prog 93 #[v0, v1, v2, v3] w0 (Gv (fun v w' => ∃ (v1' : Value), v = .tuple #[v1', .bool r.2] ∧ Sep [] B w0 w' [ro B (V := (Sl 1 xK)) v1' r.1])) :=
  spec_l09Fill_cA N r hR w0 hN A0 A1 A2 A3

def spec_CarryForth (N : Nat) (x0 : Template) (x1 : Template) (x2 : Gadgets) (x3 : Instance) (x4 : List Int) : Option ((List Int) × Int) :=
 oJ (spec_l09Asked N (Template.mk x0.size x0.rels) (Template.mk x1.size x1.rels) (Gadgets.mk x2.formulas) (Instance.mk x3.vars x3.cons)) fun z26 =>
 if (!z26) then
  some ([], 1)
 else
  oJ (spec_l01Tuple x0.size x3.vars x4) fun z31 =>
  if (!z31) then
   some ([], 2)
  else
   oJ (spec_l05Failing (Template.mk x0.size x0.rels) (Instance.mk x3.vars x3.cons) x4) fun z36 =>
   if (decide (0 ≤ z36)) then
    some ([], 4)
   else
    oJ (spec_l09Apply (Gadgets.mk x2.formulas) (Instance.mk x3.vars x3.cons)) fun z41 =>
    if (z41.2.2 != 0) then
     some ([], z41.2.2)
    else
     kJ (σ := (List Int)) (
      kT (σ := (List Int)) (ρ := (List Int) × Int) (fun (k77 : Nat) (s71 : (List Int)) =>
       oJ (ap s71 ([(-1)])) fun z85 =>
       some (.go z85)) z41.1.vars.toNat 0 []) fun s74 =>
     kJ (σ := (List Int)) (
      qT (σ := (List Int)) (ρ := (List Int) × Int) (fun (k169 : Nat) (x171 : Int) (s163 : (List Int)) =>
       oJ (ix x4 (k169 : Int)) fun z179 =>
       oJ (ix s163 x171) fun z184 =>
       some (.go (s163.set (x171).toNat z179))) z41.2.1 0 s74) fun s166 =>
     oJ (zR N (Template.mk x1.size x1.rels) (Instance.mk z41.1.vars z41.1.cons) s166 ([])) fun z221 =>
     some (z221.1, 0)
theorem spec_CarryForth_c {B : Nat → Prop} {N : Nat} {x0 : Template} {x1 : Template} {x2 : Gadgets} {x3 : Instance} {x4 : List Int} (r : (List Int) × Int) (hR : spec_CarryForth N x0 x1 x2 x3 x4 = some r) {v0 : Value} {v1 : Value} {v2 : Value} {v3 : Value} {v4 : Value} (w0 : World) (hN : ∀ c, B c → c < w0.heap.size) (A0 : Bo B w0 (qH 2 xJ) v0 x0) (A1 : Bo B w0 (qH 2 xJ) v1 x1) (A2 : Bo B w0 (qH 1 xV) v2 x2) (A3 : Bo B w0 (qH 2 xM) v3 x3) (A4 : Bo B w0 (Sl 1 xK) v4 x4) : Calls Tryz.prog 40 #[v0, v1, v2, v3, v4] w0 (Gv (fun v w' => ∃ (v1' : Value), v = .tuple #[v1', .int .i64 r.2] ∧ Sep [] B w0 w' [ro B (V := (Sl 1 xK)) v1' r.1] ∧ xY r.2)) := by
 unfold spec_CarryForth at hR
 refine oD (L := [(0, v0), (1, v1), (2, v2), (3, v3), (4, v4)]) func40 rfl rfl rfl (sc rfl (sc rfl (sc rfl (sc rfl (sc rfl sn))))) (fun a F => ?_)
 have H := Sep.start hN
 refine xC (xH ?_)
 obtain ⟨v12, rfl, i11, h13⟩ := xJ.o A0
 refine oX F rfl rfl rfl H (fun a w b14 H F => ?_)
 obtain ⟨v16, rfl, i15, h17⟩ := xJ.o A1
 refine oX F rfl rfl rfl H (fun a w b18 H F => ?_)
 obtain ⟨v19, rfl, h20⟩ := xV.o A2
 refine oX F rfl rfl rfl H (fun a w b21 H F => ?_)
 obtain ⟨v23, rfl, i22, h24⟩ := xM.o A3
 refine oX F rfl rfl rfl H fun a w b25 H F => xA F rfl rfl fun a F => xA F rfl rfl fun a F => xF (xG (xC (xC (xH ?_))))
 obtain ⟨z26, c27, hR⟩ := xI hR
 refine oK F rfl call64 rfl H (spec_l09Asked_c z26 c27 _ aA (xJ.b (H.g 3 rfl).bk i11 (H.a h13)) (xJ.b (H.g 2 rfl).bk i15 (H.a h17)) (xV.b (H.g 1 rfl).bk (H.a h20)) (xM.b (H.g 0 rfl).bk i22 (H.a h24))) fun a w H F => kE F rfl rfl fun a F => xF (xG (vC F rfl (fun hb28 => ?_) (fun hb28 => ?_)))
 ·
  replace hR := zD hb28 hR
  refine xC (xH (oR0 (R := xK) underlying42 sizeOf2 F rfl H fun a w v29 H F => xA F rfl rfl fun a F => xA F rfl rfl fun a F => xF (xG (xW (oV ?_)))))
  have H := (H.s [0] rfl rfl)
  have H := H.lw.rwo.rok
  refine kY F rfl (oO F rfl) (oO F rfl) ?_
  obtain rfl := Option.some.inj hR
  exact ⟨_, rfl, v29, rfl, H, (show xY (1) by decide)⟩
 replace hR := zE hb28 hR
 refine xO (xG (xC (xC (xH (oM fa33_0 F rfl rfl rfl fun a F => oB isAgg2 F rfl rfl (H.b 3 rfl) rfl fun a F => oM fa58_0 F rfl rfl rfl fun a F => oB isAgg2 F rfl rfl (H.b 0 rfl) rfl fun a F => xB F rfl rfl (fun a F => ?_))))))
 obtain ⟨z31, c32, hR⟩ := xI hR
 refine oK F rfl call72 rfl H (spec_l01Tuple_c z31 c32 _ aA i11 i22 (H.a A4)) fun a w H F => kE F rfl rfl fun a F => xF (xG (vC F rfl (fun hb33 => ?_) (fun hb33 => ?_)))
 ·
  replace hR := zD hb33 hR
  refine xC (xH (oR0 (R := xK) underlying42 sizeOf2 F rfl H fun a w v34 H F => xA F rfl rfl fun a F => xA F rfl rfl fun a F => xF (xG (xW (oV ?_)))))
  have H := (H.s [0] rfl rfl)
  have H := H.lw.rwo.rok
  refine kY F rfl (oO F rfl) (oO F rfl) ?_
  obtain rfl := Option.some.inj hR
  exact ⟨_, rfl, v34, rfl, H, (show xY (2) by decide)⟩
 replace hR := zE hb33 hR
 refine xO (xG (xC (xC (xH (xB F rfl rfl (fun a F => ?_))))))
 obtain ⟨z36, c37, hR⟩ := xI hR
 refine oKI F rfl call73 rfl H (spec_l05Failing_c z36 c37 _ aA (xJ.b (H.g 3 rfl).bk i11 (H.a h13)) (xM.b (H.g 0 rfl).bk i22 (H.a h24)) (H.a A4)) fun a w H iz36 F => o_geq F rfl rfl rfl fun a F => xF (xG (vC F rfl (fun hb38 => ?_) (fun hb38 => ?_)))
 ·
  replace hR := zD hb38 hR
  refine xC (xH (oR0 (R := xK) underlying42 sizeOf2 F rfl H fun a w v39 H F => xA F rfl rfl fun a F => xA F rfl rfl fun a F => xF (xG (xW (oV ?_)))))
  have H := (H.s [0] rfl rfl)
  have H := H.lw.rwo.rok
  refine kY F rfl (oO F rfl) (oO F rfl) ?_
  obtain rfl := Option.some.inj hR
  exact ⟨_, rfl, v39, rfl, H, (show xY (4) by decide)⟩
 replace hR := zE hb38 hR
 refine xO (xG (xC (xH ?_)))
 obtain ⟨z41, c42, hR⟩ := xI hR
 refine oG F rfl call65 rfl (spec_l09Apply_c z41 c42 _ aA (xV.b (H.g 1 rfl).bk (H.a h20)) (xM.b (H.g 0 rfl).bk i22 (H.a h24))) (fun a vv w ⟨v44, v46, hv49, S, i43, i48⟩ F => ?_)
 subst vv
 have H := H.rk S ⟨n0, ⟨n0, trivial⟩⟩ rfl
 refine xB F rfl rfl fun a F => vE F rfl rfl rfl fun a F => vE F rfl rfl rfl fun a F => vE F rfl rfl rfl fun a F => oA zeroValue58 F rfl rfl H fun a w b50 H F => oWA (vs := [.int .i64 z41.1.vars, v44]) sizeOf58 F rfl rfl rfl H (oc rfl (oc (H.l 1 rfl).one on)) rfl rfl fun w H => xA F rfl rfl fun a F => xA F rfl rfl fun a F => xF (xG (xC ?_))
 refine xC (xH (xB F rfl rfl fun a F => o_neq F rfl rfl rfl fun a F => xF (xG (vC F rfl (fun hb51 => ?_) (fun hb51 => ?_)))))
 ·
  replace hR := zD hb51 hR
  refine xC (xH (oR0 (R := xK) underlying42 sizeOf2 F rfl H fun a w v52 H F => xB F rfl rfl fun a F => xA F rfl rfl fun a F => xA F rfl rfl fun a F => xF (xG (xW (oV ?_)))))
  have H := (H.s [0] rfl rfl)
  have H := H.lw.rwo.rok
  refine kY F rfl (oO F rfl) (oO F rfl) ?_
  obtain rfl := Option.some.inj hR
  exact ⟨_, rfl, v52, rfl, H, i48⟩
 replace hR := zE hb51 hR
 refine xO (xG (xC (xH (oR0 (R := xK) underlying42 sizeOf2 F rfl H fun a w v54 H F => xA F rfl rfl fun a F => xF (xG (xC (xC (xH ?_))))))))
 refine xA F rfl rfl fun a F => xF (xG ?_)
 obtain ⟨o65, hR, hk66⟩ := xS hR
 refine oQ (fun a w => ∃ (s74 : List Int) (v76 : Value), o65 = .nx s74 ∧ Sk a 77 [(4, v4), (6, .pointer (some ⟨b18, 0, none⟩)), (12, .pointer (some ⟨b50, 0, none⟩)), (13, v46), (15, v76)] ∧ Sep [] B w0 w [rl 1 xK 2 v76 s74, bx b50 [.int .i64 z41.1.vars, v44] 58, rl 2 oZ 165 v44 z41.1.cons, rl 1 xK 2 v46 z41.2.1, bx b18 [.int .i64 x1.size, v16] 33]) ?_ ?_
 ·
  refine oU ?_
  obtain ⟨fl69, hf70, hR⟩ := forI_gen hR
  refine qU (fun g a w => ∃ (k77 : Nat) (s71 : List Int) (v73 : Value), k77 + g = z41.1.vars.toNat ∧ kT fl69 g k77 s71 = some o65 ∧ Sk a 77 [(16, .int .i64 (k77 : Int)), (4, v4), (6, .pointer (some ⟨b18, 0, none⟩)), (12, .pointer (some ⟨b50, 0, none⟩)), (13, v46), (15, v73)] ∧ Sep [] B w0 w [rl 1 xK 2 v73 s71, bx b50 [.int .i64 z41.1.vars, v44] 58, rl 2 oZ 165 v44 z41.1.cons, rl 1 xK 2 v46 z41.2.1, bx b18 [.int .i64 x1.size, v16] 33]) z41.1.vars.toNat ?_ ?_
  ·
   exact ⟨0, [], v54, (Nat.zero_add _), hR, F.sub (sc rfl (sc rfl (sc rfl (sc rfl (sc rfl (sc rfl sn)))))), (H.s [0, 1, 2, 3, 6] rfl rfl)⟩
  intro g80 a w ⟨k77, s71, v73, hd81, hR, F, H⟩
  cases g80 with
  | zero =>
   replace hR := forI_zero hR
   have hlk77 := dec_noI hd81
   refine xC (xC (xH (xB F rfl rfl fun a F => oM fa58_0 F rfl rfl rfl fun a F => oB isAgg2 F rfl rfl (H.b 1 rfl) rfl fun a F => oR F rfl rfl rfl fun a F => xF (xG (vV F rfl hlk77 (qK ?_))))))
   refine qQ (qQ (zT (xG ?_)))
   exact ⟨s71, v73, (Option.some.inj hR).symm, F.sub (sc rfl (sc rfl (sc rfl (sc rfl (sc rfl sn))))), H⟩
  | succ g80 =>
   obtain ⟨ck77, hR, hn68⟩ := forI_succ hR
   rw [hf70] at hR
   have hlk77 := dec_yesI hd81
   refine xC (xC (xH (xB F rfl rfl fun a F => oM fa58_0 F rfl rfl rfl fun a F => oB isAgg2 F rfl rfl (H.b 1 rfl) rfl fun a F => oR F rfl rfl rfl fun a F => xF (xG (vZ F rfl hlk77 (xO ?_))))))
   refine xG (xC ?_)
   have ikk77 := k64I hd81 i43
   have ink77 := inc64I hd81 i43
   refine oU (xH (xB F rfl rfl fun a F => oR1z (R := xK) (y := (-1)) underlying42 sizeOf2 zeroValue2 rfl rfl F rfl rfl H (Eo.int (show xY (-1) by decide)) (fun a w v83 H F => ?_)))
   obtain ⟨z85, c86, hR⟩ := xI hR
   refine oPL (sz := 1) (R := xK) (z := (.int .i64 0)) (bytes := 8) underlying42 (by kernel_rfl) rfl rfl F rfl rfl rfl (H.s [1, 0, 2, 3, 4, 5] rfl rfl) c86 fun a w v87 H F => xA F rfl rfl fun a F => xF (zN (xG (xH (xB F rfl rfl fun a F => vM F rfl rfl rfl ink77 fun a F => xA F rfl rfl fun a F => xF (xG ?_)))))
   replace hR := zH hR hn68
   exact ⟨_, Nat.lt_succ_self _, k77 + 1, z85, v87, (by omega), hR, F.sub (sc rfl (sc rfl (sc rfl (sc rfl (sc rfl (sc rfl sn)))))), H⟩
 intro a w ⟨s74, v76, ho67, F, H⟩
 subst ho67
 have hR := xZ hk66
 refine xG (xC (xC (xH (xA F rfl rfl fun a F => xF (xG ?_)))))
 obtain ⟨o157, hR, hk158⟩ := xS hR
 refine oQ (fun a w => ∃ (s166 : List Int) (v168 : Value), o157 = .nx s166 ∧ Sk a 77 [(6, .pointer (some ⟨b18, 0, none⟩)), (12, .pointer (some ⟨b50, 0, none⟩)), (15, v168)] ∧ Sep [] B w0 w [rl 1 xK 2 v168 s166, bx b50 [.int .i64 z41.1.vars, v44] 58, rl 2 oZ 165 v44 z41.1.cons, bx b18 [.int .i64 x1.size, v16] 33]) ?_ ?_
 ·
  refine oU ?_
  obtain ⟨fl161, hf162, hR⟩ := qP hR
  refine qU (fun g a w => ∃ (k169 : Nat) (rest170 : List Int) (s163 : List Int) (v165 : Value), (k169 ≤ z41.2.1.length ∧ z41.2.1.drop k169 = rest170) ∧ rest170.length = g ∧ qT fl161 rest170 k169 s163 = some o157 ∧ Sk a 77 [(17, .int .i64 (k169 : Int)), (4, v4), (6, .pointer (some ⟨b18, 0, none⟩)), (12, .pointer (some ⟨b50, 0, none⟩)), (13, v46), (15, v165)] ∧ Sep [] B w0 w [rl 1 xK 2 v165 s163, bx b50 [.int .i64 z41.1.vars, v44] 58, rl 2 oZ 165 v44 z41.1.cons, rl 1 xK 2 v46 z41.2.1, bx b18 [.int .i64 x1.size, v16] 33]) z41.2.1.length ?_ ?_
  ·
   exact ⟨0, z41.2.1, s74, v76, ⟨Nat.zero_le _, rfl⟩, rfl, hR, F.sub (sc rfl (sc rfl (sc rfl (sc rfl (sc rfl (sc rfl sn)))))), H⟩
  intro g172 a w ⟨k169, rest170, s163, v165, hd173, hg174, hR, F, H⟩
  cases rest170 with
  | nil =>
   replace hR := qS hR
   have hkk169 := qR hd173.1 hd173.2
   have hlk169 := vW hkk169
   refine xC (xC (xH (xB F rfl rfl fun a F => xB F rfl rfl fun a F => oL underlying42 F rfl rfl (H.l 3 rfl) fun a i207 F => oR F rfl rfl rfl fun a F => xF (xG (vV F rfl hlk169 (qK ?_))))))
   refine qQ (qQ (zT (xG ?_)))
   exact ⟨s163, v165, (Option.some.inj hR).symm, F.sub (sc rfl (sc rfl (sc rfl sn))), (H.s [0, 1, 2, 4] rfl rfl)⟩
  | cons x171 rest170 =>
   subst hg174
   replace hd173 := qD hd173.2
   have hxk169 := qG hd173.2.1
   obtain ⟨ck169, hR, hn160⟩ := qC hR
   rw [hf162] at hR
   have hlk169 := vA hd173.1
   refine xC (xC (xH (xB F rfl rfl fun a F => xB F rfl rfl fun a F => oL underlying42 F rfl rfl (H.l 3 rfl) fun a i175 F => oR F rfl rfl rfl fun a F => xF (xG (vZ F rfl hlk169 (xO ?_))))))
   refine xG (xC ?_)
   have ikk169 := k64 (Nat.le_of_lt hd173.1) i175
   have ink169 := zW hd173.1 i175
   refine oU ?_
   obtain ⟨z179, c180, hR⟩ := xI hR
   obtain ⟨z184, c185, hR⟩ := xI hR
   obtain ⟨w195, rfl⟩ : ∃ x, x = w := ⟨_, rfl⟩
   obtain ⟨X190, N191, g192, e193, H, th194⟩ := (H.s [3, 0, 1, 2, 4] rfl rfl).fz
   have h196 := g192.ld
   refine xD H (by kernel_rfl) fun w H => zZ 0 rfl (by kernel_rfl) (by kernel_rfl) (by kernel_rfl) (qO F rfl (fun w l => xP F rfl) fun a F => zZ 1 rfl (by kernel_rfl) (by kernel_rfl) (by kernel_rfl) (qO F rfl (fun w l => xP F rfl) fun a F => zZ 2 rfl (by kernel_rfl) (by kernel_rfl) (by kernel_rfl) (qO F rfl (fun w l => xP F rfl) fun a F => b_q 3 (by kernel_rfl) rfl (by kernel_rfl) (by kernel_rfl) (by kernel_rfl) (by kernel_rfl) (vI underlying42 sizeOf2 F rfl rfl rfl h196 hxk169 fun a p197 h198 F => b_q 4 (by kernel_rfl) rfl (by kernel_rfl) (by kernel_rfl) (by kernel_rfl) (by kernel_rfl) (vlI isAgg2 F rfl rfl H.v h198 (fun a i199 F => ?_))))))
   refine zZ 5 rfl (by kernel_rfl) (by kernel_rfl) (by kernel_rfl) (qO F rfl (fun w l => xP F rfl) fun a F => zZ 6 rfl (by kernel_rfl) (by kernel_rfl) (by kernel_rfl) (qO F rfl (fun w l => xP F rfl) fun a F => b_q 7 (by kernel_rfl) rfl (by kernel_rfl) (by kernel_rfl) (by kernel_rfl) (by kernel_rfl) (vI underlying42 sizeOf2 F rfl rfl rfl (e193 A4) c180 fun a p200 h201 F => b_q 8 (by kernel_rfl) rfl (by kernel_rfl) (by kernel_rfl) (by kernel_rfl) (by kernel_rfl) (vlI isAgg2 F rfl rfl H.v h201 fun a i202 F => xE H 9 rfl (by kernel_rfl) (oRl underlying42 sizeOf2 F rfl rfl rfl H 0 rfl c185 fun a p203 h204 rp205 F => xF ?_)))))
   refine xG (⟨⟨_, H⟩, ?_⟩)
   refine xE H 10 rfl (by kernel_rfl) ?_
   have H := H.lw
   refine oS sizeOf2 F rfl rfl rfl H rp205 (ix_lt c185) (Eo.int i202) rfl rfl (fun w H => ?_)
   have H := H.tl
   refine xF (xG (⟨⟨_, H⟩, ?_⟩))
   refine b_end (by kernel_rfl) (zN (xG (xH (xB F rfl rfl fun a F => vM F rfl rfl rfl ink169 fun a F => xA F rfl rfl fun a F => xF (xG ?_)))))
   replace hR := zH hR hn160
   exact ⟨_, Nat.lt_succ_self _, k169 + 1, rest170, (s163.set (x171).toNat z179), v165, ⟨hd173.1, hd173.2.2⟩, rfl, hR, F.sub (sc rfl (sc rfl (sc rfl (sc rfl (sc rfl (sc rfl sn)))))), ((th194.1 H (Ns.all ⟨n0, ⟨n0, ⟨n0, ⟨n0, trivial⟩⟩⟩⟩)).s [1, 2, 3, 0, 4] rfl rfl)⟩
 intro a w ⟨s166, v168, ho159, F, H⟩
 subst ho159
 have hR := xZ hk158
 refine xG (xC (xH (xB F rfl rfl fun a F => oR0 (R := xK) underlying42 sizeOf2 F rfl H (fun a w v208 H F => ?_))))
 obtain ⟨w215, rfl⟩ : ∃ x, x = w := ⟨_, rfl⟩
 obtain ⟨X210, N211, g212, e213, H, th214⟩ := (H.s [4, 2, 3, 1, 0] rfl rfl).mg.mg.mg.mg.fz
 have K216 := g212.l.l.l.l.bk
 have K217 := g212.l.l.l.r.bk
 have h218 := g212.l.l.r.ld
 have h219 := g212.l.r.ld
 have h220 := g212.r.ld
 obtain ⟨z221, c222, hR⟩ := xI hR
 refine oG F rfl call93 rfl (spec_l09Fill_c z221 c222 _ H.hN (xJ.b (K216.to H.sm) i15 (H.u (e213 h17))) (xM.b (K217.to H.sm) i43 (H.u h218)) (H.u h219) (H.u h220)) (fun a vv w ⟨v223, hv225, S⟩ F => ?_)
 subst vv
 have H := H.r1 S n1
 refine xB F rfl rfl fun a F => vE F rfl rfl rfl fun a F => vE F rfl rfl rfl fun a F => xA F rfl rfl fun a F => xA F rfl rfl fun a F => xF (xG (xC (xH (xB F rfl rfl fun a F => xA F rfl rfl (fun a F => ?_)))))
 refine xA F rfl rfl fun a F => xF (xG (xW ?_))
 have H := (th214.2.1 H (Ns.all trivial))
 refine kY F rfl (oO F rfl) (oO F rfl) ?_
 obtain rfl := Option.some.inj hR
 exact ⟨_, rfl, v223, rfl, H, (show xY (0) by decide)⟩

def impl_solverFor (x0 : Template) (x1 : Instance) : Option solver :=
 kJ (σ := (List Atom)) (
  qT (σ := (List Atom)) (ρ := solver) (fun (k68 : Nat) (x70 : Con) (s62 : (List Atom)) =>
   oJ (ap s62 ([(Atom.mk x70.rel x70.scope)])) fun z84 =>
   some (.go z84)) x1.cons 0 []) fun s65 =>
 oJ (impl_solverOf (Template.mk x0.size x0.rels) x1.vars s65) fun z95 =>
 some z95
theorem impl_solverFor_c {B : Nat → Prop} {x0 : Template} {x1 : Instance} (r : solver) (hR : impl_solverFor x0 x1 = some r) {v0 : Value} {v1 : Value} (w0 : World) (hN : ∀ c, B c → c < w0.heap.size) (A0 : Bo B w0 (qH 2 xJ) v0 x0) (A1 : Bo B w0 (qH 2 xM) v1 x1) : Calls Tryz.prog 94 #[v0, v1] w0 (Gv (fun v w' => ∃ (v1' : Value), v = v1' ∧ Sep [] B w0 w' [ro B (V := (Pt 4 vL)) v1' r])) := by
 unfold impl_solverFor at hR
 refine oD (L := [(0, v0), (1, v1)]) func94 rfl rfl rfl (sc rfl (sc rfl sn)) (fun a F => ?_)
 have H := Sep.start hN
 refine xC (xH ?_)
 obtain ⟨v12, rfl, i11, h13⟩ := xJ.o A0
 refine oX F rfl rfl rfl H (fun a w b14 H F => ?_)
 obtain ⟨v16, rfl, i15, h17⟩ := xM.o A1
 refine oX F rfl rfl rfl H fun a w b18 H F => xA F rfl rfl fun a F => xF (xG (xC (xH (oR0 (R := xU) underlying93 sizeOf158 F rfl H fun a w v19 H F => xA F rfl rfl fun a F => xF (xG (xC ?_))))))
 refine xC (xH (oM fa58_1 F rfl rfl rfl fun a F => oB isAgg56 F rfl rfl (H.b 1 rfl) rfl fun a F => oL underlying56 F rfl rfl h17 fun a i21 F => xB F rfl rfl fun a F => xF (xG ?_)))
 obtain ⟨o56, hR, hk57⟩ := xS hR
 refine oQ (fun a w => ∃ (s65 : List Atom) (v67 : Value), o56 = .nx s65 ∧ Sk a 30 [(2, .pointer (some ⟨b14, 0, none⟩)), (3, .pointer (some ⟨b18, 0, none⟩)), (5, v67)] ∧ Sep [] B w0 w [rw B 2 xU 158 v67 s65, bx b18 [.int .i64 x1.vars, v16] 58, bx b14 [.int .i64 x0.size, v12] 33]) ?_ ?_
 ·
  refine oU ?_
  obtain ⟨fl60, hf61, hR⟩ := qP hR
  refine qU (fun g a w => ∃ (k68 : Nat) (rest69 : List Con) (s62 : List Atom) (v64 : Value), (k68 ≤ x1.cons.length ∧ x1.cons.drop k68 = rest69) ∧ rest69.length = g ∧ qT fl60 rest69 k68 s62 = some o56 ∧ Sk a 30 [(12, .int .i64 (k68 : Int)), (2, .pointer (some ⟨b14, 0, none⟩)), (3, .pointer (some ⟨b18, 0, none⟩)), (5, v64), (10, v16), (11, .int .i64 (x1.cons.length : Int))] ∧ Sep [] B w0 w [rw B 2 xU 158 v64 s62, bx b18 [.int .i64 x1.vars, v16] 58, bx b14 [.int .i64 x0.size, v12] 33]) x1.cons.length ?_ ?_
  ·
   exact ⟨0, x1.cons, [], v19, ⟨Nat.zero_le _, rfl⟩, rfl, hR, F.sub (sc rfl (sc rfl (sc rfl (sc rfl (sc rfl (sc rfl sn)))))), H.lw.wk⟩
  intro g71 a w ⟨k68, rest69, s62, v64, hd72, hg73, hR, F, H⟩
  cases rest69 with
  | nil =>
   replace hR := qS hR
   have hkk68 := qR hd72.1 hd72.2
   have hlk68 := vW hkk68
   refine xC (xH (oR F rfl rfl rfl fun a F => xF (xG (xC (vV F rfl hlk68 (qK (qQ (qQ (zT ?_)))))))))
   refine xG ?_
   exact ⟨s62, v64, (Option.some.inj hR).symm, F.sub (sc rfl (sc rfl (sc rfl sn))), H⟩
  | cons x70 rest69 =>
   subst hg73
   replace hd72 := qD hd72.2
   have hxk68 := qG hd72.2.1
   obtain ⟨ck68, hR, hn59⟩ := qC hR
   rw [hf61] at hR
   have hlk68 := vA hd72.1
   refine xC (xH (oR F rfl rfl rfl fun a F => xF (xG (xC (vZ F rfl hlk68 (xO (xG (xC ?_))))))))
   have ikk68 := k64 (Nat.le_of_lt hd72.1) i21
   have ink68 := zW hd72.1 i21
   refine oU (xC (xH (oI underlying56 sizeOf165 F rfl rfl rfl h17 hxk68 fun a p74 h75 F => olA isAgg165 sizeOf165 F rfl rfl H.sm h75 fun a v76 h77 F => oA zeroValue165 F rfl rfl H (fun a w b78 H F => ?_))))
   obtain ⟨v80, rfl, i79, h81⟩ := oZ.o h77
   refine oWA (vs := [.int .i64 x70.rel, v80]) sizeOf165 F rfl rfl rfl H (oc rfl (oc (H.a h81).one on)) rfl rfl fun w H => xF (xG (xH (xB F rfl rfl fun a F => oM fa165_0 F rfl rfl rfl fun a F => oB isAgg2 F rfl rfl (H.b 0 rfl) rfl fun a F => oM fa165_1 F rfl rfl rfl fun a F => oB isAgg42 F rfl rfl (H.b 0 rfl) rfl fun a F => o_build underlying158 zeroValue158 (fun w => by simp [sizeOf2, sizeOf42]; rfl) F rfl rfl rfl rfl rfl (oc rfl (oc (H.a h81).one on)) rfl rfl fun a F => oR1 (R := xU) (y := (Atom.mk x70.rel x70.scope)) (N1 := B) underlying93 sizeOf158 zeroValue158 rfl rfl F rfl rfl H n1 (Eo.agg (xU.m i79 (H.u h81))) (fun a w v82 H F => ?_))))
   obtain ⟨z84, c85, hR⟩ := xI hR
   refine oP (sz := 2) (R := xU) (z := (.agg #[.int .i64 0, (.slice none 0 0)])) (bytes := 32) underlying93 (by kernel_rfl) rfl rfl F rfl rfl rfl (H.s [2, 0, 1, 3, 4] rfl rfl) c85 fun a w v86 H F => xA F rfl rfl fun a F => xF (zN (xG (xH (vM F rfl rfl rfl ink68 fun a F => xB F rfl rfl fun a F => xF (xG ?_)))))
   replace hR := zH hR hn59
   exact ⟨_, Nat.lt_succ_self _, k68 + 1, rest69, z84, v86, ⟨hd72.1, hd72.2.2⟩, rfl, hR, F.sub (sc rfl (sc rfl (sc rfl (sc rfl (sc rfl (sc rfl sn)))))), (H.s [0, 2, 3] rfl rfl)⟩
 intro a w ⟨s65, v67, ho58, F, H⟩
 subst ho58
 have hR := xZ hk57
 refine xG (xC (xH (oBA isAgg33 sizeOf33 F rfl rfl (H.b 2 rfl) rfl rfl fun a F => oM fa58_0 F rfl rfl rfl fun a F => oB isAgg2 F rfl rfl (H.b 1 rfl) rfl fun a F => xB F rfl rfl (fun a F => ?_))))
 obtain ⟨w93, rfl⟩ : ∃ x, x = w := ⟨_, rfl⟩
 obtain ⟨X88, N89, g90, e91, H, th92⟩ := H.fz
 have h94 := g90.rd
 obtain ⟨z95, c96, hR⟩ := xI hR
 refine oG F rfl call166 rfl (impl_solverOf_s z95 c96 _ H.hN (xJ.m i11 (H.u (e91 h13))) i15 (H.u h94)) (fun a vv w ⟨v97, hv99, S⟩ F => ?_)
 subst vv
 have H := H.r1 S n1
 obtain ⟨w105, rfl⟩ : ∃ x, x = w := ⟨_, rfl⟩
 obtain ⟨X100, N101, g102, e103, H, th104⟩ := H.fz
 have h106 := g102.rod
 refine xA F rfl rfl fun a F => xF (xG (xW ?_))
 have H := H.rob h106
 have H := (th92.2.1 (th104.2.1 (H.s [0] rfl rfl) (Ns.all trivial)) (Ns.all trivial))
 refine xR F rfl (oO F rfl) ?_
 obtain rfl := Option.some.inj hR
 exact ⟨_, rfl, v97, rfl, H⟩

def impl_CarryForth (N : Nat) (x0 : Template) (x1 : Template) (x2 : Gadgets) (x3 : Instance) (x4 : List Int) : Option ((List Int) × Int) :=
 oJ (impl_applyFault N (Template.mk x0.size x0.rels) (Template.mk x1.size x1.rels) (Gadgets.mk x2.formulas) (Instance.mk x3.vars x3.cons)) fun z26 =>
 if (z26 != 0) then
  some ([], z26)
 else
  oJ (zS x0.size x4 x3.vars) fun z30 =>
  if (!z30) then
   some ([], 2)
  else
   oJ (impl_failing N (Template.mk x0.size x0.rels) (Instance.mk x3.vars x3.cons) x4) fun z34 =>
   if (decide (0 ≤ z34)) then
    some ([], 4)
   else
    oJ (impl_applied (Gadgets.mk x2.formulas) (Instance.mk x3.vars x3.cons)) fun z38 =>
    if (z38.2.2 != 0) then
     some ([], z38.2.2)
    else
     oJ (zQ ([(-1)]) z38.1.vars) fun z52 =>
     kJ (σ := (List Int)) (
      qT (σ := (List Int)) (ρ := (List Int) × Int) (fun (k169 : Nat) (x171 : Int) (s163 : (List Int)) =>
       kJ (σ := Bool) (
        oJ (ix s163 x171) fun z196 =>
        if (decide (0 ≤ z196)) then  oJ (ix x4 (k169 : Int)) fun z205 =>
         some (.nx (z196 != z205)) else  some (.nx false)) fun s195 =>
       if s195 then
        some (.ret ([], 6))
       else
        oJ (ix x4 (k169 : Int)) fun z212 =>
        oJ (ix s163 x171) fun z217 =>
        some (.go (s163.set (x171).toNat z212))) z38.2.1 0 z52) fun s166 =>
     kJ (σ := (List Int)) (
      whl (σ := (List Int)) (ρ := (List Int) × Int) (fun (s269 : (List Int)) =>
       kJ (σ := Bool) (
        if (decide ((s269.length : Int) < (s166.length : Int))) then  oJ (ix s166 (s269.length : Int)) fun z298 =>
         some (.nx (decide (0 ≤ z298))) else  some (.nx false)) fun s293 =>
       if s293 then
        oJ (ix s166 (s269.length : Int)) fun z305 =>
        oJ (ap s269 ([z305])) fun z312 =>
        some (.go z312)
       else
        some (.brk s269)) N []) fun s272 =>
     oJ (impl_solverFor (Template.mk x1.size x1.rels) (Instance.mk z38.1.vars z38.1.cons)) fun z323 =>
     oJ (impl_solver_first N z323 s272) fun z335 =>
     if (!z335.2) then
      some ([], 6)
     else
      some (z335.1, 0)
theorem impl_CarryForth_c {B : Nat → Prop} {N : Nat} {x0 : Template} {x1 : Template} {x2 : Gadgets} {x3 : Instance} {x4 : List Int} (r : (List Int) × Int) (hR : impl_CarryForth N x0 x1 x2 x3 x4 = some r) {v0 : Value} {v1 : Value} {v2 : Value} {v3 : Value} {v4 : Value} (w0 : World) (hN : ∀ c, B c → c < w0.heap.size) (A0 : Bo B w0 (qH 2 xJ) v0 x0) (A1 : Bo B w0 (qH 2 xJ) v1 x1) (A2 : Bo B w0 (qH 1 xV) v2 x2) (A3 : Bo B w0 (qH 2 xM) v3 x3) (A4 : Bo B w0 (Sl 1 xK) v4 x4) : Calls Tryz.prog 41 #[v0, v1, v2, v3, v4] w0 (Gv (fun v w' => ∃ (v1' : Value), v = .tuple #[v1', .int .i64 r.2] ∧ Sep [] B w0 w' [rl 1 xK 2 v1' r.1] ∧ xY r.2)) := by
 unfold impl_CarryForth at hR
 refine oD (L := [(0, v0), (1, v1), (2, v2), (3, v3), (4, v4)]) func41 rfl rfl rfl (sc rfl (sc rfl (sc rfl (sc rfl (sc rfl sn))))) (fun a F => ?_)
 have H := Sep.start hN
 refine xC (xH ?_)
 obtain ⟨v12, rfl, i11, h13⟩ := xJ.o A0
 refine oX F rfl rfl rfl H (fun a w b14 H F => ?_)
 obtain ⟨v16, rfl, i15, h17⟩ := xJ.o A1
 refine oX F rfl rfl rfl H (fun a w b18 H F => ?_)
 obtain ⟨v19, rfl, h20⟩ := xV.o A2
 refine oX F rfl rfl rfl H (fun a w b21 H F => ?_)
 obtain ⟨v23, rfl, i22, h24⟩ := xM.o A3
 refine oX F rfl rfl rfl H fun a w b25 H F => xA F rfl rfl fun a F => xA F rfl rfl fun a F => xF (xG (xC (xC (xH (oBA isAgg33 sizeOf33 F rfl rfl (H.b 3 rfl) rfl rfl fun a F => oBA isAgg33 sizeOf33 F rfl rfl (H.b 2 rfl) rfl rfl fun a F => oBA isAgg37 sizeOf37 F rfl rfl (H.b 1 rfl) rfl rfl (fun a F => ?_))))))
 refine oBA isAgg58 sizeOf58 F rfl rfl (H.b 0 rfl) rfl rfl (fun a F => ?_)
 obtain ⟨z26, c27, hR⟩ := xI hR
 refine oKI F rfl call67 rfl H (impl_applyFault_c z26 c27 _ aA (xJ.m i11 (H.a h13)) (xJ.m i15 (H.a h17)) (xV.m (H.a h20)) (xM.m i22 (H.a h24))) fun a w H iz26 F => xA F rfl rfl fun a F => xF (xG (xC (xH (xB F rfl rfl fun a F => o_neq F rfl rfl rfl fun a F => xF (xG (vC F rfl (fun hb28 => ?_) (fun hb28 => ?_)))))))
 ·
  replace hR := zD hb28 hR
  refine xC (xH (xB F rfl rfl fun a F => xA F rfl rfl fun a F => xA F rfl rfl fun a F => xF (xG (xW (oV (kY F rfl (oO F rfl) (oO F rfl) ?_))))))
  obtain rfl := Option.some.inj hR
  exact ⟨_, rfl, (.slice none 0 0), rfl, ((H.nl 1 xK 2).s [0] rfl rfl), iz26⟩
 replace hR := zE hb28 hR
 refine xO (xG (xC (oU (xC (xH (oM fa33_0 F rfl rfl rfl fun a F => oB isAgg2 F rfl rfl (H.b 3 rfl) rfl fun a F => xB F rfl rfl fun a F => oM fa58_0 F rfl rfl rfl fun a F => oB isAgg2 F rfl rfl (H.b 0 rfl) rfl (fun a F => ?_)))))))
 obtain ⟨z30, c31, hR⟩ := xI hR
 refine oK F rfl call75 rfl H (impl_areValues_c z30 c31 _ aA i11 (H.a A4) i22) fun a w H F => kE F rfl rfl fun a F => xA F rfl rfl fun a F => xF (xG (vC F rfl (fun hb32 => ?_) (fun hb32 => ?_)))
 ·
  replace hR := zD hb32 hR
  refine xC (xH (xA F rfl rfl fun a F => xA F rfl rfl fun a F => xF (xG (xW (kB (oV (kY F rfl (oO F rfl) (oO F rfl) ?_)))))))
  obtain rfl := Option.some.inj hR
  exact ⟨_, rfl, (.slice none 0 0), rfl, ((H.nl 1 xK 2).s [0] rfl rfl), (show xY (2) by decide)⟩
 replace hR := zE hb32 hR
 refine xC (xH (oBA isAgg33 sizeOf33 F rfl rfl (H.b 3 rfl) rfl rfl fun a F => oBA isAgg58 sizeOf58 F rfl rfl (H.b 0 rfl) rfl rfl fun a F => xB F rfl rfl (fun a F => ?_)))
 obtain ⟨z34, c35, hR⟩ := xI hR
 refine oKI F rfl call76 rfl H (impl_failing_c z34 c35 _ aA (xJ.m i11 (H.a h13)) (xM.m i22 (H.a h24)) (H.a A4)) fun a w H iz34 F => o_geq F rfl rfl rfl fun a F => xA F rfl rfl fun a F => xF (xG (vC F rfl (fun hb36 => ?_) (fun hb36 => ?_)))
 ·
  replace hR := zD hb36 hR
  refine xC (xH (xA F rfl rfl fun a F => xA F rfl rfl fun a F => xF (xG (xW (kB (oV (kY F rfl (oO F rfl) (oO F rfl) ?_)))))))
  obtain rfl := Option.some.inj hR
  exact ⟨_, rfl, (.slice none 0 0), rfl, ((H.nl 1 xK 2).s [0] rfl rfl), (show xY (4) by decide)⟩
 replace hR := zE hb36 hR
 refine xO (zN (xG (xC (xH (oBA isAgg37 sizeOf37 F rfl rfl (H.b 1 rfl) rfl rfl fun a F => oBA isAgg58 sizeOf58 F rfl rfl (H.b 0 rfl) rfl rfl (fun a F => ?_))))))
 obtain ⟨z38, c39, hR⟩ := xI hR
 refine oG F rfl call68 rfl (impl_applied_c z38 c39 _ aA (xV.m (H.a h20)) (xM.m i22 (H.a h24))) (fun a vv w ⟨v41, v43, hv46, S, i40, i45⟩ F => ?_)
 subst vv
 have H := H.rk S ⟨n0, ⟨n0, trivial⟩⟩ rfl
 refine xB F rfl rfl fun a F => vE F rfl rfl rfl fun a F => vE F rfl rfl rfl fun a F => vE F rfl rfl rfl fun a F => oA zeroValue58 F rfl rfl H fun a w b47 H F => oWA (vs := [.int .i64 z38.1.vars, v41]) sizeOf58 F rfl rfl rfl H (oc rfl (oc (H.l 1 rfl).one on)) rfl rfl fun w H => xA F rfl rfl fun a F => xA F rfl rfl fun a F => xF (xG (xC ?_))
 refine xC (xH (xB F rfl rfl fun a F => o_neq F rfl rfl rfl fun a F => xF (xG (vC F rfl (fun hb48 => ?_) (fun hb48 => ?_)))))
 ·
  replace hR := zD hb48 hR
  refine xC (xH (xB F rfl rfl fun a F => xA F rfl rfl fun a F => xA F rfl rfl fun a F => xF (xG (xW (oV (kY F rfl (oO F rfl) (oO F rfl) ?_))))))
  obtain rfl := Option.some.inj hR
  exact ⟨_, rfl, (.slice none 0 0), rfl, ((H.nl 1 xK 2).s [0] rfl rfl), i45⟩
 replace hR := zE hb48 hR
 refine xO (xG (xC (xH (oR1z (R := xK) (y := (-1)) underlying42 sizeOf2 zeroValue2 rfl rfl F rfl rfl H (Eo.int (show xY (-1) by decide)) fun a w v50 H F => oM fa58_0 F rfl rfl rfl fun a F => oB isAgg2 F rfl rfl (H.b 1 rfl) rfl (fun a F => ?_)))))
 obtain ⟨z52, c53, hR⟩ := xI hR
 refine oG F rfl call89 rfl (slices_Repeat_s_int64_int64_c z52 c53 _ aA (H.l 0 rfl) i40) (fun a vv w ⟨v54, hv56, S⟩ F => ?_)
 subst vv
 have H := H.r1 S n0
 refine xA F rfl rfl fun a F => xF (xG (xC (xC (xH (xB F rfl rfl fun a F => oL underlying42 F rfl rfl (H.l 4 rfl) fun a i57 F => xB F rfl rfl fun a F => xF (xG ?_))))))
 obtain ⟨o157, hR, hk158⟩ := xS hR
 refine oQ (fun a w => ∃ (s166 : List Int) (v168 : Value), o157 = .nx s166 ∧ Sk a 122 [(6, .pointer (some ⟨b18, 0, none⟩)), (13, .pointer (some ⟨b47, 0, none⟩)), (16, v168)] ∧ Sep [] B w0 w [rl 1 xK 2 v168 s166, bx b47 [.int .i64 z38.1.vars, v41] 58, rl 2 oZ 165 v41 z38.1.cons, bx b18 [.int .i64 x1.size, v16] 33]) ?_ ?_
 ·
  refine oU ?_
  obtain ⟨fl161, hf162, hR⟩ := qP hR
  refine qU (fun g a w => ∃ (k169 : Nat) (rest170 : List Int) (s163 : List Int) (v165 : Value), (k169 ≤ z38.2.1.length ∧ z38.2.1.drop k169 = rest170) ∧ rest170.length = g ∧ qT fl161 rest170 k169 s163 = some o157 ∧ Sk a 122 [(60, .int .i64 (k169 : Int)), (4, v4), (6, .pointer (some ⟨b18, 0, none⟩)), (13, .pointer (some ⟨b47, 0, none⟩)), (16, v165), (58, v43), (59, .int .i64 (z38.2.1.length : Int))] ∧ Sep [] B w0 w [rl 1 xK 2 v165 s163, bx b47 [.int .i64 z38.1.vars, v41] 58, rl 2 oZ 165 v41 z38.1.cons, rl 1 xK 2 v43 z38.2.1, bx b18 [.int .i64 x1.size, v16] 33]) z38.2.1.length ?_ ?_
  ·
   exact ⟨0, z38.2.1, z52, v54, ⟨Nat.zero_le _, rfl⟩, rfl, hR, F.sub (sc rfl (sc rfl (sc rfl (sc rfl (sc rfl (sc rfl (sc rfl sn))))))), (H.s [0, 2, 3, 4, 7] rfl rfl)⟩
  intro g172 a w ⟨k169, rest170, s163, v165, hd173, hg174, hR, F, H⟩
  cases rest170 with
  | nil =>
   replace hR := qS hR
   have hkk169 := qR hd173.1 hd173.2
   have hlk169 := vW hkk169
   refine xC (xH (oR F rfl rfl rfl fun a F => xF (xG (xC (vV F rfl hlk169 (qK (qQ (qQ (zT ?_)))))))))
   refine xG ?_
   exact ⟨s163, v165, (Option.some.inj hR).symm, F.sub (sc rfl (sc rfl (sc rfl sn))), (H.s [0, 1, 2, 4] rfl rfl)⟩
  | cons x171 rest170 =>
   subst hg174
   replace hd173 := qD hd173.2
   have hxk169 := qG hd173.2.1
   obtain ⟨ck169, hR, hn160⟩ := qC hR
   rw [hf162] at hR
   have hlk169 := vA hd173.1
   refine xC (xH (oR F rfl rfl rfl fun a F => xF (xG (xC (vZ F rfl hlk169 (xO (xG (xC ?_))))))))
   have ikk169 := k64 (Nat.le_of_lt hd173.1) i57
   have ink169 := zW hd173.1 i57
   refine oU (xC (xH (xB F rfl rfl fun a F => oI underlying42 sizeOf2 F rfl rfl rfl (H.l 3 rfl) hxk169 fun a p175 h176 F => olI isAgg2 F rfl rfl (Sm.refl _ _) h176 fun a i177 F => xA F rfl rfl fun a F => xA F rfl rfl fun a F => xF (xG (xC ?_)))))
   refine xC ?_
   obtain ⟨o192, hR, hk193⟩ := xS hR
   refine oQ (fun a w => ∃ (s195 : Bool), o192 = .nx s195 ∧ Sk a 122 [(4, v4), (6, .pointer (some ⟨b18, 0, none⟩)), (13, .pointer (some ⟨b47, 0, none⟩)), (16, v165), (17, .int .i64 (k169 : Int)), (18, .int .i64 x171), (58, v43), (59, .int .i64 (z38.2.1.length : Int)), (60, .int .i64 (k169 : Int)), (80, .bool s195)] ∧ Sep [] B w0 w [rl 1 xK 2 v165 s163, bx b47 [.int .i64 z38.1.vars, v41] 58, rl 2 oZ 165 v41 z38.1.cons, rl 1 xK 2 v43 z38.2.1, bx b18 [.int .i64 x1.size, v16] 33]) ?_ ?_
   ·
    refine xQ H (by kernel_rfl) (by kernel_rfl) (xN F rfl (fun w l => xP F rfl) fun a F => xN F rfl (fun w l => xP F rfl) (fun a F => ?_))
    obtain ⟨z196, c197, hR⟩ := xI hR
    refine qI underlying42 sizeOf2 F rfl rfl rfl (H.l 0 rfl) c197 fun a p198 h199 F => qlI isAgg2 F rfl rfl qA h199 fun a i200 F => xN F rfl (fun w l => r_geq F rfl rfl) fun a F => xN F rfl (fun w l => xP F rfl) (fun a F => ?_)
    rcases vD (decide (0 ≤ z196)) with hb201 | hb201
    ·
     replace hR := zD hb201 hR
     have F := F.eq (t := 70) rfl (congrArg Value.bool hb201)
     refine xN F rfl (fun w l => xP F rfl) fun a F => xN F rfl (fun w l => xP F rfl) fun a F => qI underlying42 sizeOf2 F rfl rfl rfl (H.l 0 rfl) c197 fun a p202 h203 F => qlI isAgg2 F rfl rfl qA h203 fun a i204 F => xN F rfl (fun w l => xP F rfl) fun a F => xN F rfl (fun w l => xP F rfl) (fun a F => ?_)
     obtain ⟨z205, c206, hR⟩ := xI hR
     refine qI underlying42 sizeOf2 F rfl rfl rfl A4 c206 fun a p207 h208 F => qlI isAgg2 F rfl rfl H.q h208 fun a i209 F => xN F rfl (fun w l => r_neq F rfl rfl) fun a F => xN F rfl (fun w l => kM F rfl rfl) fun a F => kA fun w H => xG ?_
     exact ⟨(z196 != z205), (Option.some.inj hR).symm, F.sub (sc rfl (sc rfl (sc rfl (sc rfl (sc rfl (sc rfl (sc rfl (sc rfl (sc rfl (sc rfl sn)))))))))), H⟩
    replace hR := zE hb201 hR
    have F := F.eq (t := 70) rfl (congrArg Value.bool hb201)
    refine oE F rfl rfl fun a F => oE F rfl rfl fun a F => oE F rfl rfl fun a F => oE F rfl rfl fun a F => oE F rfl rfl fun a F => oE F rfl rfl fun a F => oE F rfl rfl fun a F => oE F rfl rfl fun a F => oE F rfl rfl fun a F => xN F rfl (fun w l => r_pickf F rfl rfl) fun a F => kA (fun w H => ?_)
    refine xG ?_
    exact ⟨false, (Option.some.inj hR).symm, F.sub (sc rfl (sc rfl (sc rfl (sc rfl (sc rfl (sc rfl (sc rfl (sc rfl (sc rfl (sc rfl sn)))))))))), H⟩
   intro a w ⟨s195, ho194, F, H⟩
   subst ho194
   have hR := xZ hk193
   refine xG (vC F rfl (fun hb210 => ?_) (fun hb210 => ?_))
   ·
    replace hR := zD hb210 hR
    refine xC (xH (xA F rfl rfl fun a F => xA F rfl rfl fun a F => xF (xG (xW (oV (kB (oV (oV ?_))))))))
    replace hR := l_ret hR hn160
    refine kB (oV ?_)
    replace hR := j_ret hR hk158
    refine oV (kY F rfl (oO F rfl) (oO F rfl) ?_)
    obtain rfl := Option.some.inj hR
    exact ⟨_, rfl, (.slice none 0 0), rfl, ((H.nl 1 xK 2).s [0] rfl rfl), (show xY (6) by decide)⟩
   replace hR := zE hb210 hR
   refine xO (xG (xH (xB F rfl rfl fun a F => xB F rfl rfl fun a F => xB F rfl rfl fun a F => xB F rfl rfl (fun a F => ?_))))
   obtain ⟨z212, c213, hR⟩ := xI hR
   refine oI underlying42 sizeOf2 F rfl rfl rfl A4 c213 fun a p214 h215 F => olI isAgg2 F rfl rfl H.sm h215 (fun a i216 F => ?_)
   obtain ⟨z217, c218, hR⟩ := xI hR
   refine oRl underlying42 sizeOf2 F rfl rfl rfl H 0 rfl c218 (fun a p219 h220 rp221 F => ?_)
   have H := H.lw
   refine oS sizeOf2 F rfl rfl rfl H rp221 (ix_lt c218) (Eo.int i216) rfl rfl (fun w H => ?_)
   have H := H.tl
   refine xF (zN (xG (xH (vM F rfl rfl rfl ink169 fun a F => xB F rfl rfl fun a F => xF (xG ?_)))))
   replace hR := zH hR hn160
   exact ⟨_, Nat.lt_succ_self _, k169 + 1, rest170, (s163.set (x171).toNat z212), v165, ⟨hd173.1, hd173.2.2⟩, rfl, hR, F.sub (sc rfl (sc rfl (sc rfl (sc rfl (sc rfl (sc rfl (sc rfl sn))))))), H⟩
 intro a w ⟨s166, v168, ho159, F, H⟩
 subst ho159
 have hR := xZ hk158
 refine xG (xC (xH (oR0 (R := xK) underlying42 sizeOf2 F rfl H fun a w v223 H F => xA F rfl rfl fun a F => xF (xG (xC ?_)))))
 obtain ⟨o263, hR, hk264⟩ := xS hR
 refine oQ (fun a w => ∃ (s272 : List Int) (v274 : Value), o263 = .nx s272 ∧ Sk a 122 [(6, .pointer (some ⟨b18, 0, none⟩)), (13, .pointer (some ⟨b47, 0, none⟩)), (19, v274)] ∧ Sep [] B w0 w [rl 1 xK 2 v274 s272, bx b47 [.int .i64 z38.1.vars, v41] 58, rl 2 oZ 165 v41 z38.1.cons, bx b18 [.int .i64 x1.size, v16] 33]) ?_ ?_
 ·
  refine oU ?_
  obtain ⟨fl267, hf268, hR⟩ := whl_gen hR
  refine qU (fun g a w => ∃ (s269 : List Int) (v271 : Value), whl fl267 g s269 = some o263 ∧ Sk a 122 [(6, .pointer (some ⟨b18, 0, none⟩)), (13, .pointer (some ⟨b47, 0, none⟩)), (16, v168), (19, v271)] ∧ Sep [] B w0 w [rl 1 xK 2 v271 s269, rl 1 xK 2 v168 s166, bx b47 [.int .i64 z38.1.vars, v41] 58, rl 2 oZ 165 v41 z38.1.cons, bx b18 [.int .i64 x1.size, v16] 33]) N ?_ ?_
  ·
   exact ⟨[], v223, hR, F.sub (sc rfl (sc rfl (sc rfl (sc rfl sn)))), H⟩
  intro g278 a w ⟨s269, v271, hR, F, H⟩
  obtain ⟨ck275, rest276, hg280, hR, hn266⟩ := whl_round hR
  rw [hf268] at hR
  refine xC (xC ?_)
  obtain ⟨o290, hR, hk291⟩ := xS hR
  refine oQ (fun a w => ∃ (s293 : Bool), o290 = .nx s293 ∧ Sk a 122 [(6, .pointer (some ⟨b18, 0, none⟩)), (13, .pointer (some ⟨b47, 0, none⟩)), (16, v168), (19, v271), (102, .bool s293)] ∧ Sep [] B w0 w [rl 1 xK 2 v271 s269, rl 1 xK 2 v168 s166, bx b47 [.int .i64 z38.1.vars, v41] 58, rl 2 oZ 165 v41 z38.1.cons, bx b18 [.int .i64 x1.size, v16] 33]) ?_ ?_
  ·
   refine xH (xB F rfl rfl fun a F => oL underlying42 F rfl rfl (H.l 0 rfl) fun a i294 F => xB F rfl rfl fun a F => oL underlying42 F rfl rfl (H.l 1 rfl) fun a i295 F => oR F rfl rfl rfl fun a F => xB F rfl rfl (fun a F => ?_))
   rcases vD (decide ((s269.length : Int) < (s166.length : Int))) with hb296 | hb296
   ·
    replace hR := zD hb296 hR
    have F := F.eq (t := 95) rfl (congrArg Value.bool hb296)
    refine xB F rfl rfl fun a F => xB F rfl rfl fun a F => oL underlying42 F rfl rfl (H.l 0 rfl) (fun a i297 F => ?_)
    obtain ⟨z298, c299, hR⟩ := xI hR
    refine oI underlying42 sizeOf2 F rfl rfl rfl (H.l 1 rfl) c299 fun a p300 h301 F => olI isAgg2 F rfl rfl (Sm.refl _ _) h301 fun a i302 F => o_geq F rfl rfl rfl fun a F => vH F rfl rfl rfl fun a F => xF (xG ?_)
    exact ⟨(decide (0 ≤ z298)), (Option.some.inj hR).symm, F.sub (sc rfl (sc rfl (sc rfl (sc rfl (sc rfl sn))))), H⟩
   replace hR := zE hb296 hR
   have F := F.eq (t := 95) rfl (congrArg Value.bool hb296)
   refine oH F rfl rfl fun a F => oH F rfl rfl fun a F => oH F rfl rfl fun a F => oH F rfl rfl fun a F => oH F rfl rfl fun a F => oH F rfl rfl fun a F => qZ F rfl rfl rfl fun a F => xF (xG ?_)
   exact ⟨false, (Option.some.inj hR).symm, F.sub (sc rfl (sc rfl (sc rfl (sc rfl (sc rfl sn))))), H⟩
  intro a w ⟨s293, ho292, F, H⟩
  subst ho292
  have hR := xZ hk291
  refine xG (vC F rfl (fun hb303 => ?_) (fun hb303 => ?_))
  ·
   replace hR := zD hb303 hR
   refine xO (xG (oU (xH (xB F rfl rfl fun a F => xB F rfl rfl fun a F => xB F rfl rfl fun a F => oL underlying42 F rfl rfl (H.l 0 rfl) (fun a i304 F => ?_)))))
   obtain ⟨z305, c306, hR⟩ := xI hR
   refine oI underlying42 sizeOf2 F rfl rfl rfl (H.l 1 rfl) c306 fun a p307 h308 F => olI isAgg2 F rfl rfl (Sm.refl _ _) h308 fun a i309 F => oR1z (R := xK) (y := z305) underlying42 sizeOf2 zeroValue2 rfl rfl F rfl rfl H (Eo.int i309) (fun a w v310 H F => ?_)
   obtain ⟨z312, c313, hR⟩ := xI hR
   refine oPL (sz := 1) (R := xK) (z := (.int .i64 0)) (bytes := 8) underlying42 (by kernel_rfl) rfl rfl F rfl rfl rfl (H.s [1, 0, 2, 3, 4, 5] rfl rfl) c313 fun a w v314 H F => xA F rfl rfl fun a F => xF (zN (xG ?_))
   replace hR := zH hR hn266
   exact ⟨rest276, (by omega), z312, v314, hR, F.sub (sc rfl (sc rfl (sc rfl (sc rfl sn)))), H⟩
  replace hR := zE hb303 hR
  refine qK (qQ (qQ ?_))
  replace hR := l_brk hR hn266
  refine zT (xG ?_)
  exact ⟨s269, v271, (Option.some.inj hR).symm, F.sub (sc rfl (sc rfl (sc rfl sn))), (H.s [0, 2, 3, 4] rfl rfl)⟩
 intro a w ⟨s272, v274, ho265, F, H⟩
 subst ho265
 have hR := xZ hk264
 refine xG (xC (xH (oBA isAgg33 sizeOf33 F rfl rfl (H.b 3 rfl) rfl rfl fun a F => oBA isAgg58 sizeOf58 F rfl rfl (H.b 1 rfl) rfl rfl (fun a F => ?_))))
 obtain ⟨w321, rfl⟩ : ∃ x, x = w := ⟨_, rfl⟩
 obtain ⟨X316, N317, g318, e319, H, th320⟩ := (H.s [2, 0, 1, 3] rfl rfl).fz
 have h322 := g318.ld
 obtain ⟨z323, c324, hR⟩ := xI hR
 refine oG F rfl call94 rfl (impl_solverFor_c z323 c324 _ H.hN (xJ.m i15 (H.u (e319 h17))) (xM.m i40 (H.u h322))) (fun a vv w ⟨v325, hv327, S⟩ F => ?_)
 subst vv
 have H := H.r1 S n1
 obtain ⟨w333, rfl⟩ : ∃ x, x = w := ⟨_, rfl⟩
 obtain ⟨X328, N329, g330, e331, H, th332⟩ := H.fz
 have h334 := g330.rod
 refine xB F rfl rfl (fun a F => ?_)
 obtain ⟨z335, c336, hR⟩ := xI hR
 refine oG F rfl call95 rfl (impl_solver_first_c z335 c336 _ aA (H.a h334) (H.l 0 rfl)) (fun a vv w ⟨v337, hv339, S⟩ F => ?_)
 subst vv
 have H := H.r1 S n0
 refine xB F rfl rfl fun a F => vE F rfl rfl rfl fun a F => vE F rfl rfl rfl fun a F => xA F rfl rfl fun a F => xA F rfl rfl fun a F => xF (xG (xC (xC (xH (xB F rfl rfl (fun a F => ?_))))))
 refine kE F rfl rfl fun a F => xF (xG (vC F rfl (fun hb340 => ?_) (fun hb340 => ?_)))
 ·
  replace hR := zD hb340 hR
  refine xC (xH (xA F rfl rfl fun a F => xA F rfl rfl fun a F => xF (xG (xW (oV ?_)))))
  have H := (th320.1 ((th332.1 H (Ns.all ⟨n0, ⟨n0, ⟨n0, ⟨n0, trivial⟩⟩⟩⟩)).s [1, 2, 3, 4] rfl rfl) (Ns.all ⟨n0, ⟨n0, ⟨n0, ⟨n0, trivial⟩⟩⟩⟩))
  refine kY F rfl (oO F rfl) (oO F rfl) ?_
  obtain rfl := Option.some.inj hR
  exact ⟨_, rfl, (.slice none 0 0), rfl, ((H.nl 1 xK 2).s [0] rfl rfl), (show xY (6) by decide)⟩
 replace hR := zE hb340 hR
 refine xO (xG (xC (xH (xB F rfl rfl fun a F => xA F rfl rfl fun a F => xA F rfl rfl fun a F => xF (xG (xW ?_))))))
 have H := (th320.1 ((th332.1 H (Ns.all ⟨n0, ⟨n0, ⟨n0, ⟨n0, trivial⟩⟩⟩⟩)).s [1, 2, 3, 4] rfl rfl) (Ns.all ⟨n0, ⟨n0, ⟨n0, ⟨n0, trivial⟩⟩⟩⟩))
 refine kY F rfl (oO F rfl) (oO F rfl) ?_
 obtain rfl := Option.some.inj hR
 exact ⟨_, rfl, v337, rfl, (H.s [1] rfl rfl), (show xY (0) by decide)⟩
end Go.Proofs.YtmgdjaiaekhkgaaGreat
