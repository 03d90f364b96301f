/-
  Functions of the program as plain functions, and that they compute them. Printed by sg.py.
-/
import Derived.Test.YtmgdjaiaekhkgaaGreatS3
namespace Go.Proofs.YtmgdjaiaekhkgaaGreat
open Go.Proofs.Tryz
set_option maxHeartbeats 1000000
set_option linter.unusedVariables false
set_option linter.unusedSimpArgs false
set_option maxRecDepth 100000
open Go.RowKit
def spec_l01Mapped (x0 : List Int) (x1 : List Int) : Option (List Int) :=
 kJ (σ := (List Int)) (
  qT (σ := (List Int)) (ρ := (List Int)) (fun (k44 : Nat) (x46 : Int) (s38 : (List Int)) =>
   oJ (ix x1 x46) fun z54 =>
   oJ (ap s38 ([z54])) fun z61 =>
   some (.go z61)) x0 0 []) fun s41 =>
 some s41
theorem spec_l01Mapped_c {B : Nat → Prop} {x0 : List Int} {x1 : List Int} (r : (List Int)) (hR : spec_l01Mapped x0 x1 = some r) {v0 : Value} {v1 : Value} (w0 : World) (hN : ∀ c, B c → c < w0.heap.size) (A0 : Bo B w0 (Sl 1 xK) v0 x0) (A1 : Bo B w0 (Sl 1 xK) v1 x1) : Calls Tryz.prog 126 #[v0, v1] w0 (Gv (fun v w' => ∃ (v1' : Value), v = v1' ∧ Sep [] B w0 w' [rl 1 xK 2 v1' r])) := by
 unfold spec_l01Mapped at hR
 refine oD (L := [(0, v0), (1, v1)]) func126 rfl rfl rfl (sc rfl (sc rfl sn)) (fun a F => ?_)
 have H := Sep.start hN
 refine xC (xH (xA F rfl rfl fun a F => xF (xG (xC (xH (oR0 (R := xK) underlying42 sizeOf2 F rfl H fun a w v11 H F => xA F rfl rfl fun a F => xF (xG ?_)))))))
 refine xC (xC (xH (xA F rfl rfl fun a F => xF (xG ?_))))
 obtain ⟨o32, hR, hk33⟩ := xS hR
 refine oQ (fun a w => ∃ (s41 : List Int) (v43 : Value), o32 = .nx s41 ∧ Sk a 25 [(5, v43)] ∧ Sep [] B w0 w [rl 1 xK 2 v43 s41]) ?_ ?_
 ·
  refine oU ?_
  obtain ⟨fl36, hf37, hR⟩ := qP hR
  refine qU (fun g a w => ∃ (k44 : Nat) (rest45 : List Int) (s38 : List Int) (v40 : Value), (k44 ≤ x0.length ∧ x0.drop k44 = rest45) ∧ rest45.length = g ∧ qT fl36 rest45 k44 s38 = some o32 ∧ Sk a 25 [(6, .int .i64 (k44 : Int)), (0, v0), (1, v1), (5, v40)] ∧ Sep [] B w0 w [rl 1 xK 2 v40 s38]) x0.length ?_ ?_
  ·
   exact ⟨0, x0, [], v11, ⟨Nat.zero_le _, rfl⟩, rfl, hR, F.sub (sc rfl (sc rfl (sc rfl (sc rfl sn)))), H⟩
  intro g47 a w ⟨k44, rest45, s38, v40, hd48, hg49, hR, F, H⟩
  cases rest45 with
  | nil =>
   replace hR := qS hR
   have hkk44 := qR hd48.1 hd48.2
   have hlk44 := vW hkk44
   refine xC (xC (xH (xB F rfl rfl fun a F => xB F rfl rfl fun a F => oL underlying42 F rfl rfl A0 fun a i65 F => oR F rfl rfl rfl fun a F => xF (xG (vV F rfl hlk44 (qK ?_))))))
   refine qQ (qQ (zT (xG ?_)))
   exact ⟨s38, v40, (Option.some.inj hR).symm, F.sub (sc rfl sn), H⟩
  | cons x46 rest45 =>
   subst hg49
   replace hd48 := qD hd48.2
   have hxk44 := qG hd48.2.1
   obtain ⟨ck44, hR, hn35⟩ := qC hR
   rw [hf37] at hR
   have hlk44 := vA hd48.1
   refine xC (xC (xH (xB F rfl rfl fun a F => xB F rfl rfl fun a F => oL underlying42 F rfl rfl A0 fun a i50 F => oR F rfl rfl rfl fun a F => xF (xG (vZ F rfl hlk44 (xO ?_))))))
   refine xG (xC ?_)
   have ikk44 := k64 (Nat.le_of_lt hd48.1) i50
   have ink44 := zW hd48.1 i50
   refine oU (xH (xB F rfl rfl fun a F => xB F rfl rfl fun a F => xB F rfl rfl fun a F => xB F rfl rfl fun a F => oI underlying42 sizeOf2 F rfl rfl rfl A0 hxk44 fun a p51 h52 F => olI isAgg2 F rfl rfl H.sm h52 (fun a i53 F => ?_)))
   obtain ⟨z54, c55, hR⟩ := xI hR
   refine oI underlying42 sizeOf2 F rfl rfl rfl A1 c55 fun a p56 h57 F => olI isAgg2 F rfl rfl H.sm h57 fun a i58 F => oR1z (R := xK) (y := z54) underlying42 sizeOf2 zeroValue2 rfl rfl F rfl rfl H (Eo.int i58) (fun a w v59 H F => ?_)
   obtain ⟨z61, c62, hR⟩ := xI hR
   refine oPL (sz := 1) (R := xK) (z := (.int .i64 0)) (bytes := 8) underlying42 (by kernel_rfl) rfl rfl F rfl rfl rfl (H.s [1, 0] rfl rfl) c62 fun a w v63 H F => xA F rfl rfl fun a F => xF (zN (xG (xH (xB F rfl rfl fun a F => vM F rfl rfl rfl ink44 fun a F => xA F rfl rfl fun a F => xF (xG ?_)))))
   replace hR := zH hR hn35
   exact ⟨_, Nat.lt_succ_self _, k44 + 1, rest45, z61, v63, ⟨hd48.1, hd48.2.2⟩, rfl, hR, F.sub (sc rfl (sc rfl (sc rfl (sc rfl sn)))), H⟩
 intro a w ⟨s41, v43, ho34, F, H⟩
 subst ho34
 have hR := xZ hk33
 refine xG (xC (xH (xB F rfl rfl fun a F => xA F rfl rfl fun a F => xF (xG (xW (xR F rfl (oO F rfl) ?_))))))
 obtain rfl := Option.some.inj hR
 exact ⟨_, rfl, v43, rfl, H⟩

def spec_l03Moved (x0 : List Atom) (x1 : List Int) : Option (List Atom) :=
 kJ (σ := (List Atom)) (
  qT (σ := (List Atom)) (ρ := (List Atom)) (fun (k79 : Nat) (x81 : Atom) (s73 : (List Atom)) =>
   oJ (spec_l01Mapped x81.args x1) fun z97 =>
   oJ (ap s73 ([(Atom.mk x81.rel z97)])) fun z105 =>
   some (.go z105)) x0 0 []) fun s76 =>
 some s76
theorem spec_l03Moved_c {B : Nat → Prop} {x0 : List Atom} {x1 : List Int} (r : (List Atom)) (hR : spec_l03Moved x0 x1 = some r) {v0 : Value} {v1 : Value} (w0 : World) (hN : ∀ c, B c → c < w0.heap.size) (A0 : Bo B w0 (Sl 2 xU) v0 x0) (A1 : Bo B w0 (Sl 1 xK) v1 x1) : Calls Tryz.prog 116 #[v0, v1] w0 (Gv (fun v w' => ∃ (v1' : Value), v = v1' ∧ Sep [] B w0 w' [rl 2 xU 158 v1' r])) := by
 unfold spec_l03Moved at hR
 refine oD (L := [(0, v0), (1, v1)]) func116 rfl rfl rfl (sc rfl (sc rfl sn)) (fun a F => ?_)
 have H := Sep.start hN
 refine xC (xH (xA F rfl rfl fun a F => xF (xG (xC (xH (oR0 (R := xU) underlying93 sizeOf158 F rfl H fun a w v11 H F => xA F rfl rfl fun a F => xF (xG ?_)))))))
 refine xC (xC (xH (xA F rfl rfl fun a F => xF (xG ?_))))
 obtain ⟨o67, hR, hk68⟩ := xS hR
 refine oQ (fun a w => ∃ (s76 : List Atom) (v78 : Value), o67 = .nx s76 ∧ Sk a 31 [(5, v78)] ∧ Sep [] B w0 w [rl 2 xU 158 v78 s76]) ?_ ?_
 ·
  refine oU ?_
  obtain ⟨fl71, hf72, hR⟩ := qP hR
  refine qU (fun g a w => ∃ (k79 : Nat) (rest80 : List Atom) (s73 : List Atom) (v75 : Value), (k79 ≤ x0.length ∧ x0.drop k79 = rest80) ∧ rest80.length = g ∧ qT fl71 rest80 k79 s73 = some o67 ∧ Sk a 31 [(6, .int .i64 (k79 : Int)), (0, v0), (1, v1), (5, v75)] ∧ Sep [] B w0 w [rl 2 xU 158 v75 s73]) x0.length ?_ ?_
  ·
   exact ⟨0, x0, [], v11, ⟨Nat.zero_le _, rfl⟩, rfl, hR, F.sub (sc rfl (sc rfl (sc rfl (sc rfl sn)))), H⟩
  intro g82 a w ⟨k79, rest80, s73, v75, hd83, hg84, hR, F, H⟩
  cases rest80 with
  | nil =>
   replace hR := qS hR
   have hkk79 := qR hd83.1 hd83.2
   have hlk79 := vW hkk79
   refine xC (xC (xH (xB F rfl rfl fun a F => xB F rfl rfl fun a F => oL underlying93 F rfl rfl A0 fun a i135 F => oR F rfl rfl rfl fun a F => xF (xG (vV F rfl hlk79 (qK ?_))))))
   refine qQ (qQ (zT (xG ?_)))
   exact ⟨s73, v75, (Option.some.inj hR).symm, F.sub (sc rfl sn), H⟩
  | cons x81 rest80 =>
   subst hg84
   replace hd83 := qD hd83.2
   have hxk79 := qG hd83.2.1
   obtain ⟨ck79, hR, hn70⟩ := qC hR
   rw [hf72] at hR
   have hlk79 := vA hd83.1
   refine xC (xC (xH (xB F rfl rfl fun a F => xB F rfl rfl fun a F => oL underlying93 F rfl rfl A0 fun a i85 F => oR F rfl rfl rfl fun a F => xF (xG (vZ F rfl hlk79 (xO ?_))))))
   refine xG (xC ?_)
   have ikk79 := k64 (Nat.le_of_lt hd83.1) i85
   have ink79 := zW hd83.1 i85
   refine oU ?_
   obtain ⟨z97, c98, hR⟩ := xI hR
   obtain ⟨z105, c106, hR⟩ := xI hR
   refine xD H (by kernel_rfl) fun w H => zZ 0 rfl (by kernel_rfl) (by kernel_rfl) (by kernel_rfl) (qO F rfl (fun w l => xP F rfl) fun a F => zZ 1 rfl (by kernel_rfl) (by kernel_rfl) (by kernel_rfl) (qO F rfl (fun w l => xP F rfl) fun a F => zZ 2 rfl (by kernel_rfl) (by kernel_rfl) (by kernel_rfl) (qO F rfl (fun w l => xP F rfl) fun a F => b_q 3 (by kernel_rfl) rfl (by kernel_rfl) (by kernel_rfl) (by kernel_rfl) (by kernel_rfl) (vI underlying93 sizeOf158 F rfl rfl rfl A0 hxk79 fun a p116 h117 F => b_q 4 (by kernel_rfl) rfl (by kernel_rfl) (by kernel_rfl) (by kernel_rfl) (by kernel_rfl) (vF (s' := 1) fa158_0 F rfl rfl h117 xU.f0 (fun a p118 h119 F => ?_))))))
   refine b_q 5 (by kernel_rfl) rfl (by kernel_rfl) (by kernel_rfl) (by kernel_rfl) (by kernel_rfl) (vlI isAgg2 F rfl rfl H.v h119 fun a i120 F => zZ 6 rfl (by kernel_rfl) (by kernel_rfl) (by kernel_rfl) (qO F rfl (fun w l => xP F rfl) fun a F => zZ 7 rfl (by kernel_rfl) (by kernel_rfl) (by kernel_rfl) (qO F rfl (fun w l => xP F rfl) fun a F => b_q 8 (by kernel_rfl) rfl (by kernel_rfl) (by kernel_rfl) (by kernel_rfl) (by kernel_rfl) (vI underlying93 sizeOf158 F rfl rfl rfl A0 hxk79 fun a p121 h122 F => b_q 9 (by kernel_rfl) rfl (by kernel_rfl) (by kernel_rfl) (by kernel_rfl) (by kernel_rfl) (vF (s' := 1) fa158_1 F rfl rfl h122 xU.f1 fun a p123 h124 F => b_q 10 (by kernel_rfl) rfl (by kernel_rfl) (by kernel_rfl) (by kernel_rfl) (by kernel_rfl) ?_)))))
   refine vlS isAgg42 F rfl rfl H.v h124 fun a v125 h126 F => zZ 11 rfl (by kernel_rfl) (by kernel_rfl) (by kernel_rfl) (qO F rfl (fun w l => xP F rfl) fun a F => xE H 12 rfl (by kernel_rfl) (oG F rfl call126 rfl (spec_l01Mapped_c z97 c98 _ aA (H.a h126) (H.a A1)) (fun a vv w ⟨v127, hv129, S⟩ F => ?_)))
   subst vv
   have H := H.r1 S n0
   refine xF (xG (⟨⟨_, H⟩, ?_⟩))
   refine xE H 13 rfl (by kernel_rfl) (o_build underlying158 zeroValue158 (fun w => by simp [sizeOf2, sizeOf42]; rfl) F rfl rfl rfl rfl rfl (oc rfl (oc (H.l 0 rfl).one on)) rfl rfl fun a F => xF (xG (⟨⟨_, H⟩, ?_⟩)))
   refine xE H 14 rfl (by kernel_rfl) ?_
   have H := (xU.w i120 H)
   refine oR1L (R := xU) (y := (Atom.mk x81.rel z97)) underlying93 sizeOf158 zeroValue158 rfl rfl F rfl rfl H El.agg fun a w v130 H F => xF (xG (⟨⟨_, H⟩, ?_⟩))
   refine xE H 15 rfl (by kernel_rfl) (oPL (sz := 2) (R := xU) (z := (.agg #[.int .i64 0, (.slice none 0 0)])) (bytes := 32) underlying93 (by kernel_rfl) rfl rfl F rfl rfl rfl (H.s [1, 0] rfl rfl) c106 fun a w v133 H F => xF (xG (⟨⟨_, H⟩, ?_⟩)))
   refine zZ 16 rfl (by kernel_rfl) (by kernel_rfl) (by kernel_rfl) (qO F rfl (fun w l => vO F rfl) fun a F => b_end (by kernel_rfl) (zN (xG (xH (xB F rfl rfl fun a F => vM F rfl rfl rfl ink79 fun a F => xA F rfl rfl fun a F => xF (xG ?_))))))
   replace hR := zH hR hn70
   exact ⟨_, Nat.lt_succ_self _, k79 + 1, rest80, z105, v133, ⟨hd83.1, hd83.2.2⟩, rfl, hR, F.sub (sc rfl (sc rfl (sc rfl (sc rfl sn)))), H⟩
 intro a w ⟨s76, v78, ho69, F, H⟩
 subst ho69
 have hR := xZ hk68
 refine xG (xC (xH (xB F rfl rfl fun a F => xA F rfl rfl fun a F => xF (xG (xW (xR F rfl (oO F rfl) ?_))))))
 obtain rfl := Option.some.inj hR
 exact ⟨_, rfl, v78, rfl, H⟩

def impl_renamed (x0 : List Atom) (x1 : Int → Option Int) : Option (List Atom) :=
 kJ (σ := (List Atom)) (
  qT (σ := (List Atom)) (ρ := (List Atom)) (fun (k136 : Nat) (x138 : Atom) (s130 : (List Atom)) =>
   kJ (σ := (List Int)) (
    qT (σ := (List Int)) (ρ := (Ctl ((List Atom)) (List Atom))) (fun (k213 : Nat) (x215 : Int) (s207 : (List Int)) =>
     oJ (x1 x215) fun z222 =>
     oJ (ap s207 ([z222])) fun z226 =>
     some (.go z226)) x138.args 0 []) fun s210 =>
   oJ (ap s130 ([(Atom.mk x138.rel s210)])) fun z245 =>
   some (.go z245)) x0 0 []) fun s133 =>
 some s133
theorem impl_renamed_c {B : Nat → Prop} {x0 : List Atom} {x1 : Int → Option Int} (r : (List Atom)) (hR : impl_renamed x0 x1 = some r) {v0 : Value} {g1 : FuncId} {lb1 : List Value} (w0 : World) (hN : ∀ c, B c → c < w0.heap.size) (A0 : Bo B w0 (Sl 2 xU) v0 x0) (hg1 : ∀ args w, (callFunc g1 args).run Tryz.prog w = .ok (.enter g1 args) w) (hp1 : ∀ (a0 : Int) (r : Int), x1 a0 = some r → ∀ W, Below w0.heap.size w0 W → xY a0 → Calls Tryz.prog g1 ([.int .i64 a0] ++ lb1 : List Value).toArray W (SaysI r W)) : Calls Tryz.prog 117 #[v0, .func (.func g1) #[] lb1.toArray] w0 (Gv (fun v w' => ∃ (v1' : Value), v = v1' ∧ Sep [] B w0 w' [rl 2 xU 158 v1' r])) := by
 unfold impl_renamed at hR
 refine oD (L := [(0, v0), (1, .func (.func g1) #[] lb1.toArray)]) func117 rfl rfl rfl (sc rfl (sc rfl sn)) (fun a F => ?_)
 have H := Sep.start hN
 refine xC (xH (xA F rfl rfl fun a F => xF (xG (xC (xH (oR0 (R := xU) underlying93 sizeOf158 F rfl H fun a w v11 H F => xA F rfl rfl fun a F => xF (xG ?_)))))))
 refine xC (xC (xH (xB F rfl rfl fun a F => oL underlying93 F rfl rfl A0 fun a i13 F => xB F rfl rfl fun a F => xF (xG ?_))))
 obtain ⟨o124, hR, hk125⟩ := xS hR
 refine oQ (fun a w => ∃ (s133 : List Atom) (v135 : Value), o124 = .nx s133 ∧ Sk a 43 [(5, v135)] ∧ Sep [] B w0 w [rl 2 xU 158 v135 s133]) ?_ ?_
 ·
  refine oU ?_
  obtain ⟨fl128, hf129, hR⟩ := qP hR
  refine qU (fun g a w => ∃ (k136 : Nat) (rest137 : List Atom) (s130 : List Atom) (v132 : Value), (k136 ≤ x0.length ∧ x0.drop k136 = rest137) ∧ rest137.length = g ∧ qT fl128 rest137 k136 s130 = some o124 ∧ Sk a 43 [(14, .int .i64 (k136 : Int)), (1, .func (.func g1) #[] lb1.toArray), (5, v132), (12, v0), (13, .int .i64 (x0.length : Int))] ∧ Sep [] B w0 w [rl 2 xU 158 v132 s130]) x0.length ?_ ?_
  ·
   exact ⟨0, x0, [], v11, ⟨Nat.zero_le _, rfl⟩, rfl, hR, F.sub (sc rfl (sc rfl (sc rfl (sc rfl (sc rfl sn))))), H⟩
  intro g139 a w ⟨k136, rest137, s130, v132, hd140, hg141, hR, F, H⟩
  cases rest137 with
  | nil =>
   replace hR := qS hR
   have hkk136 := qR hd140.1 hd140.2
   have hlk136 := vW hkk136
   refine xC (xH (oR F rfl rfl rfl fun a F => xF (xG (xC (vV F rfl hlk136 (qK (qQ (qQ (zT ?_)))))))))
   refine xG ?_
   exact ⟨s130, v132, (Option.some.inj hR).symm, F.sub (sc rfl sn), H⟩
  | cons x138 rest137 =>
   subst hg141
   replace hd140 := qD hd140.2
   have hxk136 := qG hd140.2.1
   obtain ⟨ck136, hR, hn127⟩ := qC hR
   rw [hf129] at hR
   have hlk136 := vA hd140.1
   refine xC (xH (oR F rfl rfl rfl fun a F => xF (xG (xC (vZ F rfl hlk136 (xO (xG (xC ?_))))))))
   have ikk136 := k64 (Nat.le_of_lt hd140.1) i13
   have ink136 := zW hd140.1 i13
   refine oU (xC (xH (oI underlying93 sizeOf158 F rfl rfl rfl A0 hxk136 fun a p142 h143 F => olA isAgg158 sizeOf158 F rfl rfl H.sm h143 fun a v144 h145 F => oA zeroValue158 F rfl rfl H (fun a w b146 H F => ?_))))
   obtain ⟨v148, rfl, i147, h149⟩ := xU.o h145
   refine oWA (vs := [.int .i64 x138.rel, v148]) sizeOf158 F rfl rfl rfl H (oc rfl (oc (H.a h149).one on)) rfl rfl fun w H => xF (xG (xC (xH (oM fa158_0 F rfl rfl rfl fun a F => oB isAgg2 F rfl rfl (H.b 0 rfl) rfl fun a F => o_build underlying158 zeroValue158 (fun w => by simp [sizeOf2, sizeOf42]; rfl) F rfl rfl rfl rfl rfl (oc rfl on) rfl rfl fun a F => oA zeroValue158 F rfl rfl H fun a w b150 H F => oWA (vs := [.int .i64 x138.rel, (.slice none 0 0)]) sizeOf158 F rfl rfl rfl H (oc rfl (oc rfl on)) rfl rfl fun w H => xF ?_))))
   refine xG (xC (xC (xH (oM fa158_1 F rfl rfl rfl fun a F => oB isAgg42 F rfl rfl (H.b 1 rfl) rfl fun a F => oL underlying42 F rfl rfl h149 fun a i151 F => xB F rfl rfl fun a F => xF (xG ?_)))))
   obtain ⟨o201, hR, hk202⟩ := xS hR
   refine oQ (fun a w => ∃ (s210 : List Int) (v212 : Value), o201 = .nx s210 ∧ Sk a 43 [(1, .func (.func g1) #[] lb1.toArray), (5, v132), (8, .pointer (some ⟨b150, 0, none⟩)), (12, v0), (13, .int .i64 (x0.length : Int)), (14, .int .i64 (k136 : Int))] ∧ Sep [] B w0 w [rl 1 xK 2 v212 s210, bx b150 [.int .i64 x138.rel, v212] 158, rl 2 xU 158 v132 s130]) ?_ ?_
   ·
    refine oU ?_
    obtain ⟨fl205, hf206, hR⟩ := qP hR
    refine qU (fun g a w => ∃ (k213 : Nat) (rest214 : List Int) (s207 : List Int) (v209 : Value), (k213 ≤ x138.args.length ∧ x138.args.drop k213 = rest214) ∧ rest214.length = g ∧ qT fl205 rest214 k213 s207 = some o201 ∧ Sk a 43 [(24, .int .i64 (k213 : Int)), (1, .func (.func g1) #[] lb1.toArray), (5, v132), (8, .pointer (some ⟨b150, 0, none⟩)), (12, v0), (13, .int .i64 (x0.length : Int)), (14, .int .i64 (k136 : Int)), (22, v148), (23, .int .i64 (x138.args.length : Int))] ∧ Sep [] B w0 w [rl 1 xK 2 v209 s207, bx b150 [.int .i64 x138.rel, v209] 158, rl 2 xU 158 v132 s130]) x138.args.length ?_ ?_
    ·
     exact ⟨0, x138.args, [], (.slice none 0 0), ⟨Nat.zero_le _, rfl⟩, rfl, hR, F.sub (sc rfl (sc rfl (sc rfl (sc rfl (sc rfl (sc rfl (sc rfl (sc rfl (sc rfl sn))))))))), ((H.nl 1 xK 2).s [0, 1, 3] rfl rfl)⟩
    intro g216 a w ⟨k213, rest214, s207, v209, hd217, hg218, hR, F, H⟩
    cases rest214 with
    | nil =>
     replace hR := qS hR
     have hkk213 := qR hd217.1 hd217.2
     have hlk213 := vW hkk213
     refine xC (xH (oR F rfl rfl rfl fun a F => xF (xG (xC (vV F rfl hlk213 (qK (qQ (qQ (zT ?_)))))))))
     refine xG ?_
     exact ⟨s207, v209, (Option.some.inj hR).symm, F.sub (sc rfl (sc rfl (sc rfl (sc rfl (sc rfl (sc rfl sn)))))), H⟩
    | cons x215 rest214 =>
     subst hg218
     replace hd217 := qD hd217.2
     have hxk213 := qG hd217.2.1
     obtain ⟨ck213, hR, hn204⟩ := qC hR
     rw [hf206] at hR
     have hlk213 := vA hd217.1
     refine xC (xH (oR F rfl rfl rfl fun a F => xF (xG (xC (vZ F rfl hlk213 (xO (xG (xC ?_))))))))
     have ikk213 := k64 (Nat.le_of_lt hd217.1) i151
     have ink213 := zW hd217.1 i151
     refine oU (xC (xH (oI underlying42 sizeOf2 F rfl rfl rfl h149 hxk213 fun a p219 h220 F => olI isAgg2 F rfl rfl H.sm h220 fun a i221 F => xA F rfl rfl fun a F => xF (xG ?_))))
     obtain ⟨z222, c223, hR⟩ := xI hR
     obtain ⟨z226, c227, hR⟩ := xI hR
     refine xD H (by kernel_rfl) fun w H => dp (fun G => ∀ (v237 : Value) (a : Act) (w : World), Sk a 43 [(1, .func (.func g1) #[] lb1.toArray), (5, v132), (8, .pointer (some ⟨b150, 0, none⟩)), (12, v0), (13, .int .i64 (x0.length : Int)), (14, .int .i64 (k136 : Int)), (22, v148), (23, .int .i64 (x138.args.length : Int)), (24, .int .i64 (k213 : Int)), (29, v209), (33, v237)] → Sep [] B w0 w [rl 1 xK 2 v237 ([z222]), rl 1 xK 2 v209 s207, bx b150 [.int .i64 x138.rel, v209] 158, rl 2 xU 158 v132 s130] → ∀ ls, ls = #[true, true, true, true, true, true, false, false, false] → G 3 ls a w) ?_ (fun H238 => ?_)
     ·
      intro v237 a w F H ls hls
      subst hls
      refine xE H 6 rfl (by kernel_rfl) (oPL (sz := 1) (R := xK) (z := (.int .i64 0)) (bytes := 8) underlying42 (by kernel_rfl) rfl rfl F rfl rfl rfl (H.s [1, 0, 2, 3] rfl rfl) c227 fun a w v239 H F => xF (xG (⟨⟨_, H⟩, ?_⟩)))
      refine b_q 7 (by kernel_rfl) rfl (by kernel_rfl) (by kernel_rfl) (by kernel_rfl) (by kernel_rfl) (qO F rfl (fun w l => zJ fa158_1 F rfl rfl) fun a F => xE H 8 rfl (by kernel_rfl) (oW sizeOf42 F rfl rfl rfl (H.s [1, 0, 2] rfl rfl) ((H.s [1, 0, 2] rfl rfl).l 1 rfl).one rfl rfl fun w H => xF (xG (⟨⟨_, H⟩, ?_⟩))))
      refine b_end (by kernel_rfl) (zN (xG (xH (vM F rfl rfl rfl ink213 fun a F => xB F rfl rfl fun a F => xF (xG ?_)))))
      replace hR := zH hR hn204
      exact ⟨_, Nat.lt_succ_self _, k213 + 1, rest214, z226, v239, ⟨hd217.1, hd217.2.2⟩, rfl, hR, F.sub (sc rfl (sc rfl (sc rfl (sc rfl (sc rfl (sc rfl (sc rfl (sc rfl (sc rfl sn))))))))), (H.s [1, 0, 2] rfl rfl)⟩
     refine dp (fun G => ∀ (a : Act) (w : World), Sk a 43 [(1, .func (.func g1) #[] lb1.toArray), (5, v132), (8, .pointer (some ⟨b150, 0, none⟩)), (12, v0), (13, .int .i64 (x0.length : Int)), (14, .int .i64 (k136 : Int)), (22, v148), (23, .int .i64 (x138.args.length : Int)), (24, .int .i64 (k213 : Int)), (29, v209), (32, .int .i64 z222)] → Sep [] B w0 w [rl 1 xK 2 v209 s207, bx b150 [.int .i64 x138.rel, v209] 158, rl 2 xU 158 v132 s130] → xY z222 → ∀ ls, ls = #[true, true, true, true, true, false, false, false, false] → G 4 ls a w) ?_ (fun H233 => ?_)
     ·
      intro a w F H i232 ls hls
      subst hls
      refine xE H 5 rfl (by kernel_rfl) (oR1z (R := xK) (y := z222) underlying42 sizeOf2 zeroValue2 rfl rfl F rfl rfl H (Eo.int i232) fun a w v234 H F => xF (xG (⟨⟨_, H⟩, ?_⟩)))
      exact H238 v234 _ _ (F.sub (sc rfl (sc rfl (sc rfl (sc rfl (sc rfl (sc rfl (sc rfl (sc rfl (sc rfl (sc rfl (sc rfl sn)))))))))))) H _ (by kernel_rfl)
     refine b_q 0 (by kernel_rfl) rfl (by kernel_rfl) (by kernel_rfl) (by kernel_rfl) (by kernel_rfl) (qO F rfl (fun w l => zJ fa158_1 F rfl rfl) fun a F => zZ 2 rfl (by kernel_rfl) (by kernel_rfl) (by kernel_rfl) (qO F rfl (fun w l => xP F rfl) fun a F => zZ 3 rfl (by kernel_rfl) (by kernel_rfl) (by kernel_rfl) (qO F rfl (fun w l => xP F rfl) fun a F => b_es [1, 4] (by kernel_rfl) (by simp) ⟨⟨_, rfl, ?_⟩, ⟨_, rfl, ?_⟩, trivial⟩)))
     ·
      refine xEs H (oB isAgg42 F rfl rfl (H.b 1 rfl) rfl fun a F => xF (xG (⟨⟨_, H⟩, ?_⟩)))
      refine xE H 4 rfl (by kernel_rfl) (oKIV F rfl rfl hg1 rfl H (hp1 _ z222 c223 _ H.bl i221) fun a w H iz222 F => xF (xG (⟨⟨_, H⟩, ?_⟩)))
      exact H233 _ _ (F.sub (sc rfl (sc rfl (sc rfl (sc rfl (sc rfl (sc rfl (sc rfl (sc rfl (sc rfl (sc rfl (sc rfl sn)))))))))))) H iz222 _ (by kernel_rfl)
     refine xEs H (oKIV F rfl rfl hg1 rfl H (hp1 _ z222 c223 _ H.bl i221) fun a w H iz222 F => xF (xG (⟨⟨_, H⟩, ?_⟩)))
     refine b_es [1, 5] (by kernel_rfl) (by simp) ⟨⟨_, rfl, ?_⟩, ⟨_, rfl, ?_⟩, trivial⟩
     ·
      refine xEs H (oB isAgg42 F rfl rfl (H.b 1 rfl) rfl fun a F => xF (xG (⟨⟨_, H⟩, ?_⟩)))
      exact H233 _ _ (F.sub (sc rfl (sc rfl (sc rfl (sc rfl (sc rfl (sc rfl (sc rfl (sc rfl (sc rfl (sc rfl (sc rfl sn)))))))))))) H iz222 _ (by kernel_rfl)
     refine xEs H (oR1z (R := xK) (y := z222) underlying42 sizeOf2 zeroValue2 rfl rfl F rfl rfl H (Eo.int iz222) fun a w v230 H F => xF (xG (⟨⟨_, H⟩, ?_⟩)))
     refine xE H 1 rfl (by kernel_rfl) (oB isAgg42 F rfl rfl (H.b 2 rfl) rfl fun a F => xF (xG (⟨⟨_, H⟩, ?_⟩)))
     exact H238 v230 _ _ (F.sub (sc rfl (sc rfl (sc rfl (sc rfl (sc rfl (sc rfl (sc rfl (sc rfl (sc rfl (sc rfl (sc rfl sn)))))))))))) H _ (by kernel_rfl)
   intro a w ⟨s210, v212, ho203, F, H⟩
   subst ho203
   have hR := xZ hk202
   refine xG (xH (xB F rfl rfl fun a F => oBA isAgg158 sizeOf158 F rfl rfl (H.b 1 rfl) rfl rfl (fun a F => ?_)))
   have H := (xU.w i147 H)
   refine oR1L (R := xU) (y := (Atom.mk x138.rel s210)) underlying93 sizeOf158 zeroValue158 rfl rfl F rfl rfl H El.agg (fun a w v242 H F => ?_)
   obtain ⟨z245, c246, hR⟩ := xI hR
   refine oPL (sz := 2) (R := xU) (z := (.agg #[.int .i64 0, (.slice none 0 0)])) (bytes := 32) underlying93 (by kernel_rfl) rfl rfl F rfl rfl rfl (H.s [2, 0, 1] rfl rfl) c246 fun a w v247 H F => xA F rfl rfl fun a F => xF (zN (xG (xH (vM F rfl rfl rfl ink136 fun a F => xB F rfl rfl fun a F => xF (xG ?_)))))
   replace hR := zH hR hn127
   exact ⟨_, Nat.lt_succ_self _, k136 + 1, rest137, z245, v247, ⟨hd140.1, hd140.2.2⟩, rfl, hR, F.sub (sc rfl (sc rfl (sc rfl (sc rfl (sc rfl sn))))), (H.s [0] rfl rfl)⟩
 intro a w ⟨s133, v135, ho126, F, H⟩
 subst ho126
 have hR := xZ hk125
 refine xG (xC (xH (xB F rfl rfl fun a F => xA F rfl rfl fun a F => xF (xG (xW (xR F rfl (oO F rfl) ?_))))))
 obtain rfl := Option.some.inj hR
 exact ⟨_, rfl, v135, rfl, H⟩
end Go.Proofs.YtmgdjaiaekhkgaaGreat
