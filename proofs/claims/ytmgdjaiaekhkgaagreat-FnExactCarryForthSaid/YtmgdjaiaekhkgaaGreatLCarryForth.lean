/-
  Laws of the program as plain functions, and that they compute them. Printed by slaw.py.
-/
import Derived.Test.YtmgdjaiaekhkgaaGreatS7
import Derived.Test.YtmgdjaiaekhkgaaGreatNY
import Derived.Test.YtmgdjaiaekhkgaaGreatL1
import Derived.Test.YtmgdjaiaekhkgaaGreatL2
import Derived.Test.YtmgdjaiaekhkgaaGreatL3
import Derived.Test.YtmgdjaiaekhkgaaGreatL6
namespace Go.Proofs.YtmgdjaiaekhkgaaGreat
open Go.Proofs.Tryz
set_option linter.unusedVariables false
set_option linter.unusedSimpArgs false
set_option maxRecDepth 100000
open Go.RowKit
noncomputable section
def laws_FnExactCarryForth (N : Nat) (x0 : Template) (x1 : Template) (x2 : Gadgets) (x3 : Instance) (x4 : List Int) : Option Bool :=
 if (decide (1048576 < (x4.length : Int))) then
  some true
 else
  oJ (szq 1048576 ((Template.mk x0.size x0.rels).sz)) fun z28 =>
  if (decide (z28 < 0)) then
   some true
  else
   oJ (szq z28 ((Template.mk x1.size x1.rels).sz)) fun z31 =>
   if (decide (z31 < 0)) then
    some true
   else
    oJ (szq z31 ((Gadgets.mk x2.formulas).sz)) fun z34 =>
    if (decide (z34 < 0)) then
     some true
    else
     oJ (szq z34 ((Instance.mk x3.vars x3.cons).sz)) fun z37 =>
     if (decide (z37 < 0)) then
      some true
     else
      oJ (toq ((Template.mk x0.size x0.rels).sz)) fun z40 =>
      oJ (toq ((Template.mk x1.size x1.rels).sz)) fun z44 =>
      oJ (toq ((Gadgets.mk x2.formulas).sz)) fun z48 =>
      oJ (toq ((Instance.mk x3.vars x3.cons).sz)) fun z52 =>
      oJ (toq (x4.length)) fun z56 =>
      oJ (spec_CarryForth N (Template.mk x0.size x0.rels) (Template.mk x1.size x1.rels) (Gadgets.mk x2.formulas) (Instance.mk x3.vars x3.cons) x4) fun z71 =>
      oJ (impl_CarryForth N (Template.mk x0.size x0.rels) (Template.mk x1.size x1.rels) (Gadgets.mk x2.formulas) (Instance.mk x3.vars x3.cons) x4) fun z137 =>
      kJ (σ := Bool) (
       oJ (eqq z137.1 z71.1) fun z150 =>
       if (!z150) then  some (.nx true) else  some (.nx (z137.2 != z71.2))) fun s149 =>
      if s149 then
       some false
      else
       oJ (eqq (Template.mk x0.size x0.rels) (Template.mk x0.size x0.rels)) fun z156 =>
       if (!z156) then
        some false
       else
        oJ (eqq (Template.mk x1.size x1.rels) (Template.mk x1.size x1.rels)) fun z170 =>
        if (!z170) then
         some false
        else
         oJ (eqq (Gadgets.mk x2.formulas) (Gadgets.mk x2.formulas)) fun z184 =>
         if (!z184) then
          some false
         else
          oJ (eqq (Instance.mk x3.vars x3.cons) (Instance.mk x3.vars x3.cons)) fun z198 =>
          if (!z198) then
           some false
          else
           oJ (eqq x4 x4) fun z212 =>
           if (!z212) then
            some false
           else
            oJ (mkq 1 ((Template.mk x0.size x0.rels).cnt)) fun z215 =>
            oJ (mkq z215 ((Template.mk x1.size x1.rels).cnt)) fun z217 =>
            oJ (mkq z217 ((Gadgets.mk x2.formulas).cnt)) fun z219 =>
            oJ (mkq z219 ((Instance.mk x3.vars x3.cons).cnt)) fun z221 =>
            oJ (mkq z221 (qM cI x4)) fun z223 =>
            kJ (σ := Bool) (
             if (decide (z223 < 0)) then  some (.nx true) else  oJ (eqq z137.1 z71.1) fun z234 =>
              if (!z234) then  some (.nx true) else  some (.nx (z137.2 != z71.2))) fun s232 =>
            if s232 then
             some false
            else
             oJ (mkq 1 (qM cI z137.1)) fun z238 =>
             if (decide (z238 < 0)) then
              some false
             else
              if (z238 != z238) then
               some false
              else
               kJ (σ := Bool) (
                oJ (eqq z137.1 z71.1) fun z277 =>
                if (!z277) then  some (.nx true) else  some (.nx (z137.2 != z71.2))) fun s276 =>
               if s276 then
                some false
               else
                if (decide (z238 < 0)) then
                 some false
                else
                 if (z238 != z238) then
                  some false
                 else
                  some true
set_option maxHeartbeats 1000000 in
theorem laws_FnExactCarryForth_c {B : Nat → Prop} {N : Nat} {x0 : Template} {x1 : Template} {x2 : Gadgets} {x3 : Instance} {x4 : List Int} (r : Bool) (hR : laws_FnExactCarryForth N x0 x1 x2 x3 x4 = some r) {v0 : Value} {v1 : Value} {v2 : Value} {v3 : Value} {v4 : Value} (w0 : World) (hN : ∀ c, B c → c < w0.heap.size) (A0 : Bo B w0 (qH 2 xJ) v0 x0) (A1 : Bo B w0 (qH 2 xJ) v1 x1) (A2 : Bo B w0 (qH 1 xV) v2 x2) (A3 : Bo B w0 (qH 2 xM) v3 x3) (A4 : Bo B w0 (Sl 1 xK) v4 x4) : Calls Tryz.prog 9 #[v0, v1, v2, v3, v4] w0 (vR (.bool r) w0) := by
 unfold laws_FnExactCarryForth at hR
 refine oD (L := [(0, v0), (1, v1), (2, v2), (3, v3), (4, v4)]) func9 rfl rfl rfl (sc rfl (sc rfl (sc rfl (sc rfl (sc rfl sn))))) (fun a F => ?_)
 have H := Sep.start hN
 refine xC (xH ?_)
 obtain ⟨v12, rfl, i11, h13⟩ := xJ.o A0
 refine oX F rfl rfl rfl H (fun a w b14 H F => ?_)
 obtain ⟨v16, rfl, i15, h17⟩ := xJ.o A1
 refine oX F rfl rfl rfl H (fun a w b18 H F => ?_)
 obtain ⟨v19, rfl, h20⟩ := xV.o A2
 refine oX F rfl rfl rfl H (fun a w b21 H F => ?_)
 obtain ⟨v23, rfl, i22, h24⟩ := xM.o A3
 refine oX F rfl rfl rfl H fun a w b25 H F => xA F rfl rfl fun a F => xF (xG (xC (xC (xH (xB F rfl rfl fun a F => oL underlying42 F rfl rfl A4 fun a i26 F => o_gtr F rfl rfl rfl fun a F => xF ?_)))))
 refine xG (vC F rfl (fun hb27 => ?_) (fun hb27 => ?_))
 ·
  replace hR := zD hb27 hR
  refine xC (xH (xA F rfl rfl fun a F => xF (xG (xW (oV (xR F rfl (oO F rfl) ?_))))))
  obtain rfl := Option.some.inj hR
  exact ⟨rfl, H.bl⟩
 replace hR := zE hb27 hR
 refine xO (xG (xC (xH (xA F rfl rfl fun a F => xF (xG (xC (xH (oBA isAgg24 sizeOf24 F rfl rfl (H.b 3 rfl) rfl rfl fun a F => xB F rfl rfl (fun a F => ?_)))))))))
 obtain ⟨z28, c29, hR⟩ := xI hR
 refine nSz (V := qH 2 xJ) F rfl call10 rfl H (xJ.m i11 (H.a h13)) c29 (fun h h0 h1 => szTemplate_any _ _ _ _ _ h.r h.m h0 h1) fun a w H iz28 F => xA F rfl rfl fun a F => xF (xG (xC (xC (xH (xB F rfl rfl fun a F => oR F rfl rfl rfl fun a F => xF (xG ?_))))))
 refine vC F rfl (fun hb30 => ?_) (fun hb30 => ?_)
 ·
  replace hR := zD hb30 hR
  refine xC (xH (xA F rfl rfl fun a F => xF (xG (xW (oV (xR F rfl (oO F rfl) ?_))))))
  obtain rfl := Option.some.inj hR
  exact ⟨rfl, H.bl⟩
 replace hR := zE hb30 hR
 refine xO (xG (xC (xH (oBA isAgg24 sizeOf24 F rfl rfl (H.b 2 rfl) rfl rfl fun a F => xB F rfl rfl (fun a F => ?_)))))
 obtain ⟨z31, c32, hR⟩ := xI hR
 refine nSz (V := qH 2 xJ) F rfl call10 rfl H (xJ.m i15 (H.a h17)) c32 (fun h h0 h1 => szTemplate_any _ _ _ _ _ h.r h.m h0 h1) fun a w H iz31 F => xA F rfl rfl fun a F => xF (xG (xC (xC (xH (xB F rfl rfl fun a F => oR F rfl rfl rfl fun a F => xF (xG ?_))))))
 refine vC F rfl (fun hb33 => ?_) (fun hb33 => ?_)
 ·
  replace hR := zD hb33 hR
  refine xC (xH (xA F rfl rfl fun a F => xF (xG (xW (oV (xR F rfl (oO F rfl) ?_))))))
  obtain rfl := Option.some.inj hR
  exact ⟨rfl, H.bl⟩
 replace hR := zE hb33 hR
 refine xO (xG (xC (xH (oBA isAgg27 sizeOf27 F rfl rfl (H.b 1 rfl) rfl rfl fun a F => xB F rfl rfl (fun a F => ?_)))))
 obtain ⟨z34, c35, hR⟩ := xI hR
 refine nSz (V := qH 1 xV) F rfl call11 rfl H (xV.m (H.a h20)) c35 (fun h h0 h1 => szGadgets_any _ _ _ _ _ h.r h.m h0 h1) fun a w H iz34 F => xA F rfl rfl fun a F => xF (xG (xC (xC (xH (xB F rfl rfl fun a F => oR F rfl rfl rfl fun a F => xF (xG ?_))))))
 refine vC F rfl (fun hb36 => ?_) (fun hb36 => ?_)
 ·
  replace hR := zD hb36 hR
  refine xC (xH (xA F rfl rfl fun a F => xF (xG (xW (oV (xR F rfl (oO F rfl) ?_))))))
  obtain rfl := Option.some.inj hR
  exact ⟨rfl, H.bl⟩
 replace hR := zE hb36 hR
 refine xO (xG (xC (xH (oBA isAgg54 sizeOf54 F rfl rfl (H.b 0 rfl) rfl rfl fun a F => xB F rfl rfl (fun a F => ?_)))))
 obtain ⟨z37, c38, hR⟩ := xI hR
 refine nSz (V := qH 2 xM) F rfl call28 rfl H (xM.m i22 (H.a h24)) c38 (fun h h0 h1 => szInstance_any _ _ _ _ _ h.r h.m h0 h1) fun a w H iz37 F => xA F rfl rfl fun a F => xF (xG (xC (xC (xH (xB F rfl rfl fun a F => oR F rfl rfl rfl fun a F => xF (xG ?_))))))
 refine vC F rfl (fun hb39 => ?_) (fun hb39 => ?_)
 ·
  replace hR := zD hb39 hR
  refine xC (xH (xA F rfl rfl fun a F => xF (xG (xW (oV (xR F rfl (oO F rfl) ?_))))))
  obtain rfl := Option.some.inj hR
  exact ⟨rfl, H.bl⟩
 replace hR := zE hb39 hR
 refine xO (xG (xC ?_))
 obtain ⟨z40, c41, hR⟩ := xI hR
 obtain ⟨z44, c45, hR⟩ := xI hR
 obtain ⟨z48, c49, hR⟩ := xI hR
 obtain ⟨z52, c53, hR⟩ := xI hR
 obtain ⟨z56, c57, hR⟩ := xI hR
 obtain ⟨z71, c72, hR⟩ := xI hR
 obtain ⟨w82, rfl⟩ : ∃ x, x = w := ⟨_, rfl⟩
 obtain ⟨X77, N78, g79, e80, H, th81⟩ := H.mg.mg.mg.fz
 have K83 := g79.l.l.l.bk
 have K84 := g79.l.l.r.bk
 have K85 := g79.l.r.bk
 have K86 := g79.r.bk
 refine xD H (by kernel_rfl) fun w H => b_q 0 (by kernel_rfl) rfl (by kernel_rfl) (by kernel_rfl) (by kernel_rfl) (by kernel_rfl) (vBA isAgg24 sizeOf24 F rfl rfl (K86.v H.sm) rfl rfl fun a F => b_q 2 (by kernel_rfl) rfl (by kernel_rfl) (by kernel_rfl) (by kernel_rfl) (by kernel_rfl) (vBA isAgg24 sizeOf24 F rfl rfl (K85.v H.sm) rfl rfl fun a F => b_q 4 (by kernel_rfl) rfl (by kernel_rfl) (by kernel_rfl) (by kernel_rfl) (by kernel_rfl) (vBA isAgg27 sizeOf27 F rfl rfl (K84.v H.sm) rfl rfl fun a F => b_q 6 (by kernel_rfl) rfl (by kernel_rfl) (by kernel_rfl) (by kernel_rfl) (by kernel_rfl) (vBA isAgg54 sizeOf54 F rfl rfl (K83.v H.sm) rfl rfl fun a F => zZ 8 rfl (by kernel_rfl) (by kernel_rfl) (by kernel_rfl) (qO F rfl (fun w l => xP F rfl) (fun a F => ?_))))))
 refine xE H 1 rfl (by kernel_rfl) (nTo (V := qH 2 xJ) F rfl call13 rfl H (xJ.m i11 (H.a (e80 h13))) (fun h => toTemplate_any _ _ _ _ h.r h.m (kH c41)) fun a w v87 H F => xF (xG (⟨⟨_, H⟩, ?_⟩)))
 refine xE H 3 rfl (by kernel_rfl) (nTo (V := qH 2 xJ) F rfl call13 rfl H (xJ.m i15 (H.a (e80 h17))) (fun h => toTemplate_any _ _ _ _ h.r h.m (kH c45)) fun a w v89 H F => xF (xG (⟨⟨_, H⟩, ?_⟩)))
 refine xE H 5 rfl (by kernel_rfl) (nTo (V := qH 1 xV) F rfl call14 rfl H (xV.m (H.a (e80 h20))) (fun h => toGadgets_any _ _ _ _ h.r h.m (kH c49)) fun a w v91 H F => xF (xG (⟨⟨_, H⟩, ?_⟩)))
 refine xE H 7 rfl (by kernel_rfl) (nTo (V := qH 2 xM) F rfl call30 rfl H (xM.m i22 (H.a (e80 h24))) (fun h => toInstance_any _ _ _ _ h.r h.m (kH c53)) fun a w v93 H F => xF (xG (⟨⟨_, H⟩, ?_⟩)))
 refine xE H 9 rfl (by kernel_rfl) (nTo (V := Sl 1 xK) F rfl call36 rfl H (H.a (e80 A4)) (fun h => toInt64S_any _ _ _ _ h.r h.m (kH c57)) fun a w v95 H F => xF (xG (⟨⟨_, H⟩, ?_⟩)))
 refine xE H 10 rfl (by kernel_rfl) ?_
 obtain ⟨w102, rfl⟩ : ∃ x, x = w := ⟨_, rfl⟩
 obtain ⟨X97, N98, g99, e100, H, th101⟩ := (H.s [4, 3, 2, 1, 0] rfl rfl).mg.mg.mg.mg.fz
 have h103 := g99.l.l.l.l.od
 have h104 := g99.l.l.l.r.od
 have h105 := g99.l.l.r.od
 have h106 := g99.l.r.od
 have h107 := g99.r.od
 refine oG F rfl call40 rfl (spec_CarryForth_c z71 c72 _ H.hN (H.u h103) (H.u h104) (H.u h105) (H.u h106) (H.u h107)) (fun a vv w ⟨v108, hv111, S, i110⟩ F => ?_)
 subst vv
 have H := H.r1 S n1
 refine xF (xG (⟨⟨_, (th101.2.1 H (Ns.all trivial))⟩, ?_⟩))
 refine zZ 11 rfl (by kernel_rfl) (by kernel_rfl) (by kernel_rfl) (qO F rfl (fun w l => xP F rfl) fun a F => zZ 12 rfl (by kernel_rfl) (by kernel_rfl) (by kernel_rfl) (qO F rfl (fun w l => r_extract F rfl rfl) fun a F => zZ 13 rfl (by kernel_rfl) (by kernel_rfl) (by kernel_rfl) (qO F rfl (fun w l => r_extract F rfl rfl) fun a F => zZ 14 rfl (by kernel_rfl) (by kernel_rfl) (by kernel_rfl) (qO F rfl (fun w l => vO F rfl) fun a F => zZ 15 rfl (by kernel_rfl) (by kernel_rfl) (by kernel_rfl) (qO F rfl (fun w l => vO F rfl) fun a F => b_end (by kernel_rfl) ?_)))))
 refine xG (xC (xH (oBA isAgg24 sizeOf24 F rfl rfl ((K86.lf e100).o H.sm) rfl rfl fun a F => nTo (V := qH 2 xJ) F rfl call13 rfl H (xJ.m i11 (H.a (e100 (e80 h13)))) (fun h => toTemplate_any _ _ _ _ h.r h.m (kH c41)) fun a w v112 H F => oA zeroValue33 F rfl rfl H (fun a w b114 H F => ?_))))
 obtain ⟨v116, rfl, i115, h117⟩ := xJ.o (H.o 1 rfl)
 refine oWA (vs := [.int .i64 ((Template.mk x0.size x0.rels).size), v116]) sizeOf33 F rfl rfl rfl H (oc rfl (oc h117.one on)) rfl rfl fun w H => xF (xG (xC (xH (oBA isAgg24 sizeOf24 F rfl rfl ((K85.lf e100).o H.sm) rfl rfl fun a F => nTo (V := qH 2 xJ) F rfl call13 rfl H (xJ.m i15 (H.a (e100 (e80 h17)))) (fun h => toTemplate_any _ _ _ _ h.r h.m (kH c45)) fun a w v118 H F => oA zeroValue33 F rfl rfl H (fun a w b120 H F => ?_)))))
 obtain ⟨v122, rfl, i121, h123⟩ := xJ.o (H.o 1 rfl)
 refine oWA (vs := [.int .i64 ((Template.mk x1.size x1.rels).size), v122]) sizeOf33 F rfl rfl rfl H (oc rfl (oc h123.one on)) rfl rfl fun w H => xF (xG (xC (xH (oBA isAgg27 sizeOf27 F rfl rfl ((K84.lf e100).o H.sm) rfl rfl fun a F => nTo (V := qH 1 xV) F rfl call14 rfl H (xV.m (H.a (e100 (e80 h20)))) (fun h => toGadgets_any _ _ _ _ h.r h.m (kH c49)) fun a w v124 H F => oA zeroValue37 F rfl rfl H (fun a w b126 H F => ?_)))))
 obtain ⟨v127, rfl, h128⟩ := xV.o (H.o 1 rfl)
 refine oWA (vs := [v127]) sizeOf37 F rfl rfl rfl H (oc h128.one on) rfl rfl fun w H => xF (xG (xC (xH (oBA isAgg54 sizeOf54 F rfl rfl ((K83.lf e100).o H.sm) rfl rfl fun a F => nTo (V := qH 2 xM) F rfl call30 rfl H (xM.m i22 (H.a (e100 (e80 h24)))) (fun h => toInstance_any _ _ _ _ h.r h.m (kH c53)) fun a w v129 H F => oA zeroValue58 F rfl rfl H (fun a w b131 H F => ?_)))))
 obtain ⟨v133, rfl, i132, h134⟩ := xM.o (H.o 1 rfl)
 refine oWA (vs := [.int .i64 ((Instance.mk x3.vars x3.cons).vars), v133]) sizeOf58 F rfl rfl rfl H (oc rfl (oc h134.one on)) rfl rfl fun w H => xF (xG (xC (xH (xB F rfl rfl fun a F => nTo (V := Sl 1 xK) F rfl call36 rfl H (H.a (e100 (e80 A4))) (fun h => toInt64S_any _ _ _ _ h.r h.m (kH c57)) fun a w v135 H F => xA F rfl rfl fun a F => xF (xG (xC ?_))))))
 refine xH (oBA isAgg33 sizeOf33 F rfl rfl (H.b 7 rfl) rfl rfl fun a F => oBA isAgg33 sizeOf33 F rfl rfl (H.b 5 rfl) rfl rfl fun a F => oBA isAgg37 sizeOf37 F rfl rfl (H.b 3 rfl) rfl rfl fun a F => oBA isAgg58 sizeOf58 F rfl rfl (H.b 1 rfl) rfl rfl fun a F => xB F rfl rfl (fun a F => ?_))
 obtain ⟨z137, c138, hR⟩ := xI hR
 refine oG F rfl call41 rfl (impl_CarryForth_c z137 c138 _ aA (H.o 8 rfl) (H.o 6 rfl) (H.o 4 rfl) (H.o 2 rfl) (H.o 0 rfl)) (fun a vv w ⟨v139, hv142, S, i141⟩ F => ?_)
 subst vv
 have H := H.r1 S n0
 refine xB F rfl rfl fun a F => vE F rfl rfl rfl fun a F => vE F rfl rfl rfl fun a F => xA F rfl rfl fun a F => xA F rfl rfl fun a F => xF (xG (xC (xC ?_)))
 obtain ⟨o146, hR, hk147⟩ := xS hR
 refine oQ (fun a w => ∃ (s149 : Bool), o146 = .nx s149 ∧ Sk a 186 [(4, v4), (5, .pointer (some ⟨b14, 0, none⟩)), (6, .pointer (some ⟨b18, 0, none⟩)), (7, .pointer (some ⟨b21, 0, none⟩)), (8, .pointer (some ⟨b25, 0, none⟩)), (12, v108), (13, .int .i64 z71.2), (14, .pointer (some ⟨b114, 0, none⟩)), (15, .pointer (some ⟨b120, 0, none⟩)), (16, .pointer (some ⟨b126, 0, none⟩)), (17, .pointer (some ⟨b131, 0, none⟩)), (18, v135), (19, v139), (20, .int .i64 z137.2), (90, .bool s149)] ∧ Sep X97 N98 w102 w [rl 1 xK 2 v139 z137.1, ow (V := (Sl 1 xK)) v135 x4, bx b131 [.int .i64 ((Instance.mk x3.vars x3.cons).vars), v133] 58, ow (V := (qH 2 xM)) (.agg #[.int .i64 ((Instance.mk x3.vars x3.cons).vars), v133]) (Instance.mk x3.vars x3.cons), bx b126 [v127] 37, ow (V := (qH 1 xV)) (.agg #[v127]) (Gadgets.mk x2.formulas), bx b120 [.int .i64 ((Template.mk x1.size x1.rels).size), v122] 33, ow (V := (qH 2 xJ)) (.agg #[.int .i64 ((Template.mk x1.size x1.rels).size), v122]) (Template.mk x1.size x1.rels), bx b114 [.int .i64 ((Template.mk x0.size x0.rels).size), v116] 33, ow (V := (qH 2 xJ)) (.agg #[.int .i64 ((Template.mk x0.size x0.rels).size), v116]) (Template.mk x0.size x0.rels), ro N98 (V := (Sl 1 xK)) v108 z71.1]) ?_ ?_
 ·
  refine xH (xB F rfl rfl fun a F => xB F rfl rfl (fun a F => ?_))
  obtain ⟨z150, c151, hR⟩ := xI hR
  refine nEq (V := Sl 1 xK) F rfl call20 rfl H (H.l 0 rfl) (H.ro 10 rfl) c151 (fun h g => eqInt64S_any _ _ _ _ _ _ h.r g.r h.m g.m) fun a w H F => kE F rfl rfl fun a F => xB F rfl rfl (fun a F => ?_)
  rcases vD (!z150) with hb152 | hb152
  ·
   replace hR := zD hb152 hR
   have F := F.eq (t := 86) rfl (congrArg Value.bool hb152)
   refine oH F rfl rfl fun a F => oH F rfl rfl fun a F => oH F rfl rfl fun a F => vH F rfl rfl rfl fun a F => xF (xG ?_)
   exact ⟨true, (Option.some.inj hR).symm, F.sub (sc rfl (sc rfl (sc rfl (sc rfl (sc rfl (sc rfl (sc rfl (sc rfl (sc rfl (sc rfl (sc rfl (sc rfl (sc rfl (sc rfl (sc rfl sn))))))))))))))), H⟩
  replace hR := zE hb152 hR
  have F := F.eq (t := 86) rfl (congrArg Value.bool hb152)
  refine xB F rfl rfl fun a F => xB F rfl rfl fun a F => o_neq F rfl rfl rfl fun a F => qZ F rfl rfl rfl fun a F => xF (xG ?_)
  exact ⟨(z137.2 != z71.2), (Option.some.inj hR).symm, F.sub (sc rfl (sc rfl (sc rfl (sc rfl (sc rfl (sc rfl (sc rfl (sc rfl (sc rfl (sc rfl (sc rfl (sc rfl (sc rfl (sc rfl (sc rfl sn))))))))))))))), H⟩
 intro a w ⟨s149, ho148, F, H⟩
 subst ho148
 have hR := xZ hk147
 refine xG (vC F rfl (fun hb153 => ?_) (fun hb153 => ?_))
 ·
  replace hR := zD hb153 hR
  refine xC (xH (xA F rfl rfl fun a F => xF (xG (xW (oV ?_)))))
  have H := (th81.1 (th101.1 (H.s [0, 1, 2, 3, 4, 5, 6, 7, 8, 9] rfl rfl) (Ns.all ⟨n0, ⟨n0, ⟨n0, ⟨n0, ⟨n0, ⟨n0, ⟨n0, ⟨n0, ⟨n0, ⟨n0, trivial⟩⟩⟩⟩⟩⟩⟩⟩⟩⟩)).um.um.um.um (Ns.all ⟨n0, ⟨n0, ⟨n0, ⟨n0, ⟨n0, ⟨n0, ⟨n0, ⟨n0, ⟨n0, ⟨n0, ⟨n0, ⟨n0, ⟨n0, ⟨n0, ⟨n0, trivial⟩⟩⟩⟩⟩⟩⟩⟩⟩⟩⟩⟩⟩⟩⟩)).um.um.um
  refine xR F rfl (oO F rfl) ?_
  obtain rfl := Option.some.inj hR
  exact ⟨rfl, H.bl⟩
 replace hR := zE hb153 hR
 refine xO (xG (xC (xC ?_)))
 obtain ⟨z156, c157, hR⟩ := xI hR
 obtain ⟨w163, rfl⟩ : ∃ x, x = w := ⟨_, rfl⟩
 obtain ⟨X158, N159, g160, e161, H, th162⟩ := (H.s [8, 0, 1, 2, 3, 4, 5, 6, 7, 9, 10] rfl rfl).fz
 have K164 := g160.bk
 refine xD H (by kernel_rfl) fun w H => b_q 0 (by kernel_rfl) rfl (by kernel_rfl) (by kernel_rfl) (by kernel_rfl) (by kernel_rfl) (vBA isAgg33 sizeOf33 F rfl rfl (K164.v H.sm) rfl rfl fun a F => b_q 1 (by kernel_rfl) rfl (by kernel_rfl) (by kernel_rfl) (by kernel_rfl) (by kernel_rfl) (vBA isAgg24 sizeOf24 F rfl rfl (((K86.lf e100).lf e161).v H.sm) rfl rfl fun a F => xE H 2 rfl (by kernel_rfl) (nTo (V := qH 2 xJ) F rfl call13 rfl H (xJ.m i11 (H.a (e161 (e100 (e80 h13))))) (fun h => toTemplate_any _ _ _ _ h.r h.m (kH c41)) fun a w v165 H F => xF (xG (⟨⟨_, H⟩, ?_⟩)))))
 refine xE H 3 rfl (by kernel_rfl) (nEq (V := qH 2 xJ) F rfl call16 rfl H (H.o 9 rfl) (H.o 0 rfl) c157 (fun h g => eqTemplate_any _ _ _ _ _ _ h.r g.r h.m g.m) fun a w H F => xF (xG (⟨⟨_, H⟩, ?_⟩)))
 refine zZ 4 rfl (by kernel_rfl) (by kernel_rfl) (by kernel_rfl) (qO F rfl (fun w l => r_not F rfl) fun a F => b_end (by kernel_rfl) (xG (vC F rfl (fun hb167 => ?_) (fun hb167 => ?_))))
 ·
  replace hR := zD hb167 hR
  refine xC (xH (xA F rfl rfl fun a F => xF (xG (xW (oV ?_)))))
  have H := (th81.1 (th101.1 ((th162.1 H (Ns.all ⟨n0, ⟨n0, ⟨n0, ⟨n0, ⟨n0, ⟨n0, ⟨n0, ⟨n0, ⟨n0, ⟨n0, ⟨n1, trivial⟩⟩⟩⟩⟩⟩⟩⟩⟩⟩⟩)).s [0, 1, 2, 3, 4, 5, 6, 7, 8, 9, 10] rfl rfl) (Ns.all ⟨n0, ⟨n0, ⟨n0, ⟨n0, ⟨n0, ⟨n0, ⟨n0, ⟨n0, ⟨n0, ⟨n0, ⟨n0, trivial⟩⟩⟩⟩⟩⟩⟩⟩⟩⟩⟩)).um.um.um.um (Ns.all ⟨n0, ⟨n0, ⟨n0, ⟨n0, ⟨n0, ⟨n0, ⟨n0, ⟨n0, ⟨n0, ⟨n0, ⟨n0, ⟨n0, ⟨n0, ⟨n0, ⟨n0, ⟨n0, trivial⟩⟩⟩⟩⟩⟩⟩⟩⟩⟩⟩⟩⟩⟩⟩⟩)).um.um.um
  refine xR F rfl (oO F rfl) ?_
  obtain rfl := Option.some.inj hR
  exact ⟨rfl, H.bl⟩
 replace hR := zE hb167 hR
 refine xO (xG (xC (xC ?_)))
 obtain ⟨z170, c171, hR⟩ := xI hR
 obtain ⟨w177, rfl⟩ : ∃ x, x = w := ⟨_, rfl⟩
 obtain ⟨X172, N173, g174, e175, H, th176⟩ := (H.s [7, 0, 1, 2, 3, 4, 5, 6, 8, 9, 10] rfl rfl).fz
 have K178 := g174.bk
 refine xD H (by kernel_rfl) fun w H => b_q 0 (by kernel_rfl) rfl (by kernel_rfl) (by kernel_rfl) (by kernel_rfl) (by kernel_rfl) (vBA isAgg33 sizeOf33 F rfl rfl (K178.v H.sm) rfl rfl fun a F => b_q 1 (by kernel_rfl) rfl (by kernel_rfl) (by kernel_rfl) (by kernel_rfl) (by kernel_rfl) (vBA isAgg24 sizeOf24 F rfl rfl ((((K85.lf e100).lf e161).lf e175).v H.sm) rfl rfl fun a F => xE H 2 rfl (by kernel_rfl) (nTo (V := qH 2 xJ) F rfl call13 rfl H (xJ.m i15 (H.a (e175 (e161 (e100 (e80 h17)))))) (fun h => toTemplate_any _ _ _ _ h.r h.m (kH c45)) fun a w v179 H F => xF (xG (⟨⟨_, H⟩, ?_⟩)))))
 refine xE H 3 rfl (by kernel_rfl) (nEq (V := qH 2 xJ) F rfl call16 rfl H (H.o 8 rfl) (H.o 0 rfl) c171 (fun h g => eqTemplate_any _ _ _ _ _ _ h.r g.r h.m g.m) fun a w H F => xF (xG (⟨⟨_, H⟩, ?_⟩)))
 refine zZ 4 rfl (by kernel_rfl) (by kernel_rfl) (by kernel_rfl) (qO F rfl (fun w l => r_not F rfl) fun a F => b_end (by kernel_rfl) (xG (vC F rfl (fun hb181 => ?_) (fun hb181 => ?_))))
 ·
  replace hR := zD hb181 hR
  refine xC (xH (xA F rfl rfl fun a F => xF (xG (xW (oV ?_)))))
  have H := (th81.1 (th101.1 ((th162.1 (th176.1 H (Ns.all ⟨n0, ⟨n0, ⟨n0, ⟨n0, ⟨n0, ⟨n0, ⟨n0, ⟨n0, ⟨n0, ⟨n0, ⟨(fun c h => (th162.2.2 c h)), trivial⟩⟩⟩⟩⟩⟩⟩⟩⟩⟩⟩)) (Ns.all ⟨n0, ⟨n0, ⟨n0, ⟨n0, ⟨n0, ⟨n0, ⟨n0, ⟨n0, ⟨n0, ⟨n0, ⟨n0, ⟨n1, trivial⟩⟩⟩⟩⟩⟩⟩⟩⟩⟩⟩⟩)).s [0, 1, 2, 3, 4, 5, 6, 7, 8, 9, 10, 11] rfl rfl) (Ns.all ⟨n0, ⟨n0, ⟨n0, ⟨n0, ⟨n0, ⟨n0, ⟨n0, ⟨n0, ⟨n0, ⟨n0, ⟨n0, ⟨n0, trivial⟩⟩⟩⟩⟩⟩⟩⟩⟩⟩⟩⟩)).um.um.um.um (Ns.all ⟨n0, ⟨n0, ⟨n0, ⟨n0, ⟨n0, ⟨n0, ⟨n0, ⟨n0, ⟨n0, ⟨n0, ⟨n0, ⟨n0, ⟨n0, ⟨n0, ⟨n0, ⟨n0, ⟨n0, trivial⟩⟩⟩⟩⟩⟩⟩⟩⟩⟩⟩⟩⟩⟩⟩⟩⟩)).um.um.um
  refine xR F rfl (oO F rfl) ?_
  obtain rfl := Option.some.inj hR
  exact ⟨rfl, H.bl⟩
 replace hR := zE hb181 hR
 refine xO (xG (xC (xC ?_)))
 obtain ⟨z184, c185, hR⟩ := xI hR
 obtain ⟨w191, rfl⟩ : ∃ x, x = w := ⟨_, rfl⟩
 obtain ⟨X186, N187, g188, e189, H, th190⟩ := (H.s [6, 0, 1, 2, 3, 4, 5, 7, 8, 9, 10] rfl rfl).fz
 have K192 := g188.bk
 refine xD H (by kernel_rfl) fun w H => b_q 0 (by kernel_rfl) rfl (by kernel_rfl) (by kernel_rfl) (by kernel_rfl) (by kernel_rfl) (vBA isAgg37 sizeOf37 F rfl rfl (K192.v H.sm) rfl rfl fun a F => b_q 1 (by kernel_rfl) rfl (by kernel_rfl) (by kernel_rfl) (by kernel_rfl) (by kernel_rfl) (vBA isAgg27 sizeOf27 F rfl rfl (((((K84.lf e100).lf e161).lf e175).lf e189).v H.sm) rfl rfl fun a F => xE H 2 rfl (by kernel_rfl) (nTo (V := qH 1 xV) F rfl call14 rfl H (xV.m (H.a (e189 (e175 (e161 (e100 (e80 h20))))))) (fun h => toGadgets_any _ _ _ _ h.r h.m (kH c49)) fun a w v193 H F => xF (xG (⟨⟨_, H⟩, ?_⟩)))))
 refine xE H 3 rfl (by kernel_rfl) (nEq (V := qH 1 xV) F rfl call17 rfl H (H.o 7 rfl) (H.o 0 rfl) c185 (fun h g => eqGadgets_any _ _ _ _ _ _ h.r g.r h.m g.m) fun a w H F => xF (xG (⟨⟨_, H⟩, ?_⟩)))
 refine zZ 4 rfl (by kernel_rfl) (by kernel_rfl) (by kernel_rfl) (qO F rfl (fun w l => r_not F rfl) fun a F => b_end (by kernel_rfl) (xG (vC F rfl (fun hb195 => ?_) (fun hb195 => ?_))))
 ·
  replace hR := zD hb195 hR
  refine xC (xH (xA F rfl rfl fun a F => xF (xG (xW (oV ?_)))))
  have H := (th81.1 (th101.1 ((th162.1 (th176.1 (th190.1 H (Ns.all ⟨n0, ⟨n0, ⟨n0, ⟨n0, ⟨n0, ⟨n0, ⟨n0, ⟨n0, ⟨n0, ⟨n0, ⟨(fun c h => (th176.2.2 c (th162.2.2 c h))), trivial⟩⟩⟩⟩⟩⟩⟩⟩⟩⟩⟩)) (Ns.all ⟨n0, ⟨n0, ⟨n0, ⟨n0, ⟨n0, ⟨n0, ⟨n0, ⟨n0, ⟨n0, ⟨n0, ⟨n0, ⟨(fun c h => (th162.2.2 c h)), trivial⟩⟩⟩⟩⟩⟩⟩⟩⟩⟩⟩⟩)) (Ns.all ⟨n0, ⟨n0, ⟨n0, ⟨n0, ⟨n0, ⟨n0, ⟨n0, ⟨n0, ⟨n0, ⟨n0, ⟨n0, ⟨n0, ⟨n1, trivial⟩⟩⟩⟩⟩⟩⟩⟩⟩⟩⟩⟩⟩)).s [0, 1, 2, 3, 4, 5, 6, 7, 8, 9, 10, 11, 12] rfl rfl) (Ns.all ⟨n0, ⟨n0, ⟨n0, ⟨n0, ⟨n0, ⟨n0, ⟨n0, ⟨n0, ⟨n0, ⟨n0, ⟨n0, ⟨n0, ⟨n0, trivial⟩⟩⟩⟩⟩⟩⟩⟩⟩⟩⟩⟩⟩)).um.um.um.um (Ns.all ⟨n0, ⟨n0, ⟨n0, ⟨n0, ⟨n0, ⟨n0, ⟨n0, ⟨n0, ⟨n0, ⟨n0, ⟨n0, ⟨n0, ⟨n0, ⟨n0, ⟨n0, ⟨n0, ⟨n0, ⟨n0, trivial⟩⟩⟩⟩⟩⟩⟩⟩⟩⟩⟩⟩⟩⟩⟩⟩⟩⟩)).um.um.um
  refine xR F rfl (oO F rfl) ?_
  obtain rfl := Option.some.inj hR
  exact ⟨rfl, H.bl⟩
 replace hR := zE hb195 hR
 refine xO (xG (xC (xC ?_)))
 obtain ⟨z198, c199, hR⟩ := xI hR
 obtain ⟨w205, rfl⟩ : ∃ x, x = w := ⟨_, rfl⟩
 obtain ⟨X200, N201, g202, e203, H, th204⟩ := (H.s [5, 0, 1, 2, 3, 4, 6, 7, 8, 9, 10] rfl rfl).fz
 have K206 := g202.bk
 refine xD H (by kernel_rfl) fun w H => b_q 0 (by kernel_rfl) rfl (by kernel_rfl) (by kernel_rfl) (by kernel_rfl) (by kernel_rfl) (vBA isAgg58 sizeOf58 F rfl rfl (K206.v H.sm) rfl rfl fun a F => b_q 1 (by kernel_rfl) rfl (by kernel_rfl) (by kernel_rfl) (by kernel_rfl) (by kernel_rfl) (vBA isAgg54 sizeOf54 F rfl rfl ((((((K83.lf e100).lf e161).lf e175).lf e189).lf e203).v H.sm) rfl rfl fun a F => xE H 2 rfl (by kernel_rfl) (nTo (V := qH 2 xM) F rfl call30 rfl H (xM.m i22 (H.a (e203 (e189 (e175 (e161 (e100 (e80 h24)))))))) (fun h => toInstance_any _ _ _ _ h.r h.m (kH c53)) fun a w v207 H F => xF (xG (⟨⟨_, H⟩, ?_⟩)))))
 refine xE H 3 rfl (by kernel_rfl) (nEq (V := qH 2 xM) F rfl call32 rfl H (H.o 6 rfl) (H.o 0 rfl) c199 (fun h g => eqInstance_any _ _ _ _ _ _ h.r g.r h.m g.m) fun a w H F => xF (xG (⟨⟨_, H⟩, ?_⟩)))
 refine zZ 4 rfl (by kernel_rfl) (by kernel_rfl) (by kernel_rfl) (qO F rfl (fun w l => r_not F rfl) fun a F => b_end (by kernel_rfl) (xG (vC F rfl (fun hb209 => ?_) (fun hb209 => ?_))))
 ·
  replace hR := zD hb209 hR
  refine xC (xH (xA F rfl rfl fun a F => xF (xG (xW (oV ?_)))))
  have H := (th81.1 (th101.1 ((th162.1 (th176.1 (th190.1 (th204.1 H (Ns.all ⟨n0, ⟨n0, ⟨n0, ⟨n0, ⟨n0, ⟨n0, ⟨n0, ⟨n0, ⟨n0, ⟨n0, ⟨(fun c h => (th190.2.2 c (th176.2.2 c (th162.2.2 c h)))), trivial⟩⟩⟩⟩⟩⟩⟩⟩⟩⟩⟩)) (Ns.all ⟨n0, ⟨n0, ⟨n0, ⟨n0, ⟨n0, ⟨n0, ⟨n0, ⟨n0, ⟨n0, ⟨n0, ⟨n0, ⟨(fun c h => (th176.2.2 c (th162.2.2 c h))), trivial⟩⟩⟩⟩⟩⟩⟩⟩⟩⟩⟩⟩)) (Ns.all ⟨n0, ⟨n0, ⟨n0, ⟨n0, ⟨n0, ⟨n0, ⟨n0, ⟨n0, ⟨n0, ⟨n0, ⟨n0, ⟨n0, ⟨(fun c h => (th162.2.2 c h)), trivial⟩⟩⟩⟩⟩⟩⟩⟩⟩⟩⟩⟩⟩)) (Ns.all ⟨n0, ⟨n0, ⟨n0, ⟨n0, ⟨n0, ⟨n0, ⟨n0, ⟨n0, ⟨n0, ⟨n0, ⟨n0, ⟨n0, ⟨n0, ⟨n1, trivial⟩⟩⟩⟩⟩⟩⟩⟩⟩⟩⟩⟩⟩⟩)).s [0, 1, 2, 3, 4, 5, 6, 7, 8, 9, 10, 11, 12, 13] rfl rfl) (Ns.all ⟨n0, ⟨n0, ⟨n0, ⟨n0, ⟨n0, ⟨n0, ⟨n0, ⟨n0, ⟨n0, ⟨n0, ⟨n0, ⟨n0, ⟨n0, ⟨n0, trivial⟩⟩⟩⟩⟩⟩⟩⟩⟩⟩⟩⟩⟩⟩)).um.um.um.um (Ns.all ⟨n0, ⟨n0, ⟨n0, ⟨n0, ⟨n0, ⟨n0, ⟨n0, ⟨n0, ⟨n0, ⟨n0, ⟨n0, ⟨n0, ⟨n0, ⟨n0, ⟨n0, ⟨n0, ⟨n0, ⟨n0, ⟨n0, trivial⟩⟩⟩⟩⟩⟩⟩⟩⟩⟩⟩⟩⟩⟩⟩⟩⟩⟩⟩)).um.um.um
  refine xR F rfl (oO F rfl) ?_
  obtain rfl := Option.some.inj hR
  exact ⟨rfl, H.bl⟩
 replace hR := zE hb209 hR
 refine xO (xG (xC (xC (xH (xB F rfl rfl fun a F => xB F rfl rfl fun a F => nTo (V := Sl 1 xK) F rfl call36 rfl H (H.a (e203 (e189 (e175 (e161 (e100 (e80 A4))))))) (fun h => toInt64S_any _ _ _ _ h.r h.m (kH c57)) (fun a w v210 H F => ?_))))))
 obtain ⟨z212, c213, hR⟩ := xI hR
 refine nEq (V := Sl 1 xK) F rfl call20 rfl H (H.o 6 rfl) (H.o 0 rfl) c213 (fun h g => eqInt64S_any _ _ _ _ _ _ h.r g.r h.m g.m) fun a w H F => kE F rfl rfl fun a F => xF (xG (vC F rfl (fun hb214 => ?_) (fun hb214 => ?_)))
 ·
  replace hR := zD hb214 hR
  refine xC (xH (xA F rfl rfl fun a F => xF (xG (xW (oV ?_)))))
  have H := (th81.1 (th101.1 ((th162.1 (th176.1 (th190.1 (th204.1 H (Ns.all ⟨n0, ⟨n0, ⟨n0, ⟨n0, ⟨n0, ⟨n0, ⟨n0, ⟨n0, ⟨n0, ⟨n0, ⟨n0, ⟨(fun c h => (th190.2.2 c (th176.2.2 c (th162.2.2 c h)))), trivial⟩⟩⟩⟩⟩⟩⟩⟩⟩⟩⟩⟩)) (Ns.all ⟨n0, ⟨n0, ⟨n0, ⟨n0, ⟨n0, ⟨n0, ⟨n0, ⟨n0, ⟨n0, ⟨n0, ⟨n0, ⟨n0, ⟨(fun c h => (th176.2.2 c (th162.2.2 c h))), trivial⟩⟩⟩⟩⟩⟩⟩⟩⟩⟩⟩⟩⟩)) (Ns.all ⟨n0, ⟨n0, ⟨n0, ⟨n0, ⟨n0, ⟨n0, ⟨n0, ⟨n0, ⟨n0, ⟨n0, ⟨n0, ⟨n0, ⟨n0, ⟨(fun c h => (th162.2.2 c h)), trivial⟩⟩⟩⟩⟩⟩⟩⟩⟩⟩⟩⟩⟩⟩)) (Ns.all ⟨n0, ⟨n0, ⟨n0, ⟨n0, ⟨n0, ⟨n0, ⟨n0, ⟨n0, ⟨n0, ⟨n0, ⟨n0, ⟨n0, ⟨n0, ⟨n0, ⟨n1, trivial⟩⟩⟩⟩⟩⟩⟩⟩⟩⟩⟩⟩⟩⟩⟩)).s [0, 1, 2, 3, 4, 5, 6, 7, 8, 9, 10, 11, 12, 13, 14] rfl rfl) (Ns.all ⟨n0, ⟨n0, ⟨n0, ⟨n0, ⟨n0, ⟨n0, ⟨n0, ⟨n0, ⟨n0, ⟨n0, ⟨n0, ⟨n0, ⟨n0, ⟨n0, ⟨n0, trivial⟩⟩⟩⟩⟩⟩⟩⟩⟩⟩⟩⟩⟩⟩⟩)).um.um.um.um (Ns.all ⟨n0, ⟨n0, ⟨n0, ⟨n0, ⟨n0, ⟨n0, ⟨n0, ⟨n0, ⟨n0, ⟨n0, ⟨n0, ⟨n0, ⟨n0, ⟨n0, ⟨n0, ⟨n0, ⟨n0, ⟨n0, ⟨n0, ⟨n0, trivial⟩⟩⟩⟩⟩⟩⟩⟩⟩⟩⟩⟩⟩⟩⟩⟩⟩⟩⟩⟩)).um.um.um
  refine xR F rfl (oO F rfl) ?_
  obtain rfl := Option.some.inj hR
  exact ⟨rfl, H.bl⟩
 replace hR := zE hb214 hR
 refine xO (xG (xC (xH (xA F rfl rfl fun a F => xF (xG (xC (xH (oBA isAgg33 sizeOf33 F rfl rfl ((((K164.lf e175).lf e189).lf e203).o H.sm) rfl rfl fun a F => xB F rfl rfl (fun a F => ?_)))))))))
 obtain ⟨z215, c216, hR⟩ := xI hR
 refine nMk (V := qH 2 xJ) (x' := ((Template.mk x0.size x0.rels).mkv 1)) F rfl call21 rfl (H.s [10, 0, 1, 2, 3, 4, 5, 6, 7, 8, 9, 11] rfl rfl) c216 (fun h o h0 h1 => markTemplate_any _ _ _ _ _ _ h.r o h0 h1) fun a w H iz215 F => xA F rfl rfl fun a F => xF (xG (xC (xH (oBA isAgg33 sizeOf33 F rfl rfl (((K178.lf e189).lf e203).o H.sm) rfl rfl fun a F => xB F rfl rfl (fun a F => ?_)))))
 obtain ⟨z217, c218, hR⟩ := xI hR
 refine nMk (V := qH 2 xJ) (x' := ((Template.mk x1.size x1.rels).mkv z215)) F rfl call21 rfl (H.s [10, 0, 1, 2, 3, 4, 5, 6, 7, 8, 9, 11] rfl rfl) c218 (fun h o h0 h1 => markTemplate_any _ _ _ _ _ _ h.r o h0 h1) fun a w H iz217 F => xA F rfl rfl fun a F => xF (xG (xC (xH (oBA isAgg37 sizeOf37 F rfl rfl ((K192.lf e203).o H.sm) rfl rfl fun a F => xB F rfl rfl (fun a F => ?_)))))
 obtain ⟨z219, c220, hR⟩ := xI hR
 refine nMk (V := qH 1 xV) (x' := ((Gadgets.mk x2.formulas).mkv z217)) F rfl call22 rfl (H.s [10, 0, 1, 2, 3, 4, 5, 6, 7, 8, 9, 11] rfl rfl) c220 (fun h o h0 h1 => markGadgets_any _ _ _ _ _ _ h.r o h0 h1) fun a w H iz219 F => xA F rfl rfl fun a F => xF (xG (xC (xH (oBA isAgg58 sizeOf58 F rfl rfl (K206.o H.sm) rfl rfl fun a F => xB F rfl rfl (fun a F => ?_)))))
 obtain ⟨z221, c222, hR⟩ := xI hR
 refine nMk (V := qH 2 xM) (x' := ((Instance.mk x3.vars x3.cons).mkv z219)) F rfl call33 rfl (H.s [10, 0, 1, 2, 3, 4, 5, 6, 7, 8, 9, 11] rfl rfl) c222 (fun h o h0 h1 => markInstance_any _ _ _ _ _ _ h.r o h0 h1) fun a w H iz221 F => xA F rfl rfl fun a F => xF (xG (xC (xH (xB F rfl rfl fun a F => xB F rfl rfl (fun a F => ?_)))))
 obtain ⟨z223, c224, hR⟩ := xI hR
 refine nMk (V := Sl 1 xK) (x' := (mkS mkI cI x4 z221)) F rfl call23 rfl (H.s [10, 0, 1, 2, 3, 4, 5, 6, 7, 8, 9, 11] rfl rfl) c224 (fun h o h0 h1 => markInt64S_any _ _ _ _ _ _ h.r o h0 h1) fun a w H iz223 F => xA F rfl rfl fun a F => xF (xG (xC (xC ?_)))
 obtain ⟨o229, hR, hk230⟩ := xS hR
 refine oQ (fun a w => ∃ (s232 : Bool), o229 = .nx s232 ∧ Sk a 186 [(4, v4), (5, .pointer (some ⟨b14, 0, none⟩)), (6, .pointer (some ⟨b18, 0, none⟩)), (7, .pointer (some ⟨b21, 0, none⟩)), (8, .pointer (some ⟨b25, 0, none⟩)), (12, v108), (13, .int .i64 z71.2), (19, v139), (143, .bool s232)] ∧ Sep X200 N201 w205 w [rl 1 xK 2 v139 z137.1, ro N98 (V := (Sl 1 xK)) v108 z71.1]) ?_ ?_
 ·
  refine xH (xB F rfl rfl fun a F => oR F rfl rfl rfl fun a F => xB F rfl rfl (fun a F => ?_))
  rcases vD (decide (z223 < 0)) with hb233 | hb233
  ·
   replace hR := zD hb233 hR
   have F := F.eq (t := 133) rfl (congrArg Value.bool hb233)
   refine oH F rfl rfl fun a F => oH F rfl rfl fun a F => oH F rfl rfl fun a F => oH F rfl rfl fun a F => vH F rfl rfl rfl fun a F => xB F rfl rfl fun a F => oH F rfl rfl fun a F => oH F rfl rfl fun a F => oH F rfl rfl fun a F => vH F rfl rfl rfl fun a F => xF ?_
   refine xG ?_
   exact ⟨true, (Option.some.inj hR).symm, F.sub (sc rfl (sc rfl (sc rfl (sc rfl (sc rfl (sc rfl (sc rfl (sc rfl (sc rfl sn))))))))), (H.s [10, 11] rfl rfl)⟩
  replace hR := zE hb233 hR
  have F := F.eq (t := 133) rfl (congrArg Value.bool hb233)
  refine xB F rfl rfl fun a F => xB F rfl rfl (fun a F => ?_)
  obtain ⟨z234, c235, hR⟩ := xI hR
  refine nEq (V := Sl 1 xK) F rfl call20 rfl H (H.l 10 rfl) (H.ro 11 rfl) c235 (fun h g => eqInt64S_any _ _ _ _ _ _ h.r g.r h.m g.m) fun a w H F => kE F rfl rfl fun a F => qZ F rfl rfl rfl fun a F => xB F rfl rfl (fun a F => ?_)
  rcases vD (!z234) with hb236 | hb236
  ·
   replace hR := zD hb236 hR
   have F := F.eq (t := 139) rfl (congrArg Value.bool hb236)
   refine oH F rfl rfl fun a F => oH F rfl rfl fun a F => oH F rfl rfl fun a F => vH F rfl rfl rfl fun a F => xF (xG ?_)
   exact ⟨true, (Option.some.inj hR).symm, F.sub (sc rfl (sc rfl (sc rfl (sc rfl (sc rfl (sc rfl (sc rfl (sc rfl (sc rfl sn))))))))), (H.s [10, 11] rfl rfl)⟩
  replace hR := zE hb236 hR
  have F := F.eq (t := 139) rfl (congrArg Value.bool hb236)
  refine xB F rfl rfl fun a F => xB F rfl rfl fun a F => o_neq F rfl rfl rfl fun a F => qZ F rfl rfl rfl fun a F => xF (xG ?_)
  exact ⟨(z137.2 != z71.2), (Option.some.inj hR).symm, F.sub (sc rfl (sc rfl (sc rfl (sc rfl (sc rfl (sc rfl (sc rfl (sc rfl (sc rfl sn))))))))), (H.s [10, 11] rfl rfl)⟩
 intro a w ⟨s232, ho231, F, H⟩
 subst ho231
 have hR := xZ hk230
 refine xG (vC F rfl (fun hb237 => ?_) (fun hb237 => ?_))
 ·
  replace hR := zD hb237 hR
  refine xC (xH (xA F rfl rfl fun a F => xF (xG (xW (oV ?_)))))
  have H := (th81.1 (th101.1 ((th162.1 (th176.1 (th190.1 (th204.1 H (Ns.all ⟨n0, ⟨(fun c h => (th190.2.2 c (th176.2.2 c (th162.2.2 c h)))), trivial⟩⟩)) (Ns.all ⟨n0, ⟨n0, ⟨(fun c h => (th176.2.2 c (th162.2.2 c h))), trivial⟩⟩⟩)) (Ns.all ⟨n0, ⟨n0, ⟨n0, ⟨(fun c h => (th162.2.2 c h)), trivial⟩⟩⟩⟩)) (Ns.all ⟨n0, ⟨n0, ⟨n0, ⟨n0, ⟨n1, trivial⟩⟩⟩⟩⟩)).s [0, 1, 2, 3, 4] rfl rfl) (Ns.all ⟨n0, ⟨n0, ⟨n0, ⟨n0, ⟨n0, trivial⟩⟩⟩⟩⟩)).um.um.um.um (Ns.all ⟨n0, ⟨n0, ⟨n0, ⟨n0, ⟨n0, ⟨n0, ⟨n0, ⟨n0, ⟨n0, ⟨n0, trivial⟩⟩⟩⟩⟩⟩⟩⟩⟩⟩)).um.um.um
  refine xR F rfl (oO F rfl) ?_
  obtain rfl := Option.some.inj hR
  exact ⟨rfl, H.bl⟩
 replace hR := zE hb237 hR
 refine xO (xG (xC (xH (xA F rfl rfl fun a F => xF (xG (xC (xH (xB F rfl rfl fun a F => xB F rfl rfl (fun a F => ?_)))))))))
 have H := H.os
 obtain ⟨z238, c239, hR⟩ := xI hR
 refine nMk (V := Sl 1 xK) (x' := (mkS mkI cI z137.1 1)) F rfl call23 rfl H c239 (fun h o h0 h1 => markInt64S_any _ _ _ _ _ _ h.r o h0 h1) fun a w H iz238 F => xA F rfl rfl fun a F => xF (xG (xC (xH (xA F rfl rfl fun a F => xF (xG (xC (xH ?_)))))))
 refine xB F rfl rfl fun a F => xB F rfl rfl fun a F => nHl (V := Sl 1 xK) F rfl call24 rfl H (H.o 0 rfl) c239 (fun h h0 h1 => heldInt64S_any _ _ _ _ _ h.r h.m h0 h1) fun a w H iz238 F => xA F rfl rfl fun a F => xF (xG (xC (xC (xH (xB F rfl rfl fun a F => oR F rfl rfl rfl (fun a F => ?_))))))
 refine xF (xG (vC F rfl (fun hb240 => ?_) (fun hb240 => ?_)))
 ·
  replace hR := zD hb240 hR
  refine xC (xH (xA F rfl rfl fun a F => xF (xG (xW (oV ?_)))))
  have H := (th81.1 (th101.1 ((th162.1 (th176.1 (th190.1 (th204.1 H (Ns.all ⟨n0, ⟨(fun c h => (th190.2.2 c (th176.2.2 c (th162.2.2 c h)))), trivial⟩⟩)) (Ns.all ⟨n0, ⟨n0, ⟨(fun c h => (th176.2.2 c (th162.2.2 c h))), trivial⟩⟩⟩)) (Ns.all ⟨n0, ⟨n0, ⟨n0, ⟨(fun c h => (th162.2.2 c h)), trivial⟩⟩⟩⟩)) (Ns.all ⟨n0, ⟨n0, ⟨n0, ⟨n0, ⟨n1, trivial⟩⟩⟩⟩⟩)).s [0, 1, 2, 3, 4] rfl rfl) (Ns.all ⟨n0, ⟨n0, ⟨n0, ⟨n0, ⟨n0, trivial⟩⟩⟩⟩⟩)).um.um.um.um (Ns.all ⟨n0, ⟨n0, ⟨n0, ⟨n0, ⟨n0, ⟨n0, ⟨n0, ⟨n0, ⟨n0, ⟨n0, trivial⟩⟩⟩⟩⟩⟩⟩⟩⟩⟩)).um.um.um
  refine xR F rfl (oO F rfl) ?_
  obtain rfl := Option.some.inj hR
  exact ⟨rfl, H.bl⟩
 replace hR := zE hb240 hR
 refine xO (xG (xC (xC (xH (xB F rfl rfl fun a F => xB F rfl rfl fun a F => o_neq F rfl rfl rfl fun a F => xF (xG (vC F rfl (fun hb241 => ?_) (fun hb241 => ?_))))))))
 ·
  replace hR := zD hb241 hR
  refine xC (xH (xA F rfl rfl fun a F => xF (xG (xW (oV ?_)))))
  have H := (th81.1 (th101.1 ((th162.1 (th176.1 (th190.1 (th204.1 H (Ns.all ⟨n0, ⟨(fun c h => (th190.2.2 c (th176.2.2 c (th162.2.2 c h)))), trivial⟩⟩)) (Ns.all ⟨n0, ⟨n0, ⟨(fun c h => (th176.2.2 c (th162.2.2 c h))), trivial⟩⟩⟩)) (Ns.all ⟨n0, ⟨n0, ⟨n0, ⟨(fun c h => (th162.2.2 c h)), trivial⟩⟩⟩⟩)) (Ns.all ⟨n0, ⟨n0, ⟨n0, ⟨n0, ⟨n1, trivial⟩⟩⟩⟩⟩)).s [0, 1, 2, 3, 4] rfl rfl) (Ns.all ⟨n0, ⟨n0, ⟨n0, ⟨n0, ⟨n0, trivial⟩⟩⟩⟩⟩)).um.um.um.um (Ns.all ⟨n0, ⟨n0, ⟨n0, ⟨n0, ⟨n0, ⟨n0, ⟨n0, ⟨n0, ⟨n0, ⟨n0, trivial⟩⟩⟩⟩⟩⟩⟩⟩⟩⟩)).um.um.um
  refine xR F rfl (oO F rfl) ?_
  obtain rfl := Option.some.inj hR
  exact ⟨rfl, H.bl⟩
 replace hR := zE hb241 hR
 refine xO (xG (xC (xD H (by kernel_rfl) fun w H => b_q 0 (by kernel_rfl) rfl (by kernel_rfl) (by kernel_rfl) (by kernel_rfl) (by kernel_rfl) (vBA isAgg24 sizeOf24 F rfl rfl ((((((K86.lf e100).lf e161).lf e175).lf e189).lf e203).v H.sm) rfl rfl fun a F => b_q 2 (by kernel_rfl) rfl (by kernel_rfl) (by kernel_rfl) (by kernel_rfl) (by kernel_rfl) (vBA isAgg24 sizeOf24 F rfl rfl ((((((K85.lf e100).lf e161).lf e175).lf e189).lf e203).v H.sm) rfl rfl fun a F => b_q 4 (by kernel_rfl) rfl (by kernel_rfl) (by kernel_rfl) (by kernel_rfl) (by kernel_rfl) (vBA isAgg27 sizeOf27 F rfl rfl ((((((K84.lf e100).lf e161).lf e175).lf e189).lf e203).v H.sm) rfl rfl fun a F => b_q 6 (by kernel_rfl) rfl (by kernel_rfl) (by kernel_rfl) (by kernel_rfl) (by kernel_rfl) ?_))))))
 refine vBA isAgg54 sizeOf54 F rfl rfl ((((((K83.lf e100).lf e161).lf e175).lf e189).lf e203).v H.sm) rfl rfl fun a F => zZ 8 rfl (by kernel_rfl) (by kernel_rfl) (by kernel_rfl) (qO F rfl (fun w l => xP F rfl) fun a F => xE H 1 rfl (by kernel_rfl) (nTo (V := qH 2 xJ) F rfl call13 rfl H (xJ.m i11 (H.a (e203 (e189 (e175 (e161 (e100 (e80 h13)))))))) (fun h => toTemplate_any _ _ _ _ h.r h.m (kH c41)) fun a w v256 H F => xF (xG (⟨⟨_, H⟩, ?_⟩))))
 refine xE H 3 rfl (by kernel_rfl) (nTo (V := qH 2 xJ) F rfl call13 rfl H (xJ.m i15 (H.a (e203 (e189 (e175 (e161 (e100 (e80 h17)))))))) (fun h => toTemplate_any _ _ _ _ h.r h.m (kH c45)) fun a w v258 H F => xF (xG (⟨⟨_, H⟩, ?_⟩)))
 refine xE H 5 rfl (by kernel_rfl) (nTo (V := qH 1 xV) F rfl call14 rfl H (xV.m (H.a (e203 (e189 (e175 (e161 (e100 (e80 h20)))))))) (fun h => toGadgets_any _ _ _ _ h.r h.m (kH c49)) fun a w v260 H F => xF (xG (⟨⟨_, H⟩, ?_⟩)))
 refine xE H 7 rfl (by kernel_rfl) (nTo (V := qH 2 xM) F rfl call30 rfl H (xM.m i22 (H.a (e203 (e189 (e175 (e161 (e100 (e80 h24)))))))) (fun h => toInstance_any _ _ _ _ h.r h.m (kH c53)) fun a w v262 H F => xF (xG (⟨⟨_, H⟩, ?_⟩)))
 refine xE H 9 rfl (by kernel_rfl) (nTo (V := Sl 1 xK) F rfl call36 rfl H (H.a (e203 (e189 (e175 (e161 (e100 (e80 A4))))))) (fun h => toInt64S_any _ _ _ _ h.r h.m (kH c57)) fun a w v264 H F => xF (xG (⟨⟨_, H⟩, ?_⟩)))
 refine xE H 10 rfl (by kernel_rfl) (oG F rfl call41 rfl (impl_CarryForth_c z137 c138 _ aA (H.o 4 rfl) (H.o 3 rfl) (H.o 2 rfl) (H.o 1 rfl) (H.o 0 rfl)) (fun a vv w ⟨v266, hv269, S, i268⟩ F => ?_))
 subst vv
 have H := H.r1 S n0
 refine xF (xG (⟨⟨_, H⟩, ?_⟩))
 refine zZ 11 rfl (by kernel_rfl) (by kernel_rfl) (by kernel_rfl) (qO F rfl (fun w l => xP F rfl) fun a F => zZ 12 rfl (by kernel_rfl) (by kernel_rfl) (by kernel_rfl) (qO F rfl (fun w l => r_extract F rfl rfl) fun a F => zZ 13 rfl (by kernel_rfl) (by kernel_rfl) (by kernel_rfl) (qO F rfl (fun w l => r_extract F rfl rfl) fun a F => zZ 14 rfl (by kernel_rfl) (by kernel_rfl) (by kernel_rfl) (qO F rfl (fun w l => vO F rfl) fun a F => zZ 15 rfl (by kernel_rfl) (by kernel_rfl) (by kernel_rfl) (qO F rfl (fun w l => vO F rfl) fun a F => b_end (by kernel_rfl) ?_)))))
 refine xG (xC (xC ?_))
 obtain ⟨o273, hR, hk274⟩ := xS hR
 refine oQ (fun a w => ∃ (s276 : Bool), o273 = .nx s276 ∧ Sk a 186 [(19, v139), (22, .int .i64 z238), (177, .bool s276)] ∧ Sep X200 N201 w205 w [ow (V := (Sl 1 xK)) v139 (mkS mkI cI z137.1 1)]) ?_ ?_
 ·
  refine xH (xB F rfl rfl fun a F => xB F rfl rfl (fun a F => ?_))
  obtain ⟨z277, c278, hR⟩ := xI hR
  refine nEq (V := Sl 1 xK) F rfl call20 rfl H (H.l 0 rfl) (H.ro 7 rfl) c278 (fun h g => eqInt64S_any _ _ _ _ _ _ h.r g.r h.m g.m) fun a w H F => kE F rfl rfl fun a F => xB F rfl rfl (fun a F => ?_)
  rcases vD (!z277) with hb279 | hb279
  ·
   replace hR := zD hb279 hR
   have F := F.eq (t := 173) rfl (congrArg Value.bool hb279)
   refine oH F rfl rfl fun a F => oH F rfl rfl fun a F => oH F rfl rfl fun a F => vH F rfl rfl rfl fun a F => xF (xG ?_)
   exact ⟨true, (Option.some.inj hR).symm, F.sub (sc rfl (sc rfl (sc rfl sn))), (H.s [6] rfl rfl)⟩
  replace hR := zE hb279 hR
  have F := F.eq (t := 173) rfl (congrArg Value.bool hb279)
  refine xB F rfl rfl fun a F => xB F rfl rfl fun a F => o_neq F rfl rfl rfl fun a F => qZ F rfl rfl rfl fun a F => xF (xG ?_)
  exact ⟨(z137.2 != z71.2), (Option.some.inj hR).symm, F.sub (sc rfl (sc rfl (sc rfl sn))), (H.s [6] rfl rfl)⟩
 intro a w ⟨s276, ho275, F, H⟩
 subst ho275
 have hR := xZ hk274
 refine xG (vC F rfl (fun hb280 => ?_) (fun hb280 => ?_))
 ·
  replace hR := zD hb280 hR
  refine xC (xH (xA F rfl rfl fun a F => xF (xG (xW (oV ?_)))))
  have H := (th81.1 (th101.1 (th162.1 (th176.1 (th190.1 (th204.1 H (Ns.all ⟨n0, trivial⟩)) (Ns.all ⟨n0, ⟨n0, trivial⟩⟩)) (Ns.all ⟨n0, ⟨n0, ⟨n0, trivial⟩⟩⟩)) (Ns.all ⟨n0, ⟨n0, ⟨n0, ⟨n0, trivial⟩⟩⟩⟩)) (Ns.all ⟨n0, ⟨n0, ⟨n0, ⟨n0, ⟨n0, trivial⟩⟩⟩⟩⟩)).um.um.um.um (Ns.all ⟨n0, ⟨n0, ⟨n0, ⟨n0, ⟨n0, ⟨n0, ⟨n0, ⟨n0, ⟨n0, ⟨n0, trivial⟩⟩⟩⟩⟩⟩⟩⟩⟩⟩)).um.um.um
  refine xR F rfl (oO F rfl) ?_
  obtain rfl := Option.some.inj hR
  exact ⟨rfl, H.bl⟩
 replace hR := zE hb280 hR
 refine xO (xG (xC (xH (xA F rfl rfl fun a F => xF (xG (xC (xH (xB F rfl rfl fun a F => xB F rfl rfl (fun a F => ?_)))))))))
 refine nHl (V := Sl 1 xK) F rfl call24 rfl H (H.o 0 rfl) c239 (fun h h0 h1 => heldInt64S_any _ _ _ _ _ h.r h.m h0 h1) fun a w H iz238 F => xA F rfl rfl fun a F => xF (xG (xC (xC (xH (xB F rfl rfl fun a F => oR F rfl rfl rfl fun a F => xF (xG ?_))))))
 refine vC F rfl (fun hb281 => ?_) (fun hb281 => ?_)
 ·
  replace hR := zD hb281 hR
  refine xC (xH (xA F rfl rfl fun a F => xF (xG (xW (oV ?_)))))
  have H := (th81.1 (th101.1 (th162.1 (th176.1 (th190.1 (th204.1 H (Ns.all ⟨n0, trivial⟩)) (Ns.all ⟨n0, ⟨n0, trivial⟩⟩)) (Ns.all ⟨n0, ⟨n0, ⟨n0, trivial⟩⟩⟩)) (Ns.all ⟨n0, ⟨n0, ⟨n0, ⟨n0, trivial⟩⟩⟩⟩)) (Ns.all ⟨n0, ⟨n0, ⟨n0, ⟨n0, ⟨n0, trivial⟩⟩⟩⟩⟩)).um.um.um.um (Ns.all ⟨n0, ⟨n0, ⟨n0, ⟨n0, ⟨n0, ⟨n0, ⟨n0, ⟨n0, ⟨n0, ⟨n0, trivial⟩⟩⟩⟩⟩⟩⟩⟩⟩⟩)).um.um.um
  refine xR F rfl (oO F rfl) ?_
  obtain rfl := Option.some.inj hR
  exact ⟨rfl, H.bl⟩
 replace hR := zE hb281 hR
 refine xO (xG (xC (xC (xH (xB F rfl rfl fun a F => xB F rfl rfl fun a F => o_neq F rfl rfl rfl fun a F => xF (xG (vC F rfl (fun hb282 => ?_) (fun hb282 => ?_))))))))
 ·
  replace hR := zD hb282 hR
  refine xC (xH (xA F rfl rfl fun a F => xF (xG (xW (oV ?_)))))
  have H := (th81.1 (th101.1 (th162.1 (th176.1 (th190.1 (th204.1 H (Ns.all ⟨n0, trivial⟩)) (Ns.all ⟨n0, ⟨n0, trivial⟩⟩)) (Ns.all ⟨n0, ⟨n0, ⟨n0, trivial⟩⟩⟩)) (Ns.all ⟨n0, ⟨n0, ⟨n0, ⟨n0, trivial⟩⟩⟩⟩)) (Ns.all ⟨n0, ⟨n0, ⟨n0, ⟨n0, ⟨n0, trivial⟩⟩⟩⟩⟩)).um.um.um.um (Ns.all ⟨n0, ⟨n0, ⟨n0, ⟨n0, ⟨n0, ⟨n0, ⟨n0, ⟨n0, ⟨n0, ⟨n0, trivial⟩⟩⟩⟩⟩⟩⟩⟩⟩⟩)).um.um.um
  refine xR F rfl (oO F rfl) ?_
  obtain rfl := Option.some.inj hR
  exact ⟨rfl, H.bl⟩
 replace hR := zE hb282 hR
 refine xO (xG (xC (xH (xA F rfl rfl fun a F => xF (xG (xW ?_))))))
 have H := (th81.1 (th101.1 (th162.1 (th176.1 (th190.1 (th204.1 H (Ns.all ⟨n0, trivial⟩)) (Ns.all ⟨n0, ⟨n0, trivial⟩⟩)) (Ns.all ⟨n0, ⟨n0, ⟨n0, trivial⟩⟩⟩)) (Ns.all ⟨n0, ⟨n0, ⟨n0, ⟨n0, trivial⟩⟩⟩⟩)) (Ns.all ⟨n0, ⟨n0, ⟨n0, ⟨n0, ⟨n0, trivial⟩⟩⟩⟩⟩)).um.um.um.um (Ns.all ⟨n0, ⟨n0, ⟨n0, ⟨n0, ⟨n0, ⟨n0, ⟨n0, ⟨n0, ⟨n0, ⟨n0, trivial⟩⟩⟩⟩⟩⟩⟩⟩⟩⟩)).um.um.um
 refine xR F rfl (oO F rfl) ?_
 obtain rfl := Option.some.inj hR
 exact ⟨rfl, H.bl⟩
end
end Go.Proofs.YtmgdjaiaekhkgaaGreat
