/-
  Laws of the program as plain functions, and that they compute them. Printed by lawfx.py.
-/
import Derived.Test.YtfggmelojaicfaaGreatS5c
import Derived.Test.YtfggmelojaicfaaGreatY
import Derived.Test.YtfggmelojaicfaaGreatL2
import Derived.Test.YtfggmelojaicfaaGreatL6
import Derived.Test.YtfggmelojaicfaaGreatL7
namespace Go.Proofs.YtfggmelojaicfaaGreat
set_option linter.unusedVariables false
set_option linter.unusedSimpArgs false
set_option maxRecDepth 100000
open Go.RowKit
noncomputable section
def laws_FnExactAddNoGoods (N : Nat) (x0 : Template) (x1 : Instance) (x2 : List (List Literal)) : Option Bool :=
 bnd (szq 1048576 (x0.sz)) fun z26 =>
 if (decide (z26 < 0)) then
  some true
 else
  bnd (szq z26 (x1.sz)) fun z29 =>
  if (decide (z29 < 0)) then
   some true
  else
   bnd (szq z29 ((szS List.length x2))) fun z32 =>
   if (decide (z32 < 0)) then
    some true
   else
    bnd (toq (x0.sz)) fun z35 =>
    bnd (toq (x1.sz)) fun z43 =>
    bnd (toq (szS List.length x2)) fun z52 =>
    bnd (spec_AddNoGoods N x0 x1 x2) fun z62 =>
    bnd (impl_AddNoGoods N x0 x1 x2) fun z888 =>
    thn (σ := Bool) (
     bnd (eqq z888.1 z62.1) fun z987 =>
     if (!z987) then  some (.nx true) else  bnd (eqq z888.2.1 z62.2.1) fun z990 =>
      if (!z990) then  some (.nx true) else  some (.nx (z888.2.2 != z62.2.2))) fun s986 =>
    if s986 then
     some false
    else
     bnd (eqq x0 x0) fun z1013 =>
     if (!z1013) then
      some false
     else
      bnd (eqq x1 x1) fun z1035 =>
      if (!z1035) then
       some false
      else
       bnd (eqq x2 x2) fun z1057 =>
       if (!z1057) then
        some false
       else
        bnd (mkq 1 (x0.cnt)) fun z1060 =>
        bnd (mkq z1060 (x1.cnt)) fun z1064 =>
        bnd (mkq z1064 (cntS (cntS Literal.ecnt) x2)) fun z1068 =>
        thn (σ := Bool) (
         if (decide (z1068 < 0)) then  some (.nx true) else  bnd (eqq z888.1 z62.1) fun z1084 =>
          if (!z1084) then  some (.nx true) else  bnd (eqq z888.2.1 z62.2.1) fun z1087 =>
           if (!z1087) then  some (.nx true) else  some (.nx (z888.2.2 != z62.2.2))) fun s1082 =>
        if s1082 then
         some false
        else
         bnd (mkq 1 (z888.1.cnt)) fun z1091 =>
         bnd (mkq z1091 (z888.2.1.cnt)) fun z1095 =>
         if (decide (z1091 < 0)) then
          some false
         else
          if (decide (z1095 < 0)) then
           some false
          else
           if (z1095 != z1095) then
            some false
           else
            thn (σ := Bool) (
             bnd (eqq z888.1 z62.1) fun z2573 =>
             if (!z2573) then  some (.nx true) else  bnd (eqq z888.2.1 z62.2.1) fun z2576 =>
              if (!z2576) then  some (.nx true) else  some (.nx (z888.2.2 != z62.2.2))) fun s2572 =>
            if s2572 then
             some false
            else
             if (decide (z1091 < 0)) then
              some false
             else
              if (decide (z1095 < 0)) then
               some false
              else
               if (z1095 != z1095) then
                some false
               else
                some true
set_option maxHeartbeats 1000000 in
theorem laws_FnExactAddNoGoods_c {N : Nat} {x0 : Template} {x1 : Instance} {x2 : List (List Literal)} (r : Bool) (hR : laws_FnExactAddNoGoods N x0 x1 x2 = some r) {v0 : Value} {b0 : List Nat} {v1 : Value} {b1 : List Nat} {v2 : Value} {b2 : List Nat} (w0 : World) (A0 : Rd (Agg 2 RTemplate) w0 v0 x0 b0) (A1 : Rd (Agg 2 RInstance) w0 v1 x1 b1) (A2 : Rd (Sl 1 (RSl 2 RLiteral)) w0 v2 x2 b2) : Calls Tryz.prog 6 #[v0, v1, v2] w0 (Says (.bool r) w0) := by
 unfold laws_FnExactAddNoGoods at hR
 refine x_enter (L := [(0, v0), (1, v1), (2, v2)]) Tryz.func6 rfl rfl rfl (sc rfl (sc rfl (sc rfl sn))) (fun a F => ?_)
 have hB := Below.refl w0.heap.size w0
 refine x_seq ?_
 refine x_reg ?_
 obtain ⟨v14, b15, e17, i13, h16, _⟩ := RTemplate.rd (A0.go hB)
 subst e17
 refine o_box F rfl rfl rfl (fun a w b11 K12 l BK12 F => ?_)
 have CK12 := Nat.le_trans hB.size BK12
 replace hB := Below.through l hB
 obtain ⟨v21, b22, e24, i20, h23, _⟩ := RInstance.rd (A1.go hB)
 subst e24
 refine o_box F rfl rfl rfl (fun a w b18 K19 l BK19 F => ?_)
 have nb25 := Dj.bb K12 BK19
 have CK19 := Nat.le_trans hB.size BK19
 replace hB := Below.through l hB
 replace K12 := K12.thru l
 refine o_assign F rfl rfl (fun a F => ?_)
 refine x_end ?_
 refine x_tn ?_
 refine x_seq ?_
 refine x_reg ?_
 refine o_assign F rfl rfl (fun a F => ?_)
 refine x_end ?_
 refine x_tn ?_
 refine x_seq ?_
 refine x_reg ?_
 refine o_bloadA (cs := [.int .i64 x0.size, v14]) Tryz.isAgg24 Tryz.sizeOf24 F rfl rfl K12 rfl (fun j hj => by match j, hj with | 0, _ => rfl | 1, _ => rfl) (fun a F => ?_)
 refine o_move F rfl rfl (fun a F => ?_)
 obtain ⟨z26, c27, hR⟩ := bnd_some hR
 refine o_saysI F rfl Tryz.call12 rfl (szq_says c27 (fun h0 h1 => szTemplate_any _ _ _ _ _ (A0.go hB).r (A0.go hB).m h0 h1)) (fun a w l iz26 F => ?_)
 replace hB := Below.through l hB
 replace K12 := K12.thru l
 replace K19 := K19.thru l
 refine o_assign F rfl rfl (fun a F => ?_)
 refine x_end ?_
 refine x_tn ?_
 refine x_seq ?_
 refine x_seq ?_
 refine x_reg ?_
 refine o_move F rfl rfl (fun a F => ?_)
 refine o_lss F rfl rfl rfl (fun a F => ?_)
 refine x_end ?_
 refine x_tn ?_
 refine x_if F rfl (fun hb28 => ?_) (fun hb28 => ?_)
 ·
  replace hR := ifT hb28 hR
  refine x_seq ?_
  refine x_reg ?_
  refine o_assign F rfl rfl (fun a F => ?_)
  refine x_end ?_
  refine x_tn ?_
  refine x_ret ?_
  refine x_tr ?_
  refine x_res1 F rfl (rv_t F rfl) ?_
  obtain rfl := Option.some.inj hR
  exact ⟨rfl, hB⟩
 replace hR := ifF hb28 hR
 refine x_skip ?_
 refine x_tn ?_
 refine x_seq ?_
 refine x_reg ?_
 refine o_bloadA (cs := [.int .i64 x1.vars, v21]) Tryz.isAgg54 Tryz.sizeOf54 F rfl rfl K19 rfl (fun j hj => by match j, hj with | 0, _ => rfl | 1, _ => rfl) (fun a F => ?_)
 refine o_move F rfl rfl (fun a F => ?_)
 obtain ⟨z29, c30, hR⟩ := bnd_some hR
 refine o_saysI F rfl Tryz.call30 rfl (szq_says c30 (fun h0 h1 => szInstance_any _ _ _ _ _ (A1.go hB).r (A1.go hB).m h0 h1)) (fun a w l iz29 F => ?_)
 replace hB := Below.through l hB
 replace K12 := K12.thru l
 replace K19 := K19.thru l
 refine o_assign F rfl rfl (fun a F => ?_)
 refine x_end ?_
 refine x_tn ?_
 refine x_seq ?_
 refine x_seq ?_
 refine x_reg ?_
 refine o_move F rfl rfl (fun a F => ?_)
 refine o_lss F rfl rfl rfl (fun a F => ?_)
 refine x_end ?_
 refine x_tn ?_
 refine x_if F rfl (fun hb31 => ?_) (fun hb31 => ?_)
 ·
  replace hR := ifT hb31 hR
  refine x_seq ?_
  refine x_reg ?_
  refine o_assign F rfl rfl (fun a F => ?_)
  refine x_end ?_
  refine x_tn ?_
  refine x_ret ?_
  refine x_tr ?_
  refine x_res1 F rfl (rv_t F rfl) ?_
  obtain rfl := Option.some.inj hR
  exact ⟨rfl, hB⟩
 replace hR := ifF hb31 hR
 refine x_skip ?_
 refine x_tn ?_
 refine x_seq ?_
 refine x_reg ?_
 refine o_move F rfl rfl (fun a F => ?_)
 refine o_move F rfl rfl (fun a F => ?_)
 obtain ⟨z32, c33, hR⟩ := bnd_some hR
 refine o_saysI F rfl Tryz.call31 rfl (szq_says c33 (fun h0 h1 => szLiteralSS_any _ _ _ _ _ (A2.go hB).r (A2.go hB).m h0 h1)) (fun a w l iz32 F => ?_)
 replace hB := Below.through l hB
 replace K12 := K12.thru l
 replace K19 := K19.thru l
 refine o_assign F rfl rfl (fun a F => ?_)
 refine x_end ?_
 refine x_tn ?_
 refine x_seq ?_
 refine x_seq ?_
 refine x_reg ?_
 refine o_move F rfl rfl (fun a F => ?_)
 refine o_lss F rfl rfl rfl (fun a F => ?_)
 refine x_end ?_
 refine x_tn ?_
 refine x_if F rfl (fun hb34 => ?_) (fun hb34 => ?_)
 ·
  replace hR := ifT hb34 hR
  refine x_seq ?_
  refine x_reg ?_
  refine o_assign F rfl rfl (fun a F => ?_)
  refine x_end ?_
  refine x_tn ?_
  refine x_ret ?_
  refine x_tr ?_
  refine x_res1 F rfl (rv_t F rfl) ?_
  obtain rfl := Option.some.inj hR
  exact ⟨rfl, hB⟩
 replace hR := ifF hb34 hR
 refine x_skip ?_
 refine x_tn ?_
 refine x_seq ?_
 obtain ⟨z35, c36, hR⟩ := bnd_some hR
 obtain ⟨z43, c44, hR⟩ := bnd_some hR
 obtain ⟨z52, c53, hR⟩ := bnd_some hR
 obtain ⟨z62, c63, hR⟩ := bnd_some hR
 refine x_drawn (by kernel_rfl) (fun w l => ?_)
 replace hB := Below.through l hB
 replace K12 := K12.thru l
 replace K19 := K19.thru l
 refine dp (fun G => ∀ (b775 : Nat) (b777 : Nat) (v780 : Value) (b782 : List Nat) (v786 : Value) (b788 : List Nat) (a : Act) (w : World), Sk a 179 [(2, v2), (3, .pointer (some ⟨b11, 0, none⟩)), (4, .pointer (some ⟨b18, 0, none⟩)), (8, .pointer (some ⟨b775, 0, none⟩)), (9, .pointer (some ⟨b777, 0, none⟩)), (46, (.agg #[.int .i64 z62.1.size, v780])), (47, (.agg #[.int .i64 z62.2.1.vars, v786])), (48, .int .i64 z62.2.2)] → Below w0.heap.size w0 w → w0.heap.size ≤ b775 → w0.heap.size ≤ b777 → I64 z62.1.size → v780.oneCell' = true → Rd (Agg 2 RTemplate) w (.agg #[.int .i64 z62.1.size, v780]) z62.1 b782 → Own w0.heap.size b782 w → I64 z62.2.1.vars → v786.oneCell' = true → Rd (Agg 2 RInstance) w (.agg #[.int .i64 z62.2.1.vars, v786]) z62.2.1 b788 → Own w0.heap.size b788 w → I64 z62.2.2 → Blk w b11 #[.int .i64 x0.size, v14] 24 → Blk w b18 #[.int .i64 x1.vars, v21] 54 → Blk w b775 #[.int .i64 0, (.slice none 0 0)] 33 → Blk w b777 #[.int .i64 0, (.slice none 0 0)] 60 → Dj [b11] b782 → Dj b782 ([b11]) → Dj [b18] b782 → Dj b782 ([b18]) → Dj b782 ([b775]) → Dj b782 ([b777]) → Dj [b11] b788 → Dj b788 ([b11]) → Dj [b18] b788 → Dj b788 ([b18]) → Dj b788 ([b775]) → Dj b788 ([b777]) → Dj b782 b788 → Dj b788 b782 → b11 ≠ b775 → b11 ≠ b777 → b18 ≠ b775 → b18 ≠ b777 → b775 ≠ b777 → ∀ ls, ls = #[true, true, true, true, true, true, true, true, true, true, true, true, true, false, false, false] → G 3 ls a w) ?_ (fun H811 => ?_)
 ·
  intro b775 b777 v780 b782 v786 b788 a w F hB CK776 CK778 i779 o781 h783 o784 i785 o787 h789 o790 i791 K12 K19 K776 K778 d792 d793 d794 d795 d796 d797 d798 d799 d800 d801 d802 d803 d804 d805 nb806 nb807 nb808 nb809 nb810 ls hls
  subst hls
  refine b_e 13 rfl (by kernel_rfl) ?_
  refine o_bstoreA (vs := [.int .i64 z62.1.size, v780]) Tryz.sizeOf33 F rfl rfl rfl K776 (oc rfl (oc o781 on)) (Nat.le_of_ble_eq_true rfl) rfl (fun w K776 l => ?_)
  replace hB := hB.o l (fun c hc => by rw [List.mem_singleton] at hc; rw [hc]; exact CK776) hB.size
  replace h783 := h783.goO l d796
  replace o784 := o784.goO l d796
  replace h789 := h789.goO l d802
  replace o790 := o790.goO l d802
  replace K12 := K12.only l (by simpa using nb806)
  replace K19 := K19.only l (by simpa using nb808)
  replace K778 := K778.only l (by simpa using nb810.symm)
  refine x_end ?_
  refine x_tn ?_
  refine ⟨.inr (by kernel_rfl), ?_⟩
  refine b_e 14 rfl (by kernel_rfl) ?_
  refine o_bstoreA (vs := [.int .i64 z62.2.1.vars, v786]) Tryz.sizeOf60 F rfl rfl rfl K778 (oc rfl (oc o787 on)) (Nat.le_of_ble_eq_true rfl) rfl (fun w K778 l => ?_)
  replace hB := hB.o l (fun c hc => by rw [List.mem_singleton] at hc; rw [hc]; exact CK778) hB.size
  replace h783 := h783.goO l d797
  replace o784 := o784.goO l d797
  replace h789 := h789.goO l d803
  replace o790 := o790.goO l d803
  replace K12 := K12.only l (by simpa using nb807)
  replace K19 := K19.only l (by simpa using nb809)
  replace K776 := K776.only l (by simpa using nb810)
  refine x_end ?_
  refine x_tn ?_
  refine ⟨.inr (by kernel_rfl), ?_⟩
  refine b_q0 15 rfl (by kernel_rfl) (by kernel_rfl) (by kernel_rfl) ?_
  refine v_val F rfl (fun w l => r_assign F rfl) (fun a F => ?_)
  refine b_end (by kernel_rfl) ?_
  refine x_tn ?_
  refine x_seq ?_
  refine x_reg ?_
  refine o_bloadA (cs := [.int .i64 x0.size, v14]) Tryz.isAgg24 Tryz.sizeOf24 F rfl rfl K12 rfl (fun j hj => by match j, hj with | 0, _ => rfl | 1, _ => rfl) (fun a F => ?_)
  refine o_toA F rfl Tryz.call15 rfl (toTemplate_any _ _ _ _ (A0.go hB).r (A0.go hB).m (toq_some c36)) (fun a v822 b823 w l h824 o825 F => ?_)
  have d826 := Dj.new h783.m o825 (Nat.le_refl _)
  have d827 := Dj.new h789.m o825 (Nat.le_refl _)
  have d828 := Dj.new (inm1 K12) o825 (Nat.le_refl _)
  have d829 := Dj.new (inm1 K19) o825 (Nat.le_refl _)
  have d830 := Dj.new (inm1 K776) o825 (Nat.le_refl _)
  have d831 := Dj.new (inm1 K778) o825 (Nat.le_refl _)
  replace o825 := o825.mono hB.size
  replace hB := Below.through l hB
  replace h783 := h783.go l
  replace o784 := o784.go l
  replace h789 := h789.go l
  replace o790 := o790.go l
  replace K12 := K12.thru l
  replace K19 := K19.thru l
  replace K776 := K776.thru l
  replace K778 := K778.thru l
  refine o_alloc Tryz.zeroValue33 F rfl rfl (fun a w b832 K833 l BK833 F => ?_)
  have nb834 := Dj.bb K12 BK833
  have nb835 := Dj.bb K19 BK833
  have nb836 := Dj.bb K776 BK833
  have nb837 := Dj.bb K778 BK833
  have d838 := (dj1 h783.m BK833).symm
  have d839 := (dj1 h789.m BK833).symm
  have d840 := (dj1 h824.m BK833).symm
  have CK833 := Nat.le_trans hB.size BK833
  replace hB := Below.through l hB
  replace h783 := h783.go l
  replace o784 := o784.go l
  replace h789 := h789.go l
  replace o790 := o790.go l
  replace h824 := h824.go l
  replace o825 := o825.go l
  replace K12 := K12.thru l
  replace K19 := K19.thru l
  replace K776 := K776.thru l
  replace K778 := K778.thru l
  obtain ⟨v842, b843, e845, i841, h844, _⟩ := RTemplate.rd h824
  subst e845
  refine o_bstoreA (vs := [.int .i64 x0.size, v842]) Tryz.sizeOf33 F rfl rfl rfl K833 (oc rfl (oc h844.r.one on)) (Nat.le_of_ble_eq_true rfl) rfl (fun w K833 l => ?_)
  replace hB := hB.o l (fun c hc => by rw [List.mem_singleton] at hc; rw [hc]; exact CK833) hB.size
  replace h783 := h783.goO l d838
  replace o784 := o784.goO l d838
  replace h789 := h789.goO l d839
  replace o790 := o790.goO l d839
  replace h824 := h824.goO l d840
  replace o825 := o825.goO l d840
  replace K12 := K12.only l (by simpa using nb834)
  replace K19 := K19.only l (by simpa using nb835)
  replace K776 := K776.only l (by simpa using nb836)
  replace K778 := K778.only l (by simpa using nb837)
  refine x_end ?_
  refine x_tn ?_
  refine x_seq ?_
  refine x_reg ?_
  refine o_bloadA (cs := [.int .i64 x1.vars, v21]) Tryz.isAgg54 Tryz.sizeOf54 F rfl rfl K19 rfl (fun j hj => by match j, hj with | 0, _ => rfl | 1, _ => rfl) (fun a F => ?_)
  refine o_toA F rfl Tryz.call33 rfl (toInstance_any _ _ _ _ (A1.go hB).r (A1.go hB).m (toq_some c44)) (fun a v846 b847 w l h848 o849 F => ?_)
  have d850 := Dj.new h783.m o849 (Nat.le_refl _)
  have d851 := Dj.new h789.m o849 (Nat.le_refl _)
  have d852 := Dj.new h824.m o849 (Nat.le_refl _)
  have d853 := Dj.new (inm1 K12) o849 (Nat.le_refl _)
  have d854 := Dj.new (inm1 K19) o849 (Nat.le_refl _)
  have d855 := Dj.new (inm1 K776) o849 (Nat.le_refl _)
  have d856 := Dj.new (inm1 K778) o849 (Nat.le_refl _)
  have d857 := Dj.new (inm1 K833) o849 (Nat.le_refl _)
  replace o849 := o849.mono hB.size
  replace hB := Below.through l hB
  replace h783 := h783.go l
  replace o784 := o784.go l
  replace h789 := h789.go l
  replace o790 := o790.go l
  replace h824 := h824.go l
  replace o825 := o825.go l
  replace K12 := K12.thru l
  replace K19 := K19.thru l
  replace K776 := K776.thru l
  replace K778 := K778.thru l
  replace K833 := K833.thru l
  refine o_alloc Tryz.zeroValue60 F rfl rfl (fun a w b858 K859 l BK859 F => ?_)
  have nb860 := Dj.bb K12 BK859
  have nb861 := Dj.bb K19 BK859
  have nb862 := Dj.bb K776 BK859
  have nb863 := Dj.bb K778 BK859
  have nb864 := Dj.bb K833 BK859
  have d865 := (dj1 h783.m BK859).symm
  have d866 := (dj1 h789.m BK859).symm
  have d867 := (dj1 h824.m BK859).symm
  have d868 := (dj1 h848.m BK859).symm
  have CK859 := Nat.le_trans hB.size BK859
  replace hB := Below.through l hB
  replace h783 := h783.go l
  replace o784 := o784.go l
  replace h789 := h789.go l
  replace o790 := o790.go l
  replace h824 := h824.go l
  replace o825 := o825.go l
  replace h848 := h848.go l
  replace o849 := o849.go l
  replace K12 := K12.thru l
  replace K19 := K19.thru l
  replace K776 := K776.thru l
  replace K778 := K778.thru l
  replace K833 := K833.thru l
  obtain ⟨v870, b871, e873, i869, h872, _⟩ := RInstance.rd h848
  subst e873
  refine o_bstoreA (vs := [.int .i64 x1.vars, v870]) Tryz.sizeOf60 F rfl rfl rfl K859 (oc rfl (oc h872.r.one on)) (Nat.le_of_ble_eq_true rfl) rfl (fun w K859 l => ?_)
  replace hB := hB.o l (fun c hc => by rw [List.mem_singleton] at hc; rw [hc]; exact CK859) hB.size
  replace h783 := h783.goO l d865
  replace o784 := o784.goO l d865
  replace h789 := h789.goO l d866
  replace o790 := o790.goO l d866
  replace h824 := h824.goO l d867
  replace o825 := o825.goO l d867
  replace h848 := h848.goO l d868
  replace o849 := o849.goO l d868
  replace K12 := K12.only l (by simpa using nb860)
  replace K19 := K19.only l (by simpa using nb861)
  replace K776 := K776.only l (by simpa using nb862)
  replace K778 := K778.only l (by simpa using nb863)
  replace K833 := K833.only l (by simpa using nb864)
  refine x_end ?_
  refine x_tn ?_
  refine x_seq ?_
  refine x_reg ?_
  refine o_move F rfl rfl (fun a F => ?_)
  refine o_toS F rfl Tryz.call34 rfl (toLiteralSS_any _ _ _ _ (A2.go hB).r (A2.go hB).m (toq_some c53)) (fun a v874 b875 w l h876 o877 F => ?_)
  have d878 := Dj.new h783.m o877 (Nat.le_refl _)
  have d879 := Dj.new h789.m o877 (Nat.le_refl _)
  have d880 := Dj.new h824.m o877 (Nat.le_refl _)
  have d881 := Dj.new h848.m o877 (Nat.le_refl _)
  have d882 := Dj.new (inm1 K12) o877 (Nat.le_refl _)
  have d883 := Dj.new (inm1 K19) o877 (Nat.le_refl _)
  have d884 := Dj.new (inm1 K776) o877 (Nat.le_refl _)
  have d885 := Dj.new (inm1 K778) o877 (Nat.le_refl _)
  have d886 := Dj.new (inm1 K833) o877 (Nat.le_refl _)
  have d887 := Dj.new (inm1 K859) o877 (Nat.le_refl _)
  replace o877 := o877.mono hB.size
  replace hB := Below.through l hB
  replace h783 := h783.go l
  replace o784 := o784.go l
  replace h789 := h789.go l
  replace o790 := o790.go l
  replace h824 := h824.go l
  replace o825 := o825.go l
  replace h848 := h848.go l
  replace o849 := o849.go l
  replace K12 := K12.thru l
  replace K19 := K19.thru l
  replace K776 := K776.thru l
  replace K778 := K778.thru l
  replace K833 := K833.thru l
  replace K859 := K859.thru l
  refine o_assign F rfl rfl (fun a F => ?_)
  refine x_end ?_
  refine x_tn ?_
  refine x_seq ?_
  refine x_reg ?_
  refine o_bloadA (cs := [.int .i64 x0.size, v842]) Tryz.isAgg33 Tryz.sizeOf33 F rfl rfl K833 rfl (fun j hj => by match j, hj with | 0, _ => rfl | 1, _ => rfl) (fun a F => ?_)
  refine o_bloadA (cs := [.int .i64 x1.vars, v870]) Tryz.isAgg60 Tryz.sizeOf60 F rfl rfl K859 rfl (fun j hj => by match j, hj with | 0, _ => rfl | 1, _ => rfl) (fun a F => ?_)
  refine o_move F rfl rfl (fun a F => ?_)
  obtain ⟨z888, c889, hR⟩ := bnd_some hR
  refine o_gives F rfl Tryz.call35 rfl (impl_AddNoGoods_c z888 c889 _ h824 h848 h876) (fun a vv w l ⟨v891, rb892, ib893, v897, rb898, ib899, hv903, i890, h894, ow895, i896, h900, ow901, i902, dj904⟩ F => ?_)
  subst vv
  have o906 := h894.own ow895
  have h905 := h894.rd
  have o908 := h900.own ow901
  have h907 := h900.rd
  have h909 := RTemplate.mk2 (w := w) i890 h905
  have o910 := o906
  have h911 := RInstance.mk2 (w := w) i896 h907
  have o912 := o908
  have d913 := Dj.new h783.m o910 (Nat.le_refl _)
  have d914 := Dj.new h789.m o910 (Nat.le_refl _)
  have d915 := Dj.new h824.m o910 (Nat.le_refl _)
  have d916 := Dj.new h848.m o910 (Nat.le_refl _)
  have d917 := Dj.new h876.m o910 (Nat.le_refl _)
  have d918 := Dj.new (inm1 K12) o910 (Nat.le_refl _)
  have d919 := Dj.new (inm1 K19) o910 (Nat.le_refl _)
  have d920 := Dj.new (inm1 K776) o910 (Nat.le_refl _)
  have d921 := Dj.new (inm1 K778) o910 (Nat.le_refl _)
  have d922 := Dj.new (inm1 K833) o910 (Nat.le_refl _)
  have d923 := Dj.new (inm1 K859) o910 (Nat.le_refl _)
  replace o910 := o910.mono hB.size
  have d924 := Dj.new h783.m o912 (Nat.le_refl _)
  have d925 := Dj.new h789.m o912 (Nat.le_refl _)
  have d926 := Dj.new h824.m o912 (Nat.le_refl _)
  have d927 := Dj.new h848.m o912 (Nat.le_refl _)
  have d928 := Dj.new h876.m o912 (Nat.le_refl _)
  have d929 := Dj.new (inm1 K12) o912 (Nat.le_refl _)
  have d930 := Dj.new (inm1 K19) o912 (Nat.le_refl _)
  have d931 := Dj.new (inm1 K776) o912 (Nat.le_refl _)
  have d932 := Dj.new (inm1 K778) o912 (Nat.le_refl _)
  have d933 := Dj.new (inm1 K833) o912 (Nat.le_refl _)
  have d934 := Dj.new (inm1 K859) o912 (Nat.le_refl _)
  replace o912 := o912.mono hB.size
  have d935 : Dj ((rb892 ++ ib893)) ((rb898 ++ ib899)) := dj904
  replace hB := Below.through l hB
  replace h783 := h783.go l
  replace o784 := o784.go l
  replace h789 := h789.go l
  replace o790 := o790.go l
  replace h824 := h824.go l
  replace o825 := o825.go l
  replace h848 := h848.go l
  replace o849 := o849.go l
  replace h876 := h876.go l
  replace o877 := o877.go l
  replace K12 := K12.thru l
  replace K19 := K19.thru l
  replace K776 := K776.thru l
  replace K778 := K778.thru l
  replace K833 := K833.thru l
  replace K859 := K859.thru l
  refine o_move F rfl rfl (fun a F => ?_)
  refine o_extract F rfl rfl rfl (fun a F => ?_)
  refine o_extract F rfl rfl rfl (fun a F => ?_)
  refine o_extract F rfl rfl rfl (fun a F => ?_)
  refine o_alloc Tryz.zeroValue33 F rfl rfl (fun a w b936 K937 l BK937 F => ?_)
  have nb938 := Dj.bb K12 BK937
  have nb939 := Dj.bb K19 BK937
  have nb940 := Dj.bb K776 BK937
  have nb941 := Dj.bb K778 BK937
  have nb942 := Dj.bb K833 BK937
  have nb943 := Dj.bb K859 BK937
  have d944 := (dj1 h783.m BK937).symm
  have d945 := (dj1 h789.m BK937).symm
  have d946 := (dj1 h824.m BK937).symm
  have d947 := (dj1 h848.m BK937).symm
  have d948 := (dj1 h876.m BK937).symm
  have d949 := (dj1 h909.m BK937).symm
  have d950 := (dj1 h911.m BK937).symm
  have CK937 := Nat.le_trans hB.size BK937
  replace hB := Below.through l hB
  replace h783 := h783.go l
  replace o784 := o784.go l
  replace h789 := h789.go l
  replace o790 := o790.go l
  replace h824 := h824.go l
  replace o825 := o825.go l
  replace h848 := h848.go l
  replace o849 := o849.go l
  replace h876 := h876.go l
  replace o877 := o877.go l
  replace h909 := h909.go l
  replace o910 := o910.go l
  replace h911 := h911.go l
  replace o912 := o912.go l
  replace K12 := K12.thru l
  replace K19 := K19.thru l
  replace K776 := K776.thru l
  replace K778 := K778.thru l
  replace K833 := K833.thru l
  replace K859 := K859.thru l
  refine o_alloc Tryz.zeroValue60 F rfl rfl (fun a w b951 K952 l BK952 F => ?_)
  have nb953 := Dj.bb K12 BK952
  have nb954 := Dj.bb K19 BK952
  have nb955 := Dj.bb K776 BK952
  have nb956 := Dj.bb K778 BK952
  have nb957 := Dj.bb K833 BK952
  have nb958 := Dj.bb K859 BK952
  have nb959 := Dj.bb K937 BK952
  have d960 := (dj1 h783.m BK952).symm
  have d961 := (dj1 h789.m BK952).symm
  have d962 := (dj1 h824.m BK952).symm
  have d963 := (dj1 h848.m BK952).symm
  have d964 := (dj1 h876.m BK952).symm
  have d965 := (dj1 h909.m BK952).symm
  have d966 := (dj1 h911.m BK952).symm
  have CK952 := Nat.le_trans hB.size BK952
  replace hB := Below.through l hB
  replace h783 := h783.go l
  replace o784 := o784.go l
  replace h789 := h789.go l
  replace o790 := o790.go l
  replace h824 := h824.go l
  replace o825 := o825.go l
  replace h848 := h848.go l
  replace o849 := o849.go l
  replace h876 := h876.go l
  replace o877 := o877.go l
  replace h909 := h909.go l
  replace o910 := o910.go l
  replace h911 := h911.go l
  replace o912 := o912.go l
  replace K12 := K12.thru l
  replace K19 := K19.thru l
  replace K776 := K776.thru l
  replace K778 := K778.thru l
  replace K833 := K833.thru l
  replace K859 := K859.thru l
  replace K937 := K937.thru l
  refine o_bstoreA (vs := [.int .i64 z888.1.size, v891]) Tryz.sizeOf33 F rfl rfl rfl K937 (oc rfl (oc h905.r.one on)) (Nat.le_of_ble_eq_true rfl) rfl (fun w K937 l => ?_)
  replace hB := hB.o l (fun c hc => by rw [List.mem_singleton] at hc; rw [hc]; exact CK937) hB.size
  replace h783 := h783.goO l d944
  replace o784 := o784.goO l d944
  replace h789 := h789.goO l d945
  replace o790 := o790.goO l d945
  replace h824 := h824.goO l d946
  replace o825 := o825.goO l d946
  replace h848 := h848.goO l d947
  replace o849 := o849.goO l d947
  replace h876 := h876.goO l d948
  replace o877 := o877.goO l d948
  replace h909 := h909.goO l d949
  replace o910 := o910.goO l d949
  replace h911 := h911.goO l d950
  replace o912 := o912.goO l d950
  replace K12 := K12.only l (by simpa using nb938)
  replace K19 := K19.only l (by simpa using nb939)
  replace K776 := K776.only l (by simpa using nb940)
  replace K778 := K778.only l (by simpa using nb941)
  replace K833 := K833.only l (by simpa using nb942)
  replace K859 := K859.only l (by simpa using nb943)
  replace K952 := K952.only l (by simpa using nb959.symm)
  refine o_bstoreA (vs := [.int .i64 z888.2.1.vars, v897]) Tryz.sizeOf60 F rfl rfl rfl K952 (oc rfl (oc h907.r.one on)) (Nat.le_of_ble_eq_true rfl) rfl (fun w K952 l => ?_)
  replace hB := hB.o l (fun c hc => by rw [List.mem_singleton] at hc; rw [hc]; exact CK952) hB.size
  replace h783 := h783.goO l d960
  replace o784 := o784.goO l d960
  replace h789 := h789.goO l d961
  replace o790 := o790.goO l d961
  replace h824 := h824.goO l d962
  replace o825 := o825.goO l d962
  replace h848 := h848.goO l d963
  replace o849 := o849.goO l d963
  replace h876 := h876.goO l d964
  replace o877 := o877.goO l d964
  replace h909 := h909.goO l d965
  replace o910 := o910.goO l d965
  replace h911 := h911.goO l d966
  replace o912 := o912.goO l d966
  replace K12 := K12.only l (by simpa using nb953)
  replace K19 := K19.only l (by simpa using nb954)
  replace K776 := K776.only l (by simpa using nb955)
  replace K778 := K778.only l (by simpa using nb956)
  replace K833 := K833.only l (by simpa using nb957)
  replace K859 := K859.only l (by simpa using nb958)
  replace K937 := K937.only l (by simpa using nb959)
  refine o_assign F rfl rfl (fun a F => ?_)
  refine x_end ?_
  refine x_tn ?_
  refine x_seq ?_
  refine x_seq ?_
  obtain ⟨o983, hR, hk984⟩ := thn_some hR
  refine x_cutQ (fun a w => ∃ (s986 : Bool), o983 = .nx s986 ∧ Sk a 179 [(2, v2), (3, .pointer (some ⟨b11, 0, none⟩)), (4, .pointer (some ⟨b18, 0, none⟩)), (8, .pointer (some ⟨b775, 0, none⟩)), (9, .pointer (some ⟨b777, 0, none⟩)), (10, .int .i64 z62.2.2), (11, .pointer (some ⟨b832, 0, none⟩)), (12, .pointer (some ⟨b858, 0, none⟩)), (13, v874), (14, .pointer (some ⟨b936, 0, none⟩)), (15, .pointer (some ⟨b951, 0, none⟩)), (16, .int .i64 z888.2.2), (77, .bool s986)] ∧ Below w0.heap.size w0 w ∧ Rd (Agg 2 RTemplate) w (.agg #[.int .i64 z62.1.size, v780]) z62.1 b782 ∧ Own w0.heap.size b782 w ∧ Rd (Agg 2 RInstance) w (.agg #[.int .i64 z62.2.1.vars, v786]) z62.2.1 b788 ∧ Own w0.heap.size b788 w ∧ Rd (Agg 2 RTemplate) w (.agg #[.int .i64 x0.size, v842]) x0 b823 ∧ Own w0.heap.size b823 w ∧ Rd (Agg 2 RInstance) w (.agg #[.int .i64 x1.vars, v870]) x1 b847 ∧ Own w0.heap.size b847 w ∧ Rd (Sl 1 RLits) w v874 x2 b875 ∧ Own w0.heap.size b875 w ∧ Rd (Agg 2 RTemplate) w (.agg #[.int .i64 z888.1.size, v891]) z888.1 ((rb892 ++ ib893)) ∧ Own w0.heap.size ((rb892 ++ ib893)) w ∧ Rd (Agg 2 RInstance) w (.agg #[.int .i64 z888.2.1.vars, v897]) z888.2.1 ((rb898 ++ ib899)) ∧ Own w0.heap.size ((rb898 ++ ib899)) w ∧ Blk w b11 #[.int .i64 x0.size, v14] 24 ∧ Blk w b18 #[.int .i64 x1.vars, v21] 54 ∧ Blk w b775 #[.int .i64 z62.1.size, v780] 33 ∧ Blk w b777 #[.int .i64 z62.2.1.vars, v786] 60 ∧ Blk w b832 #[.int .i64 x0.size, v842] 33 ∧ Blk w b858 #[.int .i64 x1.vars, v870] 60 ∧ Blk w b936 #[.int .i64 z888.1.size, v891] 33 ∧ Blk w b951 #[.int .i64 z888.2.1.vars, v897] 60) ?_ ?_
  ·
   refine x_reg ?_
   refine o_bloadA (cs := [.int .i64 z888.1.size, v891]) Tryz.isAgg33 Tryz.sizeOf33 F rfl rfl K937 rfl (fun j hj => by match j, hj with | 0, _ => rfl | 1, _ => rfl) (fun a F => ?_)
   refine o_bloadA (cs := [.int .i64 z62.1.size, v780]) Tryz.isAgg33 Tryz.sizeOf33 F rfl rfl K776 rfl (fun j hj => by match j, hj with | 0, _ => rfl | 1, _ => rfl) (fun a F => ?_)
   obtain ⟨z987, c988, hR⟩ := bnd_some hR
   refine o_says F rfl Tryz.call18 rfl (eqq_says (fun y => Rd (Agg 2 RTemplate) _ _ y _) c988 h783 (fun hy => eqTemplate_any _ _ _ _ _ _ h909.r hy.r h909.m hy.m)) (fun a w l F => ?_)
   replace hB := Below.through l hB
   replace h783 := h783.go l
   replace o784 := o784.go l
   replace h789 := h789.go l
   replace o790 := o790.go l
   replace h824 := h824.go l
   replace o825 := o825.go l
   replace h848 := h848.go l
   replace o849 := o849.go l
   replace h876 := h876.go l
   replace o877 := o877.go l
   replace h909 := h909.go l
   replace o910 := o910.go l
   replace h911 := h911.go l
   replace o912 := o912.go l
   replace K12 := K12.thru l
   replace K19 := K19.thru l
   replace K776 := K776.thru l
   replace K778 := K778.thru l
   replace K833 := K833.thru l
   replace K859 := K859.thru l
   replace K937 := K937.thru l
   replace K952 := K952.thru l
   refine o_not F rfl rfl (fun a F => ?_)
   refine o_move F rfl rfl (fun a F => ?_)
   rcases bcases (!z987) with hb989 | hb989
   ·
    replace hR := ifT hb989 hR
    have F := F.eq (t := 67) rfl (congrArg Value.bool hb989)
    refine o_no F rfl rfl (fun a F => ?_)
    refine o_no F rfl rfl (fun a F => ?_)
    refine o_no F rfl rfl (fun a F => ?_)
    refine o_no F rfl rfl (fun a F => ?_)
    refine o_pickt F rfl rfl rfl (fun a F => ?_)
    refine o_move F rfl rfl (fun a F => ?_)
    refine o_no F rfl rfl (fun a F => ?_)
    refine o_no F rfl rfl (fun a F => ?_)
    refine o_no F rfl rfl (fun a F => ?_)
    refine o_pickt F rfl rfl rfl (fun a F => ?_)
    refine x_end ?_
    refine x_tn ?_
    exact ⟨true, (Option.some.inj hR).symm, F.sub (sc rfl (sc rfl (sc rfl (sc rfl (sc rfl (sc rfl (sc rfl (sc rfl (sc rfl (sc rfl (sc rfl (sc rfl (sc rfl sn))))))))))))), hB, h783, o784, h789, o790, h824, o825, h848, o849, h876, o877, h909, o910, h911, o912, K12, K19, K776, K778, K833, K859, K937, K952⟩
   replace hR := ifF hb989 hR
   have F := F.eq (t := 67) rfl (congrArg Value.bool hb989)
   refine o_bloadA (cs := [.int .i64 z888.2.1.vars, v897]) Tryz.isAgg60 Tryz.sizeOf60 F rfl rfl K952 rfl (fun j hj => by match j, hj with | 0, _ => rfl | 1, _ => rfl) (fun a F => ?_)
   refine o_bloadA (cs := [.int .i64 z62.2.1.vars, v786]) Tryz.isAgg60 Tryz.sizeOf60 F rfl rfl K778 rfl (fun j hj => by match j, hj with | 0, _ => rfl | 1, _ => rfl) (fun a F => ?_)
   obtain ⟨z990, c991, hR⟩ := bnd_some hR
   refine o_says F rfl Tryz.call36 rfl (eqq_says (fun y => Rd (Agg 2 RInstance) _ _ y _) c991 h789 (fun hy => eqInstance_any _ _ _ _ _ _ h911.r hy.r h911.m hy.m)) (fun a w l F => ?_)
   replace hB := Below.through l hB
   replace h783 := h783.go l
   replace o784 := o784.go l
   replace h789 := h789.go l
   replace o790 := o790.go l
   replace h824 := h824.go l
   replace o825 := o825.go l
   replace h848 := h848.go l
   replace o849 := o849.go l
   replace h876 := h876.go l
   replace o877 := o877.go l
   replace h909 := h909.go l
   replace o910 := o910.go l
   replace h911 := h911.go l
   replace o912 := o912.go l
   replace K12 := K12.thru l
   replace K19 := K19.thru l
   replace K776 := K776.thru l
   replace K778 := K778.thru l
   replace K833 := K833.thru l
   replace K859 := K859.thru l
   replace K937 := K937.thru l
   replace K952 := K952.thru l
   refine o_not F rfl rfl (fun a F => ?_)
   refine o_pickf F rfl rfl rfl (fun a F => ?_)
   refine o_move F rfl rfl (fun a F => ?_)
   rcases bcases (!z990) with hb992 | hb992
   ·
    replace hR := ifT hb992 hR
    have F := F.eq (t := 73) rfl (congrArg Value.bool hb992)
    refine o_no F rfl rfl (fun a F => ?_)
    refine o_no F rfl rfl (fun a F => ?_)
    refine o_no F rfl rfl (fun a F => ?_)
    refine o_pickt F rfl rfl rfl (fun a F => ?_)
    refine x_end ?_
    refine x_tn ?_
    exact ⟨true, (Option.some.inj hR).symm, F.sub (sc rfl (sc rfl (sc rfl (sc rfl (sc rfl (sc rfl (sc rfl (sc rfl (sc rfl (sc rfl (sc rfl (sc rfl (sc rfl sn))))))))))))), hB, h783, o784, h789, o790, h824, o825, h848, o849, h876, o877, h909, o910, h911, o912, K12, K19, K776, K778, K833, K859, K937, K952⟩
   replace hR := ifF hb992 hR
   have F := F.eq (t := 73) rfl (congrArg Value.bool hb992)
   refine o_move F rfl rfl (fun a F => ?_)
   refine o_move F rfl rfl (fun a F => ?_)
   refine o_neq F rfl rfl rfl (fun a F => ?_)
   refine o_pickf F rfl rfl rfl (fun a F => ?_)
   refine x_end ?_
   refine x_tn ?_
   exact ⟨(z888.2.2 != z62.2.2), (Option.some.inj hR).symm, F.sub (sc rfl (sc rfl (sc rfl (sc rfl (sc rfl (sc rfl (sc rfl (sc rfl (sc rfl (sc rfl (sc rfl (sc rfl (sc rfl sn))))))))))))), hB, h783, o784, h789, o790, h824, o825, h848, o849, h876, o877, h909, o910, h911, o912, K12, K19, K776, K778, K833, K859, K937, K952⟩
  intro a w ⟨s986, ho985, F, hB, h783, o784, h789, o790, h824, o825, h848, o849, h876, o877, h909, o910, h911, o912, K12, K19, K776, K778, K833, K859, K937, K952⟩
  subst ho985
  have hR := then_nx hk984
  refine x_tn ?_
  refine x_if F rfl (fun hb993 => ?_) (fun hb993 => ?_)
  ·
   replace hR := ifT hb993 hR
   refine x_seq ?_
   refine x_reg ?_
   refine o_assign F rfl rfl (fun a F => ?_)
   refine x_end ?_
   refine x_tn ?_
   refine x_ret ?_
   refine x_tr ?_
   refine x_res1 F rfl (rv_t F rfl) ?_
   obtain rfl := Option.some.inj hR
   exact ⟨rfl, hB⟩
  replace hR := ifF hb993 hR
  refine x_skip ?_
  refine x_tn ?_
  refine x_seq ?_
  refine x_seq ?_
  refine x_drawn (by kernel_rfl) (fun w l => ?_)
  replace hB := Below.through l hB
  replace h783 := h783.go l
  replace o784 := o784.go l
  replace h789 := h789.go l
  replace o790 := o790.go l
  replace h824 := h824.go l
  replace o825 := o825.go l
  replace h848 := h848.go l
  replace o849 := o849.go l
  replace h876 := h876.go l
  replace o877 := o877.go l
  replace h909 := h909.go l
  replace o910 := o910.go l
  replace h911 := h911.go l
  replace o912 := o912.go l
  replace K12 := K12.thru l
  replace K19 := K19.thru l
  replace K776 := K776.thru l
  replace K778 := K778.thru l
  replace K833 := K833.thru l
  replace K859 := K859.thru l
  replace K937 := K937.thru l
  replace K952 := K952.thru l
  refine b_q 0 (by kernel_rfl) rfl (by kernel_rfl) (by kernel_rfl) (by kernel_rfl) (by kernel_rfl) ?_
  refine v_val F rfl (fun w l => r_bloadA (cs := [.int .i64 x0.size, v842]) Tryz.isAgg33 Tryz.sizeOf33 F rfl (K833.thru l) rfl (fun j hj => by match j, hj with | 0, _ => rfl | 1, _ => rfl)) (fun a F => ?_)
  refine b_q 1 (by kernel_rfl) rfl (by kernel_rfl) (by kernel_rfl) (by kernel_rfl) (by kernel_rfl) ?_
  refine v_val F rfl (fun w l => r_bloadA (cs := [.int .i64 x0.size, v14]) Tryz.isAgg24 Tryz.sizeOf24 F rfl (K12.thru l) rfl (fun j hj => by match j, hj with | 0, _ => rfl | 1, _ => rfl)) (fun a F => ?_)
  refine b_e 2 rfl (by kernel_rfl) ?_
  refine o_toA F rfl Tryz.call15 rfl (toTemplate_any _ _ _ _ (A0.go hB).r (A0.go hB).m (toq_some c36)) (fun a v994 b995 w l h996 o997 F => ?_)
  have d998 := Dj.new h783.m o997 (Nat.le_refl _)
  have d999 := Dj.new h789.m o997 (Nat.le_refl _)
  have d1000 := Dj.new h824.m o997 (Nat.le_refl _)
  have d1001 := Dj.new h848.m o997 (Nat.le_refl _)
  have d1002 := Dj.new h876.m o997 (Nat.le_refl _)
  have d1003 := Dj.new h909.m o997 (Nat.le_refl _)
  have d1004 := Dj.new h911.m o997 (Nat.le_refl _)
  have d1005 := Dj.new (inm1 K12) o997 (Nat.le_refl _)
  have d1006 := Dj.new (inm1 K19) o997 (Nat.le_refl _)
  have d1007 := Dj.new (inm1 K776) o997 (Nat.le_refl _)
  have d1008 := Dj.new (inm1 K778) o997 (Nat.le_refl _)
  have d1009 := Dj.new (inm1 K833) o997 (Nat.le_refl _)
  have d1010 := Dj.new (inm1 K859) o997 (Nat.le_refl _)
  have d1011 := Dj.new (inm1 K937) o997 (Nat.le_refl _)
  have d1012 := Dj.new (inm1 K952) o997 (Nat.le_refl _)
  replace o997 := o997.mono hB.size
  replace hB := Below.through l hB
  replace h783 := h783.go l
  replace o784 := o784.go l
  replace h789 := h789.go l
  replace o790 := o790.go l
  replace h824 := h824.go l
  replace o825 := o825.go l
  replace h848 := h848.go l
  replace o849 := o849.go l
  replace h876 := h876.go l
  replace o877 := o877.go l
  replace h909 := h909.go l
  replace o910 := o910.go l
  replace h911 := h911.go l
  replace o912 := o912.go l
  replace K12 := K12.thru l
  replace K19 := K19.thru l
  replace K776 := K776.thru l
  replace K778 := K778.thru l
  replace K833 := K833.thru l
  replace K859 := K859.thru l
  replace K937 := K937.thru l
  replace K952 := K952.thru l
  refine x_end ?_
  refine x_tn ?_
  refine ⟨.inl l, ?_⟩
  refine b_e 3 rfl (by kernel_rfl) ?_
  obtain ⟨z1013, c1014, hR⟩ := bnd_some hR
  refine o_says F rfl Tryz.call18 rfl (eqq_says (fun y => Rd (Agg 2 RTemplate) _ _ y _) c1014 h996 (fun hy => eqTemplate_any _ _ _ _ _ _ h824.r hy.r h824.m hy.m)) (fun a w l F => ?_)
  replace hB := Below.through l hB
  replace h783 := h783.go l
  replace o784 := o784.go l
  replace h789 := h789.go l
  replace o790 := o790.go l
  replace h824 := h824.go l
  replace o825 := o825.go l
  replace h848 := h848.go l
  replace o849 := o849.go l
  replace h876 := h876.go l
  replace o877 := o877.go l
  replace h909 := h909.go l
  replace o910 := o910.go l
  replace h911 := h911.go l
  replace o912 := o912.go l
  replace K12 := K12.thru l
  replace K19 := K19.thru l
  replace K776 := K776.thru l
  replace K778 := K778.thru l
  replace K833 := K833.thru l
  replace K859 := K859.thru l
  replace K937 := K937.thru l
  replace K952 := K952.thru l
  refine x_end ?_
  refine x_tn ?_
  refine ⟨.inl l, ?_⟩
  refine b_q0 4 rfl (by kernel_rfl) (by kernel_rfl) (by kernel_rfl) ?_
  refine v_val F rfl (fun w l => r_not F rfl) (fun a F => ?_)
  refine b_end (by kernel_rfl) ?_
  refine x_tn ?_
  refine x_if F rfl (fun hb1015 => ?_) (fun hb1015 => ?_)
  ·
   replace hR := ifT hb1015 hR
   refine x_seq ?_
   refine x_reg ?_
   refine o_assign F rfl rfl (fun a F => ?_)
   refine x_end ?_
   refine x_tn ?_
   refine x_ret ?_
   refine x_tr ?_
   refine x_res1 F rfl (rv_t F rfl) ?_
   obtain rfl := Option.some.inj hR
   exact ⟨rfl, hB⟩
  replace hR := ifF hb1015 hR
  refine x_skip ?_
  refine x_tn ?_
  refine x_seq ?_
  refine x_seq ?_
  refine x_drawn (by kernel_rfl) (fun w l => ?_)
  replace hB := Below.through l hB
  replace h783 := h783.go l
  replace o784 := o784.go l
  replace h789 := h789.go l
  replace o790 := o790.go l
  replace h824 := h824.go l
  replace o825 := o825.go l
  replace h848 := h848.go l
  replace o849 := o849.go l
  replace h876 := h876.go l
  replace o877 := o877.go l
  replace h909 := h909.go l
  replace o910 := o910.go l
  replace h911 := h911.go l
  replace o912 := o912.go l
  replace K12 := K12.thru l
  replace K19 := K19.thru l
  replace K776 := K776.thru l
  replace K778 := K778.thru l
  replace K833 := K833.thru l
  replace K859 := K859.thru l
  replace K937 := K937.thru l
  replace K952 := K952.thru l
  refine b_q 0 (by kernel_rfl) rfl (by kernel_rfl) (by kernel_rfl) (by kernel_rfl) (by kernel_rfl) ?_
  refine v_val F rfl (fun w l => r_bloadA (cs := [.int .i64 x1.vars, v870]) Tryz.isAgg60 Tryz.sizeOf60 F rfl (K859.thru l) rfl (fun j hj => by match j, hj with | 0, _ => rfl | 1, _ => rfl)) (fun a F => ?_)
  refine b_q 1 (by kernel_rfl) rfl (by kernel_rfl) (by kernel_rfl) (by kernel_rfl) (by kernel_rfl) ?_
  refine v_val F rfl (fun w l => r_bloadA (cs := [.int .i64 x1.vars, v21]) Tryz.isAgg54 Tryz.sizeOf54 F rfl (K19.thru l) rfl (fun j hj => by match j, hj with | 0, _ => rfl | 1, _ => rfl)) (fun a F => ?_)
  refine b_e 2 rfl (by kernel_rfl) ?_
  refine o_toA F rfl Tryz.call33 rfl (toInstance_any _ _ _ _ (A1.go hB).r (A1.go hB).m (toq_some c44)) (fun a v1016 b1017 w l h1018 o1019 F => ?_)
  have d1020 := Dj.new h783.m o1019 (Nat.le_refl _)
  have d1021 := Dj.new h789.m o1019 (Nat.le_refl _)
  have d1022 := Dj.new h824.m o1019 (Nat.le_refl _)
  have d1023 := Dj.new h848.m o1019 (Nat.le_refl _)
  have d1024 := Dj.new h876.m o1019 (Nat.le_refl _)
  have d1025 := Dj.new h909.m o1019 (Nat.le_refl _)
  have d1026 := Dj.new h911.m o1019 (Nat.le_refl _)
  have d1027 := Dj.new (inm1 K12) o1019 (Nat.le_refl _)
  have d1028 := Dj.new (inm1 K19) o1019 (Nat.le_refl _)
  have d1029 := Dj.new (inm1 K776) o1019 (Nat.le_refl _)
  have d1030 := Dj.new (inm1 K778) o1019 (Nat.le_refl _)
  have d1031 := Dj.new (inm1 K833) o1019 (Nat.le_refl _)
  have d1032 := Dj.new (inm1 K859) o1019 (Nat.le_refl _)
  have d1033 := Dj.new (inm1 K937) o1019 (Nat.le_refl _)
  have d1034 := Dj.new (inm1 K952) o1019 (Nat.le_refl _)
  replace o1019 := o1019.mono hB.size
  replace hB := Below.through l hB
  replace h783 := h783.go l
  replace o784 := o784.go l
  replace h789 := h789.go l
  replace o790 := o790.go l
  replace h824 := h824.go l
  replace o825 := o825.go l
  replace h848 := h848.go l
  replace o849 := o849.go l
  replace h876 := h876.go l
  replace o877 := o877.go l
  replace h909 := h909.go l
  replace o910 := o910.go l
  replace h911 := h911.go l
  replace o912 := o912.go l
  replace K12 := K12.thru l
  replace K19 := K19.thru l
  replace K776 := K776.thru l
  replace K778 := K778.thru l
  replace K833 := K833.thru l
  replace K859 := K859.thru l
  replace K937 := K937.thru l
  replace K952 := K952.thru l
  refine x_end ?_
  refine x_tn ?_
  refine ⟨.inl l, ?_⟩
  refine b_e 3 rfl (by kernel_rfl) ?_
  obtain ⟨z1035, c1036, hR⟩ := bnd_some hR
  refine o_says F rfl Tryz.call36 rfl (eqq_says (fun y => Rd (Agg 2 RInstance) _ _ y _) c1036 h1018 (fun hy => eqInstance_any _ _ _ _ _ _ h848.r hy.r h848.m hy.m)) (fun a w l F => ?_)
  replace hB := Below.through l hB
  replace h783 := h783.go l
  replace o784 := o784.go l
  replace h789 := h789.go l
  replace o790 := o790.go l
  replace h824 := h824.go l
  replace o825 := o825.go l
  replace h848 := h848.go l
  replace o849 := o849.go l
  replace h876 := h876.go l
  replace o877 := o877.go l
  replace h909 := h909.go l
  replace o910 := o910.go l
  replace h911 := h911.go l
  replace o912 := o912.go l
  replace K12 := K12.thru l
  replace K19 := K19.thru l
  replace K776 := K776.thru l
  replace K778 := K778.thru l
  replace K833 := K833.thru l
  replace K859 := K859.thru l
  replace K937 := K937.thru l
  replace K952 := K952.thru l
  refine x_end ?_
  refine x_tn ?_
  refine ⟨.inl l, ?_⟩
  refine b_q0 4 rfl (by kernel_rfl) (by kernel_rfl) (by kernel_rfl) ?_
  refine v_val F rfl (fun w l => r_not F rfl) (fun a F => ?_)
  refine b_end (by kernel_rfl) ?_
  refine x_tn ?_
  refine x_if F rfl (fun hb1037 => ?_) (fun hb1037 => ?_)
  ·
   replace hR := ifT hb1037 hR
   refine x_seq ?_
   refine x_reg ?_
   refine o_assign F rfl rfl (fun a F => ?_)
   refine x_end ?_
   refine x_tn ?_
   refine x_ret ?_
   refine x_tr ?_
   refine x_res1 F rfl (rv_t F rfl) ?_
   obtain rfl := Option.some.inj hR
   exact ⟨rfl, hB⟩
  replace hR := ifF hb1037 hR
  refine x_skip ?_
  refine x_tn ?_
  refine x_seq ?_
  refine x_seq ?_
  refine x_reg ?_
  refine o_move F rfl rfl (fun a F => ?_)
  refine o_move F rfl rfl (fun a F => ?_)
  refine o_toS F rfl Tryz.call34 rfl (toLiteralSS_any _ _ _ _ (A2.go hB).r (A2.go hB).m (toq_some c53)) (fun a v1038 b1039 w l h1040 o1041 F => ?_)
  have d1042 := Dj.new h783.m o1041 (Nat.le_refl _)
  have d1043 := Dj.new h789.m o1041 (Nat.le_refl _)
  have d1044 := Dj.new h824.m o1041 (Nat.le_refl _)
  have d1045 := Dj.new h848.m o1041 (Nat.le_refl _)
  have d1046 := Dj.new h876.m o1041 (Nat.le_refl _)
  have d1047 := Dj.new h909.m o1041 (Nat.le_refl _)
  have d1048 := Dj.new h911.m o1041 (Nat.le_refl _)
  have d1049 := Dj.new (inm1 K12) o1041 (Nat.le_refl _)
  have d1050 := Dj.new (inm1 K19) o1041 (Nat.le_refl _)
  have d1051 := Dj.new (inm1 K776) o1041 (Nat.le_refl _)
  have d1052 := Dj.new (inm1 K778) o1041 (Nat.le_refl _)
  have d1053 := Dj.new (inm1 K833) o1041 (Nat.le_refl _)
  have d1054 := Dj.new (inm1 K859) o1041 (Nat.le_refl _)
  have d1055 := Dj.new (inm1 K937) o1041 (Nat.le_refl _)
  have d1056 := Dj.new (inm1 K952) o1041 (Nat.le_refl _)
  replace o1041 := o1041.mono hB.size
  replace hB := Below.through l hB
  replace h783 := h783.go l
  replace o784 := o784.go l
  replace h789 := h789.go l
  replace o790 := o790.go l
  replace h824 := h824.go l
  replace o825 := o825.go l
  replace h848 := h848.go l
  replace o849 := o849.go l
  replace h876 := h876.go l
  replace o877 := o877.go l
  replace h909 := h909.go l
  replace o910 := o910.go l
  replace h911 := h911.go l
  replace o912 := o912.go l
  replace K12 := K12.thru l
  replace K19 := K19.thru l
  replace K776 := K776.thru l
  replace K778 := K778.thru l
  replace K833 := K833.thru l
  replace K859 := K859.thru l
  replace K937 := K937.thru l
  replace K952 := K952.thru l
  obtain ⟨z1057, c1058, hR⟩ := bnd_some hR
  refine o_says F rfl Tryz.call37 rfl (eqq_says (fun y => Rd (Sl 1 RLits) _ _ y _) c1058 h1040 (fun hy => eqLiteralSS_any _ _ _ _ _ _ h876.r hy.r h876.m hy.m)) (fun a w l F => ?_)
  replace hB := Below.through l hB
  replace h783 := h783.go l
  replace o784 := o784.go l
  replace h789 := h789.go l
  replace o790 := o790.go l
  replace h824 := h824.go l
  replace o825 := o825.go l
  replace h848 := h848.go l
  replace o849 := o849.go l
  replace h876 := h876.go l
  replace o877 := o877.go l
  replace h909 := h909.go l
  replace o910 := o910.go l
  replace h911 := h911.go l
  replace o912 := o912.go l
  replace K12 := K12.thru l
  replace K19 := K19.thru l
  replace K776 := K776.thru l
  replace K778 := K778.thru l
  replace K833 := K833.thru l
  replace K859 := K859.thru l
  replace K937 := K937.thru l
  replace K952 := K952.thru l
  refine o_not F rfl rfl (fun a F => ?_)
  refine x_end ?_
  refine x_tn ?_
  refine x_if F rfl (fun hb1059 => ?_) (fun hb1059 => ?_)
  ·
   replace hR := ifT hb1059 hR
   refine x_seq ?_
   refine x_reg ?_
   refine o_assign F rfl rfl (fun a F => ?_)
   refine x_end ?_
   refine x_tn ?_
   refine x_ret ?_
   refine x_tr ?_
   refine x_res1 F rfl (rv_t F rfl) ?_
   obtain rfl := Option.some.inj hR
   exact ⟨rfl, hB⟩
  replace hR := ifF hb1059 hR
  refine x_skip ?_
  refine x_tn ?_
  refine x_seq ?_
  refine x_reg ?_
  refine o_assign F rfl rfl (fun a F => ?_)
  refine x_end ?_
  refine x_tn ?_
  refine x_seq ?_
  refine x_reg ?_
  refine o_bloadA (cs := [.int .i64 x0.size, v842]) Tryz.isAgg33 Tryz.sizeOf33 F rfl rfl K833 rfl (fun j hj => by match j, hj with | 0, _ => rfl | 1, _ => rfl) (fun a F => ?_)
  refine o_move F rfl rfl (fun a F => ?_)
  obtain ⟨z1060, c1061, hR⟩ := bnd_some hR
  refine o_markA F rfl Tryz.call23 rfl (mkq_markA c1061 (fun h0 h1 => markTemplate_any _ _ _ _ _ _ h824.r o825 h0 h1)) (fun a w l h1062 o1063 F => ?_)
  replace h783 := h783.goO l d826
  replace o784 := o784.goO l d826
  replace h789 := h789.goO l d827
  replace o790 := o790.goO l d827
  replace h848 := h848.goO l (Dj.symm d852)
  replace o849 := o849.goO l (Dj.symm d852)
  replace h876 := h876.goO l (Dj.symm d880)
  replace o877 := o877.goO l (Dj.symm d880)
  replace h909 := h909.goO l (Dj.symm d915)
  replace o910 := o910.goO l (Dj.symm d915)
  replace h911 := h911.goO l (Dj.symm d926)
  replace o912 := o912.goO l (Dj.symm d926)
  replace K12 := K12.only l (Dj.in1 d828)
  replace K19 := K19.only l (Dj.in1 d829)
  replace K776 := K776.only l (Dj.in1 d830)
  replace K778 := K778.only l (Dj.in1 d831)
  replace K859 := K859.only l (Dj.in1 (Dj.symm d867))
  replace K937 := K937.only l (Dj.in1 (Dj.symm d946))
  replace K952 := K952.only l (Dj.in1 (Dj.symm d962))
  replace hB := hB.o l (Own.lo o825) hB.size
  have iz1060 := mkq_i c1061
  refine o_assign F rfl rfl (fun a F => ?_)
  refine x_end ?_
  refine x_tn ?_
  refine x_seq ?_
  refine x_reg ?_
  refine o_bloadA (cs := [.int .i64 x1.vars, v870]) Tryz.isAgg60 Tryz.sizeOf60 F rfl rfl K859 rfl (fun j hj => by match j, hj with | 0, _ => rfl | 1, _ => rfl) (fun a F => ?_)
  refine o_move F rfl rfl (fun a F => ?_)
  obtain ⟨z1064, c1065, hR⟩ := bnd_some hR
  refine o_markA F rfl Tryz.call38 rfl (mkq_markA c1065 (fun h0 h1 => markInstance_any _ _ _ _ _ _ h848.r o849 h0 h1)) (fun a w l h1066 o1067 F => ?_)
  replace h783 := h783.goO l d850
  replace o784 := o784.goO l d850
  replace h789 := h789.goO l d851
  replace o790 := o790.goO l d851
  replace h876 := h876.goO l (Dj.symm d881)
  replace o877 := o877.goO l (Dj.symm d881)
  replace h909 := h909.goO l (Dj.symm d916)
  replace o910 := o910.goO l (Dj.symm d916)
  replace h911 := h911.goO l (Dj.symm d927)
  replace o912 := o912.goO l (Dj.symm d927)
  replace K12 := K12.only l (Dj.in1 d853)
  replace K19 := K19.only l (Dj.in1 d854)
  replace K776 := K776.only l (Dj.in1 d855)
  replace K778 := K778.only l (Dj.in1 d856)
  replace K937 := K937.only l (Dj.in1 (Dj.symm d947))
  replace K952 := K952.only l (Dj.in1 (Dj.symm d963))
  replace hB := hB.o l (Own.lo o849) hB.size
  have iz1064 := mkq_i c1065
  refine o_assign F rfl rfl (fun a F => ?_)
  refine x_end ?_
  refine x_tn ?_
  refine x_seq ?_
  refine x_reg ?_
  refine o_move F rfl rfl (fun a F => ?_)
  refine o_move F rfl rfl (fun a F => ?_)
  obtain ⟨z1068, c1069, hR⟩ := bnd_some hR
  refine o_markS F rfl Tryz.call39 rfl (mkq_markS c1069 (fun h0 h1 => markLiteralSS_any _ _ _ _ _ _ h876.r o877 h0 h1)) (fun a w l h1070 o1071 F => ?_)
  replace h783 := h783.goO l d878
  replace o784 := o784.goO l d878
  replace h789 := h789.goO l d879
  replace o790 := o790.goO l d879
  replace h909 := h909.goO l (Dj.symm d917)
  replace o910 := o910.goO l (Dj.symm d917)
  replace h911 := h911.goO l (Dj.symm d928)
  replace o912 := o912.goO l (Dj.symm d928)
  replace K12 := K12.only l (Dj.in1 d882)
  replace K19 := K19.only l (Dj.in1 d883)
  replace K776 := K776.only l (Dj.in1 d884)
  replace K778 := K778.only l (Dj.in1 d885)
  replace K937 := K937.only l (Dj.in1 (Dj.symm d948))
  replace K952 := K952.only l (Dj.in1 (Dj.symm d964))
  replace hB := hB.o l (Own.lo o877) hB.size
  have iz1068 := mkq_i c1069
  refine o_assign F rfl rfl (fun a F => ?_)
  refine x_end ?_
  refine x_tn ?_
  refine x_seq ?_
  refine x_seq ?_
  obtain ⟨o1079, hR, hk1080⟩ := thn_some hR
  refine x_cutQ (fun a w => ∃ (s1082 : Bool), o1079 = .nx s1082 ∧ Sk a 179 [(2, v2), (3, .pointer (some ⟨b11, 0, none⟩)), (4, .pointer (some ⟨b18, 0, none⟩)), (8, .pointer (some ⟨b775, 0, none⟩)), (9, .pointer (some ⟨b777, 0, none⟩)), (10, .int .i64 z62.2.2), (14, .pointer (some ⟨b936, 0, none⟩)), (15, .pointer (some ⟨b951, 0, none⟩)), (120, .bool s1082)] ∧ Below w0.heap.size w0 w ∧ Rd (Agg 2 RTemplate) w (.agg #[.int .i64 z62.1.size, v780]) z62.1 b782 ∧ Own w0.heap.size b782 w ∧ Rd (Agg 2 RInstance) w (.agg #[.int .i64 z62.2.1.vars, v786]) z62.2.1 b788 ∧ Own w0.heap.size b788 w ∧ Rd (Agg 2 RTemplate) w (.agg #[.int .i64 z888.1.size, v891]) z888.1 ((rb892 ++ ib893)) ∧ Own w0.heap.size ((rb892 ++ ib893)) w ∧ Rd (Agg 2 RInstance) w (.agg #[.int .i64 z888.2.1.vars, v897]) z888.2.1 ((rb898 ++ ib899)) ∧ Own w0.heap.size ((rb898 ++ ib899)) w ∧ Blk w b11 #[.int .i64 x0.size, v14] 24 ∧ Blk w b18 #[.int .i64 x1.vars, v21] 54 ∧ Blk w b775 #[.int .i64 z62.1.size, v780] 33 ∧ Blk w b777 #[.int .i64 z62.2.1.vars, v786] 60 ∧ Blk w b936 #[.int .i64 z888.1.size, v891] 33 ∧ Blk w b951 #[.int .i64 z888.2.1.vars, v897] 60) ?_ ?_
  ·
   refine x_reg ?_
   refine o_move F rfl rfl (fun a F => ?_)
   refine o_lss F rfl rfl rfl (fun a F => ?_)
   refine o_move F rfl rfl (fun a F => ?_)
   rcases bcases (decide (z1068 < 0)) with hb1083 | hb1083
   ·
    replace hR := ifT hb1083 hR
    have F := F.eq (t := 104) rfl (congrArg Value.bool hb1083)
    refine o_no F rfl rfl (fun a F => ?_)
    refine o_no F rfl rfl (fun a F => ?_)
    refine o_no F rfl rfl (fun a F => ?_)
    refine o_no F rfl rfl (fun a F => ?_)
    refine o_pickt F rfl rfl rfl (fun a F => ?_)
    refine o_move F rfl rfl (fun a F => ?_)
    refine o_no F rfl rfl (fun a F => ?_)
    refine o_no F rfl rfl (fun a F => ?_)
    refine o_no F rfl rfl (fun a F => ?_)
    refine o_no F rfl rfl (fun a F => ?_)
    refine o_pickt F rfl rfl rfl (fun a F => ?_)
    refine o_move F rfl rfl (fun a F => ?_)
    refine o_no F rfl rfl (fun a F => ?_)
    refine o_no F rfl rfl (fun a F => ?_)
    refine o_no F rfl rfl (fun a F => ?_)
    refine o_pickt F rfl rfl rfl (fun a F => ?_)
    refine x_end ?_
    refine x_tn ?_
    exact ⟨true, (Option.some.inj hR).symm, F.sub (sc rfl (sc rfl (sc rfl (sc rfl (sc rfl (sc rfl (sc rfl (sc rfl (sc rfl sn))))))))), hB, h783, o784, h789, o790, h909, o910, h911, o912, K12, K19, K776, K778, K937, K952⟩
   replace hR := ifF hb1083 hR
   have F := F.eq (t := 104) rfl (congrArg Value.bool hb1083)
   refine o_bloadA (cs := [.int .i64 z888.1.size, v891]) Tryz.isAgg33 Tryz.sizeOf33 F rfl rfl K937 rfl (fun j hj => by match j, hj with | 0, _ => rfl | 1, _ => rfl) (fun a F => ?_)
   refine o_bloadA (cs := [.int .i64 z62.1.size, v780]) Tryz.isAgg33 Tryz.sizeOf33 F rfl rfl K776 rfl (fun j hj => by match j, hj with | 0, _ => rfl | 1, _ => rfl) (fun a F => ?_)
   obtain ⟨z1084, c1085, hR⟩ := bnd_some hR
   refine o_says F rfl Tryz.call18 rfl (eqq_says (fun y => Rd (Agg 2 RTemplate) _ _ y _) c1085 h783 (fun hy => eqTemplate_any _ _ _ _ _ _ h909.r hy.r h909.m hy.m)) (fun a w l F => ?_)
   replace hB := Below.through l hB
   replace h783 := h783.go l
   replace o784 := o784.go l
   replace h789 := h789.go l
   replace o790 := o790.go l
   replace h909 := h909.go l
   replace o910 := o910.go l
   replace h911 := h911.go l
   replace o912 := o912.go l
   replace K12 := K12.thru l
   replace K19 := K19.thru l
   replace K776 := K776.thru l
   replace K778 := K778.thru l
   replace K937 := K937.thru l
   replace K952 := K952.thru l
   refine o_not F rfl rfl (fun a F => ?_)
   refine o_pickf F rfl rfl rfl (fun a F => ?_)
   refine o_move F rfl rfl (fun a F => ?_)
   rcases bcases (!z1084) with hb1086 | hb1086
   ·
    replace hR := ifT hb1086 hR
    have F := F.eq (t := 110) rfl (congrArg Value.bool hb1086)
    refine o_no F rfl rfl (fun a F => ?_)
    refine o_no F rfl rfl (fun a F => ?_)
    refine o_no F rfl rfl (fun a F => ?_)
    refine o_no F rfl rfl (fun a F => ?_)
    refine o_pickt F rfl rfl rfl (fun a F => ?_)
    refine o_move F rfl rfl (fun a F => ?_)
    refine o_no F rfl rfl (fun a F => ?_)
    refine o_no F rfl rfl (fun a F => ?_)
    refine o_no F rfl rfl (fun a F => ?_)
    refine o_pickt F rfl rfl rfl (fun a F => ?_)
    refine x_end ?_
    refine x_tn ?_
    exact ⟨true, (Option.some.inj hR).symm, F.sub (sc rfl (sc rfl (sc rfl (sc rfl (sc rfl (sc rfl (sc rfl (sc rfl (sc rfl sn))))))))), hB, h783, o784, h789, o790, h909, o910, h911, o912, K12, K19, K776, K778, K937, K952⟩
   replace hR := ifF hb1086 hR
   have F := F.eq (t := 110) rfl (congrArg Value.bool hb1086)
   refine o_bloadA (cs := [.int .i64 z888.2.1.vars, v897]) Tryz.isAgg60 Tryz.sizeOf60 F rfl rfl K952 rfl (fun j hj => by match j, hj with | 0, _ => rfl | 1, _ => rfl) (fun a F => ?_)
   refine o_bloadA (cs := [.int .i64 z62.2.1.vars, v786]) Tryz.isAgg60 Tryz.sizeOf60 F rfl rfl K778 rfl (fun j hj => by match j, hj with | 0, _ => rfl | 1, _ => rfl) (fun a F => ?_)
   obtain ⟨z1087, c1088, hR⟩ := bnd_some hR
   refine o_says F rfl Tryz.call36 rfl (eqq_says (fun y => Rd (Agg 2 RInstance) _ _ y _) c1088 h789 (fun hy => eqInstance_any _ _ _ _ _ _ h911.r hy.r h911.m hy.m)) (fun a w l F => ?_)
   replace hB := Below.through l hB
   replace h783 := h783.go l
   replace o784 := o784.go l
   replace h789 := h789.go l
   replace o790 := o790.go l
   replace h909 := h909.go l
   replace o910 := o910.go l
   replace h911 := h911.go l
   replace o912 := o912.go l
   replace K12 := K12.thru l
   replace K19 := K19.thru l
   replace K776 := K776.thru l
   replace K778 := K778.thru l
   replace K937 := K937.thru l
   replace K952 := K952.thru l
   refine o_not F rfl rfl (fun a F => ?_)
   refine o_pickf F rfl rfl rfl (fun a F => ?_)
   refine o_move F rfl rfl (fun a F => ?_)
   rcases bcases (!z1087) with hb1089 | hb1089
   ·
    replace hR := ifT hb1089 hR
    have F := F.eq (t := 116) rfl (congrArg Value.bool hb1089)
    refine o_no F rfl rfl (fun a F => ?_)
    refine o_no F rfl rfl (fun a F => ?_)
    refine o_no F rfl rfl (fun a F => ?_)
    refine o_pickt F rfl rfl rfl (fun a F => ?_)
    refine x_end ?_
    refine x_tn ?_
    exact ⟨true, (Option.some.inj hR).symm, F.sub (sc rfl (sc rfl (sc rfl (sc rfl (sc rfl (sc rfl (sc rfl (sc rfl (sc rfl sn))))))))), hB, h783, o784, h789, o790, h909, o910, h911, o912, K12, K19, K776, K778, K937, K952⟩
   replace hR := ifF hb1089 hR
   have F := F.eq (t := 116) rfl (congrArg Value.bool hb1089)
   refine o_move F rfl rfl (fun a F => ?_)
   refine o_move F rfl rfl (fun a F => ?_)
   refine o_neq F rfl rfl rfl (fun a F => ?_)
   refine o_pickf F rfl rfl rfl (fun a F => ?_)
   refine x_end ?_
   refine x_tn ?_
   exact ⟨(z888.2.2 != z62.2.2), (Option.some.inj hR).symm, F.sub (sc rfl (sc rfl (sc rfl (sc rfl (sc rfl (sc rfl (sc rfl (sc rfl (sc rfl sn))))))))), hB, h783, o784, h789, o790, h909, o910, h911, o912, K12, K19, K776, K778, K937, K952⟩
  intro a w ⟨s1082, ho1081, F, hB, h783, o784, h789, o790, h909, o910, h911, o912, K12, K19, K776, K778, K937, K952⟩
  subst ho1081
  have hR := then_nx hk1080
  refine x_tn ?_
  refine x_if F rfl (fun hb1090 => ?_) (fun hb1090 => ?_)
  ·
   replace hR := ifT hb1090 hR
   refine x_seq ?_
   refine x_reg ?_
   refine o_assign F rfl rfl (fun a F => ?_)
   refine x_end ?_
   refine x_tn ?_
   refine x_ret ?_
   refine x_tr ?_
   refine x_res1 F rfl (rv_t F rfl) ?_
   obtain rfl := Option.some.inj hR
   exact ⟨rfl, hB⟩
  replace hR := ifF hb1090 hR
  refine x_skip ?_
  refine x_tn ?_
  refine x_seq ?_
  refine x_reg ?_
  refine o_assign F rfl rfl (fun a F => ?_)
  refine x_end ?_
  refine x_tn ?_
  refine x_seq ?_
  refine x_reg ?_
  refine o_bloadA (cs := [.int .i64 z888.1.size, v891]) Tryz.isAgg33 Tryz.sizeOf33 F rfl rfl K937 rfl (fun j hj => by match j, hj with | 0, _ => rfl | 1, _ => rfl) (fun a F => ?_)
  refine o_move F rfl rfl (fun a F => ?_)
  obtain ⟨z1091, c1092, hR⟩ := bnd_some hR
  refine o_markA F rfl Tryz.call23 rfl (mkq_markA c1092 (fun h0 h1 => markTemplate_any _ _ _ _ _ _ h909.r o910 h0 h1)) (fun a w l h1093 o1094 F => ?_)
  replace h783 := h783.goO l d913
  replace o784 := o784.goO l d913
  replace h789 := h789.goO l d914
  replace o790 := o790.goO l d914
  replace h911 := h911.goO l (Dj.symm d935)
  replace o912 := o912.goO l (Dj.symm d935)
  replace K12 := K12.only l (Dj.in1 d918)
  replace K19 := K19.only l (Dj.in1 d919)
  replace K776 := K776.only l (Dj.in1 d920)
  replace K778 := K778.only l (Dj.in1 d921)
  replace K937 := K937.only l (Dj.in1 (Dj.symm d949))
  replace K952 := K952.only l (Dj.in1 (Dj.symm d965))
  replace hB := hB.o l (Own.lo o910) hB.size
  have iz1091 := mkq_i c1092
  refine o_assign F rfl rfl (fun a F => ?_)
  refine x_end ?_
  refine x_tn ?_
  refine x_seq ?_
  refine x_reg ?_
  refine o_bloadA (cs := [.int .i64 z888.2.1.vars, v897]) Tryz.isAgg60 Tryz.sizeOf60 F rfl rfl K952 rfl (fun j hj => by match j, hj with | 0, _ => rfl | 1, _ => rfl) (fun a F => ?_)
  refine o_move F rfl rfl (fun a F => ?_)
  obtain ⟨z1095, c1096, hR⟩ := bnd_some hR
  refine o_markA F rfl Tryz.call38 rfl (mkq_markA c1096 (fun h0 h1 => markInstance_any _ _ _ _ _ _ h911.r o912 h0 h1)) (fun a w l h1097 o1098 F => ?_)
  replace h783 := h783.goO l d924
  replace o784 := o784.goO l d924
  replace h789 := h789.goO l d925
  replace o790 := o790.goO l d925
  replace h1093 := h1093.goO l d935
  replace o1094 := o1094.goO l d935
  replace K12 := K12.only l (Dj.in1 d929)
  replace K19 := K19.only l (Dj.in1 d930)
  replace K776 := K776.only l (Dj.in1 d931)
  replace K778 := K778.only l (Dj.in1 d932)
  replace K937 := K937.only l (Dj.in1 (Dj.symm d950))
  replace K952 := K952.only l (Dj.in1 (Dj.symm d966))
  replace hB := hB.o l (Own.lo o912) hB.size
  have iz1095 := mkq_i c1096
  refine o_assign F rfl rfl (fun a F => ?_)
  refine x_end ?_
  refine x_tn ?_
  refine x_seq ?_
  refine x_reg ?_
  refine o_assign F rfl rfl (fun a F => ?_)
  refine x_end ?_
  refine x_tn ?_
  refine x_seq ?_
  refine x_reg ?_
  refine o_bloadA (cs := [.int .i64 z888.1.size, v891]) Tryz.isAgg33 Tryz.sizeOf33 F rfl rfl K937 rfl (fun j hj => by match j, hj with | 0, _ => rfl | 1, _ => rfl) (fun a F => ?_)
  refine o_move F rfl rfl (fun a F => ?_)
  refine o_saysI F rfl Tryz.call40 rfl (mkq_says c1092 (fun h0 h1 => heldTemplate_any _ _ _ _ _ h1093.r h1093.m h0 h1)) (fun a w l iz1091 F => ?_)
  replace hB := Below.through l hB
  replace h783 := h783.go l
  replace o784 := o784.go l
  replace h789 := h789.go l
  replace o790 := o790.go l
  replace h1093 := h1093.go l
  replace o1094 := o1094.go l
  replace h1097 := h1097.go l
  replace o1098 := o1098.go l
  replace K12 := K12.thru l
  replace K19 := K19.thru l
  replace K776 := K776.thru l
  replace K778 := K778.thru l
  replace K937 := K937.thru l
  replace K952 := K952.thru l
  refine o_assign F rfl rfl (fun a F => ?_)
  refine x_end ?_
  refine x_tn ?_
  refine x_seq ?_
  refine x_seq ?_
  refine x_reg ?_
  refine o_move F rfl rfl (fun a F => ?_)
  refine o_lss F rfl rfl rfl (fun a F => ?_)
  refine x_end ?_
  refine x_tn ?_
  refine x_if F rfl (fun hb1099 => ?_) (fun hb1099 => ?_)
  ·
   replace hR := ifT hb1099 hR
   refine x_seq ?_
   refine x_reg ?_
   refine o_assign F rfl rfl (fun a F => ?_)
   refine x_end ?_
   refine x_tn ?_
   refine x_ret ?_
   refine x_tr ?_
   refine x_res1 F rfl (rv_t F rfl) ?_
   obtain rfl := Option.some.inj hR
   exact ⟨rfl, hB⟩
  replace hR := ifF hb1099 hR
  refine x_skip ?_
  refine x_tn ?_
  refine x_seq ?_
  refine x_reg ?_
  refine o_bloadA (cs := [.int .i64 z888.2.1.vars, v897]) Tryz.isAgg60 Tryz.sizeOf60 F rfl rfl K952 rfl (fun j hj => by match j, hj with | 0, _ => rfl | 1, _ => rfl) (fun a F => ?_)
  refine o_move F rfl rfl (fun a F => ?_)
  refine o_saysI F rfl Tryz.call41 rfl (mkq_says c1096 (fun h0 h1 => heldInstance_any _ _ _ _ _ h1097.r h1097.m h0 h1)) (fun a w l iz1095 F => ?_)
  replace hB := Below.through l hB
  replace h783 := h783.go l
  replace o784 := o784.go l
  replace h789 := h789.go l
  replace o790 := o790.go l
  replace h1093 := h1093.go l
  replace o1094 := o1094.go l
  replace h1097 := h1097.go l
  replace o1098 := o1098.go l
  replace K12 := K12.thru l
  replace K19 := K19.thru l
  replace K776 := K776.thru l
  replace K778 := K778.thru l
  replace K937 := K937.thru l
  replace K952 := K952.thru l
  refine o_assign F rfl rfl (fun a F => ?_)
  refine x_end ?_
  refine x_tn ?_
  refine x_seq ?_
  refine x_seq ?_
  refine x_reg ?_
  refine o_move F rfl rfl (fun a F => ?_)
  refine o_lss F rfl rfl rfl (fun a F => ?_)
  refine x_end ?_
  refine x_tn ?_
  refine x_if F rfl (fun hb1100 => ?_) (fun hb1100 => ?_)
  ·
   replace hR := ifT hb1100 hR
   refine x_seq ?_
   refine x_reg ?_
   refine o_assign F rfl rfl (fun a F => ?_)
   refine x_end ?_
   refine x_tn ?_
   refine x_ret ?_
   refine x_tr ?_
   refine x_res1 F rfl (rv_t F rfl) ?_
   obtain rfl := Option.some.inj hR
   exact ⟨rfl, hB⟩
  replace hR := ifF hb1100 hR
  refine x_skip ?_
  refine x_tn ?_
  refine x_seq ?_
  refine x_seq ?_
  refine x_reg ?_
  refine o_move F rfl rfl (fun a F => ?_)
  refine o_move F rfl rfl (fun a F => ?_)
  refine o_neq F rfl rfl rfl (fun a F => ?_)
  refine x_end ?_
  refine x_tn ?_
  refine x_if F rfl (fun hb1101 => ?_) (fun hb1101 => ?_)
  ·
   replace hR := ifT hb1101 hR
   refine x_seq ?_
   refine x_reg ?_
   refine o_assign F rfl rfl (fun a F => ?_)
   refine x_end ?_
   refine x_tn ?_
   refine x_ret ?_
   refine x_tr ?_
   refine x_res1 F rfl (rv_t F rfl) ?_
   obtain rfl := Option.some.inj hR
   exact ⟨rfl, hB⟩
  replace hR := ifF hb1101 hR
  refine x_skip ?_
  refine x_tn ?_
  refine x_seq ?_
  refine x_drawn (by kernel_rfl) (fun w l => ?_)
  replace hB := Below.through l hB
  replace h783 := h783.go l
  replace o784 := o784.go l
  replace h789 := h789.go l
  replace o790 := o790.go l
  replace h1093 := h1093.go l
  replace o1094 := o1094.go l
  replace h1097 := h1097.go l
  replace o1098 := o1098.go l
  replace K12 := K12.thru l
  replace K19 := K19.thru l
  replace K776 := K776.thru l
  replace K778 := K778.thru l
  replace K937 := K937.thru l
  replace K952 := K952.thru l
  refine dp (fun G => ∀ (b2480 : Nat) (b2482 : Nat) (v2485 : Value) (b2487 : List Nat) (v2491 : Value) (b2493 : List Nat) (a : Act) (w : World), Sk a 179 [(8, .pointer (some ⟨b775, 0, none⟩)), (9, .pointer (some ⟨b777, 0, none⟩)), (10, .int .i64 z62.2.2), (14, .pointer (some ⟨b936, 0, none⟩)), (15, .pointer (some ⟨b951, 0, none⟩)), (18, .int .i64 z1095), (20, .pointer (some ⟨b2480, 0, none⟩)), (21, .pointer (some ⟨b2482, 0, none⟩)), (148, (.agg #[.int .i64 z888.1.size, v2485])), (149, (.agg #[.int .i64 z888.2.1.vars, v2491])), (150, .int .i64 z888.2.2)] → Below w0.heap.size w0 w → Rd (Agg 2 RTemplate) w (.agg #[.int .i64 z62.1.size, v780]) z62.1 b782 → Own w0.heap.size b782 w → Rd (Agg 2 RInstance) w (.agg #[.int .i64 z62.2.1.vars, v786]) z62.2.1 b788 → Own w0.heap.size b788 w → Rd (Agg 2 RTemplate) w (.agg #[.int .i64 z888.1.size, v891]) (z888.1.mkv 1) ((rb892 ++ ib893)) → Own w0.heap.size ((rb892 ++ ib893)) w → Rd (Agg 2 RInstance) w (.agg #[.int .i64 z888.2.1.vars, v897]) (z888.2.1.mkv z1091) ((rb898 ++ ib899)) → Own w0.heap.size ((rb898 ++ ib899)) w → w0.heap.size ≤ b2480 → w0.heap.size ≤ b2482 → I64 z888.1.size → v2485.oneCell' = true → Rd (Agg 2 RTemplate) w (.agg #[.int .i64 z888.1.size, v2485]) z888.1 b2487 → Own w0.heap.size b2487 w → I64 z888.2.1.vars → v2491.oneCell' = true → Rd (Agg 2 RInstance) w (.agg #[.int .i64 z888.2.1.vars, v2491]) z888.2.1 b2493 → Own w0.heap.size b2493 w → I64 z888.2.2 → Blk w b775 #[.int .i64 z62.1.size, v780] 33 → Blk w b777 #[.int .i64 z62.2.1.vars, v786] 60 → Blk w b936 #[.int .i64 z888.1.size, v891] 33 → Blk w b951 #[.int .i64 z888.2.1.vars, v897] 60 → Blk w b2480 #[.int .i64 0, (.slice none 0 0)] 33 → Blk w b2482 #[.int .i64 0, (.slice none 0 0)] 60 → Dj b782 ([b2482]) → Dj b788 ([b2482]) → Dj ((rb892 ++ ib893)) ([b2482]) → Dj ((rb898 ++ ib899)) ([b2482]) → Dj b782 ([b2480]) → Dj b788 ([b2480]) → Dj ((rb892 ++ ib893)) ([b2480]) → Dj ((rb898 ++ ib899)) ([b2480]) → Dj b782 b2487 → Dj b2487 b782 → Dj b788 b2487 → Dj b2487 b788 → Dj ((rb892 ++ ib893)) b2487 → Dj b2487 ((rb892 ++ ib893)) → Dj ((rb898 ++ ib899)) b2487 → Dj b2487 ((rb898 ++ ib899)) → Dj [b775] b2487 → Dj b2487 ([b775]) → Dj [b777] b2487 → Dj b2487 ([b777]) → Dj [b936] b2487 → Dj b2487 ([b936]) → Dj [b951] b2487 → Dj b2487 ([b951]) → Dj b2487 ([b2480]) → Dj b2487 ([b2482]) → Dj b782 b2493 → Dj b2493 b782 → Dj b788 b2493 → Dj b2493 b788 → Dj ((rb892 ++ ib893)) b2493 → Dj b2493 ((rb892 ++ ib893)) → Dj ((rb898 ++ ib899)) b2493 → Dj b2493 ((rb898 ++ ib899)) → Dj [b775] b2493 → Dj b2493 ([b775]) → Dj [b777] b2493 → Dj b2493 ([b777]) → Dj [b936] b2493 → Dj b2493 ([b936]) → Dj [b951] b2493 → Dj b2493 ([b951]) → Dj b2493 ([b2480]) → Dj b2493 ([b2482]) → Dj b2487 b2493 → Dj b2493 b2487 → b2480 ≠ b775 → b2480 ≠ b777 → b2480 ≠ b936 → b2480 ≠ b951 → b2480 ≠ b2482 → b2482 ≠ b775 → b2482 ≠ b777 → b2482 ≠ b936 → b2482 ≠ b951 → ∀ ls, ls = #[true, true, true, true, true, true, true, true, true, true, true, true, true, false, false, false] → G 3 ls a w) ?_ (fun H2552 => ?_)
  ·
   intro b2480 b2482 v2485 b2487 v2491 b2493 a w F hB h783 o784 h789 o790 h1093 o1094 h1097 o1098 CK2481 CK2483 i2484 o2486 h2488 o2489 i2490 o2492 h2494 o2495 i2496 K776 K778 K937 K952 K2481 K2483 d2497 d2498 d2499 d2500 d2501 d2502 d2503 d2504 d2505 d2506 d2507 d2508 d2509 d2510 d2511 d2512 d2513 d2514 d2515 d2516 d2517 d2518 d2519 d2520 d2521 d2522 d2523 d2524 d2525 d2526 d2527 d2528 d2529 d2530 d2531 d2532 d2533 d2534 d2535 d2536 d2537 d2538 d2539 d2540 d2541 d2542 nb2543 nb2544 nb2545 nb2546 nb2547 nb2548 nb2549 nb2550 nb2551 ls hls
   subst hls
   refine b_e 13 rfl (by kernel_rfl) ?_
   refine o_bstoreA (vs := [.int .i64 z888.1.size, v2485]) Tryz.sizeOf33 F rfl rfl rfl K2481 (oc rfl (oc o2486 on)) (Nat.le_of_ble_eq_true rfl) rfl (fun w K2481 l => ?_)
   replace hB := hB.o l (fun c hc => by rw [List.mem_singleton] at hc; rw [hc]; exact CK2481) hB.size
   replace h783 := h783.goO l d2501
   replace o784 := o784.goO l d2501
   replace h789 := h789.goO l d2502
   replace o790 := o790.goO l d2502
   replace h1093 := h1093.goO l d2503
   replace o1094 := o1094.goO l d2503
   replace h1097 := h1097.goO l d2504
   replace o1098 := o1098.goO l d2504
   replace h2488 := h2488.goO l d2521
   replace o2489 := o2489.goO l d2521
   replace h2494 := h2494.goO l d2539
   replace o2495 := o2495.goO l d2539
   replace K776 := K776.only l (by simpa using nb2543.symm)
   replace K778 := K778.only l (by simpa using nb2544.symm)
   replace K937 := K937.only l (by simpa using nb2545.symm)
   replace K952 := K952.only l (by simpa using nb2546.symm)
   replace K2483 := K2483.only l (by simpa using nb2547.symm)
   refine x_end ?_
   refine x_tn ?_
   refine ⟨.inr (by kernel_rfl), ?_⟩
   refine b_e 14 rfl (by kernel_rfl) ?_
   refine o_bstoreA (vs := [.int .i64 z888.2.1.vars, v2491]) Tryz.sizeOf60 F rfl rfl rfl K2483 (oc rfl (oc o2492 on)) (Nat.le_of_ble_eq_true rfl) rfl (fun w K2483 l => ?_)
   replace hB := hB.o l (fun c hc => by rw [List.mem_singleton] at hc; rw [hc]; exact CK2483) hB.size
   replace h783 := h783.goO l d2497
   replace o784 := o784.goO l d2497
   replace h789 := h789.goO l d2498
   replace o790 := o790.goO l d2498
   replace h1093 := h1093.goO l d2499
   replace o1094 := o1094.goO l d2499
   replace h1097 := h1097.goO l d2500
   replace o1098 := o1098.goO l d2500
   replace h2488 := h2488.goO l d2522
   replace o2489 := o2489.goO l d2522
   replace h2494 := h2494.goO l d2540
   replace o2495 := o2495.goO l d2540
   replace K776 := K776.only l (by simpa using nb2548.symm)
   replace K778 := K778.only l (by simpa using nb2549.symm)
   replace K937 := K937.only l (by simpa using nb2550.symm)
   replace K952 := K952.only l (by simpa using nb2551.symm)
   replace K2481 := K2481.only l (by simpa using nb2547)
   refine x_end ?_
   refine x_tn ?_
   refine ⟨.inr (by kernel_rfl), ?_⟩
   refine b_q0 15 rfl (by kernel_rfl) (by kernel_rfl) (by kernel_rfl) ?_
   refine v_val F rfl (fun w l => r_assign F rfl) (fun a F => ?_)
   refine b_end (by kernel_rfl) ?_
   refine x_tn ?_
   refine x_seq ?_
   refine x_seq ?_
   obtain ⟨o2569, hR, hk2570⟩ := thn_some hR
   refine x_cutQ (fun a w => ∃ (s2572 : Bool), o2569 = .nx s2572 ∧ Sk a 179 [(14, .pointer (some ⟨b936, 0, none⟩)), (15, .pointer (some ⟨b951, 0, none⟩)), (18, .int .i64 z1095), (165, .bool s2572)] ∧ Below w0.heap.size w0 w ∧ Rd (Agg 2 RTemplate) w (.agg #[.int .i64 z888.1.size, v891]) (z888.1.mkv 1) ((rb892 ++ ib893)) ∧ Own w0.heap.size ((rb892 ++ ib893)) w ∧ Rd (Agg 2 RInstance) w (.agg #[.int .i64 z888.2.1.vars, v897]) (z888.2.1.mkv z1091) ((rb898 ++ ib899)) ∧ Own w0.heap.size ((rb898 ++ ib899)) w ∧ Blk w b936 #[.int .i64 z888.1.size, v891] 33 ∧ Blk w b951 #[.int .i64 z888.2.1.vars, v897] 60) ?_ ?_
   ·
    refine x_reg ?_
    refine o_bloadA (cs := [.int .i64 z888.1.size, v2485]) Tryz.isAgg33 Tryz.sizeOf33 F rfl rfl K2481 rfl (fun j hj => by match j, hj with | 0, _ => rfl | 1, _ => rfl) (fun a F => ?_)
    refine o_bloadA (cs := [.int .i64 z62.1.size, v780]) Tryz.isAgg33 Tryz.sizeOf33 F rfl rfl K776 rfl (fun j hj => by match j, hj with | 0, _ => rfl | 1, _ => rfl) (fun a F => ?_)
    obtain ⟨z2573, c2574, hR⟩ := bnd_some hR
    refine o_says F rfl Tryz.call18 rfl (eqq_says (fun y => Rd (Agg 2 RTemplate) _ _ y _) c2574 h783 (fun hy => eqTemplate_any _ _ _ _ _ _ h2488.r hy.r h2488.m hy.m)) (fun a w l F => ?_)
    replace hB := Below.through l hB
    replace h789 := h789.go l
    replace o790 := o790.go l
    replace h1093 := h1093.go l
    replace o1094 := o1094.go l
    replace h1097 := h1097.go l
    replace o1098 := o1098.go l
    replace h2494 := h2494.go l
    replace o2495 := o2495.go l
    replace K778 := K778.thru l
    replace K937 := K937.thru l
    replace K952 := K952.thru l
    replace K2483 := K2483.thru l
    refine o_not F rfl rfl (fun a F => ?_)
    refine o_move F rfl rfl (fun a F => ?_)
    rcases bcases (!z2573) with hb2575 | hb2575
    ·
     replace hR := ifT hb2575 hR
     have F := F.eq (t := 155) rfl (congrArg Value.bool hb2575)
     refine o_no F rfl rfl (fun a F => ?_)
     refine o_no F rfl rfl (fun a F => ?_)
     refine o_no F rfl rfl (fun a F => ?_)
     refine o_no F rfl rfl (fun a F => ?_)
     refine o_pickt F rfl rfl rfl (fun a F => ?_)
     refine o_move F rfl rfl (fun a F => ?_)
     refine o_no F rfl rfl (fun a F => ?_)
     refine o_no F rfl rfl (fun a F => ?_)
     refine o_no F rfl rfl (fun a F => ?_)
     refine o_pickt F rfl rfl rfl (fun a F => ?_)
     refine x_end ?_
     refine x_tn ?_
     exact ⟨true, (Option.some.inj hR).symm, F.sub (sc rfl (sc rfl (sc rfl (sc rfl sn)))), hB, h1093, o1094, h1097, o1098, K937, K952⟩
    replace hR := ifF hb2575 hR
    have F := F.eq (t := 155) rfl (congrArg Value.bool hb2575)
    refine o_bloadA (cs := [.int .i64 z888.2.1.vars, v2491]) Tryz.isAgg60 Tryz.sizeOf60 F rfl rfl K2483 rfl (fun j hj => by match j, hj with | 0, _ => rfl | 1, _ => rfl) (fun a F => ?_)
    refine o_bloadA (cs := [.int .i64 z62.2.1.vars, v786]) Tryz.isAgg60 Tryz.sizeOf60 F rfl rfl K778 rfl (fun j hj => by match j, hj with | 0, _ => rfl | 1, _ => rfl) (fun a F => ?_)
    obtain ⟨z2576, c2577, hR⟩ := bnd_some hR
    refine o_says F rfl Tryz.call36 rfl (eqq_says (fun y => Rd (Agg 2 RInstance) _ _ y _) c2577 h789 (fun hy => eqInstance_any _ _ _ _ _ _ h2494.r hy.r h2494.m hy.m)) (fun a w l F => ?_)
    replace hB := Below.through l hB
    replace h1093 := h1093.go l
    replace o1094 := o1094.go l
    replace h1097 := h1097.go l
    replace o1098 := o1098.go l
    replace K937 := K937.thru l
    replace K952 := K952.thru l
    refine o_not F rfl rfl (fun a F => ?_)
    refine o_pickf F rfl rfl rfl (fun a F => ?_)
    refine o_move F rfl rfl (fun a F => ?_)
    rcases bcases (!z2576) with hb2578 | hb2578
    ·
     replace hR := ifT hb2578 hR
     have F := F.eq (t := 161) rfl (congrArg Value.bool hb2578)
     refine o_no F rfl rfl (fun a F => ?_)
     refine o_no F rfl rfl (fun a F => ?_)
     refine o_no F rfl rfl (fun a F => ?_)
     refine o_pickt F rfl rfl rfl (fun a F => ?_)
     refine x_end ?_
     refine x_tn ?_
     exact ⟨true, (Option.some.inj hR).symm, F.sub (sc rfl (sc rfl (sc rfl (sc rfl sn)))), hB, h1093, o1094, h1097, o1098, K937, K952⟩
    replace hR := ifF hb2578 hR
    have F := F.eq (t := 161) rfl (congrArg Value.bool hb2578)
    refine o_move F rfl rfl (fun a F => ?_)
    refine o_move F rfl rfl (fun a F => ?_)
    refine o_neq F rfl rfl rfl (fun a F => ?_)
    refine o_pickf F rfl rfl rfl (fun a F => ?_)
    refine x_end ?_
    refine x_tn ?_
    exact ⟨(z888.2.2 != z62.2.2), (Option.some.inj hR).symm, F.sub (sc rfl (sc rfl (sc rfl (sc rfl sn)))), hB, h1093, o1094, h1097, o1098, K937, K952⟩
   intro a w ⟨s2572, ho2571, F, hB, h1093, o1094, h1097, o1098, K937, K952⟩
   subst ho2571
   have hR := then_nx hk2570
   refine x_tn ?_
   refine x_if F rfl (fun hb2579 => ?_) (fun hb2579 => ?_)
   ·
    replace hR := ifT hb2579 hR
    refine x_seq ?_
    refine x_reg ?_
    refine o_assign F rfl rfl (fun a F => ?_)
    refine x_end ?_
    refine x_tn ?_
    refine x_ret ?_
    refine x_tr ?_
    refine x_res1 F rfl (rv_t F rfl) ?_
    obtain rfl := Option.some.inj hR
    exact ⟨rfl, hB⟩
   replace hR := ifF hb2579 hR
   refine x_skip ?_
   refine x_tn ?_
   refine x_seq ?_
   refine x_reg ?_
   refine o_assign F rfl rfl (fun a F => ?_)
   refine x_end ?_
   refine x_tn ?_
   refine x_seq ?_
   refine x_reg ?_
   refine o_bloadA (cs := [.int .i64 z888.1.size, v891]) Tryz.isAgg33 Tryz.sizeOf33 F rfl rfl K937 rfl (fun j hj => by match j, hj with | 0, _ => rfl | 1, _ => rfl) (fun a F => ?_)
   refine o_move F rfl rfl (fun a F => ?_)
   refine o_saysI F rfl Tryz.call40 rfl (mkq_says c1092 (fun h0 h1 => heldTemplate_any _ _ _ _ _ h1093.r h1093.m h0 h1)) (fun a w l iz1091 F => ?_)
   replace hB := Below.through l hB
   replace h1097 := h1097.go l
   replace o1098 := o1098.go l
   replace K952 := K952.thru l
   refine o_assign F rfl rfl (fun a F => ?_)
   refine x_end ?_
   refine x_tn ?_
   refine x_seq ?_
   refine x_seq ?_
   refine x_reg ?_
   refine o_move F rfl rfl (fun a F => ?_)
   refine o_lss F rfl rfl rfl (fun a F => ?_)
   refine x_end ?_
   refine x_tn ?_
   refine x_if F rfl (fun hb2580 => ?_) (fun hb2580 => ?_)
   ·
    replace hR := ifT hb2580 hR
    refine x_seq ?_
    refine x_reg ?_
    refine o_assign F rfl rfl (fun a F => ?_)
    refine x_end ?_
    refine x_tn ?_
    refine x_ret ?_
    refine x_tr ?_
    refine x_res1 F rfl (rv_t F rfl) ?_
    obtain rfl := Option.some.inj hR
    exact ⟨rfl, hB⟩
   replace hR := ifF hb2580 hR
   refine x_skip ?_
   refine x_tn ?_
   refine x_seq ?_
   refine x_reg ?_
   refine o_bloadA (cs := [.int .i64 z888.2.1.vars, v897]) Tryz.isAgg60 Tryz.sizeOf60 F rfl rfl K952 rfl (fun j hj => by match j, hj with | 0, _ => rfl | 1, _ => rfl) (fun a F => ?_)
   refine o_move F rfl rfl (fun a F => ?_)
   refine o_saysI F rfl Tryz.call41 rfl (mkq_says c1096 (fun h0 h1 => heldInstance_any _ _ _ _ _ h1097.r h1097.m h0 h1)) (fun a w l iz1095 F => ?_)
   replace hB := Below.through l hB
   refine o_assign F rfl rfl (fun a F => ?_)
   refine x_end ?_
   refine x_tn ?_
   refine x_seq ?_
   refine x_seq ?_
   refine x_reg ?_
   refine o_move F rfl rfl (fun a F => ?_)
   refine o_lss F rfl rfl rfl (fun a F => ?_)
   refine x_end ?_
   refine x_tn ?_
   refine x_if F rfl (fun hb2581 => ?_) (fun hb2581 => ?_)
   ·
    replace hR := ifT hb2581 hR
    refine x_seq ?_
    refine x_reg ?_
    refine o_assign F rfl rfl (fun a F => ?_)
    refine x_end ?_
    refine x_tn ?_
    refine x_ret ?_
    refine x_tr ?_
    refine x_res1 F rfl (rv_t F rfl) ?_
    obtain rfl := Option.some.inj hR
    exact ⟨rfl, hB⟩
   replace hR := ifF hb2581 hR
   refine x_skip ?_
   refine x_tn ?_
   refine x_seq ?_
   refine x_seq ?_
   refine x_reg ?_
   refine o_move F rfl rfl (fun a F => ?_)
   refine o_move F rfl rfl (fun a F => ?_)
   refine o_neq F rfl rfl rfl (fun a F => ?_)
   refine x_end ?_
   refine x_tn ?_
   refine x_if F rfl (fun hb2582 => ?_) (fun hb2582 => ?_)
   ·
    replace hR := ifT hb2582 hR
    refine x_seq ?_
    refine x_reg ?_
    refine o_assign F rfl rfl (fun a F => ?_)
    refine x_end ?_
    refine x_tn ?_
    refine x_ret ?_
    refine x_tr ?_
    refine x_res1 F rfl (rv_t F rfl) ?_
    obtain rfl := Option.some.inj hR
    exact ⟨rfl, hB⟩
   replace hR := ifF hb2582 hR
   refine x_skip ?_
   refine x_tn ?_
   refine x_seq ?_
   refine x_reg ?_
   refine o_assign F rfl rfl (fun a F => ?_)
   refine x_end ?_
   refine x_tn ?_
   refine x_ret ?_
   refine x_res1 F rfl (rv_t F rfl) ?_
   obtain rfl := Option.some.inj hR
   exact ⟨rfl, hB⟩
  refine dp (fun G => ∀ (b2407 : Nat) (v2410 : Value) (b2412 : List Nat) (v2416 : Value) (b2418 : List Nat) (a : Act) (w : World), Sk a 179 [(8, .pointer (some ⟨b775, 0, none⟩)), (9, .pointer (some ⟨b777, 0, none⟩)), (10, .int .i64 z62.2.2), (14, .pointer (some ⟨b936, 0, none⟩)), (15, .pointer (some ⟨b951, 0, none⟩)), (18, .int .i64 z1095), (20, .pointer (some ⟨b2407, 0, none⟩)), (148, (.agg #[.int .i64 z888.1.size, v2410])), (149, (.agg #[.int .i64 z888.2.1.vars, v2416])), (150, .int .i64 z888.2.2)] → Below w0.heap.size w0 w → Rd (Agg 2 RTemplate) w (.agg #[.int .i64 z62.1.size, v780]) z62.1 b782 → Own w0.heap.size b782 w → Rd (Agg 2 RInstance) w (.agg #[.int .i64 z62.2.1.vars, v786]) z62.2.1 b788 → Own w0.heap.size b788 w → Rd (Agg 2 RTemplate) w (.agg #[.int .i64 z888.1.size, v891]) (z888.1.mkv 1) ((rb892 ++ ib893)) → Own w0.heap.size ((rb892 ++ ib893)) w → Rd (Agg 2 RInstance) w (.agg #[.int .i64 z888.2.1.vars, v897]) (z888.2.1.mkv z1091) ((rb898 ++ ib899)) → Own w0.heap.size ((rb898 ++ ib899)) w → w0.heap.size ≤ b2407 → I64 z888.1.size → v2410.oneCell' = true → Rd (Agg 2 RTemplate) w (.agg #[.int .i64 z888.1.size, v2410]) z888.1 b2412 → Own w0.heap.size b2412 w → I64 z888.2.1.vars → v2416.oneCell' = true → Rd (Agg 2 RInstance) w (.agg #[.int .i64 z888.2.1.vars, v2416]) z888.2.1 b2418 → Own w0.heap.size b2418 w → I64 z888.2.2 → Blk w b775 #[.int .i64 z62.1.size, v780] 33 → Blk w b777 #[.int .i64 z62.2.1.vars, v786] 60 → Blk w b936 #[.int .i64 z888.1.size, v891] 33 → Blk w b951 #[.int .i64 z888.2.1.vars, v897] 60 → Blk w b2407 #[.int .i64 0, (.slice none 0 0)] 33 → Dj b782 b2412 → Dj b2412 b782 → Dj b788 b2412 → Dj b2412 b788 → Dj ((rb892 ++ ib893)) b2412 → Dj b2412 ((rb892 ++ ib893)) → Dj ((rb898 ++ ib899)) b2412 → Dj b2412 ((rb898 ++ ib899)) → Dj [b775] b2412 → Dj b2412 ([b775]) → Dj [b777] b2412 → Dj b2412 ([b777]) → Dj [b936] b2412 → Dj b2412 ([b936]) → Dj [b951] b2412 → Dj b2412 ([b951]) → Dj b782 b2418 → Dj b2418 b782 → Dj b788 b2418 → Dj b2418 b788 → Dj ((rb892 ++ ib893)) b2418 → Dj b2418 ((rb892 ++ ib893)) → Dj ((rb898 ++ ib899)) b2418 → Dj b2418 ((rb898 ++ ib899)) → Dj [b775] b2418 → Dj b2418 ([b775]) → Dj [b777] b2418 → Dj b2418 ([b777]) → Dj [b936] b2418 → Dj b2418 ([b936]) → Dj [b951] b2418 → Dj b2418 ([b951]) → Dj b2412 b2418 → Dj b2418 b2412 → Dj b782 ([b2407]) → Dj b788 ([b2407]) → Dj ((rb892 ++ ib893)) ([b2407]) → Dj ((rb898 ++ ib899)) ([b2407]) → Dj b2412 ([b2407]) → Dj b2418 ([b2407]) → b2407 ≠ b775 → b2407 ≠ b777 → b2407 ≠ b936 → b2407 ≠ b951 → ∀ ls, ls = #[true, true, true, true, true, true, true, true, true, true, true, true, false, false, false, false] → G 4 ls a w) ?_ (fun H2466 => ?_)
  ·
   intro b2407 v2410 b2412 v2416 b2418 a w F hB h783 o784 h789 o790 h1093 o1094 h1097 o1098 CK2408 i2409 o2411 h2413 o2414 i2415 o2417 h2419 o2420 i2421 K776 K778 K937 K952 K2408 d2422 d2423 d2424 d2425 d2426 d2427 d2428 d2429 d2430 d2431 d2432 d2433 d2434 d2435 d2436 d2437 d2438 d2439 d2440 d2441 d2442 d2443 d2444 d2445 d2446 d2447 d2448 d2449 d2450 d2451 d2452 d2453 d2454 d2455 d2456 d2457 d2458 d2459 d2460 d2461 nb2462 nb2463 nb2464 nb2465 ls hls
   subst hls
   refine b_e 12 rfl (by kernel_rfl) ?_
   refine o_alloc Tryz.zeroValue60 F rfl rfl (fun a w b2467 K2468 l BK2468 F => ?_)
   have nb2469 := Dj.bb K776 BK2468
   have nb2470 := Dj.bb K778 BK2468
   have nb2471 := Dj.bb K937 BK2468
   have nb2472 := Dj.bb K952 BK2468
   have nb2473 := Dj.bb K2408 BK2468
   have d2474 := (dj1 h783.m BK2468).symm
   have d2475 := (dj1 h789.m BK2468).symm
   have d2476 := (dj1 h1093.m BK2468).symm
   have d2477 := (dj1 h1097.m BK2468).symm
   have d2478 := (dj1 h2413.m BK2468).symm
   have d2479 := (dj1 h2419.m BK2468).symm
   have CK2468 := Nat.le_trans hB.size BK2468
   replace hB := Below.through l hB
   replace h783 := h783.go l
   replace o784 := o784.go l
   replace h789 := h789.go l
   replace o790 := o790.go l
   replace h1093 := h1093.go l
   replace o1094 := o1094.go l
   replace h1097 := h1097.go l
   replace o1098 := o1098.go l
   replace h2413 := h2413.go l
   replace o2414 := o2414.go l
   replace h2419 := h2419.go l
   replace o2420 := o2420.go l
   replace K776 := K776.thru l
   replace K778 := K778.thru l
   replace K937 := K937.thru l
   replace K952 := K952.thru l
   replace K2408 := K2408.thru l
   refine x_end ?_
   refine x_tn ?_
   refine ⟨.inl l, ?_⟩
   exact H2552 b2407 b2467 v2410 b2412 v2416 b2418 _ _ (F.sub (sc rfl (sc rfl (sc rfl (sc rfl (sc rfl (sc rfl (sc rfl (sc rfl (sc rfl (sc rfl (sc rfl sn)))))))))))) hB h783 o784 h789 o790 h1093 o1094 h1097 o1098 CK2408 CK2468 i2409 o2411 h2413 o2414 i2415 o2417 h2419 o2420 i2421 K776 K778 K937 K952 K2408 K2468 d2474 d2475 d2476 d2477 d2456 d2457 d2458 d2459 d2422 d2423 d2424 d2425 d2426 d2427 d2428 d2429 d2430 d2431 d2432 d2433 d2434 d2435 d2436 d2437 d2460 d2478 d2438 d2439 d2440 d2441 d2442 d2443 d2444 d2445 d2446 d2447 d2448 d2449 d2450 d2451 d2452 d2453 d2461 d2479 d2454 d2455 nb2462 nb2463 nb2464 nb2465 nb2473 (Ne.symm nb2469) (Ne.symm nb2470) (Ne.symm nb2471) (Ne.symm nb2472) _ (by kernel_rfl)
  refine dp (fun G => ∀ (b2334 : Nat) (v2337 : Value) (b2339 : List Nat) (v2343 : Value) (b2345 : List Nat) (a : Act) (w : World), Sk a 179 [(8, .pointer (some ⟨b775, 0, none⟩)), (9, .pointer (some ⟨b777, 0, none⟩)), (10, .int .i64 z62.2.2), (14, .pointer (some ⟨b936, 0, none⟩)), (15, .pointer (some ⟨b951, 0, none⟩)), (18, .int .i64 z1095), (21, .pointer (some ⟨b2334, 0, none⟩)), (148, (.agg #[.int .i64 z888.1.size, v2337])), (149, (.agg #[.int .i64 z888.2.1.vars, v2343])), (150, .int .i64 z888.2.2)] → Below w0.heap.size w0 w → Rd (Agg 2 RTemplate) w (.agg #[.int .i64 z62.1.size, v780]) z62.1 b782 → Own w0.heap.size b782 w → Rd (Agg 2 RInstance) w (.agg #[.int .i64 z62.2.1.vars, v786]) z62.2.1 b788 → Own w0.heap.size b788 w → Rd (Agg 2 RTemplate) w (.agg #[.int .i64 z888.1.size, v891]) (z888.1.mkv 1) ((rb892 ++ ib893)) → Own w0.heap.size ((rb892 ++ ib893)) w → Rd (Agg 2 RInstance) w (.agg #[.int .i64 z888.2.1.vars, v897]) (z888.2.1.mkv z1091) ((rb898 ++ ib899)) → Own w0.heap.size ((rb898 ++ ib899)) w → w0.heap.size ≤ b2334 → I64 z888.1.size → v2337.oneCell' = true → Rd (Agg 2 RTemplate) w (.agg #[.int .i64 z888.1.size, v2337]) z888.1 b2339 → Own w0.heap.size b2339 w → I64 z888.2.1.vars → v2343.oneCell' = true → Rd (Agg 2 RInstance) w (.agg #[.int .i64 z888.2.1.vars, v2343]) z888.2.1 b2345 → Own w0.heap.size b2345 w → I64 z888.2.2 → Blk w b775 #[.int .i64 z62.1.size, v780] 33 → Blk w b777 #[.int .i64 z62.2.1.vars, v786] 60 → Blk w b936 #[.int .i64 z888.1.size, v891] 33 → Blk w b951 #[.int .i64 z888.2.1.vars, v897] 60 → Blk w b2334 #[.int .i64 0, (.slice none 0 0)] 60 → Dj b782 b2339 → Dj b2339 b782 → Dj b788 b2339 → Dj b2339 b788 → Dj ((rb892 ++ ib893)) b2339 → Dj b2339 ((rb892 ++ ib893)) → Dj ((rb898 ++ ib899)) b2339 → Dj b2339 ((rb898 ++ ib899)) → Dj [b775] b2339 → Dj b2339 ([b775]) → Dj [b777] b2339 → Dj b2339 ([b777]) → Dj [b936] b2339 → Dj b2339 ([b936]) → Dj [b951] b2339 → Dj b2339 ([b951]) → Dj b782 b2345 → Dj b2345 b782 → Dj b788 b2345 → Dj b2345 b788 → Dj ((rb892 ++ ib893)) b2345 → Dj b2345 ((rb892 ++ ib893)) → Dj ((rb898 ++ ib899)) b2345 → Dj b2345 ((rb898 ++ ib899)) → Dj [b775] b2345 → Dj b2345 ([b775]) → Dj [b777] b2345 → Dj b2345 ([b777]) → Dj [b936] b2345 → Dj b2345 ([b936]) → Dj [b951] b2345 → Dj b2345 ([b951]) → Dj b2339 b2345 → Dj b2345 b2339 → Dj b782 ([b2334]) → Dj b788 ([b2334]) → Dj ((rb892 ++ ib893)) ([b2334]) → Dj ((rb898 ++ ib899)) ([b2334]) → Dj b2339 ([b2334]) → Dj b2345 ([b2334]) → b2334 ≠ b775 → b2334 ≠ b777 → b2334 ≠ b936 → b2334 ≠ b951 → ∀ ls, ls = #[true, true, true, true, true, true, true, true, true, true, true, false, true, false, false, false] → G 4 ls a w) ?_ (fun H2393 => ?_)
  ·
   intro b2334 v2337 b2339 v2343 b2345 a w F hB h783 o784 h789 o790 h1093 o1094 h1097 o1098 CK2335 i2336 o2338 h2340 o2341 i2342 o2344 h2346 o2347 i2348 K776 K778 K937 K952 K2335 d2349 d2350 d2351 d2352 d2353 d2354 d2355 d2356 d2357 d2358 d2359 d2360 d2361 d2362 d2363 d2364 d2365 d2366 d2367 d2368 d2369 d2370 d2371 d2372 d2373 d2374 d2375 d2376 d2377 d2378 d2379 d2380 d2381 d2382 d2383 d2384 d2385 d2386 d2387 d2388 nb2389 nb2390 nb2391 nb2392 ls hls
   subst hls
   refine b_e 11 rfl (by kernel_rfl) ?_
   refine o_alloc Tryz.zeroValue33 F rfl rfl (fun a w b2394 K2395 l BK2395 F => ?_)
   have nb2396 := Dj.bb K776 BK2395
   have nb2397 := Dj.bb K778 BK2395
   have nb2398 := Dj.bb K937 BK2395
   have nb2399 := Dj.bb K952 BK2395
   have nb2400 := Dj.bb K2335 BK2395
   have d2401 := (dj1 h783.m BK2395).symm
   have d2402 := (dj1 h789.m BK2395).symm
   have d2403 := (dj1 h1093.m BK2395).symm
   have d2404 := (dj1 h1097.m BK2395).symm
   have d2405 := (dj1 h2340.m BK2395).symm
   have d2406 := (dj1 h2346.m BK2395).symm
   have CK2395 := Nat.le_trans hB.size BK2395
   replace hB := Below.through l hB
   replace h783 := h783.go l
   replace o784 := o784.go l
   replace h789 := h789.go l
   replace o790 := o790.go l
   replace h1093 := h1093.go l
   replace o1094 := o1094.go l
   replace h1097 := h1097.go l
   replace o1098 := o1098.go l
   replace h2340 := h2340.go l
   replace o2341 := o2341.go l
   replace h2346 := h2346.go l
   replace o2347 := o2347.go l
   replace K776 := K776.thru l
   replace K778 := K778.thru l
   replace K937 := K937.thru l
   replace K952 := K952.thru l
   replace K2335 := K2335.thru l
   refine x_end ?_
   refine x_tn ?_
   refine ⟨.inl l, ?_⟩
   exact H2552 b2394 b2334 v2337 b2339 v2343 b2345 _ _ (F.sub (sc rfl (sc rfl (sc rfl (sc rfl (sc rfl (sc rfl (sc rfl (sc rfl (sc rfl (sc rfl (sc rfl sn)))))))))))) hB h783 o784 h789 o790 h1093 o1094 h1097 o1098 CK2395 CK2335 i2336 o2338 h2340 o2341 i2342 o2344 h2346 o2347 i2348 K776 K778 K937 K952 K2395 K2335 d2383 d2384 d2385 d2386 d2401 d2402 d2403 d2404 d2349 d2350 d2351 d2352 d2353 d2354 d2355 d2356 d2357 d2358 d2359 d2360 d2361 d2362 d2363 d2364 d2405 d2387 d2365 d2366 d2367 d2368 d2369 d2370 d2371 d2372 d2373 d2374 d2375 d2376 d2377 d2378 d2379 d2380 d2406 d2388 d2381 d2382 (Ne.symm nb2396) (Ne.symm nb2397) (Ne.symm nb2398) (Ne.symm nb2399) (Ne.symm nb2400) nb2389 nb2390 nb2391 nb2392 _ (by kernel_rfl)
  refine dp (fun G => ∀ (b2196 : Nat) (b2198 : Nat) (v2200 : Value) (b2201 : List Nat) (v2204 : Value) (b2205 : List Nat) (v2208 : Value) (b2209 : List Nat) (a : Act) (w : World), Sk a 179 [(8, .pointer (some ⟨b775, 0, none⟩)), (9, .pointer (some ⟨b777, 0, none⟩)), (10, .int .i64 z62.2.2), (14, .pointer (some ⟨b936, 0, none⟩)), (15, .pointer (some ⟨b951, 0, none⟩)), (18, .int .i64 z1095), (20, .pointer (some ⟨b2196, 0, none⟩)), (21, .pointer (some ⟨b2198, 0, none⟩)), (142, v2200), (144, v2204), (146, v2208)] → Below w0.heap.size w0 w → Rd (Agg 2 RTemplate) w (.agg #[.int .i64 z62.1.size, v780]) z62.1 b782 → Own w0.heap.size b782 w → Rd (Agg 2 RInstance) w (.agg #[.int .i64 z62.2.1.vars, v786]) z62.2.1 b788 → Own w0.heap.size b788 w → Rd (Agg 2 RTemplate) w (.agg #[.int .i64 z888.1.size, v891]) (z888.1.mkv 1) ((rb892 ++ ib893)) → Own w0.heap.size ((rb892 ++ ib893)) w → Rd (Agg 2 RInstance) w (.agg #[.int .i64 z888.2.1.vars, v897]) (z888.2.1.mkv z1091) ((rb898 ++ ib899)) → Own w0.heap.size ((rb898 ++ ib899)) w → w0.heap.size ≤ b2196 → w0.heap.size ≤ b2198 → Rd (Agg 2 RTemplate) w v2200 x0 b2201 → Own w0.heap.size b2201 w → Rd (Agg 2 RInstance) w v2204 x1 b2205 → Own w0.heap.size b2205 w → Rd (Sl 1 RLits) w v2208 x2 b2209 → Own w0.heap.size b2209 w → Blk w b775 #[.int .i64 z62.1.size, v780] 33 → Blk w b777 #[.int .i64 z62.2.1.vars, v786] 60 → Blk w b936 #[.int .i64 z888.1.size, v891] 33 → Blk w b951 #[.int .i64 z888.2.1.vars, v897] 60 → Blk w b2196 #[.int .i64 0, (.slice none 0 0)] 33 → Blk w b2198 #[.int .i64 0, (.slice none 0 0)] 60 → Dj b782 b2201 → Dj b2201 b782 → Dj b788 b2201 → Dj b2201 b788 → Dj ((rb892 ++ ib893)) b2201 → Dj b2201 ((rb892 ++ ib893)) → Dj ((rb898 ++ ib899)) b2201 → Dj b2201 ((rb898 ++ ib899)) → Dj [b775] b2201 → Dj b2201 ([b775]) → Dj [b777] b2201 → Dj b2201 ([b777]) → Dj [b936] b2201 → Dj b2201 ([b936]) → Dj [b951] b2201 → Dj b2201 ([b951]) → Dj b782 b2205 → Dj b2205 b782 → Dj b788 b2205 → Dj b2205 b788 → Dj ((rb892 ++ ib893)) b2205 → Dj b2205 ((rb892 ++ ib893)) → Dj ((rb898 ++ ib899)) b2205 → Dj b2205 ((rb898 ++ ib899)) → Dj b2201 b2205 → Dj b2205 b2201 → Dj [b775] b2205 → Dj b2205 ([b775]) → Dj [b777] b2205 → Dj b2205 ([b777]) → Dj [b936] b2205 → Dj b2205 ([b936]) → Dj [b951] b2205 → Dj b2205 ([b951]) → Dj b782 b2209 → Dj b2209 b782 → Dj b788 b2209 → Dj b2209 b788 → Dj ((rb892 ++ ib893)) b2209 → Dj b2209 ((rb892 ++ ib893)) → Dj ((rb898 ++ ib899)) b2209 → Dj b2209 ((rb898 ++ ib899)) → Dj b2201 b2209 → Dj b2209 b2201 → Dj b2205 b2209 → Dj b2209 b2205 → Dj [b775] b2209 → Dj b2209 ([b775]) → Dj [b777] b2209 → Dj b2209 ([b777]) → Dj [b936] b2209 → Dj b2209 ([b936]) → Dj [b951] b2209 → Dj b2209 ([b951]) → Dj b782 ([b2198]) → Dj b788 ([b2198]) → Dj ((rb892 ++ ib893)) ([b2198]) → Dj ((rb898 ++ ib899)) ([b2198]) → Dj b2201 ([b2198]) → Dj b2205 ([b2198]) → Dj b2209 ([b2198]) → Dj b782 ([b2196]) → Dj b788 ([b2196]) → Dj ((rb892 ++ ib893)) ([b2196]) → Dj ((rb898 ++ ib899)) ([b2196]) → Dj b2201 ([b2196]) → Dj b2205 ([b2196]) → Dj b2209 ([b2196]) → b2196 ≠ b775 → b2196 ≠ b777 → b2196 ≠ b936 → b2196 ≠ b951 → b2196 ≠ b2198 → b2198 ≠ b775 → b2198 ≠ b777 → b2198 ≠ b936 → b2198 ≠ b951 → ∀ ls, ls = #[true, true, true, true, true, true, false, false, false, false, false, true, true, false, false, false] → G 8 ls a w) ?_ (fun H2289 => ?_)
  ·
   intro b2196 b2198 v2200 b2201 v2204 b2205 v2208 b2209 a w F hB h783 o784 h789 o790 h1093 o1094 h1097 o1098 CK2197 CK2199 h2202 o2203 h2206 o2207 h2210 o2211 K776 K778 K937 K952 K2197 K2199 d2212 d2213 d2214 d2215 d2216 d2217 d2218 d2219 d2220 d2221 d2222 d2223 d2224 d2225 d2226 d2227 d2228 d2229 d2230 d2231 d2232 d2233 d2234 d2235 d2236 d2237 d2238 d2239 d2240 d2241 d2242 d2243 d2244 d2245 d2246 d2247 d2248 d2249 d2250 d2251 d2252 d2253 d2254 d2255 d2256 d2257 d2258 d2259 d2260 d2261 d2262 d2263 d2264 d2265 d2266 d2267 d2268 d2269 d2270 d2271 d2272 d2273 d2274 d2275 d2276 d2277 d2278 d2279 nb2280 nb2281 nb2282 nb2283 nb2284 nb2285 nb2286 nb2287 nb2288 ls hls
   subst hls
   refine b_e 6 rfl (by kernel_rfl) ?_
   refine o_gives F rfl Tryz.call35 rfl (impl_AddNoGoods_c z888 c889 _ h2202 h2206 h2210) (fun a vv w l ⟨v2291, rb2292, ib2293, v2297, rb2298, ib2299, hv2303, i2290, h2294, ow2295, i2296, h2300, ow2301, i2302, dj2304⟩ F => ?_)
   subst vv
   have o2306 := h2294.own ow2295
   have h2305 := h2294.rd
   have o2308 := h2300.own ow2301
   have h2307 := h2300.rd
   have h2309 := RTemplate.mk2 (w := w) i2290 h2305
   have o2310 := o2306
   have h2311 := RInstance.mk2 (w := w) i2296 h2307
   have o2312 := o2308
   have d2313 := Dj.new h783.m o2310 (Nat.le_refl _)
   have d2314 := Dj.new h789.m o2310 (Nat.le_refl _)
   have d2315 := Dj.new h1093.m o2310 (Nat.le_refl _)
   have d2316 := Dj.new h1097.m o2310 (Nat.le_refl _)
   have d2317 := Dj.new (inm1 K776) o2310 (Nat.le_refl _)
   have d2318 := Dj.new (inm1 K778) o2310 (Nat.le_refl _)
   have d2319 := Dj.new (inm1 K937) o2310 (Nat.le_refl _)
   have d2320 := Dj.new (inm1 K952) o2310 (Nat.le_refl _)
   have d2321 := Dj.new (inm1 K2197) o2310 (Nat.le_refl _)
   have d2322 := Dj.new (inm1 K2199) o2310 (Nat.le_refl _)
   replace o2310 := o2310.mono hB.size
   have d2323 := Dj.new h783.m o2312 (Nat.le_refl _)
   have d2324 := Dj.new h789.m o2312 (Nat.le_refl _)
   have d2325 := Dj.new h1093.m o2312 (Nat.le_refl _)
   have d2326 := Dj.new h1097.m o2312 (Nat.le_refl _)
   have d2327 := Dj.new (inm1 K776) o2312 (Nat.le_refl _)
   have d2328 := Dj.new (inm1 K778) o2312 (Nat.le_refl _)
   have d2329 := Dj.new (inm1 K937) o2312 (Nat.le_refl _)
   have d2330 := Dj.new (inm1 K952) o2312 (Nat.le_refl _)
   have d2331 := Dj.new (inm1 K2197) o2312 (Nat.le_refl _)
   have d2332 := Dj.new (inm1 K2199) o2312 (Nat.le_refl _)
   replace o2312 := o2312.mono hB.size
   have d2333 : Dj ((rb2292 ++ ib2293)) ((rb2298 ++ ib2299)) := dj2304
   replace hB := Below.through l hB
   replace h783 := h783.go l
   replace o784 := o784.go l
   replace h789 := h789.go l
   replace o790 := o790.go l
   replace h1093 := h1093.go l
   replace o1094 := o1094.go l
   replace h1097 := h1097.go l
   replace o1098 := o1098.go l
   replace K776 := K776.thru l
   replace K778 := K778.thru l
   replace K937 := K937.thru l
   replace K952 := K952.thru l
   replace K2197 := K2197.thru l
   replace K2199 := K2199.thru l
   refine x_end ?_
   refine x_tn ?_
   refine ⟨.inl l, ?_⟩
   refine b_q0 7 rfl (by kernel_rfl) (by kernel_rfl) (by kernel_rfl) ?_
   refine v_val F rfl (fun w l => r_move F rfl) (fun a F => ?_)
   refine b_q0 8 rfl (by kernel_rfl) (by kernel_rfl) (by kernel_rfl) ?_
   refine v_val F rfl (fun w l => r_extract F rfl rfl) (fun a F => ?_)
   refine b_q0 9 rfl (by kernel_rfl) (by kernel_rfl) (by kernel_rfl) ?_
   refine v_val F rfl (fun w l => r_extract F rfl rfl) (fun a F => ?_)
   refine b_q0 10 rfl (by kernel_rfl) (by kernel_rfl) (by kernel_rfl) ?_
   refine v_val F rfl (fun w l => r_extract F rfl rfl) (fun a F => ?_)
   exact H2552 b2196 b2198 v2291 ((rb2292 ++ ib2293)) v2297 ((rb2298 ++ ib2299)) _ _ (F.sub (sc rfl (sc rfl (sc rfl (sc rfl (sc rfl (sc rfl (sc rfl (sc rfl (sc rfl (sc rfl (sc rfl sn)))))))))))) hB h783 o784 h789 o790 h1093 o1094 h1097 o1098 CK2197 CK2199 i2290 h2305.r.one h2309 o2310 i2296 h2307.r.one h2311 o2312 i2302 K776 K778 K937 K952 K2197 K2199 d2266 d2267 d2268 d2269 d2273 d2274 d2275 d2276 d2313 (Dj.symm d2313) d2314 (Dj.symm d2314) d2315 (Dj.symm d2315) d2316 (Dj.symm d2316) d2317 (Dj.symm d2317) d2318 (Dj.symm d2318) d2319 (Dj.symm d2319) d2320 (Dj.symm d2320) (Dj.symm d2321) (Dj.symm d2322) d2323 (Dj.symm d2323) d2324 (Dj.symm d2324) d2325 (Dj.symm d2325) d2326 (Dj.symm d2326) d2327 (Dj.symm d2327) d2328 (Dj.symm d2328) d2329 (Dj.symm d2329) d2330 (Dj.symm d2330) (Dj.symm d2331) (Dj.symm d2332) d2333 (Dj.symm d2333) nb2280 nb2281 nb2282 nb2283 nb2284 nb2285 nb2286 nb2287 nb2288 _ (by kernel_rfl)
  refine dp (fun G => ∀ (b2112 : Nat) (b2114 : Nat) (v2116 : Value) (b2117 : List Nat) (v2120 : Value) (b2121 : List Nat) (a : Act) (w : World), Sk a 179 [(8, .pointer (some ⟨b775, 0, none⟩)), (9, .pointer (some ⟨b777, 0, none⟩)), (10, .int .i64 z62.2.2), (14, .pointer (some ⟨b936, 0, none⟩)), (15, .pointer (some ⟨b951, 0, none⟩)), (18, .int .i64 z1095), (20, .pointer (some ⟨b2112, 0, none⟩)), (21, .pointer (some ⟨b2114, 0, none⟩)), (142, v2116), (144, v2120), (145, v2)] → Below w0.heap.size w0 w → Rd (Agg 2 RTemplate) w (.agg #[.int .i64 z62.1.size, v780]) z62.1 b782 → Own w0.heap.size b782 w → Rd (Agg 2 RInstance) w (.agg #[.int .i64 z62.2.1.vars, v786]) z62.2.1 b788 → Own w0.heap.size b788 w → Rd (Agg 2 RTemplate) w (.agg #[.int .i64 z888.1.size, v891]) (z888.1.mkv 1) ((rb892 ++ ib893)) → Own w0.heap.size ((rb892 ++ ib893)) w → Rd (Agg 2 RInstance) w (.agg #[.int .i64 z888.2.1.vars, v897]) (z888.2.1.mkv z1091) ((rb898 ++ ib899)) → Own w0.heap.size ((rb898 ++ ib899)) w → w0.heap.size ≤ b2112 → w0.heap.size ≤ b2114 → Rd (Agg 2 RTemplate) w v2116 x0 b2117 → Own w0.heap.size b2117 w → Rd (Agg 2 RInstance) w v2120 x1 b2121 → Own w0.heap.size b2121 w → Blk w b775 #[.int .i64 z62.1.size, v780] 33 → Blk w b777 #[.int .i64 z62.2.1.vars, v786] 60 → Blk w b936 #[.int .i64 z888.1.size, v891] 33 → Blk w b951 #[.int .i64 z888.2.1.vars, v897] 60 → Blk w b2112 #[.int .i64 0, (.slice none 0 0)] 33 → Blk w b2114 #[.int .i64 0, (.slice none 0 0)] 60 → Dj b782 ([b2112]) → Dj b788 ([b2112]) → Dj ((rb892 ++ ib893)) ([b2112]) → Dj ((rb898 ++ ib899)) ([b2112]) → Dj b782 ([b2114]) → Dj b788 ([b2114]) → Dj ((rb892 ++ ib893)) ([b2114]) → Dj ((rb898 ++ ib899)) ([b2114]) → Dj b782 b2117 → Dj b2117 b782 → Dj b788 b2117 → Dj b2117 b788 → Dj ((rb892 ++ ib893)) b2117 → Dj b2117 ((rb892 ++ ib893)) → Dj ((rb898 ++ ib899)) b2117 → Dj b2117 ((rb898 ++ ib899)) → Dj [b775] b2117 → Dj b2117 ([b775]) → Dj [b777] b2117 → Dj b2117 ([b777]) → Dj [b936] b2117 → Dj b2117 ([b936]) → Dj [b951] b2117 → Dj b2117 ([b951]) → Dj b2117 ([b2112]) → Dj b2117 ([b2114]) → Dj b782 b2121 → Dj b2121 b782 → Dj b788 b2121 → Dj b2121 b788 → Dj ((rb892 ++ ib893)) b2121 → Dj b2121 ((rb892 ++ ib893)) → Dj ((rb898 ++ ib899)) b2121 → Dj b2121 ((rb898 ++ ib899)) → Dj b2117 b2121 → Dj b2121 b2117 → Dj [b775] b2121 → Dj b2121 ([b775]) → Dj [b777] b2121 → Dj b2121 ([b777]) → Dj [b936] b2121 → Dj b2121 ([b936]) → Dj [b951] b2121 → Dj b2121 ([b951]) → Dj b2121 ([b2112]) → Dj b2121 ([b2114]) → b2112 ≠ b775 → b2112 ≠ b777 → b2112 ≠ b936 → b2112 ≠ b951 → b2112 ≠ b2114 → b2114 ≠ b775 → b2114 ≠ b777 → b2114 ≠ b936 → b2114 ≠ b951 → ∀ ls, ls = #[true, true, true, true, true, false, false, false, false, false, false, true, true, false, false, false] → G 9 ls a w) ?_ (fun H2179 => ?_)
  ·
   intro b2112 b2114 v2116 b2117 v2120 b2121 a w F hB h783 o784 h789 o790 h1093 o1094 h1097 o1098 CK2113 CK2115 h2118 o2119 h2122 o2123 K776 K778 K937 K952 K2113 K2115 d2124 d2125 d2126 d2127 d2128 d2129 d2130 d2131 d2132 d2133 d2134 d2135 d2136 d2137 d2138 d2139 d2140 d2141 d2142 d2143 d2144 d2145 d2146 d2147 d2148 d2149 d2150 d2151 d2152 d2153 d2154 d2155 d2156 d2157 d2158 d2159 d2160 d2161 d2162 d2163 d2164 d2165 d2166 d2167 d2168 d2169 nb2170 nb2171 nb2172 nb2173 nb2174 nb2175 nb2176 nb2177 nb2178 ls hls
   subst hls
   refine b_e 5 rfl (by kernel_rfl) ?_
   refine o_toS F rfl Tryz.call34 rfl (toLiteralSS_any _ _ _ _ (A2.go hB).r (A2.go hB).m (toq_some c53)) (fun a v2180 b2181 w l h2182 o2183 F => ?_)
   have d2184 := Dj.new h783.m o2183 (Nat.le_refl _)
   have d2185 := Dj.new h789.m o2183 (Nat.le_refl _)
   have d2186 := Dj.new h1093.m o2183 (Nat.le_refl _)
   have d2187 := Dj.new h1097.m o2183 (Nat.le_refl _)
   have d2188 := Dj.new h2118.m o2183 (Nat.le_refl _)
   have d2189 := Dj.new h2122.m o2183 (Nat.le_refl _)
   have d2190 := Dj.new (inm1 K776) o2183 (Nat.le_refl _)
   have d2191 := Dj.new (inm1 K778) o2183 (Nat.le_refl _)
   have d2192 := Dj.new (inm1 K937) o2183 (Nat.le_refl _)
   have d2193 := Dj.new (inm1 K952) o2183 (Nat.le_refl _)
   have d2194 := Dj.new (inm1 K2113) o2183 (Nat.le_refl _)
   have d2195 := Dj.new (inm1 K2115) o2183 (Nat.le_refl _)
   replace o2183 := o2183.mono hB.size
   replace hB := Below.through l hB
   replace h783 := h783.go l
   replace o784 := o784.go l
   replace h789 := h789.go l
   replace o790 := o790.go l
   replace h1093 := h1093.go l
   replace o1094 := o1094.go l
   replace h1097 := h1097.go l
   replace o1098 := o1098.go l
   replace h2118 := h2118.go l
   replace o2119 := o2119.go l
   replace h2122 := h2122.go l
   replace o2123 := o2123.go l
   replace K776 := K776.thru l
   replace K778 := K778.thru l
   replace K937 := K937.thru l
   replace K952 := K952.thru l
   replace K2113 := K2113.thru l
   replace K2115 := K2115.thru l
   refine x_end ?_
   refine x_tn ?_
   refine ⟨.inl l, ?_⟩
   exact H2289 b2112 b2114 v2116 b2117 v2120 b2121 v2180 b2181 _ _ (F.sub (sc rfl (sc rfl (sc rfl (sc rfl (sc rfl (sc rfl (sc rfl (sc rfl (sc rfl (sc rfl (sc rfl sn)))))))))))) hB h783 o784 h789 o790 h1093 o1094 h1097 o1098 CK2113 CK2115 h2118 o2119 h2122 o2123 h2182 o2183 K776 K778 K937 K952 K2113 K2115 d2132 d2133 d2134 d2135 d2136 d2137 d2138 d2139 d2140 d2141 d2142 d2143 d2144 d2145 d2146 d2147 d2150 d2151 d2152 d2153 d2154 d2155 d2156 d2157 d2158 d2159 d2160 d2161 d2162 d2163 d2164 d2165 d2166 d2167 d2184 (Dj.symm d2184) d2185 (Dj.symm d2185) d2186 (Dj.symm d2186) d2187 (Dj.symm d2187) d2188 (Dj.symm d2188) d2189 (Dj.symm d2189) d2190 (Dj.symm d2190) d2191 (Dj.symm d2191) d2192 (Dj.symm d2192) d2193 (Dj.symm d2193) d2128 d2129 d2130 d2131 d2149 d2169 (Dj.symm d2195) d2124 d2125 d2126 d2127 d2148 d2168 (Dj.symm d2194) nb2170 nb2171 nb2172 nb2173 nb2174 nb2175 nb2176 nb2177 nb2178 _ (by kernel_rfl)
  refine dp (fun G => ∀ (b1976 : Nat) (v1978 : Value) (b1979 : List Nat) (v1982 : Value) (b1983 : List Nat) (v1986 : Value) (b1987 : List Nat) (a : Act) (w : World), Sk a 179 [(8, .pointer (some ⟨b775, 0, none⟩)), (9, .pointer (some ⟨b777, 0, none⟩)), (10, .int .i64 z62.2.2), (14, .pointer (some ⟨b936, 0, none⟩)), (15, .pointer (some ⟨b951, 0, none⟩)), (18, .int .i64 z1095), (20, .pointer (some ⟨b1976, 0, none⟩)), (142, v1978), (144, v1982), (146, v1986)] → Below w0.heap.size w0 w → Rd (Agg 2 RTemplate) w (.agg #[.int .i64 z62.1.size, v780]) z62.1 b782 → Own w0.heap.size b782 w → Rd (Agg 2 RInstance) w (.agg #[.int .i64 z62.2.1.vars, v786]) z62.2.1 b788 → Own w0.heap.size b788 w → Rd (Agg 2 RTemplate) w (.agg #[.int .i64 z888.1.size, v891]) (z888.1.mkv 1) ((rb892 ++ ib893)) → Own w0.heap.size ((rb892 ++ ib893)) w → Rd (Agg 2 RInstance) w (.agg #[.int .i64 z888.2.1.vars, v897]) (z888.2.1.mkv z1091) ((rb898 ++ ib899)) → Own w0.heap.size ((rb898 ++ ib899)) w → w0.heap.size ≤ b1976 → Rd (Agg 2 RTemplate) w v1978 x0 b1979 → Own w0.heap.size b1979 w → Rd (Agg 2 RInstance) w v1982 x1 b1983 → Own w0.heap.size b1983 w → Rd (Sl 1 RLits) w v1986 x2 b1987 → Own w0.heap.size b1987 w → Blk w b775 #[.int .i64 z62.1.size, v780] 33 → Blk w b777 #[.int .i64 z62.2.1.vars, v786] 60 → Blk w b936 #[.int .i64 z888.1.size, v891] 33 → Blk w b951 #[.int .i64 z888.2.1.vars, v897] 60 → Blk w b1976 #[.int .i64 0, (.slice none 0 0)] 33 → Dj b782 b1979 → Dj b1979 b782 → Dj b788 b1979 → Dj b1979 b788 → Dj ((rb892 ++ ib893)) b1979 → Dj b1979 ((rb892 ++ ib893)) → Dj ((rb898 ++ ib899)) b1979 → Dj b1979 ((rb898 ++ ib899)) → Dj [b775] b1979 → Dj b1979 ([b775]) → Dj [b777] b1979 → Dj b1979 ([b777]) → Dj [b936] b1979 → Dj b1979 ([b936]) → Dj [b951] b1979 → Dj b1979 ([b951]) → Dj b782 b1983 → Dj b1983 b782 → Dj b788 b1983 → Dj b1983 b788 → Dj ((rb892 ++ ib893)) b1983 → Dj b1983 ((rb892 ++ ib893)) → Dj ((rb898 ++ ib899)) b1983 → Dj b1983 ((rb898 ++ ib899)) → Dj b1979 b1983 → Dj b1983 b1979 → Dj [b775] b1983 → Dj b1983 ([b775]) → Dj [b777] b1983 → Dj b1983 ([b777]) → Dj [b936] b1983 → Dj b1983 ([b936]) → Dj [b951] b1983 → Dj b1983 ([b951]) → Dj b782 b1987 → Dj b1987 b782 → Dj b788 b1987 → Dj b1987 b788 → Dj ((rb892 ++ ib893)) b1987 → Dj b1987 ((rb892 ++ ib893)) → Dj ((rb898 ++ ib899)) b1987 → Dj b1987 ((rb898 ++ ib899)) → Dj b1979 b1987 → Dj b1987 b1979 → Dj b1983 b1987 → Dj b1987 b1983 → Dj [b775] b1987 → Dj b1987 ([b775]) → Dj [b777] b1987 → Dj b1987 ([b777]) → Dj [b936] b1987 → Dj b1987 ([b936]) → Dj [b951] b1987 → Dj b1987 ([b951]) → Dj b782 ([b1976]) → Dj b788 ([b1976]) → Dj ((rb892 ++ ib893)) ([b1976]) → Dj ((rb898 ++ ib899)) ([b1976]) → Dj b1979 ([b1976]) → Dj b1983 ([b1976]) → Dj b1987 ([b1976]) → b1976 ≠ b775 → b1976 ≠ b777 → b1976 ≠ b936 → b1976 ≠ b951 → ∀ ls, ls = #[true, true, true, true, true, true, false, false, false, false, false, true, false, false, false, false] → G 9 ls a w) ?_ (fun H2055 => ?_)
  ·
   intro b1976 v1978 b1979 v1982 b1983 v1986 b1987 a w F hB h783 o784 h789 o790 h1093 o1094 h1097 o1098 CK1977 h1980 o1981 h1984 o1985 h1988 o1989 K776 K778 K937 K952 K1977 d1990 d1991 d1992 d1993 d1994 d1995 d1996 d1997 d1998 d1999 d2000 d2001 d2002 d2003 d2004 d2005 d2006 d2007 d2008 d2009 d2010 d2011 d2012 d2013 d2014 d2015 d2016 d2017 d2018 d2019 d2020 d2021 d2022 d2023 d2024 d2025 d2026 d2027 d2028 d2029 d2030 d2031 d2032 d2033 d2034 d2035 d2036 d2037 d2038 d2039 d2040 d2041 d2042 d2043 d2044 d2045 d2046 d2047 d2048 d2049 d2050 nb2051 nb2052 nb2053 nb2054 ls hls
   subst hls
   refine b_es [6, 12] (by kernel_rfl) (by simp) ⟨⟨_, rfl, ?_⟩, ⟨_, rfl, ?_⟩, trivial⟩
   ·
    refine o_gives F rfl Tryz.call35 rfl (impl_AddNoGoods_c z888 c889 _ h1980 h1984 h1988) (fun a vv w l ⟨v2057, rb2058, ib2059, v2063, rb2064, ib2065, hv2069, i2056, h2060, ow2061, i2062, h2066, ow2067, i2068, dj2070⟩ F => ?_)
    subst vv
    have o2072 := h2060.own ow2061
    have h2071 := h2060.rd
    have o2074 := h2066.own ow2067
    have h2073 := h2066.rd
    have h2075 := RTemplate.mk2 (w := w) i2056 h2071
    have o2076 := o2072
    have h2077 := RInstance.mk2 (w := w) i2062 h2073
    have o2078 := o2074
    have d2079 := Dj.new h783.m o2076 (Nat.le_refl _)
    have d2080 := Dj.new h789.m o2076 (Nat.le_refl _)
    have d2081 := Dj.new h1093.m o2076 (Nat.le_refl _)
    have d2082 := Dj.new h1097.m o2076 (Nat.le_refl _)
    have d2083 := Dj.new (inm1 K776) o2076 (Nat.le_refl _)
    have d2084 := Dj.new (inm1 K778) o2076 (Nat.le_refl _)
    have d2085 := Dj.new (inm1 K937) o2076 (Nat.le_refl _)
    have d2086 := Dj.new (inm1 K952) o2076 (Nat.le_refl _)
    have d2087 := Dj.new (inm1 K1977) o2076 (Nat.le_refl _)
    replace o2076 := o2076.mono hB.size
    have d2088 := Dj.new h783.m o2078 (Nat.le_refl _)
    have d2089 := Dj.new h789.m o2078 (Nat.le_refl _)
    have d2090 := Dj.new h1093.m o2078 (Nat.le_refl _)
    have d2091 := Dj.new h1097.m o2078 (Nat.le_refl _)
    have d2092 := Dj.new (inm1 K776) o2078 (Nat.le_refl _)
    have d2093 := Dj.new (inm1 K778) o2078 (Nat.le_refl _)
    have d2094 := Dj.new (inm1 K937) o2078 (Nat.le_refl _)
    have d2095 := Dj.new (inm1 K952) o2078 (Nat.le_refl _)
    have d2096 := Dj.new (inm1 K1977) o2078 (Nat.le_refl _)
    replace o2078 := o2078.mono hB.size
    have d2097 : Dj ((rb2058 ++ ib2059)) ((rb2064 ++ ib2065)) := dj2070
    replace hB := Below.through l hB
    replace h783 := h783.go l
    replace o784 := o784.go l
    replace h789 := h789.go l
    replace o790 := o790.go l
    replace h1093 := h1093.go l
    replace o1094 := o1094.go l
    replace h1097 := h1097.go l
    replace o1098 := o1098.go l
    replace K776 := K776.thru l
    replace K778 := K778.thru l
    replace K937 := K937.thru l
    replace K952 := K952.thru l
    replace K1977 := K1977.thru l
    refine x_end ?_
    refine x_tn ?_
    refine ⟨.inl l, ?_⟩
    refine b_q0 7 rfl (by kernel_rfl) (by kernel_rfl) (by kernel_rfl) ?_
    refine v_val F rfl (fun w l => r_move F rfl) (fun a F => ?_)
    refine b_q0 8 rfl (by kernel_rfl) (by kernel_rfl) (by kernel_rfl) ?_
    refine v_val F rfl (fun w l => r_extract F rfl rfl) (fun a F => ?_)
    refine b_q0 9 rfl (by kernel_rfl) (by kernel_rfl) (by kernel_rfl) ?_
    refine v_val F rfl (fun w l => r_extract F rfl rfl) (fun a F => ?_)
    refine b_q0 10 rfl (by kernel_rfl) (by kernel_rfl) (by kernel_rfl) ?_
    refine v_val F rfl (fun w l => r_extract F rfl rfl) (fun a F => ?_)
    exact H2466 b1976 v2057 ((rb2058 ++ ib2059)) v2063 ((rb2064 ++ ib2065)) _ _ (F.sub (sc rfl (sc rfl (sc rfl (sc rfl (sc rfl (sc rfl (sc rfl (sc rfl (sc rfl (sc rfl sn))))))))))) hB h783 o784 h789 o790 h1093 o1094 h1097 o1098 CK1977 i2056 h2071.r.one h2075 o2076 i2062 h2073.r.one h2077 o2078 i2068 K776 K778 K937 K952 K1977 d2079 (Dj.symm d2079) d2080 (Dj.symm d2080) d2081 (Dj.symm d2081) d2082 (Dj.symm d2082) d2083 (Dj.symm d2083) d2084 (Dj.symm d2084) d2085 (Dj.symm d2085) d2086 (Dj.symm d2086) d2088 (Dj.symm d2088) d2089 (Dj.symm d2089) d2090 (Dj.symm d2090) d2091 (Dj.symm d2091) d2092 (Dj.symm d2092) d2093 (Dj.symm d2093) d2094 (Dj.symm d2094) d2095 (Dj.symm d2095) d2097 (Dj.symm d2097) d2044 d2045 d2046 d2047 (Dj.symm d2087) (Dj.symm d2096) nb2051 nb2052 nb2053 nb2054 _ (by kernel_rfl)
   refine o_alloc Tryz.zeroValue60 F rfl rfl (fun a w b2098 K2099 l BK2099 F => ?_)
   have nb2100 := Dj.bb K776 BK2099
   have nb2101 := Dj.bb K778 BK2099
   have nb2102 := Dj.bb K937 BK2099
   have nb2103 := Dj.bb K952 BK2099
   have nb2104 := Dj.bb K1977 BK2099
   have d2105 := (dj1 h783.m BK2099).symm
   have d2106 := (dj1 h789.m BK2099).symm
   have d2107 := (dj1 h1093.m BK2099).symm
   have d2108 := (dj1 h1097.m BK2099).symm
   have d2109 := (dj1 h1980.m BK2099).symm
   have d2110 := (dj1 h1984.m BK2099).symm
   have d2111 := (dj1 h1988.m BK2099).symm
   have CK2099 := Nat.le_trans hB.size BK2099
   replace hB := Below.through l hB
   replace h783 := h783.go l
   replace o784 := o784.go l
   replace h789 := h789.go l
   replace o790 := o790.go l
   replace h1093 := h1093.go l
   replace o1094 := o1094.go l
   replace h1097 := h1097.go l
   replace o1098 := o1098.go l
   replace h1980 := h1980.go l
   replace o1981 := o1981.go l
   replace h1984 := h1984.go l
   replace o1985 := o1985.go l
   replace h1988 := h1988.go l
   replace o1989 := o1989.go l
   replace K776 := K776.thru l
   replace K778 := K778.thru l
   replace K937 := K937.thru l
   replace K952 := K952.thru l
   replace K1977 := K1977.thru l
   refine x_end ?_
   refine x_tn ?_
   refine ⟨.inl l, ?_⟩
   exact H2289 b1976 b2098 v1978 b1979 v1982 b1983 v1986 b1987 _ _ (F.sub (sc rfl (sc rfl (sc rfl (sc rfl (sc rfl (sc rfl (sc rfl (sc rfl (sc rfl (sc rfl (sc rfl sn)))))))))))) hB h783 o784 h789 o790 h1093 o1094 h1097 o1098 CK1977 CK2099 h1980 o1981 h1984 o1985 h1988 o1989 K776 K778 K937 K952 K1977 K2099 d1990 d1991 d1992 d1993 d1994 d1995 d1996 d1997 d1998 d1999 d2000 d2001 d2002 d2003 d2004 d2005 d2006 d2007 d2008 d2009 d2010 d2011 d2012 d2013 d2014 d2015 d2016 d2017 d2018 d2019 d2020 d2021 d2022 d2023 d2024 d2025 d2026 d2027 d2028 d2029 d2030 d2031 d2032 d2033 d2034 d2035 d2036 d2037 d2038 d2039 d2040 d2041 d2042 d2043 d2105 d2106 d2107 d2108 d2109 d2110 d2111 d2044 d2045 d2046 d2047 d2048 d2049 d2050 nb2051 nb2052 nb2053 nb2054 nb2104 (Ne.symm nb2100) (Ne.symm nb2101) (Ne.symm nb2102) (Ne.symm nb2103) _ (by kernel_rfl)
  refine dp (fun G => ∀ (b1840 : Nat) (v1842 : Value) (b1843 : List Nat) (v1846 : Value) (b1847 : List Nat) (v1850 : Value) (b1851 : List Nat) (a : Act) (w : World), Sk a 179 [(8, .pointer (some ⟨b775, 0, none⟩)), (9, .pointer (some ⟨b777, 0, none⟩)), (10, .int .i64 z62.2.2), (14, .pointer (some ⟨b936, 0, none⟩)), (15, .pointer (some ⟨b951, 0, none⟩)), (18, .int .i64 z1095), (21, .pointer (some ⟨b1840, 0, none⟩)), (142, v1842), (144, v1846), (146, v1850)] → Below w0.heap.size w0 w → Rd (Agg 2 RTemplate) w (.agg #[.int .i64 z62.1.size, v780]) z62.1 b782 → Own w0.heap.size b782 w → Rd (Agg 2 RInstance) w (.agg #[.int .i64 z62.2.1.vars, v786]) z62.2.1 b788 → Own w0.heap.size b788 w → Rd (Agg 2 RTemplate) w (.agg #[.int .i64 z888.1.size, v891]) (z888.1.mkv 1) ((rb892 ++ ib893)) → Own w0.heap.size ((rb892 ++ ib893)) w → Rd (Agg 2 RInstance) w (.agg #[.int .i64 z888.2.1.vars, v897]) (z888.2.1.mkv z1091) ((rb898 ++ ib899)) → Own w0.heap.size ((rb898 ++ ib899)) w → w0.heap.size ≤ b1840 → Rd (Agg 2 RTemplate) w v1842 x0 b1843 → Own w0.heap.size b1843 w → Rd (Agg 2 RInstance) w v1846 x1 b1847 → Own w0.heap.size b1847 w → Rd (Sl 1 RLits) w v1850 x2 b1851 → Own w0.heap.size b1851 w → Blk w b775 #[.int .i64 z62.1.size, v780] 33 → Blk w b777 #[.int .i64 z62.2.1.vars, v786] 60 → Blk w b936 #[.int .i64 z888.1.size, v891] 33 → Blk w b951 #[.int .i64 z888.2.1.vars, v897] 60 → Blk w b1840 #[.int .i64 0, (.slice none 0 0)] 60 → Dj b782 b1843 → Dj b1843 b782 → Dj b788 b1843 → Dj b1843 b788 → Dj ((rb892 ++ ib893)) b1843 → Dj b1843 ((rb892 ++ ib893)) → Dj ((rb898 ++ ib899)) b1843 → Dj b1843 ((rb898 ++ ib899)) → Dj [b775] b1843 → Dj b1843 ([b775]) → Dj [b777] b1843 → Dj b1843 ([b777]) → Dj [b936] b1843 → Dj b1843 ([b936]) → Dj [b951] b1843 → Dj b1843 ([b951]) → Dj b782 b1847 → Dj b1847 b782 → Dj b788 b1847 → Dj b1847 b788 → Dj ((rb892 ++ ib893)) b1847 → Dj b1847 ((rb892 ++ ib893)) → Dj ((rb898 ++ ib899)) b1847 → Dj b1847 ((rb898 ++ ib899)) → Dj b1843 b1847 → Dj b1847 b1843 → Dj [b775] b1847 → Dj b1847 ([b775]) → Dj [b777] b1847 → Dj b1847 ([b777]) → Dj [b936] b1847 → Dj b1847 ([b936]) → Dj [b951] b1847 → Dj b1847 ([b951]) → Dj b782 b1851 → Dj b1851 b782 → Dj b788 b1851 → Dj b1851 b788 → Dj ((rb892 ++ ib893)) b1851 → Dj b1851 ((rb892 ++ ib893)) → Dj ((rb898 ++ ib899)) b1851 → Dj b1851 ((rb898 ++ ib899)) → Dj b1843 b1851 → Dj b1851 b1843 → Dj b1847 b1851 → Dj b1851 b1847 → Dj [b775] b1851 → Dj b1851 ([b775]) → Dj [b777] b1851 → Dj b1851 ([b777]) → Dj [b936] b1851 → Dj b1851 ([b936]) → Dj [b951] b1851 → Dj b1851 ([b951]) → Dj b782 ([b1840]) → Dj b788 ([b1840]) → Dj ((rb892 ++ ib893)) ([b1840]) → Dj ((rb898 ++ ib899)) ([b1840]) → Dj b1843 ([b1840]) → Dj b1847 ([b1840]) → Dj b1851 ([b1840]) → b1840 ≠ b775 → b1840 ≠ b777 → b1840 ≠ b936 → b1840 ≠ b951 → ∀ ls, ls = #[true, true, true, true, true, true, false, false, false, false, false, false, true, false, false, false] → G 9 ls a w) ?_ (fun H1919 => ?_)
  ·
   intro b1840 v1842 b1843 v1846 b1847 v1850 b1851 a w F hB h783 o784 h789 o790 h1093 o1094 h1097 o1098 CK1841 h1844 o1845 h1848 o1849 h1852 o1853 K776 K778 K937 K952 K1841 d1854 d1855 d1856 d1857 d1858 d1859 d1860 d1861 d1862 d1863 d1864 d1865 d1866 d1867 d1868 d1869 d1870 d1871 d1872 d1873 d1874 d1875 d1876 d1877 d1878 d1879 d1880 d1881 d1882 d1883 d1884 d1885 d1886 d1887 d1888 d1889 d1890 d1891 d1892 d1893 d1894 d1895 d1896 d1897 d1898 d1899 d1900 d1901 d1902 d1903 d1904 d1905 d1906 d1907 d1908 d1909 d1910 d1911 d1912 d1913 d1914 nb1915 nb1916 nb1917 nb1918 ls hls
   subst hls
   refine b_es [6, 11] (by kernel_rfl) (by simp) ⟨⟨_, rfl, ?_⟩, ⟨_, rfl, ?_⟩, trivial⟩
   ·
    refine o_gives F rfl Tryz.call35 rfl (impl_AddNoGoods_c z888 c889 _ h1844 h1848 h1852) (fun a vv w l ⟨v1921, rb1922, ib1923, v1927, rb1928, ib1929, hv1933, i1920, h1924, ow1925, i1926, h1930, ow1931, i1932, dj1934⟩ F => ?_)
    subst vv
    have o1936 := h1924.own ow1925
    have h1935 := h1924.rd
    have o1938 := h1930.own ow1931
    have h1937 := h1930.rd
    have h1939 := RTemplate.mk2 (w := w) i1920 h1935
    have o1940 := o1936
    have h1941 := RInstance.mk2 (w := w) i1926 h1937
    have o1942 := o1938
    have d1943 := Dj.new h783.m o1940 (Nat.le_refl _)
    have d1944 := Dj.new h789.m o1940 (Nat.le_refl _)
    have d1945 := Dj.new h1093.m o1940 (Nat.le_refl _)
    have d1946 := Dj.new h1097.m o1940 (Nat.le_refl _)
    have d1947 := Dj.new (inm1 K776) o1940 (Nat.le_refl _)
    have d1948 := Dj.new (inm1 K778) o1940 (Nat.le_refl _)
    have d1949 := Dj.new (inm1 K937) o1940 (Nat.le_refl _)
    have d1950 := Dj.new (inm1 K952) o1940 (Nat.le_refl _)
    have d1951 := Dj.new (inm1 K1841) o1940 (Nat.le_refl _)
    replace o1940 := o1940.mono hB.size
    have d1952 := Dj.new h783.m o1942 (Nat.le_refl _)
    have d1953 := Dj.new h789.m o1942 (Nat.le_refl _)
    have d1954 := Dj.new h1093.m o1942 (Nat.le_refl _)
    have d1955 := Dj.new h1097.m o1942 (Nat.le_refl _)
    have d1956 := Dj.new (inm1 K776) o1942 (Nat.le_refl _)
    have d1957 := Dj.new (inm1 K778) o1942 (Nat.le_refl _)
    have d1958 := Dj.new (inm1 K937) o1942 (Nat.le_refl _)
    have d1959 := Dj.new (inm1 K952) o1942 (Nat.le_refl _)
    have d1960 := Dj.new (inm1 K1841) o1942 (Nat.le_refl _)
    replace o1942 := o1942.mono hB.size
    have d1961 : Dj ((rb1922 ++ ib1923)) ((rb1928 ++ ib1929)) := dj1934
    replace hB := Below.through l hB
    replace h783 := h783.go l
    replace o784 := o784.go l
    replace h789 := h789.go l
    replace o790 := o790.go l
    replace h1093 := h1093.go l
    replace o1094 := o1094.go l
    replace h1097 := h1097.go l
    replace o1098 := o1098.go l
    replace K776 := K776.thru l
    replace K778 := K778.thru l
    replace K937 := K937.thru l
    replace K952 := K952.thru l
    replace K1841 := K1841.thru l
    refine x_end ?_
    refine x_tn ?_
    refine ⟨.inl l, ?_⟩
    refine b_q0 7 rfl (by kernel_rfl) (by kernel_rfl) (by kernel_rfl) ?_
    refine v_val F rfl (fun w l => r_move F rfl) (fun a F => ?_)
    refine b_q0 8 rfl (by kernel_rfl) (by kernel_rfl) (by kernel_rfl) ?_
    refine v_val F rfl (fun w l => r_extract F rfl rfl) (fun a F => ?_)
    refine b_q0 9 rfl (by kernel_rfl) (by kernel_rfl) (by kernel_rfl) ?_
    refine v_val F rfl (fun w l => r_extract F rfl rfl) (fun a F => ?_)
    refine b_q0 10 rfl (by kernel_rfl) (by kernel_rfl) (by kernel_rfl) ?_
    refine v_val F rfl (fun w l => r_extract F rfl rfl) (fun a F => ?_)
    exact H2393 b1840 v1921 ((rb1922 ++ ib1923)) v1927 ((rb1928 ++ ib1929)) _ _ (F.sub (sc rfl (sc rfl (sc rfl (sc rfl (sc rfl (sc rfl (sc rfl (sc rfl (sc rfl (sc rfl sn))))))))))) hB h783 o784 h789 o790 h1093 o1094 h1097 o1098 CK1841 i1920 h1935.r.one h1939 o1940 i1926 h1937.r.one h1941 o1942 i1932 K776 K778 K937 K952 K1841 d1943 (Dj.symm d1943) d1944 (Dj.symm d1944) d1945 (Dj.symm d1945) d1946 (Dj.symm d1946) d1947 (Dj.symm d1947) d1948 (Dj.symm d1948) d1949 (Dj.symm d1949) d1950 (Dj.symm d1950) d1952 (Dj.symm d1952) d1953 (Dj.symm d1953) d1954 (Dj.symm d1954) d1955 (Dj.symm d1955) d1956 (Dj.symm d1956) d1957 (Dj.symm d1957) d1958 (Dj.symm d1958) d1959 (Dj.symm d1959) d1961 (Dj.symm d1961) d1908 d1909 d1910 d1911 (Dj.symm d1951) (Dj.symm d1960) nb1915 nb1916 nb1917 nb1918 _ (by kernel_rfl)
   refine o_alloc Tryz.zeroValue33 F rfl rfl (fun a w b1962 K1963 l BK1963 F => ?_)
   have nb1964 := Dj.bb K776 BK1963
   have nb1965 := Dj.bb K778 BK1963
   have nb1966 := Dj.bb K937 BK1963
   have nb1967 := Dj.bb K952 BK1963
   have nb1968 := Dj.bb K1841 BK1963
   have d1969 := (dj1 h783.m BK1963).symm
   have d1970 := (dj1 h789.m BK1963).symm
   have d1971 := (dj1 h1093.m BK1963).symm
   have d1972 := (dj1 h1097.m BK1963).symm
   have d1973 := (dj1 h1844.m BK1963).symm
   have d1974 := (dj1 h1848.m BK1963).symm
   have d1975 := (dj1 h1852.m BK1963).symm
   have CK1963 := Nat.le_trans hB.size BK1963
   replace hB := Below.through l hB
   replace h783 := h783.go l
   replace o784 := o784.go l
   replace h789 := h789.go l
   replace o790 := o790.go l
   replace h1093 := h1093.go l
   replace o1094 := o1094.go l
   replace h1097 := h1097.go l
   replace o1098 := o1098.go l
   replace h1844 := h1844.go l
   replace o1845 := o1845.go l
   replace h1848 := h1848.go l
   replace o1849 := o1849.go l
   replace h1852 := h1852.go l
   replace o1853 := o1853.go l
   replace K776 := K776.thru l
   replace K778 := K778.thru l
   replace K937 := K937.thru l
   replace K952 := K952.thru l
   replace K1841 := K1841.thru l
   refine x_end ?_
   refine x_tn ?_
   refine ⟨.inl l, ?_⟩
   exact H2289 b1962 b1840 v1842 b1843 v1846 b1847 v1850 b1851 _ _ (F.sub (sc rfl (sc rfl (sc rfl (sc rfl (sc rfl (sc rfl (sc rfl (sc rfl (sc rfl (sc rfl (sc rfl sn)))))))))))) hB h783 o784 h789 o790 h1093 o1094 h1097 o1098 CK1963 CK1841 h1844 o1845 h1848 o1849 h1852 o1853 K776 K778 K937 K952 K1963 K1841 d1854 d1855 d1856 d1857 d1858 d1859 d1860 d1861 d1862 d1863 d1864 d1865 d1866 d1867 d1868 d1869 d1870 d1871 d1872 d1873 d1874 d1875 d1876 d1877 d1878 d1879 d1880 d1881 d1882 d1883 d1884 d1885 d1886 d1887 d1888 d1889 d1890 d1891 d1892 d1893 d1894 d1895 d1896 d1897 d1898 d1899 d1900 d1901 d1902 d1903 d1904 d1905 d1906 d1907 d1908 d1909 d1910 d1911 d1912 d1913 d1914 d1969 d1970 d1971 d1972 d1973 d1974 d1975 (Ne.symm nb1964) (Ne.symm nb1965) (Ne.symm nb1966) (Ne.symm nb1967) (Ne.symm nb1968) nb1915 nb1916 nb1917 nb1918 _ (by kernel_rfl)
  refine dp (fun G => ∀ (b1757 : Nat) (v1759 : Value) (b1760 : List Nat) (v1763 : Value) (b1764 : List Nat) (a : Act) (w : World), Sk a 179 [(8, .pointer (some ⟨b775, 0, none⟩)), (9, .pointer (some ⟨b777, 0, none⟩)), (10, .int .i64 z62.2.2), (14, .pointer (some ⟨b936, 0, none⟩)), (15, .pointer (some ⟨b951, 0, none⟩)), (18, .int .i64 z1095), (21, .pointer (some ⟨b1757, 0, none⟩)), (142, v1759), (144, v1763), (145, v2)] → Below w0.heap.size w0 w → Rd (Agg 2 RTemplate) w (.agg #[.int .i64 z62.1.size, v780]) z62.1 b782 → Own w0.heap.size b782 w → Rd (Agg 2 RInstance) w (.agg #[.int .i64 z62.2.1.vars, v786]) z62.2.1 b788 → Own w0.heap.size b788 w → Rd (Agg 2 RTemplate) w (.agg #[.int .i64 z888.1.size, v891]) (z888.1.mkv 1) ((rb892 ++ ib893)) → Own w0.heap.size ((rb892 ++ ib893)) w → Rd (Agg 2 RInstance) w (.agg #[.int .i64 z888.2.1.vars, v897]) (z888.2.1.mkv z1091) ((rb898 ++ ib899)) → Own w0.heap.size ((rb898 ++ ib899)) w → w0.heap.size ≤ b1757 → Rd (Agg 2 RTemplate) w v1759 x0 b1760 → Own w0.heap.size b1760 w → Rd (Agg 2 RInstance) w v1763 x1 b1764 → Own w0.heap.size b1764 w → Blk w b775 #[.int .i64 z62.1.size, v780] 33 → Blk w b777 #[.int .i64 z62.2.1.vars, v786] 60 → Blk w b936 #[.int .i64 z888.1.size, v891] 33 → Blk w b951 #[.int .i64 z888.2.1.vars, v897] 60 → Blk w b1757 #[.int .i64 0, (.slice none 0 0)] 60 → Dj b782 b1760 → Dj b1760 b782 → Dj b788 b1760 → Dj b1760 b788 → Dj ((rb892 ++ ib893)) b1760 → Dj b1760 ((rb892 ++ ib893)) → Dj ((rb898 ++ ib899)) b1760 → Dj b1760 ((rb898 ++ ib899)) → Dj [b775] b1760 → Dj b1760 ([b775]) → Dj [b777] b1760 → Dj b1760 ([b777]) → Dj [b936] b1760 → Dj b1760 ([b936]) → Dj [b951] b1760 → Dj b1760 ([b951]) → Dj b782 b1764 → Dj b1764 b782 → Dj b788 b1764 → Dj b1764 b788 → Dj ((rb892 ++ ib893)) b1764 → Dj b1764 ((rb892 ++ ib893)) → Dj ((rb898 ++ ib899)) b1764 → Dj b1764 ((rb898 ++ ib899)) → Dj b1760 b1764 → Dj b1764 b1760 → Dj [b775] b1764 → Dj b1764 ([b775]) → Dj [b777] b1764 → Dj b1764 ([b777]) → Dj [b936] b1764 → Dj b1764 ([b936]) → Dj [b951] b1764 → Dj b1764 ([b951]) → Dj b782 ([b1757]) → Dj b788 ([b1757]) → Dj ((rb892 ++ ib893)) ([b1757]) → Dj ((rb898 ++ ib899)) ([b1757]) → Dj b1760 ([b1757]) → Dj b1764 ([b1757]) → b1757 ≠ b775 → b1757 ≠ b777 → b1757 ≠ b936 → b1757 ≠ b951 → ∀ ls, ls = #[true, true, true, true, true, false, false, false, false, false, false, false, true, false, false, false] → G 10 ls a w) ?_ (fun H1811 => ?_)
  ·
   intro b1757 v1759 b1760 v1763 b1764 a w F hB h783 o784 h789 o790 h1093 o1094 h1097 o1098 CK1758 h1761 o1762 h1765 o1766 K776 K778 K937 K952 K1758 d1767 d1768 d1769 d1770 d1771 d1772 d1773 d1774 d1775 d1776 d1777 d1778 d1779 d1780 d1781 d1782 d1783 d1784 d1785 d1786 d1787 d1788 d1789 d1790 d1791 d1792 d1793 d1794 d1795 d1796 d1797 d1798 d1799 d1800 d1801 d1802 d1803 d1804 d1805 d1806 nb1807 nb1808 nb1809 nb1810 ls hls
   subst hls
   refine b_es [5, 11] (by kernel_rfl) (by simp) ⟨⟨_, rfl, ?_⟩, ⟨_, rfl, ?_⟩, trivial⟩
   ·
    refine o_toS F rfl Tryz.call34 rfl (toLiteralSS_any _ _ _ _ (A2.go hB).r (A2.go hB).m (toq_some c53)) (fun a v1812 b1813 w l h1814 o1815 F => ?_)
    have d1816 := Dj.new h783.m o1815 (Nat.le_refl _)
    have d1817 := Dj.new h789.m o1815 (Nat.le_refl _)
    have d1818 := Dj.new h1093.m o1815 (Nat.le_refl _)
    have d1819 := Dj.new h1097.m o1815 (Nat.le_refl _)
    have d1820 := Dj.new h1761.m o1815 (Nat.le_refl _)
    have d1821 := Dj.new h1765.m o1815 (Nat.le_refl _)
    have d1822 := Dj.new (inm1 K776) o1815 (Nat.le_refl _)
    have d1823 := Dj.new (inm1 K778) o1815 (Nat.le_refl _)
    have d1824 := Dj.new (inm1 K937) o1815 (Nat.le_refl _)
    have d1825 := Dj.new (inm1 K952) o1815 (Nat.le_refl _)
    have d1826 := Dj.new (inm1 K1758) o1815 (Nat.le_refl _)
    replace o1815 := o1815.mono hB.size
    replace hB := Below.through l hB
    replace h783 := h783.go l
    replace o784 := o784.go l
    replace h789 := h789.go l
    replace o790 := o790.go l
    replace h1093 := h1093.go l
    replace o1094 := o1094.go l
    replace h1097 := h1097.go l
    replace o1098 := o1098.go l
    replace h1761 := h1761.go l
    replace o1762 := o1762.go l
    replace h1765 := h1765.go l
    replace o1766 := o1766.go l
    replace K776 := K776.thru l
    replace K778 := K778.thru l
    replace K937 := K937.thru l
    replace K952 := K952.thru l
    replace K1758 := K1758.thru l
    refine x_end ?_
    refine x_tn ?_
    refine ⟨.inl l, ?_⟩
    exact H1919 b1757 v1759 b1760 v1763 b1764 v1812 b1813 _ _ (F.sub (sc rfl (sc rfl (sc rfl (sc rfl (sc rfl (sc rfl (sc rfl (sc rfl (sc rfl (sc rfl sn))))))))))) hB h783 o784 h789 o790 h1093 o1094 h1097 o1098 CK1758 h1761 o1762 h1765 o1766 h1814 o1815 K776 K778 K937 K952 K1758 d1767 d1768 d1769 d1770 d1771 d1772 d1773 d1774 d1775 d1776 d1777 d1778 d1779 d1780 d1781 d1782 d1783 d1784 d1785 d1786 d1787 d1788 d1789 d1790 d1791 d1792 d1793 d1794 d1795 d1796 d1797 d1798 d1799 d1800 d1816 (Dj.symm d1816) d1817 (Dj.symm d1817) d1818 (Dj.symm d1818) d1819 (Dj.symm d1819) d1820 (Dj.symm d1820) d1821 (Dj.symm d1821) d1822 (Dj.symm d1822) d1823 (Dj.symm d1823) d1824 (Dj.symm d1824) d1825 (Dj.symm d1825) d1801 d1802 d1803 d1804 d1805 d1806 (Dj.symm d1826) nb1807 nb1808 nb1809 nb1810 _ (by kernel_rfl)
   refine o_alloc Tryz.zeroValue33 F rfl rfl (fun a w b1827 K1828 l BK1828 F => ?_)
   have nb1829 := Dj.bb K776 BK1828
   have nb1830 := Dj.bb K778 BK1828
   have nb1831 := Dj.bb K937 BK1828
   have nb1832 := Dj.bb K952 BK1828
   have nb1833 := Dj.bb K1758 BK1828
   have d1834 := (dj1 h783.m BK1828).symm
   have d1835 := (dj1 h789.m BK1828).symm
   have d1836 := (dj1 h1093.m BK1828).symm
   have d1837 := (dj1 h1097.m BK1828).symm
   have d1838 := (dj1 h1761.m BK1828).symm
   have d1839 := (dj1 h1765.m BK1828).symm
   have CK1828 := Nat.le_trans hB.size BK1828
   replace hB := Below.through l hB
   replace h783 := h783.go l
   replace o784 := o784.go l
   replace h789 := h789.go l
   replace o790 := o790.go l
   replace h1093 := h1093.go l
   replace o1094 := o1094.go l
   replace h1097 := h1097.go l
   replace o1098 := o1098.go l
   replace h1761 := h1761.go l
   replace o1762 := o1762.go l
   replace h1765 := h1765.go l
   replace o1766 := o1766.go l
   replace K776 := K776.thru l
   replace K778 := K778.thru l
   replace K937 := K937.thru l
   replace K952 := K952.thru l
   replace K1758 := K1758.thru l
   refine x_end ?_
   refine x_tn ?_
   refine ⟨.inl l, ?_⟩
   exact H2179 b1827 b1757 v1759 b1760 v1763 b1764 _ _ (F.sub (sc rfl (sc rfl (sc rfl (sc rfl (sc rfl (sc rfl (sc rfl (sc rfl (sc rfl (sc rfl (sc rfl sn)))))))))))) hB h783 o784 h789 o790 h1093 o1094 h1097 o1098 CK1828 CK1758 h1761 o1762 h1765 o1766 K776 K778 K937 K952 K1828 K1758 d1834 d1835 d1836 d1837 d1801 d1802 d1803 d1804 d1767 d1768 d1769 d1770 d1771 d1772 d1773 d1774 d1775 d1776 d1777 d1778 d1779 d1780 d1781 d1782 d1838 d1805 d1783 d1784 d1785 d1786 d1787 d1788 d1789 d1790 d1791 d1792 d1793 d1794 d1795 d1796 d1797 d1798 d1799 d1800 d1839 d1806 (Ne.symm nb1829) (Ne.symm nb1830) (Ne.symm nb1831) (Ne.symm nb1832) (Ne.symm nb1833) nb1807 nb1808 nb1809 nb1810 _ (by kernel_rfl)
  refine dp (fun G => ∀ (b1674 : Nat) (v1676 : Value) (b1677 : List Nat) (v1680 : Value) (b1681 : List Nat) (a : Act) (w : World), Sk a 179 [(8, .pointer (some ⟨b775, 0, none⟩)), (9, .pointer (some ⟨b777, 0, none⟩)), (10, .int .i64 z62.2.2), (14, .pointer (some ⟨b936, 0, none⟩)), (15, .pointer (some ⟨b951, 0, none⟩)), (18, .int .i64 z1095), (20, .pointer (some ⟨b1674, 0, none⟩)), (142, v1676), (144, v1680), (145, v2)] → Below w0.heap.size w0 w → Rd (Agg 2 RTemplate) w (.agg #[.int .i64 z62.1.size, v780]) z62.1 b782 → Own w0.heap.size b782 w → Rd (Agg 2 RInstance) w (.agg #[.int .i64 z62.2.1.vars, v786]) z62.2.1 b788 → Own w0.heap.size b788 w → Rd (Agg 2 RTemplate) w (.agg #[.int .i64 z888.1.size, v891]) (z888.1.mkv 1) ((rb892 ++ ib893)) → Own w0.heap.size ((rb892 ++ ib893)) w → Rd (Agg 2 RInstance) w (.agg #[.int .i64 z888.2.1.vars, v897]) (z888.2.1.mkv z1091) ((rb898 ++ ib899)) → Own w0.heap.size ((rb898 ++ ib899)) w → w0.heap.size ≤ b1674 → Rd (Agg 2 RTemplate) w v1676 x0 b1677 → Own w0.heap.size b1677 w → Rd (Agg 2 RInstance) w v1680 x1 b1681 → Own w0.heap.size b1681 w → Blk w b775 #[.int .i64 z62.1.size, v780] 33 → Blk w b777 #[.int .i64 z62.2.1.vars, v786] 60 → Blk w b936 #[.int .i64 z888.1.size, v891] 33 → Blk w b951 #[.int .i64 z888.2.1.vars, v897] 60 → Blk w b1674 #[.int .i64 0, (.slice none 0 0)] 33 → Dj b782 b1677 → Dj b1677 b782 → Dj b788 b1677 → Dj b1677 b788 → Dj ((rb892 ++ ib893)) b1677 → Dj b1677 ((rb892 ++ ib893)) → Dj ((rb898 ++ ib899)) b1677 → Dj b1677 ((rb898 ++ ib899)) → Dj [b775] b1677 → Dj b1677 ([b775]) → Dj [b777] b1677 → Dj b1677 ([b777]) → Dj [b936] b1677 → Dj b1677 ([b936]) → Dj [b951] b1677 → Dj b1677 ([b951]) → Dj b782 b1681 → Dj b1681 b782 → Dj b788 b1681 → Dj b1681 b788 → Dj ((rb892 ++ ib893)) b1681 → Dj b1681 ((rb892 ++ ib893)) → Dj ((rb898 ++ ib899)) b1681 → Dj b1681 ((rb898 ++ ib899)) → Dj b1677 b1681 → Dj b1681 b1677 → Dj [b775] b1681 → Dj b1681 ([b775]) → Dj [b777] b1681 → Dj b1681 ([b777]) → Dj [b936] b1681 → Dj b1681 ([b936]) → Dj [b951] b1681 → Dj b1681 ([b951]) → Dj b782 ([b1674]) → Dj b788 ([b1674]) → Dj ((rb892 ++ ib893)) ([b1674]) → Dj ((rb898 ++ ib899)) ([b1674]) → Dj b1677 ([b1674]) → Dj b1681 ([b1674]) → b1674 ≠ b775 → b1674 ≠ b777 → b1674 ≠ b936 → b1674 ≠ b951 → ∀ ls, ls = #[true, true, true, true, true, false, false, false, false, false, false, true, false, false, false, false] → G 10 ls a w) ?_ (fun H1728 => ?_)
  ·
   intro b1674 v1676 b1677 v1680 b1681 a w F hB h783 o784 h789 o790 h1093 o1094 h1097 o1098 CK1675 h1678 o1679 h1682 o1683 K776 K778 K937 K952 K1675 d1684 d1685 d1686 d1687 d1688 d1689 d1690 d1691 d1692 d1693 d1694 d1695 d1696 d1697 d1698 d1699 d1700 d1701 d1702 d1703 d1704 d1705 d1706 d1707 d1708 d1709 d1710 d1711 d1712 d1713 d1714 d1715 d1716 d1717 d1718 d1719 d1720 d1721 d1722 d1723 nb1724 nb1725 nb1726 nb1727 ls hls
   subst hls
   refine b_es [5, 12] (by kernel_rfl) (by simp) ⟨⟨_, rfl, ?_⟩, ⟨_, rfl, ?_⟩, trivial⟩
   ·
    refine o_toS F rfl Tryz.call34 rfl (toLiteralSS_any _ _ _ _ (A2.go hB).r (A2.go hB).m (toq_some c53)) (fun a v1729 b1730 w l h1731 o1732 F => ?_)
    have d1733 := Dj.new h783.m o1732 (Nat.le_refl _)
    have d1734 := Dj.new h789.m o1732 (Nat.le_refl _)
    have d1735 := Dj.new h1093.m o1732 (Nat.le_refl _)
    have d1736 := Dj.new h1097.m o1732 (Nat.le_refl _)
    have d1737 := Dj.new h1678.m o1732 (Nat.le_refl _)
    have d1738 := Dj.new h1682.m o1732 (Nat.le_refl _)
    have d1739 := Dj.new (inm1 K776) o1732 (Nat.le_refl _)
    have d1740 := Dj.new (inm1 K778) o1732 (Nat.le_refl _)
    have d1741 := Dj.new (inm1 K937) o1732 (Nat.le_refl _)
    have d1742 := Dj.new (inm1 K952) o1732 (Nat.le_refl _)
    have d1743 := Dj.new (inm1 K1675) o1732 (Nat.le_refl _)
    replace o1732 := o1732.mono hB.size
    replace hB := Below.through l hB
    replace h783 := h783.go l
    replace o784 := o784.go l
    replace h789 := h789.go l
    replace o790 := o790.go l
    replace h1093 := h1093.go l
    replace o1094 := o1094.go l
    replace h1097 := h1097.go l
    replace o1098 := o1098.go l
    replace h1678 := h1678.go l
    replace o1679 := o1679.go l
    replace h1682 := h1682.go l
    replace o1683 := o1683.go l
    replace K776 := K776.thru l
    replace K778 := K778.thru l
    replace K937 := K937.thru l
    replace K952 := K952.thru l
    replace K1675 := K1675.thru l
    refine x_end ?_
    refine x_tn ?_
    refine ⟨.inl l, ?_⟩
    exact H2055 b1674 v1676 b1677 v1680 b1681 v1729 b1730 _ _ (F.sub (sc rfl (sc rfl (sc rfl (sc rfl (sc rfl (sc rfl (sc rfl (sc rfl (sc rfl (sc rfl sn))))))))))) hB h783 o784 h789 o790 h1093 o1094 h1097 o1098 CK1675 h1678 o1679 h1682 o1683 h1731 o1732 K776 K778 K937 K952 K1675 d1684 d1685 d1686 d1687 d1688 d1689 d1690 d1691 d1692 d1693 d1694 d1695 d1696 d1697 d1698 d1699 d1700 d1701 d1702 d1703 d1704 d1705 d1706 d1707 d1708 d1709 d1710 d1711 d1712 d1713 d1714 d1715 d1716 d1717 d1733 (Dj.symm d1733) d1734 (Dj.symm d1734) d1735 (Dj.symm d1735) d1736 (Dj.symm d1736) d1737 (Dj.symm d1737) d1738 (Dj.symm d1738) d1739 (Dj.symm d1739) d1740 (Dj.symm d1740) d1741 (Dj.symm d1741) d1742 (Dj.symm d1742) d1718 d1719 d1720 d1721 d1722 d1723 (Dj.symm d1743) nb1724 nb1725 nb1726 nb1727 _ (by kernel_rfl)
   refine o_alloc Tryz.zeroValue60 F rfl rfl (fun a w b1744 K1745 l BK1745 F => ?_)
   have nb1746 := Dj.bb K776 BK1745
   have nb1747 := Dj.bb K778 BK1745
   have nb1748 := Dj.bb K937 BK1745
   have nb1749 := Dj.bb K952 BK1745
   have nb1750 := Dj.bb K1675 BK1745
   have d1751 := (dj1 h783.m BK1745).symm
   have d1752 := (dj1 h789.m BK1745).symm
   have d1753 := (dj1 h1093.m BK1745).symm
   have d1754 := (dj1 h1097.m BK1745).symm
   have d1755 := (dj1 h1678.m BK1745).symm
   have d1756 := (dj1 h1682.m BK1745).symm
   have CK1745 := Nat.le_trans hB.size BK1745
   replace hB := Below.through l hB
   replace h783 := h783.go l
   replace o784 := o784.go l
   replace h789 := h789.go l
   replace o790 := o790.go l
   replace h1093 := h1093.go l
   replace o1094 := o1094.go l
   replace h1097 := h1097.go l
   replace o1098 := o1098.go l
   replace h1678 := h1678.go l
   replace o1679 := o1679.go l
   replace h1682 := h1682.go l
   replace o1683 := o1683.go l
   replace K776 := K776.thru l
   replace K778 := K778.thru l
   replace K937 := K937.thru l
   replace K952 := K952.thru l
   replace K1675 := K1675.thru l
   refine x_end ?_
   refine x_tn ?_
   refine ⟨.inl l, ?_⟩
   exact H2179 b1674 b1744 v1676 b1677 v1680 b1681 _ _ (F.sub (sc rfl (sc rfl (sc rfl (sc rfl (sc rfl (sc rfl (sc rfl (sc rfl (sc rfl (sc rfl (sc rfl sn)))))))))))) hB h783 o784 h789 o790 h1093 o1094 h1097 o1098 CK1675 CK1745 h1678 o1679 h1682 o1683 K776 K778 K937 K952 K1675 K1745 d1718 d1719 d1720 d1721 d1751 d1752 d1753 d1754 d1684 d1685 d1686 d1687 d1688 d1689 d1690 d1691 d1692 d1693 d1694 d1695 d1696 d1697 d1698 d1699 d1722 d1755 d1700 d1701 d1702 d1703 d1704 d1705 d1706 d1707 d1708 d1709 d1710 d1711 d1712 d1713 d1714 d1715 d1716 d1717 d1723 d1756 nb1724 nb1725 nb1726 nb1727 nb1750 (Ne.symm nb1746) (Ne.symm nb1747) (Ne.symm nb1748) (Ne.symm nb1749) _ (by kernel_rfl)
  refine dp (fun G => ∀ (b1615 : Nat) (b1617 : Nat) (v1619 : Value) (b1620 : List Nat) (a : Act) (w : World), Sk a 179 [(8, .pointer (some ⟨b775, 0, none⟩)), (9, .pointer (some ⟨b777, 0, none⟩)), (10, .int .i64 z62.2.2), (14, .pointer (some ⟨b936, 0, none⟩)), (15, .pointer (some ⟨b951, 0, none⟩)), (18, .int .i64 z1095), (20, .pointer (some ⟨b1615, 0, none⟩)), (21, .pointer (some ⟨b1617, 0, none⟩)), (142, v1619), (143, (.agg #[.int .i64 x1.vars, v21])), (145, v2)] → Below w0.heap.size w0 w → Rd (Agg 2 RTemplate) w (.agg #[.int .i64 z62.1.size, v780]) z62.1 b782 → Own w0.heap.size b782 w → Rd (Agg 2 RInstance) w (.agg #[.int .i64 z62.2.1.vars, v786]) z62.2.1 b788 → Own w0.heap.size b788 w → Rd (Agg 2 RTemplate) w (.agg #[.int .i64 z888.1.size, v891]) (z888.1.mkv 1) ((rb892 ++ ib893)) → Own w0.heap.size ((rb892 ++ ib893)) w → Rd (Agg 2 RInstance) w (.agg #[.int .i64 z888.2.1.vars, v897]) (z888.2.1.mkv z1091) ((rb898 ++ ib899)) → Own w0.heap.size ((rb898 ++ ib899)) w → w0.heap.size ≤ b1615 → w0.heap.size ≤ b1617 → Rd (Agg 2 RTemplate) w v1619 x0 b1620 → Own w0.heap.size b1620 w → Blk w b775 #[.int .i64 z62.1.size, v780] 33 → Blk w b777 #[.int .i64 z62.2.1.vars, v786] 60 → Blk w b936 #[.int .i64 z888.1.size, v891] 33 → Blk w b951 #[.int .i64 z888.2.1.vars, v897] 60 → Blk w b1615 #[.int .i64 0, (.slice none 0 0)] 33 → Blk w b1617 #[.int .i64 0, (.slice none 0 0)] 60 → Dj b782 ([b1615]) → Dj b788 ([b1615]) → Dj ((rb892 ++ ib893)) ([b1615]) → Dj ((rb898 ++ ib899)) ([b1615]) → Dj b782 ([b1617]) → Dj b788 ([b1617]) → Dj ((rb892 ++ ib893)) ([b1617]) → Dj ((rb898 ++ ib899)) ([b1617]) → Dj b782 b1620 → Dj b1620 b782 → Dj b788 b1620 → Dj b1620 b788 → Dj ((rb892 ++ ib893)) b1620 → Dj b1620 ((rb892 ++ ib893)) → Dj ((rb898 ++ ib899)) b1620 → Dj b1620 ((rb898 ++ ib899)) → Dj [b775] b1620 → Dj b1620 ([b775]) → Dj [b777] b1620 → Dj b1620 ([b777]) → Dj [b936] b1620 → Dj b1620 ([b936]) → Dj [b951] b1620 → Dj b1620 ([b951]) → Dj b1620 ([b1615]) → Dj b1620 ([b1617]) → b1615 ≠ b775 → b1615 ≠ b777 → b1615 ≠ b936 → b1615 ≠ b951 → b1615 ≠ b1617 → b1617 ≠ b775 → b1617 ≠ b777 → b1617 ≠ b936 → b1617 ≠ b951 → ∀ ls, ls = #[true, true, true, false, true, false, false, false, false, false, false, true, true, false, false, false] → G 10 ls a w) ?_ (fun H1658 => ?_)
  ·
   intro b1615 b1617 v1619 b1620 a w F hB h783 o784 h789 o790 h1093 o1094 h1097 o1098 CK1616 CK1618 h1621 o1622 K776 K778 K937 K952 K1616 K1618 d1623 d1624 d1625 d1626 d1627 d1628 d1629 d1630 d1631 d1632 d1633 d1634 d1635 d1636 d1637 d1638 d1639 d1640 d1641 d1642 d1643 d1644 d1645 d1646 d1647 d1648 nb1649 nb1650 nb1651 nb1652 nb1653 nb1654 nb1655 nb1656 nb1657 ls hls
   subst hls
   refine b_e 3 rfl (by kernel_rfl) ?_
   refine o_toA F rfl Tryz.call33 rfl (toInstance_any _ _ _ _ (A1.go hB).r (A1.go hB).m (toq_some c44)) (fun a v1659 b1660 w l h1661 o1662 F => ?_)
   have d1663 := Dj.new h783.m o1662 (Nat.le_refl _)
   have d1664 := Dj.new h789.m o1662 (Nat.le_refl _)
   have d1665 := Dj.new h1093.m o1662 (Nat.le_refl _)
   have d1666 := Dj.new h1097.m o1662 (Nat.le_refl _)
   have d1667 := Dj.new h1621.m o1662 (Nat.le_refl _)
   have d1668 := Dj.new (inm1 K776) o1662 (Nat.le_refl _)
   have d1669 := Dj.new (inm1 K778) o1662 (Nat.le_refl _)
   have d1670 := Dj.new (inm1 K937) o1662 (Nat.le_refl _)
   have d1671 := Dj.new (inm1 K952) o1662 (Nat.le_refl _)
   have d1672 := Dj.new (inm1 K1616) o1662 (Nat.le_refl _)
   have d1673 := Dj.new (inm1 K1618) o1662 (Nat.le_refl _)
   replace o1662 := o1662.mono hB.size
   replace hB := Below.through l hB
   replace h783 := h783.go l
   replace o784 := o784.go l
   replace h789 := h789.go l
   replace o790 := o790.go l
   replace h1093 := h1093.go l
   replace o1094 := o1094.go l
   replace h1097 := h1097.go l
   replace o1098 := o1098.go l
   replace h1621 := h1621.go l
   replace o1622 := o1622.go l
   replace K776 := K776.thru l
   replace K778 := K778.thru l
   replace K937 := K937.thru l
   replace K952 := K952.thru l
   replace K1616 := K1616.thru l
   replace K1618 := K1618.thru l
   refine x_end ?_
   refine x_tn ?_
   refine ⟨.inl l, ?_⟩
   exact H2179 b1615 b1617 v1619 b1620 v1659 b1660 _ _ (F.sub (sc rfl (sc rfl (sc rfl (sc rfl (sc rfl (sc rfl (sc rfl (sc rfl (sc rfl (sc rfl (sc rfl sn)))))))))))) hB h783 o784 h789 o790 h1093 o1094 h1097 o1098 CK1616 CK1618 h1621 o1622 h1661 o1662 K776 K778 K937 K952 K1616 K1618 d1623 d1624 d1625 d1626 d1627 d1628 d1629 d1630 d1631 d1632 d1633 d1634 d1635 d1636 d1637 d1638 d1639 d1640 d1641 d1642 d1643 d1644 d1645 d1646 d1647 d1648 d1663 (Dj.symm d1663) d1664 (Dj.symm d1664) d1665 (Dj.symm d1665) d1666 (Dj.symm d1666) d1667 (Dj.symm d1667) d1668 (Dj.symm d1668) d1669 (Dj.symm d1669) d1670 (Dj.symm d1670) d1671 (Dj.symm d1671) (Dj.symm d1672) (Dj.symm d1673) nb1649 nb1650 nb1651 nb1652 nb1653 nb1654 nb1655 nb1656 nb1657 _ (by kernel_rfl)
  refine dp (fun G => ∀ (b1557 : Nat) (v1559 : Value) (b1560 : List Nat) (a : Act) (w : World), Sk a 179 [(8, .pointer (some ⟨b775, 0, none⟩)), (9, .pointer (some ⟨b777, 0, none⟩)), (10, .int .i64 z62.2.2), (14, .pointer (some ⟨b936, 0, none⟩)), (15, .pointer (some ⟨b951, 0, none⟩)), (18, .int .i64 z1095), (21, .pointer (some ⟨b1557, 0, none⟩)), (142, v1559), (143, (.agg #[.int .i64 x1.vars, v21])), (145, v2)] → Below w0.heap.size w0 w → Rd (Agg 2 RTemplate) w (.agg #[.int .i64 z62.1.size, v780]) z62.1 b782 → Own w0.heap.size b782 w → Rd (Agg 2 RInstance) w (.agg #[.int .i64 z62.2.1.vars, v786]) z62.2.1 b788 → Own w0.heap.size b788 w → Rd (Agg 2 RTemplate) w (.agg #[.int .i64 z888.1.size, v891]) (z888.1.mkv 1) ((rb892 ++ ib893)) → Own w0.heap.size ((rb892 ++ ib893)) w → Rd (Agg 2 RInstance) w (.agg #[.int .i64 z888.2.1.vars, v897]) (z888.2.1.mkv z1091) ((rb898 ++ ib899)) → Own w0.heap.size ((rb898 ++ ib899)) w → w0.heap.size ≤ b1557 → Rd (Agg 2 RTemplate) w v1559 x0 b1560 → Own w0.heap.size b1560 w → Blk w b775 #[.int .i64 z62.1.size, v780] 33 → Blk w b777 #[.int .i64 z62.2.1.vars, v786] 60 → Blk w b936 #[.int .i64 z888.1.size, v891] 33 → Blk w b951 #[.int .i64 z888.2.1.vars, v897] 60 → Blk w b1557 #[.int .i64 0, (.slice none 0 0)] 60 → Dj b782 b1560 → Dj b1560 b782 → Dj b788 b1560 → Dj b1560 b788 → Dj ((rb892 ++ ib893)) b1560 → Dj b1560 ((rb892 ++ ib893)) → Dj ((rb898 ++ ib899)) b1560 → Dj b1560 ((rb898 ++ ib899)) → Dj [b775] b1560 → Dj b1560 ([b775]) → Dj [b777] b1560 → Dj b1560 ([b777]) → Dj [b936] b1560 → Dj b1560 ([b936]) → Dj [b951] b1560 → Dj b1560 ([b951]) → Dj b782 ([b1557]) → Dj b788 ([b1557]) → Dj ((rb892 ++ ib893)) ([b1557]) → Dj ((rb898 ++ ib899)) ([b1557]) → Dj b1560 ([b1557]) → b1557 ≠ b775 → b1557 ≠ b777 → b1557 ≠ b936 → b1557 ≠ b951 → ∀ ls, ls = #[true, true, true, false, true, false, false, false, false, false, false, false, true, false, false, false] → G 11 ls a w) ?_ (fun H1588 => ?_)
  ·
   intro b1557 v1559 b1560 a w F hB h783 o784 h789 o790 h1093 o1094 h1097 o1098 CK1558 h1561 o1562 K776 K778 K937 K952 K1558 d1563 d1564 d1565 d1566 d1567 d1568 d1569 d1570 d1571 d1572 d1573 d1574 d1575 d1576 d1577 d1578 d1579 d1580 d1581 d1582 d1583 nb1584 nb1585 nb1586 nb1587 ls hls
   subst hls
   refine b_es [3, 11] (by kernel_rfl) (by simp) ⟨⟨_, rfl, ?_⟩, ⟨_, rfl, ?_⟩, trivial⟩
   ·
    refine o_toA F rfl Tryz.call33 rfl (toInstance_any _ _ _ _ (A1.go hB).r (A1.go hB).m (toq_some c44)) (fun a v1589 b1590 w l h1591 o1592 F => ?_)
    have d1593 := Dj.new h783.m o1592 (Nat.le_refl _)
    have d1594 := Dj.new h789.m o1592 (Nat.le_refl _)
    have d1595 := Dj.new h1093.m o1592 (Nat.le_refl _)
    have d1596 := Dj.new h1097.m o1592 (Nat.le_refl _)
    have d1597 := Dj.new h1561.m o1592 (Nat.le_refl _)
    have d1598 := Dj.new (inm1 K776) o1592 (Nat.le_refl _)
    have d1599 := Dj.new (inm1 K778) o1592 (Nat.le_refl _)
    have d1600 := Dj.new (inm1 K937) o1592 (Nat.le_refl _)
    have d1601 := Dj.new (inm1 K952) o1592 (Nat.le_refl _)
    have d1602 := Dj.new (inm1 K1558) o1592 (Nat.le_refl _)
    replace o1592 := o1592.mono hB.size
    replace hB := Below.through l hB
    replace h783 := h783.go l
    replace o784 := o784.go l
    replace h789 := h789.go l
    replace o790 := o790.go l
    replace h1093 := h1093.go l
    replace o1094 := o1094.go l
    replace h1097 := h1097.go l
    replace o1098 := o1098.go l
    replace h1561 := h1561.go l
    replace o1562 := o1562.go l
    replace K776 := K776.thru l
    replace K778 := K778.thru l
    replace K937 := K937.thru l
    replace K952 := K952.thru l
    replace K1558 := K1558.thru l
    refine x_end ?_
    refine x_tn ?_
    refine ⟨.inl l, ?_⟩
    exact H1811 b1557 v1559 b1560 v1589 b1590 _ _ (F.sub (sc rfl (sc rfl (sc rfl (sc rfl (sc rfl (sc rfl (sc rfl (sc rfl (sc rfl (sc rfl sn))))))))))) hB h783 o784 h789 o790 h1093 o1094 h1097 o1098 CK1558 h1561 o1562 h1591 o1592 K776 K778 K937 K952 K1558 d1563 d1564 d1565 d1566 d1567 d1568 d1569 d1570 d1571 d1572 d1573 d1574 d1575 d1576 d1577 d1578 d1593 (Dj.symm d1593) d1594 (Dj.symm d1594) d1595 (Dj.symm d1595) d1596 (Dj.symm d1596) d1597 (Dj.symm d1597) d1598 (Dj.symm d1598) d1599 (Dj.symm d1599) d1600 (Dj.symm d1600) d1601 (Dj.symm d1601) d1579 d1580 d1581 d1582 d1583 (Dj.symm d1602) nb1584 nb1585 nb1586 nb1587 _ (by kernel_rfl)
   refine o_alloc Tryz.zeroValue33 F rfl rfl (fun a w b1603 K1604 l BK1604 F => ?_)
   have nb1605 := Dj.bb K776 BK1604
   have nb1606 := Dj.bb K778 BK1604
   have nb1607 := Dj.bb K937 BK1604
   have nb1608 := Dj.bb K952 BK1604
   have nb1609 := Dj.bb K1558 BK1604
   have d1610 := (dj1 h783.m BK1604).symm
   have d1611 := (dj1 h789.m BK1604).symm
   have d1612 := (dj1 h1093.m BK1604).symm
   have d1613 := (dj1 h1097.m BK1604).symm
   have d1614 := (dj1 h1561.m BK1604).symm
   have CK1604 := Nat.le_trans hB.size BK1604
   replace hB := Below.through l hB
   replace h783 := h783.go l
   replace o784 := o784.go l
   replace h789 := h789.go l
   replace o790 := o790.go l
   replace h1093 := h1093.go l
   replace o1094 := o1094.go l
   replace h1097 := h1097.go l
   replace o1098 := o1098.go l
   replace h1561 := h1561.go l
   replace o1562 := o1562.go l
   replace K776 := K776.thru l
   replace K778 := K778.thru l
   replace K937 := K937.thru l
   replace K952 := K952.thru l
   replace K1558 := K1558.thru l
   refine x_end ?_
   refine x_tn ?_
   refine ⟨.inl l, ?_⟩
   exact H1658 b1603 b1557 v1559 b1560 _ _ (F.sub (sc rfl (sc rfl (sc rfl (sc rfl (sc rfl (sc rfl (sc rfl (sc rfl (sc rfl (sc rfl (sc rfl sn)))))))))))) hB h783 o784 h789 o790 h1093 o1094 h1097 o1098 CK1604 CK1558 h1561 o1562 K776 K778 K937 K952 K1604 K1558 d1610 d1611 d1612 d1613 d1579 d1580 d1581 d1582 d1563 d1564 d1565 d1566 d1567 d1568 d1569 d1570 d1571 d1572 d1573 d1574 d1575 d1576 d1577 d1578 d1614 d1583 (Ne.symm nb1605) (Ne.symm nb1606) (Ne.symm nb1607) (Ne.symm nb1608) (Ne.symm nb1609) nb1584 nb1585 nb1586 nb1587 _ (by kernel_rfl)
  refine dp (fun G => ∀ (b1499 : Nat) (v1501 : Value) (b1502 : List Nat) (a : Act) (w : World), Sk a 179 [(8, .pointer (some ⟨b775, 0, none⟩)), (9, .pointer (some ⟨b777, 0, none⟩)), (10, .int .i64 z62.2.2), (14, .pointer (some ⟨b936, 0, none⟩)), (15, .pointer (some ⟨b951, 0, none⟩)), (18, .int .i64 z1095), (20, .pointer (some ⟨b1499, 0, none⟩)), (142, v1501), (143, (.agg #[.int .i64 x1.vars, v21])), (145, v2)] → Below w0.heap.size w0 w → Rd (Agg 2 RTemplate) w (.agg #[.int .i64 z62.1.size, v780]) z62.1 b782 → Own w0.heap.size b782 w → Rd (Agg 2 RInstance) w (.agg #[.int .i64 z62.2.1.vars, v786]) z62.2.1 b788 → Own w0.heap.size b788 w → Rd (Agg 2 RTemplate) w (.agg #[.int .i64 z888.1.size, v891]) (z888.1.mkv 1) ((rb892 ++ ib893)) → Own w0.heap.size ((rb892 ++ ib893)) w → Rd (Agg 2 RInstance) w (.agg #[.int .i64 z888.2.1.vars, v897]) (z888.2.1.mkv z1091) ((rb898 ++ ib899)) → Own w0.heap.size ((rb898 ++ ib899)) w → w0.heap.size ≤ b1499 → Rd (Agg 2 RTemplate) w v1501 x0 b1502 → Own w0.heap.size b1502 w → Blk w b775 #[.int .i64 z62.1.size, v780] 33 → Blk w b777 #[.int .i64 z62.2.1.vars, v786] 60 → Blk w b936 #[.int .i64 z888.1.size, v891] 33 → Blk w b951 #[.int .i64 z888.2.1.vars, v897] 60 → Blk w b1499 #[.int .i64 0, (.slice none 0 0)] 33 → Dj b782 b1502 → Dj b1502 b782 → Dj b788 b1502 → Dj b1502 b788 → Dj ((rb892 ++ ib893)) b1502 → Dj b1502 ((rb892 ++ ib893)) → Dj ((rb898 ++ ib899)) b1502 → Dj b1502 ((rb898 ++ ib899)) → Dj [b775] b1502 → Dj b1502 ([b775]) → Dj [b777] b1502 → Dj b1502 ([b777]) → Dj [b936] b1502 → Dj b1502 ([b936]) → Dj [b951] b1502 → Dj b1502 ([b951]) → Dj b782 ([b1499]) → Dj b788 ([b1499]) → Dj ((rb892 ++ ib893)) ([b1499]) → Dj ((rb898 ++ ib899)) ([b1499]) → Dj b1502 ([b1499]) → b1499 ≠ b775 → b1499 ≠ b777 → b1499 ≠ b936 → b1499 ≠ b951 → ∀ ls, ls = #[true, true, true, false, true, false, false, false, false, false, false, true, false, false, false, false] → G 11 ls a w) ?_ (fun H1530 => ?_)
  ·
   intro b1499 v1501 b1502 a w F hB h783 o784 h789 o790 h1093 o1094 h1097 o1098 CK1500 h1503 o1504 K776 K778 K937 K952 K1500 d1505 d1506 d1507 d1508 d1509 d1510 d1511 d1512 d1513 d1514 d1515 d1516 d1517 d1518 d1519 d1520 d1521 d1522 d1523 d1524 d1525 nb1526 nb1527 nb1528 nb1529 ls hls
   subst hls
   refine b_es [3, 12] (by kernel_rfl) (by simp) ⟨⟨_, rfl, ?_⟩, ⟨_, rfl, ?_⟩, trivial⟩
   ·
    refine o_toA F rfl Tryz.call33 rfl (toInstance_any _ _ _ _ (A1.go hB).r (A1.go hB).m (toq_some c44)) (fun a v1531 b1532 w l h1533 o1534 F => ?_)
    have d1535 := Dj.new h783.m o1534 (Nat.le_refl _)
    have d1536 := Dj.new h789.m o1534 (Nat.le_refl _)
    have d1537 := Dj.new h1093.m o1534 (Nat.le_refl _)
    have d1538 := Dj.new h1097.m o1534 (Nat.le_refl _)
    have d1539 := Dj.new h1503.m o1534 (Nat.le_refl _)
    have d1540 := Dj.new (inm1 K776) o1534 (Nat.le_refl _)
    have d1541 := Dj.new (inm1 K778) o1534 (Nat.le_refl _)
    have d1542 := Dj.new (inm1 K937) o1534 (Nat.le_refl _)
    have d1543 := Dj.new (inm1 K952) o1534 (Nat.le_refl _)
    have d1544 := Dj.new (inm1 K1500) o1534 (Nat.le_refl _)
    replace o1534 := o1534.mono hB.size
    replace hB := Below.through l hB
    replace h783 := h783.go l
    replace o784 := o784.go l
    replace h789 := h789.go l
    replace o790 := o790.go l
    replace h1093 := h1093.go l
    replace o1094 := o1094.go l
    replace h1097 := h1097.go l
    replace o1098 := o1098.go l
    replace h1503 := h1503.go l
    replace o1504 := o1504.go l
    replace K776 := K776.thru l
    replace K778 := K778.thru l
    replace K937 := K937.thru l
    replace K952 := K952.thru l
    replace K1500 := K1500.thru l
    refine x_end ?_
    refine x_tn ?_
    refine ⟨.inl l, ?_⟩
    exact H1728 b1499 v1501 b1502 v1531 b1532 _ _ (F.sub (sc rfl (sc rfl (sc rfl (sc rfl (sc rfl (sc rfl (sc rfl (sc rfl (sc rfl (sc rfl sn))))))))))) hB h783 o784 h789 o790 h1093 o1094 h1097 o1098 CK1500 h1503 o1504 h1533 o1534 K776 K778 K937 K952 K1500 d1505 d1506 d1507 d1508 d1509 d1510 d1511 d1512 d1513 d1514 d1515 d1516 d1517 d1518 d1519 d1520 d1535 (Dj.symm d1535) d1536 (Dj.symm d1536) d1537 (Dj.symm d1537) d1538 (Dj.symm d1538) d1539 (Dj.symm d1539) d1540 (Dj.symm d1540) d1541 (Dj.symm d1541) d1542 (Dj.symm d1542) d1543 (Dj.symm d1543) d1521 d1522 d1523 d1524 d1525 (Dj.symm d1544) nb1526 nb1527 nb1528 nb1529 _ (by kernel_rfl)
   refine o_alloc Tryz.zeroValue60 F rfl rfl (fun a w b1545 K1546 l BK1546 F => ?_)
   have nb1547 := Dj.bb K776 BK1546
   have nb1548 := Dj.bb K778 BK1546
   have nb1549 := Dj.bb K937 BK1546
   have nb1550 := Dj.bb K952 BK1546
   have nb1551 := Dj.bb K1500 BK1546
   have d1552 := (dj1 h783.m BK1546).symm
   have d1553 := (dj1 h789.m BK1546).symm
   have d1554 := (dj1 h1093.m BK1546).symm
   have d1555 := (dj1 h1097.m BK1546).symm
   have d1556 := (dj1 h1503.m BK1546).symm
   have CK1546 := Nat.le_trans hB.size BK1546
   replace hB := Below.through l hB
   replace h783 := h783.go l
   replace o784 := o784.go l
   replace h789 := h789.go l
   replace o790 := o790.go l
   replace h1093 := h1093.go l
   replace o1094 := o1094.go l
   replace h1097 := h1097.go l
   replace o1098 := o1098.go l
   replace h1503 := h1503.go l
   replace o1504 := o1504.go l
   replace K776 := K776.thru l
   replace K778 := K778.thru l
   replace K937 := K937.thru l
   replace K952 := K952.thru l
   replace K1500 := K1500.thru l
   refine x_end ?_
   refine x_tn ?_
   refine ⟨.inl l, ?_⟩
   exact H1658 b1499 b1545 v1501 b1502 _ _ (F.sub (sc rfl (sc rfl (sc rfl (sc rfl (sc rfl (sc rfl (sc rfl (sc rfl (sc rfl (sc rfl (sc rfl sn)))))))))))) hB h783 o784 h789 o790 h1093 o1094 h1097 o1098 CK1500 CK1546 h1503 o1504 K776 K778 K937 K952 K1500 K1546 d1521 d1522 d1523 d1524 d1552 d1553 d1554 d1555 d1505 d1506 d1507 d1508 d1509 d1510 d1511 d1512 d1513 d1514 d1515 d1516 d1517 d1518 d1519 d1520 d1525 d1556 nb1526 nb1527 nb1528 nb1529 nb1551 (Ne.symm nb1547) (Ne.symm nb1548) (Ne.symm nb1549) (Ne.symm nb1550) _ (by kernel_rfl)
  refine dp (fun G => ∀ (b1463 : Nat) (b1465 : Nat) (a : Act) (w : World), Sk a 179 [(8, .pointer (some ⟨b775, 0, none⟩)), (9, .pointer (some ⟨b777, 0, none⟩)), (10, .int .i64 z62.2.2), (14, .pointer (some ⟨b936, 0, none⟩)), (15, .pointer (some ⟨b951, 0, none⟩)), (18, .int .i64 z1095), (20, .pointer (some ⟨b1463, 0, none⟩)), (21, .pointer (some ⟨b1465, 0, none⟩)), (141, (.agg #[.int .i64 x0.size, v14])), (143, (.agg #[.int .i64 x1.vars, v21])), (145, v2)] → Below w0.heap.size w0 w → Rd (Agg 2 RTemplate) w (.agg #[.int .i64 z62.1.size, v780]) z62.1 b782 → Own w0.heap.size b782 w → Rd (Agg 2 RInstance) w (.agg #[.int .i64 z62.2.1.vars, v786]) z62.2.1 b788 → Own w0.heap.size b788 w → Rd (Agg 2 RTemplate) w (.agg #[.int .i64 z888.1.size, v891]) (z888.1.mkv 1) ((rb892 ++ ib893)) → Own w0.heap.size ((rb892 ++ ib893)) w → Rd (Agg 2 RInstance) w (.agg #[.int .i64 z888.2.1.vars, v897]) (z888.2.1.mkv z1091) ((rb898 ++ ib899)) → Own w0.heap.size ((rb898 ++ ib899)) w → w0.heap.size ≤ b1463 → w0.heap.size ≤ b1465 → Blk w b775 #[.int .i64 z62.1.size, v780] 33 → Blk w b777 #[.int .i64 z62.2.1.vars, v786] 60 → Blk w b936 #[.int .i64 z888.1.size, v891] 33 → Blk w b951 #[.int .i64 z888.2.1.vars, v897] 60 → Blk w b1463 #[.int .i64 0, (.slice none 0 0)] 33 → Blk w b1465 #[.int .i64 0, (.slice none 0 0)] 60 → Dj b782 ([b1463]) → Dj b788 ([b1463]) → Dj ((rb892 ++ ib893)) ([b1463]) → Dj ((rb898 ++ ib899)) ([b1463]) → Dj b782 ([b1465]) → Dj b788 ([b1465]) → Dj ((rb892 ++ ib893)) ([b1465]) → Dj ((rb898 ++ ib899)) ([b1465]) → b1463 ≠ b775 → b1463 ≠ b777 → b1463 ≠ b936 → b1463 ≠ b951 → b1463 ≠ b1465 → b1465 ≠ b775 → b1465 ≠ b777 → b1465 ≠ b936 → b1465 ≠ b951 → ∀ ls, ls = #[true, false, true, false, true, false, false, false, false, false, false, true, true, false, false, false] → G 11 ls a w) ?_ (fun H1484 => ?_)
  ·
   intro b1463 b1465 a w F hB h783 o784 h789 o790 h1093 o1094 h1097 o1098 CK1464 CK1466 K776 K778 K937 K952 K1464 K1466 d1467 d1468 d1469 d1470 d1471 d1472 d1473 d1474 nb1475 nb1476 nb1477 nb1478 nb1479 nb1480 nb1481 nb1482 nb1483 ls hls
   subst hls
   refine b_e 1 rfl (by kernel_rfl) ?_
   refine o_toA F rfl Tryz.call15 rfl (toTemplate_any _ _ _ _ (A0.go hB).r (A0.go hB).m (toq_some c36)) (fun a v1485 b1486 w l h1487 o1488 F => ?_)
   have d1489 := Dj.new h783.m o1488 (Nat.le_refl _)
   have d1490 := Dj.new h789.m o1488 (Nat.le_refl _)
   have d1491 := Dj.new h1093.m o1488 (Nat.le_refl _)
   have d1492 := Dj.new h1097.m o1488 (Nat.le_refl _)
   have d1493 := Dj.new (inm1 K776) o1488 (Nat.le_refl _)
   have d1494 := Dj.new (inm1 K778) o1488 (Nat.le_refl _)
   have d1495 := Dj.new (inm1 K937) o1488 (Nat.le_refl _)
   have d1496 := Dj.new (inm1 K952) o1488 (Nat.le_refl _)
   have d1497 := Dj.new (inm1 K1464) o1488 (Nat.le_refl _)
   have d1498 := Dj.new (inm1 K1466) o1488 (Nat.le_refl _)
   replace o1488 := o1488.mono hB.size
   replace hB := Below.through l hB
   replace h783 := h783.go l
   replace o784 := o784.go l
   replace h789 := h789.go l
   replace o790 := o790.go l
   replace h1093 := h1093.go l
   replace o1094 := o1094.go l
   replace h1097 := h1097.go l
   replace o1098 := o1098.go l
   replace K776 := K776.thru l
   replace K778 := K778.thru l
   replace K937 := K937.thru l
   replace K952 := K952.thru l
   replace K1464 := K1464.thru l
   replace K1466 := K1466.thru l
   refine x_end ?_
   refine x_tn ?_
   refine ⟨.inl l, ?_⟩
   exact H1658 b1463 b1465 v1485 b1486 _ _ (F.sub (sc rfl (sc rfl (sc rfl (sc rfl (sc rfl (sc rfl (sc rfl (sc rfl (sc rfl (sc rfl (sc rfl sn)))))))))))) hB h783 o784 h789 o790 h1093 o1094 h1097 o1098 CK1464 CK1466 h1487 o1488 K776 K778 K937 K952 K1464 K1466 d1467 d1468 d1469 d1470 d1471 d1472 d1473 d1474 d1489 (Dj.symm d1489) d1490 (Dj.symm d1490) d1491 (Dj.symm d1491) d1492 (Dj.symm d1492) d1493 (Dj.symm d1493) d1494 (Dj.symm d1494) d1495 (Dj.symm d1495) d1496 (Dj.symm d1496) (Dj.symm d1497) (Dj.symm d1498) nb1475 nb1476 nb1477 nb1478 nb1479 nb1480 nb1481 nb1482 nb1483 _ (by kernel_rfl)
  refine b_q 0 (by kernel_rfl) rfl (by kernel_rfl) (by kernel_rfl) (by kernel_rfl) (by kernel_rfl) ?_
  refine v_val F rfl (fun w l => r_bloadA (cs := [.int .i64 x0.size, v14]) Tryz.isAgg24 Tryz.sizeOf24 F rfl (K12.thru l) rfl (fun j hj => by match j, hj with | 0, _ => rfl | 1, _ => rfl)) (fun a F => ?_)
  refine b_q 2 (by kernel_rfl) rfl (by kernel_rfl) (by kernel_rfl) (by kernel_rfl) (by kernel_rfl) ?_
  refine v_val F rfl (fun w l => r_bloadA (cs := [.int .i64 x1.vars, v21]) Tryz.isAgg54 Tryz.sizeOf54 F rfl (K19.thru l) rfl (fun j hj => by match j, hj with | 0, _ => rfl | 1, _ => rfl)) (fun a F => ?_)
  refine b_q0 4 rfl (by kernel_rfl) (by kernel_rfl) (by kernel_rfl) ?_
  refine v_val F rfl (fun w l => r_move F rfl) (fun a F => ?_)
  refine b_es [1, 11, 12] (by kernel_rfl) (by simp) ⟨⟨_, rfl, ?_⟩, ⟨_, rfl, ?_⟩, ⟨_, rfl, ?_⟩, trivial⟩
  ·
   refine o_toA F rfl Tryz.call15 rfl (toTemplate_any _ _ _ _ (A0.go hB).r (A0.go hB).m (toq_some c36)) (fun a v1216 b1217 w l h1218 o1219 F => ?_)
   have d1220 := Dj.new h783.m o1219 (Nat.le_refl _)
   have d1221 := Dj.new h789.m o1219 (Nat.le_refl _)
   have d1222 := Dj.new h1093.m o1219 (Nat.le_refl _)
   have d1223 := Dj.new h1097.m o1219 (Nat.le_refl _)
   have d1224 := Dj.new (inm1 K776) o1219 (Nat.le_refl _)
   have d1225 := Dj.new (inm1 K778) o1219 (Nat.le_refl _)
   have d1226 := Dj.new (inm1 K937) o1219 (Nat.le_refl _)
   have d1227 := Dj.new (inm1 K952) o1219 (Nat.le_refl _)
   replace o1219 := o1219.mono hB.size
   replace hB := Below.through l hB
   replace h783 := h783.go l
   replace o784 := o784.go l
   replace h789 := h789.go l
   replace o790 := o790.go l
   replace h1093 := h1093.go l
   replace o1094 := o1094.go l
   replace h1097 := h1097.go l
   replace o1098 := o1098.go l
   replace K776 := K776.thru l
   replace K778 := K778.thru l
   replace K937 := K937.thru l
   replace K952 := K952.thru l
   refine x_end ?_
   refine x_tn ?_
   refine ⟨.inl l, ?_⟩
   refine b_es [3, 11, 12] (by kernel_rfl) (by simp) ⟨⟨_, rfl, ?_⟩, ⟨_, rfl, ?_⟩, ⟨_, rfl, ?_⟩, trivial⟩
   ·
    refine o_toA F rfl Tryz.call33 rfl (toInstance_any _ _ _ _ (A1.go hB).r (A1.go hB).m (toq_some c44)) (fun a v1228 b1229 w l h1230 o1231 F => ?_)
    have d1232 := Dj.new h783.m o1231 (Nat.le_refl _)
    have d1233 := Dj.new h789.m o1231 (Nat.le_refl _)
    have d1234 := Dj.new h1093.m o1231 (Nat.le_refl _)
    have d1235 := Dj.new h1097.m o1231 (Nat.le_refl _)
    have d1236 := Dj.new h1218.m o1231 (Nat.le_refl _)
    have d1237 := Dj.new (inm1 K776) o1231 (Nat.le_refl _)
    have d1238 := Dj.new (inm1 K778) o1231 (Nat.le_refl _)
    have d1239 := Dj.new (inm1 K937) o1231 (Nat.le_refl _)
    have d1240 := Dj.new (inm1 K952) o1231 (Nat.le_refl _)
    replace o1231 := o1231.mono hB.size
    replace hB := Below.through l hB
    replace h783 := h783.go l
    replace o784 := o784.go l
    replace h789 := h789.go l
    replace o790 := o790.go l
    replace h1093 := h1093.go l
    replace o1094 := o1094.go l
    replace h1097 := h1097.go l
    replace o1098 := o1098.go l
    replace h1218 := h1218.go l
    replace o1219 := o1219.go l
    replace K776 := K776.thru l
    replace K778 := K778.thru l
    replace K937 := K937.thru l
    replace K952 := K952.thru l
    refine x_end ?_
    refine x_tn ?_
    refine ⟨.inl l, ?_⟩
    refine b_es [5, 11, 12] (by kernel_rfl) (by simp) ⟨⟨_, rfl, ?_⟩, ⟨_, rfl, ?_⟩, ⟨_, rfl, ?_⟩, trivial⟩
    ·
     refine o_toS F rfl Tryz.call34 rfl (toLiteralSS_any _ _ _ _ (A2.go hB).r (A2.go hB).m (toq_some c53)) (fun a v1241 b1242 w l h1243 o1244 F => ?_)
     have d1245 := Dj.new h783.m o1244 (Nat.le_refl _)
     have d1246 := Dj.new h789.m o1244 (Nat.le_refl _)
     have d1247 := Dj.new h1093.m o1244 (Nat.le_refl _)
     have d1248 := Dj.new h1097.m o1244 (Nat.le_refl _)
     have d1249 := Dj.new h1218.m o1244 (Nat.le_refl _)
     have d1250 := Dj.new h1230.m o1244 (Nat.le_refl _)
     have d1251 := Dj.new (inm1 K776) o1244 (Nat.le_refl _)
     have d1252 := Dj.new (inm1 K778) o1244 (Nat.le_refl _)
     have d1253 := Dj.new (inm1 K937) o1244 (Nat.le_refl _)
     have d1254 := Dj.new (inm1 K952) o1244 (Nat.le_refl _)
     replace o1244 := o1244.mono hB.size
     replace hB := Below.through l hB
     replace h783 := h783.go l
     replace o784 := o784.go l
     replace h789 := h789.go l
     replace o790 := o790.go l
     replace h1093 := h1093.go l
     replace o1094 := o1094.go l
     replace h1097 := h1097.go l
     replace o1098 := o1098.go l
     replace h1218 := h1218.go l
     replace o1219 := o1219.go l
     replace h1230 := h1230.go l
     replace o1231 := o1231.go l
     replace K776 := K776.thru l
     replace K778 := K778.thru l
     replace K937 := K937.thru l
     replace K952 := K952.thru l
     refine x_end ?_
     refine x_tn ?_
     refine ⟨.inl l, ?_⟩
     refine b_es [6, 11, 12] (by kernel_rfl) (by simp) ⟨⟨_, rfl, ?_⟩, ⟨_, rfl, ?_⟩, ⟨_, rfl, ?_⟩, trivial⟩
     ·
      refine o_gives F rfl Tryz.call35 rfl (impl_AddNoGoods_c z888 c889 _ h1218 h1230 h1243) (fun a vv w l ⟨v1256, rb1257, ib1258, v1262, rb1263, ib1264, hv1268, i1255, h1259, ow1260, i1261, h1265, ow1266, i1267, dj1269⟩ F => ?_)
      subst vv
      have o1271 := h1259.own ow1260
      have h1270 := h1259.rd
      have o1273 := h1265.own ow1266
      have h1272 := h1265.rd
      have h1274 := RTemplate.mk2 (w := w) i1255 h1270
      have o1275 := o1271
      have h1276 := RInstance.mk2 (w := w) i1261 h1272
      have o1277 := o1273
      have d1278 := Dj.new h783.m o1275 (Nat.le_refl _)
      have d1279 := Dj.new h789.m o1275 (Nat.le_refl _)
      have d1280 := Dj.new h1093.m o1275 (Nat.le_refl _)
      have d1281 := Dj.new h1097.m o1275 (Nat.le_refl _)
      have d1282 := Dj.new (inm1 K776) o1275 (Nat.le_refl _)
      have d1283 := Dj.new (inm1 K778) o1275 (Nat.le_refl _)
      have d1284 := Dj.new (inm1 K937) o1275 (Nat.le_refl _)
      have d1285 := Dj.new (inm1 K952) o1275 (Nat.le_refl _)
      replace o1275 := o1275.mono hB.size
      have d1286 := Dj.new h783.m o1277 (Nat.le_refl _)
      have d1287 := Dj.new h789.m o1277 (Nat.le_refl _)
      have d1288 := Dj.new h1093.m o1277 (Nat.le_refl _)
      have d1289 := Dj.new h1097.m o1277 (Nat.le_refl _)
      have d1290 := Dj.new (inm1 K776) o1277 (Nat.le_refl _)
      have d1291 := Dj.new (inm1 K778) o1277 (Nat.le_refl _)
      have d1292 := Dj.new (inm1 K937) o1277 (Nat.le_refl _)
      have d1293 := Dj.new (inm1 K952) o1277 (Nat.le_refl _)
      replace o1277 := o1277.mono hB.size
      have d1294 : Dj ((rb1257 ++ ib1258)) ((rb1263 ++ ib1264)) := dj1269
      replace hB := Below.through l hB
      replace h783 := h783.go l
      replace o784 := o784.go l
      replace h789 := h789.go l
      replace o790 := o790.go l
      replace h1093 := h1093.go l
      replace o1094 := o1094.go l
      replace h1097 := h1097.go l
      replace o1098 := o1098.go l
      replace K776 := K776.thru l
      replace K778 := K778.thru l
      replace K937 := K937.thru l
      replace K952 := K952.thru l
      refine x_end ?_
      refine x_tn ?_
      refine ⟨.inl l, ?_⟩
      refine b_q0 7 rfl (by kernel_rfl) (by kernel_rfl) (by kernel_rfl) ?_
      refine v_val F rfl (fun w l => r_move F rfl) (fun a F => ?_)
      refine b_q0 8 rfl (by kernel_rfl) (by kernel_rfl) (by kernel_rfl) ?_
      refine v_val F rfl (fun w l => r_extract F rfl rfl) (fun a F => ?_)
      refine b_q0 9 rfl (by kernel_rfl) (by kernel_rfl) (by kernel_rfl) ?_
      refine v_val F rfl (fun w l => r_extract F rfl rfl) (fun a F => ?_)
      refine b_q0 10 rfl (by kernel_rfl) (by kernel_rfl) (by kernel_rfl) ?_
      refine v_val F rfl (fun w l => r_extract F rfl rfl) (fun a F => ?_)
      refine b_es [11, 12] (by kernel_rfl) (by simp) ⟨⟨_, rfl, ?_⟩, ⟨_, rfl, ?_⟩, trivial⟩
      ·
       refine o_alloc Tryz.zeroValue33 F rfl rfl (fun a w b1295 K1296 l BK1296 F => ?_)
       have nb1297 := Dj.bb K776 BK1296
       have nb1298 := Dj.bb K778 BK1296
       have nb1299 := Dj.bb K937 BK1296
       have nb1300 := Dj.bb K952 BK1296
       have d1301 := (dj1 h783.m BK1296).symm
       have d1302 := (dj1 h789.m BK1296).symm
       have d1303 := (dj1 h1093.m BK1296).symm
       have d1304 := (dj1 h1097.m BK1296).symm
       have d1305 := (dj1 h1274.m BK1296).symm
       have d1306 := (dj1 h1276.m BK1296).symm
       have CK1296 := Nat.le_trans hB.size BK1296
       replace hB := Below.through l hB
       replace h783 := h783.go l
       replace o784 := o784.go l
       replace h789 := h789.go l
       replace o790 := o790.go l
       replace h1093 := h1093.go l
       replace o1094 := o1094.go l
       replace h1097 := h1097.go l
       replace o1098 := o1098.go l
       replace h1274 := h1274.go l
       replace o1275 := o1275.go l
       replace h1276 := h1276.go l
       replace o1277 := o1277.go l
       replace K776 := K776.thru l
       replace K778 := K778.thru l
       replace K937 := K937.thru l
       replace K952 := K952.thru l
       refine x_end ?_
       refine x_tn ?_
       refine ⟨.inl l, ?_⟩
       exact H2466 b1295 v1256 ((rb1257 ++ ib1258)) v1262 ((rb1263 ++ ib1264)) _ _ (F.sub (sc rfl (sc rfl (sc rfl (sc rfl (sc rfl (sc rfl (sc rfl (sc rfl (sc rfl (sc rfl sn))))))))))) hB h783 o784 h789 o790 h1093 o1094 h1097 o1098 CK1296 i1255 h1270.r.one h1274 o1275 i1261 h1272.r.one h1276 o1277 i1267 K776 K778 K937 K952 K1296 d1278 (Dj.symm d1278) d1279 (Dj.symm d1279) d1280 (Dj.symm d1280) d1281 (Dj.symm d1281) d1282 (Dj.symm d1282) d1283 (Dj.symm d1283) d1284 (Dj.symm d1284) d1285 (Dj.symm d1285) d1286 (Dj.symm d1286) d1287 (Dj.symm d1287) d1288 (Dj.symm d1288) d1289 (Dj.symm d1289) d1290 (Dj.symm d1290) d1291 (Dj.symm d1291) d1292 (Dj.symm d1292) d1293 (Dj.symm d1293) d1294 (Dj.symm d1294) d1301 d1302 d1303 d1304 d1305 d1306 (Ne.symm nb1297) (Ne.symm nb1298) (Ne.symm nb1299) (Ne.symm nb1300) _ (by kernel_rfl)
      refine o_alloc Tryz.zeroValue60 F rfl rfl (fun a w b1307 K1308 l BK1308 F => ?_)
      have nb1309 := Dj.bb K776 BK1308
      have nb1310 := Dj.bb K778 BK1308
      have nb1311 := Dj.bb K937 BK1308
      have nb1312 := Dj.bb K952 BK1308
      have d1313 := (dj1 h783.m BK1308).symm
      have d1314 := (dj1 h789.m BK1308).symm
      have d1315 := (dj1 h1093.m BK1308).symm
      have d1316 := (dj1 h1097.m BK1308).symm
      have d1317 := (dj1 h1274.m BK1308).symm
      have d1318 := (dj1 h1276.m BK1308).symm
      have CK1308 := Nat.le_trans hB.size BK1308
      replace hB := Below.through l hB
      replace h783 := h783.go l
      replace o784 := o784.go l
      replace h789 := h789.go l
      replace o790 := o790.go l
      replace h1093 := h1093.go l
      replace o1094 := o1094.go l
      replace h1097 := h1097.go l
      replace o1098 := o1098.go l
      replace h1274 := h1274.go l
      replace o1275 := o1275.go l
      replace h1276 := h1276.go l
      replace o1277 := o1277.go l
      replace K776 := K776.thru l
      replace K778 := K778.thru l
      replace K937 := K937.thru l
      replace K952 := K952.thru l
      refine x_end ?_
      refine x_tn ?_
      refine ⟨.inl l, ?_⟩
      exact H2393 b1307 v1256 ((rb1257 ++ ib1258)) v1262 ((rb1263 ++ ib1264)) _ _ (F.sub (sc rfl (sc rfl (sc rfl (sc rfl (sc rfl (sc rfl (sc rfl (sc rfl (sc rfl (sc rfl sn))))))))))) hB h783 o784 h789 o790 h1093 o1094 h1097 o1098 CK1308 i1255 h1270.r.one h1274 o1275 i1261 h1272.r.one h1276 o1277 i1267 K776 K778 K937 K952 K1308 d1278 (Dj.symm d1278) d1279 (Dj.symm d1279) d1280 (Dj.symm d1280) d1281 (Dj.symm d1281) d1282 (Dj.symm d1282) d1283 (Dj.symm d1283) d1284 (Dj.symm d1284) d1285 (Dj.symm d1285) d1286 (Dj.symm d1286) d1287 (Dj.symm d1287) d1288 (Dj.symm d1288) d1289 (Dj.symm d1289) d1290 (Dj.symm d1290) d1291 (Dj.symm d1291) d1292 (Dj.symm d1292) d1293 (Dj.symm d1293) d1294 (Dj.symm d1294) d1313 d1314 d1315 d1316 d1317 d1318 (Ne.symm nb1309) (Ne.symm nb1310) (Ne.symm nb1311) (Ne.symm nb1312) _ (by kernel_rfl)
     ·
      refine o_alloc Tryz.zeroValue33 F rfl rfl (fun a w b1319 K1320 l BK1320 F => ?_)
      have nb1321 := Dj.bb K776 BK1320
      have nb1322 := Dj.bb K778 BK1320
      have nb1323 := Dj.bb K937 BK1320
      have nb1324 := Dj.bb K952 BK1320
      have d1325 := (dj1 h783.m BK1320).symm
      have d1326 := (dj1 h789.m BK1320).symm
      have d1327 := (dj1 h1093.m BK1320).symm
      have d1328 := (dj1 h1097.m BK1320).symm
      have d1329 := (dj1 h1218.m BK1320).symm
      have d1330 := (dj1 h1230.m BK1320).symm
      have d1331 := (dj1 h1243.m BK1320).symm
      have CK1320 := Nat.le_trans hB.size BK1320
      replace hB := Below.through l hB
      replace h783 := h783.go l
      replace o784 := o784.go l
      replace h789 := h789.go l
      replace o790 := o790.go l
      replace h1093 := h1093.go l
      replace o1094 := o1094.go l
      replace h1097 := h1097.go l
      replace o1098 := o1098.go l
      replace h1218 := h1218.go l
      replace o1219 := o1219.go l
      replace h1230 := h1230.go l
      replace o1231 := o1231.go l
      replace h1243 := h1243.go l
      replace o1244 := o1244.go l
      replace K776 := K776.thru l
      replace K778 := K778.thru l
      replace K937 := K937.thru l
      replace K952 := K952.thru l
      refine x_end ?_
      refine x_tn ?_
      refine ⟨.inl l, ?_⟩
      exact H2055 b1319 v1216 b1217 v1228 b1229 v1241 b1242 _ _ (F.sub (sc rfl (sc rfl (sc rfl (sc rfl (sc rfl (sc rfl (sc rfl (sc rfl (sc rfl (sc rfl sn))))))))))) hB h783 o784 h789 o790 h1093 o1094 h1097 o1098 CK1320 h1218 o1219 h1230 o1231 h1243 o1244 K776 K778 K937 K952 K1320 d1220 (Dj.symm d1220) d1221 (Dj.symm d1221) d1222 (Dj.symm d1222) d1223 (Dj.symm d1223) d1224 (Dj.symm d1224) d1225 (Dj.symm d1225) d1226 (Dj.symm d1226) d1227 (Dj.symm d1227) d1232 (Dj.symm d1232) d1233 (Dj.symm d1233) d1234 (Dj.symm d1234) d1235 (Dj.symm d1235) d1236 (Dj.symm d1236) d1237 (Dj.symm d1237) d1238 (Dj.symm d1238) d1239 (Dj.symm d1239) d1240 (Dj.symm d1240) d1245 (Dj.symm d1245) d1246 (Dj.symm d1246) d1247 (Dj.symm d1247) d1248 (Dj.symm d1248) d1249 (Dj.symm d1249) d1250 (Dj.symm d1250) d1251 (Dj.symm d1251) d1252 (Dj.symm d1252) d1253 (Dj.symm d1253) d1254 (Dj.symm d1254) d1325 d1326 d1327 d1328 d1329 d1330 d1331 (Ne.symm nb1321) (Ne.symm nb1322) (Ne.symm nb1323) (Ne.symm nb1324) _ (by kernel_rfl)
     refine o_alloc Tryz.zeroValue60 F rfl rfl (fun a w b1332 K1333 l BK1333 F => ?_)
     have nb1334 := Dj.bb K776 BK1333
     have nb1335 := Dj.bb K778 BK1333
     have nb1336 := Dj.bb K937 BK1333
     have nb1337 := Dj.bb K952 BK1333
     have d1338 := (dj1 h783.m BK1333).symm
     have d1339 := (dj1 h789.m BK1333).symm
     have d1340 := (dj1 h1093.m BK1333).symm
     have d1341 := (dj1 h1097.m BK1333).symm
     have d1342 := (dj1 h1218.m BK1333).symm
     have d1343 := (dj1 h1230.m BK1333).symm
     have d1344 := (dj1 h1243.m BK1333).symm
     have CK1333 := Nat.le_trans hB.size BK1333
     replace hB := Below.through l hB
     replace h783 := h783.go l
     replace o784 := o784.go l
     replace h789 := h789.go l
     replace o790 := o790.go l
     replace h1093 := h1093.go l
     replace o1094 := o1094.go l
     replace h1097 := h1097.go l
     replace o1098 := o1098.go l
     replace h1218 := h1218.go l
     replace o1219 := o1219.go l
     replace h1230 := h1230.go l
     replace o1231 := o1231.go l
     replace h1243 := h1243.go l
     replace o1244 := o1244.go l
     replace K776 := K776.thru l
     replace K778 := K778.thru l
     replace K937 := K937.thru l
     replace K952 := K952.thru l
     refine x_end ?_
     refine x_tn ?_
     refine ⟨.inl l, ?_⟩
     exact H1919 b1332 v1216 b1217 v1228 b1229 v1241 b1242 _ _ (F.sub (sc rfl (sc rfl (sc rfl (sc rfl (sc rfl (sc rfl (sc rfl (sc rfl (sc rfl (sc rfl sn))))))))))) hB h783 o784 h789 o790 h1093 o1094 h1097 o1098 CK1333 h1218 o1219 h1230 o1231 h1243 o1244 K776 K778 K937 K952 K1333 d1220 (Dj.symm d1220) d1221 (Dj.symm d1221) d1222 (Dj.symm d1222) d1223 (Dj.symm d1223) d1224 (Dj.symm d1224) d1225 (Dj.symm d1225) d1226 (Dj.symm d1226) d1227 (Dj.symm d1227) d1232 (Dj.symm d1232) d1233 (Dj.symm d1233) d1234 (Dj.symm d1234) d1235 (Dj.symm d1235) d1236 (Dj.symm d1236) d1237 (Dj.symm d1237) d1238 (Dj.symm d1238) d1239 (Dj.symm d1239) d1240 (Dj.symm d1240) d1245 (Dj.symm d1245) d1246 (Dj.symm d1246) d1247 (Dj.symm d1247) d1248 (Dj.symm d1248) d1249 (Dj.symm d1249) d1250 (Dj.symm d1250) d1251 (Dj.symm d1251) d1252 (Dj.symm d1252) d1253 (Dj.symm d1253) d1254 (Dj.symm d1254) d1338 d1339 d1340 d1341 d1342 d1343 d1344 (Ne.symm nb1334) (Ne.symm nb1335) (Ne.symm nb1336) (Ne.symm nb1337) _ (by kernel_rfl)
    ·
     refine o_alloc Tryz.zeroValue33 F rfl rfl (fun a w b1345 K1346 l BK1346 F => ?_)
     have nb1347 := Dj.bb K776 BK1346
     have nb1348 := Dj.bb K778 BK1346
     have nb1349 := Dj.bb K937 BK1346
     have nb1350 := Dj.bb K952 BK1346
     have d1351 := (dj1 h783.m BK1346).symm
     have d1352 := (dj1 h789.m BK1346).symm
     have d1353 := (dj1 h1093.m BK1346).symm
     have d1354 := (dj1 h1097.m BK1346).symm
     have d1355 := (dj1 h1218.m BK1346).symm
     have d1356 := (dj1 h1230.m BK1346).symm
     have CK1346 := Nat.le_trans hB.size BK1346
     replace hB := Below.through l hB
     replace h783 := h783.go l
     replace o784 := o784.go l
     replace h789 := h789.go l
     replace o790 := o790.go l
     replace h1093 := h1093.go l
     replace o1094 := o1094.go l
     replace h1097 := h1097.go l
     replace o1098 := o1098.go l
     replace h1218 := h1218.go l
     replace o1219 := o1219.go l
     replace h1230 := h1230.go l
     replace o1231 := o1231.go l
     replace K776 := K776.thru l
     replace K778 := K778.thru l
     replace K937 := K937.thru l
     replace K952 := K952.thru l
     refine x_end ?_
     refine x_tn ?_
     refine ⟨.inl l, ?_⟩
     exact H1728 b1345 v1216 b1217 v1228 b1229 _ _ (F.sub (sc rfl (sc rfl (sc rfl (sc rfl (sc rfl (sc rfl (sc rfl (sc rfl (sc rfl (sc rfl sn))))))))))) hB h783 o784 h789 o790 h1093 o1094 h1097 o1098 CK1346 h1218 o1219 h1230 o1231 K776 K778 K937 K952 K1346 d1220 (Dj.symm d1220) d1221 (Dj.symm d1221) d1222 (Dj.symm d1222) d1223 (Dj.symm d1223) d1224 (Dj.symm d1224) d1225 (Dj.symm d1225) d1226 (Dj.symm d1226) d1227 (Dj.symm d1227) d1232 (Dj.symm d1232) d1233 (Dj.symm d1233) d1234 (Dj.symm d1234) d1235 (Dj.symm d1235) d1236 (Dj.symm d1236) d1237 (Dj.symm d1237) d1238 (Dj.symm d1238) d1239 (Dj.symm d1239) d1240 (Dj.symm d1240) d1351 d1352 d1353 d1354 d1355 d1356 (Ne.symm nb1347) (Ne.symm nb1348) (Ne.symm nb1349) (Ne.symm nb1350) _ (by kernel_rfl)
    refine o_alloc Tryz.zeroValue60 F rfl rfl (fun a w b1357 K1358 l BK1358 F => ?_)
    have nb1359 := Dj.bb K776 BK1358
    have nb1360 := Dj.bb K778 BK1358
    have nb1361 := Dj.bb K937 BK1358
    have nb1362 := Dj.bb K952 BK1358
    have d1363 := (dj1 h783.m BK1358).symm
    have d1364 := (dj1 h789.m BK1358).symm
    have d1365 := (dj1 h1093.m BK1358).symm
    have d1366 := (dj1 h1097.m BK1358).symm
    have d1367 := (dj1 h1218.m BK1358).symm
    have d1368 := (dj1 h1230.m BK1358).symm
    have CK1358 := Nat.le_trans hB.size BK1358
    replace hB := Below.through l hB
    replace h783 := h783.go l
    replace o784 := o784.go l
    replace h789 := h789.go l
    replace o790 := o790.go l
    replace h1093 := h1093.go l
    replace o1094 := o1094.go l
    replace h1097 := h1097.go l
    replace o1098 := o1098.go l
    replace h1218 := h1218.go l
    replace o1219 := o1219.go l
    replace h1230 := h1230.go l
    replace o1231 := o1231.go l
    replace K776 := K776.thru l
    replace K778 := K778.thru l
    replace K937 := K937.thru l
    replace K952 := K952.thru l
    refine x_end ?_
    refine x_tn ?_
    refine ⟨.inl l, ?_⟩
    exact H1811 b1357 v1216 b1217 v1228 b1229 _ _ (F.sub (sc rfl (sc rfl (sc rfl (sc rfl (sc rfl (sc rfl (sc rfl (sc rfl (sc rfl (sc rfl sn))))))))))) hB h783 o784 h789 o790 h1093 o1094 h1097 o1098 CK1358 h1218 o1219 h1230 o1231 K776 K778 K937 K952 K1358 d1220 (Dj.symm d1220) d1221 (Dj.symm d1221) d1222 (Dj.symm d1222) d1223 (Dj.symm d1223) d1224 (Dj.symm d1224) d1225 (Dj.symm d1225) d1226 (Dj.symm d1226) d1227 (Dj.symm d1227) d1232 (Dj.symm d1232) d1233 (Dj.symm d1233) d1234 (Dj.symm d1234) d1235 (Dj.symm d1235) d1236 (Dj.symm d1236) d1237 (Dj.symm d1237) d1238 (Dj.symm d1238) d1239 (Dj.symm d1239) d1240 (Dj.symm d1240) d1363 d1364 d1365 d1366 d1367 d1368 (Ne.symm nb1359) (Ne.symm nb1360) (Ne.symm nb1361) (Ne.symm nb1362) _ (by kernel_rfl)
   ·
    refine o_alloc Tryz.zeroValue33 F rfl rfl (fun a w b1369 K1370 l BK1370 F => ?_)
    have nb1371 := Dj.bb K776 BK1370
    have nb1372 := Dj.bb K778 BK1370
    have nb1373 := Dj.bb K937 BK1370
    have nb1374 := Dj.bb K952 BK1370
    have d1375 := (dj1 h783.m BK1370).symm
    have d1376 := (dj1 h789.m BK1370).symm
    have d1377 := (dj1 h1093.m BK1370).symm
    have d1378 := (dj1 h1097.m BK1370).symm
    have d1379 := (dj1 h1218.m BK1370).symm
    have CK1370 := Nat.le_trans hB.size BK1370
    replace hB := Below.through l hB
    replace h783 := h783.go l
    replace o784 := o784.go l
    replace h789 := h789.go l
    replace o790 := o790.go l
    replace h1093 := h1093.go l
    replace o1094 := o1094.go l
    replace h1097 := h1097.go l
    replace o1098 := o1098.go l
    replace h1218 := h1218.go l
    replace o1219 := o1219.go l
    replace K776 := K776.thru l
    replace K778 := K778.thru l
    replace K937 := K937.thru l
    replace K952 := K952.thru l
    refine x_end ?_
    refine x_tn ?_
    refine ⟨.inl l, ?_⟩
    exact H1530 b1369 v1216 b1217 _ _ (F.sub (sc rfl (sc rfl (sc rfl (sc rfl (sc rfl (sc rfl (sc rfl (sc rfl (sc rfl (sc rfl sn))))))))))) hB h783 o784 h789 o790 h1093 o1094 h1097 o1098 CK1370 h1218 o1219 K776 K778 K937 K952 K1370 d1220 (Dj.symm d1220) d1221 (Dj.symm d1221) d1222 (Dj.symm d1222) d1223 (Dj.symm d1223) d1224 (Dj.symm d1224) d1225 (Dj.symm d1225) d1226 (Dj.symm d1226) d1227 (Dj.symm d1227) d1375 d1376 d1377 d1378 d1379 (Ne.symm nb1371) (Ne.symm nb1372) (Ne.symm nb1373) (Ne.symm nb1374) _ (by kernel_rfl)
   refine o_alloc Tryz.zeroValue60 F rfl rfl (fun a w b1380 K1381 l BK1381 F => ?_)
   have nb1382 := Dj.bb K776 BK1381
   have nb1383 := Dj.bb K778 BK1381
   have nb1384 := Dj.bb K937 BK1381
   have nb1385 := Dj.bb K952 BK1381
   have d1386 := (dj1 h783.m BK1381).symm
   have d1387 := (dj1 h789.m BK1381).symm
   have d1388 := (dj1 h1093.m BK1381).symm
   have d1389 := (dj1 h1097.m BK1381).symm
   have d1390 := (dj1 h1218.m BK1381).symm
   have CK1381 := Nat.le_trans hB.size BK1381
   replace hB := Below.through l hB
   replace h783 := h783.go l
   replace o784 := o784.go l
   replace h789 := h789.go l
   replace o790 := o790.go l
   replace h1093 := h1093.go l
   replace o1094 := o1094.go l
   replace h1097 := h1097.go l
   replace o1098 := o1098.go l
   replace h1218 := h1218.go l
   replace o1219 := o1219.go l
   replace K776 := K776.thru l
   replace K778 := K778.thru l
   replace K937 := K937.thru l
   replace K952 := K952.thru l
   refine x_end ?_
   refine x_tn ?_
   refine ⟨.inl l, ?_⟩
   exact H1588 b1380 v1216 b1217 _ _ (F.sub (sc rfl (sc rfl (sc rfl (sc rfl (sc rfl (sc rfl (sc rfl (sc rfl (sc rfl (sc rfl sn))))))))))) hB h783 o784 h789 o790 h1093 o1094 h1097 o1098 CK1381 h1218 o1219 K776 K778 K937 K952 K1381 d1220 (Dj.symm d1220) d1221 (Dj.symm d1221) d1222 (Dj.symm d1222) d1223 (Dj.symm d1223) d1224 (Dj.symm d1224) d1225 (Dj.symm d1225) d1226 (Dj.symm d1226) d1227 (Dj.symm d1227) d1386 d1387 d1388 d1389 d1390 (Ne.symm nb1382) (Ne.symm nb1383) (Ne.symm nb1384) (Ne.symm nb1385) _ (by kernel_rfl)
  ·
   refine o_alloc Tryz.zeroValue33 F rfl rfl (fun a w b1391 K1392 l BK1392 F => ?_)
   have nb1393 := Dj.bb K12 BK1392
   have nb1394 := Dj.bb K19 BK1392
   have nb1395 := Dj.bb K776 BK1392
   have nb1396 := Dj.bb K778 BK1392
   have nb1397 := Dj.bb K937 BK1392
   have nb1398 := Dj.bb K952 BK1392
   have d1399 := (dj1 h783.m BK1392).symm
   have d1400 := (dj1 h789.m BK1392).symm
   have d1401 := (dj1 h1093.m BK1392).symm
   have d1402 := (dj1 h1097.m BK1392).symm
   have CK1392 := Nat.le_trans hB.size BK1392
   replace hB := Below.through l hB
   replace h783 := h783.go l
   replace o784 := o784.go l
   replace h789 := h789.go l
   replace o790 := o790.go l
   replace h1093 := h1093.go l
   replace o1094 := o1094.go l
   replace h1097 := h1097.go l
   replace o1098 := o1098.go l
   replace K776 := K776.thru l
   replace K778 := K778.thru l
   replace K937 := K937.thru l
   replace K952 := K952.thru l
   refine x_end ?_
   refine x_tn ?_
   refine ⟨.inl l, ?_⟩
   refine b_es [1, 12] (by kernel_rfl) (by simp) ⟨⟨_, rfl, ?_⟩, ⟨_, rfl, ?_⟩, trivial⟩
   ·
    refine o_toA F rfl Tryz.call15 rfl (toTemplate_any _ _ _ _ (A0.go hB).r (A0.go hB).m (toq_some c36)) (fun a v1403 b1404 w l h1405 o1406 F => ?_)
    have d1407 := Dj.new h783.m o1406 (Nat.le_refl _)
    have d1408 := Dj.new h789.m o1406 (Nat.le_refl _)
    have d1409 := Dj.new h1093.m o1406 (Nat.le_refl _)
    have d1410 := Dj.new h1097.m o1406 (Nat.le_refl _)
    have d1411 := Dj.new (inm1 K776) o1406 (Nat.le_refl _)
    have d1412 := Dj.new (inm1 K778) o1406 (Nat.le_refl _)
    have d1413 := Dj.new (inm1 K937) o1406 (Nat.le_refl _)
    have d1414 := Dj.new (inm1 K952) o1406 (Nat.le_refl _)
    have d1415 := Dj.new (inm1 K1392) o1406 (Nat.le_refl _)
    replace o1406 := o1406.mono hB.size
    replace hB := Below.through l hB
    replace h783 := h783.go l
    replace o784 := o784.go l
    replace h789 := h789.go l
    replace o790 := o790.go l
    replace h1093 := h1093.go l
    replace o1094 := o1094.go l
    replace h1097 := h1097.go l
    replace o1098 := o1098.go l
    replace K776 := K776.thru l
    replace K778 := K778.thru l
    replace K937 := K937.thru l
    replace K952 := K952.thru l
    replace K1392 := K1392.thru l
    refine x_end ?_
    refine x_tn ?_
    refine ⟨.inl l, ?_⟩
    exact H1530 b1391 v1403 b1404 _ _ (F.sub (sc rfl (sc rfl (sc rfl (sc rfl (sc rfl (sc rfl (sc rfl (sc rfl (sc rfl (sc rfl sn))))))))))) hB h783 o784 h789 o790 h1093 o1094 h1097 o1098 CK1392 h1405 o1406 K776 K778 K937 K952 K1392 d1407 (Dj.symm d1407) d1408 (Dj.symm d1408) d1409 (Dj.symm d1409) d1410 (Dj.symm d1410) d1411 (Dj.symm d1411) d1412 (Dj.symm d1412) d1413 (Dj.symm d1413) d1414 (Dj.symm d1414) d1399 d1400 d1401 d1402 (Dj.symm d1415) (Ne.symm nb1395) (Ne.symm nb1396) (Ne.symm nb1397) (Ne.symm nb1398) _ (by kernel_rfl)
   refine o_alloc Tryz.zeroValue60 F rfl rfl (fun a w b1416 K1417 l BK1417 F => ?_)
   have nb1418 := Dj.bb K776 BK1417
   have nb1419 := Dj.bb K778 BK1417
   have nb1420 := Dj.bb K937 BK1417
   have nb1421 := Dj.bb K952 BK1417
   have nb1422 := Dj.bb K1392 BK1417
   have d1423 := (dj1 h783.m BK1417).symm
   have d1424 := (dj1 h789.m BK1417).symm
   have d1425 := (dj1 h1093.m BK1417).symm
   have d1426 := (dj1 h1097.m BK1417).symm
   have CK1417 := Nat.le_trans hB.size BK1417
   replace hB := Below.through l hB
   replace h783 := h783.go l
   replace o784 := o784.go l
   replace h789 := h789.go l
   replace o790 := o790.go l
   replace h1093 := h1093.go l
   replace o1094 := o1094.go l
   replace h1097 := h1097.go l
   replace o1098 := o1098.go l
   replace K776 := K776.thru l
   replace K778 := K778.thru l
   replace K937 := K937.thru l
   replace K952 := K952.thru l
   replace K1392 := K1392.thru l
   refine x_end ?_
   refine x_tn ?_
   refine ⟨.inl l, ?_⟩
   exact H1484 b1391 b1416 _ _ (F.sub (sc rfl (sc rfl (sc rfl (sc rfl (sc rfl (sc rfl (sc rfl (sc rfl (sc rfl (sc rfl (sc rfl sn)))))))))))) hB h783 o784 h789 o790 h1093 o1094 h1097 o1098 CK1392 CK1417 K776 K778 K937 K952 K1392 K1417 d1399 d1400 d1401 d1402 d1423 d1424 d1425 d1426 (Ne.symm nb1395) (Ne.symm nb1396) (Ne.symm nb1397) (Ne.symm nb1398) nb1422 (Ne.symm nb1418) (Ne.symm nb1419) (Ne.symm nb1420) (Ne.symm nb1421) _ (by kernel_rfl)
  refine o_alloc Tryz.zeroValue60 F rfl rfl (fun a w b1427 K1428 l BK1428 F => ?_)
  have nb1429 := Dj.bb K12 BK1428
  have nb1430 := Dj.bb K19 BK1428
  have nb1431 := Dj.bb K776 BK1428
  have nb1432 := Dj.bb K778 BK1428
  have nb1433 := Dj.bb K937 BK1428
  have nb1434 := Dj.bb K952 BK1428
  have d1435 := (dj1 h783.m BK1428).symm
  have d1436 := (dj1 h789.m BK1428).symm
  have d1437 := (dj1 h1093.m BK1428).symm
  have d1438 := (dj1 h1097.m BK1428).symm
  have CK1428 := Nat.le_trans hB.size BK1428
  replace hB := Below.through l hB
  replace h783 := h783.go l
  replace o784 := o784.go l
  replace h789 := h789.go l
  replace o790 := o790.go l
  replace h1093 := h1093.go l
  replace o1094 := o1094.go l
  replace h1097 := h1097.go l
  replace o1098 := o1098.go l
  replace K776 := K776.thru l
  replace K778 := K778.thru l
  replace K937 := K937.thru l
  replace K952 := K952.thru l
  refine x_end ?_
  refine x_tn ?_
  refine ⟨.inl l, ?_⟩
  refine b_es [1, 11] (by kernel_rfl) (by simp) ⟨⟨_, rfl, ?_⟩, ⟨_, rfl, ?_⟩, trivial⟩
  ·
   refine o_toA F rfl Tryz.call15 rfl (toTemplate_any _ _ _ _ (A0.go hB).r (A0.go hB).m (toq_some c36)) (fun a v1439 b1440 w l h1441 o1442 F => ?_)
   have d1443 := Dj.new h783.m o1442 (Nat.le_refl _)
   have d1444 := Dj.new h789.m o1442 (Nat.le_refl _)
   have d1445 := Dj.new h1093.m o1442 (Nat.le_refl _)
   have d1446 := Dj.new h1097.m o1442 (Nat.le_refl _)
   have d1447 := Dj.new (inm1 K776) o1442 (Nat.le_refl _)
   have d1448 := Dj.new (inm1 K778) o1442 (Nat.le_refl _)
   have d1449 := Dj.new (inm1 K937) o1442 (Nat.le_refl _)
   have d1450 := Dj.new (inm1 K952) o1442 (Nat.le_refl _)
   have d1451 := Dj.new (inm1 K1428) o1442 (Nat.le_refl _)
   replace o1442 := o1442.mono hB.size
   replace hB := Below.through l hB
   replace h783 := h783.go l
   replace o784 := o784.go l
   replace h789 := h789.go l
   replace o790 := o790.go l
   replace h1093 := h1093.go l
   replace o1094 := o1094.go l
   replace h1097 := h1097.go l
   replace o1098 := o1098.go l
   replace K776 := K776.thru l
   replace K778 := K778.thru l
   replace K937 := K937.thru l
   replace K952 := K952.thru l
   replace K1428 := K1428.thru l
   refine x_end ?_
   refine x_tn ?_
   refine ⟨.inl l, ?_⟩
   exact H1588 b1427 v1439 b1440 _ _ (F.sub (sc rfl (sc rfl (sc rfl (sc rfl (sc rfl (sc rfl (sc rfl (sc rfl (sc rfl (sc rfl sn))))))))))) hB h783 o784 h789 o790 h1093 o1094 h1097 o1098 CK1428 h1441 o1442 K776 K778 K937 K952 K1428 d1443 (Dj.symm d1443) d1444 (Dj.symm d1444) d1445 (Dj.symm d1445) d1446 (Dj.symm d1446) d1447 (Dj.symm d1447) d1448 (Dj.symm d1448) d1449 (Dj.symm d1449) d1450 (Dj.symm d1450) d1435 d1436 d1437 d1438 (Dj.symm d1451) (Ne.symm nb1431) (Ne.symm nb1432) (Ne.symm nb1433) (Ne.symm nb1434) _ (by kernel_rfl)
  refine o_alloc Tryz.zeroValue33 F rfl rfl (fun a w b1452 K1453 l BK1453 F => ?_)
  have nb1454 := Dj.bb K776 BK1453
  have nb1455 := Dj.bb K778 BK1453
  have nb1456 := Dj.bb K937 BK1453
  have nb1457 := Dj.bb K952 BK1453
  have nb1458 := Dj.bb K1428 BK1453
  have d1459 := (dj1 h783.m BK1453).symm
  have d1460 := (dj1 h789.m BK1453).symm
  have d1461 := (dj1 h1093.m BK1453).symm
  have d1462 := (dj1 h1097.m BK1453).symm
  have CK1453 := Nat.le_trans hB.size BK1453
  replace hB := Below.through l hB
  replace h783 := h783.go l
  replace o784 := o784.go l
  replace h789 := h789.go l
  replace o790 := o790.go l
  replace h1093 := h1093.go l
  replace o1094 := o1094.go l
  replace h1097 := h1097.go l
  replace o1098 := o1098.go l
  replace K776 := K776.thru l
  replace K778 := K778.thru l
  replace K937 := K937.thru l
  replace K952 := K952.thru l
  replace K1428 := K1428.thru l
  refine x_end ?_
  refine x_tn ?_
  refine ⟨.inl l, ?_⟩
  exact H1484 b1452 b1427 _ _ (F.sub (sc rfl (sc rfl (sc rfl (sc rfl (sc rfl (sc rfl (sc rfl (sc rfl (sc rfl (sc rfl (sc rfl sn)))))))))))) hB h783 o784 h789 o790 h1093 o1094 h1097 o1098 CK1453 CK1428 K776 K778 K937 K952 K1453 K1428 d1459 d1460 d1461 d1462 d1435 d1436 d1437 d1438 (Ne.symm nb1454) (Ne.symm nb1455) (Ne.symm nb1456) (Ne.symm nb1457) (Ne.symm nb1458) (Ne.symm nb1431) (Ne.symm nb1432) (Ne.symm nb1433) (Ne.symm nb1434) _ (by kernel_rfl)
 refine dp (fun G => ∀ (b738 : Nat) (v741 : Value) (b743 : List Nat) (v747 : Value) (b749 : List Nat) (a : Act) (w : World), Sk a 179 [(2, v2), (3, .pointer (some ⟨b11, 0, none⟩)), (4, .pointer (some ⟨b18, 0, none⟩)), (8, .pointer (some ⟨b738, 0, none⟩)), (46, (.agg #[.int .i64 z62.1.size, v741])), (47, (.agg #[.int .i64 z62.2.1.vars, v747])), (48, .int .i64 z62.2.2)] → Below w0.heap.size w0 w → w0.heap.size ≤ b738 → I64 z62.1.size → v741.oneCell' = true → Rd (Agg 2 RTemplate) w (.agg #[.int .i64 z62.1.size, v741]) z62.1 b743 → Own w0.heap.size b743 w → I64 z62.2.1.vars → v747.oneCell' = true → Rd (Agg 2 RInstance) w (.agg #[.int .i64 z62.2.1.vars, v747]) z62.2.1 b749 → Own w0.heap.size b749 w → I64 z62.2.2 → Blk w b11 #[.int .i64 x0.size, v14] 24 → Blk w b18 #[.int .i64 x1.vars, v21] 54 → Blk w b738 #[.int .i64 0, (.slice none 0 0)] 33 → Dj [b11] b743 → Dj b743 ([b11]) → Dj [b18] b743 → Dj b743 ([b18]) → Dj [b11] b749 → Dj b749 ([b11]) → Dj [b18] b749 → Dj b749 ([b18]) → Dj b743 b749 → Dj b749 b743 → Dj b743 ([b738]) → Dj b749 ([b738]) → b11 ≠ b738 → b18 ≠ b738 → ∀ ls, ls = #[true, true, true, true, true, true, true, true, true, true, true, true, false, false, false, false] → G 4 ls a w) ?_ (fun H767 => ?_)
 ·
  intro b738 v741 b743 v747 b749 a w F hB CK739 i740 o742 h744 o745 i746 o748 h750 o751 i752 K12 K19 K739 d753 d754 d755 d756 d757 d758 d759 d760 d761 d762 d763 d764 nb765 nb766 ls hls
  subst hls
  refine b_e 12 rfl (by kernel_rfl) ?_
  refine o_alloc Tryz.zeroValue60 F rfl rfl (fun a w b768 K769 l BK769 F => ?_)
  have nb770 := Dj.bb K12 BK769
  have nb771 := Dj.bb K19 BK769
  have nb772 := Dj.bb K739 BK769
  have d773 := (dj1 h744.m BK769).symm
  have d774 := (dj1 h750.m BK769).symm
  have CK769 := Nat.le_trans hB.size BK769
  replace hB := Below.through l hB
  replace h744 := h744.go l
  replace o745 := o745.go l
  replace h750 := h750.go l
  replace o751 := o751.go l
  replace K12 := K12.thru l
  replace K19 := K19.thru l
  replace K739 := K739.thru l
  refine x_end ?_
  refine x_tn ?_
  refine ⟨.inl l, ?_⟩
  exact H811 b738 b768 v741 b743 v747 b749 _ _ (F.sub (sc rfl (sc rfl (sc rfl (sc rfl (sc rfl (sc rfl (sc rfl (sc rfl sn))))))))) hB CK739 CK769 i740 o742 h744 o745 i746 o748 h750 o751 i752 K12 K19 K739 K769 d753 d754 d755 d756 d763 d773 d757 d758 d759 d760 d764 d774 d761 d762 nb765 nb770 nb766 nb771 nb772 _ (by kernel_rfl)
 refine dp (fun G => ∀ (b701 : Nat) (v704 : Value) (b706 : List Nat) (v710 : Value) (b712 : List Nat) (a : Act) (w : World), Sk a 179 [(2, v2), (3, .pointer (some ⟨b11, 0, none⟩)), (4, .pointer (some ⟨b18, 0, none⟩)), (9, .pointer (some ⟨b701, 0, none⟩)), (46, (.agg #[.int .i64 z62.1.size, v704])), (47, (.agg #[.int .i64 z62.2.1.vars, v710])), (48, .int .i64 z62.2.2)] → Below w0.heap.size w0 w → w0.heap.size ≤ b701 → I64 z62.1.size → v704.oneCell' = true → Rd (Agg 2 RTemplate) w (.agg #[.int .i64 z62.1.size, v704]) z62.1 b706 → Own w0.heap.size b706 w → I64 z62.2.1.vars → v710.oneCell' = true → Rd (Agg 2 RInstance) w (.agg #[.int .i64 z62.2.1.vars, v710]) z62.2.1 b712 → Own w0.heap.size b712 w → I64 z62.2.2 → Blk w b11 #[.int .i64 x0.size, v14] 24 → Blk w b18 #[.int .i64 x1.vars, v21] 54 → Blk w b701 #[.int .i64 0, (.slice none 0 0)] 60 → Dj [b11] b706 → Dj b706 ([b11]) → Dj [b18] b706 → Dj b706 ([b18]) → Dj [b11] b712 → Dj b712 ([b11]) → Dj [b18] b712 → Dj b712 ([b18]) → Dj b706 b712 → Dj b712 b706 → Dj b706 ([b701]) → Dj b712 ([b701]) → b11 ≠ b701 → b18 ≠ b701 → ∀ ls, ls = #[true, true, true, true, true, true, true, true, true, true, true, false, true, false, false, false] → G 4 ls a w) ?_ (fun H730 => ?_)
 ·
  intro b701 v704 b706 v710 b712 a w F hB CK702 i703 o705 h707 o708 i709 o711 h713 o714 i715 K12 K19 K702 d716 d717 d718 d719 d720 d721 d722 d723 d724 d725 d726 d727 nb728 nb729 ls hls
  subst hls
  refine b_e 11 rfl (by kernel_rfl) ?_
  refine o_alloc Tryz.zeroValue33 F rfl rfl (fun a w b731 K732 l BK732 F => ?_)
  have nb733 := Dj.bb K12 BK732
  have nb734 := Dj.bb K19 BK732
  have nb735 := Dj.bb K702 BK732
  have d736 := (dj1 h707.m BK732).symm
  have d737 := (dj1 h713.m BK732).symm
  have CK732 := Nat.le_trans hB.size BK732
  replace hB := Below.through l hB
  replace h707 := h707.go l
  replace o708 := o708.go l
  replace h713 := h713.go l
  replace o714 := o714.go l
  replace K12 := K12.thru l
  replace K19 := K19.thru l
  replace K702 := K702.thru l
  refine x_end ?_
  refine x_tn ?_
  refine ⟨.inl l, ?_⟩
  exact H811 b731 b701 v704 b706 v710 b712 _ _ (F.sub (sc rfl (sc rfl (sc rfl (sc rfl (sc rfl (sc rfl (sc rfl (sc rfl sn))))))))) hB CK732 CK702 i703 o705 h707 o708 i709 o711 h713 o714 i715 K12 K19 K732 K702 d716 d717 d718 d719 d736 d726 d720 d721 d722 d723 d737 d727 d724 d725 nb733 nb728 nb734 nb729 (Ne.symm nb735) _ (by kernel_rfl)
 refine dp (fun G => ∀ (b623 : Nat) (b625 : Nat) (v627 : Value) (b628 : List Nat) (v631 : Value) (b632 : List Nat) (v635 : Value) (b636 : List Nat) (a : Act) (w : World), Sk a 179 [(2, v2), (3, .pointer (some ⟨b11, 0, none⟩)), (4, .pointer (some ⟨b18, 0, none⟩)), (8, .pointer (some ⟨b623, 0, none⟩)), (9, .pointer (some ⟨b625, 0, none⟩)), (40, v627), (42, v631), (44, v635)] → Below w0.heap.size w0 w → w0.heap.size ≤ b623 → w0.heap.size ≤ b625 → Rd (Agg 2 RTemplate) w v627 x0 b628 → Own w0.heap.size b628 w → Rd (Agg 2 RInstance) w v631 x1 b632 → Own w0.heap.size b632 w → Rd (Sl 1 RLits) w v635 x2 b636 → Own w0.heap.size b636 w → Blk w b11 #[.int .i64 x0.size, v14] 24 → Blk w b18 #[.int .i64 x1.vars, v21] 54 → Blk w b623 #[.int .i64 0, (.slice none 0 0)] 33 → Blk w b625 #[.int .i64 0, (.slice none 0 0)] 60 → Dj [b11] b628 → Dj b628 ([b11]) → Dj [b18] b628 → Dj b628 ([b18]) → Dj b628 b632 → Dj b632 b628 → Dj [b11] b632 → Dj b632 ([b11]) → Dj [b18] b632 → Dj b632 ([b18]) → Dj b628 b636 → Dj b636 b628 → Dj b632 b636 → Dj b636 b632 → Dj [b11] b636 → Dj b636 ([b11]) → Dj [b18] b636 → Dj b636 ([b18]) → Dj b628 ([b625]) → Dj b632 ([b625]) → Dj b636 ([b625]) → Dj b628 ([b623]) → Dj b632 ([b623]) → Dj b636 ([b623]) → b11 ≠ b623 → b11 ≠ b625 → b18 ≠ b623 → b18 ≠ b625 → b623 ≠ b625 → ∀ ls, ls = #[true, true, true, true, true, true, false, false, false, false, false, true, true, false, false, false] → G 8 ls a w) ?_ (fun H668 => ?_)
 ·
  intro b623 b625 v627 b628 v631 b632 v635 b636 a w F hB CK624 CK626 h629 o630 h633 o634 h637 o638 K12 K19 K624 K626 d639 d640 d641 d642 d643 d644 d645 d646 d647 d648 d649 d650 d651 d652 d653 d654 d655 d656 d657 d658 d659 d660 d661 d662 nb663 nb664 nb665 nb666 nb667 ls hls
  subst hls
  refine b_e 6 rfl (by kernel_rfl) ?_
  refine o_gives F rfl Tryz.call32 rfl (spec_AddNoGoods_c z62 c63 _ h629 h633 h637) (fun a vv w l ⟨v670, rb671, ib672, v676, rb677, ib678, hv682, i669, h673, ow674, i675, h679, ow680, i681, dj683⟩ F => ?_)
  subst vv
  have o685 := h673.own ow674
  have h684 := h673.rd
  have o687 := h679.own ow680
  have h686 := h679.rd
  have h688 := RTemplate.mk2 (w := w) i669 h684
  have o689 := o685
  have h690 := RInstance.mk2 (w := w) i675 h686
  have o691 := o687
  have d692 := Dj.new (inm1 K12) o689 (Nat.le_refl _)
  have d693 := Dj.new (inm1 K19) o689 (Nat.le_refl _)
  have d694 := Dj.new (inm1 K624) o689 (Nat.le_refl _)
  have d695 := Dj.new (inm1 K626) o689 (Nat.le_refl _)
  replace o689 := o689.mono hB.size
  have d696 := Dj.new (inm1 K12) o691 (Nat.le_refl _)
  have d697 := Dj.new (inm1 K19) o691 (Nat.le_refl _)
  have d698 := Dj.new (inm1 K624) o691 (Nat.le_refl _)
  have d699 := Dj.new (inm1 K626) o691 (Nat.le_refl _)
  replace o691 := o691.mono hB.size
  have d700 : Dj ((rb671 ++ ib672)) ((rb677 ++ ib678)) := dj683
  replace hB := Below.through l hB
  replace K12 := K12.thru l
  replace K19 := K19.thru l
  replace K624 := K624.thru l
  replace K626 := K626.thru l
  refine x_end ?_
  refine x_tn ?_
  refine ⟨.inl l, ?_⟩
  refine b_q0 7 rfl (by kernel_rfl) (by kernel_rfl) (by kernel_rfl) ?_
  refine v_val F rfl (fun w l => r_move F rfl) (fun a F => ?_)
  refine b_q0 8 rfl (by kernel_rfl) (by kernel_rfl) (by kernel_rfl) ?_
  refine v_val F rfl (fun w l => r_extract F rfl rfl) (fun a F => ?_)
  refine b_q0 9 rfl (by kernel_rfl) (by kernel_rfl) (by kernel_rfl) ?_
  refine v_val F rfl (fun w l => r_extract F rfl rfl) (fun a F => ?_)
  refine b_q0 10 rfl (by kernel_rfl) (by kernel_rfl) (by kernel_rfl) ?_
  refine v_val F rfl (fun w l => r_extract F rfl rfl) (fun a F => ?_)
  exact H811 b623 b625 v670 ((rb671 ++ ib672)) v676 ((rb677 ++ ib678)) _ _ (F.sub (sc rfl (sc rfl (sc rfl (sc rfl (sc rfl (sc rfl (sc rfl (sc rfl sn))))))))) hB CK624 CK626 i669 h684.r.one h688 o689 i675 h686.r.one h690 o691 i681 K12 K19 K624 K626 d692 (Dj.symm d692) d693 (Dj.symm d693) (Dj.symm d694) (Dj.symm d695) d696 (Dj.symm d696) d697 (Dj.symm d697) (Dj.symm d698) (Dj.symm d699) d700 (Dj.symm d700) nb663 nb664 nb665 nb666 nb667 _ (by kernel_rfl)
 refine dp (fun G => ∀ (b581 : Nat) (b583 : Nat) (v585 : Value) (b586 : List Nat) (v589 : Value) (b590 : List Nat) (a : Act) (w : World), Sk a 179 [(2, v2), (3, .pointer (some ⟨b11, 0, none⟩)), (4, .pointer (some ⟨b18, 0, none⟩)), (8, .pointer (some ⟨b581, 0, none⟩)), (9, .pointer (some ⟨b583, 0, none⟩)), (40, v585), (42, v589), (43, v2)] → Below w0.heap.size w0 w → w0.heap.size ≤ b581 → w0.heap.size ≤ b583 → Rd (Agg 2 RTemplate) w v585 x0 b586 → Own w0.heap.size b586 w → Rd (Agg 2 RInstance) w v589 x1 b590 → Own w0.heap.size b590 w → Blk w b11 #[.int .i64 x0.size, v14] 24 → Blk w b18 #[.int .i64 x1.vars, v21] 54 → Blk w b581 #[.int .i64 0, (.slice none 0 0)] 33 → Blk w b583 #[.int .i64 0, (.slice none 0 0)] 60 → Dj [b11] b586 → Dj b586 ([b11]) → Dj [b18] b586 → Dj b586 ([b18]) → Dj b586 ([b581]) → Dj b586 ([b583]) → Dj b586 b590 → Dj b590 b586 → Dj [b11] b590 → Dj b590 ([b11]) → Dj [b18] b590 → Dj b590 ([b18]) → Dj b590 ([b581]) → Dj b590 ([b583]) → b11 ≠ b581 → b11 ≠ b583 → b18 ≠ b581 → b18 ≠ b583 → b581 ≠ b583 → ∀ ls, ls = #[true, true, true, true, true, false, false, false, false, false, false, true, true, false, false, false] → G 9 ls a w) ?_ (fun H612 => ?_)
 ·
  intro b581 b583 v585 b586 v589 b590 a w F hB CK582 CK584 h587 o588 h591 o592 K12 K19 K582 K584 d593 d594 d595 d596 d597 d598 d599 d600 d601 d602 d603 d604 d605 d606 nb607 nb608 nb609 nb610 nb611 ls hls
  subst hls
  refine b_e 5 rfl (by kernel_rfl) ?_
  refine o_toS F rfl Tryz.call34 rfl (toLiteralSS_any _ _ _ _ (A2.go hB).r (A2.go hB).m (toq_some c53)) (fun a v613 b614 w l h615 o616 F => ?_)
  have d617 := Dj.new h587.m o616 (Nat.le_refl _)
  have d618 := Dj.new h591.m o616 (Nat.le_refl _)
  have d619 := Dj.new (inm1 K12) o616 (Nat.le_refl _)
  have d620 := Dj.new (inm1 K19) o616 (Nat.le_refl _)
  have d621 := Dj.new (inm1 K582) o616 (Nat.le_refl _)
  have d622 := Dj.new (inm1 K584) o616 (Nat.le_refl _)
  replace o616 := o616.mono hB.size
  replace hB := Below.through l hB
  replace h587 := h587.go l
  replace o588 := o588.go l
  replace h591 := h591.go l
  replace o592 := o592.go l
  replace K12 := K12.thru l
  replace K19 := K19.thru l
  replace K582 := K582.thru l
  replace K584 := K584.thru l
  refine x_end ?_
  refine x_tn ?_
  refine ⟨.inl l, ?_⟩
  exact H668 b581 b583 v585 b586 v589 b590 v613 b614 _ _ (F.sub (sc rfl (sc rfl (sc rfl (sc rfl (sc rfl (sc rfl (sc rfl (sc rfl sn))))))))) hB CK582 CK584 h587 o588 h591 o592 h615 o616 K12 K19 K582 K584 d593 d594 d595 d596 d599 d600 d601 d602 d603 d604 d617 (Dj.symm d617) d618 (Dj.symm d618) d619 (Dj.symm d619) d620 (Dj.symm d620) d598 d606 (Dj.symm d622) d597 d605 (Dj.symm d621) nb607 nb608 nb609 nb610 nb611 _ (by kernel_rfl)
 refine dp (fun G => ∀ (b505 : Nat) (v507 : Value) (b508 : List Nat) (v511 : Value) (b512 : List Nat) (v515 : Value) (b516 : List Nat) (a : Act) (w : World), Sk a 179 [(2, v2), (3, .pointer (some ⟨b11, 0, none⟩)), (4, .pointer (some ⟨b18, 0, none⟩)), (8, .pointer (some ⟨b505, 0, none⟩)), (40, v507), (42, v511), (44, v515)] → Below w0.heap.size w0 w → w0.heap.size ≤ b505 → Rd (Agg 2 RTemplate) w v507 x0 b508 → Own w0.heap.size b508 w → Rd (Agg 2 RInstance) w v511 x1 b512 → Own w0.heap.size b512 w → Rd (Sl 1 RLits) w v515 x2 b516 → Own w0.heap.size b516 w → Blk w b11 #[.int .i64 x0.size, v14] 24 → Blk w b18 #[.int .i64 x1.vars, v21] 54 → Blk w b505 #[.int .i64 0, (.slice none 0 0)] 33 → Dj [b11] b508 → Dj b508 ([b11]) → Dj [b18] b508 → Dj b508 ([b18]) → Dj b508 b512 → Dj b512 b508 → Dj [b11] b512 → Dj b512 ([b11]) → Dj [b18] b512 → Dj b512 ([b18]) → Dj b508 b516 → Dj b516 b508 → Dj b512 b516 → Dj b516 b512 → Dj [b11] b516 → Dj b516 ([b11]) → Dj [b18] b516 → Dj b516 ([b18]) → Dj b508 ([b505]) → Dj b512 ([b505]) → Dj b516 ([b505]) → b11 ≠ b505 → b18 ≠ b505 → ∀ ls, ls = #[true, true, true, true, true, true, false, false, false, false, false, true, false, false, false, false] → G 9 ls a w) ?_ (fun H542 => ?_)
 ·
  intro b505 v507 b508 v511 b512 v515 b516 a w F hB CK506 h509 o510 h513 o514 h517 o518 K12 K19 K506 d519 d520 d521 d522 d523 d524 d525 d526 d527 d528 d529 d530 d531 d532 d533 d534 d535 d536 d537 d538 d539 nb540 nb541 ls hls
  subst hls
  refine b_es [6, 12] (by kernel_rfl) (by simp) ⟨⟨_, rfl, ?_⟩, ⟨_, rfl, ?_⟩, trivial⟩
  ·
   refine o_gives F rfl Tryz.call32 rfl (spec_AddNoGoods_c z62 c63 _ h509 h513 h517) (fun a vv w l ⟨v544, rb545, ib546, v550, rb551, ib552, hv556, i543, h547, ow548, i549, h553, ow554, i555, dj557⟩ F => ?_)
   subst vv
   have o559 := h547.own ow548
   have h558 := h547.rd
   have o561 := h553.own ow554
   have h560 := h553.rd
   have h562 := RTemplate.mk2 (w := w) i543 h558
   have o563 := o559
   have h564 := RInstance.mk2 (w := w) i549 h560
   have o565 := o561
   have d566 := Dj.new (inm1 K12) o563 (Nat.le_refl _)
   have d567 := Dj.new (inm1 K19) o563 (Nat.le_refl _)
   have d568 := Dj.new (inm1 K506) o563 (Nat.le_refl _)
   replace o563 := o563.mono hB.size
   have d569 := Dj.new (inm1 K12) o565 (Nat.le_refl _)
   have d570 := Dj.new (inm1 K19) o565 (Nat.le_refl _)
   have d571 := Dj.new (inm1 K506) o565 (Nat.le_refl _)
   replace o565 := o565.mono hB.size
   have d572 : Dj ((rb545 ++ ib546)) ((rb551 ++ ib552)) := dj557
   replace hB := Below.through l hB
   replace K12 := K12.thru l
   replace K19 := K19.thru l
   replace K506 := K506.thru l
   refine x_end ?_
   refine x_tn ?_
   refine ⟨.inl l, ?_⟩
   refine b_q0 7 rfl (by kernel_rfl) (by kernel_rfl) (by kernel_rfl) ?_
   refine v_val F rfl (fun w l => r_move F rfl) (fun a F => ?_)
   refine b_q0 8 rfl (by kernel_rfl) (by kernel_rfl) (by kernel_rfl) ?_
   refine v_val F rfl (fun w l => r_extract F rfl rfl) (fun a F => ?_)
   refine b_q0 9 rfl (by kernel_rfl) (by kernel_rfl) (by kernel_rfl) ?_
   refine v_val F rfl (fun w l => r_extract F rfl rfl) (fun a F => ?_)
   refine b_q0 10 rfl (by kernel_rfl) (by kernel_rfl) (by kernel_rfl) ?_
   refine v_val F rfl (fun w l => r_extract F rfl rfl) (fun a F => ?_)
   exact H767 b505 v544 ((rb545 ++ ib546)) v550 ((rb551 ++ ib552)) _ _ (F.sub (sc rfl (sc rfl (sc rfl (sc rfl (sc rfl (sc rfl (sc rfl sn)))))))) hB CK506 i543 h558.r.one h562 o563 i549 h560.r.one h564 o565 i555 K12 K19 K506 d566 (Dj.symm d566) d567 (Dj.symm d567) d569 (Dj.symm d569) d570 (Dj.symm d570) d572 (Dj.symm d572) (Dj.symm d568) (Dj.symm d571) nb540 nb541 _ (by kernel_rfl)
  refine o_alloc Tryz.zeroValue60 F rfl rfl (fun a w b573 K574 l BK574 F => ?_)
  have nb575 := Dj.bb K12 BK574
  have nb576 := Dj.bb K19 BK574
  have nb577 := Dj.bb K506 BK574
  have d578 := (dj1 h509.m BK574).symm
  have d579 := (dj1 h513.m BK574).symm
  have d580 := (dj1 h517.m BK574).symm
  have CK574 := Nat.le_trans hB.size BK574
  replace hB := Below.through l hB
  replace h509 := h509.go l
  replace o510 := o510.go l
  replace h513 := h513.go l
  replace o514 := o514.go l
  replace h517 := h517.go l
  replace o518 := o518.go l
  replace K12 := K12.thru l
  replace K19 := K19.thru l
  replace K506 := K506.thru l
  refine x_end ?_
  refine x_tn ?_
  refine ⟨.inl l, ?_⟩
  exact H668 b505 b573 v507 b508 v511 b512 v515 b516 _ _ (F.sub (sc rfl (sc rfl (sc rfl (sc rfl (sc rfl (sc rfl (sc rfl (sc rfl sn))))))))) hB CK506 CK574 h509 o510 h513 o514 h517 o518 K12 K19 K506 K574 d519 d520 d521 d522 d523 d524 d525 d526 d527 d528 d529 d530 d531 d532 d533 d534 d535 d536 d578 d579 d580 d537 d538 d539 nb540 nb575 nb541 nb576 nb577 _ (by kernel_rfl)
 refine dp (fun G => ∀ (b429 : Nat) (v431 : Value) (b432 : List Nat) (v435 : Value) (b436 : List Nat) (v439 : Value) (b440 : List Nat) (a : Act) (w : World), Sk a 179 [(2, v2), (3, .pointer (some ⟨b11, 0, none⟩)), (4, .pointer (some ⟨b18, 0, none⟩)), (9, .pointer (some ⟨b429, 0, none⟩)), (40, v431), (42, v435), (44, v439)] → Below w0.heap.size w0 w → w0.heap.size ≤ b429 → Rd (Agg 2 RTemplate) w v431 x0 b432 → Own w0.heap.size b432 w → Rd (Agg 2 RInstance) w v435 x1 b436 → Own w0.heap.size b436 w → Rd (Sl 1 RLits) w v439 x2 b440 → Own w0.heap.size b440 w → Blk w b11 #[.int .i64 x0.size, v14] 24 → Blk w b18 #[.int .i64 x1.vars, v21] 54 → Blk w b429 #[.int .i64 0, (.slice none 0 0)] 60 → Dj [b11] b432 → Dj b432 ([b11]) → Dj [b18] b432 → Dj b432 ([b18]) → Dj b432 b436 → Dj b436 b432 → Dj [b11] b436 → Dj b436 ([b11]) → Dj [b18] b436 → Dj b436 ([b18]) → Dj b432 b440 → Dj b440 b432 → Dj b436 b440 → Dj b440 b436 → Dj [b11] b440 → Dj b440 ([b11]) → Dj [b18] b440 → Dj b440 ([b18]) → Dj b432 ([b429]) → Dj b436 ([b429]) → Dj b440 ([b429]) → b11 ≠ b429 → b18 ≠ b429 → ∀ ls, ls = #[true, true, true, true, true, true, false, false, false, false, false, false, true, false, false, false] → G 9 ls a w) ?_ (fun H466 => ?_)
 ·
  intro b429 v431 b432 v435 b436 v439 b440 a w F hB CK430 h433 o434 h437 o438 h441 o442 K12 K19 K430 d443 d444 d445 d446 d447 d448 d449 d450 d451 d452 d453 d454 d455 d456 d457 d458 d459 d460 d461 d462 d463 nb464 nb465 ls hls
  subst hls
  refine b_es [6, 11] (by kernel_rfl) (by simp) ⟨⟨_, rfl, ?_⟩, ⟨_, rfl, ?_⟩, trivial⟩
  ·
   refine o_gives F rfl Tryz.call32 rfl (spec_AddNoGoods_c z62 c63 _ h433 h437 h441) (fun a vv w l ⟨v468, rb469, ib470, v474, rb475, ib476, hv480, i467, h471, ow472, i473, h477, ow478, i479, dj481⟩ F => ?_)
   subst vv
   have o483 := h471.own ow472
   have h482 := h471.rd
   have o485 := h477.own ow478
   have h484 := h477.rd
   have h486 := RTemplate.mk2 (w := w) i467 h482
   have o487 := o483
   have h488 := RInstance.mk2 (w := w) i473 h484
   have o489 := o485
   have d490 := Dj.new (inm1 K12) o487 (Nat.le_refl _)
   have d491 := Dj.new (inm1 K19) o487 (Nat.le_refl _)
   have d492 := Dj.new (inm1 K430) o487 (Nat.le_refl _)
   replace o487 := o487.mono hB.size
   have d493 := Dj.new (inm1 K12) o489 (Nat.le_refl _)
   have d494 := Dj.new (inm1 K19) o489 (Nat.le_refl _)
   have d495 := Dj.new (inm1 K430) o489 (Nat.le_refl _)
   replace o489 := o489.mono hB.size
   have d496 : Dj ((rb469 ++ ib470)) ((rb475 ++ ib476)) := dj481
   replace hB := Below.through l hB
   replace K12 := K12.thru l
   replace K19 := K19.thru l
   replace K430 := K430.thru l
   refine x_end ?_
   refine x_tn ?_
   refine ⟨.inl l, ?_⟩
   refine b_q0 7 rfl (by kernel_rfl) (by kernel_rfl) (by kernel_rfl) ?_
   refine v_val F rfl (fun w l => r_move F rfl) (fun a F => ?_)
   refine b_q0 8 rfl (by kernel_rfl) (by kernel_rfl) (by kernel_rfl) ?_
   refine v_val F rfl (fun w l => r_extract F rfl rfl) (fun a F => ?_)
   refine b_q0 9 rfl (by kernel_rfl) (by kernel_rfl) (by kernel_rfl) ?_
   refine v_val F rfl (fun w l => r_extract F rfl rfl) (fun a F => ?_)
   refine b_q0 10 rfl (by kernel_rfl) (by kernel_rfl) (by kernel_rfl) ?_
   refine v_val F rfl (fun w l => r_extract F rfl rfl) (fun a F => ?_)
   exact H730 b429 v468 ((rb469 ++ ib470)) v474 ((rb475 ++ ib476)) _ _ (F.sub (sc rfl (sc rfl (sc rfl (sc rfl (sc rfl (sc rfl (sc rfl sn)))))))) hB CK430 i467 h482.r.one h486 o487 i473 h484.r.one h488 o489 i479 K12 K19 K430 d490 (Dj.symm d490) d491 (Dj.symm d491) d493 (Dj.symm d493) d494 (Dj.symm d494) d496 (Dj.symm d496) (Dj.symm d492) (Dj.symm d495) nb464 nb465 _ (by kernel_rfl)
  refine o_alloc Tryz.zeroValue33 F rfl rfl (fun a w b497 K498 l BK498 F => ?_)
  have nb499 := Dj.bb K12 BK498
  have nb500 := Dj.bb K19 BK498
  have nb501 := Dj.bb K430 BK498
  have d502 := (dj1 h433.m BK498).symm
  have d503 := (dj1 h437.m BK498).symm
  have d504 := (dj1 h441.m BK498).symm
  have CK498 := Nat.le_trans hB.size BK498
  replace hB := Below.through l hB
  replace h433 := h433.go l
  replace o434 := o434.go l
  replace h437 := h437.go l
  replace o438 := o438.go l
  replace h441 := h441.go l
  replace o442 := o442.go l
  replace K12 := K12.thru l
  replace K19 := K19.thru l
  replace K430 := K430.thru l
  refine x_end ?_
  refine x_tn ?_
  refine ⟨.inl l, ?_⟩
  exact H668 b497 b429 v431 b432 v435 b436 v439 b440 _ _ (F.sub (sc rfl (sc rfl (sc rfl (sc rfl (sc rfl (sc rfl (sc rfl (sc rfl sn))))))))) hB CK498 CK430 h433 o434 h437 o438 h441 o442 K12 K19 K498 K430 d443 d444 d445 d446 d447 d448 d449 d450 d451 d452 d453 d454 d455 d456 d457 d458 d459 d460 d461 d462 d463 d502 d503 d504 nb499 nb464 nb500 nb465 (Ne.symm nb501) _ (by kernel_rfl)
 refine dp (fun G => ∀ (b388 : Nat) (v390 : Value) (b391 : List Nat) (v394 : Value) (b395 : List Nat) (a : Act) (w : World), Sk a 179 [(2, v2), (3, .pointer (some ⟨b11, 0, none⟩)), (4, .pointer (some ⟨b18, 0, none⟩)), (9, .pointer (some ⟨b388, 0, none⟩)), (40, v390), (42, v394), (43, v2)] → Below w0.heap.size w0 w → w0.heap.size ≤ b388 → Rd (Agg 2 RTemplate) w v390 x0 b391 → Own w0.heap.size b391 w → Rd (Agg 2 RInstance) w v394 x1 b395 → Own w0.heap.size b395 w → Blk w b11 #[.int .i64 x0.size, v14] 24 → Blk w b18 #[.int .i64 x1.vars, v21] 54 → Blk w b388 #[.int .i64 0, (.slice none 0 0)] 60 → Dj [b11] b391 → Dj b391 ([b11]) → Dj [b18] b391 → Dj b391 ([b18]) → Dj b391 b395 → Dj b395 b391 → Dj [b11] b395 → Dj b395 ([b11]) → Dj [b18] b395 → Dj b395 ([b18]) → Dj b391 ([b388]) → Dj b395 ([b388]) → b11 ≠ b388 → b18 ≠ b388 → ∀ ls, ls = #[true, true, true, true, true, false, false, false, false, false, false, false, true, false, false, false] → G 10 ls a w) ?_ (fun H412 => ?_)
 ·
  intro b388 v390 b391 v394 b395 a w F hB CK389 h392 o393 h396 o397 K12 K19 K389 d398 d399 d400 d401 d402 d403 d404 d405 d406 d407 d408 d409 nb410 nb411 ls hls
  subst hls
  refine b_es [5, 11] (by kernel_rfl) (by simp) ⟨⟨_, rfl, ?_⟩, ⟨_, rfl, ?_⟩, trivial⟩
  ·
   refine o_toS F rfl Tryz.call34 rfl (toLiteralSS_any _ _ _ _ (A2.go hB).r (A2.go hB).m (toq_some c53)) (fun a v413 b414 w l h415 o416 F => ?_)
   have d417 := Dj.new h392.m o416 (Nat.le_refl _)
   have d418 := Dj.new h396.m o416 (Nat.le_refl _)
   have d419 := Dj.new (inm1 K12) o416 (Nat.le_refl _)
   have d420 := Dj.new (inm1 K19) o416 (Nat.le_refl _)
   have d421 := Dj.new (inm1 K389) o416 (Nat.le_refl _)
   replace o416 := o416.mono hB.size
   replace hB := Below.through l hB
   replace h392 := h392.go l
   replace o393 := o393.go l
   replace h396 := h396.go l
   replace o397 := o397.go l
   replace K12 := K12.thru l
   replace K19 := K19.thru l
   replace K389 := K389.thru l
   refine x_end ?_
   refine x_tn ?_
   refine ⟨.inl l, ?_⟩
   exact H466 b388 v390 b391 v394 b395 v413 b414 _ _ (F.sub (sc rfl (sc rfl (sc rfl (sc rfl (sc rfl (sc rfl (sc rfl sn)))))))) hB CK389 h392 o393 h396 o397 h415 o416 K12 K19 K389 d398 d399 d400 d401 d402 d403 d404 d405 d406 d407 d417 (Dj.symm d417) d418 (Dj.symm d418) d419 (Dj.symm d419) d420 (Dj.symm d420) d408 d409 (Dj.symm d421) nb410 nb411 _ (by kernel_rfl)
  refine o_alloc Tryz.zeroValue33 F rfl rfl (fun a w b422 K423 l BK423 F => ?_)
  have nb424 := Dj.bb K12 BK423
  have nb425 := Dj.bb K19 BK423
  have nb426 := Dj.bb K389 BK423
  have d427 := (dj1 h392.m BK423).symm
  have d428 := (dj1 h396.m BK423).symm
  have CK423 := Nat.le_trans hB.size BK423
  replace hB := Below.through l hB
  replace h392 := h392.go l
  replace o393 := o393.go l
  replace h396 := h396.go l
  replace o397 := o397.go l
  replace K12 := K12.thru l
  replace K19 := K19.thru l
  replace K389 := K389.thru l
  refine x_end ?_
  refine x_tn ?_
  refine ⟨.inl l, ?_⟩
  exact H612 b422 b388 v390 b391 v394 b395 _ _ (F.sub (sc rfl (sc rfl (sc rfl (sc rfl (sc rfl (sc rfl (sc rfl (sc rfl sn))))))))) hB CK423 CK389 h392 o393 h396 o397 K12 K19 K423 K389 d398 d399 d400 d401 d427 d408 d402 d403 d404 d405 d406 d407 d428 d409 nb424 nb410 nb425 nb411 (Ne.symm nb426) _ (by kernel_rfl)
 refine dp (fun G => ∀ (b347 : Nat) (v349 : Value) (b350 : List Nat) (v353 : Value) (b354 : List Nat) (a : Act) (w : World), Sk a 179 [(2, v2), (3, .pointer (some ⟨b11, 0, none⟩)), (4, .pointer (some ⟨b18, 0, none⟩)), (8, .pointer (some ⟨b347, 0, none⟩)), (40, v349), (42, v353), (43, v2)] → Below w0.heap.size w0 w → w0.heap.size ≤ b347 → Rd (Agg 2 RTemplate) w v349 x0 b350 → Own w0.heap.size b350 w → Rd (Agg 2 RInstance) w v353 x1 b354 → Own w0.heap.size b354 w → Blk w b11 #[.int .i64 x0.size, v14] 24 → Blk w b18 #[.int .i64 x1.vars, v21] 54 → Blk w b347 #[.int .i64 0, (.slice none 0 0)] 33 → Dj [b11] b350 → Dj b350 ([b11]) → Dj [b18] b350 → Dj b350 ([b18]) → Dj b350 b354 → Dj b354 b350 → Dj [b11] b354 → Dj b354 ([b11]) → Dj [b18] b354 → Dj b354 ([b18]) → Dj b350 ([b347]) → Dj b354 ([b347]) → b11 ≠ b347 → b18 ≠ b347 → ∀ ls, ls = #[true, true, true, true, true, false, false, false, false, false, false, true, false, false, false, false] → G 10 ls a w) ?_ (fun H371 => ?_)
 ·
  intro b347 v349 b350 v353 b354 a w F hB CK348 h351 o352 h355 o356 K12 K19 K348 d357 d358 d359 d360 d361 d362 d363 d364 d365 d366 d367 d368 nb369 nb370 ls hls
  subst hls
  refine b_es [5, 12] (by kernel_rfl) (by simp) ⟨⟨_, rfl, ?_⟩, ⟨_, rfl, ?_⟩, trivial⟩
  ·
   refine o_toS F rfl Tryz.call34 rfl (toLiteralSS_any _ _ _ _ (A2.go hB).r (A2.go hB).m (toq_some c53)) (fun a v372 b373 w l h374 o375 F => ?_)
   have d376 := Dj.new h351.m o375 (Nat.le_refl _)
   have d377 := Dj.new h355.m o375 (Nat.le_refl _)
   have d378 := Dj.new (inm1 K12) o375 (Nat.le_refl _)
   have d379 := Dj.new (inm1 K19) o375 (Nat.le_refl _)
   have d380 := Dj.new (inm1 K348) o375 (Nat.le_refl _)
   replace o375 := o375.mono hB.size
   replace hB := Below.through l hB
   replace h351 := h351.go l
   replace o352 := o352.go l
   replace h355 := h355.go l
   replace o356 := o356.go l
   replace K12 := K12.thru l
   replace K19 := K19.thru l
   replace K348 := K348.thru l
   refine x_end ?_
   refine x_tn ?_
   refine ⟨.inl l, ?_⟩
   exact H542 b347 v349 b350 v353 b354 v372 b373 _ _ (F.sub (sc rfl (sc rfl (sc rfl (sc rfl (sc rfl (sc rfl (sc rfl sn)))))))) hB CK348 h351 o352 h355 o356 h374 o375 K12 K19 K348 d357 d358 d359 d360 d361 d362 d363 d364 d365 d366 d376 (Dj.symm d376) d377 (Dj.symm d377) d378 (Dj.symm d378) d379 (Dj.symm d379) d367 d368 (Dj.symm d380) nb369 nb370 _ (by kernel_rfl)
  refine o_alloc Tryz.zeroValue60 F rfl rfl (fun a w b381 K382 l BK382 F => ?_)
  have nb383 := Dj.bb K12 BK382
  have nb384 := Dj.bb K19 BK382
  have nb385 := Dj.bb K348 BK382
  have d386 := (dj1 h351.m BK382).symm
  have d387 := (dj1 h355.m BK382).symm
  have CK382 := Nat.le_trans hB.size BK382
  replace hB := Below.through l hB
  replace h351 := h351.go l
  replace o352 := o352.go l
  replace h355 := h355.go l
  replace o356 := o356.go l
  replace K12 := K12.thru l
  replace K19 := K19.thru l
  replace K348 := K348.thru l
  refine x_end ?_
  refine x_tn ?_
  refine ⟨.inl l, ?_⟩
  exact H612 b347 b381 v349 b350 v353 b354 _ _ (F.sub (sc rfl (sc rfl (sc rfl (sc rfl (sc rfl (sc rfl (sc rfl (sc rfl sn))))))))) hB CK348 CK382 h351 o352 h355 o356 K12 K19 K348 K382 d357 d358 d359 d360 d367 d386 d361 d362 d363 d364 d365 d366 d368 d387 nb369 nb383 nb370 nb384 nb385 _ (by kernel_rfl)
 refine dp (fun G => ∀ (b318 : Nat) (b320 : Nat) (v322 : Value) (b323 : List Nat) (a : Act) (w : World), Sk a 179 [(2, v2), (3, .pointer (some ⟨b11, 0, none⟩)), (4, .pointer (some ⟨b18, 0, none⟩)), (8, .pointer (some ⟨b318, 0, none⟩)), (9, .pointer (some ⟨b320, 0, none⟩)), (40, v322), (41, (.agg #[.int .i64 x1.vars, v21])), (43, v2)] → Below w0.heap.size w0 w → w0.heap.size ≤ b318 → w0.heap.size ≤ b320 → Rd (Agg 2 RTemplate) w v322 x0 b323 → Own w0.heap.size b323 w → Blk w b11 #[.int .i64 x0.size, v14] 24 → Blk w b18 #[.int .i64 x1.vars, v21] 54 → Blk w b318 #[.int .i64 0, (.slice none 0 0)] 33 → Blk w b320 #[.int .i64 0, (.slice none 0 0)] 60 → Dj [b11] b323 → Dj b323 ([b11]) → Dj [b18] b323 → Dj b323 ([b18]) → Dj b323 ([b318]) → Dj b323 ([b320]) → b11 ≠ b318 → b11 ≠ b320 → b18 ≠ b318 → b18 ≠ b320 → b318 ≠ b320 → ∀ ls, ls = #[true, true, true, false, true, false, false, false, false, false, false, true, true, false, false, false] → G 10 ls a w) ?_ (fun H337 => ?_)
 ·
  intro b318 b320 v322 b323 a w F hB CK319 CK321 h324 o325 K12 K19 K319 K321 d326 d327 d328 d329 d330 d331 nb332 nb333 nb334 nb335 nb336 ls hls
  subst hls
  refine b_e 3 rfl (by kernel_rfl) ?_
  refine o_toA F rfl Tryz.call33 rfl (toInstance_any _ _ _ _ (A1.go hB).r (A1.go hB).m (toq_some c44)) (fun a v338 b339 w l h340 o341 F => ?_)
  have d342 := Dj.new h324.m o341 (Nat.le_refl _)
  have d343 := Dj.new (inm1 K12) o341 (Nat.le_refl _)
  have d344 := Dj.new (inm1 K19) o341 (Nat.le_refl _)
  have d345 := Dj.new (inm1 K319) o341 (Nat.le_refl _)
  have d346 := Dj.new (inm1 K321) o341 (Nat.le_refl _)
  replace o341 := o341.mono hB.size
  replace hB := Below.through l hB
  replace h324 := h324.go l
  replace o325 := o325.go l
  replace K12 := K12.thru l
  replace K19 := K19.thru l
  replace K319 := K319.thru l
  replace K321 := K321.thru l
  refine x_end ?_
  refine x_tn ?_
  refine ⟨.inl l, ?_⟩
  exact H612 b318 b320 v322 b323 v338 b339 _ _ (F.sub (sc rfl (sc rfl (sc rfl (sc rfl (sc rfl (sc rfl (sc rfl (sc rfl sn))))))))) hB CK319 CK321 h324 o325 h340 o341 K12 K19 K319 K321 d326 d327 d328 d329 d330 d331 d342 (Dj.symm d342) d343 (Dj.symm d343) d344 (Dj.symm d344) (Dj.symm d345) (Dj.symm d346) nb332 nb333 nb334 nb335 nb336 _ (by kernel_rfl)
 refine dp (fun G => ∀ (b290 : Nat) (v292 : Value) (b293 : List Nat) (a : Act) (w : World), Sk a 179 [(2, v2), (3, .pointer (some ⟨b11, 0, none⟩)), (4, .pointer (some ⟨b18, 0, none⟩)), (9, .pointer (some ⟨b290, 0, none⟩)), (40, v292), (41, (.agg #[.int .i64 x1.vars, v21])), (43, v2)] → Below w0.heap.size w0 w → w0.heap.size ≤ b290 → Rd (Agg 2 RTemplate) w v292 x0 b293 → Own w0.heap.size b293 w → Blk w b11 #[.int .i64 x0.size, v14] 24 → Blk w b18 #[.int .i64 x1.vars, v21] 54 → Blk w b290 #[.int .i64 0, (.slice none 0 0)] 60 → Dj [b11] b293 → Dj b293 ([b11]) → Dj [b18] b293 → Dj b293 ([b18]) → Dj b293 ([b290]) → b11 ≠ b290 → b18 ≠ b290 → ∀ ls, ls = #[true, true, true, false, true, false, false, false, false, false, false, false, true, false, false, false] → G 11 ls a w) ?_ (fun H303 => ?_)
 ·
  intro b290 v292 b293 a w F hB CK291 h294 o295 K12 K19 K291 d296 d297 d298 d299 d300 nb301 nb302 ls hls
  subst hls
  refine b_es [3, 11] (by kernel_rfl) (by simp) ⟨⟨_, rfl, ?_⟩, ⟨_, rfl, ?_⟩, trivial⟩
  ·
   refine o_toA F rfl Tryz.call33 rfl (toInstance_any _ _ _ _ (A1.go hB).r (A1.go hB).m (toq_some c44)) (fun a v304 b305 w l h306 o307 F => ?_)
   have d308 := Dj.new h294.m o307 (Nat.le_refl _)
   have d309 := Dj.new (inm1 K12) o307 (Nat.le_refl _)
   have d310 := Dj.new (inm1 K19) o307 (Nat.le_refl _)
   have d311 := Dj.new (inm1 K291) o307 (Nat.le_refl _)
   replace o307 := o307.mono hB.size
   replace hB := Below.through l hB
   replace h294 := h294.go l
   replace o295 := o295.go l
   replace K12 := K12.thru l
   replace K19 := K19.thru l
   replace K291 := K291.thru l
   refine x_end ?_
   refine x_tn ?_
   refine ⟨.inl l, ?_⟩
   exact H412 b290 v292 b293 v304 b305 _ _ (F.sub (sc rfl (sc rfl (sc rfl (sc rfl (sc rfl (sc rfl (sc rfl sn)))))))) hB CK291 h294 o295 h306 o307 K12 K19 K291 d296 d297 d298 d299 d308 (Dj.symm d308) d309 (Dj.symm d309) d310 (Dj.symm d310) d300 (Dj.symm d311) nb301 nb302 _ (by kernel_rfl)
  refine o_alloc Tryz.zeroValue33 F rfl rfl (fun a w b312 K313 l BK313 F => ?_)
  have nb314 := Dj.bb K12 BK313
  have nb315 := Dj.bb K19 BK313
  have nb316 := Dj.bb K291 BK313
  have d317 := (dj1 h294.m BK313).symm
  have CK313 := Nat.le_trans hB.size BK313
  replace hB := Below.through l hB
  replace h294 := h294.go l
  replace o295 := o295.go l
  replace K12 := K12.thru l
  replace K19 := K19.thru l
  replace K291 := K291.thru l
  refine x_end ?_
  refine x_tn ?_
  refine ⟨.inl l, ?_⟩
  exact H337 b312 b290 v292 b293 _ _ (F.sub (sc rfl (sc rfl (sc rfl (sc rfl (sc rfl (sc rfl (sc rfl (sc rfl sn))))))))) hB CK313 CK291 h294 o295 K12 K19 K313 K291 d296 d297 d298 d299 d317 d300 nb314 nb301 nb315 nb302 (Ne.symm nb316) _ (by kernel_rfl)
 refine dp (fun G => ∀ (b262 : Nat) (v264 : Value) (b265 : List Nat) (a : Act) (w : World), Sk a 179 [(2, v2), (3, .pointer (some ⟨b11, 0, none⟩)), (4, .pointer (some ⟨b18, 0, none⟩)), (8, .pointer (some ⟨b262, 0, none⟩)), (40, v264), (41, (.agg #[.int .i64 x1.vars, v21])), (43, v2)] → Below w0.heap.size w0 w → w0.heap.size ≤ b262 → Rd (Agg 2 RTemplate) w v264 x0 b265 → Own w0.heap.size b265 w → Blk w b11 #[.int .i64 x0.size, v14] 24 → Blk w b18 #[.int .i64 x1.vars, v21] 54 → Blk w b262 #[.int .i64 0, (.slice none 0 0)] 33 → Dj [b11] b265 → Dj b265 ([b11]) → Dj [b18] b265 → Dj b265 ([b18]) → Dj b265 ([b262]) → b11 ≠ b262 → b18 ≠ b262 → ∀ ls, ls = #[true, true, true, false, true, false, false, false, false, false, false, true, false, false, false, false] → G 11 ls a w) ?_ (fun H275 => ?_)
 ·
  intro b262 v264 b265 a w F hB CK263 h266 o267 K12 K19 K263 d268 d269 d270 d271 d272 nb273 nb274 ls hls
  subst hls
  refine b_es [3, 12] (by kernel_rfl) (by simp) ⟨⟨_, rfl, ?_⟩, ⟨_, rfl, ?_⟩, trivial⟩
  ·
   refine o_toA F rfl Tryz.call33 rfl (toInstance_any _ _ _ _ (A1.go hB).r (A1.go hB).m (toq_some c44)) (fun a v276 b277 w l h278 o279 F => ?_)
   have d280 := Dj.new h266.m o279 (Nat.le_refl _)
   have d281 := Dj.new (inm1 K12) o279 (Nat.le_refl _)
   have d282 := Dj.new (inm1 K19) o279 (Nat.le_refl _)
   have d283 := Dj.new (inm1 K263) o279 (Nat.le_refl _)
   replace o279 := o279.mono hB.size
   replace hB := Below.through l hB
   replace h266 := h266.go l
   replace o267 := o267.go l
   replace K12 := K12.thru l
   replace K19 := K19.thru l
   replace K263 := K263.thru l
   refine x_end ?_
   refine x_tn ?_
   refine ⟨.inl l, ?_⟩
   exact H371 b262 v264 b265 v276 b277 _ _ (F.sub (sc rfl (sc rfl (sc rfl (sc rfl (sc rfl (sc rfl (sc rfl sn)))))))) hB CK263 h266 o267 h278 o279 K12 K19 K263 d268 d269 d270 d271 d280 (Dj.symm d280) d281 (Dj.symm d281) d282 (Dj.symm d282) d272 (Dj.symm d283) nb273 nb274 _ (by kernel_rfl)
  refine o_alloc Tryz.zeroValue60 F rfl rfl (fun a w b284 K285 l BK285 F => ?_)
  have nb286 := Dj.bb K12 BK285
  have nb287 := Dj.bb K19 BK285
  have nb288 := Dj.bb K263 BK285
  have d289 := (dj1 h266.m BK285).symm
  have CK285 := Nat.le_trans hB.size BK285
  replace hB := Below.through l hB
  replace h266 := h266.go l
  replace o267 := o267.go l
  replace K12 := K12.thru l
  replace K19 := K19.thru l
  replace K263 := K263.thru l
  refine x_end ?_
  refine x_tn ?_
  refine ⟨.inl l, ?_⟩
  exact H337 b262 b284 v264 b265 _ _ (F.sub (sc rfl (sc rfl (sc rfl (sc rfl (sc rfl (sc rfl (sc rfl (sc rfl sn))))))))) hB CK263 CK285 h266 o267 K12 K19 K263 K285 d268 d269 d270 d271 d272 d289 nb273 nb286 nb274 nb287 nb288 _ (by kernel_rfl)
 refine dp (fun G => ∀ (b244 : Nat) (b246 : Nat) (a : Act) (w : World), Sk a 179 [(2, v2), (3, .pointer (some ⟨b11, 0, none⟩)), (4, .pointer (some ⟨b18, 0, none⟩)), (8, .pointer (some ⟨b244, 0, none⟩)), (9, .pointer (some ⟨b246, 0, none⟩)), (39, (.agg #[.int .i64 x0.size, v14])), (41, (.agg #[.int .i64 x1.vars, v21])), (43, v2)] → Below w0.heap.size w0 w → w0.heap.size ≤ b244 → w0.heap.size ≤ b246 → Blk w b11 #[.int .i64 x0.size, v14] 24 → Blk w b18 #[.int .i64 x1.vars, v21] 54 → Blk w b244 #[.int .i64 0, (.slice none 0 0)] 33 → Blk w b246 #[.int .i64 0, (.slice none 0 0)] 60 → b11 ≠ b244 → b11 ≠ b246 → b18 ≠ b244 → b18 ≠ b246 → b244 ≠ b246 → ∀ ls, ls = #[true, false, true, false, true, false, false, false, false, false, false, true, true, false, false, false] → G 11 ls a w) ?_ (fun H253 => ?_)
 ·
  intro b244 b246 a w F hB CK245 CK247 K12 K19 K245 K247 nb248 nb249 nb250 nb251 nb252 ls hls
  subst hls
  refine b_e 1 rfl (by kernel_rfl) ?_
  refine o_toA F rfl Tryz.call15 rfl (toTemplate_any _ _ _ _ (A0.go hB).r (A0.go hB).m (toq_some c36)) (fun a v254 b255 w l h256 o257 F => ?_)
  have d258 := Dj.new (inm1 K12) o257 (Nat.le_refl _)
  have d259 := Dj.new (inm1 K19) o257 (Nat.le_refl _)
  have d260 := Dj.new (inm1 K245) o257 (Nat.le_refl _)
  have d261 := Dj.new (inm1 K247) o257 (Nat.le_refl _)
  replace o257 := o257.mono hB.size
  replace hB := Below.through l hB
  replace K12 := K12.thru l
  replace K19 := K19.thru l
  replace K245 := K245.thru l
  replace K247 := K247.thru l
  refine x_end ?_
  refine x_tn ?_
  refine ⟨.inl l, ?_⟩
  exact H337 b244 b246 v254 b255 _ _ (F.sub (sc rfl (sc rfl (sc rfl (sc rfl (sc rfl (sc rfl (sc rfl (sc rfl sn))))))))) hB CK245 CK247 h256 o257 K12 K19 K245 K247 d258 (Dj.symm d258) d259 (Dj.symm d259) (Dj.symm d260) (Dj.symm d261) nb248 nb249 nb250 nb251 nb252 _ (by kernel_rfl)
 refine b_q 0 (by kernel_rfl) rfl (by kernel_rfl) (by kernel_rfl) (by kernel_rfl) (by kernel_rfl) ?_
 refine v_val F rfl (fun w l => r_bloadA (cs := [.int .i64 x0.size, v14]) Tryz.isAgg24 Tryz.sizeOf24 F rfl (K12.thru l) rfl (fun j hj => by match j, hj with | 0, _ => rfl | 1, _ => rfl)) (fun a F => ?_)
 refine b_q 2 (by kernel_rfl) rfl (by kernel_rfl) (by kernel_rfl) (by kernel_rfl) (by kernel_rfl) ?_
 refine v_val F rfl (fun w l => r_bloadA (cs := [.int .i64 x1.vars, v21]) Tryz.isAgg54 Tryz.sizeOf54 F rfl (K19.thru l) rfl (fun j hj => by match j, hj with | 0, _ => rfl | 1, _ => rfl)) (fun a F => ?_)
 refine b_q0 4 rfl (by kernel_rfl) (by kernel_rfl) (by kernel_rfl) ?_
 refine v_val F rfl (fun w l => r_move F rfl) (fun a F => ?_)
 refine b_es [1, 11, 12] (by kernel_rfl) (by simp) ⟨⟨_, rfl, ?_⟩, ⟨_, rfl, ?_⟩, ⟨_, rfl, ?_⟩, trivial⟩
 ·
  refine o_toA F rfl Tryz.call15 rfl (toTemplate_any _ _ _ _ (A0.go hB).r (A0.go hB).m (toq_some c36)) (fun a v115 b116 w l h117 o118 F => ?_)
  have d119 := Dj.new (inm1 K12) o118 (Nat.le_refl _)
  have d120 := Dj.new (inm1 K19) o118 (Nat.le_refl _)
  replace o118 := o118.mono hB.size
  replace hB := Below.through l hB
  replace K12 := K12.thru l
  replace K19 := K19.thru l
  refine x_end ?_
  refine x_tn ?_
  refine ⟨.inl l, ?_⟩
  refine b_es [3, 11, 12] (by kernel_rfl) (by simp) ⟨⟨_, rfl, ?_⟩, ⟨_, rfl, ?_⟩, ⟨_, rfl, ?_⟩, trivial⟩
  ·
   refine o_toA F rfl Tryz.call33 rfl (toInstance_any _ _ _ _ (A1.go hB).r (A1.go hB).m (toq_some c44)) (fun a v121 b122 w l h123 o124 F => ?_)
   have d125 := Dj.new h117.m o124 (Nat.le_refl _)
   have d126 := Dj.new (inm1 K12) o124 (Nat.le_refl _)
   have d127 := Dj.new (inm1 K19) o124 (Nat.le_refl _)
   replace o124 := o124.mono hB.size
   replace hB := Below.through l hB
   replace h117 := h117.go l
   replace o118 := o118.go l
   replace K12 := K12.thru l
   replace K19 := K19.thru l
   refine x_end ?_
   refine x_tn ?_
   refine ⟨.inl l, ?_⟩
   refine b_es [5, 11, 12] (by kernel_rfl) (by simp) ⟨⟨_, rfl, ?_⟩, ⟨_, rfl, ?_⟩, ⟨_, rfl, ?_⟩, trivial⟩
   ·
    refine o_toS F rfl Tryz.call34 rfl (toLiteralSS_any _ _ _ _ (A2.go hB).r (A2.go hB).m (toq_some c53)) (fun a v128 b129 w l h130 o131 F => ?_)
    have d132 := Dj.new h117.m o131 (Nat.le_refl _)
    have d133 := Dj.new h123.m o131 (Nat.le_refl _)
    have d134 := Dj.new (inm1 K12) o131 (Nat.le_refl _)
    have d135 := Dj.new (inm1 K19) o131 (Nat.le_refl _)
    replace o131 := o131.mono hB.size
    replace hB := Below.through l hB
    replace h117 := h117.go l
    replace o118 := o118.go l
    replace h123 := h123.go l
    replace o124 := o124.go l
    replace K12 := K12.thru l
    replace K19 := K19.thru l
    refine x_end ?_
    refine x_tn ?_
    refine ⟨.inl l, ?_⟩
    refine b_es [6, 11, 12] (by kernel_rfl) (by simp) ⟨⟨_, rfl, ?_⟩, ⟨_, rfl, ?_⟩, ⟨_, rfl, ?_⟩, trivial⟩
    ·
     refine o_gives F rfl Tryz.call32 rfl (spec_AddNoGoods_c z62 c63 _ h117 h123 h130) (fun a vv w l ⟨v137, rb138, ib139, v143, rb144, ib145, hv149, i136, h140, ow141, i142, h146, ow147, i148, dj150⟩ F => ?_)
     subst vv
     have o152 := h140.own ow141
     have h151 := h140.rd
     have o154 := h146.own ow147
     have h153 := h146.rd
     have h155 := RTemplate.mk2 (w := w) i136 h151
     have o156 := o152
     have h157 := RInstance.mk2 (w := w) i142 h153
     have o158 := o154
     have d159 := Dj.new (inm1 K12) o156 (Nat.le_refl _)
     have d160 := Dj.new (inm1 K19) o156 (Nat.le_refl _)
     replace o156 := o156.mono hB.size
     have d161 := Dj.new (inm1 K12) o158 (Nat.le_refl _)
     have d162 := Dj.new (inm1 K19) o158 (Nat.le_refl _)
     replace o158 := o158.mono hB.size
     have d163 : Dj ((rb138 ++ ib139)) ((rb144 ++ ib145)) := dj150
     replace hB := Below.through l hB
     replace K12 := K12.thru l
     replace K19 := K19.thru l
     refine x_end ?_
     refine x_tn ?_
     refine ⟨.inl l, ?_⟩
     refine b_q0 7 rfl (by kernel_rfl) (by kernel_rfl) (by kernel_rfl) ?_
     refine v_val F rfl (fun w l => r_move F rfl) (fun a F => ?_)
     refine b_q0 8 rfl (by kernel_rfl) (by kernel_rfl) (by kernel_rfl) ?_
     refine v_val F rfl (fun w l => r_extract F rfl rfl) (fun a F => ?_)
     refine b_q0 9 rfl (by kernel_rfl) (by kernel_rfl) (by kernel_rfl) ?_
     refine v_val F rfl (fun w l => r_extract F rfl rfl) (fun a F => ?_)
     refine b_q0 10 rfl (by kernel_rfl) (by kernel_rfl) (by kernel_rfl) ?_
     refine v_val F rfl (fun w l => r_extract F rfl rfl) (fun a F => ?_)
     refine b_es [11, 12] (by kernel_rfl) (by simp) ⟨⟨_, rfl, ?_⟩, ⟨_, rfl, ?_⟩, trivial⟩
     ·
      refine o_alloc Tryz.zeroValue33 F rfl rfl (fun a w b164 K165 l BK165 F => ?_)
      have nb166 := Dj.bb K12 BK165
      have nb167 := Dj.bb K19 BK165
      have d168 := (dj1 h155.m BK165).symm
      have d169 := (dj1 h157.m BK165).symm
      have CK165 := Nat.le_trans hB.size BK165
      replace hB := Below.through l hB
      replace h155 := h155.go l
      replace o156 := o156.go l
      replace h157 := h157.go l
      replace o158 := o158.go l
      replace K12 := K12.thru l
      replace K19 := K19.thru l
      refine x_end ?_
      refine x_tn ?_
      refine ⟨.inl l, ?_⟩
      exact H767 b164 v137 ((rb138 ++ ib139)) v143 ((rb144 ++ ib145)) _ _ (F.sub (sc rfl (sc rfl (sc rfl (sc rfl (sc rfl (sc rfl (sc rfl sn)))))))) hB CK165 i136 h151.r.one h155 o156 i142 h153.r.one h157 o158 i148 K12 K19 K165 d159 (Dj.symm d159) d160 (Dj.symm d160) d161 (Dj.symm d161) d162 (Dj.symm d162) d163 (Dj.symm d163) d168 d169 nb166 nb167 _ (by kernel_rfl)
     refine o_alloc Tryz.zeroValue60 F rfl rfl (fun a w b170 K171 l BK171 F => ?_)
     have nb172 := Dj.bb K12 BK171
     have nb173 := Dj.bb K19 BK171
     have d174 := (dj1 h155.m BK171).symm
     have d175 := (dj1 h157.m BK171).symm
     have CK171 := Nat.le_trans hB.size BK171
     replace hB := Below.through l hB
     replace h155 := h155.go l
     replace o156 := o156.go l
     replace h157 := h157.go l
     replace o158 := o158.go l
     replace K12 := K12.thru l
     replace K19 := K19.thru l
     refine x_end ?_
     refine x_tn ?_
     refine ⟨.inl l, ?_⟩
     exact H730 b170 v137 ((rb138 ++ ib139)) v143 ((rb144 ++ ib145)) _ _ (F.sub (sc rfl (sc rfl (sc rfl (sc rfl (sc rfl (sc rfl (sc rfl sn)))))))) hB CK171 i136 h151.r.one h155 o156 i142 h153.r.one h157 o158 i148 K12 K19 K171 d159 (Dj.symm d159) d160 (Dj.symm d160) d161 (Dj.symm d161) d162 (Dj.symm d162) d163 (Dj.symm d163) d174 d175 nb172 nb173 _ (by kernel_rfl)
    ·
     refine o_alloc Tryz.zeroValue33 F rfl rfl (fun a w b176 K177 l BK177 F => ?_)
     have nb178 := Dj.bb K12 BK177
     have nb179 := Dj.bb K19 BK177
     have d180 := (dj1 h117.m BK177).symm
     have d181 := (dj1 h123.m BK177).symm
     have d182 := (dj1 h130.m BK177).symm
     have CK177 := Nat.le_trans hB.size BK177
     replace hB := Below.through l hB
     replace h117 := h117.go l
     replace o118 := o118.go l
     replace h123 := h123.go l
     replace o124 := o124.go l
     replace h130 := h130.go l
     replace o131 := o131.go l
     replace K12 := K12.thru l
     replace K19 := K19.thru l
     refine x_end ?_
     refine x_tn ?_
     refine ⟨.inl l, ?_⟩
     exact H542 b176 v115 b116 v121 b122 v128 b129 _ _ (F.sub (sc rfl (sc rfl (sc rfl (sc rfl (sc rfl (sc rfl (sc rfl sn)))))))) hB CK177 h117 o118 h123 o124 h130 o131 K12 K19 K177 d119 (Dj.symm d119) d120 (Dj.symm d120) d125 (Dj.symm d125) d126 (Dj.symm d126) d127 (Dj.symm d127) d132 (Dj.symm d132) d133 (Dj.symm d133) d134 (Dj.symm d134) d135 (Dj.symm d135) d180 d181 d182 nb178 nb179 _ (by kernel_rfl)
    refine o_alloc Tryz.zeroValue60 F rfl rfl (fun a w b183 K184 l BK184 F => ?_)
    have nb185 := Dj.bb K12 BK184
    have nb186 := Dj.bb K19 BK184
    have d187 := (dj1 h117.m BK184).symm
    have d188 := (dj1 h123.m BK184).symm
    have d189 := (dj1 h130.m BK184).symm
    have CK184 := Nat.le_trans hB.size BK184
    replace hB := Below.through l hB
    replace h117 := h117.go l
    replace o118 := o118.go l
    replace h123 := h123.go l
    replace o124 := o124.go l
    replace h130 := h130.go l
    replace o131 := o131.go l
    replace K12 := K12.thru l
    replace K19 := K19.thru l
    refine x_end ?_
    refine x_tn ?_
    refine ⟨.inl l, ?_⟩
    exact H466 b183 v115 b116 v121 b122 v128 b129 _ _ (F.sub (sc rfl (sc rfl (sc rfl (sc rfl (sc rfl (sc rfl (sc rfl sn)))))))) hB CK184 h117 o118 h123 o124 h130 o131 K12 K19 K184 d119 (Dj.symm d119) d120 (Dj.symm d120) d125 (Dj.symm d125) d126 (Dj.symm d126) d127 (Dj.symm d127) d132 (Dj.symm d132) d133 (Dj.symm d133) d134 (Dj.symm d134) d135 (Dj.symm d135) d187 d188 d189 nb185 nb186 _ (by kernel_rfl)
   ·
    refine o_alloc Tryz.zeroValue33 F rfl rfl (fun a w b190 K191 l BK191 F => ?_)
    have nb192 := Dj.bb K12 BK191
    have nb193 := Dj.bb K19 BK191
    have d194 := (dj1 h117.m BK191).symm
    have d195 := (dj1 h123.m BK191).symm
    have CK191 := Nat.le_trans hB.size BK191
    replace hB := Below.through l hB
    replace h117 := h117.go l
    replace o118 := o118.go l
    replace h123 := h123.go l
    replace o124 := o124.go l
    replace K12 := K12.thru l
    replace K19 := K19.thru l
    refine x_end ?_
    refine x_tn ?_
    refine ⟨.inl l, ?_⟩
    exact H371 b190 v115 b116 v121 b122 _ _ (F.sub (sc rfl (sc rfl (sc rfl (sc rfl (sc rfl (sc rfl (sc rfl sn)))))))) hB CK191 h117 o118 h123 o124 K12 K19 K191 d119 (Dj.symm d119) d120 (Dj.symm d120) d125 (Dj.symm d125) d126 (Dj.symm d126) d127 (Dj.symm d127) d194 d195 nb192 nb193 _ (by kernel_rfl)
   refine o_alloc Tryz.zeroValue60 F rfl rfl (fun a w b196 K197 l BK197 F => ?_)
   have nb198 := Dj.bb K12 BK197
   have nb199 := Dj.bb K19 BK197
   have d200 := (dj1 h117.m BK197).symm
   have d201 := (dj1 h123.m BK197).symm
   have CK197 := Nat.le_trans hB.size BK197
   replace hB := Below.through l hB
   replace h117 := h117.go l
   replace o118 := o118.go l
   replace h123 := h123.go l
   replace o124 := o124.go l
   replace K12 := K12.thru l
   replace K19 := K19.thru l
   refine x_end ?_
   refine x_tn ?_
   refine ⟨.inl l, ?_⟩
   exact H412 b196 v115 b116 v121 b122 _ _ (F.sub (sc rfl (sc rfl (sc rfl (sc rfl (sc rfl (sc rfl (sc rfl sn)))))))) hB CK197 h117 o118 h123 o124 K12 K19 K197 d119 (Dj.symm d119) d120 (Dj.symm d120) d125 (Dj.symm d125) d126 (Dj.symm d126) d127 (Dj.symm d127) d200 d201 nb198 nb199 _ (by kernel_rfl)
  ·
   refine o_alloc Tryz.zeroValue33 F rfl rfl (fun a w b202 K203 l BK203 F => ?_)
   have nb204 := Dj.bb K12 BK203
   have nb205 := Dj.bb K19 BK203
   have d206 := (dj1 h117.m BK203).symm
   have CK203 := Nat.le_trans hB.size BK203
   replace hB := Below.through l hB
   replace h117 := h117.go l
   replace o118 := o118.go l
   replace K12 := K12.thru l
   replace K19 := K19.thru l
   refine x_end ?_
   refine x_tn ?_
   refine ⟨.inl l, ?_⟩
   exact H275 b202 v115 b116 _ _ (F.sub (sc rfl (sc rfl (sc rfl (sc rfl (sc rfl (sc rfl (sc rfl sn)))))))) hB CK203 h117 o118 K12 K19 K203 d119 (Dj.symm d119) d120 (Dj.symm d120) d206 nb204 nb205 _ (by kernel_rfl)
  refine o_alloc Tryz.zeroValue60 F rfl rfl (fun a w b207 K208 l BK208 F => ?_)
  have nb209 := Dj.bb K12 BK208
  have nb210 := Dj.bb K19 BK208
  have d211 := (dj1 h117.m BK208).symm
  have CK208 := Nat.le_trans hB.size BK208
  replace hB := Below.through l hB
  replace h117 := h117.go l
  replace o118 := o118.go l
  replace K12 := K12.thru l
  replace K19 := K19.thru l
  refine x_end ?_
  refine x_tn ?_
  refine ⟨.inl l, ?_⟩
  exact H303 b207 v115 b116 _ _ (F.sub (sc rfl (sc rfl (sc rfl (sc rfl (sc rfl (sc rfl (sc rfl sn)))))))) hB CK208 h117 o118 K12 K19 K208 d119 (Dj.symm d119) d120 (Dj.symm d120) d211 nb209 nb210 _ (by kernel_rfl)
 ·
  refine o_alloc Tryz.zeroValue33 F rfl rfl (fun a w b212 K213 l BK213 F => ?_)
  have nb214 := Dj.bb K12 BK213
  have nb215 := Dj.bb K19 BK213
  have CK213 := Nat.le_trans hB.size BK213
  replace hB := Below.through l hB
  replace K12 := K12.thru l
  replace K19 := K19.thru l
  refine x_end ?_
  refine x_tn ?_
  refine ⟨.inl l, ?_⟩
  refine b_es [1, 12] (by kernel_rfl) (by simp) ⟨⟨_, rfl, ?_⟩, ⟨_, rfl, ?_⟩, trivial⟩
  ·
   refine o_toA F rfl Tryz.call15 rfl (toTemplate_any _ _ _ _ (A0.go hB).r (A0.go hB).m (toq_some c36)) (fun a v216 b217 w l h218 o219 F => ?_)
   have d220 := Dj.new (inm1 K12) o219 (Nat.le_refl _)
   have d221 := Dj.new (inm1 K19) o219 (Nat.le_refl _)
   have d222 := Dj.new (inm1 K213) o219 (Nat.le_refl _)
   replace o219 := o219.mono hB.size
   replace hB := Below.through l hB
   replace K12 := K12.thru l
   replace K19 := K19.thru l
   replace K213 := K213.thru l
   refine x_end ?_
   refine x_tn ?_
   refine ⟨.inl l, ?_⟩
   exact H275 b212 v216 b217 _ _ (F.sub (sc rfl (sc rfl (sc rfl (sc rfl (sc rfl (sc rfl (sc rfl sn)))))))) hB CK213 h218 o219 K12 K19 K213 d220 (Dj.symm d220) d221 (Dj.symm d221) (Dj.symm d222) nb214 nb215 _ (by kernel_rfl)
  refine o_alloc Tryz.zeroValue60 F rfl rfl (fun a w b223 K224 l BK224 F => ?_)
  have nb225 := Dj.bb K12 BK224
  have nb226 := Dj.bb K19 BK224
  have nb227 := Dj.bb K213 BK224
  have CK224 := Nat.le_trans hB.size BK224
  replace hB := Below.through l hB
  replace K12 := K12.thru l
  replace K19 := K19.thru l
  replace K213 := K213.thru l
  refine x_end ?_
  refine x_tn ?_
  refine ⟨.inl l, ?_⟩
  exact H253 b212 b223 _ _ (F.sub (sc rfl (sc rfl (sc rfl (sc rfl (sc rfl (sc rfl (sc rfl (sc rfl sn))))))))) hB CK213 CK224 K12 K19 K213 K224 nb214 nb225 nb215 nb226 nb227 _ (by kernel_rfl)
 refine o_alloc Tryz.zeroValue60 F rfl rfl (fun a w b228 K229 l BK229 F => ?_)
 have nb230 := Dj.bb K12 BK229
 have nb231 := Dj.bb K19 BK229
 have CK229 := Nat.le_trans hB.size BK229
 replace hB := Below.through l hB
 replace K12 := K12.thru l
 replace K19 := K19.thru l
 refine x_end ?_
 refine x_tn ?_
 refine ⟨.inl l, ?_⟩
 refine b_es [1, 11] (by kernel_rfl) (by simp) ⟨⟨_, rfl, ?_⟩, ⟨_, rfl, ?_⟩, trivial⟩
 ·
  refine o_toA F rfl Tryz.call15 rfl (toTemplate_any _ _ _ _ (A0.go hB).r (A0.go hB).m (toq_some c36)) (fun a v232 b233 w l h234 o235 F => ?_)
  have d236 := Dj.new (inm1 K12) o235 (Nat.le_refl _)
  have d237 := Dj.new (inm1 K19) o235 (Nat.le_refl _)
  have d238 := Dj.new (inm1 K229) o235 (Nat.le_refl _)
  replace o235 := o235.mono hB.size
  replace hB := Below.through l hB
  replace K12 := K12.thru l
  replace K19 := K19.thru l
  replace K229 := K229.thru l
  refine x_end ?_
  refine x_tn ?_
  refine ⟨.inl l, ?_⟩
  exact H303 b228 v232 b233 _ _ (F.sub (sc rfl (sc rfl (sc rfl (sc rfl (sc rfl (sc rfl (sc rfl sn)))))))) hB CK229 h234 o235 K12 K19 K229 d236 (Dj.symm d236) d237 (Dj.symm d237) (Dj.symm d238) nb230 nb231 _ (by kernel_rfl)
 refine o_alloc Tryz.zeroValue33 F rfl rfl (fun a w b239 K240 l BK240 F => ?_)
 have nb241 := Dj.bb K12 BK240
 have nb242 := Dj.bb K19 BK240
 have nb243 := Dj.bb K229 BK240
 have CK240 := Nat.le_trans hB.size BK240
 replace hB := Below.through l hB
 replace K12 := K12.thru l
 replace K19 := K19.thru l
 replace K229 := K229.thru l
 refine x_end ?_
 refine x_tn ?_
 refine ⟨.inl l, ?_⟩
 exact H253 b239 b228 _ _ (F.sub (sc rfl (sc rfl (sc rfl (sc rfl (sc rfl (sc rfl (sc rfl (sc rfl sn))))))))) hB CK240 CK229 K12 K19 K240 K229 nb241 nb230 nb242 nb231 (Ne.symm nb243) _ (by kernel_rfl)
end
end Go.Proofs.YtfggmelojaicfaaGreat
