/-
  Functions of the program as plain functions, and that they compute them. Printed by fxgen.py.
-/
import Derived.Test.YtmfichdcomaaeaaX1
namespace Go.Proofs.Ytmfichdcomaaeaa
set_option linter.unusedVariables false
set_option linter.unusedSimpArgs false
set_option maxRecDepth 100000
open Go.RowKit
def spec_OwnGadgets (x0 : Template) : Option (Gadgets × Int) :=
  bnd (spec_l01Template (Template.mk x0.size x0.rels)) fun z13 =>
  if (!z13) then
    some ((Gadgets.mk ([])), 1)
  else
    thn (σ := (List Formula)) (
      forL (σ := (List Formula)) (ρ := Gadgets × Int) (fun (k192 : Nat) (x194 : Rel) (s172 : (List Formula)) =>
        bnd (spec_AtomFormula (Template.mk x0.size x0.rels) (k192 : Int)) fun z200 =>
        bnd (ap s172 ([(Formula.mk z200.1.free z200.1.vars z200.1.atoms)])) fun z252 =>
        some (.go z252)) x0.rels 0 []) fun s183 =>
    some ((Gadgets.mk s183), 0)
set_option maxHeartbeats 1000000 in
theorem spec_OwnGadgets_c {x0 : Template} (r : Gadgets × Int) (hR : spec_OwnGadgets x0 = some r) {v0 : Value} {b0 : List Nat} (w0 : World) (A0 : Rd (Agg 2 RTemplate) w0 v0 x0 b0) : Calls Try.prog 45 #[v0] w0 (Gives (fun v w' => ∃ (v1' : Value) (rb2' : List Nat) (ib3' : List Nat), v = .tuple #[.agg #[v1'], .int .i64 r.2] ∧ Row 3 RFormula 114 w0.heap.size w' v1' r.1.formulas rb2' ib3' ∧ Own w0.heap.size ib3' w' ∧ I64 r.2) w0) := by
  unfold spec_OwnGadgets at hR
  refine x_enter (L := [(0, v0)]) Try.func45 rfl rfl rfl (sc rfl sn) (fun a F => ?_)
  have hB := Below.refl w0.heap.size w0
  refine x_seq ?_
  refine x_reg ?_
  obtain ⟨v4, b5, e7, i3, h6, _⟩ := RTemplate.rd (A0.go hB)
  subst e7
  refine o_box F rfl rfl rfl (fun a w b1 K2 l BK2 F => ?_)
  have d8 := (dj1 h6.m BK2).symm
  have CK2 := Nat.le_trans hB.size BK2
  replace hB := Below.through l hB
  replace h6 := h6.go l
  refine o_alloc Try.zeroValue49 F rfl rfl (fun a w b9 K10 l BK10 F => ?_)
  have nb11 := Dj.bb K2 BK10
  have d12 := (dj1 h6.m BK10).symm
  have CK10 := Nat.le_trans hB.size BK10
  replace hB := Below.through l hB
  replace h6 := h6.go l
  replace K2 := K2.thru l
  refine o_assign F rfl rfl (fun a F => ?_)
  refine x_end ?_
  refine x_tn ?_
  refine x_seq ?_
  refine x_seq ?_
  refine x_reg ?_
  obtain ⟨z13, c14, hR⟩ := bnd_some hR
  refine o_says F rfl Try.call103 rfl (spec_l01Template_c z13 c14 _ (RTemplate.blk K2 i3 h6)) (fun a w l F => ?_)
  replace hB := Below.through l hB
  replace h6 := h6.go l
  replace K2 := K2.thru l
  replace K10 := K10.thru l
  refine o_not F rfl rfl (fun a F => ?_)
  refine x_end ?_
  refine x_tn ?_
  refine x_if F rfl (fun hb15 => ?_) (fun hb15 => ?_)
  · replace hR := ifT hb15 hR
    refine x_seq ?_
    refine x_reg ?_
    refine o_build Try.underlying49 Try.zeroValue49 (fun w => by simp [Try.sizeOf47]; rfl) F rfl rfl rfl rfl rfl on rfl rfl (fun a F => ?_)
    have h16 := RGadgets.mk2 (w := w) (Rd.nil 3 RFormula _)
    refine o_bstoreA (vs := [(.slice none 0 0)]) Try.sizeOf49 F rfl rfl rfl K10 (oc rfl on) (Nat.le_of_ble_eq_true rfl) rfl (fun w K10 l => ?_)
    replace hB := hB.o l (fun c hc => by rw [List.mem_singleton] at hc; rw [hc]; exact CK10) hB.size
    refine o_assign F rfl rfl (fun a F => ?_)
    refine x_end ?_
    refine x_tn ?_
    refine x_ret ?_
    refine x_tr ?_
    refine x_res2 F rfl (rv_cA (arr := #[(.slice none 0 0)]) F Try.isAgg49 Try.sizeOf49 rfl K10) (rv_t F rfl) ?_
    obtain rfl := Option.some.inj hR
    exact ⟨_, rfl, hB, (.slice none 0 0), [], [], rfl, Row.nil 3 RFormula 114 _ _, Own.nil _ _, (show I64 (1) by decide)⟩
  · replace hR := ifF hb15 hR
    refine x_skip ?_
    refine x_tn ?_
    refine x_seq ?_
    refine x_reg ?_
    refine o_build Try.underlying49 Try.zeroValue49 (fun w => by simp [Try.sizeOf47]; rfl) F rfl rfl rfl rfl rfl on rfl rfl (fun a F => ?_)
    have h17 := RGadgets.mk2 (w := w) (Rd.nil 3 RFormula _)
    refine o_alloc Try.zeroValue49 F rfl rfl (fun a w b18 K19 l BK19 F => ?_)
    have nb20 := Dj.bb K2 BK19
    have nb21 := Dj.bb K10 BK19
    have d22 := (dj1 h6.m BK19).symm
    have d23 := (dj1 h17.m BK19).symm
    have CK19 := Nat.le_trans hB.size BK19
    replace hB := Below.through l hB
    replace h6 := h6.go l
    replace h17 := h17.go l
    replace K2 := K2.thru l
    replace K10 := K10.thru l
    refine o_bstoreA (vs := [(.slice none 0 0)]) Try.sizeOf49 F rfl rfl rfl K19 (oc rfl on) (Nat.le_of_ble_eq_true rfl) rfl (fun w K19 l => ?_)
    replace hB := hB.o l (fun c hc => by rw [List.mem_singleton] at hc; rw [hc]; exact CK19) hB.size
    replace h6 := h6.goO l d22
    replace K2 := K2.only l (by simpa using nb20)
    replace K10 := K10.only l (by simpa using nb21)
    refine x_end ?_
    refine x_tn ?_
    refine x_seq ?_
    refine x_seq ?_
    refine x_reg ?_
    refine o_assign F rfl rfl (fun a F => ?_)
    refine x_end ?_
    refine x_tn ?_
    obtain ⟨o166, hR, hk167⟩ := thn_some hR
    refine x_cutQ (fun a w => ∃ (s183 : List Formula) (v185 : Value) (rb186 : List Nat) (ib188 : List Nat), o166 = .nx s183 ∧ Sk a 32 [(2, .pointer (some ⟨b9, 0, none⟩)), (4, .pointer (some ⟨b18, 0, none⟩))] ∧ Below w0.heap.size w0 w ∧ Row 3 RFormula 114 w0.heap.size w v185 s183 rb186 ib188 ∧ Own w0.heap.size ib188 w ∧ Blk w b9 #[(.slice none 0 0)] 49 ∧ Blk w b18 #[v185] 49 ∧ Dj (rb186 ++ ib188) [b9] ∧ Dj (rb186 ++ ib188) [b18]) ?_ ?_
    · refine x_blk ?_
      obtain ⟨fl170, hf171, hR⟩ := forL_gen hR
      refine x_loop (fun g a w => ∃ (k192 : Nat) (rest193 : List Rel) (s172 : List Formula) (v174 : Value) (rb175 : List Nat) (ib177 : List Nat), (k192 ≤ x0.rels.length ∧ x0.rels.drop k192 = rest193) ∧ rest193.length = g ∧ forL fl170 rest193 k192 s172 = some o166 ∧ Sk a 32 [(5, .int .i64 (k192 : Int)), (1, .pointer (some ⟨b1, 0, none⟩)), (2, .pointer (some ⟨b9, 0, none⟩)), (4, .pointer (some ⟨b18, 0, none⟩))] ∧ Below w0.heap.size w0 w ∧ Row 3 RFormula 114 w0.heap.size w v174 s172 rb175 ib177 ∧ Own w0.heap.size ib177 w ∧ Rd (Sl 2 RRel) w v4 x0.rels b5 ∧ Blk w b1 #[.int .i64 x0.size, v4] 87 ∧ Blk w b9 #[(.slice none 0 0)] 49 ∧ Blk w b18 #[v174] 49 ∧ Dj b5 rb175 ∧ Dj (rb175 ++ ib177) [b1] ∧ Dj (rb175 ++ ib177) [b9] ∧ Dj (rb175 ++ ib177) [b18]) x0.rels.length ?_ ?_
      · exact ⟨0, x0.rels, [], (.slice none 0 0), [], [], ⟨Nat.zero_le _, rfl⟩, rfl, hR, F.sub (sc rfl (sc rfl (sc rfl (sc rfl sn)))), hB, Row.nil 3 RFormula 114 _ _, Own.nil _ _, h6, K2, K10, K19, (Dj.nil _), (Dj.nil' _), (Dj.nil' _), (Dj.nil' _)⟩
      · intro g195 a w ⟨k192, rest193, s172, v174, rb175, ib177, hd196, hg197, hR, F, hB, h176, ow178, h6, K2, K10, K19, d179, d180, d181, d182⟩
        cases rest193 with
        | nil =>
          replace hR := forL_nil hR
          have hkk192 := drop_nil hd196.1 hd196.2
          have hlk192 := dec_no hkk192
          refine x_seq ?_
          refine x_seq ?_
          refine x_reg ?_
          refine o_move F rfl rfl (fun a F => ?_)
          refine o_bfield fa87_1 F rfl rfl rfl (fun a F => ?_)
          refine o_bload Try.isAgg85 F rfl rfl K2 rfl (fun a F => ?_)
          refine o_len Try.underlying85 F rfl rfl h6 (fun a F => ?_)
          have i266 := (h6).r.len64
          refine o_lss F rfl rfl rfl (fun a F => ?_)
          refine x_end ?_
          refine x_tn ?_
          refine x_ifF F rfl hlk192 ?_
          refine x_exit ?_
          refine x_te ?_
          refine x_te ?_
          refine x_be ?_
          refine x_tn ?_
          exact ⟨s172, v174, rb175, ib177, (Option.some.inj hR).symm, F.sub (sc rfl (sc rfl sn)), hB, h176, ow178, K10, K19, d181, d182⟩
        | cons x194 rest193 =>
          subst hg197
          replace hd196 := drop_cons hd196.2
          have hxk192 := ix_nat hd196.2.1
          obtain ⟨ck192, hR, hn169⟩ := forL_cons hR
          rw [hf171] at hR
          have hlk192 := dec_yes hd196.1
          refine x_seq ?_
          refine x_seq ?_
          refine x_reg ?_
          refine o_move F rfl rfl (fun a F => ?_)
          refine o_bfield fa87_1 F rfl rfl rfl (fun a F => ?_)
          refine o_bload Try.isAgg85 F rfl rfl K2 rfl (fun a F => ?_)
          refine o_len Try.underlying85 F rfl rfl h6 (fun a F => ?_)
          have i198 := (h6).r.len64
          refine o_lss F rfl rfl rfl (fun a F => ?_)
          refine x_end ?_
          refine x_tn ?_
          refine x_ifT F rfl hlk192 ?_
          refine x_skip ?_
          refine x_tn ?_
          refine x_seq ?_
          have ikk192 := k64 (Nat.le_of_lt hd196.1) i198
          have ink192 := inc64 hd196.1 i198
          refine x_blk ?_
          refine x_seq ?_
          refine x_reg ?_
          refine o_bloadA (cs := [.int .i64 x0.size, v4]) Try.isAgg87 Try.sizeOf87 F rfl rfl K2 rfl (fun j hj => by match j, hj with | 0, _ => rfl | 1, _ => rfl) (fun a F => ?_)
          have h199 := RTemplate.mk2 (w := w) i3 h6
          refine o_move F rfl rfl (fun a F => ?_)
          obtain ⟨z200, c201, hR⟩ := bnd_some hR
          refine o_gives F rfl Try.call104 rfl (spec_AtomFormula_c z200 c201 _ h199 ikk192) (fun a vv w l ⟨v204, rb205, ib206, hv210, i202, i203, h207, ow208, i209⟩ F => ?_)
          subst vv
          have o211 := h207.own ow208
          have d212 := (Dj.new (inm1 K2) o211 (Nat.le_refl _)).symm
          have d213 := (Dj.new (inm1 K10) o211 (Nat.le_refl _)).symm
          have d214 := (Dj.new (inm1 K19) o211 (Nat.le_refl _)).symm
          have d215 := (Dj.new h176.memR o211 (Nat.le_refl _)).symm
          have d216 := (Dj.new h176.mem o211 (Nat.le_refl _)).symm
          have d218 := Dj.new h6.m h207.ownR (Nat.le_refl _)
          have d219 := Dj.new h176.rd.m h207.ownR (Nat.le_refl _)
          have d220 := Dj.new (inm1 K2) h207.ownR (Nat.le_refl _)
          have d221 := Dj.new (inm1 K10) h207.ownR (Nat.le_refl _)
          have d222 := Dj.new (inm1 K19) h207.ownR (Nat.le_refl _)
          replace h207 := h207.base hB.size
          replace ow208 := ow208.mono hB.size
          replace hB := Below.through l hB
          replace h6 := h6.go l
          replace h176 := h176.go l
          replace ow178 := ow178.go l
          replace K2 := K2.thru l
          replace K10 := K10.thru l
          replace K19 := K19.thru l
          have h223 := RFormula.mk2 (w := w) i202 i203 h207.rd
          refine o_move F rfl rfl (fun a F => ?_)
          refine o_extract F rfl rfl rfl (fun a F => ?_)
          refine o_extract F rfl rfl rfl (fun a F => ?_)
          refine o_alloc Try.zeroValue114 F rfl rfl (fun a w b224 K225 l BK225 F => ?_)
          have d226 := dj1 h176.memR BK225
          have d227 := dj1 h207.memR BK225
          have nb228 := Dj.bb K2 BK225
          have nb229 := Dj.bb K10 BK225
          have nb230 := Dj.bb K19 BK225
          have d231 := (dj1 h6.m BK225).symm
          have d232 := (dj1 h223.m BK225).symm
          have d233 := (dj1 h176.rd.m BK225).symm
          have d234 := (dj1 h207.rd.m BK225).symm
          have CK225 := Nat.le_trans hB.size BK225
          replace hB := Below.through l hB
          replace h6 := h6.go l
          replace h176 := h176.go l
          replace ow178 := ow178.go l
          replace h207 := h207.go l
          replace ow208 := ow208.go l
          replace h223 := h223.go l
          replace K2 := K2.thru l
          replace K10 := K10.thru l
          replace K19 := K19.thru l
          refine o_bstoreA (vs := [.int .i64 z200.1.free, .int .i64 z200.1.vars, v204]) Try.sizeOf114 F rfl rfl rfl K225 (oc rfl (oc rfl (oc (h207.rd).r.one on))) (Nat.le_of_ble_eq_true rfl) rfl (fun w K225 l => ?_)
          replace hB := hB.o l (fun c hc => by rw [List.mem_singleton] at hc; rw [hc]; exact CK225) hB.size
          replace h6 := h6.goO l d231
          replace h176 := h176.goO l d233
          replace ow178 := ow178.goO l d233.r
          replace h207 := h207.goO l d234
          replace ow208 := ow208.goO l d234.r
          replace K2 := K2.only l (by simpa using nb228)
          replace K10 := K10.only l (by simpa using nb229)
          replace K19 := K19.only l (by simpa using nb230)
          refine o_assign F rfl rfl (fun a F => ?_)
          refine x_end ?_
          refine x_tn ?_
          refine x_reg ?_
          refine o_bfield fa49_0 F rfl rfl rfl (fun a F => ?_)
          refine o_bload Try.isAgg47 F rfl rfl K19 rfl (fun a F => ?_)
          refine o_bloadA (cs := [.int .i64 z200.1.free, .int .i64 z200.1.vars, v204]) Try.isAgg114 Try.sizeOf114 F rfl rfl K225 rfl (fun j hj => by match j, hj with | 0, _ => rfl | 1, _ => rfl | 2, _ => rfl) (fun a F => ?_)
          have h235 := RFormula.mk2 (w := w) i202 i203 h207.rd
          refine o_lit1 (R := RFormula) (y := (Formula.mk z200.1.free z200.1.vars z200.1.atoms)) Try.underlying47 Try.sizeOf114 Try.zeroValue114 rfl (by decide) (by decide) F rfl rfl (El.agg h235) (fun a w v236 rb237 h238 l F => ?_)
          have ow239 := Own.go (h207.own ow208) l
          have d241 := Dj.new h6.m h238.ownR (Nat.le_refl _)
          have d242 := Dj.new h176.rd.m h238.ownR (Nat.le_refl _)
          have d243 := Dj.new (inm1 K2) h238.ownR (Nat.le_refl _)
          have d244 := Dj.new (inm1 K10) h238.ownR (Nat.le_refl _)
          have d245 := Dj.new (inm1 K19) h238.ownR (Nat.le_refl _)
          have d246 := Dj.app' (Dj.new h176.memR h238.ownR (Nat.le_refl _)).symm d215
          have d247 := Dj.app' (Dj.new h176.mem h238.ownR (Nat.le_refl _)).symm d216
          have d248 := Dj.app' (Dj.symm d243) d212
          have d249 := Dj.app' (Dj.symm d244) d213
          have d250 := Dj.app' (Dj.symm d245) d214
          replace h238 := h238.base hB.size
          replace hB := Below.through l hB
          replace h6 := h6.go l
          replace h176 := h176.go l
          replace ow178 := ow178.go l
          replace K2 := K2.thru l
          replace K10 := K10.thru l
          replace K19 := K19.thru l
          obtain ⟨z252, c253, hR⟩ := bnd_some hR
          refine o_append (sz := 3) (R := RFormula) (z := (.agg #[.int .i64 0, .int .i64 0, (.slice none 0 0)])) (bytes := 40) Try.underlying47 (by kernel_rfl) rfl (by decide) (by decide) (by decide) F rfl rfl rfl h176 h238.src hB.size (Dj.symm d246.r) c253 (fun a w v254 rb255 h256 l keep F => ?_)
          have ow257 := Own.append (Own.goO ow178 l h176.dj.symm) (Own.goO ow239 l (Dj.symm (Dj.symm d246.r))) (Dj.symm d247.r)
          have d259 := keep _ h6.m d179
          have d260 := keep _ (inm1 K2) (Dj.symm (Dj.l d180))
          have d261 := keep _ (inm1 K10) (Dj.symm (Dj.l d181))
          have d262 := keep _ (inm1 K19) (Dj.symm (Dj.l d182))
          replace hB := hB.o l h176.lo hB.size
          replace h6 := h6.goO l d179
          replace K2 := K2.only l (Dj.symm (Dj.l d180)).not
          replace K10 := K10.only l (Dj.symm (Dj.l d181)).not
          replace K19 := K19.only l (Dj.symm (Dj.l d182)).not
          have d263 := Dj.app' (Dj.symm d260) (Dj.app' (Dj.r d180) (Dj.r d248))
          have d264 := Dj.app' (Dj.symm d261) (Dj.app' (Dj.r d181) (Dj.r d249))
          have d265 := Dj.app' (Dj.symm d262) (Dj.app' (Dj.r d182) (Dj.r d250))
          refine o_bfield fa49_0 F rfl rfl rfl (fun a F => ?_)
          refine o_bstore Try.sizeOf47 F rfl rfl rfl K19 (h256.rd).r.one (by simp) rfl (fun w K19 l => ?_)
          replace hB := hB.o l (fun c hc => by rw [List.mem_singleton] at hc; rw [hc]; exact CK19) hB.size
          replace h6 := h6.goO l d22
          replace h256 := h256.goO l d265
          replace ow257 := ow257.goO l d265.r
          replace K2 := K2.only l (by simpa using nb20)
          replace K10 := K10.only l (by simpa using nb21)
          refine x_end ?_
          refine x_bn ?_
          refine x_tn ?_
          refine x_reg ?_
          refine o_move F rfl rfl (fun a F => ?_)
          refine o_inc F rfl rfl rfl ink192 (fun a F => ?_)
          refine o_assign F rfl rfl (fun a F => ?_)
          refine x_end ?_
          refine x_tn ?_
          replace hR := l_go hR hn169
          exact ⟨_, Nat.lt_succ_self _, k192 + 1, rest193, z252, v254, rb255, (ib177 ++ ((rb205 ++ ib206))), ⟨hd196.1, hd196.2.2⟩, rfl, hR, F.sub (sc rfl (sc rfl (sc rfl (sc rfl sn)))), hB, h256, ow257, h6, K2, K10, K19, d259, d263, d264, d265⟩
    · intro a w ⟨s183, v185, rb186, ib188, ho168, F, hB, h187, ow189, K10, K19, d190, d191⟩
      subst ho168
      have hR := then_nx hk167
      refine x_tn ?_
      refine x_seq ?_
      refine x_reg ?_
      refine o_bloadA (cs := [v185]) Try.isAgg49 Try.sizeOf49 F rfl rfl K19 rfl (fun j hj => by match j, hj with | 0, _ => rfl) (fun a F => ?_)
      have h267 := RGadgets.mk2 (w := w) h187.rd
      refine o_bstoreA (vs := [v185]) Try.sizeOf49 F rfl rfl rfl K10 (oc (h187.rd).r.one on) (Nat.le_of_ble_eq_true rfl) rfl (fun w K10 l => ?_)
      replace hB := hB.o l (fun c hc => by rw [List.mem_singleton] at hc; rw [hc]; exact CK10) hB.size
      replace h187 := h187.goO l d190
      replace ow189 := ow189.goO l d190.r
      refine o_assign F rfl rfl (fun a F => ?_)
      refine x_end ?_
      refine x_tn ?_
      refine x_ret ?_
      refine x_res2 F rfl (rv_cA (arr := #[v185]) F Try.isAgg49 Try.sizeOf49 rfl K10) (rv_t F rfl) ?_
      obtain rfl := Option.some.inj hR
      exact ⟨_, rfl, hB, v185, rb186, ib188, rfl, h187, ow189, (show I64 (0) by decide)⟩

def impl_OwnGadgets (x0 : Template) : Option (Gadgets × Int) :=
  bnd (impl_ValidTemplate (Template.mk x0.size x0.rels)) fun z14 =>
  if (!z14) then
    some ((Gadgets.mk ([])), 1)
  else
    thn (σ := (List Formula)) (
      forL (σ := (List Formula)) (ρ := Gadgets × Int) (fun (k191 : Nat) (x193 : Rel) (s171 : (List Formula)) =>
        bnd (impl_AtomFormula (Template.mk x0.size x0.rels) (k191 : Int)) fun z198 =>
        bnd (ap s171 ([(Formula.mk z198.1.free z198.1.vars z198.1.atoms)])) fun z250 =>
        some (.go z250)) x0.rels 0 []) fun s182 =>
    some ((Gadgets.mk s182), 0)
set_option maxHeartbeats 1000000 in
theorem impl_OwnGadgets_c {x0 : Template} (r : Gadgets × Int) (hR : impl_OwnGadgets x0 = some r) {v0 : Value} {b0 : List Nat} (w0 : World) (A0 : Rd (Agg 2 RTemplate) w0 v0 x0 b0) : Calls Try.prog 47 #[v0] w0 (Gives (fun v w' => ∃ (v1' : Value) (rb2' : List Nat) (ib3' : List Nat), v = .tuple #[.agg #[v1'], .int .i64 r.2] ∧ Row 3 RFormula 114 w0.heap.size w' v1' r.1.formulas rb2' ib3' ∧ Own w0.heap.size ib3' w' ∧ I64 r.2) w0) := by
  unfold impl_OwnGadgets at hR
  refine x_enter (L := [(0, v0)]) Try.func47 rfl rfl rfl (sc rfl sn) (fun a F => ?_)
  have hB := Below.refl w0.heap.size w0
  refine x_seq ?_
  refine x_reg ?_
  obtain ⟨v4, b5, e7, i3, h6, _⟩ := RTemplate.rd (A0.go hB)
  subst e7
  refine o_box F rfl rfl rfl (fun a w b1 K2 l BK2 F => ?_)
  have d8 := (dj1 h6.m BK2).symm
  have CK2 := Nat.le_trans hB.size BK2
  replace hB := Below.through l hB
  replace h6 := h6.go l
  refine o_alloc Try.zeroValue49 F rfl rfl (fun a w b9 K10 l BK10 F => ?_)
  have nb11 := Dj.bb K2 BK10
  have d12 := (dj1 h6.m BK10).symm
  have CK10 := Nat.le_trans hB.size BK10
  replace hB := Below.through l hB
  replace h6 := h6.go l
  replace K2 := K2.thru l
  refine o_assign F rfl rfl (fun a F => ?_)
  refine x_end ?_
  refine x_tn ?_
  refine x_seq ?_
  refine x_seq ?_
  refine x_reg ?_
  refine o_bloadA (cs := [.int .i64 x0.size, v4]) Try.isAgg87 Try.sizeOf87 F rfl rfl K2 rfl (fun j hj => by match j, hj with | 0, _ => rfl | 1, _ => rfl) (fun a F => ?_)
  have h13 := RTemplate.mk2 (w := w) i3 h6
  obtain ⟨z14, c15, hR⟩ := bnd_some hR
  refine o_says F rfl Try.call106 rfl (impl_ValidTemplate_c z14 c15 _ h13) (fun a w l F => ?_)
  replace hB := Below.through l hB
  replace h6 := h6.go l
  replace K2 := K2.thru l
  replace K10 := K10.thru l
  refine o_not F rfl rfl (fun a F => ?_)
  refine x_end ?_
  refine x_tn ?_
  refine x_if F rfl (fun hb16 => ?_) (fun hb16 => ?_)
  · replace hR := ifT hb16 hR
    refine x_seq ?_
    refine x_reg ?_
    refine o_build Try.underlying49 Try.zeroValue49 (fun w => by simp [Try.sizeOf47]; rfl) F rfl rfl rfl rfl rfl on rfl rfl (fun a F => ?_)
    have h17 := RGadgets.mk2 (w := w) (Rd.nil 3 RFormula _)
    refine o_bstoreA (vs := [(.slice none 0 0)]) Try.sizeOf49 F rfl rfl rfl K10 (oc rfl on) (Nat.le_of_ble_eq_true rfl) rfl (fun w K10 l => ?_)
    replace hB := hB.o l (fun c hc => by rw [List.mem_singleton] at hc; rw [hc]; exact CK10) hB.size
    refine o_assign F rfl rfl (fun a F => ?_)
    refine x_end ?_
    refine x_tn ?_
    refine x_ret ?_
    refine x_tr ?_
    refine x_res2 F rfl (rv_cA (arr := #[(.slice none 0 0)]) F Try.isAgg49 Try.sizeOf49 rfl K10) (rv_t F rfl) ?_
    obtain rfl := Option.some.inj hR
    exact ⟨_, rfl, hB, (.slice none 0 0), [], [], rfl, Row.nil 3 RFormula 114 _ _, Own.nil _ _, (show I64 (1) by decide)⟩
  · replace hR := ifF hb16 hR
    refine x_skip ?_
    refine x_tn ?_
    refine x_seq ?_
    refine x_reg ?_
    refine o_build Try.underlying49 Try.zeroValue49 (fun w => by simp [Try.sizeOf47]; rfl) F rfl rfl rfl rfl rfl on rfl rfl (fun a F => ?_)
    have h18 := RGadgets.mk2 (w := w) (Rd.nil 3 RFormula _)
    refine o_alloc Try.zeroValue49 F rfl rfl (fun a w b19 K20 l BK20 F => ?_)
    have nb21 := Dj.bb K2 BK20
    have nb22 := Dj.bb K10 BK20
    have d23 := (dj1 h6.m BK20).symm
    have d24 := (dj1 h18.m BK20).symm
    have CK20 := Nat.le_trans hB.size BK20
    replace hB := Below.through l hB
    replace h6 := h6.go l
    replace h18 := h18.go l
    replace K2 := K2.thru l
    replace K10 := K10.thru l
    refine o_bstoreA (vs := [(.slice none 0 0)]) Try.sizeOf49 F rfl rfl rfl K20 (oc rfl on) (Nat.le_of_ble_eq_true rfl) rfl (fun w K20 l => ?_)
    replace hB := hB.o l (fun c hc => by rw [List.mem_singleton] at hc; rw [hc]; exact CK20) hB.size
    replace h6 := h6.goO l d23
    replace K2 := K2.only l (by simpa using nb21)
    replace K10 := K10.only l (by simpa using nb22)
    refine x_end ?_
    refine x_tn ?_
    refine x_seq ?_
    refine x_seq ?_
    refine x_reg ?_
    refine o_bfield fa87_1 F rfl rfl rfl (fun a F => ?_)
    refine o_bload Try.isAgg85 F rfl rfl K2 rfl (fun a F => ?_)
    refine o_len Try.underlying85 F rfl rfl h6 (fun a F => ?_)
    have i25 := (h6).r.len64
    refine o_move F rfl rfl (fun a F => ?_)
    refine x_end ?_
    refine x_tn ?_
    obtain ⟨o165, hR, hk166⟩ := thn_some hR
    refine x_cutQ (fun a w => ∃ (s182 : List Formula) (v184 : Value) (rb185 : List Nat) (ib187 : List Nat), o165 = .nx s182 ∧ Sk a 33 [(2, .pointer (some ⟨b9, 0, none⟩)), (4, .pointer (some ⟨b19, 0, none⟩))] ∧ Below w0.heap.size w0 w ∧ Row 3 RFormula 114 w0.heap.size w v184 s182 rb185 ib187 ∧ Own w0.heap.size ib187 w ∧ Blk w b9 #[(.slice none 0 0)] 49 ∧ Blk w b19 #[v184] 49 ∧ Dj (rb185 ++ ib187) [b9] ∧ Dj (rb185 ++ ib187) [b19]) ?_ ?_
    · refine x_blk ?_
      obtain ⟨fl169, hf170, hR⟩ := forL_gen hR
      refine x_loop (fun g a w => ∃ (k191 : Nat) (rest192 : List Rel) (s171 : List Formula) (v173 : Value) (rb174 : List Nat) (ib176 : List Nat), (k191 ≤ x0.rels.length ∧ x0.rels.drop k191 = rest192) ∧ rest192.length = g ∧ forL fl169 rest192 k191 s171 = some o165 ∧ Sk a 33 [(16, .int .i64 (k191 : Int)), (1, .pointer (some ⟨b1, 0, none⟩)), (2, .pointer (some ⟨b9, 0, none⟩)), (4, .pointer (some ⟨b19, 0, none⟩)), (15, .int .i64 (x0.rels.length : Int))] ∧ Below w0.heap.size w0 w ∧ Row 3 RFormula 114 w0.heap.size w v173 s171 rb174 ib176 ∧ Own w0.heap.size ib176 w ∧ Rd (Sl 2 RRel) w v4 x0.rels b5 ∧ Blk w b1 #[.int .i64 x0.size, v4] 87 ∧ Blk w b9 #[(.slice none 0 0)] 49 ∧ Blk w b19 #[v173] 49 ∧ Dj b5 rb174 ∧ Dj (rb174 ++ ib176) [b1] ∧ Dj (rb174 ++ ib176) [b9] ∧ Dj (rb174 ++ ib176) [b19]) x0.rels.length ?_ ?_
      · exact ⟨0, x0.rels, [], (.slice none 0 0), [], [], ⟨Nat.zero_le _, rfl⟩, rfl, hR, F.sub (sc rfl (sc rfl (sc rfl (sc rfl (sc rfl sn))))), hB, Row.nil 3 RFormula 114 _ _, Own.nil _ _, h6, K2, K10, K20, (Dj.nil _), (Dj.nil' _), (Dj.nil' _), (Dj.nil' _)⟩
      · intro g194 a w ⟨k191, rest192, s171, v173, rb174, ib176, hd195, hg196, hR, F, hB, h175, ow177, h6, K2, K10, K20, d178, d179, d180, d181⟩
        cases rest192 with
        | nil =>
          replace hR := forL_nil hR
          have hkk191 := drop_nil hd195.1 hd195.2
          have hlk191 := dec_no hkk191
          refine x_seq ?_
          refine x_reg ?_
          refine o_lss F rfl rfl rfl (fun a F => ?_)
          refine x_end ?_
          refine x_tn ?_
          refine x_seq ?_
          refine x_ifF F rfl hlk191 ?_
          refine x_exit ?_
          refine x_te ?_
          refine x_te ?_
          refine x_be ?_
          refine x_tn ?_
          exact ⟨s171, v173, rb174, ib176, (Option.some.inj hR).symm, F.sub (sc rfl (sc rfl sn)), hB, h175, ow177, K10, K20, d180, d181⟩
        | cons x193 rest192 =>
          subst hg196
          replace hd195 := drop_cons hd195.2
          have hxk191 := ix_nat hd195.2.1
          obtain ⟨ck191, hR, hn168⟩ := forL_cons hR
          rw [hf170] at hR
          have hlk191 := dec_yes hd195.1
          refine x_seq ?_
          refine x_reg ?_
          refine o_lss F rfl rfl rfl (fun a F => ?_)
          refine x_end ?_
          refine x_tn ?_
          refine x_seq ?_
          refine x_ifT F rfl hlk191 ?_
          refine x_skip ?_
          refine x_tn ?_
          refine x_seq ?_
          have ikk191 := k64 (Nat.le_of_lt hd195.1) i25
          have ink191 := inc64 hd195.1 i25
          refine x_blk ?_
          refine x_seq ?_
          refine x_reg ?_
          refine o_move F rfl rfl (fun a F => ?_)
          refine o_assign F rfl rfl (fun a F => ?_)
          refine x_end ?_
          refine x_tn ?_
          refine x_seq ?_
          refine x_reg ?_
          refine o_bloadA (cs := [.int .i64 x0.size, v4]) Try.isAgg87 Try.sizeOf87 F rfl rfl K2 rfl (fun j hj => by match j, hj with | 0, _ => rfl | 1, _ => rfl) (fun a F => ?_)
          have h197 := RTemplate.mk2 (w := w) i3 h6
          refine o_move F rfl rfl (fun a F => ?_)
          obtain ⟨z198, c199, hR⟩ := bnd_some hR
          refine o_gives F rfl Try.call107 rfl (impl_AtomFormula_c z198 c199 _ h197 ikk191) (fun a vv w l ⟨v202, rb203, ib204, hv208, i200, i201, h205, ow206, i207⟩ F => ?_)
          subst vv
          have o209 := h205.own ow206
          have d210 := (Dj.new (inm1 K2) o209 (Nat.le_refl _)).symm
          have d211 := (Dj.new (inm1 K10) o209 (Nat.le_refl _)).symm
          have d212 := (Dj.new (inm1 K20) o209 (Nat.le_refl _)).symm
          have d213 := (Dj.new h175.memR o209 (Nat.le_refl _)).symm
          have d214 := (Dj.new h175.mem o209 (Nat.le_refl _)).symm
          have d216 := Dj.new h6.m h205.ownR (Nat.le_refl _)
          have d217 := Dj.new h175.rd.m h205.ownR (Nat.le_refl _)
          have d218 := Dj.new (inm1 K2) h205.ownR (Nat.le_refl _)
          have d219 := Dj.new (inm1 K10) h205.ownR (Nat.le_refl _)
          have d220 := Dj.new (inm1 K20) h205.ownR (Nat.le_refl _)
          replace h205 := h205.base hB.size
          replace ow206 := ow206.mono hB.size
          replace hB := Below.through l hB
          replace h6 := h6.go l
          replace h175 := h175.go l
          replace ow177 := ow177.go l
          replace K2 := K2.thru l
          replace K10 := K10.thru l
          replace K20 := K20.thru l
          have h221 := RFormula.mk2 (w := w) i200 i201 h205.rd
          refine o_move F rfl rfl (fun a F => ?_)
          refine o_extract F rfl rfl rfl (fun a F => ?_)
          refine o_extract F rfl rfl rfl (fun a F => ?_)
          refine o_alloc Try.zeroValue114 F rfl rfl (fun a w b222 K223 l BK223 F => ?_)
          have d224 := dj1 h175.memR BK223
          have d225 := dj1 h205.memR BK223
          have nb226 := Dj.bb K2 BK223
          have nb227 := Dj.bb K10 BK223
          have nb228 := Dj.bb K20 BK223
          have d229 := (dj1 h6.m BK223).symm
          have d230 := (dj1 h221.m BK223).symm
          have d231 := (dj1 h175.rd.m BK223).symm
          have d232 := (dj1 h205.rd.m BK223).symm
          have CK223 := Nat.le_trans hB.size BK223
          replace hB := Below.through l hB
          replace h6 := h6.go l
          replace h175 := h175.go l
          replace ow177 := ow177.go l
          replace h205 := h205.go l
          replace ow206 := ow206.go l
          replace h221 := h221.go l
          replace K2 := K2.thru l
          replace K10 := K10.thru l
          replace K20 := K20.thru l
          refine o_bstoreA (vs := [.int .i64 z198.1.free, .int .i64 z198.1.vars, v202]) Try.sizeOf114 F rfl rfl rfl K223 (oc rfl (oc rfl (oc (h205.rd).r.one on))) (Nat.le_of_ble_eq_true rfl) rfl (fun w K223 l => ?_)
          replace hB := hB.o l (fun c hc => by rw [List.mem_singleton] at hc; rw [hc]; exact CK223) hB.size
          replace h6 := h6.goO l d229
          replace h175 := h175.goO l d231
          replace ow177 := ow177.goO l d231.r
          replace h205 := h205.goO l d232
          replace ow206 := ow206.goO l d232.r
          replace K2 := K2.only l (by simpa using nb226)
          replace K10 := K10.only l (by simpa using nb227)
          replace K20 := K20.only l (by simpa using nb228)
          refine o_assign F rfl rfl (fun a F => ?_)
          refine x_end ?_
          refine x_tn ?_
          refine x_reg ?_
          refine o_bfield fa49_0 F rfl rfl rfl (fun a F => ?_)
          refine o_bload Try.isAgg47 F rfl rfl K20 rfl (fun a F => ?_)
          refine o_bloadA (cs := [.int .i64 z198.1.free, .int .i64 z198.1.vars, v202]) Try.isAgg114 Try.sizeOf114 F rfl rfl K223 rfl (fun j hj => by match j, hj with | 0, _ => rfl | 1, _ => rfl | 2, _ => rfl) (fun a F => ?_)
          have h233 := RFormula.mk2 (w := w) i200 i201 h205.rd
          refine o_lit1 (R := RFormula) (y := (Formula.mk z198.1.free z198.1.vars z198.1.atoms)) Try.underlying47 Try.sizeOf114 Try.zeroValue114 rfl (by decide) (by decide) F rfl rfl (El.agg h233) (fun a w v234 rb235 h236 l F => ?_)
          have ow237 := Own.go (h205.own ow206) l
          have d239 := Dj.new h6.m h236.ownR (Nat.le_refl _)
          have d240 := Dj.new h175.rd.m h236.ownR (Nat.le_refl _)
          have d241 := Dj.new (inm1 K2) h236.ownR (Nat.le_refl _)
          have d242 := Dj.new (inm1 K10) h236.ownR (Nat.le_refl _)
          have d243 := Dj.new (inm1 K20) h236.ownR (Nat.le_refl _)
          have d244 := Dj.app' (Dj.new h175.memR h236.ownR (Nat.le_refl _)).symm d213
          have d245 := Dj.app' (Dj.new h175.mem h236.ownR (Nat.le_refl _)).symm d214
          have d246 := Dj.app' (Dj.symm d241) d210
          have d247 := Dj.app' (Dj.symm d242) d211
          have d248 := Dj.app' (Dj.symm d243) d212
          replace h236 := h236.base hB.size
          replace hB := Below.through l hB
          replace h6 := h6.go l
          replace h175 := h175.go l
          replace ow177 := ow177.go l
          replace K2 := K2.thru l
          replace K10 := K10.thru l
          replace K20 := K20.thru l
          obtain ⟨z250, c251, hR⟩ := bnd_some hR
          refine o_append (sz := 3) (R := RFormula) (z := (.agg #[.int .i64 0, .int .i64 0, (.slice none 0 0)])) (bytes := 40) Try.underlying47 (by kernel_rfl) rfl (by decide) (by decide) (by decide) F rfl rfl rfl h175 h236.src hB.size (Dj.symm d244.r) c251 (fun a w v252 rb253 h254 l keep F => ?_)
          have ow255 := Own.append (Own.goO ow177 l h175.dj.symm) (Own.goO ow237 l (Dj.symm (Dj.symm d244.r))) (Dj.symm d245.r)
          have d257 := keep _ h6.m d178
          have d258 := keep _ (inm1 K2) (Dj.symm (Dj.l d179))
          have d259 := keep _ (inm1 K10) (Dj.symm (Dj.l d180))
          have d260 := keep _ (inm1 K20) (Dj.symm (Dj.l d181))
          replace hB := hB.o l h175.lo hB.size
          replace h6 := h6.goO l d178
          replace K2 := K2.only l (Dj.symm (Dj.l d179)).not
          replace K10 := K10.only l (Dj.symm (Dj.l d180)).not
          replace K20 := K20.only l (Dj.symm (Dj.l d181)).not
          have d261 := Dj.app' (Dj.symm d258) (Dj.app' (Dj.r d179) (Dj.r d246))
          have d262 := Dj.app' (Dj.symm d259) (Dj.app' (Dj.r d180) (Dj.r d247))
          have d263 := Dj.app' (Dj.symm d260) (Dj.app' (Dj.r d181) (Dj.r d248))
          refine o_bfield fa49_0 F rfl rfl rfl (fun a F => ?_)
          refine o_bstore Try.sizeOf47 F rfl rfl rfl K20 (h254.rd).r.one (by simp) rfl (fun w K20 l => ?_)
          replace hB := hB.o l (fun c hc => by rw [List.mem_singleton] at hc; rw [hc]; exact CK20) hB.size
          replace h6 := h6.goO l d23
          replace h254 := h254.goO l d263
          replace ow255 := ow255.goO l d263.r
          replace K2 := K2.only l (by simpa using nb21)
          replace K10 := K10.only l (by simpa using nb22)
          refine x_end ?_
          refine x_bn ?_
          refine x_tn ?_
          refine x_reg ?_
          refine o_inc F rfl rfl rfl ink191 (fun a F => ?_)
          refine o_move F rfl rfl (fun a F => ?_)
          refine x_end ?_
          refine x_tn ?_
          replace hR := l_go hR hn168
          exact ⟨_, Nat.lt_succ_self _, k191 + 1, rest192, z250, v252, rb253, (ib176 ++ ((rb203 ++ ib204))), ⟨hd195.1, hd195.2.2⟩, rfl, hR, F.sub (sc rfl (sc rfl (sc rfl (sc rfl (sc rfl sn))))), hB, h254, ow255, h6, K2, K10, K20, d257, d261, d262, d263⟩
    · intro a w ⟨s182, v184, rb185, ib187, ho167, F, hB, h186, ow188, K10, K20, d189, d190⟩
      subst ho167
      have hR := then_nx hk166
      refine x_tn ?_
      refine x_seq ?_
      refine x_reg ?_
      refine o_bloadA (cs := [v184]) Try.isAgg49 Try.sizeOf49 F rfl rfl K20 rfl (fun j hj => by match j, hj with | 0, _ => rfl) (fun a F => ?_)
      have h264 := RGadgets.mk2 (w := w) h186.rd
      refine o_bstoreA (vs := [v184]) Try.sizeOf49 F rfl rfl rfl K10 (oc (h186.rd).r.one on) (Nat.le_of_ble_eq_true rfl) rfl (fun w K10 l => ?_)
      replace hB := hB.o l (fun c hc => by rw [List.mem_singleton] at hc; rw [hc]; exact CK10) hB.size
      replace h186 := h186.goO l d189
      replace ow188 := ow188.goO l d189.r
      refine o_assign F rfl rfl (fun a F => ?_)
      refine x_end ?_
      refine x_tn ?_
      refine x_ret ?_
      refine x_res2 F rfl (rv_cA (arr := #[v184]) F Try.isAgg49 Try.sizeOf49 rfl K10) (rv_t F rfl) ?_
      obtain rfl := Option.some.inj hR
      exact ⟨_, rfl, hB, v184, rb185, ib187, rfl, h186, ow188, (show I64 (0) by decide)⟩
end Go.Proofs.Ytmfichdcomaaeaa
