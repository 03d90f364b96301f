/-
  Laws of the program as plain functions, and that they compute them. Printed by lawfx.py.
-/
import Derived.Test.YtjjdbdlbjdoebaaDoorS5
import Derived.Test.YtjjdbdlbjdoebaaDoorY
import Derived.Test.YtjjdbdlbjdoebaaDoorL5
namespace Go.Proofs.YtjjdbdlbjdoebaaDoor
set_option linter.unusedVariables false
set_option linter.unusedSimpArgs false
set_option maxRecDepth 100000
open Go.RowKit
noncomputable section
def laws_FnExactReadDeed (N : Nat) (x0 : ByteArray) : Option Bool :=
 if (decide (1048576 < (x0.size : Int))) then
  some true
 else
  bnd (spec_ReadDeed N x0) fun z12 =>
  bnd (impl_ReadDeed x0) fun z28 =>
  thn (σ := Bool) (
   bnd (eqq z28.1 z12.1) fun z53 =>
   if (!z53) then  some (.nx true) else  some (.nx (z28.2 != z12.2))) fun s52 =>
  if s52 then
   some false
  else
   some true
set_option maxHeartbeats 1000000 in
theorem laws_FnExactReadDeed_c {N : Nat} {x0 : ByteArray} (r : Bool) (hR : laws_FnExactReadDeed N x0 = some r)  (w0 : World) (hG : GloE w0) (hx0 : x0.size ≤ maxLen) : Calls Tryd.prog 7 #[.string x0] w0 (Says (.bool r) w0) := by
 unfold laws_FnExactReadDeed at hR
 refine x_enter (L := [(0, .string x0)]) Tryd.func7 rfl rfl rfl (sc rfl sn) (fun a F => ?_)
 have hB := Below.refl w0.heap.size w0
 refine x_seq ?_
 refine x_reg ?_
 refine o_assign F rfl rfl (fun a F => ?_)
 refine x_end ?_
 refine x_tn ?_
 refine x_seq ?_
 refine x_seq ?_
 refine x_reg ?_
 refine o_move F rfl rfl (fun a F => ?_)
 refine o_lenStr Tryd.underlying9 F rfl rfl (fun a F => ?_)
 refine o_gtr F rfl rfl rfl (fun a F => ?_)
 refine x_end ?_
 refine x_tn ?_
 refine x_if F rfl (fun hb11 => ?_) (fun hb11 => ?_)
 ·
  replace hR := ifT hb11 hR
  refine x_seq ?_
  refine x_reg ?_
  refine o_assign F rfl rfl (fun a F => ?_)
  refine x_end ?_
  refine x_tn ?_
  refine x_ret ?_
  refine x_tr ?_
  refine x_res1 F rfl (rv_t F rfl) ?_
  obtain rfl := Option.some.inj hR
  exact ⟨rfl, hB⟩
 replace hR := ifF hb11 hR
 refine x_skip ?_
 refine x_tn ?_
 refine x_seq ?_
 refine x_reg ?_
 refine o_move F rfl rfl (fun a F => ?_)
 obtain ⟨z12, c13, hR⟩ := bnd_some hR
 refine o_gives F rfl Tryd.call25 rfl (spec_ReadDeed_c z12 c13 _ hx0) (fun a vv w l ⟨hv18, i14, i15, i16, i17⟩ F => ?_)
 subst vv
 have h19 := RDeed.mk2 (w := w) i14 i15 i16
 have o20 := (fun (B : Nat) => Own.nil B w)
 replace o20 := o20 w0.heap.size
 replace hB := Below.through l hB
 refine o_move F rfl rfl (fun a F => ?_)
 refine o_extract F rfl rfl rfl (fun a F => ?_)
 refine o_extract F rfl rfl rfl (fun a F => ?_)
 refine o_alloc Tryd.zeroValue38 F rfl rfl (fun a w b21 K22 l BK22 F => ?_)
 have d23 := (dj1 h19.m BK22).symm
 have CK22 := Nat.le_trans hB.size BK22
 replace hB := Below.through l hB
 replace h19 := h19.go l
 replace o20 := o20.go l
 refine o_bstoreA (vs := [.int .i64 z12.1.kind, .int .i64 z12.1.a, .int .i64 z12.1.b]) Tryd.sizeOf38 F rfl rfl rfl K22 (oc rfl (oc rfl (oc rfl on))) (Nat.le_of_ble_eq_true rfl) rfl (fun w K22 l => ?_)
 replace hB := hB.o l (fun c hc => by rw [List.mem_singleton] at hc; rw [hc]; exact CK22) hB.size
 replace h19 := h19.goO l d23
 replace o20 := o20.goO l d23
 refine o_assign F rfl rfl (fun a F => ?_)
 refine x_end ?_
 refine x_tn ?_
 refine x_seq ?_
 refine x_reg ?_
 refine o_move F rfl rfl (fun a F => ?_)
 obtain ⟨z28, c29, hR⟩ := bnd_some hR
 refine o_gives F rfl Tryd.call26 rfl (impl_ReadDeed_c z28 c29 _ (hG.go hB) hx0) (fun a vv w l ⟨hv34, i30, i31, i32, i33⟩ F => ?_)
 subst vv
 have h35 := RDeed.mk2 (w := w) i30 i31 i32
 have o36 := (fun (B : Nat) => Own.nil B w)
 replace o36 := o36 w0.heap.size
 replace hB := Below.through l hB
 replace h19 := h19.go l
 replace o20 := o20.go l
 replace K22 := K22.thru l
 refine o_move F rfl rfl (fun a F => ?_)
 refine o_extract F rfl rfl rfl (fun a F => ?_)
 refine o_extract F rfl rfl rfl (fun a F => ?_)
 refine o_alloc Tryd.zeroValue38 F rfl rfl (fun a w b37 K38 l BK38 F => ?_)
 have nb39 := Dj.bb K22 BK38
 have d40 := (dj1 h19.m BK38).symm
 have d41 := (dj1 h35.m BK38).symm
 have CK38 := Nat.le_trans hB.size BK38
 replace hB := Below.through l hB
 replace h19 := h19.go l
 replace o20 := o20.go l
 replace h35 := h35.go l
 replace o36 := o36.go l
 replace K22 := K22.thru l
 refine o_bstoreA (vs := [.int .i64 z28.1.kind, .int .i64 z28.1.a, .int .i64 z28.1.b]) Tryd.sizeOf38 F rfl rfl rfl K38 (oc rfl (oc rfl (oc rfl on))) (Nat.le_of_ble_eq_true rfl) rfl (fun w K38 l => ?_)
 replace hB := hB.o l (fun c hc => by rw [List.mem_singleton] at hc; rw [hc]; exact CK38) hB.size
 replace h19 := h19.goO l d40
 replace o20 := o20.goO l d40
 replace h35 := h35.goO l d41
 replace o36 := o36.goO l d41
 replace K22 := K22.only l (by simpa using nb39)
 refine o_assign F rfl rfl (fun a F => ?_)
 refine x_end ?_
 refine x_tn ?_
 refine x_seq ?_
 refine x_seq ?_
 obtain ⟨o49, hR, hk50⟩ := thn_some hR
 refine x_cutQ (fun a w => ∃ (s52 : Bool), o49 = .nx s52 ∧ Sk a 29 [(28, .bool s52)] ∧ Below w0.heap.size w0 w) ?_ ?_
 ·
  refine x_reg ?_
  refine o_bloadA (cs := [.int .i64 z28.1.kind, .int .i64 z28.1.a, .int .i64 z28.1.b]) Tryd.isAgg38 Tryd.sizeOf38 F rfl rfl K38 rfl (fun j hj => by match j, hj with | 0, _ => rfl | 1, _ => rfl | 2, _ => rfl) (fun a F => ?_)
  refine o_bloadA (cs := [.int .i64 z12.1.kind, .int .i64 z12.1.a, .int .i64 z12.1.b]) Tryd.isAgg38 Tryd.sizeOf38 F rfl rfl K22 rfl (fun j hj => by match j, hj with | 0, _ => rfl | 1, _ => rfl | 2, _ => rfl) (fun a F => ?_)
  obtain ⟨z53, c54, hR⟩ := bnd_some hR
  refine o_says F rfl Tryd.call27 rfl (eqq_says (fun y => Rd (Agg 3 RDeed) _ _ y _) c54 h19 (fun hy => eqDeed_any _ _ _ _ _ _ h35.r hy.r h35.m hy.m)) (fun a w l F => ?_)
  replace hB := Below.through l hB
  refine o_not F rfl rfl (fun a F => ?_)
  refine o_move F rfl rfl (fun a F => ?_)
  rcases bcases (!z53) with hb55 | hb55
  ·
   replace hR := ifT hb55 hR
   have F := F.eq (t := 24) rfl (congrArg Value.bool hb55)
   refine o_no F rfl rfl (fun a F => ?_)
   refine o_no F rfl rfl (fun a F => ?_)
   refine o_no F rfl rfl (fun a F => ?_)
   refine o_pickt F rfl rfl rfl (fun a F => ?_)
   refine x_end ?_
   refine x_tn ?_
   exact ⟨true, (Option.some.inj hR).symm, F.sub (sc rfl sn), hB⟩
  replace hR := ifF hb55 hR
  have F := F.eq (t := 24) rfl (congrArg Value.bool hb55)
  refine o_move F rfl rfl (fun a F => ?_)
  refine o_move F rfl rfl (fun a F => ?_)
  refine o_neq F rfl rfl rfl (fun a F => ?_)
  refine o_pickf F rfl rfl rfl (fun a F => ?_)
  refine x_end ?_
  refine x_tn ?_
  exact ⟨(z28.2 != z12.2), (Option.some.inj hR).symm, F.sub (sc rfl sn), hB⟩
 intro a w ⟨s52, ho51, F, hB⟩
 subst ho51
 have hR := then_nx hk50
 refine x_tn ?_
 refine x_if F rfl (fun hb56 => ?_) (fun hb56 => ?_)
 ·
  replace hR := ifT hb56 hR
  refine x_seq ?_
  refine x_reg ?_
  refine o_assign F rfl rfl (fun a F => ?_)
  refine x_end ?_
  refine x_tn ?_
  refine x_ret ?_
  refine x_tr ?_
  refine x_res1 F rfl (rv_t F rfl) ?_
  obtain rfl := Option.some.inj hR
  exact ⟨rfl, hB⟩
 replace hR := ifF hb56 hR
 refine x_skip ?_
 refine x_tn ?_
 refine x_seq ?_
 refine x_reg ?_
 refine o_assign F rfl rfl (fun a F => ?_)
 refine x_end ?_
 refine x_tn ?_
 refine x_ret ?_
 refine x_res1 F rfl (rv_t F rfl) ?_
 obtain rfl := Option.some.inj hR
 exact ⟨rfl, hB⟩
end
end Go.Proofs.YtjjdbdlbjdoebaaDoor
