/-
  Functions of the program as plain functions, and that they compute them. Printed by fxio.py.
-/
import Derived.Test.YtfggmelojaicfaaGreatS5b
namespace Go.Proofs.YtfggmelojaicfaaGreat
set_option linter.unusedVariables false
set_option linter.unusedSimpArgs false
set_option maxRecDepth 100000
open Go.RowKit
def spec_l08Distinct (x0 : List Literal) : Option Bool :=
 thn (σ := Unit) (
  forL (σ := Unit) (ρ := Bool) (fun (k71 : Nat) (x73 : Literal) (s : Unit) =>
    match s with
    | _ =>
    thn (σ := Unit) (
     forI (σ := Unit) (ρ := (Ctl (Unit) Bool)) (fun (k105 : Nat) (s : Unit) =>
       match s with
       | _ =>
       bnd (ix x0 (k105 : Int)) fun z120 =>
       if (x73.var == z120.var) then
        some (.ret (.ret false))
       else
        some (.go ())) (k71 : Int).toNat 0 ()) fun _ =>
    some (.go ())) x0 0 ()) fun _ =>
 bnd (spec_l01Arity (x0.length : Int)) fun z134 =>
 some z134
set_option maxHeartbeats 1000000 in
theorem spec_l08Distinct_c {x0 : List Literal} (r : Bool) (hR : spec_l08Distinct x0 = some r) {v0 : Value} {b0 : List Nat} (w0 : World) (A0 : Rd (Sl 2 RLiteral) w0 v0 x0 b0) : Calls Tryz.prog 82 #[v0] w0 (Says (.bool r) w0) := by
 unfold spec_l08Distinct at hR
 refine x_enter (L := [(0, v0)]) Tryz.func82 rfl rfl rfl (sc rfl sn) (fun a F => ?_)
 have hB := Below.refl w0.heap.size w0
 refine x_seq ?_
 refine x_reg ?_
 refine o_assign F rfl rfl (fun a F => ?_)
 refine x_end ?_
 refine x_tn ?_
 refine x_seq ?_
 refine x_seq ?_
 refine x_reg ?_
 refine o_assign F rfl rfl (fun a F => ?_)
 refine x_end ?_
 refine x_tn ?_
 obtain ⟨o65, hR, hk66⟩ := thn_some hR
 refine x_cutQ (fun a w => o65 = .nx () ∧ Sk a 30 [(0, v0)] ∧ Below w0.heap.size w0 w) ?_ ?_
 ·
  refine x_blk ?_
  obtain ⟨fl69, hf70, hR⟩ := forL_gen hR
  refine x_loop (fun g a w => ∃ (k71 : Nat) (rest72 : List Literal), (k71 ≤ x0.length ∧ x0.drop k71 = rest72) ∧ rest72.length = g ∧ forL fl69 rest72 k71 () = some o65 ∧ Sk a 30 [(3, .int .i64 (k71 : Int)), (0, v0)] ∧ Below w0.heap.size w0 w) x0.length ?_ ?_
  ·
   exact ⟨0, x0, ⟨Nat.zero_le _, rfl⟩, rfl, hR, F.sub (sc rfl (sc rfl sn)), hB⟩
  intro g74 a w ⟨k71, rest72, hd75, hg76, hR, F, hB⟩
  cases rest72 with
  | nil =>
   replace hR := forL_nil hR
   have hkk71 := drop_nil hd75.1 hd75.2
   have hlk71 := dec_no hkk71
   refine x_seq ?_
   refine x_seq ?_
   refine x_reg ?_
   refine o_move F rfl rfl (fun a F => ?_)
   refine o_move F rfl rfl (fun a F => ?_)
   refine o_len Tryz.underlying124 F rfl rfl (A0.go hB) (fun a F => ?_)
   have i132 := ((A0.go hB)).r.len64
   refine o_lss F rfl rfl rfl (fun a F => ?_)
   refine x_end ?_
   refine x_tn ?_
   refine x_ifF F rfl hlk71 ?_
   refine x_exit ?_
   refine x_te ?_
   refine x_te ?_
   refine x_be ?_
   refine x_tn ?_
   exact ⟨(Option.some.inj hR).symm, F.sub (sc rfl sn), hB⟩
  | cons x73 rest72 =>
   subst hg76
   replace hd75 := drop_cons hd75.2
   have hxk71 := ix_nat hd75.2.1
   obtain ⟨ck71, hR, hn68⟩ := forL_cons hR
   rw [hf70] at hR
   have hlk71 := dec_yes hd75.1
   refine x_seq ?_
   refine x_seq ?_
   refine x_reg ?_
   refine o_move F rfl rfl (fun a F => ?_)
   refine o_move F rfl rfl (fun a F => ?_)
   refine o_len Tryz.underlying124 F rfl rfl (A0.go hB) (fun a F => ?_)
   have i77 := ((A0.go hB)).r.len64
   refine o_lss F rfl rfl rfl (fun a F => ?_)
   refine x_end ?_
   refine x_tn ?_
   refine x_ifT F rfl hlk71 ?_
   refine x_skip ?_
   refine x_tn ?_
   refine x_seq ?_
   have ikk71 := k64 (Nat.le_of_lt hd75.1) i77
   have ink71 := inc64 hd75.1 i77
   refine x_blk ?_
   refine x_seq ?_
   refine x_reg ?_
   refine o_assign F rfl rfl (fun a F => ?_)
   refine x_end ?_
   refine x_tn ?_
   obtain ⟨o99, hR, hk100⟩ := thn_some hR
   refine x_cutQ (fun a w => o99 = .nx () ∧ Sk a 30 [(0, v0), (3, .int .i64 (k71 : Int))] ∧ Below w0.heap.size w0 w) ?_ ?_
   ·
    refine x_blk ?_
    obtain ⟨fl103, hf104, hR⟩ := forI_gen hR
    refine x_loop (fun g a w => ∃ (k105 : Nat), k105 + g = (k71 : Int).toNat ∧ forI fl103 g k105 () = some o99 ∧ Sk a 30 [(4, .int .i64 (k105 : Int)), (0, v0), (3, .int .i64 (k71 : Int))] ∧ Below w0.heap.size w0 w) (k71 : Int).toNat ?_ ?_
    ·
     exact ⟨0, (Nat.zero_add _), hR, F.sub (sc rfl (sc rfl (sc rfl sn))), hB⟩
    intro g108 a w ⟨k105, hd109, hR, F, hB⟩
    cases g108 with
    | zero =>
     replace hR := forI_zero hR
     have hlk105 := dec_noI hd109
     refine x_seq ?_
     refine x_seq ?_
     refine x_reg ?_
     refine o_move F rfl rfl (fun a F => ?_)
     refine o_move F rfl rfl (fun a F => ?_)
     refine o_lss F rfl rfl rfl (fun a F => ?_)
     refine x_end ?_
     refine x_tn ?_
     refine x_ifF F rfl hlk105 ?_
     refine x_exit ?_
     refine x_te ?_
     refine x_te ?_
     refine x_be ?_
     refine x_tn ?_
     exact ⟨(Option.some.inj hR).symm, F.sub (sc rfl (sc rfl sn)), hB⟩
    | succ g108 =>
     obtain ⟨ck105, hR, hn102⟩ := forI_succ hR
     rw [hf104] at hR
     have hlk105 := dec_yesI hd109
     refine x_seq ?_
     refine x_seq ?_
     refine x_reg ?_
     refine o_move F rfl rfl (fun a F => ?_)
     refine o_move F rfl rfl (fun a F => ?_)
     refine o_lss F rfl rfl rfl (fun a F => ?_)
     refine x_end ?_
     refine x_tn ?_
     refine x_ifT F rfl hlk105 ?_
     refine x_skip ?_
     refine x_tn ?_
     refine x_seq ?_
     have ikk105 := k64I hd109 ikk71
     have ink105 := inc64I hd109 ikk71
     refine x_blk ?_
     refine x_seq ?_
     refine x_draw (by kernel_rfl) (by kernel_rfl) ?_
     refine q_val F rfl (fun w l => r_move F rfl) (fun a F => ?_)
     refine q_val F rfl (fun w l => r_move F rfl) (fun a F => ?_)
     refine q_index Tryz.underlying124 Tryz.sizeOf132 F rfl rfl rfl (A0.go hB) hxk71 (fun a p111 b112 h113 s114 F => ?_)
     refine q_field (s' := 1) fa132_0 F rfl rfl h113 RLiteral.f0 (fun a p115 b116 h117 s118 F => ?_)
     have i119 := (h117).i64
     refine q_val F rfl (fun w l => r_loadI Tryz.isAgg2 F rfl ((h117).go l)) (fun a F => ?_)
     refine q_val F rfl (fun w l => r_move F rfl) (fun a F => ?_)
     refine q_val F rfl (fun w l => r_move F rfl) (fun a F => ?_)
     obtain ⟨z120, c121, hR⟩ := bnd_some hR
     refine q_index Tryz.underlying124 Tryz.sizeOf132 F rfl rfl rfl (A0.go hB) c121 (fun a p122 b123 h124 s125 F => ?_)
     refine q_field (s' := 1) fa132_0 F rfl rfl h124 RLiteral.f0 (fun a p126 b127 h128 s129 F => ?_)
     have i130 := (h128).i64
     refine q_val F rfl (fun w l => r_loadI Tryz.isAgg2 F rfl ((h128).go l)) (fun a F => ?_)
     refine q_val F rfl (fun w l => r_eql F rfl rfl) (fun a F => ?_)
     refine q_end (fun w l => ?_)
     replace hB := Below.through l hB
     refine x_tn ?_
     refine x_if F rfl (fun hb131 => ?_) (fun hb131 => ?_)
     ·
      replace hR := ifT hb131 hR
      refine x_seq ?_
      refine x_reg ?_
      refine o_assign F rfl rfl (fun a F => ?_)
      refine x_end ?_
      refine x_tn ?_
      refine x_ret ?_
      refine x_br ?_
      refine x_tr ?_
      refine x_tr ?_
      replace hR := l_ret hR hn102
      refine x_br ?_
      refine x_tr ?_
      replace hR := j_ret hR hk100
      refine x_br ?_
      refine x_tr ?_
      refine x_tr ?_
      replace hR := l_ret hR hn68
      refine x_br ?_
      refine x_tr ?_
      replace hR := j_ret hR hk66
      refine x_tr ?_
      refine x_res1 F rfl (rv_t F rfl) ?_
      obtain rfl := Option.some.inj hR
      exact ⟨rfl, hB⟩
     replace hR := ifF hb131 hR
     refine x_skip ?_
     refine x_bn ?_
     refine x_tn ?_
     refine x_reg ?_
     refine o_move F rfl rfl (fun a F => ?_)
     refine o_inc F rfl rfl rfl ink105 (fun a F => ?_)
     refine o_assign F rfl rfl (fun a F => ?_)
     refine x_end ?_
     refine x_tn ?_
     replace hR := l_go hR hn102
     exact ⟨_, Nat.lt_succ_self _, k105 + 1, (by omega), hR, F.sub (sc rfl (sc rfl (sc rfl sn))), hB⟩
   intro a w ⟨ho101, F, hB⟩
   subst ho101
   have hR := then_nx hk100
   refine x_bn ?_
   refine x_tn ?_
   refine x_reg ?_
   refine o_move F rfl rfl (fun a F => ?_)
   refine o_inc F rfl rfl rfl ink71 (fun a F => ?_)
   refine o_assign F rfl rfl (fun a F => ?_)
   refine x_end ?_
   refine x_tn ?_
   replace hR := l_go hR hn68
   exact ⟨_, Nat.lt_succ_self _, k71 + 1, rest72, ⟨hd75.1, hd75.2.2⟩, rfl, hR, F.sub (sc rfl (sc rfl sn)), hB⟩
 intro a w ⟨ho67, F, hB⟩
 subst ho67
 have hR := then_nx hk66
 refine x_tn ?_
 refine x_seq ?_
 refine x_reg ?_
 refine o_move F rfl rfl (fun a F => ?_)
 refine o_len Tryz.underlying124 F rfl rfl (A0.go hB) (fun a F => ?_)
 have i133 := ((A0.go hB)).r.len64
 obtain ⟨z134, c135, hR⟩ := bnd_some hR
 refine o_says F rfl Tryz.call164 rfl (spec_l01Arity_c z134 c135 _ i133) (fun a w l F => ?_)
 replace hB := Below.through l hB
 refine o_assign F rfl rfl (fun a F => ?_)
 refine x_end ?_
 refine x_tn ?_
 refine x_ret ?_
 refine x_res1 F rfl (rv_t F rfl) ?_
 obtain rfl := Option.some.inj hR
 exact ⟨rfl, hB⟩

def spec_l03Rels (x0 : List Rel) : Option (List Rel) :=
 thn (σ := (List Rel)) (
  forL (σ := (List Rel)) (ρ := (List Rel)) (fun (k683 : Nat) (x685 : Rel) (s669 : (List Rel)) =>
   thn (σ := (List (List Int))) (
    forL (σ := (List (List Int))) (ρ := (Ctl ((List Rel)) (List Rel))) (fun (k903 : Nat) (x905 : (List Int)) (s881 : (List (List Int))) =>
     bnd (spec_l00Own x905) fun z942 =>
     bnd (ap s881 ([z942])) fun z970 =>
     some (.go z970)) x685.tuples 0 []) fun s892 =>
   bnd (ap s669 ([(Rel.mk x685.arity s892)])) fun z1006 =>
   some (.go z1006)) x0 0 []) fun s676 =>
 some s676
set_option maxHeartbeats 1000000 in
theorem spec_l03Rels_c {x0 : List Rel} (r : (List Rel)) (hR : spec_l03Rels x0 = some r) {v0 : Value} {b0 : List Nat} (w0 : World) (A0 : Rd (Sl 2 RRel) w0 v0 x0 b0) : Calls Tryz.prog 83 #[v0] w0 (Gives (fun v w' => ∃ (v1' : Value) (rb2' : List Nat) (ib3' : List Nat), v = v1' ∧ Row 2 RRel 101 w0.heap.size w' v1' r rb2' ib3' ∧ Own w0.heap.size ib3' w') w0) := by
 unfold spec_l03Rels at hR
 refine x_enter (L := [(0, v0)]) Tryz.func83 rfl rfl rfl (sc rfl sn) (fun a F => ?_)
 have hB := Below.refl w0.heap.size w0
 refine x_seq ?_
 refine x_reg ?_
 refine o_assign F rfl rfl (fun a F => ?_)
 refine x_end ?_
 refine x_tn ?_
 refine x_seq ?_
 refine x_reg ?_
 refine o_lit0 (R := RRel) Tryz.underlying31 Tryz.sizeOf101 F rfl (fun a w v11 rb12 h13 l F => ?_)
 replace h13 := h13.base hB.size
 replace hB := Below.through l hB
 refine o_assign F rfl rfl (fun a F => ?_)
 refine x_end ?_
 refine x_tn ?_
 refine x_seq ?_
 refine x_seq ?_
 refine x_reg ?_
 refine o_assign F rfl rfl (fun a F => ?_)
 refine x_end ?_
 refine x_tn ?_
 obtain ⟨o663, hR, hk664⟩ := thn_some hR
 refine x_cutQ (fun a w => ∃ (s676 : List Rel) (v679 : Value) (rb680 : List Nat) (ib681 : List Nat), o663 = .nx s676 ∧ Sk a 49 [(3, v679)] ∧ Below w0.heap.size w0 w ∧ Row 2 RRel 101 w0.heap.size w v679 s676 rb680 ib681 ∧ Own w0.heap.size ib681 w) ?_ ?_
 ·
  refine x_blk ?_
  obtain ⟨fl667, hf668, hR⟩ := forL_gen hR
  refine x_loop (fun g a w => ∃ (k683 : Nat) (rest684 : List Rel) (s669 : List Rel) (v672 : Value) (rb673 : List Nat) (ib674 : List Nat), (k683 ≤ x0.length ∧ x0.drop k683 = rest684) ∧ rest684.length = g ∧ forL fl667 rest684 k683 s669 = some o663 ∧ Sk a 49 [(4, .int .i64 (k683 : Int)), (0, v0), (3, v672)] ∧ Below w0.heap.size w0 w ∧ Row 2 RRel 101 w0.heap.size w v672 s669 rb673 ib674 ∧ Own w0.heap.size ib674 w) x0.length ?_ ?_
  ·
   exact ⟨0, x0, [], v11, rb12, [], ⟨Nat.zero_le _, rfl⟩, rfl, hR, F.sub (sc rfl (sc rfl (sc rfl sn))), hB, h13, (Own.nil _ _)⟩
  intro g686 a w ⟨k683, rest684, s669, v672, rb673, ib674, hd687, hg688, hR, F, hB, h671, ow675⟩
  cases rest684 with
  | nil =>
   replace hR := forL_nil hR
   have hkk683 := drop_nil hd687.1 hd687.2
   have hlk683 := dec_no hkk683
   refine x_seq ?_
   refine x_seq ?_
   refine x_reg ?_
   refine o_move F rfl rfl (fun a F => ?_)
   refine o_move F rfl rfl (fun a F => ?_)
   refine o_len Tryz.underlying31 F rfl rfl (A0.go hB) (fun a F => ?_)
   have i1013 := ((A0.go hB)).r.len64
   refine o_lss F rfl rfl rfl (fun a F => ?_)
   refine x_end ?_
   refine x_tn ?_
   refine x_ifF F rfl hlk683 ?_
   refine x_exit ?_
   refine x_te ?_
   refine x_te ?_
   refine x_be ?_
   refine x_tn ?_
   exact ⟨s669, v672, rb673, ib674, (Option.some.inj hR).symm, F.sub (sc rfl sn), hB, h671, ow675⟩
  | cons x685 rest684 =>
   subst hg688
   replace hd687 := drop_cons hd687.2
   have hxk683 := ix_nat hd687.2.1
   obtain ⟨ck683, hR, hn666⟩ := forL_cons hR
   rw [hf668] at hR
   have hlk683 := dec_yes hd687.1
   refine x_seq ?_
   refine x_seq ?_
   refine x_reg ?_
   refine o_move F rfl rfl (fun a F => ?_)
   refine o_move F rfl rfl (fun a F => ?_)
   refine o_len Tryz.underlying31 F rfl rfl (A0.go hB) (fun a F => ?_)
   have i689 := ((A0.go hB)).r.len64
   refine o_lss F rfl rfl rfl (fun a F => ?_)
   refine x_end ?_
   refine x_tn ?_
   refine x_ifT F rfl hlk683 ?_
   refine x_skip ?_
   refine x_tn ?_
   refine x_seq ?_
   have ikk683 := k64 (Nat.le_of_lt hd687.1) i689
   have ink683 := inc64 hd687.1 i689
   refine x_blk ?_
   refine x_seq ?_
   refine x_reg ?_
   refine o_move F rfl rfl (fun a F => ?_)
   refine o_move F rfl rfl (fun a F => ?_)
   refine o_index Tryz.underlying31 Tryz.sizeOf101 F rfl rfl rfl (A0.go hB) hxk683 (fun a p690 b691 h692 s693 F => ?_)
   refine o_field (s' := 1) fa101_0 F rfl rfl h692 RRel.f0 (fun a p694 b695 h696 s697 F => ?_)
   have i698 := (h696).i64
   refine o_loadI Tryz.isAgg2 F rfl rfl h696 (fun a F => ?_)
   refine o_build Tryz.underlying101 Tryz.zeroValue101 (fun w => by simp [Tryz.sizeOf2, Tryz.sizeOf99]; rfl) F rfl rfl rfl rfl rfl (oc rfl on) rfl rfl (fun a F => ?_)
   have h699 := RRel.mk2 (w := w) i698 (Rd.nil 1 (RSl 1 RInt) _)
   refine o_alloc Tryz.zeroValue101 F rfl rfl (fun a w b700 K701 l BK701 F => ?_)
   have d702 := dj1 h671.memR BK701
   have d703 := (dj1 h692.m BK701).symm
   have d704 := (dj1 h696.m BK701).symm
   have d705 := (dj1 h699.m BK701).symm
   have d706 := (dj1 h671.rd.m BK701).symm
   have CK701 := Nat.le_trans hB.size BK701
   replace hB := Below.through l hB
   replace h671 := h671.go l
   replace ow675 := ow675.go l
   replace h699 := h699.go l
   refine o_bstoreA (vs := [.int .i64 x685.arity, (.slice none 0 0)]) Tryz.sizeOf101 F rfl rfl rfl K701 (oc rfl (oc rfl on)) (Nat.le_of_ble_eq_true rfl) rfl (fun w K701 l => ?_)
   replace hB := hB.o l (fun c hc => by rw [List.mem_singleton] at hc; rw [hc]; exact CK701) hB.size
   replace h671 := h671.goO l d706
   replace ow675 := ow675.goO l d706.r
   refine x_end ?_
   refine x_tn ?_
   refine x_seq ?_
   refine x_seq ?_
   refine x_reg ?_
   refine o_assign F rfl rfl (fun a F => ?_)
   refine x_end ?_
   refine x_tn ?_
   obtain ⟨o875, hR, hk876⟩ := thn_some hR
   refine x_cutQ (fun a w => ∃ (s892 : List (List Int)) (v895 : Value) (rb896 : List Nat) (ib897 : List Nat), o875 = .nx s892 ∧ Sk a 49 [(0, v0), (3, v672), (4, .int .i64 (k683 : Int)), (5, .pointer (some ⟨b700, 0, none⟩))] ∧ Below w0.heap.size w0 w ∧ Row 1 (RSl 1 RInt) 42 w0.heap.size w v895 s892 rb896 ib897 ∧ Own w0.heap.size ib897 w ∧ Row 2 RRel 101 w0.heap.size w v672 s669 rb673 ib674 ∧ Own w0.heap.size ib674 w ∧ Blk w b700 #[.int .i64 x685.arity, v895] 101 ∧ Dj (rb896 ++ ib897) [b700] ∧ Dj (rb673 ++ ib674) rb896 ∧ Dj (rb896 ++ ib897) rb673 ∧ Dj (rb896 ++ ib897) ib674) ?_ ?_
   ·
    refine x_blk ?_
    obtain ⟨fl879, hf880, hR⟩ := forL_gen hR
    refine x_loop (fun g a w => ∃ (k903 : Nat) (rest904 : List (List Int)) (s881 : List (List Int)) (v884 : Value) (rb885 : List Nat) (ib886 : List Nat), (k903 ≤ x685.tuples.length ∧ x685.tuples.drop k903 = rest904) ∧ rest904.length = g ∧ forL fl879 rest904 k903 s881 = some o875 ∧ Sk a 49 [(6, .int .i64 (k903 : Int)), (0, v0), (3, v672), (4, .int .i64 (k683 : Int)), (5, .pointer (some ⟨b700, 0, none⟩))] ∧ Below w0.heap.size w0 w ∧ Row 1 (RSl 1 RInt) 42 w0.heap.size w v884 s881 rb885 ib886 ∧ Own w0.heap.size ib886 w ∧ Row 2 RRel 101 w0.heap.size w v672 s669 rb673 ib674 ∧ Own w0.heap.size ib674 w ∧ Blk w b700 #[.int .i64 x685.arity, v884] 101 ∧ Dj (rb885 ++ ib886) [b700] ∧ Dj (rb673 ++ ib674) rb885 ∧ Dj (rb885 ++ ib886) rb673 ∧ Dj (rb885 ++ ib886) ib674) x685.tuples.length ?_ ?_
    ·
     exact ⟨0, x685.tuples, [], (.slice none 0 0), [], [], ⟨Nat.zero_le _, rfl⟩, rfl, hR, F.sub (sc rfl (sc rfl (sc rfl (sc rfl (sc rfl sn))))), hB, Row.nil 1 (RSl 1 RInt) 42 _ _, Own.nil _ _, h671, ow675, K701, (Dj.nil' _), (Dj.nil _), (Dj.nil' _), (Dj.nil' _)⟩
    intro g906 a w ⟨k903, rest904, s881, v884, rb885, ib886, hd907, hg908, hR, F, hB, h883, ow887, h671, ow675, K701, d888, d889, d890, d891⟩
    cases rest904 with
    | nil =>
     replace hR := forL_nil hR
     have hkk903 := drop_nil hd907.1 hd907.2
     have hlk903 := dec_no hkk903
     refine x_seq ?_
     refine x_seq ?_
     refine x_reg ?_
     refine o_move F rfl rfl (fun a F => ?_)
     refine o_move F rfl rfl (fun a F => ?_)
     refine o_move F rfl rfl (fun a F => ?_)
     refine o_index Tryz.underlying31 Tryz.sizeOf101 F rfl rfl rfl (A0.go hB) hxk683 (fun a p983 b984 h985 s986 F => ?_)
     refine o_field (s' := 1) fa101_1 F rfl rfl h985 RRel.f1 (fun a p987 b988 h989 s990 F => ?_)
     refine o_loadS Tryz.isAgg99 F rfl rfl h989 (fun a v991 b992 h993 s994 F => ?_)
     refine o_len Tryz.underlying99 F rfl rfl h993 (fun a F => ?_)
     have i995 := (h993).r.len64
     refine o_lss F rfl rfl rfl (fun a F => ?_)
     refine x_end ?_
     refine x_tn ?_
     refine x_ifF F rfl hlk903 ?_
     refine x_exit ?_
     refine x_te ?_
     refine x_te ?_
     refine x_be ?_
     refine x_tn ?_
     exact ⟨s881, v884, rb885, ib886, (Option.some.inj hR).symm, F.sub (sc rfl (sc rfl (sc rfl (sc rfl sn)))), hB, h883, ow887, h671, ow675, K701, d888, d889, d890, d891⟩
    | cons x905 rest904 =>
     subst hg908
     replace hd907 := drop_cons hd907.2
     have hxk903 := ix_nat hd907.2.1
     obtain ⟨ck903, hR, hn878⟩ := forL_cons hR
     rw [hf880] at hR
     have hlk903 := dec_yes hd907.1
     refine x_seq ?_
     refine x_seq ?_
     refine x_reg ?_
     refine o_move F rfl rfl (fun a F => ?_)
     refine o_move F rfl rfl (fun a F => ?_)
     refine o_move F rfl rfl (fun a F => ?_)
     refine o_index Tryz.underlying31 Tryz.sizeOf101 F rfl rfl rfl (A0.go hB) hxk683 (fun a p909 b910 h911 s912 F => ?_)
     refine o_field (s' := 1) fa101_1 F rfl rfl h911 RRel.f1 (fun a p913 b914 h915 s916 F => ?_)
     refine o_loadS Tryz.isAgg99 F rfl rfl h915 (fun a v917 b918 h919 s920 F => ?_)
     refine o_len Tryz.underlying99 F rfl rfl h919 (fun a F => ?_)
     have i921 := (h919).r.len64
     refine o_lss F rfl rfl rfl (fun a F => ?_)
     refine x_end ?_
     refine x_tn ?_
     refine x_ifT F rfl hlk903 ?_
     refine x_skip ?_
     refine x_tn ?_
     refine x_seq ?_
     have ikk903 := k64 (Nat.le_of_lt hd907.1) i921
     have ink903 := inc64 hd907.1 i921
     refine x_blk ?_
     refine x_drawn (by kernel_rfl) (fun w l => ?_)
     replace hB := Below.through l hB
     replace h671 := h671.go l
     replace ow675 := ow675.go l
     replace h883 := h883.go l
     replace ow887 := ow887.go l
     replace K701 := K701.thru l
     refine b_q 0 (by kernel_rfl) rfl (by kernel_rfl) (by kernel_rfl) (by kernel_rfl) (by kernel_rfl) ?_
     refine v_val F rfl (fun w l => r_bfield fa101_1 F rfl rfl) (fun a F => ?_)
     refine b_q 1 (by kernel_rfl) rfl (by kernel_rfl) (by kernel_rfl) (by kernel_rfl) (by kernel_rfl) ?_
     refine v_val F rfl (fun w l => r_load1 Tryz.isAgg99 F rfl (((K701.thru l).cell _).trans rfl)) (fun a F => ?_)
     refine b_q0 2 rfl (by kernel_rfl) (by kernel_rfl) (by kernel_rfl) ?_
     refine v_val F rfl (fun w l => r_move F rfl) (fun a F => ?_)
     refine b_q0 3 rfl (by kernel_rfl) (by kernel_rfl) (by kernel_rfl) ?_
     refine v_val F rfl (fun w l => r_move F rfl) (fun a F => ?_)
     refine b_q 4 (by kernel_rfl) rfl (by kernel_rfl) (by kernel_rfl) (by kernel_rfl) (by kernel_rfl) ?_
     refine v_index Tryz.underlying31 Tryz.sizeOf101 F rfl rfl rfl (A0.go hB) hxk683 (fun a p922 b923 h924 s925 F => ?_)
     refine b_q 5 (by kernel_rfl) rfl (by kernel_rfl) (by kernel_rfl) (by kernel_rfl) (by kernel_rfl) ?_
     refine v_field (s' := 1) fa101_1 F rfl rfl h924 RRel.f1 (fun a p926 b927 h928 s929 F => ?_)
     refine b_q 6 (by kernel_rfl) rfl (by kernel_rfl) (by kernel_rfl) (by kernel_rfl) (by kernel_rfl) ?_
     refine v_loadS (fun _ l => l) Tryz.isAgg99 F rfl rfl h928 (fun a v930 b931 h932 s933 F => ?_)
     refine b_q0 7 rfl (by kernel_rfl) (by kernel_rfl) (by kernel_rfl) ?_
     refine v_val F rfl (fun w l => r_move F rfl) (fun a F => ?_)
     refine b_q 8 (by kernel_rfl) rfl (by kernel_rfl) (by kernel_rfl) (by kernel_rfl) (by kernel_rfl) ?_
     refine v_index Tryz.underlying99 Tryz.sizeOf42 F rfl rfl rfl h932 hxk903 (fun a p934 b935 h936 s937 F => ?_)
     refine b_q 9 (by kernel_rfl) rfl (by kernel_rfl) (by kernel_rfl) (by kernel_rfl) (by kernel_rfl) ?_
     refine v_loadS (fun _ l => l) Tryz.isAgg42 F rfl rfl h936 (fun a v938 b939 h940 s941 F => ?_)
     refine b_e 10 rfl (by kernel_rfl) ?_
     obtain ⟨z942, c943, hR⟩ := bnd_some hR
     refine o_gives F rfl Tryz.call154 rfl (spec_l00Own_c z942 c943 _ h940) (fun a vv w l ⟨v944, rb945, hv948, h947⟩ F => ?_)
     subst vv
     have d950 := Dj.new h671.rd.m h947.ownR (Nat.le_refl _)
     have d951 := Dj.new h883.rd.m h947.ownR (Nat.le_refl _)
     have d952 := Dj.new (inm1 K701) h947.ownR (Nat.le_refl _)
     have d953 := Dj.app' (Dj.new h671.memR h947.ownR (Nat.le_refl _)).symm (Dj.nil' _)
     have d954 := Dj.app' (Dj.new h671.mem h947.ownR (Nat.le_refl _)).symm (Dj.nil' _)
     have d955 := Dj.app' (Dj.new h883.memR h947.ownR (Nat.le_refl _)).symm (Dj.nil' _)
     have d956 := Dj.app' (Dj.new h883.mem h947.ownR (Nat.le_refl _)).symm (Dj.nil' _)
     replace h947 := h947.base hB.size
     replace hB := Below.through l hB
     replace h671 := h671.go l
     replace ow675 := ow675.go l
     replace h883 := h883.go l
     replace ow887 := ow887.go l
     replace K701 := K701.thru l
     refine x_end ?_
     refine x_tn ?_
     refine ⟨.inl l, ?_⟩
     refine b_e 11 rfl (by kernel_rfl) ?_
     refine o_lit1 (R := (RSl 1 RInt)) (y := z942) Tryz.underlying99 Tryz.sizeOf42 Tryz.zeroValue42 rfl (by decide) (by decide) F rfl rfl (El.sl h947.rd) (fun a w v957 rb958 h959 l F => ?_)
     have ow960 := Own.go (h947.own (Own.nil _ _)) l
     have d962 := Dj.new h671.rd.m h959.ownR (Nat.le_refl _)
     have d963 := Dj.new h883.rd.m h959.ownR (Nat.le_refl _)
     have d964 := Dj.new (inm1 K701) h959.ownR (Nat.le_refl _)
     have d965 := Dj.app' (Dj.new h671.memR h959.ownR (Nat.le_refl _)).symm d953
     have d966 := Dj.app' (Dj.new h671.mem h959.ownR (Nat.le_refl _)).symm d954
     have d967 := Dj.app' (Dj.new h883.memR h959.ownR (Nat.le_refl _)).symm d955
     have d968 := Dj.app' (Dj.new h883.mem h959.ownR (Nat.le_refl _)).symm d956
     have d969 := Dj.app' (Dj.symm d964) (Dj.app' (Dj.symm d952) (Dj.nil' _))
     replace h959 := h959.base hB.size
     replace hB := Below.through l hB
     replace h671 := h671.go l
     replace ow675 := ow675.go l
     replace h883 := h883.go l
     replace ow887 := ow887.go l
     replace K701 := K701.thru l
     refine x_end ?_
     refine x_tn ?_
     refine ⟨.inl l, ?_⟩
     refine b_e 12 rfl (by kernel_rfl) ?_
     obtain ⟨z970, c971, hR⟩ := bnd_some hR
     refine o_append (sz := 1) (R := (RSl 1 RInt)) (z := ((.slice none 0 0))) (bytes := 24) Tryz.underlying99 (by kernel_rfl) rfl (by decide) (by decide) (by decide) F rfl rfl rfl h883 h959.src hB.size (Dj.symm d967.r) c971 (fun a w v972 rb973 h974 l keep F => ?_)
     have ow975 := Own.append (Own.goO ow887 l h883.dj.symm) (Own.goO ow960 l (Dj.symm (Dj.symm d967.r))) (Dj.symm d968.r)
     have d977 := keep _ (inm1 K701) (Dj.symm (Dj.l d888))
     have d978 := keep _ h671.rd.m d889
     replace hB := hB.o l h883.lo hB.size
     replace h671 := h671.goO l d889
     replace ow675 := ow675.goO l (Dj.r d889)
     replace K701 := K701.only l (Dj.symm (Dj.l d888)).not
     have d979 := Dj.app' (Dj.symm (Dj.l d978)) (Dj.app' (Dj.r d890) (Dj.r d965))
     have d980 := Dj.app' (Dj.symm (Dj.r d978)) (Dj.app' (Dj.r d891) (Dj.r d966))
     have d981 := (Dj.app (Dj.symm (Dj.r (Dj.app d890 d891))) (Dj.symm (Dj.r (Dj.app d965 d966))))
     have d982 := Dj.app' (Dj.symm d977) (Dj.app' (Dj.r d888) (Dj.r d969))
     refine x_end ?_
     refine x_tn ?_
     refine ⟨.inr (by kernel_rfl), ?_⟩
     refine b_q 13 (by kernel_rfl) rfl (by kernel_rfl) (by kernel_rfl) (by kernel_rfl) (by kernel_rfl) ?_
     refine v_val F rfl (fun w l => r_bfield fa101_1 F rfl rfl) (fun a F => ?_)
     refine b_e 14 rfl (by kernel_rfl) ?_
     refine o_bstore Tryz.sizeOf99 F rfl rfl rfl K701 (h974.rd).r.one (by first | simp | decide) rfl (fun w K701 l => ?_)
     replace hB := hB.o l (fun c hc => by rw [List.mem_singleton] at hc; rw [hc]; exact CK701) hB.size
     replace h671 := h671.goO l d706
     replace ow675 := ow675.goO l d706.r
     replace h974 := h974.goO l d982
     replace ow975 := ow975.goO l d982.r
     refine x_end ?_
     refine x_tn ?_
     refine ⟨.inr (by kernel_rfl), ?_⟩
     refine b_end (by kernel_rfl) ?_
     refine x_bn ?_
     refine x_tn ?_
     refine x_reg ?_
     refine o_move F rfl rfl (fun a F => ?_)
     refine o_inc F rfl rfl rfl ink903 (fun a F => ?_)
     refine o_assign F rfl rfl (fun a F => ?_)
     refine x_end ?_
     refine x_tn ?_
     replace hR := l_go hR hn878
     exact ⟨_, Nat.lt_succ_self _, k903 + 1, rest904, z970, v972, rb973, (ib886 ++ (rb945 ++ [])), ⟨hd907.1, hd907.2.2⟩, rfl, hR, F.sub (sc rfl (sc rfl (sc rfl (sc rfl (sc rfl sn))))), hB, h974, ow975, h671, ow675, K701, d982, d978, d979, d980⟩
   intro a w ⟨s892, v895, rb896, ib897, ho877, F, hB, h894, ow898, h671, ow675, K701, d899, d900, d901, d902⟩
   subst ho877
   have hR := then_nx hk876
   refine x_tn ?_
   refine x_reg ?_
   refine o_move F rfl rfl (fun a F => ?_)
   refine o_bloadA (cs := [.int .i64 x685.arity, v895]) Tryz.isAgg101 Tryz.sizeOf101 F rfl rfl K701 rfl (fun j hj => by match j, hj with | 0, _ => rfl | 1, _ => rfl) (fun a F => ?_)
   have h996 := RRel.mk2 (w := w) i698 h894.rd
   refine o_lit1 (R := RRel) (y := (Rel.mk x685.arity s892)) Tryz.underlying31 Tryz.sizeOf101 Tryz.zeroValue101 rfl (by decide) (by decide) F rfl rfl (El.agg h996) (fun a w v997 rb998 h999 l F => ?_)
   have ow1000 := Own.go (h894.own ow898) l
   have d1002 := Dj.new h671.rd.m h999.ownR (Nat.le_refl _)
   have d1003 := Dj.app' (Dj.new h671.memR h999.ownR (Nat.le_refl _)).symm d901
   have d1004 := Dj.app' (Dj.new h671.mem h999.ownR (Nat.le_refl _)).symm d902
   replace h999 := h999.base hB.size
   replace hB := Below.through l hB
   replace h671 := h671.go l
   replace ow675 := ow675.go l
   obtain ⟨z1006, c1007, hR⟩ := bnd_some hR
   refine o_append (sz := 2) (R := RRel) (z := (.agg #[.int .i64 0, (.slice none 0 0)])) (bytes := 32) Tryz.underlying31 (by kernel_rfl) rfl (by decide) (by decide) (by decide) F rfl rfl rfl h671 h999.src hB.size (Dj.symm d1003.r) c1007 (fun a w v1008 rb1009 h1010 l keep F => ?_)
   have ow1011 := Own.append (Own.goO ow675 l h671.dj.symm) (Own.goO ow1000 l (Dj.symm (Dj.symm d1003.r))) (Dj.symm d1004.r)
   replace hB := hB.o l h671.lo hB.size
   refine o_assign F rfl rfl (fun a F => ?_)
   refine x_end ?_
   refine x_bn ?_
   refine x_tn ?_
   refine x_reg ?_
   refine o_move F rfl rfl (fun a F => ?_)
   refine o_inc F rfl rfl rfl ink683 (fun a F => ?_)
   refine o_assign F rfl rfl (fun a F => ?_)
   refine x_end ?_
   refine x_tn ?_
   replace hR := l_go hR hn666
   exact ⟨_, Nat.lt_succ_self _, k683 + 1, rest684, z1006, v1008, rb1009, (ib674 ++ ((rb896 ++ ib897))), ⟨hd687.1, hd687.2.2⟩, rfl, hR, F.sub (sc rfl (sc rfl (sc rfl sn))), hB, h1010, ow1011⟩
 intro a w ⟨s676, v679, rb680, ib681, ho665, F, hB, h678, ow682⟩
 subst ho665
 have hR := then_nx hk664
 refine x_tn ?_
 refine x_seq ?_
 refine x_reg ?_
 refine o_move F rfl rfl (fun a F => ?_)
 refine o_assign F rfl rfl (fun a F => ?_)
 refine x_end ?_
 refine x_tn ?_
 refine x_ret ?_
 refine x_res1 F rfl (rv_t F rfl) ?_
 obtain rfl := Option.some.inj hR
 exact ⟨_, rfl, hB, v679, rb680, ib681, rfl, h678, ow682⟩

def spec_l01Mapped (x0 : List Int) (x1 : List Int) : Option (List Int) :=
 thn (σ := (List Int)) (
  forL (σ := (List Int)) (ρ := (List Int)) (fun (k62 : Nat) (x64 : Int) (s52 : (List Int)) =>
   bnd (ix x1 x64) fun z74 =>
   bnd (ap s52 ([z74])) fun z87 =>
   some (.go z87)) x0 0 []) fun s57 =>
 some s57
set_option maxHeartbeats 1000000 in
theorem spec_l01Mapped_c {x0 : List Int} {x1 : List Int} (r : (List Int)) (hR : spec_l01Mapped x0 x1 = some r) {v0 : Value} {b0 : List Nat} {v1 : Value} {b1 : List Nat} (w0 : World) (A0 : Rd (Sl 1 RInt) w0 v0 x0 b0) (A1 : Rd (Sl 1 RInt) w0 v1 x1 b1) : Calls Tryz.prog 165 #[v0, v1] w0 (Gives (fun v w' => ∃ (v1' : Value) (rb2' : List Nat), v = v1' ∧ Row 1 RInt 2 w0.heap.size w' v1' r rb2' []) w0) := by
 unfold spec_l01Mapped at hR
 refine x_enter (L := [(0, v0), (1, v1)]) Tryz.func165 rfl rfl rfl (sc rfl (sc rfl sn)) (fun a F => ?_)
 have hB := Below.refl w0.heap.size w0
 refine x_seq ?_
 refine x_reg ?_
 refine o_assign F rfl rfl (fun a F => ?_)
 refine x_end ?_
 refine x_tn ?_
 refine x_seq ?_
 refine x_reg ?_
 refine o_lit0 (R := RInt) Tryz.underlying42 Tryz.sizeOf2 F rfl (fun a w v11 rb12 h13 l F => ?_)
 replace h13 := h13.base hB.size
 replace hB := Below.through l hB
 refine o_assign F rfl rfl (fun a F => ?_)
 refine x_end ?_
 refine x_tn ?_
 refine x_seq ?_
 refine x_seq ?_
 refine x_reg ?_
 refine o_assign F rfl rfl (fun a F => ?_)
 refine x_end ?_
 refine x_tn ?_
 obtain ⟨o46, hR, hk47⟩ := thn_some hR
 refine x_cutQ (fun a w => ∃ (s57 : List Int) (v60 : Value) (rb61 : List Nat), o46 = .nx s57 ∧ Sk a 25 [(5, v60)] ∧ Below w0.heap.size w0 w ∧ Row 1 RInt 2 w0.heap.size w v60 s57 rb61 ([])) ?_ ?_
 ·
  refine x_blk ?_
  obtain ⟨fl50, hf51, hR⟩ := forL_gen hR
  refine x_loop (fun g a w => ∃ (k62 : Nat) (rest63 : List Int) (s52 : List Int) (v55 : Value) (rb56 : List Nat), (k62 ≤ x0.length ∧ x0.drop k62 = rest63) ∧ rest63.length = g ∧ forL fl50 rest63 k62 s52 = some o46 ∧ Sk a 25 [(6, .int .i64 (k62 : Int)), (0, v0), (1, v1), (5, v55)] ∧ Below w0.heap.size w0 w ∧ Row 1 RInt 2 w0.heap.size w v55 s52 rb56 ([])) x0.length ?_ ?_
  ·
   exact ⟨0, x0, [], v11, rb12, ⟨Nat.zero_le _, rfl⟩, rfl, hR, F.sub (sc rfl (sc rfl (sc rfl (sc rfl sn)))), hB, h13⟩
  intro g65 a w ⟨k62, rest63, s52, v55, rb56, hd66, hg67, hR, F, hB, h54⟩
  cases rest63 with
  | nil =>
   replace hR := forL_nil hR
   have hkk62 := drop_nil hd66.1 hd66.2
   have hlk62 := dec_no hkk62
   refine x_seq ?_
   refine x_seq ?_
   refine x_reg ?_
   refine o_move F rfl rfl (fun a F => ?_)
   refine o_move F rfl rfl (fun a F => ?_)
   refine o_len Tryz.underlying42 F rfl rfl (A0.go hB) (fun a F => ?_)
   have i93 := ((A0.go hB)).r.len64
   refine o_lss F rfl rfl rfl (fun a F => ?_)
   refine x_end ?_
   refine x_tn ?_
   refine x_ifF F rfl hlk62 ?_
   refine x_exit ?_
   refine x_te ?_
   refine x_te ?_
   refine x_be ?_
   refine x_tn ?_
   exact ⟨s52, v55, rb56, (Option.some.inj hR).symm, F.sub (sc rfl sn), hB, h54⟩
  | cons x64 rest63 =>
   subst hg67
   replace hd66 := drop_cons hd66.2
   have hxk62 := ix_nat hd66.2.1
   obtain ⟨ck62, hR, hn49⟩ := forL_cons hR
   rw [hf51] at hR
   have hlk62 := dec_yes hd66.1
   refine x_seq ?_
   refine x_seq ?_
   refine x_reg ?_
   refine o_move F rfl rfl (fun a F => ?_)
   refine o_move F rfl rfl (fun a F => ?_)
   refine o_len Tryz.underlying42 F rfl rfl (A0.go hB) (fun a F => ?_)
   have i68 := ((A0.go hB)).r.len64
   refine o_lss F rfl rfl rfl (fun a F => ?_)
   refine x_end ?_
   refine x_tn ?_
   refine x_ifT F rfl hlk62 ?_
   refine x_skip ?_
   refine x_tn ?_
   refine x_seq ?_
   have ikk62 := k64 (Nat.le_of_lt hd66.1) i68
   have ink62 := inc64 hd66.1 i68
   refine x_blk ?_
   refine x_reg ?_
   refine o_move F rfl rfl (fun a F => ?_)
   refine o_move F rfl rfl (fun a F => ?_)
   refine o_move F rfl rfl (fun a F => ?_)
   refine o_move F rfl rfl (fun a F => ?_)
   refine o_index Tryz.underlying42 Tryz.sizeOf2 F rfl rfl rfl (A0.go hB) hxk62 (fun a p69 b70 h71 s72 F => ?_)
   have i73 := (h71).i64
   refine o_loadI Tryz.isAgg2 F rfl rfl h71 (fun a F => ?_)
   obtain ⟨z74, c75, hR⟩ := bnd_some hR
   refine o_index Tryz.underlying42 Tryz.sizeOf2 F rfl rfl rfl (A1.go hB) c75 (fun a p76 b77 h78 s79 F => ?_)
   have i80 := (h78).i64
   refine o_loadI Tryz.isAgg2 F rfl rfl h78 (fun a F => ?_)
   refine o_lit1 (R := RInt) (y := z74) Tryz.underlying42 Tryz.sizeOf2 Tryz.zeroValue2 rfl (by decide) (by decide) F rfl rfl (El.int i80) (fun a w v81 rb82 h83 l F => ?_)
   have d85 := Dj.new h54.rd.m h83.ownR (Nat.le_refl _)
   have d86 := Dj.app' (Dj.new h54.memR h83.ownR (Nat.le_refl _)).symm (Dj.nil' _)
   replace h83 := h83.base hB.size
   replace hB := Below.through l hB
   replace h54 := h54.go l
   obtain ⟨z87, c88, hR⟩ := bnd_some hR
   refine o_append (sz := 1) (R := RInt) (z := (.int .i64 0)) (bytes := 8) Tryz.underlying42 (by kernel_rfl) rfl (by decide) (by decide) (by decide) F rfl rfl rfl h54 h83.src hB.size (Dj.nil _) c88 (fun a w v89 rb90 h91 l keep F => ?_)
   replace h91 := row_nil2 h91
   replace hB := hB.o l h54.lo hB.size
   refine o_assign F rfl rfl (fun a F => ?_)
   refine x_end ?_
   refine x_bn ?_
   refine x_tn ?_
   refine x_reg ?_
   refine o_move F rfl rfl (fun a F => ?_)
   refine o_inc F rfl rfl rfl ink62 (fun a F => ?_)
   refine o_assign F rfl rfl (fun a F => ?_)
   refine x_end ?_
   refine x_tn ?_
   replace hR := l_go hR hn49
   exact ⟨_, Nat.lt_succ_self _, k62 + 1, rest63, z87, v89, rb90, ⟨hd66.1, hd66.2.2⟩, rfl, hR, F.sub (sc rfl (sc rfl (sc rfl (sc rfl sn)))), hB, h91⟩
 intro a w ⟨s57, v60, rb61, ho48, F, hB, h59⟩
 subst ho48
 have hR := then_nx hk47
 refine x_tn ?_
 refine x_seq ?_
 refine x_reg ?_
 refine o_move F rfl rfl (fun a F => ?_)
 refine o_assign F rfl rfl (fun a F => ?_)
 refine x_end ?_
 refine x_tn ?_
 refine x_ret ?_
 refine x_res1 F rfl (rv_t F rfl) ?_
 obtain rfl := Option.some.inj hR
 exact ⟨_, rfl, hB, v60, rb61, rfl, h59⟩

def spec_l05Moved (x0 : List Con) (x1 : List Int) : Option (List Con) :=
 thn (σ := (List Con)) (
  forL (σ := (List Con)) (ρ := (List Con)) (fun (k144 : Nat) (x146 : Con) (s130 : (List Con)) =>
   bnd (spec_l01Mapped x146.scope x1) fun z172 =>
   bnd (ap s130 ([(Con.mk x146.rel z172)])) fun z192 =>
   some (.go z192)) x0 0 []) fun s137 =>
 some s137
set_option maxHeartbeats 1000000 in
theorem spec_l05Moved_c {x0 : List Con} {x1 : List Int} (r : (List Con)) (hR : spec_l05Moved x0 x1 = some r) {v0 : Value} {b0 : List Nat} {v1 : Value} {b1 : List Nat} (w0 : World) (A0 : Rd (Sl 2 RCon) w0 v0 x0 b0) (A1 : Rd (Sl 1 RInt) w0 v1 x1 b1) : Calls Tryz.prog 84 #[v0, v1] w0 (Gives (fun v w' => ∃ (v1' : Value) (rb2' : List Nat) (ib3' : List Nat), v = v1' ∧ Row 2 RCon 130 w0.heap.size w' v1' r rb2' ib3' ∧ Own w0.heap.size ib3' w') w0) := by
 unfold spec_l05Moved at hR
 refine x_enter (L := [(0, v0), (1, v1)]) Tryz.func84 rfl rfl rfl (sc rfl (sc rfl sn)) (fun a F => ?_)
 have hB := Below.refl w0.heap.size w0
 refine x_seq ?_
 refine x_reg ?_
 refine o_assign F rfl rfl (fun a F => ?_)
 refine x_end ?_
 refine x_tn ?_
 refine x_seq ?_
 refine x_reg ?_
 refine o_lit0 (R := RCon) Tryz.underlying58 Tryz.sizeOf130 F rfl (fun a w v11 rb12 h13 l F => ?_)
 replace h13 := h13.base hB.size
 replace hB := Below.through l hB
 refine o_assign F rfl rfl (fun a F => ?_)
 refine x_end ?_
 refine x_tn ?_
 refine x_seq ?_
 refine x_seq ?_
 refine x_reg ?_
 refine o_assign F rfl rfl (fun a F => ?_)
 refine x_end ?_
 refine x_tn ?_
 obtain ⟨o124, hR, hk125⟩ := thn_some hR
 refine x_cutQ (fun a w => ∃ (s137 : List Con) (v140 : Value) (rb141 : List Nat) (ib142 : List Nat), o124 = .nx s137 ∧ Sk a 31 [(5, v140)] ∧ Below w0.heap.size w0 w ∧ Row 2 RCon 130 w0.heap.size w v140 s137 rb141 ib142 ∧ Own w0.heap.size ib142 w) ?_ ?_
 ·
  refine x_blk ?_
  obtain ⟨fl128, hf129, hR⟩ := forL_gen hR
  refine x_loop (fun g a w => ∃ (k144 : Nat) (rest145 : List Con) (s130 : List Con) (v133 : Value) (rb134 : List Nat) (ib135 : List Nat), (k144 ≤ x0.length ∧ x0.drop k144 = rest145) ∧ rest145.length = g ∧ forL fl128 rest145 k144 s130 = some o124 ∧ Sk a 31 [(6, .int .i64 (k144 : Int)), (0, v0), (1, v1), (5, v133)] ∧ Below w0.heap.size w0 w ∧ Row 2 RCon 130 w0.heap.size w v133 s130 rb134 ib135 ∧ Own w0.heap.size ib135 w) x0.length ?_ ?_
  ·
   exact ⟨0, x0, [], v11, rb12, [], ⟨Nat.zero_le _, rfl⟩, rfl, hR, F.sub (sc rfl (sc rfl (sc rfl (sc rfl sn)))), hB, h13, (Own.nil _ _)⟩
  intro g147 a w ⟨k144, rest145, s130, v133, rb134, ib135, hd148, hg149, hR, F, hB, h132, ow136⟩
  cases rest145 with
  | nil =>
   replace hR := forL_nil hR
   have hkk144 := drop_nil hd148.1 hd148.2
   have hlk144 := dec_no hkk144
   refine x_seq ?_
   refine x_seq ?_
   refine x_reg ?_
   refine o_move F rfl rfl (fun a F => ?_)
   refine o_move F rfl rfl (fun a F => ?_)
   refine o_len Tryz.underlying58 F rfl rfl (A0.go hB) (fun a F => ?_)
   have i199 := ((A0.go hB)).r.len64
   refine o_lss F rfl rfl rfl (fun a F => ?_)
   refine x_end ?_
   refine x_tn ?_
   refine x_ifF F rfl hlk144 ?_
   refine x_exit ?_
   refine x_te ?_
   refine x_te ?_
   refine x_be ?_
   refine x_tn ?_
   exact ⟨s130, v133, rb134, ib135, (Option.some.inj hR).symm, F.sub (sc rfl sn), hB, h132, ow136⟩
  | cons x146 rest145 =>
   subst hg149
   replace hd148 := drop_cons hd148.2
   have hxk144 := ix_nat hd148.2.1
   obtain ⟨ck144, hR, hn127⟩ := forL_cons hR
   rw [hf129] at hR
   have hlk144 := dec_yes hd148.1
   refine x_seq ?_
   refine x_seq ?_
   refine x_reg ?_
   refine o_move F rfl rfl (fun a F => ?_)
   refine o_move F rfl rfl (fun a F => ?_)
   refine o_len Tryz.underlying58 F rfl rfl (A0.go hB) (fun a F => ?_)
   have i150 := ((A0.go hB)).r.len64
   refine o_lss F rfl rfl rfl (fun a F => ?_)
   refine x_end ?_
   refine x_tn ?_
   refine x_ifT F rfl hlk144 ?_
   refine x_skip ?_
   refine x_tn ?_
   refine x_seq ?_
   have ikk144 := k64 (Nat.le_of_lt hd148.1) i150
   have ink144 := inc64 hd148.1 i150
   refine x_blk ?_
   refine x_drawn (by kernel_rfl) (fun w l => ?_)
   replace hB := Below.through l hB
   replace h132 := h132.go l
   replace ow136 := ow136.go l
   refine b_q0 0 rfl (by kernel_rfl) (by kernel_rfl) (by kernel_rfl) ?_
   refine v_val F rfl (fun w l => r_move F rfl) (fun a F => ?_)
   refine b_q0 1 rfl (by kernel_rfl) (by kernel_rfl) (by kernel_rfl) ?_
   refine v_val F rfl (fun w l => r_move F rfl) (fun a F => ?_)
   refine b_q0 2 rfl (by kernel_rfl) (by kernel_rfl) (by kernel_rfl) ?_
   refine v_val F rfl (fun w l => r_move F rfl) (fun a F => ?_)
   refine b_q 3 (by kernel_rfl) rfl (by kernel_rfl) (by kernel_rfl) (by kernel_rfl) (by kernel_rfl) ?_
   refine v_index Tryz.underlying58 Tryz.sizeOf130 F rfl rfl rfl (A0.go hB) hxk144 (fun a p151 b152 h153 s154 F => ?_)
   refine b_q 4 (by kernel_rfl) rfl (by kernel_rfl) (by kernel_rfl) (by kernel_rfl) (by kernel_rfl) ?_
   refine v_field (s' := 1) fa130_0 F rfl rfl h153 RCon.f0 (fun a p155 b156 h157 s158 F => ?_)
   refine b_q 5 (by kernel_rfl) rfl (by kernel_rfl) (by kernel_rfl) (by kernel_rfl) (by kernel_rfl) ?_
   have i159 := (h157).i64
   refine v_val F rfl (fun w l => r_loadI Tryz.isAgg2 F rfl ((h157).go l)) (fun a F => ?_)
   refine b_q0 6 rfl (by kernel_rfl) (by kernel_rfl) (by kernel_rfl) ?_
   refine v_val F rfl (fun w l => r_move F rfl) (fun a F => ?_)
   refine b_q0 7 rfl (by kernel_rfl) (by kernel_rfl) (by kernel_rfl) ?_
   refine v_val F rfl (fun w l => r_move F rfl) (fun a F => ?_)
   refine b_q 8 (by kernel_rfl) rfl (by kernel_rfl) (by kernel_rfl) (by kernel_rfl) (by kernel_rfl) ?_
   refine v_index Tryz.underlying58 Tryz.sizeOf130 F rfl rfl rfl (A0.go hB) hxk144 (fun a p160 b161 h162 s163 F => ?_)
   refine b_q 9 (by kernel_rfl) rfl (by kernel_rfl) (by kernel_rfl) (by kernel_rfl) (by kernel_rfl) ?_
   refine v_field (s' := 1) fa130_1 F rfl rfl h162 RCon.f1 (fun a p164 b165 h166 s167 F => ?_)
   refine b_q 10 (by kernel_rfl) rfl (by kernel_rfl) (by kernel_rfl) (by kernel_rfl) (by kernel_rfl) ?_
   refine v_loadS (fun _ l => l) Tryz.isAgg42 F rfl rfl h166 (fun a v168 b169 h170 s171 F => ?_)
   refine b_q0 11 rfl (by kernel_rfl) (by kernel_rfl) (by kernel_rfl) ?_
   refine v_val F rfl (fun w l => r_move F rfl) (fun a F => ?_)
   refine b_e 12 rfl (by kernel_rfl) ?_
   obtain ⟨z172, c173, hR⟩ := bnd_some hR
   refine o_gives F rfl Tryz.call165 rfl (spec_l01Mapped_c z172 c173 _ h170 (A1.go hB)) (fun a vv w l ⟨v174, rb175, hv178, h177⟩ F => ?_)
   subst vv
   have d180 := Dj.new h132.rd.m h177.ownR (Nat.le_refl _)
   have d181 := Dj.app' (Dj.new h132.memR h177.ownR (Nat.le_refl _)).symm (Dj.nil' _)
   have d182 := Dj.app' (Dj.new h132.mem h177.ownR (Nat.le_refl _)).symm (Dj.nil' _)
   replace h177 := h177.base hB.size
   replace hB := Below.through l hB
   replace h132 := h132.go l
   replace ow136 := ow136.go l
   refine x_end ?_
   refine x_tn ?_
   refine ⟨.inl l, ?_⟩
   refine b_q 13 (by kernel_rfl) rfl (by kernel_rfl) (by kernel_rfl) (by kernel_rfl) (by kernel_rfl) ?_
   refine v_val F rfl (fun w l => r_build Tryz.underlying130 Tryz.zeroValue130 (fun w => by simp [Tryz.sizeOf2, Tryz.sizeOf42]; rfl) F rfl rfl rfl rfl (oc rfl (oc (h177.rd).r.one on)) rfl rfl) (fun a F => ?_)
   have h183 := RCon.mk2 (w := w) i159 h177.rd
   refine b_e 14 rfl (by kernel_rfl) ?_
   refine o_lit1 (R := RCon) (y := (Con.mk x146.rel z172)) Tryz.underlying58 Tryz.sizeOf130 Tryz.zeroValue130 rfl (by decide) (by decide) F rfl rfl (El.agg h183) (fun a w v184 rb185 h186 l F => ?_)
   have ow187 := Own.go (h177.own (Own.nil _ _)) l
   have d189 := Dj.new h132.rd.m h186.ownR (Nat.le_refl _)
   have d190 := Dj.app' (Dj.new h132.memR h186.ownR (Nat.le_refl _)).symm d181
   have d191 := Dj.app' (Dj.new h132.mem h186.ownR (Nat.le_refl _)).symm d182
   replace h186 := h186.base hB.size
   replace hB := Below.through l hB
   replace h132 := h132.go l
   replace ow136 := ow136.go l
   refine x_end ?_
   refine x_tn ?_
   refine ⟨.inl l, ?_⟩
   refine b_e 15 rfl (by kernel_rfl) ?_
   obtain ⟨z192, c193, hR⟩ := bnd_some hR
   refine o_append (sz := 2) (R := RCon) (z := (.agg #[.int .i64 0, (.slice none 0 0)])) (bytes := 32) Tryz.underlying58 (by kernel_rfl) rfl (by decide) (by decide) (by decide) F rfl rfl rfl h132 h186.src hB.size (Dj.symm d190.r) c193 (fun a w v194 rb195 h196 l keep F => ?_)
   have ow197 := Own.append (Own.goO ow136 l h132.dj.symm) (Own.goO ow187 l (Dj.symm (Dj.symm d190.r))) (Dj.symm d191.r)
   replace hB := hB.o l h132.lo hB.size
   refine x_end ?_
   refine x_tn ?_
   refine ⟨.inr (by kernel_rfl), ?_⟩
   refine b_q0 16 rfl (by kernel_rfl) (by kernel_rfl) (by kernel_rfl) ?_
   refine v_val F rfl (fun w l => r_assign F rfl) (fun a F => ?_)
   refine b_end (by kernel_rfl) ?_
   refine x_bn ?_
   refine x_tn ?_
   refine x_reg ?_
   refine o_move F rfl rfl (fun a F => ?_)
   refine o_inc F rfl rfl rfl ink144 (fun a F => ?_)
   refine o_assign F rfl rfl (fun a F => ?_)
   refine x_end ?_
   refine x_tn ?_
   replace hR := l_go hR hn127
   exact ⟨_, Nat.lt_succ_self _, k144 + 1, rest145, z192, v194, rb195, (ib135 ++ ((rb175 ++ []))), ⟨hd148.1, hd148.2.2⟩, rfl, hR, F.sub (sc rfl (sc rfl (sc rfl (sc rfl sn)))), hB, h196, ow197⟩
 intro a w ⟨s137, v140, rb141, ib142, ho126, F, hB, h139, ow143⟩
 subst ho126
 have hR := then_nx hk125
 refine x_tn ?_
 refine x_seq ?_
 refine x_reg ?_
 refine o_move F rfl rfl (fun a F => ?_)
 refine o_assign F rfl rfl (fun a F => ?_)
 refine x_end ?_
 refine x_tn ?_
 refine x_ret ?_
 refine x_res1 F rfl (rv_t F rfl) ?_
 obtain rfl := Option.some.inj hR
 exact ⟨_, rfl, hB, v140, rb141, ib142, rfl, h139, ow143⟩

def spec_AddNoGoods (N : Nat) (x0 : Template) (x1 : Instance) (x2 : List (List Literal)) : Option (Template × Instance × Int) :=
 bnd (spec_l05Ok (Template.mk x0.size x0.rels) (Instance.mk x1.vars x1.cons)) fun z44 =>
 if (!z44) then
  some ((Template.mk 0 ([])), (Instance.mk 0 ([])), 1)
 else
  thn (σ := Unit) (
   forL (σ := Unit) (ρ := Template × Instance × Int) (fun (k106 : Nat) (x108 : (List Literal)) (s : Unit) =>
     match s with
     | _ =>
     thn (σ := Bool) (
      bnd (spec_l08Literals (Template.mk x0.size x0.rels) (Instance.mk x1.vars x1.cons) x108) fun z146 =>
      if (!z146) then  some (.nx true) else  bnd (spec_l08Distinct x108) fun z157 =>
       some (.nx (!z157))) fun s137 =>
     if s137 then
      some (.ret ((Template.mk 0 ([])), (Instance.mk 0 ([])), 2))
     else
      some (.go ())) x2 0 ()) fun _ =>
  thn (σ := Bool) (
   bnd (ck ((x0.rels.length : Int) + (x2.length : Int))) fun z178 =>
   if (decide (6 < z178)) then  some (.nx true) else  bnd (ck ((x1.cons.length : Int) + (x2.length : Int))) fun z183 =>
    some (.nx (decide (24 < z183)))) fun s175 =>
  if s175 then
   some ((Template.mk 0 ([])), (Instance.mk 0 ([])), 3)
  else
   bnd (spec_l03Rels x0.rels) fun z188 =>
   bnd (spec_l03Count x1.vars) fun z307 =>
   bnd (spec_l05Moved x1.cons z307) fun z324 =>
   thn (σ := (List Rel) × (List Con)) (
    forL (σ := (List Rel) × (List Con)) (ρ := Template × Instance × Int) (fun (k2748 : Nat) (x2750 : (List Literal)) (s : (List Rel) × (List Con)) =>
      match s with
      | (s2694, s2701) =>
      thn (σ := (List Int) × (List Int)) (
       forL (σ := (List Int) × (List Int)) (ρ := (Ctl ((List Rel) × (List Con)) (Template × Instance × Int))) (fun (k3176 : Nat) (x3178 : Literal) (s : (List Int) × (List Int)) =>
         match s with
         | (s3100, s3105) =>
         bnd (ap s3105 ([x3178.var])) fun z3229 =>
         bnd (ap s3100 ([x3178.value])) fun z3285 =>
         some (.go (z3285, z3229))) x2750 0 ([], [])) fun (s3138, s3143) =>
      bnd (spec_l01Power N x0.size (s3138.length : Int)) fun z3332 =>
      thn (σ := (List (List Int))) (
       forI (σ := (List (List Int))) (ρ := (Ctl ((List Rel) × (List Con)) (Template × Instance × Int))) (fun (k3611 : Nat) (s3563 : (List (List Int))) =>
        bnd (spec_l01Digits N x0.size (s3138.length : Int) (k3611 : Int)) fun z3617 =>
        bnd (spec_l00Same z3617 s3138) fun z3646 =>
        if (!z3646) then
         bnd (ap s3563 ([z3617])) fun z3682 =>
         some (.go z3682)
        else
         some (.go s3563)) z3332.toNat 0 []) fun s3588 =>
      bnd (ap s2694 ([(Rel.mk (s3138.length : Int) s3588)])) fun z3746 =>
      bnd (ap s2701 ([(Con.mk (s2694.length : Int) s3143)])) fun z3797 =>
      some (.go (z3746, z3797))) x2 0 (z188, z324)) fun (s2723, s2730) =>
   some ((Template.mk x0.size s2723), (Instance.mk x1.vars s2730), 0)
set_option maxHeartbeats 1000000 in
theorem spec_AddNoGoods_c {N : Nat} {x0 : Template} {x1 : Instance} {x2 : List (List Literal)} (r : Template × Instance × Int) (hR : spec_AddNoGoods N x0 x1 x2 = some r) {v0 : Value} {b0 : List Nat} {v1 : Value} {b1 : List Nat} {v2 : Value} {b2 : List Nat} (w0 : World) (A0 : Rd (Agg 2 RTemplate) w0 v0 x0 b0) (A1 : Rd (Agg 2 RInstance) w0 v1 x1 b1) (A2 : Rd (Sl 1 (RSl 2 RLiteral)) w0 v2 x2 b2) : Calls Tryz.prog 32 #[v0, v1, v2] w0 (Gives (fun v w' => ∃ (v1' : Value) (rb2' : List Nat) (ib3' : List Nat) (v4' : Value) (rb5' : List Nat) (ib6' : List Nat), v = .tuple #[.agg #[.int .i64 r.1.size, v1'], .agg #[.int .i64 r.2.1.vars, v4'], .int .i64 r.2.2] ∧ I64 r.1.size ∧ Row 2 RRel 101 w0.heap.size w' v1' r.1.rels rb2' ib3' ∧ Own w0.heap.size ib3' w' ∧ I64 r.2.1.vars ∧ Row 2 RCon 130 w0.heap.size w' v4' r.2.1.cons rb5' ib6' ∧ Own w0.heap.size ib6' w' ∧ I64 r.2.2 ∧ Dj (rb2' ++ ib3') (rb5' ++ ib6')) w0) := by
 unfold spec_AddNoGoods at hR
 refine x_enter (L := [(0, v0), (1, v1), (2, v2)]) Tryz.func32 rfl rfl rfl (sc rfl (sc rfl (sc rfl sn))) (fun a F => ?_)
 have hB := Below.refl w0.heap.size w0
 refine x_seq ?_
 refine x_reg ?_
 obtain ⟨v15, b16, e18, i14, h17, eb13⟩ := RTemplate.rd (A0.go hB)
 subst e18
 refine o_box F rfl rfl rfl (fun a w b11 K12 l BK12 F => ?_)
 have d19 := (dj1 h17.m BK12).symm
 have CK12 := Nat.le_trans hB.size BK12
 replace hB := Below.through l hB
 replace h17 := h17.go l
 obtain ⟨v24, b25, e27, i23, h26, eb22⟩ := RInstance.rd (A1.go hB)
 subst e27
 refine o_box F rfl rfl rfl (fun a w b20 K21 l BK21 F => ?_)
 have nb28 := Dj.bb K12 BK21
 have d29 := (dj1 h17.m BK21).symm
 have d30 := (dj1 h26.m BK21).symm
 have CK21 := Nat.le_trans hB.size BK21
 replace hB := Below.through l hB
 replace h17 := h17.go l
 replace h26 := h26.go l
 replace K12 := K12.thru l
 refine o_alloc Tryz.zeroValue33 F rfl rfl (fun a w b31 K32 l BK32 F => ?_)
 have nb33 := Dj.bb K12 BK32
 have nb34 := Dj.bb K21 BK32
 have d35 := (dj1 h17.m BK32).symm
 have d36 := (dj1 h26.m BK32).symm
 have CK32 := Nat.le_trans hB.size BK32
 replace hB := Below.through l hB
 replace h17 := h17.go l
 replace h26 := h26.go l
 replace K12 := K12.thru l
 replace K21 := K21.thru l
 refine o_alloc Tryz.zeroValue60 F rfl rfl (fun a w b37 K38 l BK38 F => ?_)
 have nb39 := Dj.bb K12 BK38
 have nb40 := Dj.bb K21 BK38
 have nb41 := Dj.bb K32 BK38
 have d42 := (dj1 h17.m BK38).symm
 have d43 := (dj1 h26.m BK38).symm
 have CK38 := Nat.le_trans hB.size BK38
 replace hB := Below.through l hB
 replace h17 := h17.go l
 replace h26 := h26.go l
 replace K12 := K12.thru l
 replace K21 := K21.thru l
 replace K32 := K32.thru l
 refine o_assign F rfl rfl (fun a F => ?_)
 refine x_end ?_
 refine x_tn ?_
 refine x_seq ?_
 refine x_seq ?_
 refine x_reg ?_
 obtain ⟨z44, c45, hR⟩ := bnd_some hR
 refine o_says F rfl Tryz.call80 rfl (spec_l05Ok_c z44 c45 _ (RTemplate.blk K12 i14 h17) (RInstance.blk K21 i23 h26)) (fun a w l F => ?_)
 replace hB := Below.through l hB
 replace h17 := h17.go l
 replace h26 := h26.go l
 replace K12 := K12.thru l
 replace K21 := K21.thru l
 replace K32 := K32.thru l
 replace K38 := K38.thru l
 refine o_not F rfl rfl (fun a F => ?_)
 refine x_end ?_
 refine x_tn ?_
 refine x_if F rfl (fun hb46 => ?_) (fun hb46 => ?_)
 ·
  replace hR := ifT hb46 hR
  refine x_seq ?_
  refine x_reg ?_
  refine o_build Tryz.underlying33 Tryz.zeroValue33 (fun w => by simp [Tryz.sizeOf2, Tryz.sizeOf31]; rfl) F rfl rfl rfl rfl rfl on rfl rfl (fun a F => ?_)
  have h47 := RTemplate.mk2 (w := w) (show I64 0 by decide) (Rd.nil 2 RRel _)
  refine o_build Tryz.underlying60 Tryz.zeroValue60 (fun w => by simp [Tryz.sizeOf2, Tryz.sizeOf58]; rfl) F rfl rfl rfl rfl rfl on rfl rfl (fun a F => ?_)
  have h48 := RInstance.mk2 (w := w) (show I64 0 by decide) (Rd.nil 2 RCon _)
  refine o_bstoreA (vs := [.int .i64 0, (.slice none 0 0)]) Tryz.sizeOf33 F rfl rfl rfl K32 (oc rfl (oc rfl on)) (Nat.le_of_ble_eq_true rfl) rfl (fun w K32 l => ?_)
  replace hB := hB.o l (fun c hc => by rw [List.mem_singleton] at hc; rw [hc]; exact CK32) hB.size
  replace h48 := h48.goO l (Dj.nil' _)
  replace K38 := K38.only l (by simpa using nb41.symm)
  refine o_bstoreA (vs := [.int .i64 0, (.slice none 0 0)]) Tryz.sizeOf60 F rfl rfl rfl K38 (oc rfl (oc rfl on)) (Nat.le_of_ble_eq_true rfl) rfl (fun w K38 l => ?_)
  replace hB := hB.o l (fun c hc => by rw [List.mem_singleton] at hc; rw [hc]; exact CK38) hB.size
  replace K32 := K32.only l (by simpa using nb41)
  refine o_assign F rfl rfl (fun a F => ?_)
  refine x_end ?_
  refine x_tn ?_
  refine x_ret ?_
  refine x_tr ?_
  refine x_res3 F rfl (rv_cA (arr := #[.int .i64 0, (.slice none 0 0)]) F Tryz.isAgg33 Tryz.sizeOf33 rfl K32) (rv_cA (arr := #[.int .i64 0, (.slice none 0 0)]) F Tryz.isAgg60 Tryz.sizeOf60 rfl K38) (rv_t F rfl) ?_
  obtain rfl := Option.some.inj hR
  exact ⟨_, rfl, hB, (.slice none 0 0), [], [], (.slice none 0 0), [], [], rfl, (show I64 0 by decide), Row.nil 2 RRel 101 _ _, Own.nil _ _, (show I64 0 by decide), Row.nil 2 RCon 130 _ _, Own.nil _ _, (show I64 (1) by decide), (Dj.nil' _)⟩
 replace hR := ifF hb46 hR
 refine x_skip ?_
 refine x_tn ?_
 refine x_seq ?_
 refine x_seq ?_
 refine x_reg ?_
 refine o_assign F rfl rfl (fun a F => ?_)
 refine x_end ?_
 refine x_tn ?_
 obtain ⟨o100, hR, hk101⟩ := thn_some hR
 refine x_cutQ (fun a w => o100 = .nx () ∧ Sk a 164 [(2, v2), (3, .pointer (some ⟨b11, 0, none⟩)), (4, .pointer (some ⟨b20, 0, none⟩)), (6, .pointer (some ⟨b31, 0, none⟩)), (7, .pointer (some ⟨b37, 0, none⟩))] ∧ Below w0.heap.size w0 w ∧ Rd (Sl 2 RRel) w v15 x0.rels b16 ∧ Rd (Sl 2 RCon) w v24 x1.cons b25 ∧ Blk w b11 #[.int .i64 x0.size, v15] 33 ∧ Blk w b20 #[.int .i64 x1.vars, v24] 60 ∧ Blk w b31 #[.int .i64 0, (.slice none 0 0)] 33 ∧ Blk w b37 #[.int .i64 0, (.slice none 0 0)] 60) ?_ ?_
 ·
  refine x_blk ?_
  obtain ⟨fl104, hf105, hR⟩ := forL_gen hR
  refine x_loop (fun g a w => ∃ (k106 : Nat) (rest107 : List (List Literal)), (k106 ≤ x2.length ∧ x2.drop k106 = rest107) ∧ rest107.length = g ∧ forL fl104 rest107 k106 () = some o100 ∧ Sk a 164 [(9, .int .i64 (k106 : Int)), (2, v2), (3, .pointer (some ⟨b11, 0, none⟩)), (4, .pointer (some ⟨b20, 0, none⟩)), (6, .pointer (some ⟨b31, 0, none⟩)), (7, .pointer (some ⟨b37, 0, none⟩))] ∧ Below w0.heap.size w0 w ∧ Rd (Sl 2 RRel) w v15 x0.rels b16 ∧ Rd (Sl 2 RCon) w v24 x1.cons b25 ∧ Blk w b11 #[.int .i64 x0.size, v15] 33 ∧ Blk w b20 #[.int .i64 x1.vars, v24] 60 ∧ Blk w b31 #[.int .i64 0, (.slice none 0 0)] 33 ∧ Blk w b37 #[.int .i64 0, (.slice none 0 0)] 60) x2.length ?_ ?_
  ·
   exact ⟨0, x2, ⟨Nat.zero_le _, rfl⟩, rfl, hR, F.sub (sc rfl (sc rfl (sc rfl (sc rfl (sc rfl (sc rfl sn)))))), hB, h17, h26, K12, K21, K32, K38⟩
  intro g109 a w ⟨k106, rest107, hd110, hg111, hR, F, hB, h17, h26, K12, K21, K32, K38⟩
  cases rest107 with
  | nil =>
   replace hR := forL_nil hR
   have hkk106 := drop_nil hd110.1 hd110.2
   have hlk106 := dec_no hkk106
   refine x_seq ?_
   refine x_seq ?_
   refine x_reg ?_
   refine o_move F rfl rfl (fun a F => ?_)
   refine o_move F rfl rfl (fun a F => ?_)
   refine o_len Tryz.underlying64 F rfl rfl (A2.go hB) (fun a F => ?_)
   have i162 := ((A2.go hB)).r.len64
   refine o_lss F rfl rfl rfl (fun a F => ?_)
   refine x_end ?_
   refine x_tn ?_
   refine x_ifF F rfl hlk106 ?_
   refine x_exit ?_
   refine x_te ?_
   refine x_te ?_
   refine x_be ?_
   refine x_tn ?_
   exact ⟨(Option.some.inj hR).symm, F.sub (sc rfl (sc rfl (sc rfl (sc rfl (sc rfl sn))))), hB, h17, h26, K12, K21, K32, K38⟩
  | cons x108 rest107 =>
   subst hg111
   replace hd110 := drop_cons hd110.2
   have hxk106 := ix_nat hd110.2.1
   obtain ⟨ck106, hR, hn103⟩ := forL_cons hR
   rw [hf105] at hR
   have hlk106 := dec_yes hd110.1
   refine x_seq ?_
   refine x_seq ?_
   refine x_reg ?_
   refine o_move F rfl rfl (fun a F => ?_)
   refine o_move F rfl rfl (fun a F => ?_)
   refine o_len Tryz.underlying64 F rfl rfl (A2.go hB) (fun a F => ?_)
   have i112 := ((A2.go hB)).r.len64
   refine o_lss F rfl rfl rfl (fun a F => ?_)
   refine x_end ?_
   refine x_tn ?_
   refine x_ifT F rfl hlk106 ?_
   refine x_skip ?_
   refine x_tn ?_
   refine x_seq ?_
   have ikk106 := k64 (Nat.le_of_lt hd110.1) i112
   have ink106 := inc64 hd110.1 i112
   refine x_blk ?_
   refine x_seq ?_
   obtain ⟨o134, hR, hk135⟩ := thn_some hR
   refine x_cutQ (fun a w => ∃ (s137 : Bool), o134 = .nx s137 ∧ Sk a 164 [(2, v2), (3, .pointer (some ⟨b11, 0, none⟩)), (4, .pointer (some ⟨b20, 0, none⟩)), (6, .pointer (some ⟨b31, 0, none⟩)), (7, .pointer (some ⟨b37, 0, none⟩)), (9, .int .i64 (k106 : Int)), (42, .bool s137)] ∧ Below w0.heap.size w0 w ∧ Rd (Sl 2 RRel) w v15 x0.rels b16 ∧ Rd (Sl 2 RCon) w v24 x1.cons b25 ∧ Blk w b11 #[.int .i64 x0.size, v15] 33 ∧ Blk w b20 #[.int .i64 x1.vars, v24] 60 ∧ Blk w b31 #[.int .i64 0, (.slice none 0 0)] 33 ∧ Blk w b37 #[.int .i64 0, (.slice none 0 0)] 60) ?_ ?_
   ·
    refine x_reg ?_
    refine o_move F rfl rfl (fun a F => ?_)
    refine o_move F rfl rfl (fun a F => ?_)
    refine o_index Tryz.underlying64 Tryz.sizeOf124 F rfl rfl rfl (A2.go hB) hxk106 (fun a p138 b139 h140 s141 F => ?_)
    refine o_loadS Tryz.isAgg124 F rfl rfl h140 (fun a v142 b143 h144 s145 F => ?_)
    obtain ⟨z146, c147, hR⟩ := bnd_some hR
    refine o_says F rfl Tryz.call81 rfl (spec_l08Literals_c z146 c147 _ (RTemplate.blk K12 i14 h17) (RInstance.blk K21 i23 h26) h144) (fun a w l F => ?_)
    replace hB := Below.through l hB
    replace h17 := h17.go l
    replace h26 := h26.go l
    replace K12 := K12.thru l
    replace K21 := K21.thru l
    replace K32 := K32.thru l
    replace K38 := K38.thru l
    refine o_not F rfl rfl (fun a F => ?_)
    refine o_move F rfl rfl (fun a F => ?_)
    rcases bcases (!z146) with hb148 | hb148
    ·
     replace hR := ifT hb148 hR
     have F := F.eq (t := 35) rfl (congrArg Value.bool hb148)
     refine o_no F rfl rfl (fun a F => ?_)
     refine o_no F rfl rfl (fun a F => ?_)
     refine o_no F rfl rfl (fun a F => ?_)
     refine o_no F rfl rfl (fun a F => ?_)
     refine o_no F rfl rfl (fun a F => ?_)
     refine o_no F rfl rfl (fun a F => ?_)
     refine o_pickt F rfl rfl rfl (fun a F => ?_)
     refine x_end ?_
     refine x_tn ?_
     exact ⟨true, (Option.some.inj hR).symm, F.sub (sc rfl (sc rfl (sc rfl (sc rfl (sc rfl (sc rfl (sc rfl sn))))))), hB, h17, h26, K12, K21, K32, K38⟩
    replace hR := ifF hb148 hR
    have F := F.eq (t := 35) rfl (congrArg Value.bool hb148)
    refine o_move F rfl rfl (fun a F => ?_)
    refine o_move F rfl rfl (fun a F => ?_)
    refine o_index Tryz.underlying64 Tryz.sizeOf124 F rfl rfl rfl (A2.go hB) hxk106 (fun a p149 b150 h151 s152 F => ?_)
    refine o_loadS Tryz.isAgg124 F rfl rfl h151 (fun a v153 b154 h155 s156 F => ?_)
    obtain ⟨z157, c158, hR⟩ := bnd_some hR
    refine o_says F rfl Tryz.call82 rfl (spec_l08Distinct_c z157 c158 _ h155) (fun a w l F => ?_)
    replace hB := Below.through l hB
    replace h17 := h17.go l
    replace h26 := h26.go l
    replace K12 := K12.thru l
    replace K21 := K21.thru l
    replace K32 := K32.thru l
    replace K38 := K38.thru l
    refine o_not F rfl rfl (fun a F => ?_)
    refine o_pickf F rfl rfl rfl (fun a F => ?_)
    refine x_end ?_
    refine x_tn ?_
    exact ⟨(!z157), (Option.some.inj hR).symm, F.sub (sc rfl (sc rfl (sc rfl (sc rfl (sc rfl (sc rfl (sc rfl sn))))))), hB, h17, h26, K12, K21, K32, K38⟩
   intro a w ⟨s137, ho136, F, hB, h17, h26, K12, K21, K32, K38⟩
   subst ho136
   have hR := then_nx hk135
   refine x_tn ?_
   refine x_if F rfl (fun hb159 => ?_) (fun hb159 => ?_)
   ·
    replace hR := ifT hb159 hR
    refine x_seq ?_
    refine x_reg ?_
    refine o_build Tryz.underlying33 Tryz.zeroValue33 (fun w => by simp [Tryz.sizeOf2, Tryz.sizeOf31]; rfl) F rfl rfl rfl rfl rfl on rfl rfl (fun a F => ?_)
    have h160 := RTemplate.mk2 (w := w) (show I64 0 by decide) (Rd.nil 2 RRel _)
    refine o_build Tryz.underlying60 Tryz.zeroValue60 (fun w => by simp [Tryz.sizeOf2, Tryz.sizeOf58]; rfl) F rfl rfl rfl rfl rfl on rfl rfl (fun a F => ?_)
    have h161 := RInstance.mk2 (w := w) (show I64 0 by decide) (Rd.nil 2 RCon _)
    refine o_bstoreA (vs := [.int .i64 0, (.slice none 0 0)]) Tryz.sizeOf33 F rfl rfl rfl K32 (oc rfl (oc rfl on)) (Nat.le_of_ble_eq_true rfl) rfl (fun w K32 l => ?_)
    replace hB := hB.o l (fun c hc => by rw [List.mem_singleton] at hc; rw [hc]; exact CK32) hB.size
    replace h161 := h161.goO l (Dj.nil' _)
    replace K38 := K38.only l (by simpa using nb41.symm)
    refine o_bstoreA (vs := [.int .i64 0, (.slice none 0 0)]) Tryz.sizeOf60 F rfl rfl rfl K38 (oc rfl (oc rfl on)) (Nat.le_of_ble_eq_true rfl) rfl (fun w K38 l => ?_)
    replace hB := hB.o l (fun c hc => by rw [List.mem_singleton] at hc; rw [hc]; exact CK38) hB.size
    replace K32 := K32.only l (by simpa using nb41)
    refine o_assign F rfl rfl (fun a F => ?_)
    refine x_end ?_
    refine x_tn ?_
    refine x_ret ?_
    refine x_br ?_
    refine x_tr ?_
    refine x_tr ?_
    replace hR := l_ret hR hn103
    refine x_br ?_
    refine x_tr ?_
    replace hR := j_ret hR hk101
    refine x_tr ?_
    refine x_res3 F rfl (rv_cA (arr := #[.int .i64 0, (.slice none 0 0)]) F Tryz.isAgg33 Tryz.sizeOf33 rfl K32) (rv_cA (arr := #[.int .i64 0, (.slice none 0 0)]) F Tryz.isAgg60 Tryz.sizeOf60 rfl K38) (rv_t F rfl) ?_
    obtain rfl := Option.some.inj hR
    exact ⟨_, rfl, hB, (.slice none 0 0), [], [], (.slice none 0 0), [], [], rfl, (show I64 0 by decide), Row.nil 2 RRel 101 _ _, Own.nil _ _, (show I64 0 by decide), Row.nil 2 RCon 130 _ _, Own.nil _ _, (show I64 (2) by decide), (Dj.nil' _)⟩
   replace hR := ifF hb159 hR
   refine x_skip ?_
   refine x_bn ?_
   refine x_tn ?_
   refine x_reg ?_
   refine o_move F rfl rfl (fun a F => ?_)
   refine o_inc F rfl rfl rfl ink106 (fun a F => ?_)
   refine o_assign F rfl rfl (fun a F => ?_)
   refine x_end ?_
   refine x_tn ?_
   replace hR := l_go hR hn103
   exact ⟨_, Nat.lt_succ_self _, k106 + 1, rest107, ⟨hd110.1, hd110.2.2⟩, rfl, hR, F.sub (sc rfl (sc rfl (sc rfl (sc rfl (sc rfl (sc rfl sn)))))), hB, h17, h26, K12, K21, K32, K38⟩
 intro a w ⟨ho102, F, hB, h17, h26, K12, K21, K32, K38⟩
 subst ho102
 have hR := then_nx hk101
 refine x_tn ?_
 refine x_seq ?_
 refine x_seq ?_
 obtain ⟨o172, hR, hk173⟩ := thn_some hR
 refine x_cutQ (fun a w => ∃ (s175 : Bool), o172 = .nx s175 ∧ Sk a 164 [(2, v2), (3, .pointer (some ⟨b11, 0, none⟩)), (4, .pointer (some ⟨b20, 0, none⟩)), (6, .pointer (some ⟨b31, 0, none⟩)), (7, .pointer (some ⟨b37, 0, none⟩)), (60, .bool s175)] ∧ Below w0.heap.size w0 w ∧ Rd (Sl 2 RRel) w v15 x0.rels b16 ∧ Rd (Sl 2 RCon) w v24 x1.cons b25 ∧ Blk w b11 #[.int .i64 x0.size, v15] 33 ∧ Blk w b20 #[.int .i64 x1.vars, v24] 60 ∧ Blk w b31 #[.int .i64 0, (.slice none 0 0)] 33 ∧ Blk w b37 #[.int .i64 0, (.slice none 0 0)] 60) ?_ ?_
 ·
  refine x_reg ?_
  refine o_bfield fa33_1 F rfl rfl rfl (fun a F => ?_)
  refine o_bload Tryz.isAgg31 F rfl rfl K12 rfl (fun a F => ?_)
  refine o_len Tryz.underlying31 F rfl rfl h17 (fun a F => ?_)
  have i176 := (h17).r.len64
  refine o_move F rfl rfl (fun a F => ?_)
  refine o_len Tryz.underlying64 F rfl rfl (A2.go hB) (fun a F => ?_)
  have i177 := ((A2.go hB)).r.len64
  obtain ⟨z178, c179, hR⟩ := bnd_some hR
  refine o_add F rfl rfl rfl c179 (fun a F => ?_)
  refine o_gtr F rfl rfl rfl (fun a F => ?_)
  refine o_move F rfl rfl (fun a F => ?_)
  rcases bcases (decide (6 < z178)) with hb180 | hb180
  ·
   replace hR := ifT hb180 hR
   have F := F.eq (t := 52) rfl (congrArg Value.bool hb180)
   refine o_no F rfl rfl (fun a F => ?_)
   refine o_no F rfl rfl (fun a F => ?_)
   refine o_no F rfl rfl (fun a F => ?_)
   refine o_no F rfl rfl (fun a F => ?_)
   refine o_no F rfl rfl (fun a F => ?_)
   refine o_no F rfl rfl (fun a F => ?_)
   refine o_no F rfl rfl (fun a F => ?_)
   refine o_pickt F rfl rfl rfl (fun a F => ?_)
   refine x_end ?_
   refine x_tn ?_
   exact ⟨true, (Option.some.inj hR).symm, F.sub (sc rfl (sc rfl (sc rfl (sc rfl (sc rfl (sc rfl sn)))))), hB, h17, h26, K12, K21, K32, K38⟩
  replace hR := ifF hb180 hR
  have F := F.eq (t := 52) rfl (congrArg Value.bool hb180)
  refine o_bfield fa60_1 F rfl rfl rfl (fun a F => ?_)
  refine o_bload Tryz.isAgg58 F rfl rfl K21 rfl (fun a F => ?_)
  refine o_len Tryz.underlying58 F rfl rfl h26 (fun a F => ?_)
  have i181 := (h26).r.len64
  refine o_move F rfl rfl (fun a F => ?_)
  refine o_len Tryz.underlying64 F rfl rfl (A2.go hB) (fun a F => ?_)
  have i182 := ((A2.go hB)).r.len64
  obtain ⟨z183, c184, hR⟩ := bnd_some hR
  refine o_add F rfl rfl rfl c184 (fun a F => ?_)
  refine o_gtr F rfl rfl rfl (fun a F => ?_)
  refine o_pickf F rfl rfl rfl (fun a F => ?_)
  refine x_end ?_
  refine x_tn ?_
  exact ⟨(decide (24 < z183)), (Option.some.inj hR).symm, F.sub (sc rfl (sc rfl (sc rfl (sc rfl (sc rfl (sc rfl sn)))))), hB, h17, h26, K12, K21, K32, K38⟩
 intro a w ⟨s175, ho174, F, hB, h17, h26, K12, K21, K32, K38⟩
 subst ho174
 have hR := then_nx hk173
 refine x_tn ?_
 refine x_if F rfl (fun hb185 => ?_) (fun hb185 => ?_)
 ·
  replace hR := ifT hb185 hR
  refine x_seq ?_
  refine x_reg ?_
  refine o_build Tryz.underlying33 Tryz.zeroValue33 (fun w => by simp [Tryz.sizeOf2, Tryz.sizeOf31]; rfl) F rfl rfl rfl rfl rfl on rfl rfl (fun a F => ?_)
  have h186 := RTemplate.mk2 (w := w) (show I64 0 by decide) (Rd.nil 2 RRel _)
  refine o_build Tryz.underlying60 Tryz.zeroValue60 (fun w => by simp [Tryz.sizeOf2, Tryz.sizeOf58]; rfl) F rfl rfl rfl rfl rfl on rfl rfl (fun a F => ?_)
  have h187 := RInstance.mk2 (w := w) (show I64 0 by decide) (Rd.nil 2 RCon _)
  refine o_bstoreA (vs := [.int .i64 0, (.slice none 0 0)]) Tryz.sizeOf33 F rfl rfl rfl K32 (oc rfl (oc rfl on)) (Nat.le_of_ble_eq_true rfl) rfl (fun w K32 l => ?_)
  replace hB := hB.o l (fun c hc => by rw [List.mem_singleton] at hc; rw [hc]; exact CK32) hB.size
  replace h187 := h187.goO l (Dj.nil' _)
  replace K38 := K38.only l (by simpa using nb41.symm)
  refine o_bstoreA (vs := [.int .i64 0, (.slice none 0 0)]) Tryz.sizeOf60 F rfl rfl rfl K38 (oc rfl (oc rfl on)) (Nat.le_of_ble_eq_true rfl) rfl (fun w K38 l => ?_)
  replace hB := hB.o l (fun c hc => by rw [List.mem_singleton] at hc; rw [hc]; exact CK38) hB.size
  replace K32 := K32.only l (by simpa using nb41)
  refine o_assign F rfl rfl (fun a F => ?_)
  refine x_end ?_
  refine x_tn ?_
  refine x_ret ?_
  refine x_tr ?_
  refine x_res3 F rfl (rv_cA (arr := #[.int .i64 0, (.slice none 0 0)]) F Tryz.isAgg33 Tryz.sizeOf33 rfl K32) (rv_cA (arr := #[.int .i64 0, (.slice none 0 0)]) F Tryz.isAgg60 Tryz.sizeOf60 rfl K38) (rv_t F rfl) ?_
  obtain rfl := Option.some.inj hR
  exact ⟨_, rfl, hB, (.slice none 0 0), [], [], (.slice none 0 0), [], [], rfl, (show I64 0 by decide), Row.nil 2 RRel 101 _ _, Own.nil _ _, (show I64 0 by decide), Row.nil 2 RCon 130 _ _, Own.nil _ _, (show I64 (3) by decide), (Dj.nil' _)⟩
 replace hR := ifF hb185 hR
 refine x_skip ?_
 refine x_tn ?_
 refine x_seq ?_
 obtain ⟨z188, c189, hR⟩ := bnd_some hR
 refine x_drawn (by kernel_rfl) (fun w l => ?_)
 replace hB := Below.through l hB
 replace h17 := h17.go l
 replace h26 := h26.go l
 replace K12 := K12.thru l
 replace K21 := K21.thru l
 replace K32 := K32.thru l
 replace K38 := K38.thru l
 refine dp (fun G => ∀ (b279 : Nat) (v281 : Value) (rb282 : List Nat) (ib283 : List Nat) (a : Act) (w : World), Sk a 164 [(2, v2), (3, .pointer (some ⟨b11, 0, none⟩)), (4, .pointer (some ⟨b20, 0, none⟩)), (6, .pointer (some ⟨b31, 0, none⟩)), (7, .pointer (some ⟨b37, 0, none⟩)), (10, .pointer (some ⟨b279, 0, none⟩)), (68, (.agg #[.int .i64 x0.size, v281]))] → Below w0.heap.size w0 w → Rd (Sl 2 RRel) w v15 x0.rels b16 → Rd (Sl 2 RCon) w v24 x1.cons b25 → w0.heap.size ≤ b279 → Row 2 RRel 101 w0.heap.size w v281 z188 rb282 ib283 → Own w0.heap.size ib283 w → Blk w b11 #[.int .i64 x0.size, v15] 33 → Blk w b20 #[.int .i64 x1.vars, v24] 60 → Blk w b31 #[.int .i64 0, (.slice none 0 0)] 33 → Blk w b37 #[.int .i64 0, (.slice none 0 0)] 60 → Blk w b279 #[.int .i64 0, (.slice none 0 0)] 33 → Dj b16 rb282 → Dj b25 rb282 → Dj [b11] rb282 → Dj [b20] rb282 → Dj [b31] rb282 → Dj [b37] rb282 → Dj (rb282 ++ ib283) ([b11]) → Dj (rb282 ++ ib283) ([b20]) → Dj (rb282 ++ ib283) ([b31]) → Dj (rb282 ++ ib283) ([b37]) → Dj [b279] rb282 → Dj b16 ([b279]) → Dj b25 ([b279]) → Dj (rb282 ++ ib283) ([b279]) → b11 ≠ b279 → b20 ≠ b279 → b279 ≠ b31 → b279 ≠ b37 → ∀ ls, ls = #[true, true, true, true, true, true, true, false] → G 1 ls a w) ?_ (fun H306 => ?_)
 ·
  intro b279 v281 rb282 ib283 a w F hB h17 h26 CK280 h284 ow286 K12 K21 K32 K38 K280 d287 d288 d289 d290 d291 d292 d293 d294 d295 d296 d297 d298 d299 d300 nb301 nb302 nb303 nb304 ls hls
  subst hls
  have h305 := RTemplate.mk2 (w := w) i14 h284.rd
  refine b_e 7 rfl (by kernel_rfl) ?_
  refine o_bstoreA (vs := [.int .i64 x0.size, v281]) Tryz.sizeOf33 F rfl rfl rfl K280 (oc rfl (oc (h284.rd).r.one on)) (Nat.le_of_ble_eq_true rfl) rfl (fun w K280 l => ?_)
  replace hB := hB.o l (fun c hc => by rw [List.mem_singleton] at hc; rw [hc]; exact CK280) hB.size
  replace h17 := h17.goO l d298
  replace h26 := h26.goO l d299
  replace h284 := h284.goO l d300
  replace ow286 := ow286.goO l d300.r
  replace K12 := K12.only l (by simpa using nb301)
  replace K21 := K21.only l (by simpa using nb302)
  replace K32 := K32.only l (by simpa using nb303.symm)
  replace K38 := K38.only l (by simpa using nb304.symm)
  refine x_end ?_
  refine x_tn ?_
  refine ⟨.inr (by kernel_rfl), ?_⟩
  refine b_end (by kernel_rfl) ?_
  refine x_tn ?_
  refine x_seq ?_
  obtain ⟨z307, c308, hR⟩ := bnd_some hR
  obtain ⟨z324, c325, hR⟩ := bnd_some hR
  refine x_drawn (by kernel_rfl) (fun w l => ?_)
  replace hB := Below.through l hB
  replace h17 := h17.go l
  replace h26 := h26.go l
  replace h284 := h284.go l
  replace ow286 := ow286.go l
  replace K12 := K12.thru l
  replace K21 := K21.thru l
  replace K32 := K32.thru l
  replace K38 := K38.thru l
  replace K280 := K280.thru l
  refine dp (fun G => ∀ (b497 : Nat) (v499 : Value) (rb500 : List Nat) (ib501 : List Nat) (a : Act) (w : World), Sk a 164 [(2, v2), (3, .pointer (some ⟨b11, 0, none⟩)), (6, .pointer (some ⟨b31, 0, none⟩)), (7, .pointer (some ⟨b37, 0, none⟩)), (10, .pointer (some ⟨b279, 0, none⟩)), (11, .pointer (some ⟨b497, 0, none⟩)), (77, (.agg #[.int .i64 x1.vars, v499]))] → Below w0.heap.size w0 w → Rd (Sl 2 RRel) w v15 x0.rels b16 → Row 2 RRel 101 w0.heap.size w v281 z188 rb282 ib283 → Own w0.heap.size ib283 w → w0.heap.size ≤ b497 → Row 2 RCon 130 w0.heap.size w v499 z324 rb500 ib501 → Own w0.heap.size ib501 w → Blk w b11 #[.int .i64 x0.size, v15] 33 → Blk w b31 #[.int .i64 0, (.slice none 0 0)] 33 → Blk w b37 #[.int .i64 0, (.slice none 0 0)] 60 → Blk w b279 #[.int .i64 x0.size, v281] 33 → Blk w b497 #[.int .i64 0, (.slice none 0 0)] 60 → Dj b16 rb500 → Dj (rb282 ++ ib283) rb500 → Dj [b11] rb500 → Dj [b31] rb500 → Dj [b37] rb500 → Dj [b279] rb500 → Dj (rb500 ++ ib501) ([b11]) → Dj (rb500 ++ ib501) ([b31]) → Dj (rb500 ++ ib501) ([b37]) → Dj (rb500 ++ ib501) ([b279]) → Dj (rb500 ++ ib501) rb282 → Dj (rb500 ++ ib501) ib283 → Dj [b497] rb282 → Dj [b497] rb500 → Dj b16 ([b497]) → Dj (rb282 ++ ib283) ([b497]) → Dj (rb500 ++ ib501) ([b497]) → b11 ≠ b497 → b31 ≠ b497 → b37 ≠ b497 → b279 ≠ b497 → ∀ ls, ls = #[true, true, true, true, true, true, true, true, true, true, false] → G 1 ls a w) ?_ (fun H527 => ?_)
  ·
   intro b497 v499 rb500 ib501 a w F hB h17 h284 ow286 CK498 h502 ow504 K12 K32 K38 K280 K498 d505 d506 d507 d508 d509 d510 d511 d512 d513 d514 d515 d516 d517 d518 d519 d520 d521 nb522 nb523 nb524 nb525 ls hls
   subst hls
   have h526 := RInstance.mk2 (w := w) i23 h502.rd
   refine b_e 10 rfl (by kernel_rfl) ?_
   refine o_bstoreA (vs := [.int .i64 x1.vars, v499]) Tryz.sizeOf60 F rfl rfl rfl K498 (oc rfl (oc (h502.rd).r.one on)) (Nat.le_of_ble_eq_true rfl) rfl (fun w K498 l => ?_)
   replace hB := hB.o l (fun c hc => by rw [List.mem_singleton] at hc; rw [hc]; exact CK498) hB.size
   replace h17 := h17.goO l d519
   replace h284 := h284.goO l d520
   replace ow286 := ow286.goO l d520.r
   replace h502 := h502.goO l d521
   replace ow504 := ow504.goO l d521.r
   replace K12 := K12.only l (by simpa using nb522)
   replace K32 := K32.only l (by simpa using nb523)
   replace K38 := K38.only l (by simpa using nb524)
   replace K280 := K280.only l (by simpa using nb525)
   refine x_end ?_
   refine x_tn ?_
   refine ⟨.inr (by kernel_rfl), ?_⟩
   refine b_end (by kernel_rfl) ?_
   refine x_tn ?_
   refine x_seq ?_
   refine x_seq ?_
   refine x_reg ?_
   refine o_assign F rfl rfl (fun a F => ?_)
   refine x_end ?_
   refine x_tn ?_
   obtain ⟨o2688, hR, hk2689⟩ := thn_some hR
   refine x_cutQ (fun a w => ∃ (s2723 : List Rel) (v2726 : Value) (rb2727 : List Nat) (ib2728 : List Nat) (s2730 : List Con) (v2733 : Value) (rb2734 : List Nat) (ib2735 : List Nat), o2688 = .nx (s2723, s2730) ∧ Sk a 164 [(6, .pointer (some ⟨b31, 0, none⟩)), (7, .pointer (some ⟨b37, 0, none⟩)), (10, .pointer (some ⟨b279, 0, none⟩)), (11, .pointer (some ⟨b497, 0, none⟩))] ∧ Below w0.heap.size w0 w ∧ Row 2 RRel 101 w0.heap.size w v2726 s2723 rb2727 ib2728 ∧ Own w0.heap.size ib2728 w ∧ Row 2 RCon 130 w0.heap.size w v2733 s2730 rb2734 ib2735 ∧ Own w0.heap.size ib2735 w ∧ Blk w b31 #[.int .i64 0, (.slice none 0 0)] 33 ∧ Blk w b37 #[.int .i64 0, (.slice none 0 0)] 60 ∧ Blk w b279 #[.int .i64 x0.size, v2726] 33 ∧ Blk w b497 #[.int .i64 x1.vars, v2733] 60 ∧ Dj (rb2727 ++ ib2728) [b31] ∧ Dj (rb2727 ++ ib2728) [b37] ∧ Dj (rb2727 ++ ib2728) [b279] ∧ Dj (rb2727 ++ ib2728) [b497] ∧ Dj (rb2734 ++ ib2735) rb2727 ∧ Dj (rb2734 ++ ib2735) [b31] ∧ Dj (rb2734 ++ ib2735) [b37] ∧ Dj (rb2734 ++ ib2735) [b279] ∧ Dj (rb2734 ++ ib2735) [b497] ∧ Dj (rb2727 ++ ib2728) rb2734 ∧ Dj (rb2734 ++ ib2735) ib2728) ?_ ?_
   ·
    refine x_blk ?_
    obtain ⟨fl2692, hf2693, hR⟩ := forL_gen hR
    refine x_loop (fun g a w => ∃ (k2748 : Nat) (rest2749 : List (List Literal)) (s2694 : List Rel) (v2697 : Value) (rb2698 : List Nat) (ib2699 : List Nat) (s2701 : List Con) (v2704 : Value) (rb2705 : List Nat) (ib2706 : List Nat), (k2748 ≤ x2.length ∧ x2.drop k2748 = rest2749) ∧ rest2749.length = g ∧ forL fl2692 rest2749 k2748 (s2694, s2701) = some o2688 ∧ Sk a 164 [(12, .int .i64 (k2748 : Int)), (2, v2), (3, .pointer (some ⟨b11, 0, none⟩)), (6, .pointer (some ⟨b31, 0, none⟩)), (7, .pointer (some ⟨b37, 0, none⟩)), (10, .pointer (some ⟨b279, 0, none⟩)), (11, .pointer (some ⟨b497, 0, none⟩))] ∧ Below w0.heap.size w0 w ∧ Row 2 RRel 101 w0.heap.size w v2697 s2694 rb2698 ib2699 ∧ Own w0.heap.size ib2699 w ∧ Row 2 RCon 130 w0.heap.size w v2704 s2701 rb2705 ib2706 ∧ Own w0.heap.size ib2706 w ∧ Rd (Sl 2 RRel) w v15 x0.rels b16 ∧ Blk w b11 #[.int .i64 x0.size, v15] 33 ∧ Blk w b31 #[.int .i64 0, (.slice none 0 0)] 33 ∧ Blk w b37 #[.int .i64 0, (.slice none 0 0)] 60 ∧ Blk w b279 #[.int .i64 x0.size, v2697] 33 ∧ Blk w b497 #[.int .i64 x1.vars, v2704] 60 ∧ Dj b16 rb2698 ∧ Dj (rb2698 ++ ib2699) [b11] ∧ Dj (rb2698 ++ ib2699) [b31] ∧ Dj (rb2698 ++ ib2699) [b37] ∧ Dj (rb2698 ++ ib2699) [b279] ∧ Dj (rb2698 ++ ib2699) [b497] ∧ Dj (rb2705 ++ ib2706) rb2698 ∧ Dj b16 rb2705 ∧ Dj (rb2705 ++ ib2706) [b11] ∧ Dj (rb2705 ++ ib2706) [b31] ∧ Dj (rb2705 ++ ib2706) [b37] ∧ Dj (rb2705 ++ ib2706) [b279] ∧ Dj (rb2705 ++ ib2706) [b497] ∧ Dj (rb2698 ++ ib2699) rb2705 ∧ Dj (rb2705 ++ ib2706) ib2699) x2.length ?_ ?_
    ·
     exact ⟨0, x2, z188, v281, rb282, ib283, z324, v499, rb500, ib501, ⟨Nat.zero_le _, rfl⟩, rfl, hR, F.sub (sc rfl (sc rfl (sc rfl (sc rfl (sc rfl (sc rfl (sc rfl sn))))))), hB, h284, ow286, h502, ow504, h17, K12, K32, K38, K280, K498, d287, d293, d295, d296, d300, d520, d515, d505, d511, d512, d513, d514, d521, d506, d516⟩
    intro g2751 a w ⟨k2748, rest2749, s2694, v2697, rb2698, ib2699, s2701, v2704, rb2705, ib2706, hd2752, hg2753, hR, F, hB, h2696, ow2700, h2703, ow2707, h17, K12, K32, K38, K280, K498, d2708, d2709, d2710, d2711, d2712, d2713, d2714, d2715, d2716, d2717, d2718, d2719, d2720, d2721, d2722⟩
    cases rest2749 with
    | nil =>
     replace hR := forL_nil hR
     have hkk2748 := drop_nil hd2752.1 hd2752.2
     have hlk2748 := dec_no hkk2748
     refine x_seq ?_
     refine x_seq ?_
     refine x_reg ?_
     refine o_move F rfl rfl (fun a F => ?_)
     refine o_move F rfl rfl (fun a F => ?_)
     refine o_len Tryz.underlying64 F rfl rfl (A2.go hB) (fun a F => ?_)
     have i3819 := ((A2.go hB)).r.len64
     refine o_lss F rfl rfl rfl (fun a F => ?_)
     refine x_end ?_
     refine x_tn ?_
     refine x_ifF F rfl hlk2748 ?_
     refine x_exit ?_
     refine x_te ?_
     refine x_te ?_
     refine x_be ?_
     refine x_tn ?_
     exact ⟨s2694, v2697, rb2698, ib2699, s2701, v2704, rb2705, ib2706, (Option.some.inj hR).symm, F.sub (sc rfl (sc rfl (sc rfl (sc rfl sn)))), hB, h2696, ow2700, h2703, ow2707, K32, K38, K280, K498, d2710, d2711, d2712, d2713, d2714, d2717, d2718, d2719, d2720, d2721, d2722⟩
    | cons x2750 rest2749 =>
     subst hg2753
     replace hd2752 := drop_cons hd2752.2
     have hxk2748 := ix_nat hd2752.2.1
     obtain ⟨ck2748, hR, hn2691⟩ := forL_cons hR
     rw [hf2693] at hR
     have hlk2748 := dec_yes hd2752.1
     refine x_seq ?_
     refine x_seq ?_
     refine x_reg ?_
     refine o_move F rfl rfl (fun a F => ?_)
     refine o_move F rfl rfl (fun a F => ?_)
     refine o_len Tryz.underlying64 F rfl rfl (A2.go hB) (fun a F => ?_)
     have i2754 := ((A2.go hB)).r.len64
     refine o_lss F rfl rfl rfl (fun a F => ?_)
     refine x_end ?_
     refine x_tn ?_
     refine x_ifT F rfl hlk2748 ?_
     refine x_skip ?_
     refine x_tn ?_
     refine x_seq ?_
     have ikk2748 := k64 (Nat.le_of_lt hd2752.1) i2754
     have ink2748 := inc64 hd2752.1 i2754
     refine x_blk ?_
     refine x_seq ?_
     refine x_reg ?_
     refine o_bfield fa33_1 F rfl rfl rfl (fun a F => ?_)
     refine o_bload Tryz.isAgg31 F rfl rfl K280 rfl (fun a F => ?_)
     refine o_len Tryz.underlying31 F rfl rfl h2696.rd (fun a F => ?_)
     have i2755 := (h2696.rd).r.len64
     refine o_build Tryz.underlying130 Tryz.zeroValue130 (fun w => by simp [Tryz.sizeOf2, Tryz.sizeOf42]; rfl) F rfl rfl rfl rfl rfl (oc rfl on) rfl rfl (fun a F => ?_)
     have h2756 := RCon.mk2 (w := w) i2755 (Rd.nil 1 RInt _)
     refine o_alloc Tryz.zeroValue130 F rfl rfl (fun a w b2757 K2758 l BK2758 F => ?_)
     have d2759 := dj1 h2696.memR BK2758
     have d2760 := dj1 h2703.memR BK2758
     have nb2761 := Dj.bb K12 BK2758
     have nb2762 := Dj.bb K32 BK2758
     have nb2763 := Dj.bb K38 BK2758
     have nb2764 := Dj.bb K280 BK2758
     have nb2765 := Dj.bb K498 BK2758
     have d2766 := (dj1 h17.m BK2758).symm
     have d2767 := (dj1 h2756.m BK2758).symm
     have d2768 := (dj1 h2696.rd.m BK2758).symm
     have d2769 := (dj1 h2703.rd.m BK2758).symm
     have CK2758 := Nat.le_trans hB.size BK2758
     replace hB := Below.through l hB
     replace h17 := h17.go l
     replace h2696 := h2696.go l
     replace ow2700 := ow2700.go l
     replace h2703 := h2703.go l
     replace ow2707 := ow2707.go l
     replace h2756 := h2756.go l
     replace K12 := K12.thru l
     replace K32 := K32.thru l
     replace K38 := K38.thru l
     replace K280 := K280.thru l
     replace K498 := K498.thru l
     refine o_bstoreA (vs := [.int .i64 (s2694.length : Int), (.slice none 0 0)]) Tryz.sizeOf130 F rfl rfl rfl K2758 (oc rfl (oc rfl on)) (Nat.le_of_ble_eq_true rfl) rfl (fun w K2758 l => ?_)
     replace hB := hB.o l (fun c hc => by rw [List.mem_singleton] at hc; rw [hc]; exact CK2758) hB.size
     replace h17 := h17.goO l d2766
     replace h2696 := h2696.goO l d2768
     replace ow2700 := ow2700.goO l d2768.r
     replace h2703 := h2703.goO l d2769
     replace ow2707 := ow2707.goO l d2769.r
     replace K12 := K12.only l (by simpa using nb2761)
     replace K32 := K32.only l (by simpa using nb2762)
     replace K38 := K38.only l (by simpa using nb2763)
     replace K280 := K280.only l (by simpa using nb2764)
     replace K498 := K498.only l (by simpa using nb2765)
     refine x_end ?_
     refine x_tn ?_
     refine x_seq ?_
     refine x_reg ?_
     refine o_lit0 (R := RInt) Tryz.underlying42 Tryz.sizeOf2 F rfl (fun a w v2770 rb2771 h2772 l F => ?_)
     have d2774 := Dj.new h17.m h2772.ownR (Nat.le_refl _)
     have d2775 := Dj.new h2696.rd.m h2772.ownR (Nat.le_refl _)
     have d2776 := Dj.new h2703.rd.m h2772.ownR (Nat.le_refl _)
     have d2777 := Dj.new (inm1 K12) h2772.ownR (Nat.le_refl _)
     have d2778 := Dj.new (inm1 K32) h2772.ownR (Nat.le_refl _)
     have d2779 := Dj.new (inm1 K38) h2772.ownR (Nat.le_refl _)
     have d2780 := Dj.new (inm1 K280) h2772.ownR (Nat.le_refl _)
     have d2781 := Dj.new (inm1 K498) h2772.ownR (Nat.le_refl _)
     have d2782 := Dj.new (inm1 K2758) h2772.ownR (Nat.le_refl _)
     have d2783 := Dj.app' (Dj.new h2696.memR h2772.ownR (Nat.le_refl _)).symm (Dj.nil' _)
     have d2784 := Dj.app' (Dj.new h2696.mem h2772.ownR (Nat.le_refl _)).symm (Dj.nil' _)
     have d2785 := Dj.app' (Dj.new h2703.memR h2772.ownR (Nat.le_refl _)).symm (Dj.nil' _)
     have d2786 := Dj.app' (Dj.new h2703.mem h2772.ownR (Nat.le_refl _)).symm (Dj.nil' _)
     replace h2772 := h2772.base hB.size
     replace hB := Below.through l hB
     replace h17 := h17.go l
     replace h2696 := h2696.go l
     replace ow2700 := ow2700.go l
     replace h2703 := h2703.go l
     replace ow2707 := ow2707.go l
     replace K12 := K12.thru l
     replace K32 := K32.thru l
     replace K38 := K38.thru l
     replace K280 := K280.thru l
     replace K498 := K498.thru l
     replace K2758 := K2758.thru l
     refine o_assign F rfl rfl (fun a F => ?_)
     refine x_end ?_
     refine x_tn ?_
     refine x_seq ?_
     refine x_seq ?_
     refine x_reg ?_
     refine o_assign F rfl rfl (fun a F => ?_)
     refine x_end ?_
     refine x_tn ?_
     obtain ⟨o3094, hR, hk3095⟩ := thn_some hR
     refine x_cutQ (fun a w => ∃ (s3138 : List Int) (v3141 : Value) (rb3142 : List Nat) (s3143 : List Int) (v3146 : Value) (rb3147 : List Nat), o3094 = .nx (s3138, s3143) ∧ Sk a 164 [(2, v2), (3, .pointer (some ⟨b11, 0, none⟩)), (6, .pointer (some ⟨b31, 0, none⟩)), (7, .pointer (some ⟨b37, 0, none⟩)), (10, .pointer (some ⟨b279, 0, none⟩)), (11, .pointer (some ⟨b497, 0, none⟩)), (12, .int .i64 (k2748 : Int)), (13, .pointer (some ⟨b2757, 0, none⟩)), (14, v3141)] ∧ Below w0.heap.size w0 w ∧ Row 1 RInt 2 w0.heap.size w v3141 s3138 rb3142 ([]) ∧ Row 1 RInt 2 w0.heap.size w v3146 s3143 rb3147 ([]) ∧ Rd (Sl 2 RRel) w v15 x0.rels b16 ∧ Row 2 RRel 101 w0.heap.size w v2697 s2694 rb2698 ib2699 ∧ Own w0.heap.size ib2699 w ∧ Row 2 RCon 130 w0.heap.size w v2704 s2701 rb2705 ib2706 ∧ Own w0.heap.size ib2706 w ∧ Blk w b11 #[.int .i64 x0.size, v15] 33 ∧ Blk w b31 #[.int .i64 0, (.slice none 0 0)] 33 ∧ Blk w b37 #[.int .i64 0, (.slice none 0 0)] 60 ∧ Blk w b279 #[.int .i64 x0.size, v2697] 33 ∧ Blk w b497 #[.int .i64 x1.vars, v2704] 60 ∧ Blk w b2757 #[.int .i64 (s2694.length : Int), v3146] 130 ∧ Dj b16 rb3142 ∧ Dj (rb3142 ++ []) [b11] ∧ Dj (rb3142 ++ []) [b31] ∧ Dj (rb3142 ++ []) [b37] ∧ Dj (rb3142 ++ []) [b279] ∧ Dj (rb3142 ++ []) [b497] ∧ Dj (rb3142 ++ []) [b2757] ∧ Dj (rb2698 ++ ib2699) rb3142 ∧ Dj (rb3142 ++ []) rb2698 ∧ Dj (rb2705 ++ ib2706) rb3142 ∧ Dj (rb3142 ++ []) rb2705 ∧ Dj (rb3147 ++ []) rb3142 ∧ Dj b16 rb3147 ∧ Dj (rb3147 ++ []) [b11] ∧ Dj (rb3147 ++ []) [b31] ∧ Dj (rb3147 ++ []) [b37] ∧ Dj (rb3147 ++ []) [b279] ∧ Dj (rb3147 ++ []) [b497] ∧ Dj (rb3147 ++ []) [b2757] ∧ Dj (rb2698 ++ ib2699) rb3147 ∧ Dj (rb3147 ++ []) rb2698 ∧ Dj (rb2705 ++ ib2706) rb3147 ∧ Dj (rb3147 ++ []) rb2705 ∧ Dj (rb3142 ++ []) rb3147 ∧ Dj (rb3142 ++ []) ib2699 ∧ Dj (rb3142 ++ []) ib2706 ∧ Dj (rb3147 ++ []) ib2699 ∧ Dj (rb3147 ++ []) ib2706) ?_ ?_
     ·
      refine x_blk ?_
      obtain ⟨fl3098, hf3099, hR⟩ := forL_gen hR
      refine x_loop (fun g a w => ∃ (k3176 : Nat) (rest3177 : List Literal) (s3100 : List Int) (v3103 : Value) (rb3104 : List Nat) (s3105 : List Int) (v3108 : Value) (rb3109 : List Nat), (k3176 ≤ x2750.length ∧ x2750.drop k3176 = rest3177) ∧ rest3177.length = g ∧ forL fl3098 rest3177 k3176 (s3100, s3105) = some o3094 ∧ Sk a 164 [(15, .int .i64 (k3176 : Int)), (2, v2), (3, .pointer (some ⟨b11, 0, none⟩)), (6, .pointer (some ⟨b31, 0, none⟩)), (7, .pointer (some ⟨b37, 0, none⟩)), (10, .pointer (some ⟨b279, 0, none⟩)), (11, .pointer (some ⟨b497, 0, none⟩)), (12, .int .i64 (k2748 : Int)), (13, .pointer (some ⟨b2757, 0, none⟩)), (14, v3103)] ∧ Below w0.heap.size w0 w ∧ Row 1 RInt 2 w0.heap.size w v3103 s3100 rb3104 ([]) ∧ Row 1 RInt 2 w0.heap.size w v3108 s3105 rb3109 ([]) ∧ Rd (Sl 2 RRel) w v15 x0.rels b16 ∧ Row 2 RRel 101 w0.heap.size w v2697 s2694 rb2698 ib2699 ∧ Own w0.heap.size ib2699 w ∧ Row 2 RCon 130 w0.heap.size w v2704 s2701 rb2705 ib2706 ∧ Own w0.heap.size ib2706 w ∧ Blk w b11 #[.int .i64 x0.size, v15] 33 ∧ Blk w b31 #[.int .i64 0, (.slice none 0 0)] 33 ∧ Blk w b37 #[.int .i64 0, (.slice none 0 0)] 60 ∧ Blk w b279 #[.int .i64 x0.size, v2697] 33 ∧ Blk w b497 #[.int .i64 x1.vars, v2704] 60 ∧ Blk w b2757 #[.int .i64 (s2694.length : Int), v3108] 130 ∧ Dj b16 rb3104 ∧ Dj (rb3104 ++ []) [b11] ∧ Dj (rb3104 ++ []) [b31] ∧ Dj (rb3104 ++ []) [b37] ∧ Dj (rb3104 ++ []) [b279] ∧ Dj (rb3104 ++ []) [b497] ∧ Dj (rb3104 ++ []) [b2757] ∧ Dj (rb2698 ++ ib2699) rb3104 ∧ Dj (rb3104 ++ []) rb2698 ∧ Dj (rb2705 ++ ib2706) rb3104 ∧ Dj (rb3104 ++ []) rb2705 ∧ Dj (rb3109 ++ []) rb3104 ∧ Dj b16 rb3109 ∧ Dj (rb3109 ++ []) [b11] ∧ Dj (rb3109 ++ []) [b31] ∧ Dj (rb3109 ++ []) [b37] ∧ Dj (rb3109 ++ []) [b279] ∧ Dj (rb3109 ++ []) [b497] ∧ Dj (rb3109 ++ []) [b2757] ∧ Dj (rb2698 ++ ib2699) rb3109 ∧ Dj (rb3109 ++ []) rb2698 ∧ Dj (rb2705 ++ ib2706) rb3109 ∧ Dj (rb3109 ++ []) rb2705 ∧ Dj (rb3104 ++ []) rb3109 ∧ Dj (rb3104 ++ []) ib2699 ∧ Dj (rb3104 ++ []) ib2706 ∧ Dj (rb3109 ++ []) ib2699 ∧ Dj (rb3109 ++ []) ib2706) x2750.length ?_ ?_
      ·
       exact ⟨0, x2750, [], v2770, rb2771, [], (.slice none 0 0), [], ⟨Nat.zero_le _, rfl⟩, rfl, hR, F.sub (sc rfl (sc rfl (sc rfl (sc rfl (sc rfl (sc rfl (sc rfl (sc rfl (sc rfl (sc rfl sn)))))))))), hB, h2772, Row.nil 1 RInt 2 _ _, h17, h2696, ow2700, h2703, ow2707, K12, K32, K38, K280, K498, K2758, d2774, (Dj.app' (Dj.symm d2777) (Dj.nil' _)), (Dj.app' (Dj.symm d2778) (Dj.nil' _)), (Dj.app' (Dj.symm d2779) (Dj.nil' _)), (Dj.app' (Dj.symm d2780) (Dj.nil' _)), (Dj.app' (Dj.symm d2781) (Dj.nil' _)), (Dj.app' (Dj.symm d2782) (Dj.nil' _)), d2775, d2783, d2776, d2785, (Dj.nil' _), (Dj.nil _), (Dj.nil' _), (Dj.nil' _), (Dj.nil' _), (Dj.nil' _), (Dj.nil' _), (Dj.nil' _), (Dj.nil _), (Dj.nil' _), (Dj.nil _), (Dj.nil' _), (Dj.nil _), d2784, d2786, (Dj.nil' _), (Dj.nil' _)⟩
      intro g3179 a w ⟨k3176, rest3177, s3100, v3103, rb3104, s3105, v3108, rb3109, hd3180, hg3181, hR, F, hB, h3102, h3107, h17, h2696, ow2700, h2703, ow2707, K12, K32, K38, K280, K498, K2758, d3110, d3111, d3112, d3113, d3114, d3115, d3116, d3117, d3118, d3119, d3120, d3121, d3122, d3123, d3124, d3125, d3126, d3127, d3128, d3129, d3130, d3131, d3132, d3133, d3134, d3135, d3136, d3137⟩
      cases rest3177 with
      | nil =>
       replace hR := forL_nil hR
       have hkk3176 := drop_nil hd3180.1 hd3180.2
       have hlk3176 := dec_no hkk3176
       refine x_seq ?_
       refine x_seq ?_
       refine x_reg ?_
       refine o_move F rfl rfl (fun a F => ?_)
       refine o_move F rfl rfl (fun a F => ?_)
       refine o_move F rfl rfl (fun a F => ?_)
       refine o_index Tryz.underlying64 Tryz.sizeOf124 F rfl rfl rfl (A2.go hB) hxk2748 (fun a p3303 b3304 h3305 s3306 F => ?_)
       refine o_loadS Tryz.isAgg124 F rfl rfl h3305 (fun a v3307 b3308 h3309 s3310 F => ?_)
       refine o_len Tryz.underlying124 F rfl rfl h3309 (fun a F => ?_)
       have i3311 := (h3309).r.len64
       refine o_lss F rfl rfl rfl (fun a F => ?_)
       refine x_end ?_
       refine x_tn ?_
       refine x_ifF F rfl hlk3176 ?_
       refine x_exit ?_
       refine x_te ?_
       refine x_te ?_
       refine x_be ?_
       refine x_tn ?_
       exact ⟨s3100, v3103, rb3104, s3105, v3108, rb3109, (Option.some.inj hR).symm, F.sub (sc rfl (sc rfl (sc rfl (sc rfl (sc rfl (sc rfl (sc rfl (sc rfl (sc rfl sn))))))))), hB, h3102, h3107, h17, h2696, ow2700, h2703, ow2707, K12, K32, K38, K280, K498, K2758, d3110, d3111, d3112, d3113, d3114, d3115, d3116, d3117, d3118, d3119, d3120, d3121, d3122, d3123, d3124, d3125, d3126, d3127, d3128, d3129, d3130, d3131, d3132, d3133, d3134, d3135, d3136, d3137⟩
      | cons x3178 rest3177 =>
       subst hg3181
       replace hd3180 := drop_cons hd3180.2
       have hxk3176 := ix_nat hd3180.2.1
       obtain ⟨ck3176, hR, hn3097⟩ := forL_cons hR
       rw [hf3099] at hR
       have hlk3176 := dec_yes hd3180.1
       refine x_seq ?_
       refine x_seq ?_
       refine x_reg ?_
       refine o_move F rfl rfl (fun a F => ?_)
       refine o_move F rfl rfl (fun a F => ?_)
       refine o_move F rfl rfl (fun a F => ?_)
       refine o_index Tryz.underlying64 Tryz.sizeOf124 F rfl rfl rfl (A2.go hB) hxk2748 (fun a p3182 b3183 h3184 s3185 F => ?_)
       refine o_loadS Tryz.isAgg124 F rfl rfl h3184 (fun a v3186 b3187 h3188 s3189 F => ?_)
       refine o_len Tryz.underlying124 F rfl rfl h3188 (fun a F => ?_)
       have i3190 := (h3188).r.len64
       refine o_lss F rfl rfl rfl (fun a F => ?_)
       refine x_end ?_
       refine x_tn ?_
       refine x_ifT F rfl hlk3176 ?_
       refine x_skip ?_
       refine x_tn ?_
       refine x_seq ?_
       have ikk3176 := k64 (Nat.le_of_lt hd3180.1) i3190
       have ink3176 := inc64 hd3180.1 i3190
       refine x_blk ?_
       refine x_seq ?_
       refine x_drawn (by kernel_rfl) (fun w l => ?_)
       replace hB := Below.through l hB
       replace h17 := h17.go l
       replace h2696 := h2696.go l
       replace ow2700 := ow2700.go l
       replace h2703 := h2703.go l
       replace ow2707 := ow2707.go l
       replace h3102 := h3102.go l
       replace h3107 := h3107.go l
       replace K12 := K12.thru l
       replace K32 := K32.thru l
       replace K38 := K38.thru l
       replace K280 := K280.thru l
       replace K498 := K498.thru l
       replace K2758 := K2758.thru l
       refine b_q 0 (by kernel_rfl) rfl (by kernel_rfl) (by kernel_rfl) (by kernel_rfl) (by kernel_rfl) ?_
       refine v_val F rfl (fun w l => r_bfield fa130_1 F rfl rfl) (fun a F => ?_)
       refine b_q 1 (by kernel_rfl) rfl (by kernel_rfl) (by kernel_rfl) (by kernel_rfl) (by kernel_rfl) ?_
       refine v_val F rfl (fun w l => r_load1 Tryz.isAgg42 F rfl (((K2758.thru l).cell _).trans rfl)) (fun a F => ?_)
       refine b_q0 2 rfl (by kernel_rfl) (by kernel_rfl) (by kernel_rfl) ?_
       refine v_val F rfl (fun w l => r_move F rfl) (fun a F => ?_)
       refine b_q0 3 rfl (by kernel_rfl) (by kernel_rfl) (by kernel_rfl) ?_
       refine v_val F rfl (fun w l => r_move F rfl) (fun a F => ?_)
       refine b_q 4 (by kernel_rfl) rfl (by kernel_rfl) (by kernel_rfl) (by kernel_rfl) (by kernel_rfl) ?_
       refine v_index Tryz.underlying64 Tryz.sizeOf124 F rfl rfl rfl (A2.go hB) hxk2748 (fun a p3191 b3192 h3193 s3194 F => ?_)
       refine b_q 5 (by kernel_rfl) rfl (by kernel_rfl) (by kernel_rfl) (by kernel_rfl) (by kernel_rfl) ?_
       refine v_loadS (fun _ l => l) Tryz.isAgg124 F rfl rfl h3193 (fun a v3195 b3196 h3197 s3198 F => ?_)
       refine b_q0 6 rfl (by kernel_rfl) (by kernel_rfl) (by kernel_rfl) ?_
       refine v_val F rfl (fun w l => r_move F rfl) (fun a F => ?_)
       refine b_q 7 (by kernel_rfl) rfl (by kernel_rfl) (by kernel_rfl) (by kernel_rfl) (by kernel_rfl) ?_
       refine v_index Tryz.underlying124 Tryz.sizeOf132 F rfl rfl rfl h3197 hxk3176 (fun a p3199 b3200 h3201 s3202 F => ?_)
       refine b_q 8 (by kernel_rfl) rfl (by kernel_rfl) (by kernel_rfl) (by kernel_rfl) (by kernel_rfl) ?_
       refine v_field (s' := 1) fa132_0 F rfl rfl h3201 RLiteral.f0 (fun a p3203 b3204 h3205 s3206 F => ?_)
       refine b_q 9 (by kernel_rfl) rfl (by kernel_rfl) (by kernel_rfl) (by kernel_rfl) (by kernel_rfl) ?_
       have i3207 := (h3205).i64
       refine v_val F rfl (fun w l => r_loadI Tryz.isAgg2 F rfl ((h3205).go l)) (fun a F => ?_)
       refine b_e 10 rfl (by kernel_rfl) ?_
       refine o_lit1 (R := RInt) (y := x3178.var) Tryz.underlying42 Tryz.sizeOf2 Tryz.zeroValue2 rfl (by decide) (by decide) F rfl rfl (El.int i3207) (fun a w v3208 rb3209 h3210 l F => ?_)
       have d3212 := Dj.new h17.m h3210.ownR (Nat.le_refl _)
       have d3213 := Dj.new h2696.rd.m h3210.ownR (Nat.le_refl _)
       have d3214 := Dj.new h2703.rd.m h3210.ownR (Nat.le_refl _)
       have d3215 := Dj.new h3102.rd.m h3210.ownR (Nat.le_refl _)
       have d3216 := Dj.new h3107.rd.m h3210.ownR (Nat.le_refl _)
       have d3217 := Dj.new (inm1 K12) h3210.ownR (Nat.le_refl _)
       have d3218 := Dj.new (inm1 K32) h3210.ownR (Nat.le_refl _)
       have d3219 := Dj.new (inm1 K38) h3210.ownR (Nat.le_refl _)
       have d3220 := Dj.new (inm1 K280) h3210.ownR (Nat.le_refl _)
       have d3221 := Dj.new (inm1 K498) h3210.ownR (Nat.le_refl _)
       have d3222 := Dj.new (inm1 K2758) h3210.ownR (Nat.le_refl _)
       have d3223 := Dj.app' (Dj.new h2696.memR h3210.ownR (Nat.le_refl _)).symm (Dj.nil' _)
       have d3224 := Dj.app' (Dj.new h2696.mem h3210.ownR (Nat.le_refl _)).symm (Dj.nil' _)
       have d3225 := Dj.app' (Dj.new h2703.memR h3210.ownR (Nat.le_refl _)).symm (Dj.nil' _)
       have d3226 := Dj.app' (Dj.new h2703.mem h3210.ownR (Nat.le_refl _)).symm (Dj.nil' _)
       have d3227 := Dj.app' (Dj.new h3102.memR h3210.ownR (Nat.le_refl _)).symm (Dj.nil' _)
       have d3228 := Dj.app' (Dj.new h3107.memR h3210.ownR (Nat.le_refl _)).symm (Dj.nil' _)
       replace h3210 := h3210.base hB.size
       replace hB := Below.through l hB
       replace h17 := h17.go l
       replace h2696 := h2696.go l
       replace ow2700 := ow2700.go l
       replace h2703 := h2703.go l
       replace ow2707 := ow2707.go l
       replace h3102 := h3102.go l
       replace h3107 := h3107.go l
       replace K12 := K12.thru l
       replace K32 := K32.thru l
       replace K38 := K38.thru l
       replace K280 := K280.thru l
       replace K498 := K498.thru l
       replace K2758 := K2758.thru l
       refine x_end ?_
       refine x_tn ?_
       refine ⟨.inl l, ?_⟩
       refine b_e 11 rfl (by kernel_rfl) ?_
       obtain ⟨z3229, c3230, hR⟩ := bnd_some hR
       refine o_append (sz := 1) (R := RInt) (z := (.int .i64 0)) (bytes := 8) Tryz.underlying42 (by kernel_rfl) rfl (by decide) (by decide) (by decide) F rfl rfl rfl h3107 h3210.src hB.size (Dj.nil _) c3230 (fun a w v3231 rb3232 h3233 l keep F => ?_)
       replace h3233 := row_nil2 h3233
       have d3235 := keep _ h17.m d3122
       have d3236 := keep _ (inm1 K12) (Dj.symm (Dj.l d3123))
       have d3237 := keep _ (inm1 K32) (Dj.symm (Dj.l d3124))
       have d3238 := keep _ (inm1 K38) (Dj.symm (Dj.l d3125))
       have d3239 := keep _ (inm1 K280) (Dj.symm (Dj.l d3126))
       have d3240 := keep _ (inm1 K498) (Dj.symm (Dj.l d3127))
       have d3241 := keep _ (inm1 K2758) (Dj.symm (Dj.l d3128))
       have d3242 := keep _ h2696.rd.m d3129
       have d3243 := keep _ h2703.rd.m d3131
       have d3244 := keep _ h3102.rd.m d3133
       replace hB := hB.o l h3107.lo hB.size
       replace h17 := h17.goO l d3122
       replace h2696 := h2696.goO l d3129
       replace ow2700 := ow2700.goO l (Dj.r d3129)
       replace h2703 := h2703.goO l d3131
       replace ow2707 := ow2707.goO l (Dj.r d3131)
       replace h3102 := h3102.goO l d3133
       replace K12 := K12.only l (Dj.symm (Dj.l d3123)).not
       replace K32 := K32.only l (Dj.symm (Dj.l d3124)).not
       replace K38 := K38.only l (Dj.symm (Dj.l d3125)).not
       replace K280 := K280.only l (Dj.symm (Dj.l d3126)).not
       replace K498 := K498.only l (Dj.symm (Dj.l d3127)).not
       replace K2758 := K2758.only l (Dj.symm (Dj.l d3128)).not
       have d3245 := Dj.app' (Dj.symm (Dj.r d3242)) (Dj.nil' _)
       have d3246 := Dj.app' (Dj.symm (Dj.r d3243)) (Dj.nil' _)
       refine x_end ?_
       refine x_tn ?_
       refine ⟨.inr (by kernel_rfl), ?_⟩
       refine b_q 12 (by kernel_rfl) rfl (by kernel_rfl) (by kernel_rfl) (by kernel_rfl) (by kernel_rfl) ?_
       refine v_val F rfl (fun w l => r_bfield fa130_1 F rfl rfl) (fun a F => ?_)
       refine b_e 13 rfl (by kernel_rfl) ?_
       refine o_bstore Tryz.sizeOf42 F rfl rfl rfl K2758 (h3233.rd).r.one (by first | simp | decide) rfl (fun w K2758 l => ?_)
       replace hB := hB.o l (fun c hc => by rw [List.mem_singleton] at hc; rw [hc]; exact CK2758) hB.size
       replace h17 := h17.goO l d2766
       replace h2696 := h2696.goO l d2768
       replace ow2700 := ow2700.goO l d2768.r
       replace h2703 := h2703.goO l d2769
       replace ow2707 := ow2707.goO l d2769.r
       replace h3102 := h3102.goO l d3116
       replace h3233 := h3233.goO l (Dj.app' (Dj.symm d3241) (Dj.nil' _))
       replace K12 := K12.only l (by simpa using nb2761)
       replace K32 := K32.only l (by simpa using nb2762)
       replace K38 := K38.only l (by simpa using nb2763)
       replace K280 := K280.only l (by simpa using nb2764)
       replace K498 := K498.only l (by simpa using nb2765)
       refine x_end ?_
       refine x_tn ?_
       refine ⟨.inr (by kernel_rfl), ?_⟩
       refine b_end (by kernel_rfl) ?_
       refine x_tn ?_
       refine x_reg ?_
       refine o_move F rfl rfl (fun a F => ?_)
       refine o_move F rfl rfl (fun a F => ?_)
       refine o_move F rfl rfl (fun a F => ?_)
       refine o_index Tryz.underlying64 Tryz.sizeOf124 F rfl rfl rfl (A2.go hB) hxk2748 (fun a p3247 b3248 h3249 s3250 F => ?_)
       refine o_loadS Tryz.isAgg124 F rfl rfl h3249 (fun a v3251 b3252 h3253 s3254 F => ?_)
       refine o_move F rfl rfl (fun a F => ?_)
       refine o_index Tryz.underlying124 Tryz.sizeOf132 F rfl rfl rfl h3253 hxk3176 (fun a p3255 b3256 h3257 s3258 F => ?_)
       refine o_field (s' := 1) fa132_1 F rfl rfl h3257 RLiteral.f1 (fun a p3259 b3260 h3261 s3262 F => ?_)
       have i3263 := (h3261).i64
       refine o_loadI Tryz.isAgg2 F rfl rfl h3261 (fun a F => ?_)
       refine o_lit1 (R := RInt) (y := x3178.value) Tryz.underlying42 Tryz.sizeOf2 Tryz.zeroValue2 rfl (by decide) (by decide) F rfl rfl (El.int i3263) (fun a w v3264 rb3265 h3266 l F => ?_)
       have d3268 := Dj.new h17.m h3266.ownR (Nat.le_refl _)
       have d3269 := Dj.new h2696.rd.m h3266.ownR (Nat.le_refl _)
       have d3270 := Dj.new h2703.rd.m h3266.ownR (Nat.le_refl _)
       have d3271 := Dj.new h3102.rd.m h3266.ownR (Nat.le_refl _)
       have d3272 := Dj.new h3233.rd.m h3266.ownR (Nat.le_refl _)
       have d3273 := Dj.new (inm1 K12) h3266.ownR (Nat.le_refl _)
       have d3274 := Dj.new (inm1 K32) h3266.ownR (Nat.le_refl _)
       have d3275 := Dj.new (inm1 K38) h3266.ownR (Nat.le_refl _)
       have d3276 := Dj.new (inm1 K280) h3266.ownR (Nat.le_refl _)
       have d3277 := Dj.new (inm1 K498) h3266.ownR (Nat.le_refl _)
       have d3278 := Dj.new (inm1 K2758) h3266.ownR (Nat.le_refl _)
       have d3279 := Dj.app' (Dj.new h2696.memR h3266.ownR (Nat.le_refl _)).symm (Dj.nil' _)
       have d3280 := Dj.app' (Dj.new h2696.mem h3266.ownR (Nat.le_refl _)).symm (Dj.nil' _)
       have d3281 := Dj.app' (Dj.new h2703.memR h3266.ownR (Nat.le_refl _)).symm (Dj.nil' _)
       have d3282 := Dj.app' (Dj.new h2703.mem h3266.ownR (Nat.le_refl _)).symm (Dj.nil' _)
       have d3283 := Dj.app' (Dj.new h3102.memR h3266.ownR (Nat.le_refl _)).symm (Dj.nil' _)
       have d3284 := Dj.app' (Dj.new h3233.memR h3266.ownR (Nat.le_refl _)).symm (Dj.nil' _)
       replace h3266 := h3266.base hB.size
       replace hB := Below.through l hB
       replace h17 := h17.go l
       replace h2696 := h2696.go l
       replace ow2700 := ow2700.go l
       replace h2703 := h2703.go l
       replace ow2707 := ow2707.go l
       replace h3102 := h3102.go l
       replace h3233 := h3233.go l
       replace K12 := K12.thru l
       replace K32 := K32.thru l
       replace K38 := K38.thru l
       replace K280 := K280.thru l
       replace K498 := K498.thru l
       replace K2758 := K2758.thru l
       obtain ⟨z3285, c3286, hR⟩ := bnd_some hR
       refine o_append (sz := 1) (R := RInt) (z := (.int .i64 0)) (bytes := 8) Tryz.underlying42 (by kernel_rfl) rfl (by decide) (by decide) (by decide) F rfl rfl rfl h3102 h3266.src hB.size (Dj.nil _) c3286 (fun a w v3287 rb3288 h3289 l keep F => ?_)
       replace h3289 := row_nil2 h3289
       have d3291 := keep _ h17.m d3110
       have d3292 := keep _ (inm1 K12) (Dj.symm (Dj.l d3111))
       have d3293 := keep _ (inm1 K32) (Dj.symm (Dj.l d3112))
       have d3294 := keep _ (inm1 K38) (Dj.symm (Dj.l d3113))
       have d3295 := keep _ (inm1 K280) (Dj.symm (Dj.l d3114))
       have d3296 := keep _ (inm1 K498) (Dj.symm (Dj.l d3115))
       have d3297 := keep _ (inm1 K2758) (Dj.symm (Dj.l d3116))
       have d3298 := keep _ h2696.rd.m d3117
       have d3299 := keep _ h2703.rd.m d3119
       have d3300 := keep _ h3233.rd.m (Dj.app' (Dj.symm (Dj.l d3244)) (Dj.nil' _))
       replace hB := hB.o l h3102.lo hB.size
       replace h17 := h17.goO l d3110
       replace h2696 := h2696.goO l d3117
       replace ow2700 := ow2700.goO l (Dj.r d3117)
       replace h2703 := h2703.goO l d3119
       replace ow2707 := ow2707.goO l (Dj.r d3119)
       replace h3233 := h3233.goO l (Dj.app' (Dj.symm (Dj.l d3244)) (Dj.nil' _))
       replace K12 := K12.only l (Dj.symm (Dj.l d3111)).not
       replace K32 := K32.only l (Dj.symm (Dj.l d3112)).not
       replace K38 := K38.only l (Dj.symm (Dj.l d3113)).not
       replace K280 := K280.only l (Dj.symm (Dj.l d3114)).not
       replace K498 := K498.only l (Dj.symm (Dj.l d3115)).not
       replace K2758 := K2758.only l (Dj.symm (Dj.l d3116)).not
       have d3301 := Dj.app' (Dj.symm (Dj.r d3298)) (Dj.nil' _)
       have d3302 := Dj.app' (Dj.symm (Dj.r d3299)) (Dj.nil' _)
       refine o_assign F rfl rfl (fun a F => ?_)
       refine x_end ?_
       refine x_bn ?_
       refine x_tn ?_
       refine x_reg ?_
       refine o_move F rfl rfl (fun a F => ?_)
       refine o_inc F rfl rfl rfl ink3176 (fun a F => ?_)
       refine o_assign F rfl rfl (fun a F => ?_)
       refine x_end ?_
       refine x_tn ?_
       replace hR := l_go hR hn3097
       exact ⟨_, Nat.lt_succ_self _, k3176 + 1, rest3177, z3285, v3287, rb3288, z3229, v3231, rb3232, ⟨hd3180.1, hd3180.2.2⟩, rfl, hR, F.sub (sc rfl (sc rfl (sc rfl (sc rfl (sc rfl (sc rfl (sc rfl (sc rfl (sc rfl (sc rfl sn)))))))))), hB, h3289, h3233, h17, h2696, ow2700, h2703, ow2707, K12, K32, K38, K280, K498, K2758, d3291, (Dj.app' (Dj.symm d3292) (Dj.nil' _)), (Dj.app' (Dj.symm d3293) (Dj.nil' _)), (Dj.app' (Dj.symm d3294) (Dj.nil' _)), (Dj.app' (Dj.symm d3295) (Dj.nil' _)), (Dj.app' (Dj.symm d3296) (Dj.nil' _)), (Dj.app' (Dj.symm d3297) (Dj.nil' _)), d3298, (Dj.app' (Dj.symm (Dj.l d3298)) (Dj.nil' _)), d3299, (Dj.app' (Dj.symm (Dj.l d3299)) (Dj.nil' _)), d3300, d3235, (Dj.app' (Dj.symm d3236) (Dj.nil' _)), (Dj.app' (Dj.symm d3237) (Dj.nil' _)), (Dj.app' (Dj.symm d3238) (Dj.nil' _)), (Dj.app' (Dj.symm d3239) (Dj.nil' _)), (Dj.app' (Dj.symm d3240) (Dj.nil' _)), (Dj.app' (Dj.symm d3241) (Dj.nil' _)), d3242, (Dj.app' (Dj.symm (Dj.l d3242)) (Dj.nil' _)), d3243, (Dj.app' (Dj.symm (Dj.l d3243)) (Dj.nil' _)), (Dj.app' (Dj.symm (Dj.l d3300)) (Dj.nil' _)), d3301, d3302, d3245, d3246⟩
     intro a w ⟨s3138, v3141, rb3142, s3143, v3146, rb3147, ho3096, F, hB, h3140, h3145, h17, h2696, ow2700, h2703, ow2707, K12, K32, K38, K280, K498, K2758, d3148, d3149, d3150, d3151, d3152, d3153, d3154, d3155, d3156, d3157, d3158, d3159, d3160, d3161, d3162, d3163, d3164, d3165, d3166, d3167, d3168, d3169, d3170, d3171, d3172, d3173, d3174, d3175⟩
     subst ho3096
     have hR := then_nx hk3095
     refine x_tn ?_
     refine x_seq ?_
     refine x_reg ?_
     refine o_move F rfl rfl (fun a F => ?_)
     refine o_len Tryz.underlying42 F rfl rfl h3140.rd (fun a F => ?_)
     have i3312 := (h3140.rd).r.len64
     refine o_build Tryz.underlying101 Tryz.zeroValue101 (fun w => by simp [Tryz.sizeOf2, Tryz.sizeOf99]; rfl) F rfl rfl rfl rfl rfl (oc rfl on) rfl rfl (fun a F => ?_)
     have h3313 := RRel.mk2 (w := w) i3312 (Rd.nil 1 (RSl 1 RInt) _)
     refine o_alloc Tryz.zeroValue101 F rfl rfl (fun a w b3314 K3315 l BK3315 F => ?_)
     have d3316 := dj1 h2696.memR BK3315
     have d3317 := dj1 h2703.memR BK3315
     have d3318 := dj1 h3140.memR BK3315
     have d3319 := dj1 h3145.memR BK3315
     have nb3320 := Dj.bb K12 BK3315
     have nb3321 := Dj.bb K32 BK3315
     have nb3322 := Dj.bb K38 BK3315
     have nb3323 := Dj.bb K280 BK3315
     have nb3324 := Dj.bb K498 BK3315
     have nb3325 := Dj.bb K2758 BK3315
     have d3326 := (dj1 h17.m BK3315).symm
     have d3327 := (dj1 h3313.m BK3315).symm
     have d3328 := (dj1 h2696.rd.m BK3315).symm
     have d3329 := (dj1 h2703.rd.m BK3315).symm
     have d3330 := (dj1 h3140.rd.m BK3315).symm
     have d3331 := (dj1 h3145.rd.m BK3315).symm
     have CK3315 := Nat.le_trans hB.size BK3315
     replace hB := Below.through l hB
     replace h17 := h17.go l
     replace h2696 := h2696.go l
     replace ow2700 := ow2700.go l
     replace h2703 := h2703.go l
     replace ow2707 := ow2707.go l
     replace h3140 := h3140.go l
     replace h3145 := h3145.go l
     replace h3313 := h3313.go l
     replace K12 := K12.thru l
     replace K32 := K32.thru l
     replace K38 := K38.thru l
     replace K280 := K280.thru l
     replace K498 := K498.thru l
     replace K2758 := K2758.thru l
     refine o_bstoreA (vs := [.int .i64 (s3138.length : Int), (.slice none 0 0)]) Tryz.sizeOf101 F rfl rfl rfl K3315 (oc rfl (oc rfl on)) (Nat.le_of_ble_eq_true rfl) rfl (fun w K3315 l => ?_)
     replace hB := hB.o l (fun c hc => by rw [List.mem_singleton] at hc; rw [hc]; exact CK3315) hB.size
     replace h17 := h17.goO l d3326
     replace h2696 := h2696.goO l d3328
     replace ow2700 := ow2700.goO l d3328.r
     replace h2703 := h2703.goO l d3329
     replace ow2707 := ow2707.goO l d3329.r
     replace h3140 := h3140.goO l d3330
     replace h3145 := h3145.goO l d3331
     replace K12 := K12.only l (by simpa using nb3320)
     replace K32 := K32.only l (by simpa using nb3321)
     replace K38 := K38.only l (by simpa using nb3322)
     replace K280 := K280.only l (by simpa using nb3323)
     replace K498 := K498.only l (by simpa using nb3324)
     replace K2758 := K2758.only l (by simpa using nb3325)
     refine x_end ?_
     refine x_tn ?_
     refine x_seq ?_
     refine x_seq ?_
     refine x_reg ?_
     refine o_assign F rfl rfl (fun a F => ?_)
     refine x_end ?_
     refine x_tn ?_
     obtain ⟨z3332, c3333, hR⟩ := bnd_some hR
     obtain ⟨o3557, hR, hk3558⟩ := thn_some hR
     refine x_cutQ (fun a w => ∃ (s3588 : List (List Int)) (v3591 : Value) (rb3592 : List Nat) (ib3593 : List Nat), o3557 = .nx s3588 ∧ Sk a 164 [(2, v2), (3, .pointer (some ⟨b11, 0, none⟩)), (6, .pointer (some ⟨b31, 0, none⟩)), (7, .pointer (some ⟨b37, 0, none⟩)), (10, .pointer (some ⟨b279, 0, none⟩)), (11, .pointer (some ⟨b497, 0, none⟩)), (12, .int .i64 (k2748 : Int)), (13, .pointer (some ⟨b2757, 0, none⟩)), (16, .pointer (some ⟨b3314, 0, none⟩))] ∧ Below w0.heap.size w0 w ∧ Row 1 (RSl 1 RInt) 42 w0.heap.size w v3591 s3588 rb3592 ib3593 ∧ Own w0.heap.size ib3593 w ∧ Rd (Sl 2 RRel) w v15 x0.rels b16 ∧ Row 2 RRel 101 w0.heap.size w v2697 s2694 rb2698 ib2699 ∧ Own w0.heap.size ib2699 w ∧ Row 2 RCon 130 w0.heap.size w v2704 s2701 rb2705 ib2706 ∧ Own w0.heap.size ib2706 w ∧ Row 1 RInt 2 w0.heap.size w v3146 s3143 rb3147 ([]) ∧ Blk w b11 #[.int .i64 x0.size, v15] 33 ∧ Blk w b31 #[.int .i64 0, (.slice none 0 0)] 33 ∧ Blk w b37 #[.int .i64 0, (.slice none 0 0)] 60 ∧ Blk w b279 #[.int .i64 x0.size, v2697] 33 ∧ Blk w b497 #[.int .i64 x1.vars, v2704] 60 ∧ Blk w b2757 #[.int .i64 (s2694.length : Int), v3146] 130 ∧ Blk w b3314 #[.int .i64 (s3138.length : Int), v3591] 101 ∧ Dj b16 rb3592 ∧ Dj (rb3592 ++ ib3593) [b11] ∧ Dj (rb3592 ++ ib3593) [b31] ∧ Dj (rb3592 ++ ib3593) [b37] ∧ Dj (rb3592 ++ ib3593) [b279] ∧ Dj (rb3592 ++ ib3593) [b497] ∧ Dj (rb3592 ++ ib3593) [b2757] ∧ Dj (rb3592 ++ ib3593) [b3314] ∧ Dj (rb2698 ++ ib2699) rb3592 ∧ Dj (rb3592 ++ ib3593) rb2698 ∧ Dj (rb2705 ++ ib2706) rb3592 ∧ Dj (rb3592 ++ ib3593) rb2705 ∧ Dj (rb3147 ++ []) rb3592 ∧ Dj (rb3592 ++ ib3593) rb3147 ∧ Dj (rb3592 ++ ib3593) ib2699 ∧ Dj (rb3592 ++ ib3593) ib2706) ?_ ?_
     ·
      refine x_blk ?_
      obtain ⟨fl3561, hf3562, hR⟩ := forI_gen hR
      refine x_loop (fun g a w => ∃ (k3611 : Nat) (s3563 : List (List Int)) (v3566 : Value) (rb3567 : List Nat) (ib3568 : List Nat), k3611 + g = z3332.toNat ∧ forI fl3561 g k3611 s3563 = some o3557 ∧ Sk a 164 [(17, .int .i64 (k3611 : Int)), (2, v2), (3, .pointer (some ⟨b11, 0, none⟩)), (6, .pointer (some ⟨b31, 0, none⟩)), (7, .pointer (some ⟨b37, 0, none⟩)), (10, .pointer (some ⟨b279, 0, none⟩)), (11, .pointer (some ⟨b497, 0, none⟩)), (12, .int .i64 (k2748 : Int)), (13, .pointer (some ⟨b2757, 0, none⟩)), (14, v3141), (16, .pointer (some ⟨b3314, 0, none⟩))] ∧ Below w0.heap.size w0 w ∧ Row 1 (RSl 1 RInt) 42 w0.heap.size w v3566 s3563 rb3567 ib3568 ∧ Own w0.heap.size ib3568 w ∧ Rd (Sl 2 RRel) w v15 x0.rels b16 ∧ Row 2 RRel 101 w0.heap.size w v2697 s2694 rb2698 ib2699 ∧ Own w0.heap.size ib2699 w ∧ Row 2 RCon 130 w0.heap.size w v2704 s2701 rb2705 ib2706 ∧ Own w0.heap.size ib2706 w ∧ Row 1 RInt 2 w0.heap.size w v3141 s3138 rb3142 ([]) ∧ Row 1 RInt 2 w0.heap.size w v3146 s3143 rb3147 ([]) ∧ Blk w b11 #[.int .i64 x0.size, v15] 33 ∧ Blk w b31 #[.int .i64 0, (.slice none 0 0)] 33 ∧ Blk w b37 #[.int .i64 0, (.slice none 0 0)] 60 ∧ Blk w b279 #[.int .i64 x0.size, v2697] 33 ∧ Blk w b497 #[.int .i64 x1.vars, v2704] 60 ∧ Blk w b2757 #[.int .i64 (s2694.length : Int), v3146] 130 ∧ Blk w b3314 #[.int .i64 (s3138.length : Int), v3566] 101 ∧ Dj b16 rb3567 ∧ Dj (rb3567 ++ ib3568) [b11] ∧ Dj (rb3567 ++ ib3568) [b31] ∧ Dj (rb3567 ++ ib3568) [b37] ∧ Dj (rb3567 ++ ib3568) [b279] ∧ Dj (rb3567 ++ ib3568) [b497] ∧ Dj (rb3567 ++ ib3568) [b2757] ∧ Dj (rb3567 ++ ib3568) [b3314] ∧ Dj (rb2698 ++ ib2699) rb3567 ∧ Dj (rb3567 ++ ib3568) rb2698 ∧ Dj (rb2705 ++ ib2706) rb3567 ∧ Dj (rb3567 ++ ib3568) rb2705 ∧ Dj (rb3142 ++ []) rb3567 ∧ Dj (rb3567 ++ ib3568) rb3142 ∧ Dj (rb3147 ++ []) rb3567 ∧ Dj (rb3567 ++ ib3568) rb3147 ∧ Dj (rb3567 ++ ib3568) ib2699 ∧ Dj (rb3567 ++ ib3568) ib2706) z3332.toNat ?_ ?_
      ·
       exact ⟨0, [], (.slice none 0 0), [], [], (Nat.zero_add _), hR, F.sub (sc rfl (sc rfl (sc rfl (sc rfl (sc rfl (sc rfl (sc rfl (sc rfl (sc rfl (sc rfl (sc rfl sn))))))))))), hB, Row.nil 1 (RSl 1 RInt) 42 _ _, Own.nil _ _, h17, h2696, ow2700, h2703, ow2707, h3140, h3145, K12, K32, K38, K280, K498, K2758, K3315, (Dj.nil _), (Dj.nil' _), (Dj.nil' _), (Dj.nil' _), (Dj.nil' _), (Dj.nil' _), (Dj.nil' _), (Dj.nil' _), (Dj.nil _), (Dj.nil' _), (Dj.nil _), (Dj.nil' _), (Dj.nil _), (Dj.nil' _), (Dj.nil _), (Dj.nil' _), (Dj.nil' _), (Dj.nil' _)⟩
      intro g3614 a w ⟨k3611, s3563, v3566, rb3567, ib3568, hd3615, hR, F, hB, h3565, ow3569, h17, h2696, ow2700, h2703, ow2707, h3140, h3145, K12, K32, K38, K280, K498, K2758, K3315, d3570, d3571, d3572, d3573, d3574, d3575, d3576, d3577, d3578, d3579, d3580, d3581, d3582, d3583, d3584, d3585, d3586, d3587⟩
      cases g3614 with
      | zero =>
       replace hR := forI_zero hR
       have hlk3611 := dec_noI hd3615
       refine x_seq ?_
       refine x_seq ?_
       refine x_reg ?_
       refine o_move F rfl rfl (fun a F => ?_)
       refine o_bfield fa33_0 F rfl rfl rfl (fun a F => ?_)
       refine o_bload Tryz.isAgg2 F rfl rfl K12 rfl (fun a F => ?_)
       refine o_bfield fa101_0 F rfl rfl rfl (fun a F => ?_)
       refine o_bload Tryz.isAgg2 F rfl rfl K3315 rfl (fun a F => ?_)
       refine o_saysI F rfl Tryz.call68 rfl (spec_l01Power_c z3332 c3333 _ i14 i3312) (fun a w l iz3332 F => ?_)
       replace hB := Below.through l hB
       replace h17 := h17.go l
       replace h2696 := h2696.go l
       replace ow2700 := ow2700.go l
       replace h2703 := h2703.go l
       replace ow2707 := ow2707.go l
       replace h3140 := h3140.go l
       replace h3145 := h3145.go l
       replace h3565 := h3565.go l
       replace ow3569 := ow3569.go l
       replace K12 := K12.thru l
       replace K32 := K32.thru l
       replace K38 := K38.thru l
       replace K280 := K280.thru l
       replace K498 := K498.thru l
       replace K2758 := K2758.thru l
       replace K3315 := K3315.thru l
       refine o_lss F rfl rfl rfl (fun a F => ?_)
       refine x_end ?_
       refine x_tn ?_
       refine x_ifF F rfl hlk3611 ?_
       refine x_exit ?_
       refine x_te ?_
       refine x_te ?_
       refine x_be ?_
       refine x_tn ?_
       exact ⟨s3563, v3566, rb3567, ib3568, (Option.some.inj hR).symm, F.sub (sc rfl (sc rfl (sc rfl (sc rfl (sc rfl (sc rfl (sc rfl (sc rfl (sc rfl sn))))))))), hB, h3565, ow3569, h17, h2696, ow2700, h2703, ow2707, h3145, K12, K32, K38, K280, K498, K2758, K3315, d3570, d3571, d3572, d3573, d3574, d3575, d3576, d3577, d3578, d3579, d3580, d3581, d3584, d3585, d3586, d3587⟩
      | succ g3614 =>
       obtain ⟨ck3611, hR, hn3560⟩ := forI_succ hR
       rw [hf3562] at hR
       have hlk3611 := dec_yesI hd3615
       refine x_seq ?_
       refine x_seq ?_
       refine x_reg ?_
       refine o_move F rfl rfl (fun a F => ?_)
       refine o_bfield fa33_0 F rfl rfl rfl (fun a F => ?_)
       refine o_bload Tryz.isAgg2 F rfl rfl K12 rfl (fun a F => ?_)
       refine o_bfield fa101_0 F rfl rfl rfl (fun a F => ?_)
       refine o_bload Tryz.isAgg2 F rfl rfl K3315 rfl (fun a F => ?_)
       refine o_saysI F rfl Tryz.call68 rfl (spec_l01Power_c z3332 c3333 _ i14 i3312) (fun a w l iz3332 F => ?_)
       replace hB := Below.through l hB
       replace h17 := h17.go l
       replace h2696 := h2696.go l
       replace ow2700 := ow2700.go l
       replace h2703 := h2703.go l
       replace ow2707 := ow2707.go l
       replace h3140 := h3140.go l
       replace h3145 := h3145.go l
       replace h3565 := h3565.go l
       replace ow3569 := ow3569.go l
       replace K12 := K12.thru l
       replace K32 := K32.thru l
       replace K38 := K38.thru l
       replace K280 := K280.thru l
       replace K498 := K498.thru l
       replace K2758 := K2758.thru l
       replace K3315 := K3315.thru l
       refine o_lss F rfl rfl rfl (fun a F => ?_)
       refine x_end ?_
       refine x_tn ?_
       refine x_ifT F rfl hlk3611 ?_
       refine x_skip ?_
       refine x_tn ?_
       refine x_seq ?_
       have ikk3611 := k64I hd3615 iz3332
       have ink3611 := inc64I hd3615 iz3332
       refine x_blk ?_
       refine x_seq ?_
       refine x_reg ?_
       refine o_bfield fa33_0 F rfl rfl rfl (fun a F => ?_)
       refine o_bload Tryz.isAgg2 F rfl rfl K12 rfl (fun a F => ?_)
       refine o_bfield fa101_0 F rfl rfl rfl (fun a F => ?_)
       refine o_bload Tryz.isAgg2 F rfl rfl K3315 rfl (fun a F => ?_)
       refine o_move F rfl rfl (fun a F => ?_)
       obtain ⟨z3617, c3618, hR⟩ := bnd_some hR
       refine o_gives F rfl Tryz.call69 rfl (spec_l01Digits_c z3617 c3618 _ i14 i3312 ikk3611) (fun a vv w l ⟨v3619, rb3620, hv3623, h3622⟩ F => ?_)
       subst vv
       have d3625 := Dj.new h17.m h3622.ownR (Nat.le_refl _)
       have d3626 := Dj.new h2696.rd.m h3622.ownR (Nat.le_refl _)
       have d3627 := Dj.new h2703.rd.m h3622.ownR (Nat.le_refl _)
       have d3628 := Dj.new h3140.rd.m h3622.ownR (Nat.le_refl _)
       have d3629 := Dj.new h3145.rd.m h3622.ownR (Nat.le_refl _)
       have d3630 := Dj.new h3565.rd.m h3622.ownR (Nat.le_refl _)
       have d3631 := Dj.new (inm1 K12) h3622.ownR (Nat.le_refl _)
       have d3632 := Dj.new (inm1 K32) h3622.ownR (Nat.le_refl _)
       have d3633 := Dj.new (inm1 K38) h3622.ownR (Nat.le_refl _)
       have d3634 := Dj.new (inm1 K280) h3622.ownR (Nat.le_refl _)
       have d3635 := Dj.new (inm1 K498) h3622.ownR (Nat.le_refl _)
       have d3636 := Dj.new (inm1 K2758) h3622.ownR (Nat.le_refl _)
       have d3637 := Dj.new (inm1 K3315) h3622.ownR (Nat.le_refl _)
       have d3638 := Dj.app' (Dj.new h2696.memR h3622.ownR (Nat.le_refl _)).symm (Dj.nil' _)
       have d3639 := Dj.app' (Dj.new h2696.mem h3622.ownR (Nat.le_refl _)).symm (Dj.nil' _)
       have d3640 := Dj.app' (Dj.new h2703.memR h3622.ownR (Nat.le_refl _)).symm (Dj.nil' _)
       have d3641 := Dj.app' (Dj.new h2703.mem h3622.ownR (Nat.le_refl _)).symm (Dj.nil' _)
       have d3642 := Dj.app' (Dj.new h3140.memR h3622.ownR (Nat.le_refl _)).symm (Dj.nil' _)
       have d3643 := Dj.app' (Dj.new h3145.memR h3622.ownR (Nat.le_refl _)).symm (Dj.nil' _)
       have d3644 := Dj.app' (Dj.new h3565.memR h3622.ownR (Nat.le_refl _)).symm (Dj.nil' _)
       have d3645 := Dj.app' (Dj.new h3565.mem h3622.ownR (Nat.le_refl _)).symm (Dj.nil' _)
       replace h3622 := h3622.base hB.size
       replace hB := Below.through l hB
       replace h17 := h17.go l
       replace h2696 := h2696.go l
       replace ow2700 := ow2700.go l
       replace h2703 := h2703.go l
       replace ow2707 := ow2707.go l
       replace h3140 := h3140.go l
       replace h3145 := h3145.go l
       replace h3565 := h3565.go l
       replace ow3569 := ow3569.go l
       replace K12 := K12.thru l
       replace K32 := K32.thru l
       replace K38 := K38.thru l
       replace K280 := K280.thru l
       replace K498 := K498.thru l
       replace K2758 := K2758.thru l
       replace K3315 := K3315.thru l
       refine o_assign F rfl rfl (fun a F => ?_)
       refine x_end ?_
       refine x_tn ?_
       refine x_seq ?_
       refine x_reg ?_
       refine o_move F rfl rfl (fun a F => ?_)
       refine o_move F rfl rfl (fun a F => ?_)
       obtain ⟨z3646, c3647, hR⟩ := bnd_some hR
       refine o_says F rfl Tryz.call86 rfl (spec_l00Same_c z3646 c3647 _ h3622.rd h3140.rd) (fun a w l F => ?_)
       replace hB := Below.through l hB
       replace h17 := h17.go l
       replace h2696 := h2696.go l
       replace ow2700 := ow2700.go l
       replace h2703 := h2703.go l
       replace ow2707 := ow2707.go l
       replace h3140 := h3140.go l
       replace h3145 := h3145.go l
       replace h3565 := h3565.go l
       replace ow3569 := ow3569.go l
       replace h3622 := h3622.go l
       replace K12 := K12.thru l
       replace K32 := K32.thru l
       replace K38 := K38.thru l
       replace K280 := K280.thru l
       replace K498 := K498.thru l
       replace K2758 := K2758.thru l
       replace K3315 := K3315.thru l
       refine o_not F rfl rfl (fun a F => ?_)
       refine x_end ?_
       refine x_tn ?_
       refine x_if F rfl (fun hb3648 => ?_) (fun hb3648 => ?_)
       ·
        replace hR := ifT hb3648 hR
        refine x_reg ?_
        refine o_bfield fa101_1 F rfl rfl rfl (fun a F => ?_)
        refine o_bload Tryz.isAgg99 F rfl rfl K3315 rfl (fun a F => ?_)
        refine o_move F rfl rfl (fun a F => ?_)
        refine o_lit1 (R := (RSl 1 RInt)) (y := z3617) Tryz.underlying99 Tryz.sizeOf42 Tryz.zeroValue42 rfl (by decide) (by decide) F rfl rfl (El.sl h3622.rd) (fun a w v3649 rb3650 h3651 l F => ?_)
        have ow3652 := Own.go (h3622.own (Own.nil _ _)) l
        have d3654 := Dj.new h17.m h3651.ownR (Nat.le_refl _)
        have d3655 := Dj.new h2696.rd.m h3651.ownR (Nat.le_refl _)
        have d3656 := Dj.new h2703.rd.m h3651.ownR (Nat.le_refl _)
        have d3657 := Dj.new h3140.rd.m h3651.ownR (Nat.le_refl _)
        have d3658 := Dj.new h3145.rd.m h3651.ownR (Nat.le_refl _)
        have d3659 := Dj.new h3565.rd.m h3651.ownR (Nat.le_refl _)
        have d3660 := Dj.new (inm1 K12) h3651.ownR (Nat.le_refl _)
        have d3661 := Dj.new (inm1 K32) h3651.ownR (Nat.le_refl _)
        have d3662 := Dj.new (inm1 K38) h3651.ownR (Nat.le_refl _)
        have d3663 := Dj.new (inm1 K280) h3651.ownR (Nat.le_refl _)
        have d3664 := Dj.new (inm1 K498) h3651.ownR (Nat.le_refl _)
        have d3665 := Dj.new (inm1 K2758) h3651.ownR (Nat.le_refl _)
        have d3666 := Dj.new (inm1 K3315) h3651.ownR (Nat.le_refl _)
        have d3667 := Dj.app' (Dj.new h2696.memR h3651.ownR (Nat.le_refl _)).symm d3638
        have d3668 := Dj.app' (Dj.new h2696.mem h3651.ownR (Nat.le_refl _)).symm d3639
        have d3669 := Dj.app' (Dj.new h2703.memR h3651.ownR (Nat.le_refl _)).symm d3640
        have d3670 := Dj.app' (Dj.new h2703.mem h3651.ownR (Nat.le_refl _)).symm d3641
        have d3671 := Dj.app' (Dj.new h3140.memR h3651.ownR (Nat.le_refl _)).symm d3642
        have d3672 := Dj.app' (Dj.new h3145.memR h3651.ownR (Nat.le_refl _)).symm d3643
        have d3673 := Dj.app' (Dj.new h3565.memR h3651.ownR (Nat.le_refl _)).symm d3644
        have d3674 := Dj.app' (Dj.new h3565.mem h3651.ownR (Nat.le_refl _)).symm d3645
        have d3675 := Dj.app' (Dj.symm d3660) (Dj.app' (Dj.symm d3631) (Dj.nil' _))
        have d3676 := Dj.app' (Dj.symm d3661) (Dj.app' (Dj.symm d3632) (Dj.nil' _))
        have d3677 := Dj.app' (Dj.symm d3662) (Dj.app' (Dj.symm d3633) (Dj.nil' _))
        have d3678 := Dj.app' (Dj.symm d3663) (Dj.app' (Dj.symm d3634) (Dj.nil' _))
        have d3679 := Dj.app' (Dj.symm d3664) (Dj.app' (Dj.symm d3635) (Dj.nil' _))
        have d3680 := Dj.app' (Dj.symm d3665) (Dj.app' (Dj.symm d3636) (Dj.nil' _))
        have d3681 := Dj.app' (Dj.symm d3666) (Dj.app' (Dj.symm d3637) (Dj.nil' _))
        replace h3651 := h3651.base hB.size
        replace hB := Below.through l hB
        replace h17 := h17.go l
        replace h2696 := h2696.go l
        replace ow2700 := ow2700.go l
        replace h2703 := h2703.go l
        replace ow2707 := ow2707.go l
        replace h3140 := h3140.go l
        replace h3145 := h3145.go l
        replace h3565 := h3565.go l
        replace ow3569 := ow3569.go l
        replace K12 := K12.thru l
        replace K32 := K32.thru l
        replace K38 := K38.thru l
        replace K280 := K280.thru l
        replace K498 := K498.thru l
        replace K2758 := K2758.thru l
        replace K3315 := K3315.thru l
        obtain ⟨z3682, c3683, hR⟩ := bnd_some hR
        refine o_append (sz := 1) (R := (RSl 1 RInt)) (z := ((.slice none 0 0))) (bytes := 24) Tryz.underlying99 (by kernel_rfl) rfl (by decide) (by decide) (by decide) F rfl rfl rfl h3565 h3651.src hB.size (Dj.symm d3673.r) c3683 (fun a w v3684 rb3685 h3686 l keep F => ?_)
        have ow3687 := Own.append (Own.goO ow3569 l h3565.dj.symm) (Own.goO ow3652 l (Dj.symm (Dj.symm d3673.r))) (Dj.symm d3674.r)
        have d3689 := keep _ h17.m d3570
        have d3690 := keep _ (inm1 K12) (Dj.symm (Dj.l d3571))
        have d3691 := keep _ (inm1 K32) (Dj.symm (Dj.l d3572))
        have d3692 := keep _ (inm1 K38) (Dj.symm (Dj.l d3573))
        have d3693 := keep _ (inm1 K280) (Dj.symm (Dj.l d3574))
        have d3694 := keep _ (inm1 K498) (Dj.symm (Dj.l d3575))
        have d3695 := keep _ (inm1 K2758) (Dj.symm (Dj.l d3576))
        have d3696 := keep _ (inm1 K3315) (Dj.symm (Dj.l d3577))
        have d3697 := keep _ h2696.rd.m d3578
        have d3698 := keep _ h2703.rd.m d3580
        have d3699 := keep _ h3140.rd.m d3582
        have d3700 := keep _ h3145.rd.m d3584
        replace hB := hB.o l h3565.lo hB.size
        replace h17 := h17.goO l d3570
        replace h2696 := h2696.goO l d3578
        replace ow2700 := ow2700.goO l (Dj.r d3578)
        replace h2703 := h2703.goO l d3580
        replace ow2707 := ow2707.goO l (Dj.r d3580)
        replace h3140 := h3140.goO l d3582
        replace h3145 := h3145.goO l d3584
        replace K12 := K12.only l (Dj.symm (Dj.l d3571)).not
        replace K32 := K32.only l (Dj.symm (Dj.l d3572)).not
        replace K38 := K38.only l (Dj.symm (Dj.l d3573)).not
        replace K280 := K280.only l (Dj.symm (Dj.l d3574)).not
        replace K498 := K498.only l (Dj.symm (Dj.l d3575)).not
        replace K2758 := K2758.only l (Dj.symm (Dj.l d3576)).not
        replace K3315 := K3315.only l (Dj.symm (Dj.l d3577)).not
        have d3701 := Dj.app' (Dj.symm (Dj.l d3697)) (Dj.app' (Dj.r d3579) (Dj.r d3667))
        have d3702 := Dj.app' (Dj.symm (Dj.l d3698)) (Dj.app' (Dj.r d3581) (Dj.r d3669))
        have d3703 := Dj.app' (Dj.symm (Dj.l d3699)) (Dj.app' (Dj.r d3583) (Dj.r d3671))
        have d3704 := Dj.app' (Dj.symm (Dj.l d3700)) (Dj.app' (Dj.r d3585) (Dj.r d3672))
        have d3705 := Dj.app' (Dj.symm (Dj.r d3697)) (Dj.app' (Dj.r d3586) (Dj.r d3668))
        have d3706 := Dj.app' (Dj.symm (Dj.r d3698)) (Dj.app' (Dj.r d3587) (Dj.r d3670))
        have d3707 := (Dj.app (Dj.symm (Dj.r (Dj.app d3579 d3586))) (Dj.symm (Dj.r (Dj.app d3667 d3668))))
        have d3708 := (Dj.app (Dj.symm (Dj.r (Dj.app d3581 d3587))) (Dj.symm (Dj.r (Dj.app d3669 d3670))))
        have d3709 := (Dj.app (Dj.symm (Dj.r (Dj.app d3583 (Dj.nil _)))) (Dj.symm (Dj.r (Dj.app d3671 (Dj.nil _)))))
        have d3710 := (Dj.app (Dj.symm (Dj.r (Dj.app d3585 (Dj.nil _)))) (Dj.symm (Dj.r (Dj.app d3672 (Dj.nil _)))))
        have d3711 := Dj.app' (Dj.symm d3690) (Dj.app' (Dj.r d3571) (Dj.r d3675))
        have d3712 := Dj.app' (Dj.symm d3691) (Dj.app' (Dj.r d3572) (Dj.r d3676))
        have d3713 := Dj.app' (Dj.symm d3692) (Dj.app' (Dj.r d3573) (Dj.r d3677))
        have d3714 := Dj.app' (Dj.symm d3693) (Dj.app' (Dj.r d3574) (Dj.r d3678))
        have d3715 := Dj.app' (Dj.symm d3694) (Dj.app' (Dj.r d3575) (Dj.r d3679))
        have d3716 := Dj.app' (Dj.symm d3695) (Dj.app' (Dj.r d3576) (Dj.r d3680))
        have d3717 := Dj.app' (Dj.symm d3696) (Dj.app' (Dj.r d3577) (Dj.r d3681))
        refine o_bfield fa101_1 F rfl rfl rfl (fun a F => ?_)
        refine o_bstore Tryz.sizeOf99 F rfl rfl rfl K3315 (h3686.rd).r.one (by first | simp | decide) rfl (fun w K3315 l => ?_)
        replace hB := hB.o l (fun c hc => by rw [List.mem_singleton] at hc; rw [hc]; exact CK3315) hB.size
        replace h17 := h17.goO l d3326
        replace h2696 := h2696.goO l d3328
        replace ow2700 := ow2700.goO l d3328.r
        replace h2703 := h2703.goO l d3329
        replace ow2707 := ow2707.goO l d3329.r
        replace h3140 := h3140.goO l d3330
        replace h3145 := h3145.goO l d3331
        replace h3686 := h3686.goO l d3717
        replace ow3687 := ow3687.goO l d3717.r
        replace K12 := K12.only l (by simpa using nb3320)
        replace K32 := K32.only l (by simpa using nb3321)
        replace K38 := K38.only l (by simpa using nb3322)
        replace K280 := K280.only l (by simpa using nb3323)
        replace K498 := K498.only l (by simpa using nb3324)
        replace K2758 := K2758.only l (by simpa using nb3325)
        refine x_end ?_
        refine x_bn ?_
        refine x_tn ?_
        refine x_reg ?_
        refine o_move F rfl rfl (fun a F => ?_)
        refine o_inc F rfl rfl rfl ink3611 (fun a F => ?_)
        refine o_assign F rfl rfl (fun a F => ?_)
        refine x_end ?_
        refine x_tn ?_
        replace hR := l_go hR hn3560
        exact ⟨_, Nat.lt_succ_self _, k3611 + 1, z3682, v3684, rb3685, (ib3568 ++ (rb3620 ++ [])), (by omega), hR, F.sub (sc rfl (sc rfl (sc rfl (sc rfl (sc rfl (sc rfl (sc rfl (sc rfl (sc rfl (sc rfl (sc rfl sn))))))))))), hB, h3686, ow3687, h17, h2696, ow2700, h2703, ow2707, h3140, h3145, K12, K32, K38, K280, K498, K2758, K3315, d3689, d3711, d3712, d3713, d3714, d3715, d3716, d3717, d3697, d3701, d3698, d3702, d3699, d3703, d3700, d3704, d3705, d3706⟩
       replace hR := ifF hb3648 hR
       refine x_skip ?_
       refine x_bn ?_
       refine x_tn ?_
       refine x_reg ?_
       refine o_move F rfl rfl (fun a F => ?_)
       refine o_inc F rfl rfl rfl ink3611 (fun a F => ?_)
       refine o_assign F rfl rfl (fun a F => ?_)
       refine x_end ?_
       refine x_tn ?_
       replace hR := l_go hR hn3560
       exact ⟨_, Nat.lt_succ_self _, k3611 + 1, s3563, v3566, rb3567, ib3568, (by omega), hR, F.sub (sc rfl (sc rfl (sc rfl (sc rfl (sc rfl (sc rfl (sc rfl (sc rfl (sc rfl (sc rfl (sc rfl sn))))))))))), hB, h3565, ow3569, h17, h2696, ow2700, h2703, ow2707, h3140, h3145, K12, K32, K38, K280, K498, K2758, K3315, d3570, d3571, d3572, d3573, d3574, d3575, d3576, d3577, d3578, d3579, d3580, d3581, d3582, d3583, d3584, d3585, d3586, d3587⟩
     intro a w ⟨s3588, v3591, rb3592, ib3593, ho3559, F, hB, h3590, ow3594, h17, h2696, ow2700, h2703, ow2707, h3145, K12, K32, K38, K280, K498, K2758, K3315, d3595, d3596, d3597, d3598, d3599, d3600, d3601, d3602, d3603, d3604, d3605, d3606, d3607, d3608, d3609, d3610⟩
     subst ho3559
     have hR := then_nx hk3558
     refine x_tn ?_
     refine x_seq ?_
     refine x_reg ?_
     refine o_bfield fa33_1 F rfl rfl rfl (fun a F => ?_)
     refine o_bload Tryz.isAgg31 F rfl rfl K280 rfl (fun a F => ?_)
     refine o_bloadA (cs := [.int .i64 (s3138.length : Int), v3591]) Tryz.isAgg101 Tryz.sizeOf101 F rfl rfl K3315 rfl (fun j hj => by match j, hj with | 0, _ => rfl | 1, _ => rfl) (fun a F => ?_)
     have h3718 := RRel.mk2 (w := w) i3312 h3590.rd
     refine o_lit1 (R := RRel) (y := (Rel.mk (s3138.length : Int) s3588)) Tryz.underlying31 Tryz.sizeOf101 Tryz.zeroValue101 rfl (by decide) (by decide) F rfl rfl (El.agg h3718) (fun a w v3719 rb3720 h3721 l F => ?_)
     have ow3722 := Own.go (h3590.own ow3594) l
     have d3724 := Dj.new h17.m h3721.ownR (Nat.le_refl _)
     have d3725 := Dj.new h2696.rd.m h3721.ownR (Nat.le_refl _)
     have d3726 := Dj.new h2703.rd.m h3721.ownR (Nat.le_refl _)
     have d3727 := Dj.new h3145.rd.m h3721.ownR (Nat.le_refl _)
     have d3728 := Dj.new (inm1 K12) h3721.ownR (Nat.le_refl _)
     have d3729 := Dj.new (inm1 K32) h3721.ownR (Nat.le_refl _)
     have d3730 := Dj.new (inm1 K38) h3721.ownR (Nat.le_refl _)
     have d3731 := Dj.new (inm1 K280) h3721.ownR (Nat.le_refl _)
     have d3732 := Dj.new (inm1 K498) h3721.ownR (Nat.le_refl _)
     have d3733 := Dj.new (inm1 K2758) h3721.ownR (Nat.le_refl _)
     have d3734 := Dj.app' (Dj.new h2696.memR h3721.ownR (Nat.le_refl _)).symm d3604
     have d3735 := Dj.app' (Dj.new h2696.mem h3721.ownR (Nat.le_refl _)).symm d3609
     have d3736 := Dj.app' (Dj.new h2703.memR h3721.ownR (Nat.le_refl _)).symm d3606
     have d3737 := Dj.app' (Dj.new h2703.mem h3721.ownR (Nat.le_refl _)).symm d3610
     have d3738 := Dj.app' (Dj.new h3145.memR h3721.ownR (Nat.le_refl _)).symm d3608
     have d3739 := Dj.app' (Dj.symm d3728) d3596
     have d3740 := Dj.app' (Dj.symm d3729) d3597
     have d3741 := Dj.app' (Dj.symm d3730) d3598
     have d3742 := Dj.app' (Dj.symm d3731) d3599
     have d3743 := Dj.app' (Dj.symm d3732) d3600
     have d3744 := Dj.app' (Dj.symm d3733) d3601
     replace h3721 := h3721.base hB.size
     replace hB := Below.through l hB
     replace h17 := h17.go l
     replace h2696 := h2696.go l
     replace ow2700 := ow2700.go l
     replace h2703 := h2703.go l
     replace ow2707 := ow2707.go l
     replace h3145 := h3145.go l
     replace K12 := K12.thru l
     replace K32 := K32.thru l
     replace K38 := K38.thru l
     replace K280 := K280.thru l
     replace K498 := K498.thru l
     replace K2758 := K2758.thru l
     obtain ⟨z3746, c3747, hR⟩ := bnd_some hR
     refine o_append (sz := 2) (R := RRel) (z := (.agg #[.int .i64 0, (.slice none 0 0)])) (bytes := 32) Tryz.underlying31 (by kernel_rfl) rfl (by decide) (by decide) (by decide) F rfl rfl rfl h2696 h3721.src hB.size (Dj.symm d3734.r) c3747 (fun a w v3748 rb3749 h3750 l keep F => ?_)
     have ow3751 := Own.append (Own.goO ow2700 l h2696.dj.symm) (Own.goO ow3722 l (Dj.symm (Dj.symm d3734.r))) (Dj.symm d3735.r)
     have d3753 := keep _ h17.m d2708
     have d3754 := keep _ (inm1 K12) (Dj.symm (Dj.l d2709))
     have d3755 := keep _ (inm1 K32) (Dj.symm (Dj.l d2710))
     have d3756 := keep _ (inm1 K38) (Dj.symm (Dj.l d2711))
     have d3757 := keep _ (inm1 K280) (Dj.symm (Dj.l d2712))
     have d3758 := keep _ (inm1 K498) (Dj.symm (Dj.l d2713))
     have d3759 := keep _ h2703.rd.m d2714
     have d3760 := keep _ (inm1 K2758) d2759
     have d3761 := keep _ h3145.rd.m d3168
     replace hB := hB.o l h2696.lo hB.size
     replace h17 := h17.goO l d2708
     replace h2703 := h2703.goO l d2714
     replace ow2707 := ow2707.goO l (Dj.r d2714)
     replace h3145 := h3145.goO l d3168
     replace K12 := K12.only l (Dj.symm (Dj.l d2709)).not
     replace K32 := K32.only l (Dj.symm (Dj.l d2710)).not
     replace K38 := K38.only l (Dj.symm (Dj.l d2711)).not
     replace K280 := K280.only l (Dj.symm (Dj.l d2712)).not
     replace K498 := K498.only l (Dj.symm (Dj.l d2713)).not
     replace K2758 := K2758.only l d2759.not
     have d3762 := Dj.app' (Dj.symm (Dj.l d3759)) (Dj.app' (Dj.r d2721) (Dj.r d3736))
     have d3763 := Dj.app' (Dj.symm (Dj.l d3761)) (Dj.app' (Dj.r d3167) (Dj.r d3738))
     have d3764 := Dj.app' (Dj.symm (Dj.r d3759)) (Dj.app' (Dj.r (Dj.symm (Dj.r (Dj.app d2714 d2722)))) (Dj.r d3737))
     have d3765 := (Dj.app d2722 (Dj.symm (Dj.r (Dj.app d3736 d3737))))
     have d3766 := (Dj.app d3174 (Dj.symm (Dj.r (Dj.app d3738 (Dj.nil _)))))
     have d3767 := Dj.app' (Dj.symm d3754) (Dj.app' (Dj.r d2709) (Dj.r d3739))
     have d3768 := Dj.app' (Dj.symm d3755) (Dj.app' (Dj.r d2710) (Dj.r d3740))
     have d3769 := Dj.app' (Dj.symm d3756) (Dj.app' (Dj.r d2711) (Dj.r d3741))
     have d3770 := Dj.app' (Dj.symm d3757) (Dj.app' (Dj.r d2712) (Dj.r d3742))
     have d3771 := Dj.app' (Dj.symm d3758) (Dj.app' (Dj.r d2713) (Dj.r d3743))
     have d3772 := Dj.app' (Dj.symm d3760) (Dj.app' (Dj.r d2768) (Dj.r d3744))
     refine o_bfield fa33_1 F rfl rfl rfl (fun a F => ?_)
     refine o_bstore Tryz.sizeOf31 F rfl rfl rfl K280 (h3750.rd).r.one (by first | simp | decide) rfl (fun w K280 l => ?_)
     replace hB := hB.o l (fun c hc => by rw [List.mem_singleton] at hc; rw [hc]; exact CK280) hB.size
     replace h17 := h17.goO l d298
     replace h2703 := h2703.goO l d2719
     replace ow2707 := ow2707.goO l d2719.r
     replace h3145 := h3145.goO l d3164
     replace h3750 := h3750.goO l d3770
     replace ow3751 := ow3751.goO l d3770.r
     replace K12 := K12.only l (by simpa using nb301)
     replace K32 := K32.only l (by simpa using nb303.symm)
     replace K38 := K38.only l (by simpa using nb304.symm)
     replace K498 := K498.only l (by simpa using nb525.symm)
     replace K2758 := K2758.only l (by simpa using nb2764.symm)
     refine x_end ?_
     refine x_tn ?_
     refine x_reg ?_
     refine o_bfield fa60_1 F rfl rfl rfl (fun a F => ?_)
     refine o_bload Tryz.isAgg58 F rfl rfl K498 rfl (fun a F => ?_)
     refine o_bloadA (cs := [.int .i64 (s2694.length : Int), v3146]) Tryz.isAgg130 Tryz.sizeOf130 F rfl rfl K2758 rfl (fun j hj => by match j, hj with | 0, _ => rfl | 1, _ => rfl) (fun a F => ?_)
     have h3773 := RCon.mk2 (w := w) i2755 h3145.rd
     refine o_lit1 (R := RCon) (y := (Con.mk (s2694.length : Int) s3143)) Tryz.underlying58 Tryz.sizeOf130 Tryz.zeroValue130 rfl (by decide) (by decide) F rfl rfl (El.agg h3773) (fun a w v3774 rb3775 h3776 l F => ?_)
     have ow3777 := Own.go (h3145.own (Own.nil _ _)) l
     have d3779 := Dj.new h17.m h3776.ownR (Nat.le_refl _)
     have d3780 := Dj.new h2703.rd.m h3776.ownR (Nat.le_refl _)
     have d3781 := Dj.new h3750.rd.m h3776.ownR (Nat.le_refl _)
     have d3782 := Dj.new (inm1 K12) h3776.ownR (Nat.le_refl _)
     have d3783 := Dj.new (inm1 K32) h3776.ownR (Nat.le_refl _)
     have d3784 := Dj.new (inm1 K38) h3776.ownR (Nat.le_refl _)
     have d3785 := Dj.new (inm1 K280) h3776.ownR (Nat.le_refl _)
     have d3786 := Dj.new (inm1 K498) h3776.ownR (Nat.le_refl _)
     have d3787 := Dj.app' (Dj.new h2703.memR h3776.ownR (Nat.le_refl _)).symm d3170
     have d3788 := Dj.app' (Dj.new h2703.mem h3776.ownR (Nat.le_refl _)).symm d3175
     have d3789 := Dj.app' (Dj.new h3750.memR h3776.ownR (Nat.le_refl _)).symm d3761
     have d3790 := Dj.app' (Dj.new h3750.mem h3776.ownR (Nat.le_refl _)).symm d3766
     have d3791 := Dj.app' (Dj.symm d3782) d3161
     have d3792 := Dj.app' (Dj.symm d3783) d3162
     have d3793 := Dj.app' (Dj.symm d3784) d3163
     have d3794 := Dj.app' (Dj.symm d3785) d3164
     have d3795 := Dj.app' (Dj.symm d3786) d3165
     replace h3776 := h3776.base hB.size
     replace hB := Below.through l hB
     replace h17 := h17.go l
     replace h2703 := h2703.go l
     replace ow2707 := ow2707.go l
     replace h3750 := h3750.go l
     replace ow3751 := ow3751.go l
     replace K12 := K12.thru l
     replace K32 := K32.thru l
     replace K38 := K38.thru l
     replace K280 := K280.thru l
     replace K498 := K498.thru l
     obtain ⟨z3797, c3798, hR⟩ := bnd_some hR
     refine o_append (sz := 2) (R := RCon) (z := (.agg #[.int .i64 0, (.slice none 0 0)])) (bytes := 32) Tryz.underlying58 (by kernel_rfl) rfl (by decide) (by decide) (by decide) F rfl rfl rfl h2703 h3776.src hB.size (Dj.symm d3787.r) c3798 (fun a w v3799 rb3800 h3801 l keep F => ?_)
     have ow3802 := Own.append (Own.goO ow2707 l h2703.dj.symm) (Own.goO ow3777 l (Dj.symm (Dj.symm d3787.r))) (Dj.symm d3788.r)
     have d3804 := keep _ h17.m d2715
     have d3805 := keep _ (inm1 K12) (Dj.symm (Dj.l d2716))
     have d3806 := keep _ (inm1 K32) (Dj.symm (Dj.l d2717))
     have d3807 := keep _ (inm1 K38) (Dj.symm (Dj.l d2718))
     have d3808 := keep _ (inm1 K280) (Dj.symm (Dj.l d2719))
     have d3809 := keep _ (inm1 K498) (Dj.symm (Dj.l d2720))
     have d3810 := keep _ h3750.rd.m d3762
     replace hB := hB.o l h2703.lo hB.size
     replace h17 := h17.goO l d2715
     replace h3750 := h3750.goO l d3762
     replace ow3751 := ow3751.goO l (Dj.r d3762)
     replace K12 := K12.only l (Dj.symm (Dj.l d2716)).not
     replace K32 := K32.only l (Dj.symm (Dj.l d2717)).not
     replace K38 := K38.only l (Dj.symm (Dj.l d2718)).not
     replace K280 := K280.only l (Dj.symm (Dj.l d2719)).not
     replace K498 := K498.only l (Dj.symm (Dj.l d2720)).not
     have d3811 := Dj.app' (Dj.symm (Dj.l d3810)) (Dj.app' (Dj.r d3759) (Dj.r d3789))
     have d3812 := Dj.app' (Dj.symm (Dj.r d3810)) (Dj.app' (Dj.r d3765) (Dj.r d3790))
     have d3813 := (Dj.app d3764 (Dj.symm (Dj.r (Dj.app d3789 d3790))))
     have d3814 := Dj.app' (Dj.symm d3805) (Dj.app' (Dj.r d2716) (Dj.r d3791))
     have d3815 := Dj.app' (Dj.symm d3806) (Dj.app' (Dj.r d2717) (Dj.r d3792))
     have d3816 := Dj.app' (Dj.symm d3807) (Dj.app' (Dj.r d2718) (Dj.r d3793))
     have d3817 := Dj.app' (Dj.symm d3808) (Dj.app' (Dj.r d2719) (Dj.r d3794))
     have d3818 := Dj.app' (Dj.symm d3809) (Dj.app' (Dj.r d2720) (Dj.r d3795))
     refine o_bfield fa60_1 F rfl rfl rfl (fun a F => ?_)
     refine o_bstore Tryz.sizeOf58 F rfl rfl rfl K498 (h3801.rd).r.one (by first | simp | decide) rfl (fun w K498 l => ?_)
     replace hB := hB.o l (fun c hc => by rw [List.mem_singleton] at hc; rw [hc]; exact CK498) hB.size
     replace h17 := h17.goO l d519
     replace h3750 := h3750.goO l d3771
     replace ow3751 := ow3751.goO l d3771.r
     replace h3801 := h3801.goO l d3818
     replace ow3802 := ow3802.goO l d3818.r
     replace K12 := K12.only l (by simpa using nb522)
     replace K32 := K32.only l (by simpa using nb523)
     replace K38 := K38.only l (by simpa using nb524)
     replace K280 := K280.only l (by simpa using nb525)
     refine x_end ?_
     refine x_bn ?_
     refine x_tn ?_
     refine x_reg ?_
     refine o_move F rfl rfl (fun a F => ?_)
     refine o_inc F rfl rfl rfl ink2748 (fun a F => ?_)
     refine o_assign F rfl rfl (fun a F => ?_)
     refine x_end ?_
     refine x_tn ?_
     replace hR := l_go hR hn2691
     exact ⟨_, Nat.lt_succ_self _, k2748 + 1, rest2749, z3746, v3748, rb3749, (ib2699 ++ ((rb3592 ++ ib3593))), z3797, v3799, rb3800, (ib2706 ++ ((rb3147 ++ []))), ⟨hd2752.1, hd2752.2.2⟩, rfl, hR, F.sub (sc rfl (sc rfl (sc rfl (sc rfl (sc rfl (sc rfl (sc rfl sn))))))), hB, h3750, ow3751, h3801, ow3802, h17, K12, K32, K38, K280, K498, d3753, d3767, d3768, d3769, d3770, d3771, d3811, d3804, d3814, d3815, d3816, d3817, d3818, d3810, d3812⟩
   intro a w ⟨s2723, v2726, rb2727, ib2728, s2730, v2733, rb2734, ib2735, ho2690, F, hB, h2725, ow2729, h2732, ow2736, K32, K38, K280, K498, d2737, d2738, d2739, d2740, d2741, d2742, d2743, d2744, d2745, d2746, d2747⟩
   subst ho2690
   have hR := then_nx hk2689
   refine x_tn ?_
   refine x_seq ?_
   refine x_drawnO ([b31]) (by kernel_rfl) (fun w l => ?_)
   replace hB := Below.through l hB
   replace h2725 := h2725.go l
   replace ow2729 := ow2729.go l
   replace h2732 := h2732.go l
   replace ow2736 := ow2736.go l
   replace K32 := K32.thru l
   replace K38 := K38.thru l
   replace K280 := K280.thru l
   replace K498 := K498.thru l
   have dO3820 : Dj [b37] ([b31]) := (Dj.one (Ne.symm nb41))
   have dO3821 : Dj [b279] ([b31]) := (Dj.one nb303)
   have dO3822 : Dj [b497] ([b31]) := (Dj.one (Ne.symm nb523))
   have dO3823 : Dj (rb2727 ++ ib2728) ([b31]) := d2737
   have dO3824 : Dj (rb2734 ++ ib2735) ([b31]) := d2742
   refine b_q 0 (by kernel_rfl) rfl (by kernel_rfl) (by kernel_rfl) (by kernel_rfl) (by kernel_rfl) ?_
   refine v_val F rfl (fun w l => r_bloadA (cs := [.int .i64 x0.size, v2726]) Tryz.isAgg33 Tryz.sizeOf33 F rfl (K280.only l (Dj.not dO3821)) rfl (fun j hj => by match j, hj with | 0, _ => rfl | 1, _ => rfl)) (fun a F => ?_)
   have h3825 := RTemplate.mk2 (w := w) i14 h2725.rd
   refine b_q 1 (by kernel_rfl) rfl (by kernel_rfl) (by kernel_rfl) (by kernel_rfl) (by kernel_rfl) ?_
   refine v_val F rfl (fun w l => r_bloadA (cs := [.int .i64 x1.vars, v2733]) Tryz.isAgg60 Tryz.sizeOf60 F rfl (K498.only l (Dj.not dO3822)) rfl (fun j hj => by match j, hj with | 0, _ => rfl | 1, _ => rfl)) (fun a F => ?_)
   have h3826 := RInstance.mk2 (w := w) i23 h2732.rd
   refine b_e 2 rfl (by kernel_rfl) ?_
   refine o_bstoreA (vs := [.int .i64 x0.size, v2726]) Tryz.sizeOf33 F rfl rfl rfl K32 (oc rfl (oc (h2725.rd).r.one on)) (Nat.le_of_ble_eq_true rfl) rfl (fun w K32 l => ?_)
   replace hB := hB.o l (fun c hc => by rw [List.mem_singleton] at hc; rw [hc]; exact CK32) hB.size
   replace h2725 := h2725.goO l d2737
   replace ow2729 := ow2729.goO l d2737.r
   replace h2732 := h2732.goO l d2742
   replace ow2736 := ow2736.goO l d2742.r
   replace h3826 := h3826.goO l d2742
   replace K38 := K38.only l (by simpa using nb41.symm)
   refine x_end ?_
   refine x_tn ?_
   refine ⟨.inl (Only.mono l (fun c hc => hc)), ?_⟩
   refine b_e 3 rfl (by kernel_rfl) ?_
   refine o_bstoreA (vs := [.int .i64 x1.vars, v2733]) Tryz.sizeOf60 F rfl rfl rfl K38 (oc rfl (oc (h2732.rd).r.one on)) (Nat.le_of_ble_eq_true rfl) rfl (fun w K38 l => ?_)
   replace hB := hB.o l (fun c hc => by rw [List.mem_singleton] at hc; rw [hc]; exact CK38) hB.size
   replace h2725 := h2725.goO l d2738
   replace ow2729 := ow2729.goO l d2738.r
   replace h2732 := h2732.goO l d2743
   replace ow2736 := ow2736.goO l d2743.r
   replace K32 := K32.only l (by simpa using nb41)
   refine x_end ?_
   refine x_tn ?_
   refine ⟨.inr (by kernel_rfl), ?_⟩
   refine b_q0 4 rfl (by kernel_rfl) (by kernel_rfl) (by kernel_rfl) ?_
   refine v_val F rfl (fun w l => r_assign F rfl) (fun a F => ?_)
   refine b_end (by kernel_rfl) ?_
   refine x_tn ?_
   refine x_ret ?_
   refine x_res3 F rfl (rv_cA (arr := #[.int .i64 x0.size, v2726]) F Tryz.isAgg33 Tryz.sizeOf33 rfl K32) (rv_cA (arr := #[.int .i64 x1.vars, v2733]) F Tryz.isAgg60 Tryz.sizeOf60 rfl K38) (rv_t F rfl) ?_
   obtain rfl := Option.some.inj hR
   exact ⟨_, rfl, hB, v2726, rb2727, ib2728, v2733, rb2734, ib2735, rfl, i14, h2725, ow2729, i23, h2732, ow2736, (show I64 (0) by decide), (Dj.app d2746 (Dj.symm (Dj.r (Dj.app d2741 d2747))))⟩
  refine dp (fun G => ∀ (b448 : Nat) (v450 : Value) (rb451 : List Nat) (a : Act) (w : World), Sk a 164 [(2, v2), (3, .pointer (some ⟨b11, 0, none⟩)), (6, .pointer (some ⟨b31, 0, none⟩)), (7, .pointer (some ⟨b37, 0, none⟩)), (10, .pointer (some ⟨b279, 0, none⟩)), (11, .pointer (some ⟨b448, 0, none⟩)), (70, .int .i64 x1.vars), (72, v24), (75, v450)] → Below w0.heap.size w0 w → Rd (Sl 2 RRel) w v15 x0.rels b16 → Rd (Sl 2 RCon) w v24 x1.cons b25 → Row 2 RRel 101 w0.heap.size w v281 z188 rb282 ib283 → Own w0.heap.size ib283 w → w0.heap.size ≤ b448 → Row 1 RInt 2 w0.heap.size w v450 z307 rb451 ([]) → Blk w b11 #[.int .i64 x0.size, v15] 33 → Blk w b31 #[.int .i64 0, (.slice none 0 0)] 33 → Blk w b37 #[.int .i64 0, (.slice none 0 0)] 60 → Blk w b279 #[.int .i64 x0.size, v281] 33 → Blk w b448 #[.int .i64 0, (.slice none 0 0)] 60 → Dj b16 rb451 → Dj b25 rb451 → Dj (rb282 ++ ib283) rb451 → Dj [b11] rb451 → Dj [b31] rb451 → Dj [b37] rb451 → Dj [b279] rb451 → Dj (rb451 ++ []) rb282 → Dj (rb451 ++ []) ib283 → Dj [b448] rb282 → Dj [b448] rb451 → Dj b16 ([b448]) → Dj b25 ([b448]) → Dj (rb282 ++ ib283) ([b448]) → b11 ≠ b448 → b31 ≠ b448 → b37 ≠ b448 → b279 ≠ b448 → ∀ ls, ls = #[true, true, true, true, true, true, true, false, false, true, false] → G 3 ls a w) ?_ (fun H472 => ?_)
  ·
   intro b448 v450 rb451 a w F hB h17 h26 h284 ow286 CK449 h452 K12 K32 K38 K280 K449 d454 d455 d456 d457 d458 d459 d460 d461 d462 d463 d464 d465 d466 d467 nb468 nb469 nb470 nb471 ls hls
   subst hls
   refine b_e 7 rfl (by kernel_rfl) ?_
   refine o_gives F rfl Tryz.call84 rfl (spec_l05Moved_c z324 c325 _ h26 h452.rd) (fun a vv w l ⟨v473, rb474, ib475, hv478, h476, ow477⟩ F => ?_)
   subst vv
   have o479 := h476.own ow477
   have d480 := (Dj.new (inm1 K12) o479 (Nat.le_refl _)).symm
   have d481 := (Dj.new (inm1 K32) o479 (Nat.le_refl _)).symm
   have d482 := (Dj.new (inm1 K38) o479 (Nat.le_refl _)).symm
   have d483 := (Dj.new (inm1 K280) o479 (Nat.le_refl _)).symm
   have d484 := (Dj.new (inm1 K449) o479 (Nat.le_refl _)).symm
   have d485 := (Dj.new h284.memR o479 (Nat.le_refl _)).symm
   have d486 := (Dj.new h284.mem o479 (Nat.le_refl _)).symm
   have d487 := (Dj.new h452.memR o479 (Nat.le_refl _)).symm
   have d489 := Dj.new h17.m h476.ownR (Nat.le_refl _)
   have d490 := Dj.new h284.rd.m h476.ownR (Nat.le_refl _)
   have d491 := Dj.new (inm1 K12) h476.ownR (Nat.le_refl _)
   have d492 := Dj.new (inm1 K32) h476.ownR (Nat.le_refl _)
   have d493 := Dj.new (inm1 K38) h476.ownR (Nat.le_refl _)
   have d494 := Dj.new (inm1 K280) h476.ownR (Nat.le_refl _)
   have d495 := Dj.new (inm1 K449) h476.ownR (Nat.le_refl _)
   replace h476 := h476.base hB.size
   replace ow477 := ow477.mono hB.size
   replace hB := Below.through l hB
   replace h17 := h17.go l
   replace h284 := h284.go l
   replace ow286 := ow286.go l
   replace K12 := K12.thru l
   replace K32 := K32.thru l
   replace K38 := K38.thru l
   replace K280 := K280.thru l
   replace K449 := K449.thru l
   refine x_end ?_
   refine x_tn ?_
   refine ⟨.inl l, ?_⟩
   refine b_q 8 (by kernel_rfl) rfl (by kernel_rfl) (by kernel_rfl) (by kernel_rfl) (by kernel_rfl) ?_
   refine v_val F rfl (fun w l => r_build Tryz.underlying60 Tryz.zeroValue60 (fun w => by simp [Tryz.sizeOf2, Tryz.sizeOf58]; rfl) F rfl rfl rfl rfl (oc rfl (oc (h476.rd).r.one on)) rfl rfl) (fun a F => ?_)
   have h496 := RInstance.mk2 (w := w) i23 h476.rd
   exact H527 b448 v473 rb474 ib475 _ _ (F.sub (sc rfl (sc rfl (sc rfl (sc rfl (sc rfl (sc rfl (sc rfl sn)))))))) hB h17 h284 ow286 CK449 h476 ow477 K12 K32 K38 K280 K449 d489 d490 d491 d492 d493 d494 d480 d481 d482 d483 d485 d486 d463 d495 d465 d467 d484 nb468 nb469 nb470 nb471 _ (by kernel_rfl)
  refine b_q 0 (by kernel_rfl) rfl (by kernel_rfl) (by kernel_rfl) (by kernel_rfl) (by kernel_rfl) ?_
  refine v_val F rfl (fun w l => r_bfield fa60_0 F rfl rfl) (fun a F => ?_)
  refine b_q 1 (by kernel_rfl) rfl (by kernel_rfl) (by kernel_rfl) (by kernel_rfl) (by kernel_rfl) ?_
  refine v_val F rfl (fun w l => r_load1 Tryz.isAgg2 F rfl (((K21.thru l).cell _).trans rfl)) (fun a F => ?_)
  refine b_q 2 (by kernel_rfl) rfl (by kernel_rfl) (by kernel_rfl) (by kernel_rfl) (by kernel_rfl) ?_
  refine v_val F rfl (fun w l => r_bfield fa60_1 F rfl rfl) (fun a F => ?_)
  refine b_q 3 (by kernel_rfl) rfl (by kernel_rfl) (by kernel_rfl) (by kernel_rfl) (by kernel_rfl) ?_
  refine v_val F rfl (fun w l => r_load1 Tryz.isAgg58 F rfl (((K21.thru l).cell _).trans rfl)) (fun a F => ?_)
  refine b_q 4 (by kernel_rfl) rfl (by kernel_rfl) (by kernel_rfl) (by kernel_rfl) (by kernel_rfl) ?_
  refine v_val F rfl (fun w l => r_bfield fa60_0 F rfl rfl) (fun a F => ?_)
  refine b_q 5 (by kernel_rfl) rfl (by kernel_rfl) (by kernel_rfl) (by kernel_rfl) (by kernel_rfl) ?_
  refine v_val F rfl (fun w l => r_load1 Tryz.isAgg2 F rfl (((K21.thru l).cell _).trans rfl)) (fun a F => ?_)
  refine b_es [6, 9] (by kernel_rfl) (by simp) ⟨⟨_, rfl, ?_⟩, ⟨_, rfl, ?_⟩, trivial⟩
  ·
   refine o_gives F rfl Tryz.call85 rfl (spec_l03Count_c z307 c308 _ i23) (fun a vv w l ⟨v360, rb361, hv364, h363⟩ F => ?_)
   subst vv
   have d366 := Dj.new h17.m h363.ownR (Nat.le_refl _)
   have d367 := Dj.new h26.m h363.ownR (Nat.le_refl _)
   have d368 := Dj.new h284.rd.m h363.ownR (Nat.le_refl _)
   have d369 := Dj.new (inm1 K12) h363.ownR (Nat.le_refl _)
   have d370 := Dj.new (inm1 K32) h363.ownR (Nat.le_refl _)
   have d371 := Dj.new (inm1 K38) h363.ownR (Nat.le_refl _)
   have d372 := Dj.new (inm1 K280) h363.ownR (Nat.le_refl _)
   have d373 := Dj.app' (Dj.new h284.memR h363.ownR (Nat.le_refl _)).symm (Dj.nil' _)
   have d374 := Dj.app' (Dj.new h284.mem h363.ownR (Nat.le_refl _)).symm (Dj.nil' _)
   replace h363 := h363.base hB.size
   replace hB := Below.through l hB
   replace h17 := h17.go l
   replace h26 := h26.go l
   replace h284 := h284.go l
   replace ow286 := ow286.go l
   replace K12 := K12.thru l
   replace K32 := K32.thru l
   replace K38 := K38.thru l
   replace K280 := K280.thru l
   refine x_end ?_
   refine x_tn ?_
   refine ⟨.inl l, ?_⟩
   refine b_es [7, 9] (by kernel_rfl) (by simp) ⟨⟨_, rfl, ?_⟩, ⟨_, rfl, ?_⟩, trivial⟩
   ·
    refine o_gives F rfl Tryz.call84 rfl (spec_l05Moved_c z324 c325 _ h26 h363.rd) (fun a vv w l ⟨v375, rb376, ib377, hv380, h378, ow379⟩ F => ?_)
    subst vv
    have o381 := h378.own ow379
    have d382 := (Dj.new (inm1 K12) o381 (Nat.le_refl _)).symm
    have d383 := (Dj.new (inm1 K32) o381 (Nat.le_refl _)).symm
    have d384 := (Dj.new (inm1 K38) o381 (Nat.le_refl _)).symm
    have d385 := (Dj.new (inm1 K280) o381 (Nat.le_refl _)).symm
    have d386 := (Dj.new h284.memR o381 (Nat.le_refl _)).symm
    have d387 := (Dj.new h284.mem o381 (Nat.le_refl _)).symm
    have d388 := (Dj.new h363.memR o381 (Nat.le_refl _)).symm
    have d390 := Dj.new h17.m h378.ownR (Nat.le_refl _)
    have d391 := Dj.new h284.rd.m h378.ownR (Nat.le_refl _)
    have d392 := Dj.new (inm1 K12) h378.ownR (Nat.le_refl _)
    have d393 := Dj.new (inm1 K32) h378.ownR (Nat.le_refl _)
    have d394 := Dj.new (inm1 K38) h378.ownR (Nat.le_refl _)
    have d395 := Dj.new (inm1 K280) h378.ownR (Nat.le_refl _)
    replace h378 := h378.base hB.size
    replace ow379 := ow379.mono hB.size
    replace hB := Below.through l hB
    replace h17 := h17.go l
    replace h284 := h284.go l
    replace ow286 := ow286.go l
    replace K12 := K12.thru l
    replace K32 := K32.thru l
    replace K38 := K38.thru l
    replace K280 := K280.thru l
    refine x_end ?_
    refine x_tn ?_
    refine ⟨.inl l, ?_⟩
    refine b_q 8 (by kernel_rfl) rfl (by kernel_rfl) (by kernel_rfl) (by kernel_rfl) (by kernel_rfl) ?_
    refine v_val F rfl (fun w l => r_build Tryz.underlying60 Tryz.zeroValue60 (fun w => by simp [Tryz.sizeOf2, Tryz.sizeOf58]; rfl) F rfl rfl rfl rfl (oc rfl (oc (h378.rd).r.one on)) rfl rfl) (fun a F => ?_)
    have h396 := RInstance.mk2 (w := w) i23 h378.rd
    refine b_e 9 rfl (by kernel_rfl) ?_
    refine o_alloc Tryz.zeroValue60 F rfl rfl (fun a w b397 K398 l BK398 F => ?_)
    have d399 := dj1 h284.memR BK398
    have d400 := dj1 h378.memR BK398
    have nb401 := Dj.bb K12 BK398
    have nb402 := Dj.bb K32 BK398
    have nb403 := Dj.bb K38 BK398
    have nb404 := Dj.bb K280 BK398
    have d405 := (dj1 h17.m BK398).symm
    have d406 := (dj1 h396.m BK398).symm
    have d407 := (dj1 h284.rd.m BK398).symm
    have d408 := (dj1 h378.rd.m BK398).symm
    have CK398 := Nat.le_trans hB.size BK398
    replace hB := Below.through l hB
    replace h17 := h17.go l
    replace h284 := h284.go l
    replace ow286 := ow286.go l
    replace h378 := h378.go l
    replace ow379 := ow379.go l
    replace h396 := h396.go l
    replace K12 := K12.thru l
    replace K32 := K32.thru l
    replace K38 := K38.thru l
    replace K280 := K280.thru l
    refine x_end ?_
    refine x_tn ?_
    refine ⟨.inl l, ?_⟩
    exact H527 b397 v375 rb376 ib377 _ _ (F.sub (sc rfl (sc rfl (sc rfl (sc rfl (sc rfl (sc rfl (sc rfl sn)))))))) hB h17 h284 ow286 CK398 h378 ow379 K12 K32 K38 K280 K398 d390 d391 d392 d393 d394 d395 d382 d383 d384 d385 d386 d387 d399 d400 d405 d407 d408 nb401 nb402 nb403 nb404 _ (by kernel_rfl)
   refine o_alloc Tryz.zeroValue60 F rfl rfl (fun a w b409 K410 l BK410 F => ?_)
   have d411 := dj1 h284.memR BK410
   have d412 := dj1 h363.memR BK410
   have nb413 := Dj.bb K12 BK410
   have nb414 := Dj.bb K32 BK410
   have nb415 := Dj.bb K38 BK410
   have nb416 := Dj.bb K280 BK410
   have d417 := (dj1 h17.m BK410).symm
   have d418 := (dj1 h26.m BK410).symm
   have d419 := (dj1 h284.rd.m BK410).symm
   have d420 := (dj1 h363.rd.m BK410).symm
   have CK410 := Nat.le_trans hB.size BK410
   replace hB := Below.through l hB
   replace h17 := h17.go l
   replace h26 := h26.go l
   replace h284 := h284.go l
   replace ow286 := ow286.go l
   replace h363 := h363.go l
   replace K12 := K12.thru l
   replace K32 := K32.thru l
   replace K38 := K38.thru l
   replace K280 := K280.thru l
   refine x_end ?_
   refine x_tn ?_
   refine ⟨.inl l, ?_⟩
   exact H472 b409 v360 rb361 _ _ (F.sub (sc rfl (sc rfl (sc rfl (sc rfl (sc rfl (sc rfl (sc rfl (sc rfl (sc rfl sn)))))))))) hB h17 h26 h284 ow286 CK410 h363 K12 K32 K38 K280 K410 d366 d367 d368 d369 d370 d371 d372 d373 d374 d411 d412 d417 d418 d419 nb413 nb414 nb415 nb416 _ (by kernel_rfl)
  refine o_alloc Tryz.zeroValue60 F rfl rfl (fun a w b421 K422 l BK422 F => ?_)
  have d423 := dj1 h284.memR BK422
  have nb424 := Dj.bb K12 BK422
  have nb425 := Dj.bb K21 BK422
  have nb426 := Dj.bb K32 BK422
  have nb427 := Dj.bb K38 BK422
  have nb428 := Dj.bb K280 BK422
  have d429 := (dj1 h17.m BK422).symm
  have d430 := (dj1 h26.m BK422).symm
  have d431 := (dj1 h284.rd.m BK422).symm
  have CK422 := Nat.le_trans hB.size BK422
  replace hB := Below.through l hB
  replace h17 := h17.go l
  replace h26 := h26.go l
  replace h284 := h284.go l
  replace ow286 := ow286.go l
  replace K12 := K12.thru l
  replace K32 := K32.thru l
  replace K38 := K38.thru l
  replace K280 := K280.thru l
  refine x_end ?_
  refine x_tn ?_
  refine ⟨.inl l, ?_⟩
  refine b_e 6 rfl (by kernel_rfl) ?_
  refine o_gives F rfl Tryz.call85 rfl (spec_l03Count_c z307 c308 _ i23) (fun a vv w l ⟨v432, rb433, hv436, h435⟩ F => ?_)
  subst vv
  have d438 := Dj.new h17.m h435.ownR (Nat.le_refl _)
  have d439 := Dj.new h26.m h435.ownR (Nat.le_refl _)
  have d440 := Dj.new h284.rd.m h435.ownR (Nat.le_refl _)
  have d441 := Dj.new (inm1 K12) h435.ownR (Nat.le_refl _)
  have d442 := Dj.new (inm1 K32) h435.ownR (Nat.le_refl _)
  have d443 := Dj.new (inm1 K38) h435.ownR (Nat.le_refl _)
  have d444 := Dj.new (inm1 K280) h435.ownR (Nat.le_refl _)
  have d445 := Dj.new (inm1 K422) h435.ownR (Nat.le_refl _)
  have d446 := Dj.app' (Dj.new h284.memR h435.ownR (Nat.le_refl _)).symm (Dj.nil' _)
  have d447 := Dj.app' (Dj.new h284.mem h435.ownR (Nat.le_refl _)).symm (Dj.nil' _)
  replace h435 := h435.base hB.size
  replace hB := Below.through l hB
  replace h17 := h17.go l
  replace h26 := h26.go l
  replace h284 := h284.go l
  replace ow286 := ow286.go l
  replace K12 := K12.thru l
  replace K32 := K32.thru l
  replace K38 := K38.thru l
  replace K280 := K280.thru l
  replace K422 := K422.thru l
  refine x_end ?_
  refine x_tn ?_
  refine ⟨.inl l, ?_⟩
  exact H472 b421 v432 rb433 _ _ (F.sub (sc rfl (sc rfl (sc rfl (sc rfl (sc rfl (sc rfl (sc rfl (sc rfl (sc rfl sn)))))))))) hB h17 h26 h284 ow286 CK422 h435 K12 K32 K38 K280 K422 d438 d439 d440 d441 d442 d443 d444 d446 d447 d423 d445 d429 d430 d431 nb424 nb426 nb427 nb428 _ (by kernel_rfl)
 refine b_q 0 (by kernel_rfl) rfl (by kernel_rfl) (by kernel_rfl) (by kernel_rfl) (by kernel_rfl) ?_
 refine v_val F rfl (fun w l => r_bfield fa33_0 F rfl rfl) (fun a F => ?_)
 refine b_q 1 (by kernel_rfl) rfl (by kernel_rfl) (by kernel_rfl) (by kernel_rfl) (by kernel_rfl) ?_
 refine v_val F rfl (fun w l => r_load1 Tryz.isAgg2 F rfl (((K12.thru l).cell _).trans rfl)) (fun a F => ?_)
 refine b_q 2 (by kernel_rfl) rfl (by kernel_rfl) (by kernel_rfl) (by kernel_rfl) (by kernel_rfl) ?_
 refine v_val F rfl (fun w l => r_bfield fa33_1 F rfl rfl) (fun a F => ?_)
 refine b_q 3 (by kernel_rfl) rfl (by kernel_rfl) (by kernel_rfl) (by kernel_rfl) (by kernel_rfl) ?_
 refine v_val F rfl (fun w l => r_load1 Tryz.isAgg31 F rfl (((K12.thru l).cell _).trans rfl)) (fun a F => ?_)
 refine b_es [4, 6] (by kernel_rfl) (by simp) ⟨⟨_, rfl, ?_⟩, ⟨_, rfl, ?_⟩, trivial⟩
 ·
  refine o_gives F rfl Tryz.call83 rfl (spec_l03Rels_c z188 c189 _ h17) (fun a vv w l ⟨v220, rb221, ib222, hv225, h223, ow224⟩ F => ?_)
  subst vv
  have o226 := h223.own ow224
  have d227 := (Dj.new (inm1 K12) o226 (Nat.le_refl _)).symm
  have d228 := (Dj.new (inm1 K21) o226 (Nat.le_refl _)).symm
  have d229 := (Dj.new (inm1 K32) o226 (Nat.le_refl _)).symm
  have d230 := (Dj.new (inm1 K38) o226 (Nat.le_refl _)).symm
  have d232 := Dj.new h17.m h223.ownR (Nat.le_refl _)
  have d233 := Dj.new h26.m h223.ownR (Nat.le_refl _)
  have d234 := Dj.new (inm1 K12) h223.ownR (Nat.le_refl _)
  have d235 := Dj.new (inm1 K21) h223.ownR (Nat.le_refl _)
  have d236 := Dj.new (inm1 K32) h223.ownR (Nat.le_refl _)
  have d237 := Dj.new (inm1 K38) h223.ownR (Nat.le_refl _)
  replace h223 := h223.base hB.size
  replace ow224 := ow224.mono hB.size
  replace hB := Below.through l hB
  replace h17 := h17.go l
  replace h26 := h26.go l
  replace K12 := K12.thru l
  replace K21 := K21.thru l
  replace K32 := K32.thru l
  replace K38 := K38.thru l
  refine x_end ?_
  refine x_tn ?_
  refine ⟨.inl l, ?_⟩
  refine b_q 5 (by kernel_rfl) rfl (by kernel_rfl) (by kernel_rfl) (by kernel_rfl) (by kernel_rfl) ?_
  refine v_val F rfl (fun w l => r_build Tryz.underlying33 Tryz.zeroValue33 (fun w => by simp [Tryz.sizeOf2, Tryz.sizeOf31]; rfl) F rfl rfl rfl rfl (oc rfl (oc (h223.rd).r.one on)) rfl rfl) (fun a F => ?_)
  have h238 := RTemplate.mk2 (w := w) i14 h223.rd
  refine b_e 6 rfl (by kernel_rfl) ?_
  refine o_alloc Tryz.zeroValue33 F rfl rfl (fun a w b239 K240 l BK240 F => ?_)
  have d241 := dj1 h223.memR BK240
  have nb242 := Dj.bb K12 BK240
  have nb243 := Dj.bb K21 BK240
  have nb244 := Dj.bb K32 BK240
  have nb245 := Dj.bb K38 BK240
  have d246 := (dj1 h17.m BK240).symm
  have d247 := (dj1 h26.m BK240).symm
  have d248 := (dj1 h238.m BK240).symm
  have d249 := (dj1 h223.rd.m BK240).symm
  have CK240 := Nat.le_trans hB.size BK240
  replace hB := Below.through l hB
  replace h17 := h17.go l
  replace h26 := h26.go l
  replace h223 := h223.go l
  replace ow224 := ow224.go l
  replace h238 := h238.go l
  replace K12 := K12.thru l
  replace K21 := K21.thru l
  replace K32 := K32.thru l
  replace K38 := K38.thru l
  refine x_end ?_
  refine x_tn ?_
  refine ⟨.inl l, ?_⟩
  exact H306 b239 v220 rb221 ib222 _ _ (F.sub (sc rfl (sc rfl (sc rfl (sc rfl (sc rfl (sc rfl (sc rfl sn)))))))) hB h17 h26 CK240 h223 ow224 K12 K21 K32 K38 K240 d232 d233 d234 d235 d236 d237 d227 d228 d229 d230 d241 d246 d247 d249 nb242 nb243 (Ne.symm nb244) (Ne.symm nb245) _ (by kernel_rfl)
 refine o_alloc Tryz.zeroValue33 F rfl rfl (fun a w b250 K251 l BK251 F => ?_)
 have nb252 := Dj.bb K12 BK251
 have nb253 := Dj.bb K21 BK251
 have nb254 := Dj.bb K32 BK251
 have nb255 := Dj.bb K38 BK251
 have d256 := (dj1 h17.m BK251).symm
 have d257 := (dj1 h26.m BK251).symm
 have CK251 := Nat.le_trans hB.size BK251
 replace hB := Below.through l hB
 replace h17 := h17.go l
 replace h26 := h26.go l
 replace K12 := K12.thru l
 replace K21 := K21.thru l
 replace K32 := K32.thru l
 replace K38 := K38.thru l
 refine x_end ?_
 refine x_tn ?_
 refine ⟨.inl l, ?_⟩
 refine b_e 4 rfl (by kernel_rfl) ?_
 refine o_gives F rfl Tryz.call83 rfl (spec_l03Rels_c z188 c189 _ h17) (fun a vv w l ⟨v258, rb259, ib260, hv263, h261, ow262⟩ F => ?_)
 subst vv
 have o264 := h261.own ow262
 have d265 := (Dj.new (inm1 K12) o264 (Nat.le_refl _)).symm
 have d266 := (Dj.new (inm1 K21) o264 (Nat.le_refl _)).symm
 have d267 := (Dj.new (inm1 K32) o264 (Nat.le_refl _)).symm
 have d268 := (Dj.new (inm1 K38) o264 (Nat.le_refl _)).symm
 have d269 := (Dj.new (inm1 K251) o264 (Nat.le_refl _)).symm
 have d271 := Dj.new h17.m h261.ownR (Nat.le_refl _)
 have d272 := Dj.new h26.m h261.ownR (Nat.le_refl _)
 have d273 := Dj.new (inm1 K12) h261.ownR (Nat.le_refl _)
 have d274 := Dj.new (inm1 K21) h261.ownR (Nat.le_refl _)
 have d275 := Dj.new (inm1 K32) h261.ownR (Nat.le_refl _)
 have d276 := Dj.new (inm1 K38) h261.ownR (Nat.le_refl _)
 have d277 := Dj.new (inm1 K251) h261.ownR (Nat.le_refl _)
 replace h261 := h261.base hB.size
 replace ow262 := ow262.mono hB.size
 replace hB := Below.through l hB
 replace h17 := h17.go l
 replace h26 := h26.go l
 replace K12 := K12.thru l
 replace K21 := K21.thru l
 replace K32 := K32.thru l
 replace K38 := K38.thru l
 replace K251 := K251.thru l
 refine x_end ?_
 refine x_tn ?_
 refine ⟨.inl l, ?_⟩
 refine b_q 5 (by kernel_rfl) rfl (by kernel_rfl) (by kernel_rfl) (by kernel_rfl) (by kernel_rfl) ?_
 refine v_val F rfl (fun w l => r_build Tryz.underlying33 Tryz.zeroValue33 (fun w => by simp [Tryz.sizeOf2, Tryz.sizeOf31]; rfl) F rfl rfl rfl rfl (oc rfl (oc (h261.rd).r.one on)) rfl rfl) (fun a F => ?_)
 have h278 := RTemplate.mk2 (w := w) i14 h261.rd
 exact H306 b250 v258 rb259 ib260 _ _ (F.sub (sc rfl (sc rfl (sc rfl (sc rfl (sc rfl (sc rfl (sc rfl sn)))))))) hB h17 h26 CK251 h261 ow262 K12 K21 K32 K38 K251 d271 d272 d273 d274 d275 d276 d265 d266 d267 d268 d277 d256 d257 d269 nb252 nb253 (Ne.symm nb254) (Ne.symm nb255) _ (by kernel_rfl)
end Go.Proofs.YtfggmelojaicfaaGreat
