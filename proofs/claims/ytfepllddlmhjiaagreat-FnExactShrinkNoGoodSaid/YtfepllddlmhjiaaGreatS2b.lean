/-
  Functions of the program as plain functions, and that they compute them. Printed by fxio.py.
-/
import Derived.Test.YtfepllddlmhjiaaGreatS2
namespace Go.Proofs.YtfepllddlmhjiaaGreat
set_option linter.unusedVariables false
set_option linter.unusedSimpArgs false
set_option maxRecDepth 100000
open Go.RowKit
def impl_without_1 (x0 : Int) (y0 : Int) : Option Bool :=
 some ((x0 == y0))
set_option maxHeartbeats 1000000 in
theorem impl_without_1_c {x0 : Int} {y0 : Int} (r : Bool) (hR : impl_without_1 x0 y0 = some r) {v1 : Value} {b1 : List Nat} (w0 : World) (hx0 : I64 x0) (A1 : Rd (Pt 1 RInt) w0 v1 y0 b1) : Calls Tryz.prog 173 #[.int .i64 x0, v1] w0 (Says (.bool r) w0) := by
 unfold impl_without_1 at hR
 refine x_enter (L := [(0, .int .i64 x0), (1, v1)]) Tryz.func173 rfl rfl rfl (sc rfl (sc rfl sn)) (fun a F => ?_)
 have hB := Below.refl w0.heap.size w0
 refine x_seq ?_
 refine x_reg ?_
 refine o_assign F rfl rfl (fun a F => ?_)
 refine x_end ?_
 refine x_tn ?_
 refine x_seq ?_
 refine x_reg ?_
 refine o_move F rfl rfl (fun a F => ?_)
 have i11 := ((A1.go hB)).i64
 refine o_loadI Tryz.isAgg2 F rfl rfl (A1.go hB) (fun a F => ?_)
 refine o_eql F rfl rfl rfl (fun a F => ?_)
 refine o_assign F rfl rfl (fun a F => ?_)
 refine x_end ?_
 refine x_tn ?_
 refine x_ret ?_
 refine x_res1 F rfl (rv_t F rfl) ?_
 obtain rfl := Option.some.inj hR
 exact ⟨rfl, hB⟩

def slices_DeleteFunc_s_int64_int64 (N : Nat) (x0 : List Int) (x1 : Int → Option Bool) : Option (List Int) :=
 bnd (slices_IndexFunc_s_int64_int64 x0 x1) fun z11 =>
 if (z11 == (-1)) then
  some x0
 else
  bnd (ck (z11 + 1)) fun z14 =>
  thn (σ := Int × Int × (List Int)) (
   whl (σ := Int × Int × (List Int)) (ρ := (List Int)) (fun (s : Int × Int × (List Int)) =>
     match s with
     | (s94, s96, s98) =>
     if (decide (s96 < (s98.length : Int))) then
      bnd (ix s98 s96) fun z116 =>
      bnd (x1 z116) fun z124 =>
      if (!z124) then
       bnd (ix s98 s94) fun z127 =>
       bnd (ck (s94 + 1)) fun z138 =>
       bnd (ck (s96 + 1)) fun z140 =>
       some (.go (z138, z140, (s98.set (s94).toNat z116)))
      else
       bnd (ck (s96 + 1)) fun z142 =>
       some (.go (s94, z142, s98))
     else
      some (.brk (s94, s96, s98))) N (z11, z14, x0)) fun (s101, s103, s105) =>
  bnd (sl s105 s101 (s105.length : Int)) fun z144 =>
  bnd (sl (s105.take (s101).toNat ++ List.replicate (s105.length - (s101).toNat) 0) 0 s101) fun z150 =>
  some z150
set_option maxHeartbeats 1000000 in
theorem slices_DeleteFunc_s_int64_int64_c {N : Nat} {x0 : List Int} {x1 : Int → Option Bool} (r : (List Int)) (hR : slices_DeleteFunc_s_int64_int64 N x0 x1 = some r) {v0 : Value} {rb0 : List Nat} {g1 : FuncId} {lb1 : List Value} (w0 : World) (A0 : Row 1 RInt 2 0 w0 v0 x0 rb0 []) (hg1 : ∀ args w, (callFunc g1 args).run Tryz.prog w = .ok (.enter g1 args) w) (hp1 : ∀ (a0 : Int) (r : Bool), x1 a0 = some r → ∀ W, Only rb0 w0 W → I64 a0 → Calls Tryz.prog g1 ([.int .i64 a0] ++ lb1 : List Value).toArray W (Says (.bool r) W)) : Calls Tryz.prog 172 #[v0, .func (.func g1) #[] lb1.toArray] w0 (GivesX rb0 (fun v w' => ∃ (v1' : Value) (rb2' : List Nat), v = v1' ∧ Row 1 RInt 2 0 w' v1' r rb2' [] ∧ Frs rb0 w0.heap.size rb2') w0) := by
 unfold slices_DeleteFunc_s_int64_int64 at hR
 refine x_enter (L := [(0, v0), (1, .func (.func g1) #[] lb1.toArray)]) Tryz.func172 rfl rfl rfl (sc rfl (sc rfl sn)) (fun a F => ?_)
 have hB := Only.refl rb0 w0
 have frA0 : Frs rb0 w0.heap.size rb0 := Frs.mem (fun c hc => by simp [hc])
 refine x_seq ?_
 refine x_reg ?_
 refine o_assign F rfl rfl (fun a F => ?_)
 refine x_end ?_
 refine x_tn ?_
 refine x_seq ?_
 refine x_reg ?_
 refine o_move F rfl rfl (fun a F => ?_)
 refine o_move F rfl rfl (fun a F => ?_)
 obtain ⟨z11, c12, hR⟩ := bnd_some hR
 refine o_saysI F rfl Tryz.call234 rfl (slices_IndexFunc_s_int64_int64_c z11 c12 _ A0.rd hg1 (fun a0 r h W l => hp1 a0 r h W (hB.thru l))) (fun a w l iz11 F => ?_)
 replace hB := hB.thru l
 replace A0 := A0.go l
 refine o_assign F rfl rfl (fun a F => ?_)
 refine x_end ?_
 refine x_tn ?_
 refine x_seq ?_
 refine x_seq ?_
 refine x_reg ?_
 refine o_move F rfl rfl (fun a F => ?_)
 refine o_eql F rfl rfl rfl (fun a F => ?_)
 refine x_end ?_
 refine x_tn ?_
 refine x_if F rfl (fun hb13 => ?_) (fun hb13 => ?_)
 ·
  replace hR := ifT hb13 hR
  refine x_seq ?_
  refine x_reg ?_
  refine o_move F rfl rfl (fun a F => ?_)
  refine o_assign F rfl rfl (fun a F => ?_)
  refine x_end ?_
  refine x_tn ?_
  refine x_ret ?_
  refine x_tr ?_
  refine x_res1 F rfl (rv_t F rfl) ?_
  obtain rfl := Option.some.inj hR
  exact ⟨_, rfl, hB, v0, rb0, rfl, A0, frA0⟩
 ·
  replace hR := ifF hb13 hR
  refine x_skip ?_
  refine x_tn ?_
  refine x_seq ?_
  refine x_seq ?_
  refine x_reg ?_
  refine o_move F rfl rfl (fun a F => ?_)
  obtain ⟨z14, c15, hR⟩ := bnd_some hR
  refine o_add F rfl rfl rfl c15 (fun a F => ?_)
  refine o_assign F rfl rfl (fun a F => ?_)
  refine x_end ?_
  refine x_tn ?_
  obtain ⟨o88, hR, hk89⟩ := thn_some hR
  refine x_cutQ (fun a w => ∃ (s101 : Int) (s103 : Int) (s105 : List Int), o88 = .nx (s101, s103, s105) ∧ Sk a 42 [(0, v0), (5, .int .i64 s101)] ∧ Only rb0 w0 w ∧ I64 s101 ∧ I64 s103 ∧ Row 1 RInt 2 0 w v0 s105 rb0 ([])) ?_ ?_
  ·
   refine x_blk ?_
   obtain ⟨fl92, hf93, hR⟩ := whl_gen hR
   refine x_loop (fun g a w => ∃ (s94 : Int) (s96 : Int) (s98 : List Int), whl fl92 g (s94, s96, s98) = some o88 ∧ Sk a 42 [(0, v0), (1, .func (.func g1) #[] lb1.toArray), (5, .int .i64 s94), (6, .int .i64 s96)] ∧ Only rb0 w0 w ∧ I64 s94 ∧ I64 s96 ∧ Row 1 RInt 2 0 w v0 s98 rb0 ([])) N ?_ ?_
   ·
    exact ⟨z11, z14, x0, hR, F.sub (sc rfl (sc rfl (sc rfl (sc rfl sn)))), hB, iz11, (ck64 c15), A0⟩
   ·
    intro g111 a w ⟨s94, s96, s98, hR, F, hB, i95, i97, h100⟩
    obtain ⟨ck108, rest109, hg113, hR, hn91⟩ := whl_round hR
    rw [hf93] at hR
    refine x_seq ?_
    refine x_seq ?_
    refine x_reg ?_
    refine o_move F rfl rfl (fun a F => ?_)
    refine o_move F rfl rfl (fun a F => ?_)
    refine o_len Tryz.underlying46 F rfl rfl h100.rd (fun a F => ?_)
    have i114 := (h100.rd).r.len64
    refine o_lss F rfl rfl rfl (fun a F => ?_)
    refine x_end ?_
    refine x_tn ?_
    refine x_if F rfl (fun hb115 => ?_) (fun hb115 => ?_)
    ·
     replace hR := ifT hb115 hR
     refine x_skip ?_
     refine x_tn ?_
     refine x_seq ?_
     refine x_blk ?_
     refine x_seq ?_
     refine x_reg ?_
     refine o_move F rfl rfl (fun a F => ?_)
     refine o_move F rfl rfl (fun a F => ?_)
     obtain ⟨z116, c117, hR⟩ := bnd_some hR
     refine o_rindex Tryz.underlying46 Tryz.sizeOf2 F rfl rfl rfl h100 c117 (fun a p118 b119 h120 s121 rp122 F => ?_)
     have i123 := (h120).i64
     refine o_loadI Tryz.isAgg2 F rfl rfl h120 (fun a F => ?_)
     refine o_assign F rfl rfl (fun a F => ?_)
     refine x_end ?_
     refine x_tn ?_
     refine x_seq ?_
     refine x_reg ?_
     refine o_move F rfl rfl (fun a F => ?_)
     refine o_move F rfl rfl (fun a F => ?_)
     obtain ⟨z124, c125, hR⟩ := bnd_some hR
     refine o_saysV F rfl rfl hg1 rfl (hp1 _ z124 c125 _ hB i123) (fun a w l F => ?_)
     replace hB := hB.thru l
     replace h100 := h100.go l
     refine o_not F rfl rfl (fun a F => ?_)
     refine x_end ?_
     refine x_tn ?_
     refine x_if F rfl (fun hb126 => ?_) (fun hb126 => ?_)
     ·
      replace hR := ifT hb126 hR
      refine x_seq ?_
      refine x_reg ?_
      refine o_move F rfl rfl (fun a F => ?_)
      refine o_move F rfl rfl (fun a F => ?_)
      refine o_move F rfl rfl (fun a F => ?_)
      obtain ⟨z127, c128, hR⟩ := bnd_some hR
      refine o_rindex Tryz.underlying46 Tryz.sizeOf2 F rfl rfl rfl h100 c128 (fun a p129 b130 h131 s132 rp133 F => ?_)
      refine o_rstore Tryz.sizeOf2 F rfl rfl rfl h100 rp133 (ix_lt c128) (El.int i123) rfl (Dj.nil _) (fun w ib135 h134 l s136 keep => ?_)
      obtain rfl : ib135 = [] := sub_nil_nil s136
      replace hB := hB.oo l frA0
      refine x_end ?_
      refine x_tn ?_
      refine x_reg ?_
      refine o_move F rfl rfl (fun a F => ?_)
      obtain ⟨z138, c139, hR⟩ := bnd_some hR
      refine o_add F rfl rfl rfl c139 (fun a F => ?_)
      refine o_assign F rfl rfl (fun a F => ?_)
      refine x_end ?_
      refine x_bn ?_
      refine x_tn ?_
      refine x_reg ?_
      refine o_move F rfl rfl (fun a F => ?_)
      obtain ⟨z140, c141, hR⟩ := bnd_some hR
      refine o_add F rfl rfl rfl c141 (fun a F => ?_)
      refine o_assign F rfl rfl (fun a F => ?_)
      refine x_end ?_
      refine x_tn ?_
      replace hR := l_go hR hn91
      exact ⟨rest109, (by omega), z138, z140, (s98.set (s94).toNat z116), hR, F.sub (sc rfl (sc rfl (sc rfl (sc rfl sn)))), hB, (ck64 c139), (ck64 c141), h134⟩
     ·
      replace hR := ifF hb126 hR
      refine x_skip ?_
      refine x_bn ?_
      refine x_tn ?_
      refine x_reg ?_
      refine o_move F rfl rfl (fun a F => ?_)
      obtain ⟨z142, c143, hR⟩ := bnd_some hR
      refine o_add F rfl rfl rfl c143 (fun a F => ?_)
      refine o_assign F rfl rfl (fun a F => ?_)
      refine x_end ?_
      refine x_tn ?_
      replace hR := l_go hR hn91
      exact ⟨rest109, (by omega), s94, z142, s98, hR, F.sub (sc rfl (sc rfl (sc rfl (sc rfl sn)))), hB, i95, (ck64 c143), h100⟩
    ·
     replace hR := ifF hb115 hR
     refine x_exit ?_
     refine x_te ?_
     refine x_te ?_
     replace hR := l_brk hR hn91
     refine x_be ?_
     refine x_tn ?_
     exact ⟨s94, s96, s98, (Option.some.inj hR).symm, F.sub (sc rfl (sc rfl sn)), hB, i95, i97, h100⟩
  ·
   intro a w ⟨s101, s103, s105, ho90, F, hB, i102, i104, h107⟩
   subst ho90
   have hR := then_nx hk89
   refine x_tn ?_
   refine x_seq ?_
   refine x_reg ?_
   refine o_move F rfl rfl (fun a F => ?_)
   refine o_move F rfl rfl (fun a F => ?_)
   obtain ⟨z144, c145, hR⟩ := bnd_some hR
   refine o_rtail Tryz.underlying46 Tryz.sizeOf2 F rfl rfl rfl h107 c145 (fun a p146 T147 F => ?_)
   refine o_rclear Tryz.underlying46 Tryz.zeroValue2 F rfl rfl h107 T147 (fun w h148 l keep => ?_)
   replace hB := hB.oo l frA0
   refine x_end ?_
   refine x_tn ?_
   refine x_seq ?_
   refine x_reg ?_
   refine o_move F rfl rfl (fun a F => ?_)
   refine o_move F rfl rfl (fun a F => ?_)
   obtain ⟨z150, c151, hR⟩ := bnd_some hR
   refine o_rtake Tryz.underlying46 Tryz.sizeOf2 F rfl rfl rfl h148 c151 (fun a v152 ib153 h154 s155 F => ?_)
   obtain rfl : ib153 = [] := sub_nil1 s155
   refine o_assign F rfl rfl (fun a F => ?_)
   refine x_end ?_
   refine x_tn ?_
   refine x_ret ?_
   refine x_res1 F rfl (rv_t F rfl) ?_
   obtain rfl := Option.some.inj hR
   exact ⟨_, rfl, hB, v152, rb0, rfl, h154, frA0⟩

def impl_without (N : Nat) (x0 : List Int) (x1 : Int) : Option (List Int) :=
 bnd (slices_Clone_s_int64_int64 x0) fun z13 =>
 bnd (slices_DeleteFunc_s_int64_int64 N z13 (fun a0 => impl_without_1 a0 x1)) fun z22 =>
 some z22
set_option maxHeartbeats 1000000 in
theorem impl_without_c {N : Nat} {x0 : List Int} {x1 : Int} (r : (List Int)) (hR : impl_without N x0 x1 = some r) {v0 : Value} {b0 : List Nat} (w0 : World) (A0 : Rd (Sl 1 RInt) w0 v0 x0 b0) (hx1 : I64 x1) : Calls Tryz.prog 114 #[v0, .int .i64 x1] w0 (Gives (fun v w' => ∃ (v1' : Value) (rb2' : List Nat), v = v1' ∧ Row 1 RInt 2 w0.heap.size w' v1' r rb2' []) w0) := by
 unfold impl_without at hR
 refine x_enter (L := [(0, v0), (1, .int .i64 x1)]) Tryz.func114 rfl rfl rfl (sc rfl (sc rfl sn)) (fun a F => ?_)
 have hB := Below.refl w0.heap.size w0
 refine x_seq ?_
 refine x_reg ?_
 refine o_box F rfl rfl rfl (fun a w b11 K12 l BK12 F => ?_)
 have CK12 := Nat.le_trans hB.size BK12
 replace hB := Below.through l hB
 refine o_assign F rfl rfl (fun a F => ?_)
 refine x_end ?_
 refine x_tn ?_
 refine x_seq ?_
 refine x_reg ?_
 refine o_move F rfl rfl (fun a F => ?_)
 obtain ⟨z13, c14, hR⟩ := bnd_some hR
 refine o_gives F rfl Tryz.call103 rfl (slices_Clone_s_int64_int64_c z13 c14 _ (A0.go hB)) (fun a vv w l ⟨v15, rb16, hv19, h18⟩ F => ?_)
 subst vv
 have d21 := Dj.new (inm1 K12) h18.ownR (Nat.le_refl _)
 replace h18 := h18.base hB.size
 replace hB := Below.through l hB
 replace K12 := K12.thru l
 refine o_func F rfl rfl rfl (fun a F => ?_)
 obtain ⟨z22, c23, hR⟩ := bnd_some hR
 refine o_givesX F rfl Tryz.call172 rfl (slices_DeleteFunc_s_int64_int64_c z22 c23 _ (h18.base (Nat.zero_le _)) Tryz.call173 (fun a0 r h W l f0 => impl_without_1_c r h W f0 (((cell1I K12 hx1)).goO l d21))) (fun a vv w l ⟨v24, rb25, hv29, h27, fr28⟩ F => ?_)
 subst vv
 replace h27 := Row.rebase h27 (Frs.trans0 fr28 h18.lo hB.size)
 replace hB := hB.o l h18.lo hB.size
 refine o_assign F rfl rfl (fun a F => ?_)
 refine x_end ?_
 refine x_tn ?_
 refine x_ret ?_
 refine x_res1 F rfl (rv_t F rfl) ?_
 obtain rfl := Option.some.inj hR
 exact ⟨_, rfl, hB, v24, rb25, rfl, h27⟩

def impl_makeArcs_ends (N : Nat) (x0 : Template) (x1 : Instance) (x2 : List (List Int)) : Option ((List ArcStep) × (List (List Int))) :=
 thn (σ := (List ArcStep) × Bool × (List (List Int))) (
  whl (σ := (List ArcStep) × Bool × (List (List Int))) (ρ := (List ArcStep) × (List (List Int))) (fun (s : (List ArcStep) × Bool × (List (List Int))) =>
    match s with
    | (s9751, s9757, s9758) =>
    if s9757 then
     thn (σ := (List ArcStep) × Bool × (List (List Int))) (
      forL (σ := (List ArcStep) × Bool × (List (List Int))) (ρ := (Ctl ((List ArcStep) × Bool × (List (List Int))) ((List ArcStep) × (List (List Int))))) (fun (k13042 : Nat) (x13044 : Con) (s : (List ArcStep) × Bool × (List (List Int))) =>
        match s with
        | (s12994, s13000, s13001) =>
        thn (σ := (List ArcStep) × Bool × (List (List Int))) (
         forL (σ := (List ArcStep) × Bool × (List (List Int))) (ρ := (Ctl ((List ArcStep) × Bool × (List (List Int))) (Ctl ((List ArcStep) × Bool × (List (List Int))) ((List ArcStep) × (List (List Int)))))) (fun (k14138 : Nat) (x14140 : Int) (s : (List ArcStep) × Bool × (List (List Int))) =>
           match s with
           | (s14086, s14092, s14093) =>
           bnd (ix s14093 x14140) fun z14149 =>
           bnd (slices_Clone_s_int64_int64 z14149) fun z14160 =>
           thn (σ := (List ArcStep) × Bool × (List (List Int))) (
            forL (σ := (List ArcStep) × Bool × (List (List Int))) (ρ := (Ctl ((List ArcStep) × Bool × (List (List Int))) (Ctl ((List ArcStep) × Bool × (List (List Int))) (Ctl ((List ArcStep) × Bool × (List (List Int))) ((List ArcStep) × (List (List Int))))))) (fun (k14511 : Nat) (x14513 : Int) (s : (List ArcStep) × Bool × (List (List Int))) =>
              match s with
              | (s14451, s14457, s14458) =>
              bnd (impl_hasSupport (Template.mk x0.size x0.rels) (Con.mk x13044.rel x13044.scope) s14458 (k14138 : Int) x14513) fun z14525 =>
              if z14525 then
               some (.go (s14451, s14457, s14458))
              else
               bnd (ix s14458 x14140) fun z14528 =>
               bnd (impl_without N z14528 x14513) fun z14539 =>
               bnd (ap s14451 ([(ArcStep.mk x14140 x14513 (k13042 : Int))])) fun z14607 =>
               bnd (impl_searcher_arcs_1 (s14458.set (x14140).toNat z14539)) fun z14623 =>
               if z14623 then
                some (.ret (.ret (.ret (.ret (z14607, (s14458.set (x14140).toNat z14539))))))
               else
                some (.go (z14607, true, (s14458.set (x14140).toNat z14539)))) z14160 0 (s14086, s14092, s14093)) fun (s14483, s14489, s14490) =>
           some (.go (s14483, s14489, s14490))) x13044.scope 0 (s12994, s13000, s13001)) fun (s14114, s14120, s14121) =>
        some (.go (s14114, s14120, s14121))) x1.cons 0 (s9751, false, s9758)) fun (s13018, s13024, s13025) =>
     some (.go (s13018, s13024, s13025))
    else
     some (.brk (s9751, s9757, s9758))) N ([], true, x2)) fun (s9775, s9781, s9782) =>
 some (s9775, s9782)
set_option maxHeartbeats 1000000 in
theorem impl_makeArcs_ends_c {N : Nat} {x0 : Template} {x1 : Instance} {x2 : List (List Int)} (r : (List ArcStep) × (List (List Int))) (hR : impl_makeArcs_ends N x0 x1 x2 = some r) {v0 : Value} {b0 : List Nat} {v1 : Value} {b1 : List Nat} {v2 : Value} {rb2 ib2 : List Nat} {c3_0 : Nat} (w0 : World) (A0 : Rd (Agg 2 RTemplate) w0 v0 x0 b0) (A1 : Rd (Agg 2 RInstance) w0 v1 x1 b1) (A2 : Row 1 (RSl 1 RInt) 46 0 w0 v2 x2 rb2 ib2) (KF3_0 : Blk w0 c3_0 #[v2] 72) (dA0 : Dj b0 rb2) (dA1 : Dj b1 rb2) (dFc3_0_P_2 : Dj (rb2 ++ ib2) [c3_0]) : Calls Tryz.prog 253 #[v0, v1, v2, .func (.func 251) #[] #[.pointer (some ⟨c3_0, 0, none⟩)]] w0 (GivesX rb2 (fun v w' => ∃ (v1' : Value) (rb2' : List Nat) (ib4' : List Nat), v = v1' ∧ Row 3 RArcStep 268 w0.heap.size w' v1' r.1 rb2' [] ∧ Dj (rb2' ++ []) rb2 ∧ Dj (rb2 ++ ib4') rb2' ∧ Row 1 (RSl 1 RInt) 46 0 w' v2 r.2 rb2 ib4' ∧ Frs ib2 w0.heap.size ib4') w0) := by
 unfold impl_makeArcs_ends at hR
 refine x_enter (L := [(0, v0), (1, v1), (2, v2), (3, .func (.func 251) #[] #[.pointer (some ⟨c3_0, 0, none⟩)])]) Tryz.func253 rfl rfl rfl (sc rfl (sc rfl (sc rfl (sc rfl sn)))) (fun a F => ?_)
 have hB := Only.refl rb2 w0
 have frA2 : Frs rb2 w0.heap.size rb2 := Frs.mem (fun c hc => by simp [hc])
 have fiA2 : Frs ib2 w0.heap.size ib2 := Frs.mem (fun c hc => hc)
 refine x_seq ?_
 refine x_reg ?_
 obtain ⟨v15, b16, e18, i14, h17, eb13⟩ := RTemplate.rd (A0.goO hB dA0)
 subst e18
 refine o_box F rfl rfl rfl (fun a w b11 K12 l BK12 F => ?_)
 have d19 := dj1 A2.memR BK12
 have nb20 := Dj.bb KF3_0 BK12
 have d21 := (dj1 h17.m BK12).symm
 have d22 := (dj1 A2.rd.m BK12).symm
 have CK12 := Nat.le_trans hB.size BK12
 have frK12 : Frs rb2 w0.heap.size _ := Frs.box hB.size BK12
 replace hB := hB.thru l
 replace A2 := A2.go l
 replace h17 := h17.go l
 replace KF3_0 := KF3_0.thru l
 obtain ⟨v27, b28, e30, i26, h29, eb25⟩ := RInstance.rd (A1.goO hB dA1)
 subst e30
 refine o_box F rfl rfl rfl (fun a w b23 K24 l BK24 F => ?_)
 have d31 := dj1 A2.memR BK24
 have nb32 := Dj.bb KF3_0 BK24
 have nb33 := Dj.bb K12 BK24
 have d34 := (dj1 h17.m BK24).symm
 have d35 := (dj1 h29.m BK24).symm
 have d36 := (dj1 A2.rd.m BK24).symm
 have CK24 := Nat.le_trans hB.size BK24
 have frK24 : Frs rb2 w0.heap.size _ := Frs.box hB.size BK24
 replace hB := hB.thru l
 replace A2 := A2.go l
 replace h17 := h17.go l
 replace h29 := h29.go l
 replace KF3_0 := KF3_0.thru l
 replace K12 := K12.thru l
 refine o_assign F rfl rfl (fun a F => ?_)
 refine x_end ?_
 refine x_tn ?_
 refine x_seq ?_
 refine x_reg ?_
 refine o_lit0 (R := RArcStep) Tryz.underlying265 Tryz.sizeOf268 F rfl (fun a w v37 rb38 h39 l F => ?_)
 have d41 := Dj.new h17.m h39.ownR (Nat.le_refl _)
 have d42 := Dj.new h29.m h39.ownR (Nat.le_refl _)
 have d43 := Dj.new A2.rd.m h39.ownR (Nat.le_refl _)
 have d44 := Dj.new (inm1 KF3_0) h39.ownR (Nat.le_refl _)
 have d45 := Dj.new (inm1 K12) h39.ownR (Nat.le_refl _)
 have d46 := Dj.new (inm1 K24) h39.ownR (Nat.le_refl _)
 have d47 := Dj.app' (Dj.new A2.memR h39.ownR (Nat.le_refl _)).symm (Dj.nil' _)
 have d48 := Dj.app' (Dj.new A2.mem h39.ownR (Nat.le_refl _)).symm (Dj.nil' _)
 have fr49 : Frs [] w0.heap.size _ := Frs.new hB.size h39.lo
 replace h39 := h39.base (Nat.zero_le _)
 replace hB := hB.thru l
 replace A2 := A2.go l
 replace h17 := h17.go l
 replace h29 := h29.go l
 replace KF3_0 := KF3_0.thru l
 replace K12 := K12.thru l
 replace K24 := K24.thru l
 refine o_assign F rfl rfl (fun a F => ?_)
 refine x_end ?_
 refine x_tn ?_
 refine x_seq ?_
 refine x_seq ?_
 refine x_reg ?_
 refine o_assign F rfl rfl (fun a F => ?_)
 refine x_end ?_
 refine x_tn ?_
 obtain ⟨o9745, hR, hk9746⟩ := thn_some hR
 refine x_cutQ (fun a w => ∃ (s9775 : List ArcStep) (v9778 : Value) (rb9779 : List Nat) (s9781 : Bool) (s9782 : List (List Int)) (ib9785 : List Nat), o9745 = .nx (s9775, s9781, s9782) ∧ Sk a 74 [(2, v2), (9, v9778)] ∧ Only rb2 w0 w ∧ Row 3 RArcStep 268 0 w v9778 s9775 rb9779 ([]) ∧ Frs ([]) w0.heap.size rb9779 ∧ Row 1 (RSl 1 RInt) 46 0 w v2 s9782 rb2 ib9785 ∧ Frs ib2 w0.heap.size ib9785 ∧ Dj (rb2 ++ ib9785) rb9779 ∧ Dj (rb9779 ++ []) rb2) ?_ ?_
 ·
  refine x_blk ?_
  obtain ⟨fl9749, hf9750, hR⟩ := whl_gen hR
  refine x_loop (fun g a w => ∃ (s9751 : List ArcStep) (v9754 : Value) (rb9755 : List Nat) (s9757 : Bool) (s9758 : List (List Int)) (ib9761 : List Nat), whl fl9749 g (s9751, s9757, s9758) = some o9745 ∧ Sk a 74 [(2, v2), (3, .func (.func 251) #[] #[.pointer (some ⟨c3_0, 0, none⟩)]), (4, .pointer (some ⟨b11, 0, none⟩)), (5, .pointer (some ⟨b23, 0, none⟩)), (9, v9754), (10, .bool s9757)] ∧ Only rb2 w0 w ∧ Row 3 RArcStep 268 0 w v9754 s9751 rb9755 ([]) ∧ Frs ([]) w0.heap.size rb9755 ∧ Row 1 (RSl 1 RInt) 46 0 w v2 s9758 rb2 ib9761 ∧ Frs ib2 w0.heap.size ib9761 ∧ Rd (Sl 2 RRel) w v15 x0.rels b16 ∧ Rd (Sl 2 RCon) w v27 x1.cons b28 ∧ Blk w c3_0 #[v2] 72 ∧ Blk w b11 #[.int .i64 x0.size, v15] 33 ∧ Blk w b23 #[.int .i64 x1.vars, v27] 51 ∧ Dj b16 rb9755 ∧ Dj b28 rb9755 ∧ Dj (rb9755 ++ []) [c3_0] ∧ Dj (rb9755 ++ []) [b11] ∧ Dj (rb9755 ++ []) [b23] ∧ Dj (rb2 ++ ib9761) rb9755 ∧ Dj b16 rb2 ∧ Dj b28 rb2 ∧ Dj (rb2 ++ ib9761) [c3_0] ∧ Dj (rb2 ++ ib9761) [b11] ∧ Dj (rb2 ++ ib9761) [b23] ∧ Dj (rb9755 ++ []) rb2) N ?_ ?_
  ·
   exact ⟨[], v37, rb38, true, x2, ib2, hR, F.sub (sc rfl (sc rfl (sc rfl (sc rfl (sc rfl (sc rfl sn)))))), hB, h39, fr49, A2, fiA2, h17, h29, KF3_0, K12, K24, d41, d42, (Dj.app' (Dj.symm d44) (Dj.nil' _)), (Dj.app' (Dj.symm d45) (Dj.nil' _)), (Dj.app' (Dj.symm d46) (Dj.nil' _)), d43, (Dj.sub (Dj.frs A0.m dA0 frA2) (fun c hc => by rw [eb13]; simp [hc])), (Dj.sub (Dj.frs A1.m dA1 frA2) (fun c hc => by rw [eb25]; simp [hc])), dFc3_0_P_2, d22, d36, d47⟩
  ·
   intro g9792 a w ⟨s9751, v9754, rb9755, s9757, s9758, ib9761, hR, F, hB, h9753, fr9756, h9760, fi9762, h17, h29, KF3_0, K12, K24, d9763, d9764, d9765, d9766, d9767, d9768, d9769, d9770, d9771, d9772, d9773, d9774⟩
   obtain ⟨ck9789, rest9790, hg9794, hR, hn9748⟩ := whl_round hR
   rw [hf9750] at hR
   refine x_seq ?_
   refine x_seq ?_
   refine x_reg ?_
   refine o_move F rfl rfl (fun a F => ?_)
   refine x_end ?_
   refine x_tn ?_
   refine x_if F rfl (fun hb9795 => ?_) (fun hb9795 => ?_)
   ·
    replace hR := ifT hb9795 hR
    refine x_skip ?_
    refine x_tn ?_
    refine x_blk ?_
    refine x_seq ?_
    refine x_reg ?_
    refine o_assign F rfl rfl (fun a F => ?_)
    refine x_end ?_
    refine x_tn ?_
    refine x_seq ?_
    refine x_reg ?_
    refine o_bfield fa51_1 F rfl rfl rfl (fun a F => ?_)
    refine o_bload Tryz.isAgg49 F rfl rfl K24 rfl (fun a F => ?_)
    refine o_len Tryz.underlying49 F rfl rfl h29 (fun a F => ?_)
    have i9796 := (h29).r.len64
    refine o_move F rfl rfl (fun a F => ?_)
    refine x_end ?_
    refine x_tn ?_
    obtain ⟨o12988, hR, hk12989⟩ := thn_some hR
    refine x_cutQ (fun a w => ∃ (s13018 : List ArcStep) (v13021 : Value) (rb13022 : List Nat) (s13024 : Bool) (s13025 : List (List Int)) (ib13028 : List Nat), o12988 = .nx (s13018, s13024, s13025) ∧ Sk a 74 [(2, v2), (3, .func (.func 251) #[] #[.pointer (some ⟨c3_0, 0, none⟩)]), (4, .pointer (some ⟨b11, 0, none⟩)), (5, .pointer (some ⟨b23, 0, none⟩)), (9, v13021), (10, .bool s13024)] ∧ Only rb2 w0 w ∧ Row 3 RArcStep 268 0 w v13021 s13018 rb13022 ([]) ∧ Frs ([]) w0.heap.size rb13022 ∧ Row 1 (RSl 1 RInt) 46 0 w v2 s13025 rb2 ib13028 ∧ Frs ib2 w0.heap.size ib13028 ∧ Rd (Sl 2 RRel) w v15 x0.rels b16 ∧ Rd (Sl 2 RCon) w v27 x1.cons b28 ∧ Blk w c3_0 #[v2] 72 ∧ Blk w b11 #[.int .i64 x0.size, v15] 33 ∧ Blk w b23 #[.int .i64 x1.vars, v27] 51 ∧ Dj b16 rb13022 ∧ Dj b28 rb13022 ∧ Dj (rb13022 ++ []) [c3_0] ∧ Dj (rb13022 ++ []) [b11] ∧ Dj (rb13022 ++ []) [b23] ∧ Dj (rb2 ++ ib13028) rb13022 ∧ Dj b16 rb2 ∧ Dj b28 rb2 ∧ Dj (rb2 ++ ib13028) [c3_0] ∧ Dj (rb2 ++ ib13028) [b11] ∧ Dj (rb2 ++ ib13028) [b23] ∧ Dj (rb13022 ++ []) rb2) ?_ ?_
    ·
     refine x_blk ?_
     obtain ⟨fl12992, hf12993, hR⟩ := forL_gen hR
     refine x_loop (fun g a w => ∃ (k13042 : Nat) (rest13043 : List Con) (s12994 : List ArcStep) (v12997 : Value) (rb12998 : List Nat) (s13000 : Bool) (s13001 : List (List Int)) (ib13004 : List Nat), (k13042 ≤ x1.cons.length ∧ x1.cons.drop k13042 = rest13043) ∧ rest13043.length = g ∧ forL fl12992 rest13043 k13042 (s12994, s13000, s13001) = some o12988 ∧ Sk a 74 [(22, .int .i64 (k13042 : Int)), (2, v2), (3, .func (.func 251) #[] #[.pointer (some ⟨c3_0, 0, none⟩)]), (4, .pointer (some ⟨b11, 0, none⟩)), (5, .pointer (some ⟨b23, 0, none⟩)), (9, v12997), (10, .bool s13000), (20, v27), (21, .int .i64 (x1.cons.length : Int))] ∧ Only rb2 w0 w ∧ Row 3 RArcStep 268 0 w v12997 s12994 rb12998 ([]) ∧ Frs ([]) w0.heap.size rb12998 ∧ Row 1 (RSl 1 RInt) 46 0 w v2 s13001 rb2 ib13004 ∧ Frs ib2 w0.heap.size ib13004 ∧ Rd (Sl 2 RRel) w v15 x0.rels b16 ∧ Rd (Sl 2 RCon) w v27 x1.cons b28 ∧ Blk w c3_0 #[v2] 72 ∧ Blk w b11 #[.int .i64 x0.size, v15] 33 ∧ Blk w b23 #[.int .i64 x1.vars, v27] 51 ∧ Dj b16 rb12998 ∧ Dj b28 rb12998 ∧ Dj (rb12998 ++ []) [c3_0] ∧ Dj (rb12998 ++ []) [b11] ∧ Dj (rb12998 ++ []) [b23] ∧ Dj (rb2 ++ ib13004) rb12998 ∧ Dj b16 rb2 ∧ Dj b28 rb2 ∧ Dj (rb2 ++ ib13004) [c3_0] ∧ Dj (rb2 ++ ib13004) [b11] ∧ Dj (rb2 ++ ib13004) [b23] ∧ Dj (rb12998 ++ []) rb2) x1.cons.length ?_ ?_
     ·
      exact ⟨0, x1.cons, s9751, v9754, rb9755, false, s9758, ib9761, ⟨Nat.zero_le _, rfl⟩, rfl, hR, F.sub (sc rfl (sc rfl (sc rfl (sc rfl (sc rfl (sc rfl (sc rfl (sc rfl (sc rfl sn))))))))), hB, h9753, fr9756, h9760, fi9762, h17, h29, KF3_0, K12, K24, d9763, d9764, d9765, d9766, d9767, d9768, d9769, d9770, d9771, d9772, d9773, d9774⟩
     ·
      intro g13045 a w ⟨k13042, rest13043, s12994, v12997, rb12998, s13000, s13001, ib13004, hd13046, hg13047, hR, F, hB, h12996, fr12999, h13003, fi13005, h17, h29, KF3_0, K12, K24, d13006, d13007, d13008, d13009, d13010, d13011, d13012, d13013, d13014, d13015, d13016, d13017⟩
      cases rest13043 with
      | nil =>
       replace hR := forL_nil hR
       have hkk13042 := drop_nil hd13046.1 hd13046.2
       have hlk13042 := dec_no hkk13042
       refine x_seq ?_
       refine x_reg ?_
       refine o_lss F rfl rfl rfl (fun a F => ?_)
       refine x_end ?_
       refine x_tn ?_
       refine x_seq ?_
       refine x_ifF F rfl hlk13042 ?_
       refine x_exit ?_
       refine x_te ?_
       refine x_te ?_
       refine x_be ?_
       refine x_tn ?_
       exact ⟨s12994, v12997, rb12998, s13000, s13001, ib13004, (Option.some.inj hR).symm, F.sub (sc rfl (sc rfl (sc rfl (sc rfl (sc rfl (sc rfl sn)))))), hB, h12996, fr12999, h13003, fi13005, h17, h29, KF3_0, K12, K24, d13006, d13007, d13008, d13009, d13010, d13011, d13012, d13013, d13014, d13015, d13016, d13017⟩
      | cons x13044 rest13043 =>
       subst hg13047
       replace hd13046 := drop_cons hd13046.2
       have hxk13042 := ix_nat hd13046.2.1
       obtain ⟨ck13042, hR, hn12991⟩ := forL_cons hR
       rw [hf12993] at hR
       have hlk13042 := dec_yes hd13046.1
       refine x_seq ?_
       refine x_reg ?_
       refine o_lss F rfl rfl rfl (fun a F => ?_)
       refine x_end ?_
       refine x_tn ?_
       refine x_seq ?_
       refine x_ifT F rfl hlk13042 ?_
       refine x_skip ?_
       refine x_tn ?_
       refine x_seq ?_
       have ikk13042 := k64 (Nat.le_of_lt hd13046.1) i9796
       have ink13042 := inc64 hd13046.1 i9796
       refine x_blk ?_
       refine x_seq ?_
       refine x_reg ?_
       refine o_move F rfl rfl (fun a F => ?_)
       refine o_index Tryz.underlying49 Tryz.sizeOf194 F rfl rfl rfl h29 hxk13042 (fun a p13048 b13049 h13050 s13051 F => ?_)
       refine o_loadA Tryz.isAgg194 Tryz.sizeOf194 F rfl rfl h13050 (fun a v13052 b13053 h13054 s13055 F => ?_)
       refine o_alloc Tryz.zeroValue194 F rfl rfl (fun a w b13056 K13057 l BK13057 F => ?_)
       have d13058 := dj1 h12996.memR BK13057
       have d13059 := dj1 h13003.memR BK13057
       have nb13060 := Dj.bb KF3_0 BK13057
       have nb13061 := Dj.bb K12 BK13057
       have nb13062 := Dj.bb K24 BK13057
       have d13063 := (dj1 h17.m BK13057).symm
       have d13064 := (dj1 h29.m BK13057).symm
       have d13065 := (dj1 h13050.m BK13057).symm
       have d13066 := (dj1 h13054.m BK13057).symm
       have d13067 := (dj1 h12996.rd.m BK13057).symm
       have d13068 := (dj1 h13003.rd.m BK13057).symm
       have CK13057 := Nat.le_trans hB.size BK13057
       have frK13057 : Frs rb2 w0.heap.size _ := Frs.box hB.size BK13057
       replace hB := hB.thru l
       replace h17 := h17.go l
       replace h29 := h29.go l
       replace h12996 := h12996.go l
       replace h13003 := h13003.go l
       replace h13054 := h13054.go l
       replace KF3_0 := KF3_0.thru l
       replace K12 := K12.thru l
       replace K24 := K24.thru l
       refine o_assign F rfl rfl (fun a F => ?_)
       obtain ⟨v13071, b13072, e13074, i13070, h13073, eb13069⟩ := RCon.rd h13054
       subst e13074
       refine o_bstoreA (vs := [.int .i64 x13044.rel, v13071]) Tryz.sizeOf194 F rfl rfl rfl K13057 (oc rfl (oc (h13073).r.one on)) (Nat.le_of_ble_eq_true rfl) rfl (fun w K13057 l => ?_)
       replace hB := hB.oo l frK13057
       replace h17 := h17.goO l d13063
       replace h29 := h29.goO l d13064
       replace h12996 := h12996.goO l d13067
       replace h13003 := h13003.goO l d13068
       replace h13073 := h13073.goO l (Dj.sub d13066 (fun c hc => by rw [eb13069]; simp [hc]))
       replace KF3_0 := KF3_0.only l (by simpa using nb13060)
       replace K12 := K12.only l (by simpa using nb13061)
       replace K24 := K24.only l (by simpa using nb13062)
       refine x_end ?_
       refine x_tn ?_
       refine x_seq ?_
       refine x_reg ?_
       refine o_bfield fa194_1 F rfl rfl rfl (fun a F => ?_)
       refine o_bload Tryz.isAgg46 F rfl rfl K13057 rfl (fun a F => ?_)
       refine o_len Tryz.underlying46 F rfl rfl h13073 (fun a F => ?_)
       have i13075 := (h13073).r.len64
       refine o_move F rfl rfl (fun a F => ?_)
       refine x_end ?_
       refine x_tn ?_
       obtain ⟨o14080, hR, hk14081⟩ := thn_some hR
       refine x_cutQ (fun a w => ∃ (s14114 : List ArcStep) (v14117 : Value) (rb14118 : List Nat) (s14120 : Bool) (s14121 : List (List Int)) (ib14124 : List Nat), o14080 = .nx (s14114, s14120, s14121) ∧ Sk a 74 [(2, v2), (3, .func (.func 251) #[] #[.pointer (some ⟨c3_0, 0, none⟩)]), (4, .pointer (some ⟨b11, 0, none⟩)), (5, .pointer (some ⟨b23, 0, none⟩)), (9, v14117), (10, .bool s14120), (20, v27), (21, .int .i64 (x1.cons.length : Int)), (22, .int .i64 (k13042 : Int))] ∧ Only rb2 w0 w ∧ Row 3 RArcStep 268 0 w v14117 s14114 rb14118 ([]) ∧ Frs ([]) w0.heap.size rb14118 ∧ Row 1 (RSl 1 RInt) 46 0 w v2 s14121 rb2 ib14124 ∧ Frs ib2 w0.heap.size ib14124 ∧ Rd (Sl 2 RRel) w v15 x0.rels b16 ∧ Rd (Sl 2 RCon) w v27 x1.cons b28 ∧ Blk w c3_0 #[v2] 72 ∧ Blk w b11 #[.int .i64 x0.size, v15] 33 ∧ Blk w b23 #[.int .i64 x1.vars, v27] 51 ∧ Dj b16 rb14118 ∧ Dj b28 rb14118 ∧ Dj (rb14118 ++ []) [c3_0] ∧ Dj (rb14118 ++ []) [b11] ∧ Dj (rb14118 ++ []) [b23] ∧ Dj (rb2 ++ ib14124) rb14118 ∧ Dj b16 rb2 ∧ Dj b28 rb2 ∧ Dj (rb2 ++ ib14124) [c3_0] ∧ Dj (rb2 ++ ib14124) [b11] ∧ Dj (rb2 ++ ib14124) [b23] ∧ Dj (rb14118 ++ []) rb2) ?_ ?_
       ·
        refine x_blk ?_
        obtain ⟨fl14084, hf14085, hR⟩ := forL_gen hR
        refine x_loop (fun g a w => ∃ (k14138 : Nat) (rest14139 : List Int) (s14086 : List ArcStep) (v14089 : Value) (rb14090 : List Nat) (s14092 : Bool) (s14093 : List (List Int)) (ib14096 : List Nat), (k14138 ≤ x13044.scope.length ∧ x13044.scope.drop k14138 = rest14139) ∧ rest14139.length = g ∧ forL fl14084 rest14139 k14138 (s14086, s14092, s14093) = some o14080 ∧ Sk a 74 [(30, .int .i64 (k14138 : Int)), (2, v2), (3, .func (.func 251) #[] #[.pointer (some ⟨c3_0, 0, none⟩)]), (4, .pointer (some ⟨b11, 0, none⟩)), (5, .pointer (some ⟨b23, 0, none⟩)), (9, v14089), (10, .bool s14092), (11, .int .i64 (k13042 : Int)), (12, .pointer (some ⟨b13056, 0, none⟩)), (20, v27), (21, .int .i64 (x1.cons.length : Int)), (22, .int .i64 (k13042 : Int)), (28, v13071), (29, .int .i64 (x13044.scope.length : Int))] ∧ Only rb2 w0 w ∧ Row 3 RArcStep 268 0 w v14089 s14086 rb14090 ([]) ∧ Frs ([]) w0.heap.size rb14090 ∧ Row 1 (RSl 1 RInt) 46 0 w v2 s14093 rb2 ib14096 ∧ Frs ib2 w0.heap.size ib14096 ∧ Rd (Sl 2 RRel) w v15 x0.rels b16 ∧ Rd (Sl 2 RCon) w v27 x1.cons b28 ∧ Rd (Sl 1 RInt) w v13071 x13044.scope b13072 ∧ Blk w c3_0 #[v2] 72 ∧ Blk w b11 #[.int .i64 x0.size, v15] 33 ∧ Blk w b23 #[.int .i64 x1.vars, v27] 51 ∧ Blk w b13056 #[.int .i64 x13044.rel, v13071] 194 ∧ Dj b16 rb14090 ∧ Dj b28 rb14090 ∧ Dj b13072 rb14090 ∧ Dj (rb14090 ++ []) [c3_0] ∧ Dj (rb14090 ++ []) [b11] ∧ Dj (rb14090 ++ []) [b23] ∧ Dj (rb14090 ++ []) [b13056] ∧ Dj (rb2 ++ ib14096) rb14090 ∧ Dj b16 rb2 ∧ Dj b28 rb2 ∧ Dj b13072 rb2 ∧ Dj (rb2 ++ ib14096) [c3_0] ∧ Dj (rb2 ++ ib14096) [b11] ∧ Dj (rb2 ++ ib14096) [b23] ∧ Dj (rb2 ++ ib14096) [b13056] ∧ Dj (rb14090 ++ []) rb2) x13044.scope.length ?_ ?_
        ·
         exact ⟨0, x13044.scope, s12994, v12997, rb12998, s13000, s13001, ib13004, ⟨Nat.zero_le _, rfl⟩, rfl, hR, F.sub (sc rfl (sc rfl (sc rfl (sc rfl (sc rfl (sc rfl (sc rfl (sc rfl (sc rfl (sc rfl (sc rfl (sc rfl (sc rfl (sc rfl sn)))))))))))))), hB, h12996, fr12999, h13003, fi13005, h17, h29, h13073, KF3_0, K12, K24, K13057, d13006, d13007, (Dj.sub (Dj.sub (Dj.sub d13007 s13051) s13055) (fun c hc => by rw [eb13069]; simp [hc])), d13008, d13009, d13010, d13067, d13011, d13012, d13013, (Dj.sub (Dj.sub (Dj.sub d13013 s13051) s13055) (fun c hc => by rw [eb13069]; simp [hc])), d13014, d13015, d13016, d13068, d13017⟩
        ·
         intro g14141 a w ⟨k14138, rest14139, s14086, v14089, rb14090, s14092, s14093, ib14096, hd14142, hg14143, hR, F, hB, h14088, fr14091, h14095, fi14097, h17, h29, h13073, KF3_0, K12, K24, K13057, d14098, d14099, d14100, d14101, d14102, d14103, d14104, d14105, d14106, d14107, d14108, d14109, d14110, d14111, d14112, d14113⟩
         cases rest14139 with
         | nil =>
          replace hR := forL_nil hR
          have hkk14138 := drop_nil hd14142.1 hd14142.2
          have hlk14138 := dec_no hkk14138
          refine x_seq ?_
          refine x_reg ?_
          refine o_lss F rfl rfl rfl (fun a F => ?_)
          refine x_end ?_
          refine x_tn ?_
          refine x_seq ?_
          refine x_ifF F rfl hlk14138 ?_
          refine x_exit ?_
          refine x_te ?_
          refine x_te ?_
          refine x_be ?_
          refine x_tn ?_
          exact ⟨s14086, v14089, rb14090, s14092, s14093, ib14096, (Option.some.inj hR).symm, F.sub (sc rfl (sc rfl (sc rfl (sc rfl (sc rfl (sc rfl (sc rfl (sc rfl (sc rfl sn))))))))), hB, h14088, fr14091, h14095, fi14097, h17, h29, KF3_0, K12, K24, d14098, d14099, d14101, d14102, d14103, d14105, d14106, d14107, d14109, d14110, d14111, d14113⟩
         | cons x14140 rest14139 =>
          subst hg14143
          replace hd14142 := drop_cons hd14142.2
          have hxk14138 := ix_nat hd14142.2.1
          obtain ⟨ck14138, hR, hn14083⟩ := forL_cons hR
          rw [hf14085] at hR
          have hlk14138 := dec_yes hd14142.1
          refine x_seq ?_
          refine x_reg ?_
          refine o_lss F rfl rfl rfl (fun a F => ?_)
          refine x_end ?_
          refine x_tn ?_
          refine x_seq ?_
          refine x_ifT F rfl hlk14138 ?_
          refine x_skip ?_
          refine x_tn ?_
          refine x_seq ?_
          have ikk14138 := k64 (Nat.le_of_lt hd14142.1) i13075
          have ink14138 := inc64 hd14142.1 i13075
          refine x_blk ?_
          refine x_seq ?_
          refine x_reg ?_
          refine o_move F rfl rfl (fun a F => ?_)
          refine o_index Tryz.underlying46 Tryz.sizeOf2 F rfl rfl rfl h13073 hxk14138 (fun a p14144 b14145 h14146 s14147 F => ?_)
          have i14148 := (h14146).i64
          refine o_loadI Tryz.isAgg2 F rfl rfl h14146 (fun a F => ?_)
          refine o_assign F rfl rfl (fun a F => ?_)
          refine o_assign F rfl rfl (fun a F => ?_)
          refine x_end ?_
          refine x_tn ?_
          refine x_seq ?_
          refine x_reg ?_
          refine o_move F rfl rfl (fun a F => ?_)
          refine o_move F rfl rfl (fun a F => ?_)
          obtain ⟨z14149, c14150, hR⟩ := bnd_some hR
          refine o_rindex Tryz.underlying72 Tryz.sizeOf46 F rfl rfl rfl h14095 c14150 (fun a p14151 b14152 h14153 s14154 rp14155 F => ?_)
          refine o_loadS Tryz.isAgg46 F rfl rfl h14153 (fun a v14156 b14157 h14158 s14159 F => ?_)
          obtain ⟨z14160, c14161, hR⟩ := bnd_some hR
          refine o_gives F rfl Tryz.call103 rfl (slices_Clone_s_int64_int64_c z14160 c14161 _ h14158) (fun a vv w l ⟨v14162, rb14163, hv14166, h14165⟩ F => ?_)
          subst vv
          have d14168 := Dj.new h17.m h14165.ownR (Nat.le_refl _)
          have d14169 := Dj.new h29.m h14165.ownR (Nat.le_refl _)
          have d14170 := Dj.new h13073.m h14165.ownR (Nat.le_refl _)
          have d14171 := Dj.new h14088.rd.m h14165.ownR (Nat.le_refl _)
          have d14172 := Dj.new h14095.rd.m h14165.ownR (Nat.le_refl _)
          have d14173 := Dj.new (inm1 KF3_0) h14165.ownR (Nat.le_refl _)
          have d14174 := Dj.new (inm1 K12) h14165.ownR (Nat.le_refl _)
          have d14175 := Dj.new (inm1 K24) h14165.ownR (Nat.le_refl _)
          have d14176 := Dj.new (inm1 K13057) h14165.ownR (Nat.le_refl _)
          have d14177 := Dj.app' (Dj.new h14088.memR h14165.ownR (Nat.le_refl _)).symm (Dj.nil' _)
          have d14178 := Dj.app' (Dj.new h14095.memR h14165.ownR (Nat.le_refl _)).symm (Dj.nil' _)
          have d14179 := Dj.app' (Dj.new h14095.mem h14165.ownR (Nat.le_refl _)).symm (Dj.nil' _)
          have fr14180 : Frs [] w0.heap.size _ := Frs.new hB.size h14165.lo
          replace h14165 := h14165.base (Nat.zero_le _)
          replace hB := hB.thru l
          replace h17 := h17.go l
          replace h29 := h29.go l
          replace h13073 := h13073.go l
          replace h14088 := h14088.go l
          replace h14095 := h14095.go l
          replace KF3_0 := KF3_0.thru l
          replace K12 := K12.thru l
          replace K24 := K24.thru l
          replace K13057 := K13057.thru l
          refine o_len Tryz.underlying46 F rfl rfl h14165.rd (fun a F => ?_)
          have i14181 := (h14165.rd).r.len64
          refine o_move F rfl rfl (fun a F => ?_)
          refine x_end ?_
          refine x_tn ?_
          obtain ⟨o14445, hR, hk14446⟩ := thn_some hR
          refine x_cutQ (fun a w => ∃ (s14483 : List ArcStep) (v14486 : Value) (rb14487 : List Nat) (s14489 : Bool) (s14490 : List (List Int)) (ib14493 : List Nat), o14445 = .nx (s14483, s14489, s14490) ∧ Sk a 74 [(2, v2), (3, .func (.func 251) #[] #[.pointer (some ⟨c3_0, 0, none⟩)]), (4, .pointer (some ⟨b11, 0, none⟩)), (5, .pointer (some ⟨b23, 0, none⟩)), (9, v14486), (10, .bool s14489), (11, .int .i64 (k13042 : Int)), (12, .pointer (some ⟨b13056, 0, none⟩)), (20, v27), (21, .int .i64 (x1.cons.length : Int)), (22, .int .i64 (k13042 : Int)), (28, v13071), (29, .int .i64 (x13044.scope.length : Int)), (30, .int .i64 (k14138 : Int))] ∧ Only rb2 w0 w ∧ Row 3 RArcStep 268 0 w v14486 s14483 rb14487 ([]) ∧ Frs ([]) w0.heap.size rb14487 ∧ Row 1 (RSl 1 RInt) 46 0 w v2 s14490 rb2 ib14493 ∧ Frs ib2 w0.heap.size ib14493 ∧ Rd (Sl 2 RRel) w v15 x0.rels b16 ∧ Rd (Sl 2 RCon) w v27 x1.cons b28 ∧ Rd (Sl 1 RInt) w v13071 x13044.scope b13072 ∧ Blk w c3_0 #[v2] 72 ∧ Blk w b11 #[.int .i64 x0.size, v15] 33 ∧ Blk w b23 #[.int .i64 x1.vars, v27] 51 ∧ Blk w b13056 #[.int .i64 x13044.rel, v13071] 194 ∧ Dj b16 rb14487 ∧ Dj b28 rb14487 ∧ Dj b13072 rb14487 ∧ Dj (rb14487 ++ []) [c3_0] ∧ Dj (rb14487 ++ []) [b11] ∧ Dj (rb14487 ++ []) [b23] ∧ Dj (rb14487 ++ []) [b13056] ∧ Dj (rb2 ++ ib14493) rb14487 ∧ Dj b16 rb2 ∧ Dj b28 rb2 ∧ Dj b13072 rb2 ∧ Dj (rb2 ++ ib14493) [c3_0] ∧ Dj (rb2 ++ ib14493) [b11] ∧ Dj (rb2 ++ ib14493) [b23] ∧ Dj (rb2 ++ ib14493) [b13056] ∧ Dj (rb14487 ++ []) rb2) ?_ ?_
          ·
           refine x_blk ?_
           obtain ⟨fl14449, hf14450, hR⟩ := forL_gen hR
           refine x_loop (fun g a w => ∃ (k14511 : Nat) (rest14512 : List Int) (s14451 : List ArcStep) (v14454 : Value) (rb14455 : List Nat) (s14457 : Bool) (s14458 : List (List Int)) (ib14461 : List Nat), (k14511 ≤ z14160.length ∧ z14160.drop k14511 = rest14512) ∧ rest14512.length = g ∧ forL fl14449 rest14512 k14511 (s14451, s14457, s14458) = some o14445 ∧ Sk a 74 [(41, .int .i64 (k14511 : Int)), (2, v2), (3, .func (.func 251) #[] #[.pointer (some ⟨c3_0, 0, none⟩)]), (4, .pointer (some ⟨b11, 0, none⟩)), (5, .pointer (some ⟨b23, 0, none⟩)), (9, v14454), (10, .bool s14457), (11, .int .i64 (k13042 : Int)), (12, .pointer (some ⟨b13056, 0, none⟩)), (13, .int .i64 (k14138 : Int)), (14, .int .i64 x14140), (20, v27), (21, .int .i64 (x1.cons.length : Int)), (22, .int .i64 (k13042 : Int)), (28, v13071), (29, .int .i64 (x13044.scope.length : Int)), (30, .int .i64 (k14138 : Int)), (39, v14162), (40, .int .i64 (z14160.length : Int))] ∧ Only rb2 w0 w ∧ Row 3 RArcStep 268 0 w v14454 s14451 rb14455 ([]) ∧ Frs ([]) w0.heap.size rb14455 ∧ Row 1 (RSl 1 RInt) 46 0 w v2 s14458 rb2 ib14461 ∧ Frs ib2 w0.heap.size ib14461 ∧ Rd (Sl 2 RRel) w v15 x0.rels b16 ∧ Rd (Sl 2 RCon) w v27 x1.cons b28 ∧ Rd (Sl 1 RInt) w v13071 x13044.scope b13072 ∧ Row 1 RInt 2 0 w v14162 z14160 rb14163 ([]) ∧ Blk w c3_0 #[v2] 72 ∧ Blk w b11 #[.int .i64 x0.size, v15] 33 ∧ Blk w b23 #[.int .i64 x1.vars, v27] 51 ∧ Blk w b13056 #[.int .i64 x13044.rel, v13071] 194 ∧ Dj b16 rb14455 ∧ Dj b28 rb14455 ∧ Dj b13072 rb14455 ∧ Dj (rb14455 ++ []) [c3_0] ∧ Dj (rb14455 ++ []) [b11] ∧ Dj (rb14455 ++ []) [b23] ∧ Dj (rb14455 ++ []) [b13056] ∧ Dj (rb14163 ++ []) rb14455 ∧ Dj (rb14455 ++ []) rb14163 ∧ Dj (rb2 ++ ib14461) rb14455 ∧ Dj b16 rb2 ∧ Dj b28 rb2 ∧ Dj b13072 rb2 ∧ Dj (rb2 ++ ib14461) [c3_0] ∧ Dj (rb2 ++ ib14461) [b11] ∧ Dj (rb2 ++ ib14461) [b23] ∧ Dj (rb2 ++ ib14461) [b13056] ∧ Dj (rb14163 ++ []) rb2 ∧ Dj (rb2 ++ ib14461) rb14163 ∧ Dj (rb14455 ++ []) rb2) z14160.length ?_ ?_
           ·
            exact ⟨0, z14160, s14086, v14089, rb14090, s14092, s14093, ib14096, ⟨Nat.zero_le _, rfl⟩, rfl, hR, F.sub (sc rfl (sc rfl (sc rfl (sc rfl (sc rfl (sc rfl (sc rfl (sc rfl (sc rfl (sc rfl (sc rfl (sc rfl (sc rfl (sc rfl (sc rfl (sc rfl (sc rfl (sc rfl (sc rfl sn))))))))))))))))))), hB, h14088, fr14091, h14095, fi14097, h17, h29, h13073, h14165, KF3_0, K12, K24, K13057, d14098, d14099, d14100, d14101, d14102, d14103, d14104, d14177, d14171, d14105, d14106, d14107, d14108, d14109, d14110, d14111, d14112, d14178, d14172, d14113⟩
           ·
            intro g14514 a w ⟨k14511, rest14512, s14451, v14454, rb14455, s14457, s14458, ib14461, hd14515, hg14516, hR, F, hB, h14453, fr14456, h14460, fi14462, h17, h29, h13073, h14165, KF3_0, K12, K24, K13057, d14463, d14464, d14465, d14466, d14467, d14468, d14469, d14470, d14471, d14472, d14473, d14474, d14475, d14476, d14477, d14478, d14479, d14480, d14481, d14482⟩
            cases rest14512 with
            | nil =>
             replace hR := forL_nil hR
             have hkk14511 := drop_nil hd14515.1 hd14515.2
             have hlk14511 := dec_no hkk14511
             refine x_seq ?_
             refine x_reg ?_
             refine o_lss F rfl rfl rfl (fun a F => ?_)
             refine x_end ?_
             refine x_tn ?_
             refine x_seq ?_
             refine x_ifF F rfl hlk14511 ?_
             refine x_exit ?_
             refine x_te ?_
             refine x_te ?_
             refine x_be ?_
             refine x_tn ?_
             exact ⟨s14451, v14454, rb14455, s14457, s14458, ib14461, (Option.some.inj hR).symm, F.sub (sc rfl (sc rfl (sc rfl (sc rfl (sc rfl (sc rfl (sc rfl (sc rfl (sc rfl (sc rfl (sc rfl (sc rfl (sc rfl (sc rfl sn)))))))))))))), hB, h14453, fr14456, h14460, fi14462, h17, h29, h13073, KF3_0, K12, K24, K13057, d14463, d14464, d14465, d14466, d14467, d14468, d14469, d14472, d14473, d14474, d14475, d14476, d14477, d14478, d14479, d14482⟩
            | cons x14513 rest14512 =>
             subst hg14516
             replace hd14515 := drop_cons hd14515.2
             have hxk14511 := ix_nat hd14515.2.1
             obtain ⟨ck14511, hR, hn14448⟩ := forL_cons hR
             rw [hf14450] at hR
             have hlk14511 := dec_yes hd14515.1
             refine x_seq ?_
             refine x_reg ?_
             refine o_lss F rfl rfl rfl (fun a F => ?_)
             refine x_end ?_
             refine x_tn ?_
             refine x_seq ?_
             refine x_ifT F rfl hlk14511 ?_
             refine x_skip ?_
             refine x_tn ?_
             refine x_seq ?_
             have ikk14511 := k64 (Nat.le_of_lt hd14515.1) i14181
             have ink14511 := inc64 hd14515.1 i14181
             refine x_blk ?_
             refine x_seq ?_
             refine x_reg ?_
             refine o_rindex Tryz.underlying46 Tryz.sizeOf2 F rfl rfl rfl h14165 hxk14511 (fun a p14517 b14518 h14519 s14520 rp14521 F => ?_)
             have i14522 := (h14519).i64
             refine o_loadI Tryz.isAgg2 F rfl rfl h14519 (fun a F => ?_)
             refine o_assign F rfl rfl (fun a F => ?_)
             refine x_end ?_
             refine x_tn ?_
             refine x_seq ?_
             refine x_seq ?_
             refine x_reg ?_
             refine o_bloadA (cs := [.int .i64 x0.size, v15]) Tryz.isAgg33 Tryz.sizeOf33 F rfl rfl K12 rfl (fun j hj => by match j, hj with | 0, _ => rfl | 1, _ => rfl) (fun a F => ?_)
             have h14523 := RTemplate.mk2 (w := w) i14 h17
             refine o_bloadA (cs := [.int .i64 x13044.rel, v13071]) Tryz.isAgg194 Tryz.sizeOf194 F rfl rfl K13057 rfl (fun j hj => by match j, hj with | 0, _ => rfl | 1, _ => rfl) (fun a F => ?_)
             have h14524 := RCon.mk2 (w := w) i13070 h13073
             refine o_move F rfl rfl (fun a F => ?_)
             refine o_move F rfl rfl (fun a F => ?_)
             refine o_move F rfl rfl (fun a F => ?_)
             obtain ⟨z14525, c14526, hR⟩ := bnd_some hR
             refine o_says F rfl Tryz.call260 rfl (impl_hasSupport_c z14525 c14526 _ h14523 h14524 h14460.rd ikk14138 i14522) (fun a w l F => ?_)
             replace hB := hB.thru l
             replace h17 := h17.go l
             replace h29 := h29.go l
             replace h13073 := h13073.go l
             replace h14165 := h14165.go l
             replace h14453 := h14453.go l
             replace h14460 := h14460.go l
             replace KF3_0 := KF3_0.thru l
             replace K12 := K12.thru l
             replace K24 := K24.thru l
             replace K13057 := K13057.thru l
             refine x_end ?_
             refine x_tn ?_
             refine x_if F rfl (fun hb14527 => ?_) (fun hb14527 => ?_)
             ·
              replace hR := ifT hb14527 hR
              refine x_exit ?_
              refine x_te ?_
              refine x_be ?_
              refine x_tn ?_
              refine x_reg ?_
              refine o_inc F rfl rfl rfl ink14511 (fun a F => ?_)
              refine o_move F rfl rfl (fun a F => ?_)
              refine x_end ?_
              refine x_tn ?_
              replace hR := l_go hR hn14448
              exact ⟨_, Nat.lt_succ_self _, k14511 + 1, rest14512, s14451, v14454, rb14455, s14457, s14458, ib14461, ⟨hd14515.1, hd14515.2.2⟩, rfl, hR, F.sub (sc rfl (sc rfl (sc rfl (sc rfl (sc rfl (sc rfl (sc rfl (sc rfl (sc rfl (sc rfl (sc rfl (sc rfl (sc rfl (sc rfl (sc rfl (sc rfl (sc rfl (sc rfl (sc rfl sn))))))))))))))))))), hB, h14453, fr14456, h14460, fi14462, h17, h29, h13073, h14165, KF3_0, K12, K24, K13057, d14463, d14464, d14465, d14466, d14467, d14468, d14469, d14470, d14471, d14472, d14473, d14474, d14475, d14476, d14477, d14478, d14479, d14480, d14481, d14482⟩
             ·
              replace hR := ifF hb14527 hR
              refine x_skip ?_
              refine x_tn ?_
              refine x_seq ?_
              refine x_reg ?_
              refine o_move F rfl rfl (fun a F => ?_)
              refine o_move F rfl rfl (fun a F => ?_)
              refine o_move F rfl rfl (fun a F => ?_)
              refine o_move F rfl rfl (fun a F => ?_)
              obtain ⟨z14528, c14529, hR⟩ := bnd_some hR
              refine o_rindex Tryz.underlying72 Tryz.sizeOf46 F rfl rfl rfl h14460 c14529 (fun a p14530 b14531 h14532 s14533 rp14534 F => ?_)
              refine o_loadS Tryz.isAgg46 F rfl rfl h14532 (fun a v14535 b14536 h14537 s14538 F => ?_)
              refine o_move F rfl rfl (fun a F => ?_)
              obtain ⟨z14539, c14540, hR⟩ := bnd_some hR
              refine o_gives F rfl Tryz.call114 rfl (impl_without_c z14539 c14540 _ h14537 i14522) (fun a vv w l ⟨v14541, rb14542, hv14545, h14544⟩ F => ?_)
              subst vv
              have d14547 := Dj.new h17.m h14544.ownR (Nat.le_refl _)
              have d14548 := Dj.new h29.m h14544.ownR (Nat.le_refl _)
              have d14549 := Dj.new h13073.m h14544.ownR (Nat.le_refl _)
              have d14550 := Dj.new h14165.rd.m h14544.ownR (Nat.le_refl _)
              have d14551 := Dj.new h14453.rd.m h14544.ownR (Nat.le_refl _)
              have d14552 := Dj.new h14460.rd.m h14544.ownR (Nat.le_refl _)
              have d14553 := Dj.new (inm1 KF3_0) h14544.ownR (Nat.le_refl _)
              have d14554 := Dj.new (inm1 K12) h14544.ownR (Nat.le_refl _)
              have d14555 := Dj.new (inm1 K24) h14544.ownR (Nat.le_refl _)
              have d14556 := Dj.new (inm1 K13057) h14544.ownR (Nat.le_refl _)
              have d14557 := Dj.app' (Dj.new h14165.memR h14544.ownR (Nat.le_refl _)).symm (Dj.nil' _)
              have d14558 := Dj.app' (Dj.new h14453.memR h14544.ownR (Nat.le_refl _)).symm (Dj.nil' _)
              have d14559 := Dj.app' (Dj.new h14460.memR h14544.ownR (Nat.le_refl _)).symm (Dj.nil' _)
              have d14560 := Dj.app' (Dj.new h14460.mem h14544.ownR (Nat.le_refl _)).symm (Dj.nil' _)
              have fr14561 : Frs [] w0.heap.size _ := Frs.new hB.size h14544.lo
              replace h14544 := h14544.base (Nat.zero_le _)
              replace hB := hB.thru l
              replace h17 := h17.go l
              replace h29 := h29.go l
              replace h13073 := h13073.go l
              replace h14165 := h14165.go l
              replace h14453 := h14453.go l
              replace h14460 := h14460.go l
              replace KF3_0 := KF3_0.thru l
              replace K12 := K12.thru l
              replace K24 := K24.thru l
              replace K13057 := K13057.thru l
              refine o_rindex Tryz.underlying72 Tryz.sizeOf46 F rfl rfl rfl h14460 c14529 (fun a p14562 b14563 h14564 s14565 rp14566 F => ?_)
              refine o_rstore Tryz.sizeOf46 F rfl rfl rfl h14460 rp14566 (ix_lt c14529) (El.sl h14544.rd) (h14544.rd).r.one (Dj.symm d14559) (fun w ib14568 h14567 l s14569 keep => ?_)
              have fi14571 : Frs ib2 w0.heap.size _ := Frs.stor fi14462 (Frs.app (Frs.up fr14561) (Frs.nil _ _)) s14569
              have d14572 := keep _ h17.m d14473
              have d14573 := keep _ h29.m d14474
              have d14574 := keep _ h13073.m d14475
              have d14575 := keep _ (inm1 KF3_0) (Dj.symm (Dj.l d14476))
              have d14576 := keep _ (inm1 K12) (Dj.symm (Dj.l d14477))
              have d14577 := keep _ (inm1 K24) (Dj.symm (Dj.l d14478))
              have d14578 := keep _ (inm1 K13057) (Dj.symm (Dj.l d14479))
              have d14579 := keep _ h14165.rd.m d14480
              have d14580 := keep _ h14453.rd.m d14482
              replace hB := hB.oo l frA2
              replace h17 := h17.goO l d14473
              replace h29 := h29.goO l d14474
              replace h13073 := h13073.goO l d14475
              replace h14165 := h14165.goO l d14480
              replace h14453 := h14453.goO l d14482
              replace KF3_0 := KF3_0.only l (Dj.symm (Dj.l d14476)).not
              replace K12 := K12.only l (Dj.symm (Dj.l d14477)).not
              replace K24 := K24.only l (Dj.symm (Dj.l d14478)).not
              replace K13057 := K13057.only l (Dj.symm (Dj.l d14479)).not
              have d14581 := Dj.stor d14481 d14557 s14569
              have d14582 := Dj.stor d14472 d14558 s14569
              have d14583 := Dj.stor d14476 (Dj.app' (Dj.symm d14553) (Dj.nil' _)) s14569
              have d14584 := Dj.stor d14477 (Dj.app' (Dj.symm d14554) (Dj.nil' _)) s14569
              have d14585 := Dj.stor d14478 (Dj.app' (Dj.symm d14555) (Dj.nil' _)) s14569
              have d14586 := Dj.stor d14479 (Dj.app' (Dj.symm d14556) (Dj.nil' _)) s14569
              refine x_end ?_
              refine x_tn ?_
              refine x_seq ?_
              refine x_reg ?_
              refine o_move F rfl rfl (fun a F => ?_)
              refine o_move F rfl rfl (fun a F => ?_)
              refine o_move F rfl rfl (fun a F => ?_)
              refine o_move F rfl rfl (fun a F => ?_)
              refine o_build Tryz.underlying268 Tryz.zeroValue268 (fun w => by simp [Tryz.sizeOf2]; rfl) F rfl rfl rfl rfl rfl (oc rfl (oc rfl (oc rfl on))) rfl rfl (fun a F => ?_)
              have h14587 := RArcStep.mk2 (w := w) i14148 i14522 ikk13042
              refine o_lit1 (R := RArcStep) (y := (ArcStep.mk x14140 x14513 (k13042 : Int))) Tryz.underlying265 Tryz.sizeOf268 Tryz.zeroValue268 rfl (by decide) (by decide) F rfl rfl (El.agg h14587) (fun a w v14588 rb14589 h14590 l F => ?_)
              have d14592 := Dj.new h17.m h14590.ownR (Nat.le_refl _)
              have d14593 := Dj.new h29.m h14590.ownR (Nat.le_refl _)
              have d14594 := Dj.new h13073.m h14590.ownR (Nat.le_refl _)
              have d14595 := Dj.new h14165.rd.m h14590.ownR (Nat.le_refl _)
              have d14596 := Dj.new h14453.rd.m h14590.ownR (Nat.le_refl _)
              have d14597 := Dj.new h14567.rd.m h14590.ownR (Nat.le_refl _)
              have d14598 := Dj.new (inm1 KF3_0) h14590.ownR (Nat.le_refl _)
              have d14599 := Dj.new (inm1 K12) h14590.ownR (Nat.le_refl _)
              have d14600 := Dj.new (inm1 K24) h14590.ownR (Nat.le_refl _)
              have d14601 := Dj.new (inm1 K13057) h14590.ownR (Nat.le_refl _)
              have d14602 := Dj.app' (Dj.new h14165.memR h14590.ownR (Nat.le_refl _)).symm (Dj.nil' _)
              have d14603 := Dj.app' (Dj.new h14453.memR h14590.ownR (Nat.le_refl _)).symm (Dj.nil' _)
              have d14604 := Dj.app' (Dj.new h14567.memR h14590.ownR (Nat.le_refl _)).symm (Dj.nil' _)
              have d14605 := Dj.app' (Dj.new h14567.mem h14590.ownR (Nat.le_refl _)).symm (Dj.nil' _)
              have fr14606 : Frs [] w0.heap.size _ := Frs.new hB.size h14590.lo
              replace h14590 := h14590.base (Nat.zero_le _)
              replace hB := hB.thru l
              replace h17 := h17.go l
              replace h29 := h29.go l
              replace h13073 := h13073.go l
              replace h14165 := h14165.go l
              replace h14453 := h14453.go l
              replace h14567 := h14567.go l
              replace KF3_0 := KF3_0.thru l
              replace K12 := K12.thru l
              replace K24 := K24.thru l
              replace K13057 := K13057.thru l
              obtain ⟨z14607, c14608, hR⟩ := bnd_some hR
              refine o_append (sz := 3) (R := RArcStep) (z := (.agg #[.int .i64 0, .int .i64 0, .int .i64 0])) (bytes := 24) Tryz.underlying265 (by kernel_rfl) rfl (by decide) (by decide) (by decide) F rfl rfl rfl h14453 h14590.src (Nat.zero_le _) (Dj.nil _) c14608 (fun a w v14609 rb14610 h14611 l keep F => ?_)
              replace h14611 := row_nil2 h14611
              have fr14613 := Frs.keep fr14456 hB.size keep
              have d14614 := keep _ h17.m d14463
              have d14615 := keep _ h29.m d14464
              have d14616 := keep _ h13073.m d14465
              have d14617 := keep _ (inm1 KF3_0) (Dj.symm (Dj.l d14466))
              have d14618 := keep _ (inm1 K12) (Dj.symm (Dj.l d14467))
              have d14619 := keep _ (inm1 K24) (Dj.symm (Dj.l d14468))
              have d14620 := keep _ (inm1 K13057) (Dj.symm (Dj.l d14469))
              have d14621 := keep _ h14165.rd.m d14470
              have d14622 := keep _ h14567.rd.m d14582
              replace hB := hB.oo l (Frs.up fr14456)
              replace h17 := h17.goO l d14463
              replace h29 := h29.goO l d14464
              replace h13073 := h13073.goO l d14465
              replace h14165 := h14165.goO l d14470
              replace h14567 := h14567.goO l d14582
              replace KF3_0 := KF3_0.only l (Dj.symm (Dj.l d14466)).not
              replace K12 := K12.only l (Dj.symm (Dj.l d14467)).not
              replace K24 := K24.only l (Dj.symm (Dj.l d14468)).not
              replace K13057 := K13057.only l (Dj.symm (Dj.l d14469)).not
              refine o_assign F rfl rfl (fun a F => ?_)
              refine x_end ?_
              refine x_tn ?_
              refine x_seq ?_
              refine x_reg ?_
              refine o_assign F rfl rfl (fun a F => ?_)
              refine x_end ?_
              refine x_tn ?_
              refine x_seq ?_
              refine x_reg ?_
              refine o_move F rfl rfl (fun a F => ?_)
              obtain ⟨z14623, c14624, hR⟩ := bnd_some hR
              refine o_saysV (lb := [.pointer (some ⟨c3_0, 0, none⟩)]) F rfl rfl Tryz.call251 rfl (impl_searcher_arcs_1_c z14623 c14624 _ (cell1S KF3_0 h14567.rd)) (fun a w l F => ?_)
              replace hB := hB.thru l
              replace h17 := h17.go l
              replace h29 := h29.go l
              replace h13073 := h13073.go l
              replace h14165 := h14165.go l
              replace h14567 := h14567.go l
              replace h14611 := h14611.go l
              replace KF3_0 := KF3_0.thru l
              replace K12 := K12.thru l
              replace K24 := K24.thru l
              replace K13057 := K13057.thru l
              refine x_end ?_
              refine x_tn ?_
              refine x_if F rfl (fun hb14625 => ?_) (fun hb14625 => ?_)
              ·
               replace hR := ifT hb14625 hR
               refine x_seq ?_
               refine x_reg ?_
               refine o_move F rfl rfl (fun a F => ?_)
               refine o_assign F rfl rfl (fun a F => ?_)
               refine x_end ?_
               refine x_tn ?_
               refine x_ret ?_
               refine x_br ?_
               refine x_tr ?_
               refine x_tr ?_
               replace hR := l_ret hR hn14448
               refine x_br ?_
               refine x_tr ?_
               replace hR := j_ret hR hk14446
               refine x_br ?_
               refine x_tr ?_
               refine x_tr ?_
               replace hR := l_ret hR hn14083
               refine x_br ?_
               refine x_tr ?_
               replace hR := j_ret hR hk14081
               refine x_br ?_
               refine x_tr ?_
               refine x_tr ?_
               replace hR := l_ret hR hn12991
               refine x_br ?_
               refine x_tr ?_
               replace hR := j_ret hR hk12989
               refine x_br ?_
               refine x_tr ?_
               replace hR := l_ret hR hn9748
               refine x_br ?_
               refine x_tr ?_
               replace hR := j_ret hR hk9746
               refine x_tr ?_
               refine x_res1 F rfl (rv_t F rfl) ?_
               obtain rfl := Option.some.inj hR
               exact ⟨_, rfl, hB, v14609, rb14610, ib14568, rfl, (Row.rebase h14611 fr14613), (Dj.app' (Dj.symm (Dj.l d14622)) (Dj.nil' _)), d14622, h14567, fi14571⟩
              ·
               replace hR := ifF hb14625 hR
               refine x_skip ?_
               refine x_bn ?_
               refine x_tn ?_
               refine x_reg ?_
               refine o_inc F rfl rfl rfl ink14511 (fun a F => ?_)
               refine o_move F rfl rfl (fun a F => ?_)
               refine x_end ?_
               refine x_tn ?_
               replace hR := l_go hR hn14448
               exact ⟨_, Nat.lt_succ_self _, k14511 + 1, rest14512, z14607, v14609, rb14610, true, (s14458.set (x14140).toNat z14539), ib14568, ⟨hd14515.1, hd14515.2.2⟩, rfl, hR, F.sub (sc rfl (sc rfl (sc rfl (sc rfl (sc rfl (sc rfl (sc rfl (sc rfl (sc rfl (sc rfl (sc rfl (sc rfl (sc rfl (sc rfl (sc rfl (sc rfl (sc rfl (sc rfl (sc rfl sn))))))))))))))))))), hB, h14611, fr14613, h14567, fi14571, h17, h29, h13073, h14165, KF3_0, K12, K24, K13057, d14614, d14615, d14616, (Dj.app' (Dj.symm d14617) (Dj.nil' _)), (Dj.app' (Dj.symm d14618) (Dj.nil' _)), (Dj.app' (Dj.symm d14619) (Dj.nil' _)), (Dj.app' (Dj.symm d14620) (Dj.nil' _)), d14621, (Dj.app' (Dj.symm (Dj.l d14621)) (Dj.nil' _)), d14622, d14572, d14573, d14574, d14583, d14584, d14585, d14586, d14579, d14581, (Dj.app' (Dj.symm (Dj.l d14622)) (Dj.nil' _))⟩
          ·
           intro a w ⟨s14483, v14486, rb14487, s14489, s14490, ib14493, ho14447, F, hB, h14485, fr14488, h14492, fi14494, h17, h29, h13073, KF3_0, K12, K24, K13057, d14495, d14496, d14497, d14498, d14499, d14500, d14501, d14502, d14503, d14504, d14505, d14506, d14507, d14508, d14509, d14510⟩
           subst ho14447
           have hR := then_nx hk14446
           refine x_bn ?_
           refine x_tn ?_
           refine x_reg ?_
           refine o_inc F rfl rfl rfl ink14138 (fun a F => ?_)
           refine o_move F rfl rfl (fun a F => ?_)
           refine x_end ?_
           refine x_tn ?_
           replace hR := l_go hR hn14083
           exact ⟨_, Nat.lt_succ_self _, k14138 + 1, rest14139, s14483, v14486, rb14487, s14489, s14490, ib14493, ⟨hd14142.1, hd14142.2.2⟩, rfl, hR, F.sub (sc rfl (sc rfl (sc rfl (sc rfl (sc rfl (sc rfl (sc rfl (sc rfl (sc rfl (sc rfl (sc rfl (sc rfl (sc rfl (sc rfl sn)))))))))))))), hB, h14485, fr14488, h14492, fi14494, h17, h29, h13073, KF3_0, K12, K24, K13057, d14495, d14496, d14497, d14498, d14499, d14500, d14501, d14502, d14503, d14504, d14505, d14506, d14507, d14508, d14509, d14510⟩
       ·
        intro a w ⟨s14114, v14117, rb14118, s14120, s14121, ib14124, ho14082, F, hB, h14116, fr14119, h14123, fi14125, h17, h29, KF3_0, K12, K24, d14126, d14127, d14128, d14129, d14130, d14131, d14132, d14133, d14134, d14135, d14136, d14137⟩
        subst ho14082
        have hR := then_nx hk14081
        refine x_bn ?_
        refine x_tn ?_
        refine x_reg ?_
        refine o_inc F rfl rfl rfl ink13042 (fun a F => ?_)
        refine o_move F rfl rfl (fun a F => ?_)
        refine x_end ?_
        refine x_tn ?_
        replace hR := l_go hR hn12991
        exact ⟨_, Nat.lt_succ_self _, k13042 + 1, rest13043, s14114, v14117, rb14118, s14120, s14121, ib14124, ⟨hd13046.1, hd13046.2.2⟩, rfl, hR, F.sub (sc rfl (sc rfl (sc rfl (sc rfl (sc rfl (sc rfl (sc rfl (sc rfl (sc rfl sn))))))))), hB, h14116, fr14119, h14123, fi14125, h17, h29, KF3_0, K12, K24, d14126, d14127, d14128, d14129, d14130, d14131, d14132, d14133, d14134, d14135, d14136, d14137⟩
    ·
     intro a w ⟨s13018, v13021, rb13022, s13024, s13025, ib13028, ho12990, F, hB, h13020, fr13023, h13027, fi13029, h17, h29, KF3_0, K12, K24, d13030, d13031, d13032, d13033, d13034, d13035, d13036, d13037, d13038, d13039, d13040, d13041⟩
     subst ho12990
     have hR := then_nx hk12989
     refine x_bn ?_
     refine x_tn ?_
     replace hR := l_go hR hn9748
     exact ⟨rest9790, (by omega), s13018, v13021, rb13022, s13024, s13025, ib13028, hR, F.sub (sc rfl (sc rfl (sc rfl (sc rfl (sc rfl (sc rfl sn)))))), hB, h13020, fr13023, h13027, fi13029, h17, h29, KF3_0, K12, K24, d13030, d13031, d13032, d13033, d13034, d13035, d13036, d13037, d13038, d13039, d13040, d13041⟩
   ·
    replace hR := ifF hb9795 hR
    refine x_exit ?_
    refine x_te ?_
    refine x_te ?_
    replace hR := l_brk hR hn9748
    refine x_be ?_
    refine x_tn ?_
    exact ⟨s9751, v9754, rb9755, s9757, s9758, ib9761, (Option.some.inj hR).symm, F.sub (sc rfl (sc rfl sn)), hB, h9753, fr9756, h9760, fi9762, d9768, d9774⟩
 ·
  intro a w ⟨s9775, v9778, rb9779, s9781, s9782, ib9785, ho9747, F, hB, h9777, fr9780, h9784, fi9786, d9787, d9788⟩
  subst ho9747
  have hR := then_nx hk9746
  refine x_tn ?_
  refine x_seq ?_
  refine x_reg ?_
  refine o_move F rfl rfl (fun a F => ?_)
  refine o_assign F rfl rfl (fun a F => ?_)
  refine x_end ?_
  refine x_tn ?_
  refine x_ret ?_
  refine x_res1 F rfl (rv_t F rfl) ?_
  obtain rfl := Option.some.inj hR
  exact ⟨_, rfl, hB, v9778, rb9779, ib9785, rfl, (Row.rebase h9777 fr9780), d9788, d9787, h9784, fi9786⟩

def spec_l05ArcsUntil (N : Nat) (x0 : Template) (x1 : Instance) (x2 : List (List Int)) (x3 : Bool) : Option ((List ArcStep) × (List (List Int))) :=
 thn (σ := Int) (
  whl (σ := Int) (ρ := (List ArcStep) × (List (List Int))) (fun (s51 : Int) =>
   thn (σ := Bool) (
    if (decide (s51 < (x2.length : Int))) then  some (.nx x3) else  some (.nx false)) fun s66 =>
   if s66 then
    bnd (ix x2 s51) fun z70 =>
    if ((z70.length : Int) == 0) then
     some (.ret ([], x2))
    else
     bnd (ck (s51 + 1)) fun z83 =>
     some (.go z83)
   else
    some (.brk s51)) N 0) fun s53 =>
 thn (σ := (List ArcStep) × Int × (List (List Int))) (
  whl (σ := (List ArcStep) × Int × (List (List Int))) (ρ := (List ArcStep) × (List (List Int))) (fun (s : (List ArcStep) × Int × (List (List Int))) =>
    match s with
    | (s9411, s9417, s9419) =>
    if (s9417 != (s9411.length : Int)) then
     thn (σ := (List ArcStep) × (List (List Int))) (
      forL (σ := (List ArcStep) × (List (List Int))) (ρ := (Ctl ((List ArcStep) × Int × (List (List Int))) ((List ArcStep) × (List (List Int))))) (fun (k12557 : Nat) (x12559 : Con) (s : (List ArcStep) × (List (List Int))) =>
        match s with
        | (s12531, s12537) =>
        thn (σ := (List ArcStep) × (List (List Int))) (
         forL (σ := (List ArcStep) × (List (List Int))) (ρ := (Ctl ((List ArcStep) × (List (List Int))) (Ctl ((List ArcStep) × Int × (List (List Int))) ((List ArcStep) × (List (List Int)))))) (fun (k13597 : Nat) (x13599 : Int) (s : (List ArcStep) × (List (List Int))) =>
           match s with
           | (s13569, s13575) =>
           bnd (ix s13575 x13599) fun z13625 =>
           bnd (spec_l00Own z13625) fun z13636 =>
           thn (σ := (List ArcStep) × (List (List Int))) (
            forL (σ := (List ArcStep) × (List (List Int))) (ρ := (Ctl ((List ArcStep) × (List (List Int))) (Ctl ((List ArcStep) × (List (List Int))) (Ctl ((List ArcStep) × Int × (List (List Int))) ((List ArcStep) × (List (List Int))))))) (fun (k13953 : Nat) (x13955 : Int) (s : (List ArcStep) × (List (List Int))) =>
              match s with
              | (s13919, s13925) =>
              bnd (spec_l05Support N x0 x12559 s13925 (k13597 : Int) x13955) fun z13966 =>
              if (!z13966) then
               bnd (ix s13925 x13599) fun z13969 =>
               bnd (spec_l05Without z13969 x13955) fun z13984 =>
               bnd (ap s13919 ([(ArcStep.mk x13599 x13955 (k12557 : Int))])) fun z14036 =>
               thn (σ := Bool) (
                if x3 then  bnd (ix (s13925.set (x13599).toNat z13984) x13599) fun z14064 =>
                 some (.nx ((z14064.length : Int) == 0)) else  some (.nx false)) fun s14062 =>
               if s14062 then
                some (.ret (.ret (.ret (.ret (z14036, (s13925.set (x13599).toNat z13984))))))
               else
                some (.go (z14036, (s13925.set (x13599).toNat z13984)))
              else
               some (.go (s13919, s13925))) z13636 0 (s13569, s13575)) fun (s13938, s13944) =>
           some (.go (s13938, s13944))) x12559.scope 0 (s12531, s12537)) fun (s13584, s13590) =>
        some (.go (s13584, s13590))) x1.cons 0 (s9411, s9419)) fun (s12544, s12550) =>
     some (.go (s12544, (s9411.length : Int), s12550))
    else
     some (.brk (s9411, s9417, s9419))) N ([], (-1), x2)) fun (s9426, s9432, s9434) =>
 some (s9426, s9434)
set_option maxHeartbeats 1000000 in
theorem spec_l05ArcsUntil_c {N : Nat} {x0 : Template} {x1 : Instance} {x2 : List (List Int)} {x3 : Bool} (r : (List ArcStep) × (List (List Int))) (hR : spec_l05ArcsUntil N x0 x1 x2 x3 = some r) {v0 : Value} {b0 : List Nat} {v1 : Value} {b1 : List Nat} {v2 : Value} {rb2 ib2 : List Nat} (w0 : World) (A0 : Rd (Pt 2 RTemplate) w0 v0 x0 b0) (A1 : Rd (Pt 2 RInstance) w0 v1 x1 b1) (A2 : Row 1 (RSl 1 RInt) 46 0 w0 v2 x2 rb2 ib2) (dA0 : Dj b0 rb2) (dA1 : Dj b1 rb2) : Calls Tryz.prog 214 #[v0, v1, v2, .bool x3] w0 (GivesX rb2 (fun v w' => ∃ (v1' : Value) (rb2' : List Nat) (ib4' : List Nat), v = v1' ∧ Row 3 RArcStep 268 w0.heap.size w' v1' r.1 rb2' [] ∧ Dj (rb2' ++ []) rb2 ∧ Dj (rb2 ++ ib4') rb2' ∧ Row 1 (RSl 1 RInt) 46 0 w' v2 r.2 rb2 ib4' ∧ Frs ib2 w0.heap.size ib4') w0) := by
 unfold spec_l05ArcsUntil at hR
 refine x_enter (L := [(0, v0), (1, v1), (2, v2), (3, .bool x3)]) Tryz.func214 rfl rfl rfl (sc rfl (sc rfl (sc rfl (sc rfl sn)))) (fun a F => ?_)
 have hB := Only.refl rb2 w0
 have frA2 : Frs rb2 w0.heap.size rb2 := Frs.mem (fun c hc => by simp [hc])
 have fiA2 : Frs ib2 w0.heap.size ib2 := Frs.mem (fun c hc => hc)
 refine x_seq ?_
 refine x_reg ?_
 refine o_assign F rfl rfl (fun a F => ?_)
 refine x_end ?_
 refine x_tn ?_
 refine x_seq ?_
 refine x_reg ?_
 refine o_lit0 (R := RArcStep) Tryz.underlying265 Tryz.sizeOf268 F rfl (fun a w v11 rb12 h13 l F => ?_)
 have d15 := Dj.new A2.rd.m h13.ownR (Nat.le_refl _)
 have d16 := Dj.app' (Dj.new A2.memR h13.ownR (Nat.le_refl _)).symm (Dj.nil' _)
 have d17 := Dj.app' (Dj.new A2.mem h13.ownR (Nat.le_refl _)).symm (Dj.nil' _)
 have fr18 : Frs [] w0.heap.size _ := Frs.new hB.size h13.lo
 replace h13 := h13.base (Nat.zero_le _)
 replace hB := hB.thru l
 replace A2 := A2.go l
 refine o_assign F rfl rfl (fun a F => ?_)
 refine x_end ?_
 refine x_tn ?_
 refine x_seq ?_
 refine x_seq ?_
 refine x_reg ?_
 refine o_assign F rfl rfl (fun a F => ?_)
 refine x_end ?_
 refine x_tn ?_
 obtain ⟨o45, hR, hk46⟩ := thn_some hR
 refine x_cutQ (fun a w => ∃ (s53 : Int), o45 = .nx s53 ∧ Sk a 126 [(0, v0), (1, v1), (2, v2), (3, .bool x3), (9, v11)] ∧ Only rb2 w0 w ∧ I64 s53 ∧ Row 1 (RSl 1 RInt) 46 0 w v2 x2 rb2 ib2 ∧ Row 3 RArcStep 268 0 w v11 ([]) rb12 ([])) ?_ ?_
 ·
  refine x_blk ?_
  obtain ⟨fl49, hf50, hR⟩ := whl_gen hR
  refine x_loop (fun g a w => ∃ (s51 : Int), whl fl49 g s51 = some o45 ∧ Sk a 126 [(0, v0), (1, v1), (2, v2), (3, .bool x3), (9, v11), (10, .int .i64 s51)] ∧ Only rb2 w0 w ∧ I64 s51 ∧ Row 1 (RSl 1 RInt) 46 0 w v2 x2 rb2 ib2 ∧ Row 3 RArcStep 268 0 w v11 ([]) rb12 ([])) N ?_ ?_
  ·
   exact ⟨0, hR, F.sub (sc rfl (sc rfl (sc rfl (sc rfl (sc rfl (sc rfl sn)))))), hB, (show I64 (0) by decide), A2, h13⟩
  ·
   intro g58 a w ⟨s51, hR, F, hB, i52, A2, h13⟩
   obtain ⟨ck55, rest56, hg60, hR, hn48⟩ := whl_round hR
   rw [hf50] at hR
   refine x_seq ?_
   refine x_seq ?_
   obtain ⟨o63, hR, hk64⟩ := thn_some hR
   refine x_cutQ (fun a w => ∃ (s66 : Bool), o63 = .nx s66 ∧ Sk a 126 [(0, v0), (1, v1), (2, v2), (3, .bool x3), (9, v11), (10, .int .i64 s51), (25, .bool s66)] ∧ Only rb2 w0 w ∧ Row 1 (RSl 1 RInt) 46 0 w v2 x2 rb2 ib2 ∧ Row 3 RArcStep 268 0 w v11 ([]) rb12 ([])) ?_ ?_
   ·
    refine x_reg ?_
    refine o_move F rfl rfl (fun a F => ?_)
    refine o_move F rfl rfl (fun a F => ?_)
    refine o_len Tryz.underlying72 F rfl rfl A2.rd (fun a F => ?_)
    have i67 := (A2.rd).r.len64
    refine o_lss F rfl rfl rfl (fun a F => ?_)
    refine o_move F rfl rfl (fun a F => ?_)
    rcases bcases (decide (s51 < (x2.length : Int))) with hb68 | hb68
    ·
     replace hR := ifT hb68 hR
     have F := F.eq (t := 23) rfl (congrArg Value.bool hb68)
     refine o_move F rfl rfl (fun a F => ?_)
     refine o_pickt F rfl rfl rfl (fun a F => ?_)
     refine x_end ?_
     refine x_tn ?_
     exact ⟨x3, (Option.some.inj hR).symm, F.sub (sc rfl (sc rfl (sc rfl (sc rfl (sc rfl (sc rfl (sc rfl sn))))))), hB, A2, h13⟩
    ·
     replace hR := ifF hb68 hR
     have F := F.eq (t := 23) rfl (congrArg Value.bool hb68)
     refine o_no F rfl rfl (fun a F => ?_)
     refine o_pickf F rfl rfl rfl (fun a F => ?_)
     refine x_end ?_
     refine x_tn ?_
     exact ⟨false, (Option.some.inj hR).symm, F.sub (sc rfl (sc rfl (sc rfl (sc rfl (sc rfl (sc rfl (sc rfl sn))))))), hB, A2, h13⟩
   ·
    intro a w ⟨s66, ho65, F, hB, A2, h13⟩
    subst ho65
    have hR := then_nx hk64
    refine x_tn ?_
    refine x_if F rfl (fun hb69 => ?_) (fun hb69 => ?_)
    ·
     replace hR := ifT hb69 hR
     refine x_skip ?_
     refine x_tn ?_
     refine x_seq ?_
     refine x_blk ?_
     refine x_seq ?_
     refine x_reg ?_
     refine o_move F rfl rfl (fun a F => ?_)
     refine o_move F rfl rfl (fun a F => ?_)
     obtain ⟨z70, c71, hR⟩ := bnd_some hR
     refine o_rindex Tryz.underlying72 Tryz.sizeOf46 F rfl rfl rfl A2 c71 (fun a p72 b73 h74 s75 rp76 F => ?_)
     refine o_loadS Tryz.isAgg46 F rfl rfl h74 (fun a v77 b78 h79 s80 F => ?_)
     refine o_len Tryz.underlying46 F rfl rfl h79 (fun a F => ?_)
     have i81 := (h79).r.len64
     refine o_eql F rfl rfl rfl (fun a F => ?_)
     refine x_end ?_
     refine x_tn ?_
     refine x_if F rfl (fun hb82 => ?_) (fun hb82 => ?_)
     ·
      replace hR := ifT hb82 hR
      refine x_seq ?_
      refine x_reg ?_
      refine o_move F rfl rfl (fun a F => ?_)
      refine o_assign F rfl rfl (fun a F => ?_)
      refine x_end ?_
      refine x_tn ?_
      refine x_ret ?_
      refine x_br ?_
      refine x_tr ?_
      refine x_tr ?_
      replace hR := l_ret hR hn48
      refine x_br ?_
      refine x_tr ?_
      replace hR := j_ret hR hk46
      refine x_tr ?_
      refine x_res1 F rfl (rv_t F rfl) ?_
      obtain rfl := Option.some.inj hR
      exact ⟨_, rfl, hB, v11, rb12, ib2, rfl, (Row.rebase h13 fr18), d16, d15, A2, fiA2⟩
     ·
      replace hR := ifF hb82 hR
      refine x_skip ?_
      refine x_bn ?_
      refine x_tn ?_
      refine x_reg ?_
      refine o_move F rfl rfl (fun a F => ?_)
      obtain ⟨z83, c84, hR⟩ := bnd_some hR
      refine o_add F rfl rfl rfl c84 (fun a F => ?_)
      refine o_assign F rfl rfl (fun a F => ?_)
      refine x_end ?_
      refine x_tn ?_
      replace hR := l_go hR hn48
      exact ⟨rest56, (by omega), z83, hR, F.sub (sc rfl (sc rfl (sc rfl (sc rfl (sc rfl (sc rfl sn)))))), hB, (ck64 c84), A2, h13⟩
    ·
     replace hR := ifF hb69 hR
     refine x_exit ?_
     refine x_te ?_
     refine x_te ?_
     replace hR := l_brk hR hn48
     refine x_be ?_
     refine x_tn ?_
     exact ⟨s51, (Option.some.inj hR).symm, F.sub (sc rfl (sc rfl (sc rfl (sc rfl (sc rfl sn))))), hB, i52, A2, h13⟩
 ·
  intro a w ⟨s53, ho47, F, hB, i54, A2, h13⟩
  subst ho47
  have hR := then_nx hk46
  refine x_tn ?_
  refine x_seq ?_
  refine x_seq ?_
  refine x_reg ?_
  refine o_assign F rfl rfl (fun a F => ?_)
  refine x_end ?_
  refine x_tn ?_
  obtain ⟨o9405, hR, hk9406⟩ := thn_some hR
  refine x_cutQ (fun a w => ∃ (s9426 : List ArcStep) (v9429 : Value) (rb9430 : List Nat) (s9432 : Int) (s9434 : List (List Int)) (ib9437 : List Nat), o9405 = .nx (s9426, s9432, s9434) ∧ Sk a 126 [(2, v2), (9, v9429)] ∧ Only rb2 w0 w ∧ Row 3 RArcStep 268 0 w v9429 s9426 rb9430 ([]) ∧ Frs ([]) w0.heap.size rb9430 ∧ I64 s9432 ∧ Row 1 (RSl 1 RInt) 46 0 w v2 s9434 rb2 ib9437 ∧ Frs ib2 w0.heap.size ib9437 ∧ Dj (rb2 ++ ib9437) rb9430 ∧ Dj (rb9430 ++ []) rb2) ?_ ?_
  ·
   refine x_blk ?_
   obtain ⟨fl9409, hf9410, hR⟩ := whl_gen hR
   refine x_loop (fun g a w => ∃ (s9411 : List ArcStep) (v9414 : Value) (rb9415 : List Nat) (s9417 : Int) (s9419 : List (List Int)) (ib9422 : List Nat), whl fl9409 g (s9411, s9417, s9419) = some o9405 ∧ Sk a 126 [(0, v0), (1, v1), (2, v2), (3, .bool x3), (9, v9414), (11, .int .i64 s9417)] ∧ Only rb2 w0 w ∧ Row 3 RArcStep 268 0 w v9414 s9411 rb9415 ([]) ∧ Frs ([]) w0.heap.size rb9415 ∧ I64 s9417 ∧ Row 1 (RSl 1 RInt) 46 0 w v2 s9419 rb2 ib9422 ∧ Frs ib2 w0.heap.size ib9422 ∧ Dj (rb2 ++ ib9422) rb9415 ∧ Dj (rb9415 ++ []) rb2) N ?_ ?_
   ·
    exact ⟨[], v11, rb12, (-1), x2, ib2, hR, F.sub (sc rfl (sc rfl (sc rfl (sc rfl (sc rfl (sc rfl sn)))))), hB, h13, fr18, (show I64 (-1) by decide), A2, fiA2, d15, d16⟩
   ·
    intro g9444 a w ⟨s9411, v9414, rb9415, s9417, s9419, ib9422, hR, F, hB, h9413, fr9416, i9418, h9421, fi9423, d9424, d9425⟩
    obtain ⟨ck9441, rest9442, hg9446, hR, hn9408⟩ := whl_round hR
    rw [hf9410] at hR
    refine x_seq ?_
    refine x_seq ?_
    refine x_reg ?_
    refine o_move F rfl rfl (fun a F => ?_)
    refine o_move F rfl rfl (fun a F => ?_)
    refine o_len Tryz.underlying265 F rfl rfl h9413.rd (fun a F => ?_)
    have i9447 := (h9413.rd).r.len64
    refine o_neq F rfl rfl rfl (fun a F => ?_)
    refine x_end ?_
    refine x_tn ?_
    refine x_if F rfl (fun hb9448 => ?_) (fun hb9448 => ?_)
    ·
     replace hR := ifT hb9448 hR
     refine x_skip ?_
     refine x_tn ?_
     refine x_blk ?_
     refine x_seq ?_
     refine x_reg ?_
     refine o_move F rfl rfl (fun a F => ?_)
     refine o_len Tryz.underlying265 F rfl rfl h9413.rd (fun a F => ?_)
     have i9449 := (h9413.rd).r.len64
     refine o_assign F rfl rfl (fun a F => ?_)
     refine x_end ?_
     refine x_tn ?_
     refine x_seq ?_
     refine x_reg ?_
     refine o_assign F rfl rfl (fun a F => ?_)
     refine x_end ?_
     refine x_tn ?_
     obtain ⟨o12525, hR, hk12526⟩ := thn_some hR
     refine x_cutQ (fun a w => ∃ (s12544 : List ArcStep) (v12547 : Value) (rb12548 : List Nat) (s12550 : List (List Int)) (ib12553 : List Nat), o12525 = .nx (s12544, s12550) ∧ Sk a 126 [(0, v0), (1, v1), (2, v2), (3, .bool x3), (9, v12547), (11, .int .i64 (s9411.length : Int))] ∧ Only rb2 w0 w ∧ Row 3 RArcStep 268 0 w v12547 s12544 rb12548 ([]) ∧ Frs ([]) w0.heap.size rb12548 ∧ Row 1 (RSl 1 RInt) 46 0 w v2 s12550 rb2 ib12553 ∧ Frs ib2 w0.heap.size ib12553 ∧ Dj (rb2 ++ ib12553) rb12548 ∧ Dj (rb12548 ++ []) rb2) ?_ ?_
     ·
      refine x_blk ?_
      obtain ⟨fl12529, hf12530, hR⟩ := forL_gen hR
      refine x_loop (fun g a w => ∃ (k12557 : Nat) (rest12558 : List Con) (s12531 : List ArcStep) (v12534 : Value) (rb12535 : List Nat) (s12537 : List (List Int)) (ib12540 : List Nat), (k12557 ≤ x1.cons.length ∧ x1.cons.drop k12557 = rest12558) ∧ rest12558.length = g ∧ forL fl12529 rest12558 k12557 (s12531, s12537) = some o12525 ∧ Sk a 126 [(12, .int .i64 (k12557 : Int)), (0, v0), (1, v1), (2, v2), (3, .bool x3), (9, v12534), (11, .int .i64 (s9411.length : Int))] ∧ Only rb2 w0 w ∧ Row 3 RArcStep 268 0 w v12534 s12531 rb12535 ([]) ∧ Frs ([]) w0.heap.size rb12535 ∧ Row 1 (RSl 1 RInt) 46 0 w v2 s12537 rb2 ib12540 ∧ Frs ib2 w0.heap.size ib12540 ∧ Dj (rb2 ++ ib12540) rb12535 ∧ Dj (rb12535 ++ []) rb2) x1.cons.length ?_ ?_
      ·
       exact ⟨0, x1.cons, s9411, v9414, rb9415, s9419, ib9422, ⟨Nat.zero_le _, rfl⟩, rfl, hR, F.sub (sc rfl (sc rfl (sc rfl (sc rfl (sc rfl (sc rfl (sc rfl sn))))))), hB, h9413, fr9416, h9421, fi9423, d9424, d9425⟩
      ·
       intro g12560 a w ⟨k12557, rest12558, s12531, v12534, rb12535, s12537, ib12540, hd12561, hg12562, hR, F, hB, h12533, fr12536, h12539, fi12541, d12542, d12543⟩
       cases rest12558 with
       | nil =>
        replace hR := forL_nil hR
        have hkk12557 := drop_nil hd12561.1 hd12561.2
        have hlk12557 := dec_no hkk12557
        refine x_seq ?_
        refine x_seq ?_
        refine x_reg ?_
        refine o_move F rfl rfl (fun a F => ?_)
        refine o_move F rfl rfl (fun a F => ?_)
        refine o_nilCheckP F rfl rfl (A1.goO hB dA1) (fun a F => ?_)
        refine o_field (s' := 1) fa51_1 F rfl rfl (A1.goO hB dA1) RInstance.f1 (fun a p14087 b14088 h14089 s14090 F => ?_)
        refine o_loadS Tryz.isAgg49 F rfl rfl h14089 (fun a v14091 b14092 h14093 s14094 F => ?_)
        refine o_len Tryz.underlying49 F rfl rfl h14093 (fun a F => ?_)
        have i14095 := (h14093).r.len64
        refine o_lss F rfl rfl rfl (fun a F => ?_)
        refine x_end ?_
        refine x_tn ?_
        refine x_ifF F rfl hlk12557 ?_
        refine x_exit ?_
        refine x_te ?_
        refine x_te ?_
        refine x_be ?_
        refine x_tn ?_
        exact ⟨s12531, v12534, rb12535, s12537, ib12540, (Option.some.inj hR).symm, F.sub (sc rfl (sc rfl (sc rfl (sc rfl (sc rfl (sc rfl sn)))))), hB, h12533, fr12536, h12539, fi12541, d12542, d12543⟩
       | cons x12559 rest12558 =>
        subst hg12562
        replace hd12561 := drop_cons hd12561.2
        have hxk12557 := ix_nat hd12561.2.1
        obtain ⟨ck12557, hR, hn12528⟩ := forL_cons hR
        rw [hf12530] at hR
        have hlk12557 := dec_yes hd12561.1
        refine x_seq ?_
        refine x_seq ?_
        refine x_reg ?_
        refine o_move F rfl rfl (fun a F => ?_)
        refine o_move F rfl rfl (fun a F => ?_)
        refine o_nilCheckP F rfl rfl (A1.goO hB dA1) (fun a F => ?_)
        refine o_field (s' := 1) fa51_1 F rfl rfl (A1.goO hB dA1) RInstance.f1 (fun a p12563 b12564 h12565 s12566 F => ?_)
        refine o_loadS Tryz.isAgg49 F rfl rfl h12565 (fun a v12567 b12568 h12569 s12570 F => ?_)
        refine o_len Tryz.underlying49 F rfl rfl h12569 (fun a F => ?_)
        have i12571 := (h12569).r.len64
        refine o_lss F rfl rfl rfl (fun a F => ?_)
        refine x_end ?_
        refine x_tn ?_
        refine x_ifT F rfl hlk12557 ?_
        refine x_skip ?_
        refine x_tn ?_
        refine x_seq ?_
        have ikk12557 := k64 (Nat.le_of_lt hd12561.1) i12571
        have ink12557 := inc64 hd12561.1 i12571
        refine x_blk ?_
        refine x_seq ?_
        refine x_reg ?_
        refine o_move F rfl rfl (fun a F => ?_)
        refine o_nilCheckP F rfl rfl (A1.goO hB dA1) (fun a F => ?_)
        refine o_field (s' := 1) fa51_1 F rfl rfl (A1.goO hB dA1) RInstance.f1 (fun a p12572 b12573 h12574 s12575 F => ?_)
        refine o_loadS Tryz.isAgg49 F rfl rfl h12574 (fun a v12576 b12577 h12578 s12579 F => ?_)
        refine o_move F rfl rfl (fun a F => ?_)
        refine o_index Tryz.underlying49 Tryz.sizeOf194 F rfl rfl rfl h12578 hxk12557 (fun a p12580 b12581 h12582 s12583 F => ?_)
        refine o_assign F rfl rfl (fun a F => ?_)
        refine x_end ?_
        refine x_tn ?_
        refine x_seq ?_
        refine x_reg ?_
        refine o_assign F rfl rfl (fun a F => ?_)
        refine x_end ?_
        refine x_tn ?_
        obtain ⟨o13563, hR, hk13564⟩ := thn_some hR
        refine x_cutQ (fun a w => ∃ (s13584 : List ArcStep) (v13587 : Value) (rb13588 : List Nat) (s13590 : List (List Int)) (ib13593 : List Nat), o13563 = .nx (s13584, s13590) ∧ Sk a 126 [(0, v0), (1, v1), (2, v2), (3, .bool x3), (9, v13587), (11, .int .i64 (s9411.length : Int)), (12, .int .i64 (k12557 : Int))] ∧ Only rb2 w0 w ∧ Row 3 RArcStep 268 0 w v13587 s13584 rb13588 ([]) ∧ Frs ([]) w0.heap.size rb13588 ∧ Row 1 (RSl 1 RInt) 46 0 w v2 s13590 rb2 ib13593 ∧ Frs ib2 w0.heap.size ib13593 ∧ Dj (rb2 ++ ib13593) rb13588 ∧ Dj (rb13588 ++ []) rb2) ?_ ?_
        ·
         refine x_blk ?_
         obtain ⟨fl13567, hf13568, hR⟩ := forL_gen hR
         refine x_loop (fun g a w => ∃ (k13597 : Nat) (rest13598 : List Int) (s13569 : List ArcStep) (v13572 : Value) (rb13573 : List Nat) (s13575 : List (List Int)) (ib13578 : List Nat), (k13597 ≤ x12559.scope.length ∧ x12559.scope.drop k13597 = rest13598) ∧ rest13598.length = g ∧ forL fl13567 rest13598 k13597 (s13569, s13575) = some o13563 ∧ Sk a 126 [(14, .int .i64 (k13597 : Int)), (0, v0), (1, v1), (2, v2), (3, .bool x3), (9, v13572), (11, .int .i64 (s9411.length : Int)), (12, .int .i64 (k12557 : Int)), (13, p12580)] ∧ Only rb2 w0 w ∧ Row 3 RArcStep 268 0 w v13572 s13569 rb13573 ([]) ∧ Frs ([]) w0.heap.size rb13573 ∧ Row 1 (RSl 1 RInt) 46 0 w v2 s13575 rb2 ib13578 ∧ Frs ib2 w0.heap.size ib13578 ∧ Rd (Pt 2 RCon) w p12580 x12559 b12581 ∧ Dj b12581 rb13573 ∧ Dj (rb2 ++ ib13578) rb13573 ∧ Dj b12581 rb2 ∧ Dj (rb13573 ++ []) rb2) x12559.scope.length ?_ ?_
         ·
          exact ⟨0, x12559.scope, s12531, v12534, rb12535, s12537, ib12540, ⟨Nat.zero_le _, rfl⟩, rfl, hR, F.sub (sc rfl (sc rfl (sc rfl (sc rfl (sc rfl (sc rfl (sc rfl (sc rfl (sc rfl sn))))))))), hB, h12533, fr12536, h12539, fi12541, h12582, (Dj.sub (Dj.sub (Dj.sub (Dj.frs A1.m dA1 (Frs.up fr12536)) s12575) s12579) s12583), d12542, (Dj.sub (Dj.sub (Dj.sub (Dj.frs A1.m dA1 frA2) s12575) s12579) s12583), d12543⟩
         ·
          intro g13600 a w ⟨k13597, rest13598, s13569, v13572, rb13573, s13575, ib13578, hd13601, hg13602, hR, F, hB, h13571, fr13574, h13577, fi13579, h12582, d13580, d13581, d13582, d13583⟩
          cases rest13598 with
          | nil =>
           replace hR := forL_nil hR
           have hkk13597 := drop_nil hd13601.1 hd13601.2
           have hlk13597 := dec_no hkk13597
           refine x_seq ?_
           refine x_seq ?_
           refine x_reg ?_
           refine o_move F rfl rfl (fun a F => ?_)
           refine o_move F rfl rfl (fun a F => ?_)
           refine o_nilCheckP F rfl rfl h12582 (fun a F => ?_)
           refine o_field (s' := 1) fa194_1 F rfl rfl h12582 RCon.f1 (fun a p14078 b14079 h14080 s14081 F => ?_)
           refine o_loadS Tryz.isAgg46 F rfl rfl h14080 (fun a v14082 b14083 h14084 s14085 F => ?_)
           refine o_len Tryz.underlying46 F rfl rfl h14084 (fun a F => ?_)
           have i14086 := (h14084).r.len64
           refine o_lss F rfl rfl rfl (fun a F => ?_)
           refine x_end ?_
           refine x_tn ?_
           refine x_ifF F rfl hlk13597 ?_
           refine x_exit ?_
           refine x_te ?_
           refine x_te ?_
           refine x_be ?_
           refine x_tn ?_
           exact ⟨s13569, v13572, rb13573, s13575, ib13578, (Option.some.inj hR).symm, F.sub (sc rfl (sc rfl (sc rfl (sc rfl (sc rfl (sc rfl (sc rfl sn))))))), hB, h13571, fr13574, h13577, fi13579, d13581, d13583⟩
          | cons x13599 rest13598 =>
           subst hg13602
           replace hd13601 := drop_cons hd13601.2
           have hxk13597 := ix_nat hd13601.2.1
           obtain ⟨ck13597, hR, hn13566⟩ := forL_cons hR
           rw [hf13568] at hR
           have hlk13597 := dec_yes hd13601.1
           refine x_seq ?_
           refine x_seq ?_
           refine x_reg ?_
           refine o_move F rfl rfl (fun a F => ?_)
           refine o_move F rfl rfl (fun a F => ?_)
           refine o_nilCheckP F rfl rfl h12582 (fun a F => ?_)
           refine o_field (s' := 1) fa194_1 F rfl rfl h12582 RCon.f1 (fun a p13603 b13604 h13605 s13606 F => ?_)
           refine o_loadS Tryz.isAgg46 F rfl rfl h13605 (fun a v13607 b13608 h13609 s13610 F => ?_)
           refine o_len Tryz.underlying46 F rfl rfl h13609 (fun a F => ?_)
           have i13611 := (h13609).r.len64
           refine o_lss F rfl rfl rfl (fun a F => ?_)
           refine x_end ?_
           refine x_tn ?_
           refine x_ifT F rfl hlk13597 ?_
           refine x_skip ?_
           refine x_tn ?_
           refine x_seq ?_
           have ikk13597 := k64 (Nat.le_of_lt hd13601.1) i13611
           have ink13597 := inc64 hd13601.1 i13611
           refine x_blk ?_
           refine x_seq ?_
           refine x_reg ?_
           refine o_move F rfl rfl (fun a F => ?_)
           refine o_nilCheckP F rfl rfl h12582 (fun a F => ?_)
           refine o_field (s' := 1) fa194_1 F rfl rfl h12582 RCon.f1 (fun a p13612 b13613 h13614 s13615 F => ?_)
           refine o_loadS Tryz.isAgg46 F rfl rfl h13614 (fun a v13616 b13617 h13618 s13619 F => ?_)
           refine o_move F rfl rfl (fun a F => ?_)
           refine o_index Tryz.underlying46 Tryz.sizeOf2 F rfl rfl rfl h13618 hxk13597 (fun a p13620 b13621 h13622 s13623 F => ?_)
           have i13624 := (h13622).i64
           refine o_loadI Tryz.isAgg2 F rfl rfl h13622 (fun a F => ?_)
           refine o_assign F rfl rfl (fun a F => ?_)
           refine x_end ?_
           refine x_tn ?_
           refine x_seq ?_
           refine x_reg ?_
           refine o_move F rfl rfl (fun a F => ?_)
           refine o_move F rfl rfl (fun a F => ?_)
           obtain ⟨z13625, c13626, hR⟩ := bnd_some hR
           refine o_rindex Tryz.underlying72 Tryz.sizeOf46 F rfl rfl rfl h13577 c13626 (fun a p13627 b13628 h13629 s13630 rp13631 F => ?_)
           refine o_loadS Tryz.isAgg46 F rfl rfl h13629 (fun a v13632 b13633 h13634 s13635 F => ?_)
           obtain ⟨z13636, c13637, hR⟩ := bnd_some hR
           refine o_gives F rfl Tryz.call174 rfl (spec_l00Own_c z13636 c13637 _ h13634) (fun a vv w l ⟨v13638, rb13639, hv13642, h13641⟩ F => ?_)
           subst vv
           have d13644 := Dj.new h12582.m h13641.ownR (Nat.le_refl _)
           have d13645 := Dj.new h13571.rd.m h13641.ownR (Nat.le_refl _)
           have d13646 := Dj.new h13577.rd.m h13641.ownR (Nat.le_refl _)
           have d13647 := Dj.app' (Dj.new h13571.memR h13641.ownR (Nat.le_refl _)).symm (Dj.nil' _)
           have d13648 := Dj.app' (Dj.new h13577.memR h13641.ownR (Nat.le_refl _)).symm (Dj.nil' _)
           have d13649 := Dj.app' (Dj.new h13577.mem h13641.ownR (Nat.le_refl _)).symm (Dj.nil' _)
           have fr13650 : Frs [] w0.heap.size _ := Frs.new hB.size h13641.lo
           replace h13641 := h13641.base (Nat.zero_le _)
           replace hB := hB.thru l
           replace h12582 := h12582.go l
           replace h13571 := h13571.go l
           replace h13577 := h13577.go l
           refine o_assign F rfl rfl (fun a F => ?_)
           refine x_end ?_
           refine x_tn ?_
           refine x_seq ?_
           refine x_reg ?_
           refine o_assign F rfl rfl (fun a F => ?_)
           refine x_end ?_
           refine x_tn ?_
           obtain ⟨o13913, hR, hk13914⟩ := thn_some hR
           refine x_cutQ (fun a w => ∃ (s13938 : List ArcStep) (v13941 : Value) (rb13942 : List Nat) (s13944 : List (List Int)) (ib13947 : List Nat), o13913 = .nx (s13938, s13944) ∧ Sk a 126 [(0, v0), (1, v1), (2, v2), (3, .bool x3), (9, v13941), (11, .int .i64 (s9411.length : Int)), (12, .int .i64 (k12557 : Int)), (13, p12580), (14, .int .i64 (k13597 : Int))] ∧ Only rb2 w0 w ∧ Row 3 RArcStep 268 0 w v13941 s13938 rb13942 ([]) ∧ Frs ([]) w0.heap.size rb13942 ∧ Row 1 (RSl 1 RInt) 46 0 w v2 s13944 rb2 ib13947 ∧ Frs ib2 w0.heap.size ib13947 ∧ Rd (Pt 2 RCon) w p12580 x12559 b12581 ∧ Dj b12581 rb13942 ∧ Dj (rb2 ++ ib13947) rb13942 ∧ Dj b12581 rb2 ∧ Dj (rb13942 ++ []) rb2) ?_ ?_
           ·
            refine x_blk ?_
            obtain ⟨fl13917, hf13918, hR⟩ := forL_gen hR
            refine x_loop (fun g a w => ∃ (k13953 : Nat) (rest13954 : List Int) (s13919 : List ArcStep) (v13922 : Value) (rb13923 : List Nat) (s13925 : List (List Int)) (ib13928 : List Nat), (k13953 ≤ z13636.length ∧ z13636.drop k13953 = rest13954) ∧ rest13954.length = g ∧ forL fl13917 rest13954 k13953 (s13919, s13925) = some o13913 ∧ Sk a 126 [(17, .int .i64 (k13953 : Int)), (0, v0), (1, v1), (2, v2), (3, .bool x3), (9, v13922), (11, .int .i64 (s9411.length : Int)), (12, .int .i64 (k12557 : Int)), (13, p12580), (14, .int .i64 (k13597 : Int)), (15, .int .i64 x13599), (16, v13638)] ∧ Only rb2 w0 w ∧ Row 3 RArcStep 268 0 w v13922 s13919 rb13923 ([]) ∧ Frs ([]) w0.heap.size rb13923 ∧ Row 1 (RSl 1 RInt) 46 0 w v2 s13925 rb2 ib13928 ∧ Frs ib2 w0.heap.size ib13928 ∧ Rd (Pt 2 RCon) w p12580 x12559 b12581 ∧ Row 1 RInt 2 0 w v13638 z13636 rb13639 ([]) ∧ Dj b12581 rb13923 ∧ Dj (rb13639 ++ []) rb13923 ∧ Dj (rb13923 ++ []) rb13639 ∧ Dj (rb2 ++ ib13928) rb13923 ∧ Dj b12581 rb2 ∧ Dj (rb13639 ++ []) rb2 ∧ Dj (rb2 ++ ib13928) rb13639 ∧ Dj (rb13923 ++ []) rb2) z13636.length ?_ ?_
            ·
             exact ⟨0, z13636, s13569, v13572, rb13573, s13575, ib13578, ⟨Nat.zero_le _, rfl⟩, rfl, hR, F.sub (sc rfl (sc rfl (sc rfl (sc rfl (sc rfl (sc rfl (sc rfl (sc rfl (sc rfl (sc rfl (sc rfl (sc rfl sn)))))))))))), hB, h13571, fr13574, h13577, fi13579, h12582, h13641, d13580, d13647, d13645, d13581, d13582, d13648, d13646, d13583⟩
            ·
             intro g13956 a w ⟨k13953, rest13954, s13919, v13922, rb13923, s13925, ib13928, hd13957, hg13958, hR, F, hB, h13921, fr13924, h13927, fi13929, h12582, h13641, d13930, d13931, d13932, d13933, d13934, d13935, d13936, d13937⟩
             cases rest13954 with
             | nil =>
              replace hR := forL_nil hR
              have hkk13953 := drop_nil hd13957.1 hd13957.2
              have hlk13953 := dec_no hkk13953
              refine x_seq ?_
              refine x_seq ?_
              refine x_reg ?_
              refine o_move F rfl rfl (fun a F => ?_)
              refine o_move F rfl rfl (fun a F => ?_)
              refine o_len Tryz.underlying46 F rfl rfl h13641.rd (fun a F => ?_)
              have i14077 := (h13641.rd).r.len64
              refine o_lss F rfl rfl rfl (fun a F => ?_)
              refine x_end ?_
              refine x_tn ?_
              refine x_ifF F rfl hlk13953 ?_
              refine x_exit ?_
              refine x_te ?_
              refine x_te ?_
              refine x_be ?_
              refine x_tn ?_
              exact ⟨s13919, v13922, rb13923, s13925, ib13928, (Option.some.inj hR).symm, F.sub (sc rfl (sc rfl (sc rfl (sc rfl (sc rfl (sc rfl (sc rfl (sc rfl (sc rfl sn))))))))), hB, h13921, fr13924, h13927, fi13929, h12582, d13930, d13933, d13934, d13937⟩
             | cons x13955 rest13954 =>
              subst hg13958
              replace hd13957 := drop_cons hd13957.2
              have hxk13953 := ix_nat hd13957.2.1
              obtain ⟨ck13953, hR, hn13916⟩ := forL_cons hR
              rw [hf13918] at hR
              have hlk13953 := dec_yes hd13957.1
              refine x_seq ?_
              refine x_seq ?_
              refine x_reg ?_
              refine o_move F rfl rfl (fun a F => ?_)
              refine o_move F rfl rfl (fun a F => ?_)
              refine o_len Tryz.underlying46 F rfl rfl h13641.rd (fun a F => ?_)
              have i13959 := (h13641.rd).r.len64
              refine o_lss F rfl rfl rfl (fun a F => ?_)
              refine x_end ?_
              refine x_tn ?_
              refine x_ifT F rfl hlk13953 ?_
              refine x_skip ?_
              refine x_tn ?_
              refine x_seq ?_
              have ikk13953 := k64 (Nat.le_of_lt hd13957.1) i13959
              have ink13953 := inc64 hd13957.1 i13959
              refine x_blk ?_
              refine x_seq ?_
              refine x_reg ?_
              refine o_move F rfl rfl (fun a F => ?_)
              refine o_move F rfl rfl (fun a F => ?_)
              refine o_move F rfl rfl (fun a F => ?_)
              refine o_move F rfl rfl (fun a F => ?_)
              refine o_move F rfl rfl (fun a F => ?_)
              refine o_move F rfl rfl (fun a F => ?_)
              refine o_rindex Tryz.underlying46 Tryz.sizeOf2 F rfl rfl rfl h13641 hxk13953 (fun a p13960 b13961 h13962 s13963 rp13964 F => ?_)
              have i13965 := (h13962).i64
              refine o_loadI Tryz.isAgg2 F rfl rfl h13962 (fun a F => ?_)
              obtain ⟨z13966, c13967, hR⟩ := bnd_some hR
              refine o_says F rfl Tryz.call250 rfl (spec_l05Support_c z13966 c13967 _ (A0.goO hB dA0) h12582 h13927.rd ikk13597 i13965) (fun a w l F => ?_)
              replace hB := hB.thru l
              replace h12582 := h12582.go l
              replace h13641 := h13641.go l
              replace h13921 := h13921.go l
              replace h13927 := h13927.go l
              refine o_not F rfl rfl (fun a F => ?_)
              refine x_end ?_
              refine x_tn ?_
              refine x_if F rfl (fun hb13968 => ?_) (fun hb13968 => ?_)
              ·
               replace hR := ifT hb13968 hR
               refine x_seq ?_
               refine x_drawn (by kernel_rfl) (fun w l => ?_)
               replace hB := hB.thru l
               replace h12582 := h12582.go l
               replace h13641 := h13641.go l
               replace h13921 := h13921.go l
               replace h13927 := h13927.go l
               refine b_q0 0 rfl (by kernel_rfl) (by kernel_rfl) (by kernel_rfl) ?_
               refine v_val F rfl (fun w l => r_move F rfl) (fun a F => ?_)
               refine b_q0 1 rfl (by kernel_rfl) (by kernel_rfl) (by kernel_rfl) ?_
               refine v_val F rfl (fun w l => r_move F rfl) (fun a F => ?_)
               refine b_q0 2 rfl (by kernel_rfl) (by kernel_rfl) (by kernel_rfl) ?_
               refine v_val F rfl (fun w l => r_move F rfl) (fun a F => ?_)
               refine b_q0 3 rfl (by kernel_rfl) (by kernel_rfl) (by kernel_rfl) ?_
               refine v_val F rfl (fun w l => r_move F rfl) (fun a F => ?_)
               refine b_q 4 (by kernel_rfl) rfl (by kernel_rfl) (by kernel_rfl) (by kernel_rfl) (by kernel_rfl) ?_
               obtain ⟨z13969, c13970, hR⟩ := bnd_some hR
               refine v_index Tryz.underlying72 Tryz.sizeOf46 F rfl rfl rfl h13927.rd c13970 (fun a p13971 b13972 h13973 s13974 F => ?_)
               refine b_q 5 (by kernel_rfl) rfl (by kernel_rfl) (by kernel_rfl) (by kernel_rfl) (by kernel_rfl) ?_
               refine v_loadS (fun _ l => l) Tryz.isAgg46 F rfl rfl h13973 (fun a v13975 b13976 h13977 s13978 F => ?_)
               refine b_q0 6 rfl (by kernel_rfl) (by kernel_rfl) (by kernel_rfl) ?_
               refine v_val F rfl (fun w l => r_move F rfl) (fun a F => ?_)
               refine b_q0 7 rfl (by kernel_rfl) (by kernel_rfl) (by kernel_rfl) ?_
               refine v_val F rfl (fun w l => r_move F rfl) (fun a F => ?_)
               refine b_q 8 (by kernel_rfl) rfl (by kernel_rfl) (by kernel_rfl) (by kernel_rfl) (by kernel_rfl) ?_
               refine v_index Tryz.underlying46 Tryz.sizeOf2 F rfl rfl rfl h13641.rd hxk13953 (fun a p13979 b13980 h13981 s13982 F => ?_)
               refine b_q 9 (by kernel_rfl) rfl (by kernel_rfl) (by kernel_rfl) (by kernel_rfl) (by kernel_rfl) ?_
               have i13983 := (h13981).i64
               refine v_val F rfl (fun w l => r_loadI Tryz.isAgg2 F rfl ((h13981).go l)) (fun a F => ?_)
               refine b_e 10 rfl (by kernel_rfl) ?_
               obtain ⟨z13984, c13985, hR⟩ := bnd_some hR
               refine o_gives F rfl Tryz.call218 rfl (spec_l05Without_c z13984 c13985 _ h13977 i13983) (fun a vv w l ⟨v13986, rb13987, hv13990, h13989⟩ F => ?_)
               subst vv
               have d13992 := Dj.new h12582.m h13989.ownR (Nat.le_refl _)
               have d13993 := Dj.new h13641.rd.m h13989.ownR (Nat.le_refl _)
               have d13994 := Dj.new h13921.rd.m h13989.ownR (Nat.le_refl _)
               have d13995 := Dj.new h13927.rd.m h13989.ownR (Nat.le_refl _)
               have d13996 := Dj.app' (Dj.new h13641.memR h13989.ownR (Nat.le_refl _)).symm (Dj.nil' _)
               have d13997 := Dj.app' (Dj.new h13921.memR h13989.ownR (Nat.le_refl _)).symm (Dj.nil' _)
               have d13998 := Dj.app' (Dj.new h13927.memR h13989.ownR (Nat.le_refl _)).symm (Dj.nil' _)
               have d13999 := Dj.app' (Dj.new h13927.mem h13989.ownR (Nat.le_refl _)).symm (Dj.nil' _)
               have fr14000 : Frs [] w0.heap.size _ := Frs.new hB.size h13989.lo
               replace h13989 := h13989.base (Nat.zero_le _)
               replace hB := hB.thru l
               replace h12582 := h12582.go l
               replace h13641 := h13641.go l
               replace h13921 := h13921.go l
               replace h13927 := h13927.go l
               refine x_end ?_
               refine x_tn ?_
               refine ⟨.inl l, ?_⟩
               refine b_e 11 rfl (by kernel_rfl) ?_
               refine o_rindex Tryz.underlying72 Tryz.sizeOf46 F rfl rfl rfl h13927 c13970 (fun a p14001 b14002 h14003 s14004 rp14005 F => ?_)
               refine x_end ?_
               refine x_tn ?_
               refine ⟨.inl (Below.refl _ _), ?_⟩
               refine b_e 12 rfl (by kernel_rfl) ?_
               refine o_rstore Tryz.sizeOf46 F rfl rfl rfl h13927 rp14005 (ix_lt c13970) (El.sl h13989.rd) (h13989.rd).r.one (Dj.symm d13998) (fun w ib14007 h14006 l s14008 keep => ?_)
               have fi14010 : Frs ib2 w0.heap.size _ := Frs.stor fi13929 (Frs.app (Frs.up fr14000) (Frs.nil _ _)) s14008
               have d14011 := keep _ h12582.m d13934
               have d14012 := keep _ h13641.rd.m d13935
               have d14013 := keep _ h13921.rd.m d13937
               replace hB := hB.oo l frA2
               replace h12582 := h12582.goO l d13934
               replace h13641 := h13641.goO l d13935
               replace h13921 := h13921.goO l d13937
               have d14014 := Dj.stor d13936 d13996 s14008
               have d14015 := Dj.stor d13933 d13997 s14008
               refine x_end ?_
               refine x_tn ?_
               refine ⟨.inr (by kernel_rfl), ?_⟩
               refine b_end (by kernel_rfl) ?_
               refine x_tn ?_
               refine x_seq ?_
               refine x_reg ?_
               refine o_move F rfl rfl (fun a F => ?_)
               refine o_move F rfl rfl (fun a F => ?_)
               refine o_move F rfl rfl (fun a F => ?_)
               refine o_move F rfl rfl (fun a F => ?_)
               refine o_rindex Tryz.underlying46 Tryz.sizeOf2 F rfl rfl rfl h13641 hxk13953 (fun a p14016 b14017 h14018 s14019 rp14020 F => ?_)
               have i14021 := (h14018).i64
               refine o_loadI Tryz.isAgg2 F rfl rfl h14018 (fun a F => ?_)
               refine o_move F rfl rfl (fun a F => ?_)
               refine o_build Tryz.underlying268 Tryz.zeroValue268 (fun w => by simp [Tryz.sizeOf2]; rfl) F rfl rfl rfl rfl rfl (oc rfl (oc rfl (oc rfl on))) rfl rfl (fun a F => ?_)
               have h14022 := RArcStep.mk2 (w := w) i13624 i14021 ikk12557
               refine o_lit1 (R := RArcStep) (y := (ArcStep.mk x13599 x13955 (k12557 : Int))) Tryz.underlying265 Tryz.sizeOf268 Tryz.zeroValue268 rfl (by decide) (by decide) F rfl rfl (El.agg h14022) (fun a w v14023 rb14024 h14025 l F => ?_)
               have d14027 := Dj.new h12582.m h14025.ownR (Nat.le_refl _)
               have d14028 := Dj.new h13641.rd.m h14025.ownR (Nat.le_refl _)
               have d14029 := Dj.new h13921.rd.m h14025.ownR (Nat.le_refl _)
               have d14030 := Dj.new h14006.rd.m h14025.ownR (Nat.le_refl _)
               have d14031 := Dj.app' (Dj.new h13641.memR h14025.ownR (Nat.le_refl _)).symm (Dj.nil' _)
               have d14032 := Dj.app' (Dj.new h13921.memR h14025.ownR (Nat.le_refl _)).symm (Dj.nil' _)
               have d14033 := Dj.app' (Dj.new h14006.memR h14025.ownR (Nat.le_refl _)).symm (Dj.nil' _)
               have d14034 := Dj.app' (Dj.new h14006.mem h14025.ownR (Nat.le_refl _)).symm (Dj.nil' _)
               have fr14035 : Frs [] w0.heap.size _ := Frs.new hB.size h14025.lo
               replace h14025 := h14025.base (Nat.zero_le _)
               replace hB := hB.thru l
               replace h12582 := h12582.go l
               replace h13641 := h13641.go l
               replace h13921 := h13921.go l
               replace h14006 := h14006.go l
               obtain ⟨z14036, c14037, hR⟩ := bnd_some hR
               refine o_append (sz := 3) (R := RArcStep) (z := (.agg #[.int .i64 0, .int .i64 0, .int .i64 0])) (bytes := 24) Tryz.underlying265 (by kernel_rfl) rfl (by decide) (by decide) (by decide) F rfl rfl rfl h13921 h14025.src (Nat.zero_le _) (Dj.nil _) c14037 (fun a w v14038 rb14039 h14040 l keep F => ?_)
               replace h14040 := row_nil2 h14040
               have fr14042 := Frs.keep fr13924 hB.size keep
               have d14043 := keep _ h12582.m d13930
               have d14044 := keep _ h13641.rd.m d13931
               have d14045 := keep _ h14006.rd.m d14015
               replace hB := hB.oo l (Frs.up fr13924)
               replace h12582 := h12582.goO l d13930
               replace h13641 := h13641.goO l d13931
               replace h14006 := h14006.goO l d14015
               refine o_assign F rfl rfl (fun a F => ?_)
               refine x_end ?_
               refine x_tn ?_
               refine x_seq ?_
               obtain ⟨o14059, hR, hk14060⟩ := thn_some hR
               refine x_cutQ (fun a w => ∃ (s14062 : Bool), o14059 = .nx s14062 ∧ Sk a 126 [(0, v0), (1, v1), (2, v2), (3, .bool x3), (9, v14038), (11, .int .i64 (s9411.length : Int)), (12, .int .i64 (k12557 : Int)), (13, p12580), (14, .int .i64 (k13597 : Int)), (15, .int .i64 x13599), (16, v13638), (17, .int .i64 (k13953 : Int)), (123, .bool s14062)] ∧ Only rb2 w0 w ∧ Rd (Pt 2 RCon) w p12580 x12559 b12581 ∧ Row 1 RInt 2 0 w v13638 z13636 rb13639 ([]) ∧ Row 1 (RSl 1 RInt) 46 0 w v2 (s13925.set (x13599).toNat z13984) rb2 ib14007 ∧ Row 3 RArcStep 268 0 w v14038 z14036 rb14039 ([])) ?_ ?_
               ·
                refine x_reg ?_
                refine o_move F rfl rfl (fun a F => ?_)
                refine o_move F rfl rfl (fun a F => ?_)
                rcases bcases x3 with hb14063 | hb14063
                ·
                 replace hR := ifT hb14063 hR
                 have F := F.eq (t := 116) rfl (congrArg Value.bool hb14063)
                 refine o_move F rfl rfl (fun a F => ?_)
                 refine o_move F rfl rfl (fun a F => ?_)
                 obtain ⟨z14064, c14065, hR⟩ := bnd_some hR
                 refine o_rindex Tryz.underlying72 Tryz.sizeOf46 F rfl rfl rfl h14006 c14065 (fun a p14066 b14067 h14068 s14069 rp14070 F => ?_)
                 refine o_loadS Tryz.isAgg46 F rfl rfl h14068 (fun a v14071 b14072 h14073 s14074 F => ?_)
                 refine o_len Tryz.underlying46 F rfl rfl h14073 (fun a F => ?_)
                 have i14075 := (h14073).r.len64
                 refine o_eql F rfl rfl rfl (fun a F => ?_)
                 refine o_pickt F rfl rfl rfl (fun a F => ?_)
                 refine x_end ?_
                 refine x_tn ?_
                 exact ⟨((z14064.length : Int) == 0), (Option.some.inj hR).symm, F.sub (sc rfl (sc rfl (sc rfl (sc rfl (sc rfl (sc rfl (sc rfl (sc rfl (sc rfl (sc rfl (sc rfl (sc rfl (sc rfl sn))))))))))))), hB, h12582, h13641, h14006, h14040⟩
                ·
                 replace hR := ifF hb14063 hR
                 have F := F.eq (t := 116) rfl (congrArg Value.bool hb14063)
                 refine o_no F rfl rfl (fun a F => ?_)
                 refine o_no F rfl rfl (fun a F => ?_)
                 refine o_no F rfl rfl (fun a F => ?_)
                 refine o_no F rfl rfl (fun a F => ?_)
                 refine o_no F rfl rfl (fun a F => ?_)
                 refine o_no F rfl rfl (fun a F => ?_)
                 refine o_pickf F rfl rfl rfl (fun a F => ?_)
                 refine x_end ?_
                 refine x_tn ?_
                 exact ⟨false, (Option.some.inj hR).symm, F.sub (sc rfl (sc rfl (sc rfl (sc rfl (sc rfl (sc rfl (sc rfl (sc rfl (sc rfl (sc rfl (sc rfl (sc rfl (sc rfl sn))))))))))))), hB, h12582, h13641, h14006, h14040⟩
               ·
                intro a w ⟨s14062, ho14061, F, hB, h12582, h13641, h14006, h14040⟩
                subst ho14061
                have hR := then_nx hk14060
                refine x_tn ?_
                refine x_if F rfl (fun hb14076 => ?_) (fun hb14076 => ?_)
                ·
                 replace hR := ifT hb14076 hR
                 refine x_seq ?_
                 refine x_reg ?_
                 refine o_move F rfl rfl (fun a F => ?_)
                 refine o_assign F rfl rfl (fun a F => ?_)
                 refine x_end ?_
                 refine x_tn ?_
                 refine x_ret ?_
                 refine x_br ?_
                 refine x_tr ?_
                 refine x_tr ?_
                 replace hR := l_ret hR hn13916
                 refine x_br ?_
                 refine x_tr ?_
                 replace hR := j_ret hR hk13914
                 refine x_br ?_
                 refine x_tr ?_
                 refine x_tr ?_
                 replace hR := l_ret hR hn13566
                 refine x_br ?_
                 refine x_tr ?_
                 replace hR := j_ret hR hk13564
                 refine x_br ?_
                 refine x_tr ?_
                 refine x_tr ?_
                 replace hR := l_ret hR hn12528
                 refine x_br ?_
                 refine x_tr ?_
                 replace hR := j_ret hR hk12526
                 refine x_br ?_
                 refine x_tr ?_
                 replace hR := l_ret hR hn9408
                 refine x_br ?_
                 refine x_tr ?_
                 replace hR := j_ret hR hk9406
                 refine x_tr ?_
                 refine x_res1 F rfl (rv_t F rfl) ?_
                 obtain rfl := Option.some.inj hR
                 exact ⟨_, rfl, hB, v14038, rb14039, ib14007, rfl, (Row.rebase h14040 fr14042), (Dj.app' (Dj.symm (Dj.l d14045)) (Dj.nil' _)), d14045, h14006, fi14010⟩
                ·
                 replace hR := ifF hb14076 hR
                 refine x_skip ?_
                 refine x_bn ?_
                 refine x_tn ?_
                 refine x_reg ?_
                 refine o_move F rfl rfl (fun a F => ?_)
                 refine o_inc F rfl rfl rfl ink13953 (fun a F => ?_)
                 refine o_assign F rfl rfl (fun a F => ?_)
                 refine x_end ?_
                 refine x_tn ?_
                 replace hR := l_go hR hn13916
                 exact ⟨_, Nat.lt_succ_self _, k13953 + 1, rest13954, z14036, v14038, rb14039, (s13925.set (x13599).toNat z13984), ib14007, ⟨hd13957.1, hd13957.2.2⟩, rfl, hR, F.sub (sc rfl (sc rfl (sc rfl (sc rfl (sc rfl (sc rfl (sc rfl (sc rfl (sc rfl (sc rfl (sc rfl (sc rfl sn)))))))))))), hB, h14040, fr14042, h14006, fi14010, h12582, h13641, d14043, d14044, (Dj.app' (Dj.symm (Dj.l d14044)) (Dj.nil' _)), d14045, d14011, d14012, d14014, (Dj.app' (Dj.symm (Dj.l d14045)) (Dj.nil' _))⟩
              ·
               replace hR := ifF hb13968 hR
               refine x_skip ?_
               refine x_bn ?_
               refine x_tn ?_
               refine x_reg ?_
               refine o_move F rfl rfl (fun a F => ?_)
               refine o_inc F rfl rfl rfl ink13953 (fun a F => ?_)
               refine o_assign F rfl rfl (fun a F => ?_)
               refine x_end ?_
               refine x_tn ?_
               replace hR := l_go hR hn13916
               exact ⟨_, Nat.lt_succ_self _, k13953 + 1, rest13954, s13919, v13922, rb13923, s13925, ib13928, ⟨hd13957.1, hd13957.2.2⟩, rfl, hR, F.sub (sc rfl (sc rfl (sc rfl (sc rfl (sc rfl (sc rfl (sc rfl (sc rfl (sc rfl (sc rfl (sc rfl (sc rfl sn)))))))))))), hB, h13921, fr13924, h13927, fi13929, h12582, h13641, d13930, d13931, d13932, d13933, d13934, d13935, d13936, d13937⟩
           ·
            intro a w ⟨s13938, v13941, rb13942, s13944, ib13947, ho13915, F, hB, h13940, fr13943, h13946, fi13948, h12582, d13949, d13950, d13951, d13952⟩
            subst ho13915
            have hR := then_nx hk13914
            refine x_bn ?_
            refine x_tn ?_
            refine x_reg ?_
            refine o_move F rfl rfl (fun a F => ?_)
            refine o_inc F rfl rfl rfl ink13597 (fun a F => ?_)
            refine o_assign F rfl rfl (fun a F => ?_)
            refine x_end ?_
            refine x_tn ?_
            replace hR := l_go hR hn13566
            exact ⟨_, Nat.lt_succ_self _, k13597 + 1, rest13598, s13938, v13941, rb13942, s13944, ib13947, ⟨hd13601.1, hd13601.2.2⟩, rfl, hR, F.sub (sc rfl (sc rfl (sc rfl (sc rfl (sc rfl (sc rfl (sc rfl (sc rfl (sc rfl sn))))))))), hB, h13940, fr13943, h13946, fi13948, h12582, d13949, d13950, d13951, d13952⟩
        ·
         intro a w ⟨s13584, v13587, rb13588, s13590, ib13593, ho13565, F, hB, h13586, fr13589, h13592, fi13594, d13595, d13596⟩
         subst ho13565
         have hR := then_nx hk13564
         refine x_bn ?_
         refine x_tn ?_
         refine x_reg ?_
         refine o_move F rfl rfl (fun a F => ?_)
         refine o_inc F rfl rfl rfl ink12557 (fun a F => ?_)
         refine o_assign F rfl rfl (fun a F => ?_)
         refine x_end ?_
         refine x_tn ?_
         replace hR := l_go hR hn12528
         exact ⟨_, Nat.lt_succ_self _, k12557 + 1, rest12558, s13584, v13587, rb13588, s13590, ib13593, ⟨hd12561.1, hd12561.2.2⟩, rfl, hR, F.sub (sc rfl (sc rfl (sc rfl (sc rfl (sc rfl (sc rfl (sc rfl sn))))))), hB, h13586, fr13589, h13592, fi13594, d13595, d13596⟩
     ·
      intro a w ⟨s12544, v12547, rb12548, s12550, ib12553, ho12527, F, hB, h12546, fr12549, h12552, fi12554, d12555, d12556⟩
      subst ho12527
      have hR := then_nx hk12526
      refine x_bn ?_
      refine x_tn ?_
      replace hR := l_go hR hn9408
      exact ⟨rest9442, (by omega), s12544, v12547, rb12548, (s9411.length : Int), s12550, ib12553, hR, F.sub (sc rfl (sc rfl (sc rfl (sc rfl (sc rfl (sc rfl sn)))))), hB, h12546, fr12549, i9449, h12552, fi12554, d12555, d12556⟩
    ·
     replace hR := ifF hb9448 hR
     refine x_exit ?_
     refine x_te ?_
     refine x_te ?_
     replace hR := l_brk hR hn9408
     refine x_be ?_
     refine x_tn ?_
     exact ⟨s9411, v9414, rb9415, s9417, s9419, ib9422, (Option.some.inj hR).symm, F.sub (sc rfl (sc rfl sn)), hB, h9413, fr9416, i9418, h9421, fi9423, d9424, d9425⟩
  ·
   intro a w ⟨s9426, v9429, rb9430, s9432, s9434, ib9437, ho9407, F, hB, h9428, fr9431, i9433, h9436, fi9438, d9439, d9440⟩
   subst ho9407
   have hR := then_nx hk9406
   refine x_tn ?_
   refine x_seq ?_
   refine x_reg ?_
   refine o_move F rfl rfl (fun a F => ?_)
   refine o_assign F rfl rfl (fun a F => ?_)
   refine x_end ?_
   refine x_tn ?_
   refine x_ret ?_
   refine x_res1 F rfl (rv_t F rfl) ?_
   obtain rfl := Option.some.inj hR
   exact ⟨_, rfl, hB, v9429, rb9430, ib9437, rfl, (Row.rebase h9428 fr9431), d9440, d9439, h9436, fi9438⟩
end Go.Proofs.YtfepllddlmhjiaaGreat
