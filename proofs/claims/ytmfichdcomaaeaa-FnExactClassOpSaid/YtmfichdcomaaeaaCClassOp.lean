/-
  The program's ClassOp returns what the reference's returns, for all arguments. No condition.
-/
import Derived.Test.YtmfichdcomaaeaaW4
import Derived.Test.YtmfichdcomaaeaaP
namespace Go.Proofs.Ytmfichdcomaaeaa
set_option linter.unusedVariables false
set_option linter.unusedSimpArgs false
open Go.ChangeShapes Go.WideShapes Go.ChangeAt Go.RowKit Go.Deep
set_option maxRecDepth 100000
theorem classOp_I64 (k : Int) : I64 (classOpR k).arity ∧ (classOpR k).table.length ≤ 8 := by
  unfold classOpR
  split
  · unfold classOpL classArity classTable
    refine ⟨?_, ?_⟩
    · dsimp only
      repeat' split
      all_goals exact ⟨by decide, by decide⟩
    · dsimp only
      repeat' split
      all_goals decide
  · exact ⟨⟨by decide, by decide⟩, by simp⟩

set_option maxHeartbeats 4000000 in
theorem walk_FnExactClassOp (a0 : Int) (i0 : I64 a0) {w : World} :
    Calls Try.prog 5 #[.int .i64 a0] w (Says (.bool true) w) := by
  obtain ⟨y0, hy0⟩ : ∃ y, y = (classOpR a0) := ⟨_, rfl⟩
  obtain ⟨y1, hy1⟩ : ∃ y, y = (classOpC a0) := ⟨_, rfl⟩
  have hcnt := (classOp_I64 a0).2
  have hsp := hd (fun W => specClassOp_any a0 W)
  have him := hd (fun W => implClassOpT_any a0 W)
  rw [← hy0] at hsp him hcnt
  rw [← hy1] at hsp him
  have hs8 : y0.cnt ≤ 8 := by unfold Op.cnt; rw [cntI]; omega
  have hctG := hd (show (1 : Int) + (y0.cnt : Nat) ≤ 4611686018427387904 by omega)
  have hlt0 := hctG.out
  clear hy0 hy1 hcnt
  have hcc : (y1 != y1) = false := by simp
  go_enter Try.func5, Try.ntmps5
  go_wp2_with fail
  (with_reducible refine (hsp.out _).mono ?_)
  rintro e p0 ⟨uW, dW, rfl, xW, zW, Lp0⟩
  have Bp0 : Below w.heap.size w p0 := Below.through Lp0 (by repeat (first | with_reducible exact Below.refl _ _ | ((with_reducible refine Below.setCell ?_ ?_ _); rotate_left; focus (first | (simp; done) | (simp; omega) | omega)) | ((with_reducible refine Below.alloc ?_ ?_ _); rotate_left; focus (first | (simp; done) | (simp; omega) | omega)) | with_reducible apply Below.drew))
  have Sp0 : w.heap.size + 0 ≤ p0.heap.size := (by have h := Lp0.size; first | exact h | (simp at h; omega) | omega)
  have Zp0 := Bp0.size
  clear Lp0
  obtain ⟨vW1, bW1, rfl, gW0, gW1, hbW⟩ := ROp.open xW
  obtain ⟨aW1, nW1, rfl⟩ := gW1.val
  have VW_p0 : Agg 2 ROp p0 (.agg #[.int .i64 y0.arity, .slice aW1 y0.table.length nW1]) y0 dW := xW
  clear gW0 gW1 hbW
  have OW_p0 := zW
  have MW_p0 := OW_p0.inMem
  have loW : ∀ z ∈ dW, w.heap.size + 0 ≤ z := fun z hz => by have h := (OW_p0.2 z hz).1; first | exact h | (simp at h; omega)
  have hiW : ∀ z ∈ dW, z < p0.heap.size := MW_p0
  clear xW zW
  go_wp2_with fail
  (with_reducible refine (him.out _).mono ?_)
  rintro e p1 ⟨uG, dG, rfl, xG, zG, Lp1⟩
  have Bp1 : Below w.heap.size w p1 := Below.through Lp1 (by repeat (first | with_reducible exact Below.refl _ _ | with_reducible exact Bp0 | ((with_reducible refine Below.setCell ?_ ?_ _); rotate_left; focus (first | (simp; done) | (simp; omega) | omega)) | ((with_reducible refine Below.alloc ?_ ?_ _); rotate_left; focus (first | (simp; done) | (simp; omega) | omega)) | with_reducible apply Below.drew))
  have Sp1 : p0.heap.size + 1 ≤ p1.heap.size := (by have h := Lp1.size; first | exact h | (simp at h; omega) | omega)
  have Zp1 := Bp1.size
  have KW_p1 : Blk p1 p0.heap.size #[.int .i64 y0.arity, .slice aW1 y0.table.length nW1] 36 := Blk.thru (by (repeat (first | with_reducible apply Blk.drew | ((with_reducible refine Blk.new ?_); simp; done) | ((with_reducible refine Blk.new ?_); rfl) | with_reducible refine Blk.old ?_ _))) Lp1
  have EW_p1 : SameAt dW p0 p1 := SameAt.thru (by repeat (first | with_reducible exact SameAt.refl _ _ | ((with_reducible refine SameAt.alloc ?_ ?_ _); rotate_left; focus exact MW_p0.le (by first | (simp; done) | (simp; omega) | omega)) | with_reducible apply SameAt.drew)) (MW_p0.le (by first | (simp; done) | (simp; omega) | omega)) Lp1
  have VW_p1 := VW_p0.same ROp.fr EW_p1
  have MW_p1 : InMem dW p1 := MW_p0.le (by omega)
  have OW_p1 := OW_p0.same EW_p1
  clear EW_p1 VW_p0 OW_p0 MW_p0 Lp1
  have CW := KW_p1.cell
  have FW := KW_p1.lt
  obtain ⟨vG1, bG1, rfl, gG0, gG1, hbG⟩ := ROp.open xG
  obtain ⟨aG1, nG1, rfl⟩ := gG1.val
  have VG_p1 : Agg 2 ROp p1 (.agg #[.int .i64 y0.arity, .slice aG1 y0.table.length nG1]) y0 dG := xG
  clear gG0 gG1 hbG
  have OG_p1 := zG
  have MG_p1 := OG_p1.inMem
  have loG : ∀ z ∈ dG, p0.heap.size + 1 ≤ z := fun z hz => by have h := (OG_p1.2 z hz).1; first | exact h | (simp at h; omega)
  have hiG : ∀ z ∈ dG, z < p1.heap.size := MG_p1
  clear xG zG
  go_wp2_with fail
  (with_reducible refine (eqOp_any _ _ y0 dG dW _ ?_ ?_ ?_ ?_).mono ?_)
  · exact VG_p1.same ROp.fr (by repeat (first | with_reducible exact SameAt.refl _ _ | ((with_reducible refine SameAt.alloc ?_ ?_ _); rotate_left; focus exact MG_p1.le (by first | (simp; done) | (simp; omega) | omega)) | with_reducible apply SameAt.drew))
  · exact VW_p1.same ROp.fr (by repeat (first | with_reducible exact SameAt.refl _ _ | ((with_reducible refine SameAt.alloc ?_ ?_ _); rotate_left; focus exact MW_p1.le (by first | (simp; done) | (simp; omega) | omega)) | with_reducible apply SameAt.drew))
  · exact MG_p1.le (by first | (simp; done) | (simp; omega) | omega)
  · exact MW_p1.le (by first | (simp; done) | (simp; omega) | omega)
  rintro e p2 ⟨rfl, Lp2⟩
  have Bp2 : Below w.heap.size w p2 := Below.through Lp2 (by repeat (first | with_reducible exact Below.refl _ _ | with_reducible exact Bp1 | ((with_reducible refine Below.setCell ?_ ?_ _); rotate_left; focus (first | (simp; done) | (simp; omega) | omega)) | ((with_reducible refine Below.alloc ?_ ?_ _); rotate_left; focus (first | (simp; done) | (simp; omega) | omega)) | with_reducible apply Below.drew))
  have Sp2 : p1.heap.size + 1 ≤ p2.heap.size := (by have h := Lp2.size; first | exact h | (simp at h; omega) | omega)
  have Zp2 := Bp2.size
  have KW_p2 : Blk p2 p0.heap.size #[.int .i64 y0.arity, .slice aW1 y0.table.length nW1] 36 := Blk.thru (by (repeat (first | with_reducible exact KW_p1 | with_reducible apply Blk.drew | ((with_reducible refine Blk.new ?_); simp; done) | ((with_reducible refine Blk.new ?_); rfl) | with_reducible refine Blk.old ?_ _))) Lp2
  have KG_p2 : Blk p2 p1.heap.size #[.int .i64 y0.arity, .slice aG1 y0.table.length nG1] 36 := Blk.thru (by (repeat (first | with_reducible apply Blk.drew | ((with_reducible refine Blk.new ?_); simp; done) | ((with_reducible refine Blk.new ?_); rfl) | with_reducible refine Blk.old ?_ _))) Lp2
  have EW_p2 : SameAt dW p1 p2 := SameAt.thru (by repeat (first | with_reducible exact SameAt.refl _ _ | ((with_reducible refine SameAt.alloc ?_ ?_ _); rotate_left; focus exact MW_p1.le (by first | (simp; done) | (simp; omega) | omega)) | with_reducible apply SameAt.drew)) (MW_p1.le (by first | (simp; done) | (simp; omega) | omega)) Lp2
  have VW_p2 := VW_p1.same ROp.fr EW_p2
  have MW_p2 : InMem dW p2 := MW_p1.le (by omega)
  have OW_p2 := OW_p1.same EW_p2
  have EG_p2 : SameAt dG p1 p2 := SameAt.thru (by repeat (first | with_reducible exact SameAt.refl _ _ | ((with_reducible refine SameAt.alloc ?_ ?_ _); rotate_left; focus exact MG_p1.le (by first | (simp; done) | (simp; omega) | omega)) | with_reducible apply SameAt.drew)) (MG_p1.le (by first | (simp; done) | (simp; omega) | omega)) Lp2
  have VG_p2 := VG_p1.same ROp.fr EG_p2
  have MG_p2 : InMem dG p2 := MG_p1.le (by omega)
  have OG_p2 := OG_p1.same EG_p2
  clear CW
  clear FW
  clear EW_p2 VW_p1 OW_p1 MW_p1 EG_p2 VG_p1 OG_p1 MG_p1 KW_p1 Lp2
  have CW := KW_p2.cell
  have FW := KW_p2.lt
  have CG := KG_p2.cell
  have FG := KG_p2.lt
  go_wp2_with fail
  (with_reducible refine (markOp_any _ y0 1 dG w.heap.size _ ?_ ?_ ?_ ?_).mono ?_)
  · exact VG_p2.same ROp.fr (by repeat (first | with_reducible exact SameAt.refl _ _ | ((with_reducible refine SameAt.alloc ?_ ?_ _); rotate_left; focus exact MG_p2.le (by first | (simp; done) | (simp; omega) | omega)) | with_reducible apply SameAt.drew))
  · exact (OG_p2.mono (by first | omega | (simp; omega))).same (by repeat (first | with_reducible exact SameAt.refl _ _ | ((with_reducible refine SameAt.alloc ?_ ?_ _); rotate_left; focus exact MG_p2.le (by first | (simp; done) | (simp; omega) | omega)) | with_reducible apply SameAt.drew))
  · omega
  · have h := hctG.out; omega
  rintro e p3 ⟨rfl, Lp3, VG_p3, OG_p3⟩
  have Bp3 : Below w.heap.size w p3 := Below.trans (by repeat (first | with_reducible exact Below.refl _ _ | with_reducible exact Bp2 | ((with_reducible refine Below.setCell ?_ ?_ _); rotate_left; focus (first | (simp; done) | (simp; omega) | omega)) | ((with_reducible refine Below.alloc ?_ ?_ _); rotate_left; focus (first | (simp; done) | (simp; omega) | omega)) | with_reducible apply Below.drew)) (Only.below Lp3 (by first | (simp; done) | (simp; omega) | omega) (fun b hb => by have h1 := loG b hb; omega))
  have Sp3 : p2.heap.size + 0 ≤ p3.heap.size := (by have h := Lp3.size; first | exact h | (simp at h; omega) | omega)
  have Zp3 := Bp3.size
  have KW_p3 : Blk p3 p0.heap.size #[.int .i64 y0.arity, .slice aW1 y0.table.length nW1] 36 := Blk.only (by (repeat (first | with_reducible exact KW_p2 | with_reducible apply Blk.drew | ((with_reducible refine Blk.new ?_); simp; done) | ((with_reducible refine Blk.new ?_); rfl) | with_reducible refine Blk.old ?_ _))) Lp3 (fun hb => by have h1 := loG _ hb; have h2 := hiG _ hb; omega)
  have KG_p3 : Blk p3 p1.heap.size #[.int .i64 y0.arity, .slice aG1 y0.table.length nG1] 36 := Blk.only (by (repeat (first | with_reducible exact KG_p2 | with_reducible apply Blk.drew | ((with_reducible refine Blk.new ?_); simp; done) | ((with_reducible refine Blk.new ?_); rfl) | with_reducible refine Blk.old ?_ _))) Lp3 (fun hb => by have h1 := loG _ hb; have h2 := hiG _ hb; omega)
  have EW_p3 : SameAt dW p2 p3 := SameAt.only (by repeat (first | with_reducible exact SameAt.refl _ _ | ((with_reducible refine SameAt.alloc ?_ ?_ _); rotate_left; focus exact MW_p2.le (by first | (simp; done) | (simp; omega) | omega)) | with_reducible apply SameAt.drew)) (MW_p2.le (by first | (simp; done) | (simp; omega) | omega)) (fun x hx hx' => by have h0 := loW x hx; have h1 := hiW x hx; have h2 := loG x hx'; have h3 := hiG x hx'; omega) Lp3
  have VW_p3 := VW_p2.same ROp.fr EW_p3
  have MW_p3 : InMem dW p3 := MW_p2.le (by omega)
  have OW_p3 := OW_p2.same EW_p3
  clear CW
  clear FW
  clear CG
  clear FG
  clear EW_p3 VW_p2 OW_p2 MW_p2 VG_p2 MG_p2 OG_p2 KW_p2 KG_p2 Lp3
  have CW := KW_p3.cell
  have FW := KW_p3.lt
  have CG := KG_p3.cell
  have FG := KG_p3.lt
  have MG_p3 := OG_p3.inMem
  go_wp2_with fail
  (with_reducible refine (heldOp_any _ y0 1 dG _ ?_ ?_ ?_ ?_).mono ?_)
  · exact VG_p3.same ROp.fr (by repeat (first | with_reducible exact SameAt.refl _ _ | ((with_reducible refine SameAt.alloc ?_ ?_ _); rotate_left; focus exact MG_p3.le (by first | (simp; done) | (simp; omega) | omega)) | with_reducible apply SameAt.drew))
  · exact MG_p3.le (by first | (simp; done) | (simp; omega) | omega)
  · omega
  · have h := hctG.out; omega
  rintro e p4 ⟨rfl, Lp4⟩
  have Bp4 : Below w.heap.size w p4 := Below.through Lp4 (by repeat (first | with_reducible exact Below.refl _ _ | with_reducible exact Bp3 | ((with_reducible refine Below.setCell ?_ ?_ _); rotate_left; focus (first | (simp; done) | (simp; omega) | omega)) | ((with_reducible refine Below.alloc ?_ ?_ _); rotate_left; focus (first | (simp; done) | (simp; omega) | omega)) | with_reducible apply Below.drew))
  have Sp4 : p3.heap.size + 0 ≤ p4.heap.size := (by have h := Lp4.size; first | exact h | (simp at h; omega) | omega)
  have Zp4 := Bp4.size
  have KW_p4 : Blk p4 p0.heap.size #[.int .i64 y0.arity, .slice aW1 y0.table.length nW1] 36 := Blk.thru (by (repeat (first | with_reducible exact KW_p3 | with_reducible apply Blk.drew | ((with_reducible refine Blk.new ?_); simp; done) | ((with_reducible refine Blk.new ?_); rfl) | with_reducible refine Blk.old ?_ _))) Lp4
  have KG_p4 : Blk p4 p1.heap.size #[.int .i64 y0.arity, .slice aG1 y0.table.length nG1] 36 := Blk.thru (by (repeat (first | with_reducible exact KG_p3 | with_reducible apply Blk.drew | ((with_reducible refine Blk.new ?_); simp; done) | ((with_reducible refine Blk.new ?_); rfl) | with_reducible refine Blk.old ?_ _))) Lp4
  have EW_p4 : SameAt dW p3 p4 := SameAt.thru (by repeat (first | with_reducible exact SameAt.refl _ _ | ((with_reducible refine SameAt.alloc ?_ ?_ _); rotate_left; focus exact MW_p3.le (by first | (simp; done) | (simp; omega) | omega)) | with_reducible apply SameAt.drew)) (MW_p3.le (by first | (simp; done) | (simp; omega) | omega)) Lp4
  have VW_p4 := VW_p3.same ROp.fr EW_p4
  have MW_p4 : InMem dW p4 := MW_p3.le (by omega)
  have OW_p4 := OW_p3.same EW_p4
  have EG_p4 : SameAt dG p3 p4 := SameAt.thru (by repeat (first | with_reducible exact SameAt.refl _ _ | ((with_reducible refine SameAt.alloc ?_ ?_ _); rotate_left; focus exact MG_p3.le (by first | (simp; done) | (simp; omega) | omega)) | with_reducible apply SameAt.drew)) (MG_p3.le (by first | (simp; done) | (simp; omega) | omega)) Lp4
  have VG_p4 := VG_p3.same ROp.fr EG_p4
  have MG_p4 : InMem dG p4 := MG_p3.le (by omega)
  have OG_p4 := OG_p3.same EG_p4
  clear CW
  clear FW
  clear CG
  clear FG
  clear EW_p4 VW_p3 OW_p3 MW_p3 EG_p4 VG_p3 OG_p3 MG_p3 KW_p3 KG_p3 Lp4
  have CW := KW_p4.cell
  have FW := KW_p4.lt
  have CG := KG_p4.cell
  have FG := KG_p4.lt
  have hz : ¬ ((1 : Int) + (y0.cnt : Nat) < 0) := by omega
  have hz2 : ((1 : Int) + (y0.cnt : Nat) != 1 + (y0.cnt : Nat)) = false := by simp
  go_wp2_with fail
  (with_reducible refine (him.out _).mono ?_)
  rintro e p5 ⟨uH, dH, rfl, xH, zH, Lp5⟩
  have Bp5 : Below w.heap.size w p5 := Below.through Lp5 (by repeat (first | with_reducible exact Below.refl _ _ | with_reducible exact Bp4 | ((with_reducible refine Below.setCell ?_ ?_ _); rotate_left; focus (first | (simp; done) | (simp; omega) | omega)) | ((with_reducible refine Below.alloc ?_ ?_ _); rotate_left; focus (first | (simp; done) | (simp; omega) | omega)) | with_reducible apply Below.drew))
  have Sp5 : p4.heap.size + 0 ≤ p5.heap.size := (by have h := Lp5.size; first | exact h | (simp at h; omega) | omega)
  have Zp5 := Bp5.size
  have KW_p5 : Blk p5 p0.heap.size #[.int .i64 y0.arity, .slice aW1 y0.table.length nW1] 36 := Blk.thru (by (repeat (first | with_reducible exact KW_p4 | with_reducible apply Blk.drew | ((with_reducible refine Blk.new ?_); simp; done) | ((with_reducible refine Blk.new ?_); rfl) | with_reducible refine Blk.old ?_ _))) Lp5
  have KG_p5 : Blk p5 p1.heap.size #[.int .i64 y0.arity, .slice aG1 y0.table.length nG1] 36 := Blk.thru (by (repeat (first | with_reducible exact KG_p4 | with_reducible apply Blk.drew | ((with_reducible refine Blk.new ?_); simp; done) | ((with_reducible refine Blk.new ?_); rfl) | with_reducible refine Blk.old ?_ _))) Lp5
  have EW_p5 : SameAt dW p4 p5 := SameAt.thru (by repeat (first | with_reducible exact SameAt.refl _ _ | ((with_reducible refine SameAt.alloc ?_ ?_ _); rotate_left; focus exact MW_p4.le (by first | (simp; done) | (simp; omega) | omega)) | with_reducible apply SameAt.drew)) (MW_p4.le (by first | (simp; done) | (simp; omega) | omega)) Lp5
  have VW_p5 := VW_p4.same ROp.fr EW_p5
  have MW_p5 : InMem dW p5 := MW_p4.le (by omega)
  have OW_p5 := OW_p4.same EW_p5
  have EG_p5 : SameAt dG p4 p5 := SameAt.thru (by repeat (first | with_reducible exact SameAt.refl _ _ | ((with_reducible refine SameAt.alloc ?_ ?_ _); rotate_left; focus exact MG_p4.le (by first | (simp; done) | (simp; omega) | omega)) | with_reducible apply SameAt.drew)) (MG_p4.le (by first | (simp; done) | (simp; omega) | omega)) Lp5
  have VG_p5 := VG_p4.same ROp.fr EG_p5
  have MG_p5 : InMem dG p5 := MG_p4.le (by omega)
  have OG_p5 := OG_p4.same EG_p5
  clear CW
  clear FW
  clear CG
  clear FG
  clear EW_p5 VW_p4 OW_p4 MW_p4 EG_p5 VG_p4 OG_p4 MG_p4 KW_p4 KG_p4 Lp5
  have CW := KW_p5.cell
  have FW := KW_p5.lt
  have CG := KG_p5.cell
  have FG := KG_p5.lt
  obtain ⟨vH1, bH1, rfl, gH0, gH1, hbH⟩ := ROp.open xH
  obtain ⟨aH1, nH1, rfl⟩ := gH1.val
  have VH_p5 : Agg 2 ROp p5 (.agg #[.int .i64 y0.arity, .slice aH1 y0.table.length nH1]) y0 dH := xH
  clear gH0 gH1 hbH
  have OH_p5 := zH
  have MH_p5 := OH_p5.inMem
  have loH : ∀ z ∈ dH, p4.heap.size + 0 ≤ z := fun z hz => by have h := (OH_p5.2 z hz).1; first | exact h | (simp at h; omega)
  have hiH : ∀ z ∈ dH, z < p5.heap.size := MH_p5
  clear xH zH
  go_wp2_with fail
  (with_reducible refine (eqOp_any _ _ y0 dH dW _ ?_ ?_ ?_ ?_).mono ?_)
  · exact VH_p5.same ROp.fr (by repeat (first | with_reducible exact SameAt.refl _ _ | ((with_reducible refine SameAt.alloc ?_ ?_ _); rotate_left; focus exact MH_p5.le (by first | (simp; done) | (simp; omega) | omega)) | with_reducible apply SameAt.drew))
  · exact VW_p5.same ROp.fr (by repeat (first | with_reducible exact SameAt.refl _ _ | ((with_reducible refine SameAt.alloc ?_ ?_ _); rotate_left; focus exact MW_p5.le (by first | (simp; done) | (simp; omega) | omega)) | with_reducible apply SameAt.drew))
  · exact MH_p5.le (by first | (simp; done) | (simp; omega) | omega)
  · exact MW_p5.le (by first | (simp; done) | (simp; omega) | omega)
  rintro e p6 ⟨rfl, Lp6⟩
  have Bp6 : Below w.heap.size w p6 := Below.through Lp6 (by repeat (first | with_reducible exact Below.refl _ _ | with_reducible exact Bp5 | ((with_reducible refine Below.setCell ?_ ?_ _); rotate_left; focus (first | (simp; done) | (simp; omega) | omega)) | ((with_reducible refine Below.alloc ?_ ?_ _); rotate_left; focus (first | (simp; done) | (simp; omega) | omega)) | with_reducible apply Below.drew))
  have Sp6 : p5.heap.size + 1 ≤ p6.heap.size := (by have h := Lp6.size; first | exact h | (simp at h; omega) | omega)
  have Zp6 := Bp6.size
  have KW_p6 : Blk p6 p0.heap.size #[.int .i64 y0.arity, .slice aW1 y0.table.length nW1] 36 := Blk.thru (by (repeat (first | with_reducible exact KW_p5 | with_reducible apply Blk.drew | ((with_reducible refine Blk.new ?_); simp; done) | ((with_reducible refine Blk.new ?_); rfl) | with_reducible refine Blk.old ?_ _))) Lp6
  have KG_p6 : Blk p6 p1.heap.size #[.int .i64 y0.arity, .slice aG1 y0.table.length nG1] 36 := Blk.thru (by (repeat (first | with_reducible exact KG_p5 | with_reducible apply Blk.drew | ((with_reducible refine Blk.new ?_); simp; done) | ((with_reducible refine Blk.new ?_); rfl) | with_reducible refine Blk.old ?_ _))) Lp6
  have KH_p6 : Blk p6 p5.heap.size #[.int .i64 y0.arity, .slice aH1 y0.table.length nH1] 36 := Blk.thru (by (repeat (first | with_reducible apply Blk.drew | ((with_reducible refine Blk.new ?_); simp; done) | ((with_reducible refine Blk.new ?_); rfl) | with_reducible refine Blk.old ?_ _))) Lp6
  have EW_p6 : SameAt dW p5 p6 := SameAt.thru (by repeat (first | with_reducible exact SameAt.refl _ _ | ((with_reducible refine SameAt.alloc ?_ ?_ _); rotate_left; focus exact MW_p5.le (by first | (simp; done) | (simp; omega) | omega)) | with_reducible apply SameAt.drew)) (MW_p5.le (by first | (simp; done) | (simp; omega) | omega)) Lp6
  have VW_p6 := VW_p5.same ROp.fr EW_p6
  have MW_p6 : InMem dW p6 := MW_p5.le (by omega)
  have OW_p6 := OW_p5.same EW_p6
  have EG_p6 : SameAt dG p5 p6 := SameAt.thru (by repeat (first | with_reducible exact SameAt.refl _ _ | ((with_reducible refine SameAt.alloc ?_ ?_ _); rotate_left; focus exact MG_p5.le (by first | (simp; done) | (simp; omega) | omega)) | with_reducible apply SameAt.drew)) (MG_p5.le (by first | (simp; done) | (simp; omega) | omega)) Lp6
  have VG_p6 := VG_p5.same ROp.fr EG_p6
  have MG_p6 : InMem dG p6 := MG_p5.le (by omega)
  have OG_p6 := OG_p5.same EG_p6
  have EH_p6 : SameAt dH p5 p6 := SameAt.thru (by repeat (first | with_reducible exact SameAt.refl _ _ | ((with_reducible refine SameAt.alloc ?_ ?_ _); rotate_left; focus exact MH_p5.le (by first | (simp; done) | (simp; omega) | omega)) | with_reducible apply SameAt.drew)) (MH_p5.le (by first | (simp; done) | (simp; omega) | omega)) Lp6
  have VH_p6 := VH_p5.same ROp.fr EH_p6
  have MH_p6 : InMem dH p6 := MH_p5.le (by omega)
  have OH_p6 := OH_p5.same EH_p6
  clear CW
  clear FW
  clear CG
  clear FG
  clear EW_p6 VW_p5 OW_p5 MW_p5 EG_p6 VG_p5 OG_p5 MG_p5 EH_p6 VH_p5 OH_p5 MH_p5 KW_p5 KG_p5 Lp6
  have CW := KW_p6.cell
  have FW := KW_p6.lt
  have CG := KG_p6.cell
  have FG := KG_p6.lt
  have CH := KH_p6.cell
  have FH := KH_p6.lt
  go_wp2_with fail
  (with_reducible refine (heldOp_any _ y0 1 dG _ ?_ ?_ ?_ ?_).mono ?_)
  · exact VG_p6.same ROp.fr (by repeat (first | with_reducible exact SameAt.refl _ _ | ((with_reducible refine SameAt.alloc ?_ ?_ _); rotate_left; focus exact MG_p6.le (by first | (simp; done) | (simp; omega) | omega)) | with_reducible apply SameAt.drew))
  · exact MG_p6.le (by first | (simp; done) | (simp; omega) | omega)
  · omega
  · have h := hctG.out; omega
  rintro e p7 ⟨rfl, Lp7⟩
  have Bp7 : Below w.heap.size w p7 := Below.through Lp7 (by repeat (first | with_reducible exact Below.refl _ _ | with_reducible exact Bp6 | ((with_reducible refine Below.setCell ?_ ?_ _); rotate_left; focus (first | (simp; done) | (simp; omega) | omega)) | ((with_reducible refine Below.alloc ?_ ?_ _); rotate_left; focus (first | (simp; done) | (simp; omega) | omega)) | with_reducible apply Below.drew))
  have Sp7 : p6.heap.size + 0 ≤ p7.heap.size := (by have h := Lp7.size; first | exact h | (simp at h; omega) | omega)
  have Zp7 := Bp7.size
  have KW_p7 : Blk p7 p0.heap.size #[.int .i64 y0.arity, .slice aW1 y0.table.length nW1] 36 := Blk.thru (by (repeat (first | with_reducible exact KW_p6 | with_reducible apply Blk.drew | ((with_reducible refine Blk.new ?_); simp; done) | ((with_reducible refine Blk.new ?_); rfl) | with_reducible refine Blk.old ?_ _))) Lp7
  have KG_p7 : Blk p7 p1.heap.size #[.int .i64 y0.arity, .slice aG1 y0.table.length nG1] 36 := Blk.thru (by (repeat (first | with_reducible exact KG_p6 | with_reducible apply Blk.drew | ((with_reducible refine Blk.new ?_); simp; done) | ((with_reducible refine Blk.new ?_); rfl) | with_reducible refine Blk.old ?_ _))) Lp7
  have KH_p7 : Blk p7 p5.heap.size #[.int .i64 y0.arity, .slice aH1 y0.table.length nH1] 36 := Blk.thru (by (repeat (first | with_reducible exact KH_p6 | with_reducible apply Blk.drew | ((with_reducible refine Blk.new ?_); simp; done) | ((with_reducible refine Blk.new ?_); rfl) | with_reducible refine Blk.old ?_ _))) Lp7
  have EW_p7 : SameAt dW p6 p7 := SameAt.thru (by repeat (first | with_reducible exact SameAt.refl _ _ | ((with_reducible refine SameAt.alloc ?_ ?_ _); rotate_left; focus exact MW_p6.le (by first | (simp; done) | (simp; omega) | omega)) | with_reducible apply SameAt.drew)) (MW_p6.le (by first | (simp; done) | (simp; omega) | omega)) Lp7
  have VW_p7 := VW_p6.same ROp.fr EW_p7
  have MW_p7 : InMem dW p7 := MW_p6.le (by omega)
  have OW_p7 := OW_p6.same EW_p7
  have EG_p7 : SameAt dG p6 p7 := SameAt.thru (by repeat (first | with_reducible exact SameAt.refl _ _ | ((with_reducible refine SameAt.alloc ?_ ?_ _); rotate_left; focus exact MG_p6.le (by first | (simp; done) | (simp; omega) | omega)) | with_reducible apply SameAt.drew)) (MG_p6.le (by first | (simp; done) | (simp; omega) | omega)) Lp7
  have VG_p7 := VG_p6.same ROp.fr EG_p7
  have MG_p7 : InMem dG p7 := MG_p6.le (by omega)
  have OG_p7 := OG_p6.same EG_p7
  have EH_p7 : SameAt dH p6 p7 := SameAt.thru (by repeat (first | with_reducible exact SameAt.refl _ _ | ((with_reducible refine SameAt.alloc ?_ ?_ _); rotate_left; focus exact MH_p6.le (by first | (simp; done) | (simp; omega) | omega)) | with_reducible apply SameAt.drew)) (MH_p6.le (by first | (simp; done) | (simp; omega) | omega)) Lp7
  have VH_p7 := VH_p6.same ROp.fr EH_p7
  have MH_p7 : InMem dH p7 := MH_p6.le (by omega)
  have OH_p7 := OH_p6.same EH_p7
  clear CW
  clear FW
  clear CG
  clear FG
  clear CH
  clear FH
  clear EW_p7 VW_p6 OW_p6 MW_p6 EG_p7 VG_p6 OG_p6 MG_p6 EH_p7 VH_p6 OH_p6 MH_p6 KW_p6 KG_p6 KH_p6 Lp7
  have CW := KW_p7.cell
  have FW := KW_p7.lt
  have CG := KG_p7.cell
  have FG := KG_p7.lt
  have CH := KH_p7.cell
  have FH := KH_p7.lt
  go_wp2
  go_ret
  exact ⟨rfl, Bp7⟩
/-- What the row asks. -/
theorem own_FnExactClassOp : ownKnob Try.prog.godebug = none := by kernel_rfl
set_option maxRecDepth 100000 in
theorem lifted_FnExactClassOp (os : Os) (started : os.Started) (H : Type) (enc : TypeId × Value → H) :
    ReturnsInHanded {} Try.checked os 5 .any (Rows.fnExactClassOpSpec.pre6 enc Try.prog Try.f5 Rows.fnExactClassOpRow.domain false) (Rows.fnExactClassOpSpec.post enc Try.prog Try.f5 false true false false) := by
  refine returnsInHanded_of_change (C := Try.checked) own_FnExactClassOp started (by kernel_rfl) Try.func5
    (ChangeSpec.witness6 (enc := enc) (C := Try.checked) false ⟨#[], #[.int .i64 0], []⟩ 12 (by kernel_rfl) (by kernel_rfl) (by kernel_rfl) (by kernel_rfl)) ?_
  intro W base args ds gs before hval0 hW hcnd _
  have hval : ∀ (j : Nat) t v, Try.f5.params[j]? = some t → args[j]? = some v → Value.okWide Try.prog W .any base t v := hval0
  have hW' := hW
  obtain ⟨p, q, hA0, hV, rfl, hfz, hnd⟩ := hW
  have hA : DataW.TrodAll enc Try.prog W 0 (fun _ => true) true Try.f5.params.toList args.toList ds p := hA0
  rw [Try.params5] at hA hval
  obtain ⟨v0, vs0, d0, ds0, p0, q0, hargs, rfl, rfl, h0, r0⟩ := trodAll_cons hA
  obtain ⟨rfl, rfl, rfl⟩ := trodAll_nil r0
  obtain rfl : args = #[v0] := by cases args; simp_all
  obtain ⟨rfl, rfl⟩ := trodVars_none hV
  obtain ⟨a0, rfl, rfl, rfl, w0⟩ := open_int Try.underlying2 (hval 0 2 v0 rfl rfl) h0
  have b0 : I64 a0 := bounds_i64 w0
  clear hval0
  refine (walk_FnExactClassOp a0 b0).mono fun e W' ⟨he, hg⟩ => ?_
  subst he
  exact ⟨_, rfl, _, _, _, [], _, [], hW', trodAll_cons_mk (shut_bool Try.underlying4 true) trodAll_mk0, (trodAll_cons_mk (shut_int Try.underlying2 w0) trodAll_mk0), rfl, hg.frame _, fun h => by cases h⟩
theorem FnExactClassOp_holds : Rows.FnExactClassOpSaid :=
  OpenClaim.holds_of_wide 5 Try.f5 rfl rfl rfl rfl rfl rfl rfl ⟨rfl, rfl, rfl, rfl, rfl⟩ rfl rfl rfl rfl rfl (by kernel_rfl) Try.func5 (by kernel_rfl)
    (of_decide_eq_true (by kernel_rfl)) (by unfold Func.isWrapper; first | (rw [if_pos (by decide +kernel)]; kernel_rfl) | (rw [if_neg (by decide +kernel)]; exact ⟨rfl, rfl⟩))
    (fun os started H enc _ => lifted_FnExactClassOp os started H enc)
end Go.Proofs.Ytmfichdcomaaeaa
