/-
  The program's SameGadgets returns what the reference's returns, for all arguments. No condition.
-/
import Derived.Test.YtmfichdcomaaeaaW7
import Derived.Test.YtmfichdcomaaeaaP
import Derived.Deep.CutRange
namespace Go.Proofs.Ytmfichdcomaaeaa
set_option linter.unusedVariables false
set_option linter.unusedSimpArgs false
open Go.ChangeShapes Go.WideShapes Go.ChangeAt Go.RowKit Go.Deep
set_option maxRecDepth 100000

set_option maxHeartbeats 8000000 in
theorem walk_FnExactSameGadgets (v1 : Value) (x : Gadgets) (bs1 : List Nat) {w : World} (h1 : Agg 1 RGadgets w v1 x bs1) (hm1 : InMem bs1 w) (v2 : Value) (y : Gadgets) (bs2 : List Nat) (h2 : Agg 1 RGadgets w v2 y bs2) (hm2 : InMem bs2 w) :
    Calls Try.prog 6 #[v1, v2] w (Says (.bool true) w) := by
  obtain ⟨u1, b1, rfl, g0, hbs1⟩ := RGadgets.open h1
  obtain ⟨a1, n1, rfl⟩ := g0.val
  obtain ⟨u2, b2, rfl, k0, hbs2⟩ := RGadgets.open h2
  obtain ⟨a2, n2, rfl⟩ := k0.val
  clear h1 h2
  rw [hbs1] at hm1
  rw [hbs2] at hm2
  clear hbs1 hbs2
  have cG := hd (show ∀ W, Below w.heap.size w W → Agg 1 RGadgets W (.agg #[.slice a1 x.formulas.length n1]) x b1 ∧ InMem b1 W from fun W hW => ⟨(RGadgets.mk' g0).same RGadgets.fr (hm1.same hW), hm1.le hW.size⟩)
  have cH := hd (show ∀ W, Below w.heap.size w W → Agg 1 RGadgets W (.agg #[.slice a2 y.formulas.length n2]) y b2 ∧ InMem b2 W from fun W hW => ⟨(RGadgets.mk' k0).same RGadgets.fr (hm2.same hW), hm2.le hW.size⟩)
  clear g0 k0 hm1 hm2
  generalize x.formulas.length = lx at *
  generalize y.formulas.length = ly at *
  go_enter Try.func6, Try.ntmps6
  go_wp2_with fail
  (with_reducible refine (szGadgets_any _ x _ b1 _ (cG.out _ (by repeat (first | with_reducible exact Below.refl _ _ | ((with_reducible refine Below.setCell ?_ ?_ _); rotate_left; focus first | (simp; done) | (simp; omega)) | ((with_reducible refine Below.alloc ?_ ?_ _); rotate_left; focus (first | (simp; done) | (simp; omega))) | with_reducible apply Below.drew))).1 (cG.out _ (by repeat (first | with_reducible exact Below.refl _ _ | ((with_reducible refine Below.setCell ?_ ?_ _); rotate_left; focus first | (simp; done) | (simp; omega)) | ((with_reducible refine Below.alloc ?_ ?_ _); rotate_left; focus (first | (simp; done) | (simp; omega))) | with_reducible apply Below.drew))).2 (by decide) (by decide)).mono ?_)
  rintro e p0 ⟨rfl, l0⟩
  have B0 : Below w.heap.size w p0 := Below.through l0 (by repeat (first | with_reducible exact Below.refl _ _ | ((with_reducible refine Below.setCell ?_ ?_ _); rotate_left; focus first | (simp; done) | (simp; omega)) | ((with_reducible refine Below.alloc ?_ ?_ _); rotate_left; focus (first | (simp; done) | (simp; omega))) | with_reducible apply Below.drew))
  have KA : Blk p0 w.heap.size #[.slice a1 lx n1] 44 := Blk.thru (by repeat (first | ((with_reducible refine Blk.new ?_); simp; done) | with_reducible refine Blk.old ?_ _)) l0
  have KH : Blk p0 (w.heap.size + 1) #[.slice a2 ly n2] 44 := Blk.thru (by repeat (first | ((with_reducible refine Blk.new ?_); simp; done) | with_reducible refine Blk.old ?_ _)) l0
  have CA := KA.cell
  have CH := KH.cell
  clear l0
  by_cases hx : x.sz ≤ 1048576
  · obtain ⟨z, hz⟩ : ∃ z, z = szR 1048576 x.sz := ⟨_, rfl⟩
    rw [← hz]
    have hz' : z = 1048576 - (x.sz : Int) := by rw [hz]; exact if_pos (by omega)
    have hz0 : 0 ≤ z := by omega
    have hz1 := hd (show z ≤ 1048576 ∧ z = 1048576 - (x.sz : Int) by omega)
    have hx' := hd hx
    clear hz hz' hx
    go_wp2_with fail
    (with_reducible refine (szGadgets_any _ y _ b2 _ (cH.out _ (by repeat (first | with_reducible exact B0 | with_reducible apply Below.drew))).1 (cH.out _ (by repeat (first | with_reducible exact B0 | with_reducible apply Below.drew))).2 hz0 hz1.out.1).mono ?_)
    rintro e p1 ⟨rfl, l1⟩
    have B1 : Below w.heap.size w p1 := Below.through l1 (by repeat (first | with_reducible exact B0 | with_reducible apply Below.drew))
    have KA1 := Blk.thru KA l1
    have KH1 := Blk.thru KH l1
    clear KA KH CA CH l1
    have CA := KA1.cell
    have CH := KH1.cell
    by_cases hy : (y.sz : Int) ≤ z
    · obtain ⟨z2, hz2⟩ : ∃ z2, z2 = szR z y.sz := ⟨_, rfl⟩
      rw [← hz2]
      have hz3 : z2 = z - (y.sz : Int) := by rw [hz2]; exact if_pos hy
      have hz4 : 0 ≤ z2 := by omega
      have hy' := hd (show y.sz ≤ 1048576 by have := hz1.out; omega)
      clear hz2 hz3 hz1 hz0 hy
      have cTG := hd (show ∀ W, Below w.heap.size w W → Calls Try.prog 25 #[.agg #[.slice a1 lx n1]] W (RetAgg 1 RGadgets x W) from fun W hW => toGadgets_any _ x b1 W (cG.out W hW).1 (cG.out W hW).2 hx'.out)
      have cTH := hd (show ∀ W, Below w.heap.size w W → Calls Try.prog 25 #[.agg #[.slice a2 ly n2]] W (RetAgg 1 RGadgets y W) from fun W hW => toGadgets_any _ y b2 W (cH.out W hW).1 (cH.out W hW).2 hy'.out)
      clear cG cH hx' hy'
      go_upto_region 8 with fail
      go_cut [6] from 20 to 24 (fun s6 wx => s6 = .bool (eqB x y) ∧ Below w.heap.size w wx ∧ Blk wx w.heap.size #[.slice a1 lx n1] 44 ∧ Blk wx (w.heap.size + 1) #[.slice a2 ly n2] 44)
      case first =>
        go_region_with (first
          | (go_at_call 24; (first | refine (specSameGadgets_any _ _ x y bs1 bs2 _ (hv1.same RGadgets.fr (im1.same (by repeat (first | exact Below.refl _ _ | apply Below.drew)))) (hv2.same RGadgets.fr (im2.same (by repeat (first | exact Below.refl _ _ | apply Below.drew)))) (im1.le (Below.size (B := w2.heap.size) (by repeat (first | exact Below.refl _ _ | apply Below.drew)))) (im2.le (Below.size (B := w2.heap.size) (by repeat (first | exact Below.refl _ _ | apply Below.drew))))).mono ?_ | refine (specSameGadgets_any _ _ x y bs2 bs1 _ (hv2.same RGadgets.fr (im2.same (by repeat (first | exact Below.refl _ _ | apply Below.drew)))) (hv1.same RGadgets.fr (im1.same (by repeat (first | exact Below.refl _ _ | apply Below.drew)))) (im2.le (Below.size (B := w2.heap.size) (by repeat (first | exact Below.refl _ _ | apply Below.drew)))) (im1.le (Below.size (B := w2.heap.size) (by repeat (first | exact Below.refl _ _ | apply Below.drew))))).mono ?_); rintro e w3 ⟨rfl, hb3⟩; have B4 := Below.through hb3 (by repeat (first | exact B3 | apply Below.drew)); have KA4 : Blk w3 w.heap.size #[.slice a1 lx n1] 44 := Blk.thru (by repeat (first | exact KA3 | apply Blk.drew)) hb3; have KH4 : Blk w3 (w.heap.size + 1) #[.slice a2 ly n2] 44 := Blk.thru (by repeat (first | exact KH3 | apply Blk.drew)) hb3)
          | (go_at_call 25; have q1 := hv1; (first | refine (cTG.out _ (by repeat (first | exact B2 | apply Below.drew))).mono ?_ | refine (cTH.out _ (by repeat (first | exact B2 | apply Below.drew))).mono ?_); rintro e w2 ⟨v2, bs2, rfl, hv2, ho2, hb2⟩; have B3 := Below.through hb2 (by repeat (first | exact B2 | apply Below.drew)); have hb12 : Below w1.heap.size w1 w2 := Below.through hb2 (by repeat (first | exact Below.refl _ _ | apply Below.drew)); have KA3 : Blk w2 w.heap.size #[.slice a1 lx n1] 44 := Blk.thru (by repeat (first | exact KA2 | apply Blk.drew)) hb2; have KH3 : Blk w2 (w.heap.size + 1) #[.slice a2 ly n2] 44 := Blk.thru (by repeat (first | exact KH2 | apply Blk.drew)) hb2; have CA3 := KA3.cell; have CH3 := KH3.cell; have im1 := ho1.inMem.le hb12.size; have im2 := ho2.inMem; replace hv1 := hv1.same RGadgets.fr (ho1.inMem.same hb12); clear q1 hb12)
          | (go_at_call 25; (first | refine (cTG.out _ (by repeat (first | exact B1 | apply Below.drew))).mono ?_ | refine (cTH.out _ (by repeat (first | exact B1 | apply Below.drew))).mono ?_); rintro e w1 ⟨v1, bs1, rfl, hv1, ho1, hb1⟩; have B2 := Below.through hb1 (by repeat (first | exact B1 | apply Below.drew)); have KA2 : Blk w1 w.heap.size #[.slice a1 lx n1] 44 := Blk.thru (by repeat (first | exact KA1 | apply Blk.drew)) hb1; have KH2 : Blk w1 (w.heap.size + 1) #[.slice a2 ly n2] 44 := Blk.thru (by repeat (first | exact KH1 | apply Blk.drew)) hb1; have CA2 := KA2.cell; have CH2 := KH2.cell))
        all_goals
          go_wp2_with fail
          go_meet
          exact ⟨rfl, B4, KA4, KH4⟩
      case rest =>
      obtain ⟨rfl, B2, KA2, KH2⟩ := hcut
      clear CA CH KA1 KH1 B1 B0
      have CA := KA2.cell
      have CH := KH2.cell
      obtain ⟨r, hr⟩ : ∃ r, r = eqB x y := ⟨_, rfl⟩
      rw [← hr]
      have hr' := hd hr
      clear hr
      go_wp2_with fail
      (with_reducible refine (cTG.out _ B2).mono ?_)
      rintro e w4 ⟨v4, bs4, rfl, hv4, ho4, hb4⟩
      obtain ⟨vx, cx, rfl, gx, hbx⟩ := RGadgets.open hv4
      obtain ⟨ax, nx, rfl⟩ := gx.val
      clear gx hbx
      have B4 := Below.through hb4 B2
      have KA4 := Blk.thru KA2 hb4
      have KH4 := Blk.thru KH2 hb4
      have i4 := ho4.inMem
      clear hb4 B2 KA2 KH2 CA CH ho4
      have CA := KA4.cell
      have CH := KH4.cell
      have LA := KA4.lt
      have LH := KH4.lt
      go_wp2_with fail
      (with_reducible refine (cTH.out _ (by repeat (first | with_reducible exact B4 | ((with_reducible refine Below.alloc ?_ ?_ _); rotate_left; focus (first | (simp; done) | exact B4.size | (have := B4.size; simp at *; omega))) | with_reducible apply Below.drew))).mono ?_)
      rintro e w5 ⟨v5, bs5, rfl, hv5, ho5, hb5⟩
      obtain ⟨vy, cy, rfl, gy, hby⟩ := RGadgets.open hv5
      obtain ⟨ay, ny, rfl⟩ := gy.val
      clear gy hby
      have l45 : Below w4.heap.size w4 w5 := Below.through hb5 (by repeat (first | with_reducible exact Below.refl _ _ | ((with_reducible refine Below.alloc ?_ ?_ _); rotate_left; focus (first | (simp; done) | (simp; omega))) | with_reducible apply Below.drew))
      have B5 := Below.through l45 B4
      have KA5 : Blk w5 w.heap.size #[.slice a1 lx n1] 44 := Blk.thru (by repeat (first | with_reducible assumption | ((with_reducible refine Blk.new ?_); rfl) | with_reducible refine Blk.old ?_ _ | with_reducible apply Blk.drew)) hb5
      have KH5 : Blk w5 (w.heap.size + 1) #[.slice a2 ly n2] 44 := Blk.thru (by repeat (first | with_reducible assumption | ((with_reducible refine Blk.new ?_); rfl) | with_reducible refine Blk.old ?_ _ | with_reducible apply Blk.drew)) hb5
      have KP5 : Blk w5 w4.heap.size #[.slice ax x.formulas.length nx] 49 := Blk.thru (by repeat (first | with_reducible assumption | ((with_reducible refine Blk.new ?_); rfl) | with_reducible refine Blk.old ?_ _ | with_reducible apply Blk.drew)) hb5
      replace hv4 := hv4.same RGadgets.fr (i4.same l45)
      replace i4 := i4.le l45.size
      have i5 := ho5.inMem
      clear hb5 l45 B4 KA4 KH4 CA CH LA LH ho5
      have CA := KA5.cell
      have CH := KH5.cell
      have CP := KP5.cell
      have LA := KA5.lt
      have LH := KH5.lt
      have LP := KP5.lt
      go_wp2_with fail
      (with_reducible refine (sameGadgets_any _ _ x y bs4 bs5 _ (hv4.same RGadgets.fr (i4.same (by repeat (first | with_reducible exact Below.refl _ _ | ((with_reducible refine Below.alloc ?_ ?_ _); rotate_left; focus (first | (simp; done) | (simp; omega))) | with_reducible apply Below.drew)))) (hv5.same RGadgets.fr (i5.same (by repeat (first | with_reducible exact Below.refl _ _ | ((with_reducible refine Below.alloc ?_ ?_ _); rotate_left; focus (first | (simp; done) | (simp; omega))) | with_reducible apply Below.drew)))) (i4.le (Below.size (B := w5.heap.size) (by repeat (first | with_reducible exact Below.refl _ _ | ((with_reducible refine Below.alloc ?_ ?_ _); rotate_left; focus (first | (simp; done) | (simp; omega))) | with_reducible apply Below.drew)))) (i5.le (Below.size (B := w5.heap.size) (by repeat (first | with_reducible exact Below.refl _ _ | ((with_reducible refine Below.alloc ?_ ?_ _); rotate_left; focus (first | (simp; done) | (simp; omega))) | with_reducible apply Below.drew))))).mono ?_)
      rintro e w6 ⟨rfl, hb6⟩
      have l56 : Below w5.heap.size w5 w6 := Below.through hb6 (by repeat (first | with_reducible exact Below.refl _ _ | ((with_reducible refine Below.alloc ?_ ?_ _); rotate_left; focus (first | (simp; done) | (simp; omega))) | with_reducible apply Below.drew))
      have B6 := Below.through l56 B5
      have KA6 : Blk w6 w.heap.size #[.slice a1 lx n1] 44 := Blk.thru (by repeat (first | with_reducible assumption | ((with_reducible refine Blk.new ?_); rfl) | with_reducible refine Blk.old ?_ _ | with_reducible apply Blk.drew)) hb6
      have KH6 : Blk w6 (w.heap.size + 1) #[.slice a2 ly n2] 44 := Blk.thru (by repeat (first | with_reducible assumption | ((with_reducible refine Blk.new ?_); rfl) | with_reducible refine Blk.old ?_ _ | with_reducible apply Blk.drew)) hb6
      have KP6 : Blk w6 w4.heap.size #[.slice ax x.formulas.length nx] 49 := Blk.thru (by repeat (first | with_reducible assumption | ((with_reducible refine Blk.new ?_); rfl) | with_reducible refine Blk.old ?_ _ | with_reducible apply Blk.drew)) hb6
      have KQ6 : Blk w6 w5.heap.size #[.slice ay y.formulas.length ny] 49 := Blk.thru (by repeat (first | with_reducible assumption | ((with_reducible refine Blk.new ?_); rfl) | with_reducible refine Blk.old ?_ _ | with_reducible apply Blk.drew)) hb6
      replace hv4 := hv4.same RGadgets.fr (i4.same l56)
      replace i4 := i4.le l56.size
      replace hv5 := hv5.same RGadgets.fr (i5.same l56)
      replace i5 := i5.le l56.size
      clear hb6 l56 B5 KA5 KH5 KP5 CA CH CP LA LH LP
      have CA := KA6.cell
      have CH := KH6.cell
      have CP := KP6.cell
      have CQ := KQ6.cell
      rw [← hr'.out]
      have hrr : (r != r) = false := by simp
      go_upto_region 14 with fail
      go_cut [39] from 35 to 38 (fun s39 wx => s39 = .bool false ∧ Below w.heap.size w wx ∧ Blk wx (w.heap.size + 1) #[.slice a2 ly n2] 44 ∧ Blk wx w5.heap.size #[.slice ay y.formulas.length ny] 49 ∧ Agg 1 RGadgets wx (.agg #[.slice ay y.formulas.length ny]) y bs5 ∧ InMem bs5 wx)
      case first =>
        go_region_with (first
          | (go_at_call 27; refine (eqGadgets_any _ _ x bs4 bs7 _ (hv4.same RGadgets.fr (i4.same (by repeat (first | with_reducible exact Below.refl _ _ | ((with_reducible refine Below.alloc ?_ ?_ _); rotate_left; focus (first | (simp; done) | (simp; omega))) | with_reducible apply Below.drew)))) (hv7.same RGadgets.fr (i7.same (by repeat (first | with_reducible exact Below.refl _ _ | ((with_reducible refine Below.alloc ?_ ?_ _); rotate_left; focus (first | (simp; done) | (simp; omega))) | with_reducible apply Below.drew)))) (i4.le (Below.size (B := w7.heap.size) (by repeat (first | with_reducible exact Below.refl _ _ | ((with_reducible refine Below.alloc ?_ ?_ _); rotate_left; focus (first | (simp; done) | (simp; omega))) | with_reducible apply Below.drew)))) (i7.le (Below.size (B := w7.heap.size) (by repeat (first | with_reducible exact Below.refl _ _ | ((with_reducible refine Below.alloc ?_ ?_ _); rotate_left; focus (first | (simp; done) | (simp; omega))) | with_reducible apply Below.drew))))).mono ?_; rintro e w8 ⟨rfl, hb8⟩; have l78 : Below w7.heap.size w7 w8 := Below.through hb8 (by repeat (first | with_reducible exact Below.refl _ _ | ((with_reducible refine Below.alloc ?_ ?_ _); rotate_left; focus (first | (simp; done) | (simp; omega))) | with_reducible apply Below.drew)); have B8 := Below.through l78 B7; have KH8 := Blk.thru KH7 l78; have KQ8 := Blk.thru KQ7 l78; have hv58 := hv5.same RGadgets.fr (i5.same l78); have i58 := i5.le l78.size)
          | (go_at_call 25; refine (cTG.out _ (by repeat (first | with_reducible exact B6 | ((with_reducible refine Below.alloc ?_ ?_ _); rotate_left; focus (first | (simp; done) | exact B6.size | (have := B6.size; simp at *; omega))) | with_reducible apply Below.drew))).mono ?_; rintro e w7 ⟨v7, bs7, rfl, hv7, ho7, hb7⟩; have l67 : Below w6.heap.size w6 w7 := Below.through hb7 (by repeat (first | with_reducible exact Below.refl _ _ | ((with_reducible refine Below.alloc ?_ ?_ _); rotate_left; focus (first | (simp; done) | (simp; omega))) | with_reducible apply Below.drew)); have B7 := Below.through l67 B6; have KA7 := Blk.thru KA6 l67; have KH7 := Blk.thru KH6 l67; have KP7 := Blk.thru KP6 l67; have KQ7 := Blk.thru KQ6 l67; have CA7 := KA7.cell; have CP7 := KP7.cell; replace hv4 := hv4.same RGadgets.fr (i4.same l67); replace i4 := i4.le l67.size; replace hv5 := hv5.same RGadgets.fr (i5.same l67); replace i5 := i5.le l67.size; have i7 := ho7.inMem))
        all_goals
          go_wp2_with fail
          go_meet
          exact ⟨rfl, B8, KH8, KQ8, hv58, i58⟩
      case rest =>
      obtain ⟨rfl, B9, KH9, KQ9, hv9, i9⟩ := hcut
      clear CA CH CP CQ KA6 KH6 KP6 KQ6 B6 hv4 hv5 i4 i5
      have CH := KH9.cell
      have CQ := KQ9.cell
      go_wp2_with fail
      go_region_with (first
        | (go_at_call 27; refine (eqGadgets_any _ _ y bs5 bs10 _ (hv9.same RGadgets.fr (i9.same (by repeat (first | with_reducible exact Below.refl _ _ | ((with_reducible refine Below.alloc ?_ ?_ _); rotate_left; focus (first | (simp; done) | (simp; omega))) | with_reducible apply Below.drew)))) (hv10.same RGadgets.fr (i10.same (by repeat (first | with_reducible exact Below.refl _ _ | ((with_reducible refine Below.alloc ?_ ?_ _); rotate_left; focus (first | (simp; done) | (simp; omega))) | with_reducible apply Below.drew)))) (i9.le (Below.size (B := w10.heap.size) (by repeat (first | with_reducible exact Below.refl _ _ | ((with_reducible refine Below.alloc ?_ ?_ _); rotate_left; focus (first | (simp; done) | (simp; omega))) | with_reducible apply Below.drew)))) (i10.le (Below.size (B := w10.heap.size) (by repeat (first | with_reducible exact Below.refl _ _ | ((with_reducible refine Below.alloc ?_ ?_ _); rotate_left; focus (first | (simp; done) | (simp; omega))) | with_reducible apply Below.drew))))).mono ?_; rintro e w11 ⟨rfl, hb11⟩; have l1011 : Below w10.heap.size w10 w11 := Below.through hb11 (by repeat (first | with_reducible exact Below.refl _ _ | ((with_reducible refine Below.alloc ?_ ?_ _); rotate_left; focus (first | (simp; done) | (simp; omega))) | with_reducible apply Below.drew)); have B11 := Below.through l1011 B10)
        | (go_at_call 25; refine (cTH.out _ (by repeat (first | with_reducible exact B9 | ((with_reducible refine Below.alloc ?_ ?_ _); rotate_left; focus (first | (simp; done) | exact B9.size | (have := B9.size; simp at *; omega))) | with_reducible apply Below.drew))).mono ?_; rintro e w10 ⟨v10, bs10, rfl, hv10, ho10, hb10⟩; have l910 : Below wc.heap.size wc w10 := Below.through hb10 (by repeat (first | with_reducible exact Below.refl _ _ | ((with_reducible refine Below.alloc ?_ ?_ _); rotate_left; focus (first | (simp; done) | (simp; omega))) | with_reducible apply Below.drew)); have B10 := Below.through l910 B9; have KH10 := Blk.thru KH9 l910; have KQ10 := Blk.thru KQ9 l910; have CH10 := KH10.cell; have CQ10 := KQ10.cell; replace hv9 := hv9.same RGadgets.fr (i9.same l910); replace i9 := i9.le l910.size; have i10 := ho10.inMem))
      all_goals
        go_wp2
        go_ret
        exact ⟨rfl, by repeat (first | with_reducible exact B11 | apply Below.drew)⟩
    · rw [show szR z y.sz = -1 from if_neg hy]
      clear hy
      go_wp2
      go_ret
      exact ⟨rfl, B1⟩
  · rw [show szR 1048576 x.sz = -1 from if_neg (by omega)]
    clear hx
    go_wp2
    go_ret
    exact ⟨rfl, B0⟩
/-- What the row asks. -/
theorem own_FnExactSameGadgets : ownKnob Try.prog.godebug = none := by kernel_rfl
set_option maxRecDepth 100000 in
theorem lifted_FnExactSameGadgets (os : Os) (started : os.Started) (H : Type) (enc : TypeId × Value → H) :
    ReturnsInHanded {} Try.checked os 6 .any (Rows.fnExactSameGadgetsSpec.pre6 enc Try.prog Try.f6 Rows.fnExactSameGadgetsRow.domain false) (Rows.fnExactSameGadgetsSpec.post enc Try.prog Try.f6 false true false false) := by
  refine returnsInHanded_of_change (C := Try.checked) own_FnExactSameGadgets started (by kernel_rfl) Try.func6
    (ChangeSpec.witness6 (enc := enc) (C := Try.checked) false ⟨#[], #[.agg #[.slice none 0 0], .agg #[.slice none 0 0]], []⟩ 12 (by kernel_rfl) (by kernel_rfl) (by kernel_rfl) (by kernel_rfl)) ?_
  intro W base args ds gs before hval0 hW hcnd _
  have hval : ∀ (j : Nat) t v, Try.f6.params[j]? = some t → args[j]? = some v → Value.okWide Try.prog W .any base t v := hval0
  have hW' := hW
  obtain ⟨p, q, hA0, hV, rfl, hfz, hnd⟩ := hW
  have hA : DataW.TrodAll enc Try.prog W 0 (fun _ => true) true Try.f6.params.toList args.toList ds p := hA0
  rw [Try.params6] at hA hval
  obtain ⟨v0, vs0, d0, ds0, p0, q0, hargs, rfl, rfl, h0, r0⟩ := trodAll_cons hA
  obtain ⟨v1, vs1, d1, ds1, p1, q1, rfl, rfl, rfl, h1, r1⟩ := trodAll_cons r0
  obtain ⟨rfl, rfl, rfl⟩ := trodAll_nil r1
  obtain rfl : args = #[v0, v1] := by cases args; simp_all
  obtain ⟨rfl, rfl⟩ := trodVars_none hV
  obtain ⟨x0, bs0, g0, m0⟩ := open_agg Try.underlying44 opens_Gadgets (hval 0 44 v0 rfl rfl) h0
  obtain ⟨x1, bs1, g1, m1⟩ := open_agg Try.underlying44 opens_Gadgets (hval 1 44 v1 rfl rfl) h1
  clear hval0
  have hlt0 : ∀ x ∈ p0, x.block < W.heap.size := fun x hx => hW'.lt x (by simp [hx])
  have hlt1 : ∀ x ∈ p1, x.block < W.heap.size := fun x hx => hW'.lt x (by simp [hx])
  refine (walk_FnExactSameGadgets v0 x0 bs0 g0 m0 v1 x1 bs1 g1 m1).mono fun e W' ⟨he, hg⟩ => ?_
  subst he
  exact ⟨_, rfl, _, _, _, [], _, [], hW', trodAll_cons_mk (shut_bool Try.underlying4 true) trodAll_mk0, (trodAll_cons_mk (Below.trod Try.laidOut (by kernel_rfl) (of_decide_eq_true (by kernel_rfl)) h0 hg hlt0) (trodAll_cons_mk (Below.trod Try.laidOut (by kernel_rfl) (of_decide_eq_true (by kernel_rfl)) h1 hg hlt1) trodAll_mk0)), rfl, hg.frame _, fun h => by cases h⟩
theorem FnExactSameGadgets_holds : Rows.FnExactSameGadgetsSaid :=
  OpenClaim.holds_of_wide 6 Try.f6 rfl rfl rfl rfl rfl rfl rfl ⟨rfl, rfl, rfl, rfl, rfl⟩ rfl rfl rfl rfl rfl (by kernel_rfl) Try.func6 (by kernel_rfl)
    (of_decide_eq_true (by kernel_rfl)) (by unfold Func.isWrapper; first | (rw [if_pos (by decide +kernel)]; kernel_rfl) | (rw [if_neg (by decide +kernel)]; exact ⟨rfl, rfl⟩))
    (fun os started H enc _ => lifted_FnExactSameGadgets os started H enc)
end Go.Proofs.Ytmfichdcomaaeaa
