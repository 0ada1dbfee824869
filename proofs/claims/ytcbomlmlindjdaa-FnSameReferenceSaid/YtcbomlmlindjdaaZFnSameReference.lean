/- Standing for the same is symmetric, and holds for a name itself unless it has several bindings. For every input the law FnSameReference returns true, and leaves its input alone. No condition. -/
import Derived.Below
import Derived.ChangeOld
import Derived.JoinedOf
import Derived.KernelRfl
import Derived.OpenShut
import Derived.ProofKit
import Derived.RowKit3
import Derived.ShutString
import Derived.SizedLaws
import Derived.Test.YtcbomlmlindjdaaRows
import Derived.WalkKit
import Derived.Test.YtcbomlmlindjdaaKe1
import Derived.Test.YtcbomlmlindjdaaKe5
import Derived.Test.YtcbomlmlindjdaaKe6
section
namespace Go.Proofs.Ytcbomlmlindjdaa
open Go.RowKit Go.Proofs.YtcbomlmlindjdaaW.PrintWords Go.Proofs.YtcbomlmlindjdaaW.PrintLast Go.Proofs.YtcbomlmlindjdaaW.PrintMore
set_option linter.unusedVariables false
set_option linter.unusedSimpArgs false
set_option maxHeartbeats 4000000 in
set_option maxRecDepth 100000 in
theorem fnSameReference_walk (A0 : Option Addr) (c0 : Nat) (l0 : List Int) (w : World)
    (hr0 : (Kd.int .u8).C w A0 l0.length l0) (hc0 : l0.length ≤ c0) (y0 : l0.length * 1 ≤ 140737488351232) (hw0 : ∀ n ∈ l0, (Lit.int .u8 n).wf = true) :
    Calls Try.prog 9 #[.slice A0 l0.length c0] w fun e w' => e = .returned (.bool true) ∧ Below w.heap.size w w' := by
  by_cases g0 : l0.length ≤ 1048576
  rotate_left
  · have t0 : decide ((l0.length : Int) > 1048576) = true := decide_eq_true (by omega)
    have t0' : decide (1048576 < l0.length) = true := decide_eq_true (by omega)
    go_enter Try.func9, Try.ntmps9
    go_wp2_with fail
    go_ret
    exact ⟨rfl, Below.refl _ _⟩
  obtain ⟨bl, x, y, hbl, hx, hy, D0⟩ := dDrawSameReference l0 (fun z hz => byteOk (hw0 z hz))
  replace D0 := Lib.hid D0
  have hsm := hbl.B (by omega)
  have hbl1 := hbl.1
  have HSM := Lib.hid hsm
  clear hsm hbl
  obtain ⟨t1_, h1⟩ : ∃ t, sameR bl x y = t := ⟨_, rfl⟩
  obtain ⟨t2_, h2⟩ : ∃ t, sameR bl x x = t := ⟨_, rfl⟩
  rcases h3 : findR bl x with ⟨a, p⟩
  rcases h4 : findR bl y with ⟨c, q⟩
  obtain ⟨u1, h5⟩ : ∃ t, pB (BdsOk bl) = t := ⟨_, rfl⟩
  obtain ⟨u2, h6⟩ : ∃ t, pB (FmOk x) = t := ⟨_, rfl⟩
  have h7 : t1_ = true → a = c ∧ p = q := fun h => by have := same_eq (h1.trans h); rw [h3, h4] at this; injection this with e1 e2; exact ⟨e1, e2⟩
  have h8 : t2_ = (u1 && u2 && (x.f0 == 1) && (p != 2)) := by
    rw [Bool.eq_iff_iff, ← h2, same_self, h3]
    simp only [Bool.and_eq_true, ← h5, ← h6, pB_iff, beq_iff_eq, bne_iff_ne, ne_eq, and_assoc]
  have H1 := Lib.hid h1
  have H1' := Lib.hid ((same_comm bl y x).trans h1)
  have H2 := Lib.hid h2
  have H3 := Lib.hid h3
  have H4 := Lib.hid h4
  have H5 := Lib.hid h5
  have H6 := Lib.hid h6
  have H7 := Lib.hid h7
  have H8 := Lib.hid h8
  clear h1 h2 h3 h4 h5 h6 h7 h8
  have t0 : decide ((l0.length : Int) > 1048576) = false := decide_eq_false (by omega)
  have t0' : decide (1048576 < l0.length) = false := decide_eq_false (by omega)
  go_enter Try.func9, Try.ntmps9
  go_wp2_with fail
  refine (D0.out A0 c0 _ hr0 hc0).mono ?_
  rintro e w1 ⟨lA, lc, X_3, X_c3, X_4, X_c4, Y_3, Y_c3, Y_4, Y_c4, rfl, hcl, hCl, i, j, b⟩
  have I := Lib.hid i
  have J := Lib.hid j
  clear i j
  have Ll := Lib.hid hCl
  have hlc_ := Lib.hid hcl
  clear hCl hcl
  have BW := Lib.hid b
  clear b
  have Ix := Lib.hid I.out
  have Iy := Lib.hid J.out
  clear I J
  go_wp2_with fail
  obtain ⟨k, k', b⟩ := two_new (Below.refl ((w1.alloc (.cells #[.int .i64 x.f0, .string x.f1, .int .i64 x.f2, .slice X_3 x.f3.length X_c3, .slice X_4 x.f4.length X_c4] 30)).alloc (.cells #[.int .i64 y.f0, .string y.f1, .int .i64 y.f2, .slice Y_3 y.f3.length Y_c3, .slice Y_4 y.f4.length Y_c4] 30)).heap.size ((w1.alloc (.cells #[.int .i64 x.f0, .string x.f1, .int .i64 x.f2, .slice X_3 x.f3.length X_c3, .slice X_4 x.f4.length X_c4] 30)).alloc (.cells #[.int .i64 y.f0, .string y.f1, .int .i64 y.f2, .slice Y_3 y.f3.length Y_c3, .slice Y_4 y.f4.length Y_c4] 30)))
  replace Ix := Lib.hid (Ix.out.below b)
  replace Iy := Lib.hid (Iy.out.below b)
  replace Ll := Lib.hid (Kd.C_below Ll.out b)
  replace BW := Lib.hid (below_step BW.out b)
  clear b
  have Kx := Lib.hid k
  clear k
  have Ky := Lib.hid k'
  clear k'
  generalize ((w1.alloc (.cells #[.int .i64 x.f0, .string x.f1, .int .i64 x.f2, .slice X_3 x.f3.length X_c3, .slice X_4 x.f4.length X_c4] 30)).alloc (.cells #[.int .i64 y.f0, .string y.f1, .int .i64 y.f2, .slice Y_3 y.f3.length Y_c3, .slice Y_4 y.f4.length Y_c4] 30)) = ws1 at Kx Ky Ix Iy BW Ll ⊢
  refine (implSr H1.out HSM.out (by omega) (by omega) _ _ _ _ _ _ _ _ _ _ _ Ll.out hlc_.out Ix.out Iy.out).mono ?_
  rintro e w2 ⟨rfl, b⟩
  replace Kx := Lib.hid (blk_below Kx.out b)
  replace Ky := Lib.hid (blk_below Ky.out b)
  replace Ix := Lib.hid (Ix.out.below b)
  replace Iy := Lib.hid (Iy.out.below b)
  replace Ll := Lib.hid (Kd.C_below Ll.out b)
  replace BW := Lib.hid (below_step BW.out b)
  clear b
  have tt : (t1_ != t1_) = false := by simp
  obtain ⟨p0, p1, p2, p3, p4⟩ := fm_cells Kx.out
  obtain ⟨q0, q1, q2, q3, q4⟩ := fm_cells Ky.out
  go_wp2_with fail
  clear p0 p1 p2 p3 p4 q0 q1 q2 q3 q4
  refine (specSr H1.out HSM.out (by omega) (by omega) _ _ _ _ _ _ _ _ _ _ _ Ll.out hlc_.out Ix.out Iy.out).mono ?_
  rintro e w3 ⟨rfl, b⟩
  replace Kx := Lib.hid (blk_below Kx.out b)
  replace Ky := Lib.hid (blk_below Ky.out b)
  replace Ix := Lib.hid (Ix.out.below b)
  replace Iy := Lib.hid (Iy.out.below b)
  replace Ll := Lib.hid (Kd.C_below Ll.out b)
  replace BW := Lib.hid (below_step BW.out b)
  clear b
  obtain ⟨p0, p1, p2, p3, p4⟩ := fm_cells Kx.out
  obtain ⟨q0, q1, q2, q3, q4⟩ := fm_cells Ky.out
  go_wp2_with fail
  clear p0 p1 p2 p3 p4 q0 q1 q2 q3 q4
  refine (implSr H1'.out HSM.out (by omega) (by omega) _ _ _ _ _ _ _ _ _ _ _ Ll.out hlc_.out Iy.out Ix.out).mono ?_
  rintro e w4 ⟨rfl, b⟩
  replace Kx := Lib.hid (blk_below Kx.out b)
  replace Ky := Lib.hid (blk_below Ky.out b)
  replace Ix := Lib.hid (Ix.out.below b)
  replace Iy := Lib.hid (Iy.out.below b)
  replace Ll := Lib.hid (Kd.C_below Ll.out b)
  replace BW := Lib.hid (below_step BW.out b)
  clear b
  obtain ⟨p0, p1, p2, p3, p4⟩ := fm_cells Kx.out
  go_wp2_with fail
  clear p0 p1 p2 p3 p4
  refine (implFd H3.out HSM.out (by omega) _ _ _ _ _ _ _ Ll.out hlc_.out Ix.out).mono ?_
  rintro e w5 ⟨rfl, b⟩
  replace Kx := Lib.hid (blk_below Kx.out b)
  replace Ky := Lib.hid (blk_below Ky.out b)
  replace Ix := Lib.hid (Ix.out.below b)
  replace Iy := Lib.hid (Iy.out.below b)
  replace Ll := Lib.hid (Kd.C_below Ll.out b)
  replace BW := Lib.hid (below_step BW.out b)
  clear b
  obtain ⟨p0, p1, p2, p3, p4⟩ := fm_cells Ky.out
  go_wp2_with fail
  clear p0 p1 p2 p3 p4
  refine (implFd H4.out HSM.out (by omega) _ _ _ _ _ _ _ Ll.out hlc_.out Iy.out).mono ?_
  rintro e w6 ⟨rfl, b⟩
  replace Kx := Lib.hid (blk_below Kx.out b)
  replace Ky := Lib.hid (blk_below Ky.out b)
  replace Ix := Lib.hid (Ix.out.below b)
  replace Iy := Lib.hid (Iy.out.below b)
  replace Ll := Lib.hid (Kd.C_below Ll.out b)
  replace BW := Lib.hid (below_step BW.out b)
  clear b
  rcases t1_ with _ | _
  · obtain ⟨p0, p1, p2, p3, p4⟩ := fm_cells Kx.out
    go_wp2_with fail
    clear p0 p1 p2 p3 p4
    refine (implBdV H5.out HSM.out _ _ _ Ll.out hlc_.out).mono ?_
    rintro e w7 ⟨rfl, b⟩
    replace Kx := Lib.hid (blk_below Kx.out b)
    replace Ky := Lib.hid (blk_below Ky.out b)
    replace Ix := Lib.hid (Ix.out.below b)
    replace Iy := Lib.hid (Iy.out.below b)
    replace Ll := Lib.hid (Kd.C_below Ll.out b)
    replace BW := Lib.hid (below_step BW.out b)
    clear b
    rcases u1 with _ | _
    · have H9 := Lib.hid (H8.out)
      have ht2 : t2_ = false := by rw [H9.out]; try rfl
      subst ht2
      obtain ⟨p0, p1, p2, p3, p4⟩ := fm_cells Kx.out
      go_wp2_with fail
      clear p0 p1 p2 p3 p4
      refine (implSr H2.out HSM.out (by omega) (by omega) _ _ _ _ _ _ _ _ _ _ _ Ll.out hlc_.out Ix.out Ix.out).mono ?_
      rintro e w8 ⟨rfl, b⟩
      replace Kx := Lib.hid (blk_below Kx.out b)
      replace Ky := Lib.hid (blk_below Ky.out b)
      replace Ix := Lib.hid (Ix.out.below b)
      replace Iy := Lib.hid (Iy.out.below b)
      replace Ll := Lib.hid (Kd.C_below Ll.out b)
      replace BW := Lib.hid (below_step BW.out b)
      clear b
      go_wp2_with fail
      go_ret
      exact ⟨rfl, by repeat (first | exact BW.out | refine below_alloc ?_ _)⟩
    · obtain ⟨p0, p1, p2, p3, p4⟩ := fm_cells Kx.out
      go_wp2_with fail
      clear p0 p1 p2 p3 p4
      refine (implVd H6.out _ _ _ _ _ Ix.out (by omega)).mono ?_
      rintro e w8 ⟨rfl, b⟩
      replace Kx := Lib.hid (blk_below Kx.out b)
      replace Ky := Lib.hid (blk_below Ky.out b)
      replace Ix := Lib.hid (Ix.out.below b)
      replace Iy := Lib.hid (Iy.out.below b)
      replace Ll := Lib.hid (Kd.C_below Ll.out b)
      replace BW := Lib.hid (below_step BW.out b)
      clear b
      rcases u2 with _ | _
      · have H9 := Lib.hid (H8.out)
        have ht2 : t2_ = false := by rw [H9.out]; try rfl
        subst ht2
        obtain ⟨p0, p1, p2, p3, p4⟩ := fm_cells Kx.out
        go_wp2_with fail
        clear p0 p1 p2 p3 p4
        refine (implSr H2.out HSM.out (by omega) (by omega) _ _ _ _ _ _ _ _ _ _ _ Ll.out hlc_.out Ix.out Ix.out).mono ?_
        rintro e w9 ⟨rfl, b⟩
        replace Kx := Lib.hid (blk_below Kx.out b)
        replace Ky := Lib.hid (blk_below Ky.out b)
        replace Ix := Lib.hid (Ix.out.below b)
        replace Iy := Lib.hid (Iy.out.below b)
        replace Ll := Lib.hid (Kd.C_below Ll.out b)
        replace BW := Lib.hid (below_step BW.out b)
        clear b
        go_wp2_with fail
        go_ret
        exact ⟨rfl, by repeat (first | exact BW.out | refine below_alloc ?_ _)⟩
      · by_cases e0 : x.f0 = 1
        · have e1 : (x.f0 == 1) = true := beq_iff_eq.mpr e0
          by_cases p2 : p = 2
          · have e3 : (p != 2) = false := by simp [p2]
            have H9 := Lib.hid (H8.out)
            rw [e1, e3] at H9
            clear e0 p2
            have ht2 : t2_ = false := by rw [H9.out]; try rfl
            subst ht2
            obtain ⟨p0, p1, p2, p3, p4⟩ := fm_cells Kx.out
            go_wp2_with fail
            clear p0 p1 p2 p3 p4
            refine (implSr H2.out HSM.out (by omega) (by omega) _ _ _ _ _ _ _ _ _ _ _ Ll.out hlc_.out Ix.out Ix.out).mono ?_
            rintro e w9 ⟨rfl, b⟩
            replace Kx := Lib.hid (blk_below Kx.out b)
            replace Ky := Lib.hid (blk_below Ky.out b)
            replace Ix := Lib.hid (Ix.out.below b)
            replace Iy := Lib.hid (Iy.out.below b)
            replace Ll := Lib.hid (Kd.C_below Ll.out b)
            replace BW := Lib.hid (below_step BW.out b)
            clear b
            go_wp2_with fail
            go_ret
            exact ⟨rfl, by repeat (first | exact BW.out | refine below_alloc ?_ _)⟩
          · have e3 : (p != 2) = true := by simpa using p2
            have H9 := Lib.hid (H8.out)
            rw [e1, e3] at H9
            clear e0 p2
            have ht2 : t2_ = true := by rw [H9.out]; try rfl
            subst ht2
            obtain ⟨p0, p1, p2, p3, p4⟩ := fm_cells Kx.out
            go_wp2_with fail
            clear p0 p1 p2 p3 p4
            refine (implSr H2.out HSM.out (by omega) (by omega) _ _ _ _ _ _ _ _ _ _ _ Ll.out hlc_.out Ix.out Ix.out).mono ?_
            rintro e w9 ⟨rfl, b⟩
            replace Kx := Lib.hid (blk_below Kx.out b)
            replace Ky := Lib.hid (blk_below Ky.out b)
            replace Ix := Lib.hid (Ix.out.below b)
            replace Iy := Lib.hid (Iy.out.below b)
            replace Ll := Lib.hid (Kd.C_below Ll.out b)
            replace BW := Lib.hid (below_step BW.out b)
            clear b
            go_wp2_with fail
            go_ret
            exact ⟨rfl, by repeat (first | exact BW.out | refine below_alloc ?_ _)⟩
        · have e1 : (x.f0 == 1) = false := beq_eq_false_iff_ne.mpr e0
          have H9 := Lib.hid (H8.out)
          rw [e1] at H9
          clear e0
          have ht2 : t2_ = false := by rw [H9.out]; try rfl
          subst ht2
          obtain ⟨p0, p1, p2, p3, p4⟩ := fm_cells Kx.out
          go_wp2_with fail
          clear p0 p1 p2 p3 p4
          refine (implSr H2.out HSM.out (by omega) (by omega) _ _ _ _ _ _ _ _ _ _ _ Ll.out hlc_.out Ix.out Ix.out).mono ?_
          rintro e w9 ⟨rfl, b⟩
          replace Kx := Lib.hid (blk_below Kx.out b)
          replace Ky := Lib.hid (blk_below Ky.out b)
          replace Ix := Lib.hid (Ix.out.below b)
          replace Iy := Lib.hid (Iy.out.below b)
          replace Ll := Lib.hid (Kd.C_below Ll.out b)
          replace BW := Lib.hid (below_step BW.out b)
          clear b
          go_wp2_with fail
          go_ret
          exact ⟨rfl, by repeat (first | exact BW.out | refine below_alloc ?_ _)⟩
  · obtain ⟨rfl, rfl⟩ := H7.out rfl
    have n1 : (a != a) = false := by simp
    have n2 : (p != p) = false := by simp
    obtain ⟨p0, p1, p2, p3, p4⟩ := fm_cells Kx.out
    go_wp2_with fail
    clear p0 p1 p2 p3 p4
    refine (implBdV H5.out HSM.out _ _ _ Ll.out hlc_.out).mono ?_
    rintro e w7 ⟨rfl, b⟩
    replace Kx := Lib.hid (blk_below Kx.out b)
    replace Ky := Lib.hid (blk_below Ky.out b)
    replace Ix := Lib.hid (Ix.out.below b)
    replace Iy := Lib.hid (Iy.out.below b)
    replace Ll := Lib.hid (Kd.C_below Ll.out b)
    replace BW := Lib.hid (below_step BW.out b)
    clear b
    rcases u1 with _ | _
    · have H9 := Lib.hid (H8.out)
      have ht2 : t2_ = false := by rw [H9.out]; try rfl
      subst ht2
      obtain ⟨p0, p1, p2, p3, p4⟩ := fm_cells Kx.out
      go_wp2_with fail
      clear p0 p1 p2 p3 p4
      refine (implSr H2.out HSM.out (by omega) (by omega) _ _ _ _ _ _ _ _ _ _ _ Ll.out hlc_.out Ix.out Ix.out).mono ?_
      rintro e w8 ⟨rfl, b⟩
      replace Kx := Lib.hid (blk_below Kx.out b)
      replace Ky := Lib.hid (blk_below Ky.out b)
      replace Ix := Lib.hid (Ix.out.below b)
      replace Iy := Lib.hid (Iy.out.below b)
      replace Ll := Lib.hid (Kd.C_below Ll.out b)
      replace BW := Lib.hid (below_step BW.out b)
      clear b
      go_wp2_with fail
      go_ret
      exact ⟨rfl, by repeat (first | exact BW.out | refine below_alloc ?_ _)⟩
    · obtain ⟨p0, p1, p2, p3, p4⟩ := fm_cells Kx.out
      go_wp2_with fail
      clear p0 p1 p2 p3 p4
      refine (implVd H6.out _ _ _ _ _ Ix.out (by omega)).mono ?_
      rintro e w8 ⟨rfl, b⟩
      replace Kx := Lib.hid (blk_below Kx.out b)
      replace Ky := Lib.hid (blk_below Ky.out b)
      replace Ix := Lib.hid (Ix.out.below b)
      replace Iy := Lib.hid (Iy.out.below b)
      replace Ll := Lib.hid (Kd.C_below Ll.out b)
      replace BW := Lib.hid (below_step BW.out b)
      clear b
      rcases u2 with _ | _
      · have H9 := Lib.hid (H8.out)
        have ht2 : t2_ = false := by rw [H9.out]; try rfl
        subst ht2
        obtain ⟨p0, p1, p2, p3, p4⟩ := fm_cells Kx.out
        go_wp2_with fail
        clear p0 p1 p2 p3 p4
        refine (implSr H2.out HSM.out (by omega) (by omega) _ _ _ _ _ _ _ _ _ _ _ Ll.out hlc_.out Ix.out Ix.out).mono ?_
        rintro e w9 ⟨rfl, b⟩
        replace Kx := Lib.hid (blk_below Kx.out b)
        replace Ky := Lib.hid (blk_below Ky.out b)
        replace Ix := Lib.hid (Ix.out.below b)
        replace Iy := Lib.hid (Iy.out.below b)
        replace Ll := Lib.hid (Kd.C_below Ll.out b)
        replace BW := Lib.hid (below_step BW.out b)
        clear b
        go_wp2_with fail
        go_ret
        exact ⟨rfl, by repeat (first | exact BW.out | refine below_alloc ?_ _)⟩
      · by_cases e0 : x.f0 = 1
        · have e1 : (x.f0 == 1) = true := beq_iff_eq.mpr e0
          by_cases p2 : p = 2
          · have e3 : (p != 2) = false := by simp [p2]
            have H9 := Lib.hid (H8.out)
            rw [e1, e3] at H9
            clear e0 p2
            have ht2 : t2_ = false := by rw [H9.out]; try rfl
            subst ht2
            obtain ⟨p0, p1, p2, p3, p4⟩ := fm_cells Kx.out
            go_wp2_with fail
            clear p0 p1 p2 p3 p4
            refine (implSr H2.out HSM.out (by omega) (by omega) _ _ _ _ _ _ _ _ _ _ _ Ll.out hlc_.out Ix.out Ix.out).mono ?_
            rintro e w9 ⟨rfl, b⟩
            replace Kx := Lib.hid (blk_below Kx.out b)
            replace Ky := Lib.hid (blk_below Ky.out b)
            replace Ix := Lib.hid (Ix.out.below b)
            replace Iy := Lib.hid (Iy.out.below b)
            replace Ll := Lib.hid (Kd.C_below Ll.out b)
            replace BW := Lib.hid (below_step BW.out b)
            clear b
            go_wp2_with fail
            go_ret
            exact ⟨rfl, by repeat (first | exact BW.out | refine below_alloc ?_ _)⟩
          · have e3 : (p != 2) = true := by simpa using p2
            have H9 := Lib.hid (H8.out)
            rw [e1, e3] at H9
            clear e0 p2
            have ht2 : t2_ = true := by rw [H9.out]; try rfl
            subst ht2
            obtain ⟨p0, p1, p2, p3, p4⟩ := fm_cells Kx.out
            go_wp2_with fail
            clear p0 p1 p2 p3 p4
            refine (implSr H2.out HSM.out (by omega) (by omega) _ _ _ _ _ _ _ _ _ _ _ Ll.out hlc_.out Ix.out Ix.out).mono ?_
            rintro e w9 ⟨rfl, b⟩
            replace Kx := Lib.hid (blk_below Kx.out b)
            replace Ky := Lib.hid (blk_below Ky.out b)
            replace Ix := Lib.hid (Ix.out.below b)
            replace Iy := Lib.hid (Iy.out.below b)
            replace Ll := Lib.hid (Kd.C_below Ll.out b)
            replace BW := Lib.hid (below_step BW.out b)
            clear b
            go_wp2_with fail
            go_ret
            exact ⟨rfl, by repeat (first | exact BW.out | refine below_alloc ?_ _)⟩
        · have e1 : (x.f0 == 1) = false := beq_eq_false_iff_ne.mpr e0
          have H9 := Lib.hid (H8.out)
          rw [e1] at H9
          clear e0
          have ht2 : t2_ = false := by rw [H9.out]; try rfl
          subst ht2
          obtain ⟨p0, p1, p2, p3, p4⟩ := fm_cells Kx.out
          go_wp2_with fail
          clear p0 p1 p2 p3 p4
          refine (implSr H2.out HSM.out (by omega) (by omega) _ _ _ _ _ _ _ _ _ _ _ Ll.out hlc_.out Ix.out Ix.out).mono ?_
          rintro e w9 ⟨rfl, b⟩
          replace Kx := Lib.hid (blk_below Kx.out b)
          replace Ky := Lib.hid (blk_below Ky.out b)
          replace Ix := Lib.hid (Ix.out.below b)
          replace Iy := Lib.hid (Iy.out.below b)
          replace Ll := Lib.hid (Kd.C_below Ll.out b)
          replace BW := Lib.hid (below_step BW.out b)
          clear b
          go_wp2_with fail
          go_ret
          exact ⟨rfl, by repeat (first | exact BW.out | refine below_alloc ?_ _)⟩
end Go.Proofs.Ytcbomlmlindjdaa
end
section
namespace Go.Proofs.Ytcbomlmlindjdaa.fnSameReference
open Go.ChangeShapes Go.WideShapes Go.ChangeAt Go.RowKit Go.Proofs.Ytcbomlmlindjdaa
open Go.ChangeMaps (open_string shut_string)
set_option linter.unusedVariables false
theorem own : ownKnob Try.prog.godebug = none := by kernel_rfl
theorem laidOut : laidOutB Try.prog = true := by kernel_rfl
def IsRow (k : IntKind) (w : World) (a : Option Addr) (len cap : Nat) (zs : List Int) : Prop :=
  (a = none ∧ len = 0 ∧ cap = 0 ∧ zs = []) ∨
  ∃ x, a = some x ∧ len ≤ cap ∧ cap ≤ maxLen ∧ zs.length = cap ∧ (∀ i, i < zs.length → w.cell? (x.add i) = some (.int k (zs.getD i 0))) ∧ ∀ n ∈ zs, (Lit.int k n).wf = true
set_option maxRecDepth 100000 in
theorem lifted (os : Os) (started : os.Started) (H : Type) (enc : TypeId × Value → H) :
    ReturnsInHanded {} Try.checked os 9 .any (Rows.fnSameReferenceSpec.pre6 enc Try.prog Try.f9 Rows.fnSameReferenceRow.domain false) (Rows.fnSameReferenceSpec.post enc Try.prog Try.f9 false true false false) := by
  refine returnsInHanded_of_change_sized (C := Try.checked) own started (by kernel_rfl) Try.func9
    (ChangeSpec.witness6 (enc := enc) (C := Try.checked) false ⟨#[], #[.slice none 0 0], []⟩ 8 (by kernel_rfl) (by kernel_rfl) (by kernel_rfl) (by kernel_rfl)) ?_
  intro W base args ds gs before hval0 hW hcnd hsz0 _
  have hsz : (DataW.weightsEach Try.prog (Try.f9.params.toList ++ Rows.fnSameReferenceSpec.plain.varTypes Try.prog) (ds ++ gs)).all (· ≤ reachBytes) = true := hsz0
  have hval : ∀ (j : Nat) t v, Try.f9.params[j]? = some t → args[j]? = some v → Value.okWide Try.prog W .any base t v := hval0
  have hW' := hW
  obtain ⟨p, q, hA0, hV, rfl, hfz, hnd⟩ := hW
  have hA : DataW.TrodAll enc Try.prog W 0 (fun _ => true) true Try.f9.params.toList args.toList ds p := hA0
  rw [Try.params9] at hA hval hsz
  obtain ⟨v0, vs0, d0, ds0, p0, q0, hargs, rfl, rfl, h0, r0⟩ := trodAll_cons hA
  obtain ⟨rfl, rfl, rfl⟩ := trodAll_nil r0
  obtain rfl : args = #[v0] := by cases args; simp_all
  obtain ⟨rfl, rfl⟩ := trodVars_none hV
  obtain ⟨a0, len0, cap0, rfl⟩ := okWide_slice Try.underlying22 (hval 0 22 v0 rfl rfl)
  have k0 := h0
  have lt0 : ∀ x ∈ p0, x.block < W.heap.size := by obtain ⟨m, hm⟩ := k0; exact DataW.trod_lt m _ _ _ hm
  obtain ⟨z0, w0⟩ : ∃ zs, IsRow .u8 W a0 len0 cap0 zs := by
    obtain ⟨fuel, hf⟩ := h0
    rcases open_ints Try.underlying22 Try.underlying5 (by kernel_rfl) hf with ⟨hcs, _⟩ | ⟨x, l, c, zs, hcs, _, hl, hm, hz, _, hcell, hwz⟩
    · simp [Value.cells] at hcs
      obtain ⟨rfl, rfl, rfl⟩ := hcs
      exact ⟨[], .inl ⟨rfl, rfl, rfl, rfl⟩⟩
    · simp [Value.cells] at hcs
      obtain ⟨rfl, rfl, rfl⟩ := hcs
      exact ⟨zs, .inr ⟨_, rfl, hl, hm, by simpa using hz, hcell, hwz⟩⟩
  have y0 : len0 * 1 ≤ 140737488351232 := Go.Proofs.YtcbomlmlindjdaaW.PrintWords.sized_ints hsz (j := 0) (t := 22) rfl rfl Try.underlying22 Try.underlying5 (by kernel_rfl) (by kernel_rfl) h0
  obtain ⟨l0, rfl, hr0, hm0, hw0, hc0⟩ := Go.Proofs.YtcbomlmlindjdaaW.PrintWords.ReadsInt.ofRowC w0
  clear hA0 hval0 hsz0 hsz
  refine (fnSameReference_walk _ _ l0 W (Go.Proofs.YtcbomlmlindjdaaW.PrintWords.Kd.C_of_reads (d := (0 : Int)) (h1 := fun _ => rfl) hr0) hc0 y0 hw0).mono fun e W' ⟨he, bel⟩ => ?_
  subst he
  exact ⟨_, rfl, _, _, _, [], _, [], hW', trodAll_mk1 (shut_bool Try.underlying4 _), (trodAll_cons_mk (Below.trod laidOut (by kernel_rfl) (of_decide_eq_true (by kernel_rfl)) k0 bel lt0) trodAll_mk0), rfl, bel.frame _, fun h => by cases h⟩
set_option maxRecDepth 100000 in
theorem closed : joinedFacts Try.prog 9 Try.f9 Rows.fnSameReferenceSpec Rows.fnSameReferenceRow = true := by
  unfold joinedFacts
  refine Bool.and_eq_true_iff.2 ⟨Bool.and_eq_true_iff.2 ⟨Bool.and_eq_true_iff.2 ⟨Bool.and_eq_true_iff.2 ⟨Bool.and_eq_true_iff.2 ⟨Bool.and_eq_true_iff.2 ⟨Bool.and_eq_true_iff.2 ⟨?_, mayEnter_yes⟩, (congrArg (fun b => Rows.fnSameReferenceRow.lifted == b) liftsFinal_no).trans (by kernel_rfl)⟩, (congrArg (fun b => b == some Rows.fnSameReferenceRow.make) make_cut).trans (by kernel_rfl)⟩, ?_⟩, ?_⟩, ?_⟩, ?_⟩
  all_goals kernel_rfl
theorem over : Rows.fnSameReferenceRow.holds Try.pinned (OpenSpec.ofChange Rows.fnSameReferenceSpec) :=
  OpenClaim.holds_of_wide 9 Try.f9 rfl rfl rfl rfl rfl rfl rfl ⟨rfl, rfl, rfl, rfl, rfl⟩ rfl rfl rfl rfl rfl (by kernel_rfl) Try.func9 closed
    (of_decide_eq_true (by kernel_rfl)) (by unfold Func.isWrapper; first | (rw [if_pos (by decide +kernel)]; kernel_rfl) | (rw [if_neg (by decide +kernel)]; exact ⟨rfl, rfl⟩))
    (fun os started H enc _ => lifted os started H enc)
end Go.Proofs.Ytcbomlmlindjdaa.fnSameReference
namespace Go.Proofs.Ytcbomlmlindjdaa
/-- The row. -/
theorem fnSameReference_holds : Rows.FnSameReferenceSaid := fnSameReference.over
#print axioms fnSameReference_holds
end Go.Proofs.Ytcbomlmlindjdaa
end
