/- Standing for the same is transitive. For every input the law FnReferenceTrans returns true, and leaves its input alone. No condition. -/
import Derived.Below
import Derived.ChangeOld
import Derived.JoinedOf
import Derived.KernelRfl
import Derived.OpenShut
import Derived.ProofKit
import Derived.RowKit3
import Derived.ShutString
import Derived.SizedLaws
import Derived.Test.YtcbomlmlindjdaaRows
import Derived.WalkKit
import Derived.Test.YtcbomlmlindjdaaKe1
import Derived.Test.YtcbomlmlindjdaaKe5
import Derived.Test.YtcbomlmlindjdaaKe6
section
namespace Go.Proofs.Ytcbomlmlindjdaa
open Go.RowKit Go.Proofs.YtcbomlmlindjdaaW.PrintWords Go.Proofs.YtcbomlmlindjdaaW.PrintLast Go.Proofs.YtcbomlmlindjdaaW.PrintMore
set_option linter.unusedVariables false
set_option linter.unusedSimpArgs false
set_option maxHeartbeats 4000000 in
set_option maxRecDepth 100000 in
theorem fnReferenceTrans_walk (A0 : Option Addr) (c0 : Nat) (l0 : List Int) (A1 : Option Addr) (c1 : Nat) (l1 : List Int) (w : World)
    (hr0 : (Kd.int .u8).C w A0 l0.length l0) (hc0 : l0.length ≤ c0) (y0 : l0.length * 1 ≤ 140737488351232) (hw0 : ∀ n ∈ l0, (Lit.int .u8 n).wf = true)
    (hr1 : (Kd.int .u8).C w A1 l1.length l1) (hc1 : l1.length ≤ c1) (y1 : l1.length * 1 ≤ 140737488351232) (hw1 : ∀ n ∈ l1, (Lit.int .u8 n).wf = true) :
    Calls Try.prog 8 #[.slice A0 l0.length c0, .slice A1 l1.length c1] w fun e w' => e = .returned (.bool true) ∧ Below w.heap.size w w' := by
  by_cases g0 : l0.length ≤ 1048576
  rotate_left
  · have t0 : decide ((l0.length : Int) > 1048576) = true := decide_eq_true (by omega)
    have t0' : decide (1048576 < l0.length) = true := decide_eq_true (by omega)
    go_enter Try.func8, Try.ntmps8
    go_wp2_with fail
    go_ret
    exact ⟨rfl, Below.refl _ _⟩
  by_cases g1 : l1.length ≤ 1048576
  rotate_left
  · have t0 : decide ((l0.length : Int) > 1048576) = false := decide_eq_false (by omega)
    have t0' : decide (1048576 < l0.length) = false := decide_eq_false (by omega)
    have t1 : decide ((l1.length : Int) > 1048576) = true := decide_eq_true (by omega)
    have t1' : decide (1048576 < l1.length) = true := decide_eq_true (by omega)
    go_enter Try.func8, Try.ntmps8
    go_wp2_with fail
    go_ret
    exact ⟨rfl, Below.refl _ _⟩
  obtain ⟨bl, x, y, hbl, hx, hy, D0⟩ := dDrawSameReference l0 (fun z hz => byteOk (hw0 z hz))
  obtain ⟨bl2, z, z2, hbl2, hz, hz2, D1⟩ := dDrawSameReference l1 (fun z hz => byteOk (hw1 z hz))
  replace D0 := Lib.hid D0
  replace D1 := Lib.hid D1
  have hsm := hbl.B (by omega)
  have hbl1 := hbl.1
  have HSM := Lib.hid hsm
  clear hsm hbl hbl2
  obtain ⟨t1_, h1⟩ : ∃ t, sameR bl x y = t := ⟨_, rfl⟩
  obtain ⟨t2_, h2⟩ : ∃ t, sameR bl y z = t := ⟨_, rfl⟩
  have H1 := Lib.hid h1
  have H2 := Lib.hid h2
  clear h1 h2
  have t0 : decide ((l0.length : Int) > 1048576) = false := decide_eq_false (by omega)
  have t0' : decide (1048576 < l0.length) = false := decide_eq_false (by omega)
  have t1 : decide ((l1.length : Int) > 1048576) = false := decide_eq_false (by omega)
  have t1' : decide (1048576 < l1.length) = false := decide_eq_false (by omega)
  go_enter Try.func8, Try.ntmps8
  go_wp2_with fail
  refine (D0.out A0 c0 _ hr0 hc0).mono ?_
  rintro e w1 ⟨lA, lc, X_3, X_c3, X_4, X_c4, Y_3, Y_c3, Y_4, Y_c4, rfl, hcl, hCl, i, j, b⟩
  have I := Lib.hid i
  have J := Lib.hid j
  clear i j
  have Ll := Lib.hid hCl
  have hlc_ := Lib.hid hcl
  clear hCl hcl
  have BW := Lib.hid b
  clear b
  have Ix := Lib.hid I.out
  have Iy := Lib.hid J.out
  clear I J
  go_wp2_with fail
  obtain ⟨k, k', b⟩ := two_new (Below.refl ((w1.alloc (.cells #[.int .i64 x.f0, .string x.f1, .int .i64 x.f2, .slice X_3 x.f3.length X_c3, .slice X_4 x.f4.length X_c4] 30)).alloc (.cells #[.int .i64 y.f0, .string y.f1, .int .i64 y.f2, .slice Y_3 y.f3.length Y_c3, .slice Y_4 y.f4.length Y_c4] 30)).heap.size ((w1.alloc (.cells #[.int .i64 x.f0, .string x.f1, .int .i64 x.f2, .slice X_3 x.f3.length X_c3, .slice X_4 x.f4.length X_c4] 30)).alloc (.cells #[.int .i64 y.f0, .string y.f1, .int .i64 y.f2, .slice Y_3 y.f3.length Y_c3, .slice Y_4 y.f4.length Y_c4] 30)))
  replace Ix := Lib.hid (Ix.out.below b)
  replace Iy := Lib.hid (Iy.out.below b)
  replace Ll := Lib.hid (Kd.C_below Ll.out b)
  replace BW := Lib.hid (below_step BW.out b)
  clear b
  have Kx := Lib.hid k
  clear k
  have Ky := Lib.hid k'
  clear k'
  generalize ((w1.alloc (.cells #[.int .i64 x.f0, .string x.f1, .int .i64 x.f2, .slice X_3 x.f3.length X_c3, .slice X_4 x.f4.length X_c4] 30)).alloc (.cells #[.int .i64 y.f0, .string y.f1, .int .i64 y.f2, .slice Y_3 y.f3.length Y_c3, .slice Y_4 y.f4.length Y_c4] 30)) = ws1 at Kx Ky Ix Iy BW Ll ⊢
  refine (D1.out A1 c1 _ (Kd.C_below hr1 BW.out) hc1).mono ?_
  rintro e w2 ⟨mA, mc, Z_3, Z_c3, Z_4, Z_c4, V_3, V_c3, V_4, V_c4, rfl, hcm, hCm, i, j, b⟩
  have I := Lib.hid i
  have J := Lib.hid j
  clear i j
  have Lm := Lib.hid hCm
  have hmc_ := Lib.hid hcm
  clear hCm hcm
  replace Kx := Lib.hid (blk_below Kx.out b)
  replace Ky := Lib.hid (blk_below Ky.out b)
  replace Ix := Lib.hid (Ix.out.below b)
  replace Iy := Lib.hid (Iy.out.below b)
  replace Ll := Lib.hid (Kd.C_below Ll.out b)
  replace BW := Lib.hid (below_step BW.out b)
  clear b
  have Iz := Lib.hid I.out
  have Iv := Lib.hid J.out
  clear I J
  obtain ⟨p0, p1, p2, p3, p4⟩ := fm_cells (blk_below (blk_below Kx.out (below_new w2 (.cells #[.int .i64 z.f0, .string z.f1, .int .i64 z.f2, .slice Z_3 z.f3.length Z_c3, .slice Z_4 z.f4.length Z_c4] 30))) (below_new _ (.cells #[.int .i64 z2.f0, .string z2.f1, .int .i64 z2.f2, .slice V_3 z2.f3.length V_c3, .slice V_4 z2.f4.length V_c4] 30)))
  obtain ⟨q0, q1, q2, q3, q4⟩ := fm_cells (blk_below (blk_below Ky.out (below_new w2 (.cells #[.int .i64 z.f0, .string z.f1, .int .i64 z.f2, .slice Z_3 z.f3.length Z_c3, .slice Z_4 z.f4.length Z_c4] 30))) (below_new _ (.cells #[.int .i64 z2.f0, .string z2.f1, .int .i64 z2.f2, .slice V_3 z2.f3.length V_c3, .slice V_4 z2.f4.length V_c4] 30)))
  go_wp2_with fail
  clear p0 p1 p2 p3 p4 q0 q1 q2 q3 q4
  obtain ⟨k, k', b⟩ := two_new (Below.refl ((w2.alloc (.cells #[.int .i64 z.f0, .string z.f1, .int .i64 z.f2, .slice Z_3 z.f3.length Z_c3, .slice Z_4 z.f4.length Z_c4] 30)).alloc (.cells #[.int .i64 z2.f0, .string z2.f1, .int .i64 z2.f2, .slice V_3 z2.f3.length V_c3, .slice V_4 z2.f4.length V_c4] 30)).heap.size ((w2.alloc (.cells #[.int .i64 z.f0, .string z.f1, .int .i64 z.f2, .slice Z_3 z.f3.length Z_c3, .slice Z_4 z.f4.length Z_c4] 30)).alloc (.cells #[.int .i64 z2.f0, .string z2.f1, .int .i64 z2.f2, .slice V_3 z2.f3.length V_c3, .slice V_4 z2.f4.length V_c4] 30)))
  replace Kx := Lib.hid (blk_below Kx.out b)
  replace Ky := Lib.hid (blk_below Ky.out b)
  replace Ix := Lib.hid (Ix.out.below b)
  replace Iy := Lib.hid (Iy.out.below b)
  replace Iz := Lib.hid (Iz.out.below b)
  replace Iv := Lib.hid (Iv.out.below b)
  replace Ll := Lib.hid (Kd.C_below Ll.out b)
  replace Lm := Lib.hid (Kd.C_below Lm.out b)
  replace BW := Lib.hid (below_step BW.out b)
  clear b
  have Kz := Lib.hid k
  clear k
  have Kv := Lib.hid k'
  clear k'
  generalize ((w2.alloc (.cells #[.int .i64 z.f0, .string z.f1, .int .i64 z.f2, .slice Z_3 z.f3.length Z_c3, .slice Z_4 z.f4.length Z_c4] 30)).alloc (.cells #[.int .i64 z2.f0, .string z2.f1, .int .i64 z2.f2, .slice V_3 z2.f3.length V_c3, .slice V_4 z2.f4.length V_c4] 30)) = ws2 at Kx Ky Kz Kv Ix Iy Iz Iv BW Ll Lm ⊢
  refine (implSr H1.out HSM.out (by omega) (by omega) _ _ _ _ _ _ _ _ _ _ _ Ll.out hlc_.out Ix.out Iy.out).mono ?_
  rintro e w3 ⟨rfl, b⟩
  replace Kx := Lib.hid (blk_below Kx.out b)
  replace Ky := Lib.hid (blk_below Ky.out b)
  replace Kz := Lib.hid (blk_below Kz.out b)
  replace Kv := Lib.hid (blk_below Kv.out b)
  replace Ix := Lib.hid (Ix.out.below b)
  replace Iy := Lib.hid (Iy.out.below b)
  replace Iz := Lib.hid (Iz.out.below b)
  replace Iv := Lib.hid (Iv.out.below b)
  replace Ll := Lib.hid (Kd.C_below Ll.out b)
  replace Lm := Lib.hid (Kd.C_below Lm.out b)
  replace BW := Lib.hid (below_step BW.out b)
  clear b
  obtain ⟨p0, p1, p2, p3, p4⟩ := fm_cells Ky.out
  obtain ⟨q0, q1, q2, q3, q4⟩ := fm_cells Kz.out
  go_wp2_with fail
  clear p0 p1 p2 p3 p4 q0 q1 q2 q3 q4
  refine (implSr H2.out HSM.out (by omega) (by omega) _ _ _ _ _ _ _ _ _ _ _ Ll.out hlc_.out Iy.out Iz.out).mono ?_
  rintro e w4 ⟨rfl, b⟩
  replace Kx := Lib.hid (blk_below Kx.out b)
  replace Ky := Lib.hid (blk_below Ky.out b)
  replace Kz := Lib.hid (blk_below Kz.out b)
  replace Kv := Lib.hid (blk_below Kv.out b)
  replace Ix := Lib.hid (Ix.out.below b)
  replace Iy := Lib.hid (Iy.out.below b)
  replace Iz := Lib.hid (Iz.out.below b)
  replace Iv := Lib.hid (Iv.out.below b)
  replace Ll := Lib.hid (Kd.C_below Ll.out b)
  replace Lm := Lib.hid (Kd.C_below Lm.out b)
  replace BW := Lib.hid (below_step BW.out b)
  clear b
  rcases t1_ with _ | _ <;> rcases t2_ with _ | _
  · obtain ⟨p0, p1, p2, p3, p4⟩ := fm_cells Kx.out
    obtain ⟨q0, q1, q2, q3, q4⟩ := fm_cells Ky.out
    go_wp2_with fail
    clear p0 p1 p2 p3 p4 q0 q1 q2 q3 q4
    refine (specSr H1.out HSM.out (by omega) (by omega) _ _ _ _ _ _ _ _ _ _ _ Ll.out hlc_.out Ix.out Iy.out).mono ?_
    rintro e w5 ⟨rfl, b⟩
    replace Kx := Lib.hid (blk_below Kx.out b)
    replace Ky := Lib.hid (blk_below Ky.out b)
    replace Kz := Lib.hid (blk_below Kz.out b)
    replace Kv := Lib.hid (blk_below Kv.out b)
    replace Ix := Lib.hid (Ix.out.below b)
    replace Iy := Lib.hid (Iy.out.below b)
    replace Iz := Lib.hid (Iz.out.below b)
    replace Iv := Lib.hid (Iv.out.below b)
    replace Ll := Lib.hid (Kd.C_below Ll.out b)
    replace Lm := Lib.hid (Kd.C_below Lm.out b)
    replace BW := Lib.hid (below_step BW.out b)
    clear b
    obtain ⟨p0, p1, p2, p3, p4⟩ := fm_cells Ky.out
    obtain ⟨q0, q1, q2, q3, q4⟩ := fm_cells Kz.out
    go_wp2_with fail
    clear p0 p1 p2 p3 p4 q0 q1 q2 q3 q4
    refine (specSr H2.out HSM.out (by omega) (by omega) _ _ _ _ _ _ _ _ _ _ _ Ll.out hlc_.out Iy.out Iz.out).mono ?_
    rintro e w6 ⟨rfl, b⟩
    replace Kx := Lib.hid (blk_below Kx.out b)
    replace Ky := Lib.hid (blk_below Ky.out b)
    replace Kz := Lib.hid (blk_below Kz.out b)
    replace Kv := Lib.hid (blk_below Kv.out b)
    replace Ix := Lib.hid (Ix.out.below b)
    replace Iy := Lib.hid (Iy.out.below b)
    replace Iz := Lib.hid (Iz.out.below b)
    replace Iv := Lib.hid (Iv.out.below b)
    replace Ll := Lib.hid (Kd.C_below Ll.out b)
    replace Lm := Lib.hid (Kd.C_below Lm.out b)
    replace BW := Lib.hid (below_step BW.out b)
    clear b
    go_wp2_with fail
    go_ret
    exact ⟨rfl, by repeat (first | exact BW.out | refine below_alloc ?_ _)⟩
  · obtain ⟨p0, p1, p2, p3, p4⟩ := fm_cells Kx.out
    obtain ⟨q0, q1, q2, q3, q4⟩ := fm_cells Ky.out
    go_wp2_with fail
    clear p0 p1 p2 p3 p4 q0 q1 q2 q3 q4
    refine (specSr H1.out HSM.out (by omega) (by omega) _ _ _ _ _ _ _ _ _ _ _ Ll.out hlc_.out Ix.out Iy.out).mono ?_
    rintro e w5 ⟨rfl, b⟩
    replace Kx := Lib.hid (blk_below Kx.out b)
    replace Ky := Lib.hid (blk_below Ky.out b)
    replace Kz := Lib.hid (blk_below Kz.out b)
    replace Kv := Lib.hid (blk_below Kv.out b)
    replace Ix := Lib.hid (Ix.out.below b)
    replace Iy := Lib.hid (Iy.out.below b)
    replace Iz := Lib.hid (Iz.out.below b)
    replace Iv := Lib.hid (Iv.out.below b)
    replace Ll := Lib.hid (Kd.C_below Ll.out b)
    replace Lm := Lib.hid (Kd.C_below Lm.out b)
    replace BW := Lib.hid (below_step BW.out b)
    clear b
    obtain ⟨p0, p1, p2, p3, p4⟩ := fm_cells Ky.out
    obtain ⟨q0, q1, q2, q3, q4⟩ := fm_cells Kz.out
    go_wp2_with fail
    clear p0 p1 p2 p3 p4 q0 q1 q2 q3 q4
    refine (specSr H2.out HSM.out (by omega) (by omega) _ _ _ _ _ _ _ _ _ _ _ Ll.out hlc_.out Iy.out Iz.out).mono ?_
    rintro e w6 ⟨rfl, b⟩
    replace Kx := Lib.hid (blk_below Kx.out b)
    replace Ky := Lib.hid (blk_below Ky.out b)
    replace Kz := Lib.hid (blk_below Kz.out b)
    replace Kv := Lib.hid (blk_below Kv.out b)
    replace Ix := Lib.hid (Ix.out.below b)
    replace Iy := Lib.hid (Iy.out.below b)
    replace Iz := Lib.hid (Iz.out.below b)
    replace Iv := Lib.hid (Iv.out.below b)
    replace Ll := Lib.hid (Kd.C_below Ll.out b)
    replace Lm := Lib.hid (Kd.C_below Lm.out b)
    replace BW := Lib.hid (below_step BW.out b)
    clear b
    go_wp2_with fail
    go_ret
    exact ⟨rfl, by repeat (first | exact BW.out | refine below_alloc ?_ _)⟩
  · obtain ⟨p0, p1, p2, p3, p4⟩ := fm_cells Kx.out
    obtain ⟨q0, q1, q2, q3, q4⟩ := fm_cells Ky.out
    go_wp2_with fail
    clear p0 p1 p2 p3 p4 q0 q1 q2 q3 q4
    refine (specSr H1.out HSM.out (by omega) (by omega) _ _ _ _ _ _ _ _ _ _ _ Ll.out hlc_.out Ix.out Iy.out).mono ?_
    rintro e w5 ⟨rfl, b⟩
    replace Kx := Lib.hid (blk_below Kx.out b)
    replace Ky := Lib.hid (blk_below Ky.out b)
    replace Kz := Lib.hid (blk_below Kz.out b)
    replace Kv := Lib.hid (blk_below Kv.out b)
    replace Ix := Lib.hid (Ix.out.below b)
    replace Iy := Lib.hid (Iy.out.below b)
    replace Iz := Lib.hid (Iz.out.below b)
    replace Iv := Lib.hid (Iv.out.below b)
    replace Ll := Lib.hid (Kd.C_below Ll.out b)
    replace Lm := Lib.hid (Kd.C_below Lm.out b)
    replace BW := Lib.hid (below_step BW.out b)
    clear b
    obtain ⟨p0, p1, p2, p3, p4⟩ := fm_cells Ky.out
    obtain ⟨q0, q1, q2, q3, q4⟩ := fm_cells Kz.out
    go_wp2_with fail
    clear p0 p1 p2 p3 p4 q0 q1 q2 q3 q4
    refine (specSr H2.out HSM.out (by omega) (by omega) _ _ _ _ _ _ _ _ _ _ _ Ll.out hlc_.out Iy.out Iz.out).mono ?_
    rintro e w6 ⟨rfl, b⟩
    replace Kx := Lib.hid (blk_below Kx.out b)
    replace Ky := Lib.hid (blk_below Ky.out b)
    replace Kz := Lib.hid (blk_below Kz.out b)
    replace Kv := Lib.hid (blk_below Kv.out b)
    replace Ix := Lib.hid (Ix.out.below b)
    replace Iy := Lib.hid (Iy.out.below b)
    replace Iz := Lib.hid (Iz.out.below b)
    replace Iv := Lib.hid (Iv.out.below b)
    replace Ll := Lib.hid (Kd.C_below Ll.out b)
    replace Lm := Lib.hid (Kd.C_below Lm.out b)
    replace BW := Lib.hid (below_step BW.out b)
    clear b
    go_wp2_with fail
    go_ret
    exact ⟨rfl, by repeat (first | exact BW.out | refine below_alloc ?_ _)⟩
  · obtain ⟨p0, p1, p2, p3, p4⟩ := fm_cells Kx.out
    obtain ⟨q0, q1, q2, q3, q4⟩ := fm_cells Ky.out
    go_wp2_with fail
    clear p0 p1 p2 p3 p4 q0 q1 q2 q3 q4
    refine (specSr H1.out HSM.out (by omega) (by omega) _ _ _ _ _ _ _ _ _ _ _ Ll.out hlc_.out Ix.out Iy.out).mono ?_
    rintro e w5 ⟨rfl, b⟩
    replace Kx := Lib.hid (blk_below Kx.out b)
    replace Ky := Lib.hid (blk_below Ky.out b)
    replace Kz := Lib.hid (blk_below Kz.out b)
    replace Kv := Lib.hid (blk_below Kv.out b)
    replace Ix := Lib.hid (Ix.out.below b)
    replace Iy := Lib.hid (Iy.out.below b)
    replace Iz := Lib.hid (Iz.out.below b)
    replace Iv := Lib.hid (Iv.out.below b)
    replace Ll := Lib.hid (Kd.C_below Ll.out b)
    replace Lm := Lib.hid (Kd.C_below Lm.out b)
    replace BW := Lib.hid (below_step BW.out b)
    clear b
    obtain ⟨p0, p1, p2, p3, p4⟩ := fm_cells Ky.out
    obtain ⟨q0, q1, q2, q3, q4⟩ := fm_cells Kz.out
    go_wp2_with fail
    clear p0 p1 p2 p3 p4 q0 q1 q2 q3 q4
    refine (specSr H2.out HSM.out (by omega) (by omega) _ _ _ _ _ _ _ _ _ _ _ Ll.out hlc_.out Iy.out Iz.out).mono ?_
    rintro e w6 ⟨rfl, b⟩
    replace Kx := Lib.hid (blk_below Kx.out b)
    replace Ky := Lib.hid (blk_below Ky.out b)
    replace Kz := Lib.hid (blk_below Kz.out b)
    replace Kv := Lib.hid (blk_below Kv.out b)
    replace Ix := Lib.hid (Ix.out.below b)
    replace Iy := Lib.hid (Iy.out.below b)
    replace Iz := Lib.hid (Iz.out.below b)
    replace Iv := Lib.hid (Iv.out.below b)
    replace Ll := Lib.hid (Kd.C_below Ll.out b)
    replace Lm := Lib.hid (Kd.C_below Lm.out b)
    replace BW := Lib.hid (below_step BW.out b)
    clear b
    obtain ⟨p0, p1, p2, p3, p4⟩ := fm_cells Kx.out
    obtain ⟨q0, q1, q2, q3, q4⟩ := fm_cells Kz.out
    go_wp2_with fail
    clear p0 p1 p2 p3 p4 q0 q1 q2 q3 q4
    refine (implSr (same_trans H1.out H2.out) HSM.out (by omega) (by omega) _ _ _ _ _ _ _ _ _ _ _ Ll.out hlc_.out Ix.out Iz.out).mono ?_
    rintro e w7 ⟨rfl, b⟩
    replace Kx := Lib.hid (blk_below Kx.out b)
    replace Ky := Lib.hid (blk_below Ky.out b)
    replace Kz := Lib.hid (blk_below Kz.out b)
    replace Kv := Lib.hid (blk_below Kv.out b)
    replace Ix := Lib.hid (Ix.out.below b)
    replace Iy := Lib.hid (Iy.out.below b)
    replace Iz := Lib.hid (Iz.out.below b)
    replace Iv := Lib.hid (Iv.out.below b)
    replace Ll := Lib.hid (Kd.C_below Ll.out b)
    replace Lm := Lib.hid (Kd.C_below Lm.out b)
    replace BW := Lib.hid (below_step BW.out b)
    clear b
    go_wp2_with fail
    go_ret
    exact ⟨rfl, by repeat (first | exact BW.out | refine below_alloc ?_ _)⟩
end Go.Proofs.Ytcbomlmlindjdaa
end
section
namespace Go.Proofs.Ytcbomlmlindjdaa.fnReferenceTrans
open Go.ChangeShapes Go.WideShapes Go.ChangeAt Go.RowKit Go.Proofs.Ytcbomlmlindjdaa
open Go.ChangeMaps (open_string shut_string)
set_option linter.unusedVariables false
theorem own : ownKnob Try.prog.godebug = none := by kernel_rfl
theorem laidOut : laidOutB Try.prog = true := by kernel_rfl
def IsRow (k : IntKind) (w : World) (a : Option Addr) (len cap : Nat) (zs : List Int) : Prop :=
  (a = none ∧ len = 0 ∧ cap = 0 ∧ zs = []) ∨
  ∃ x, a = some x ∧ len ≤ cap ∧ cap ≤ maxLen ∧ zs.length = cap ∧ (∀ i, i < zs.length → w.cell? (x.add i) = some (.int k (zs.getD i 0))) ∧ ∀ n ∈ zs, (Lit.int k n).wf = true
set_option maxRecDepth 100000 in
theorem lifted (os : Os) (started : os.Started) (H : Type) (enc : TypeId × Value → H) :
    ReturnsInHanded {} Try.checked os 8 .any (Rows.fnReferenceTransSpec.pre6 enc Try.prog Try.f8 Rows.fnReferenceTransRow.domain false) (Rows.fnReferenceTransSpec.post enc Try.prog Try.f8 false true false false) := by
  refine returnsInHanded_of_change_sized (C := Try.checked) own started (by kernel_rfl) Try.func8
    (ChangeSpec.witness6 (enc := enc) (C := Try.checked) false ⟨#[], #[.slice none 0 0, .slice none 0 0], []⟩ 8 (by kernel_rfl) (by kernel_rfl) (by kernel_rfl) (by kernel_rfl)) ?_
  intro W base args ds gs before hval0 hW hcnd hsz0 _
  have hsz : (DataW.weightsEach Try.prog (Try.f8.params.toList ++ Rows.fnReferenceTransSpec.plain.varTypes Try.prog) (ds ++ gs)).all (· ≤ reachBytes) = true := hsz0
  have hval : ∀ (j : Nat) t v, Try.f8.params[j]? = some t → args[j]? = some v → Value.okWide Try.prog W .any base t v := hval0
  have hW' := hW
  obtain ⟨p, q, hA0, hV, rfl, hfz, hnd⟩ := hW
  have hA : DataW.TrodAll enc Try.prog W 0 (fun _ => true) true Try.f8.params.toList args.toList ds p := hA0
  rw [Try.params8] at hA hval hsz
  obtain ⟨v0, vs0, d0, ds0, p0, q0, hargs, rfl, rfl, h0, r0⟩ := trodAll_cons hA
  obtain ⟨v1, vs1, d1, ds1, p1, q1, rfl, rfl, rfl, h1, r1⟩ := trodAll_cons r0
  obtain ⟨rfl, rfl, rfl⟩ := trodAll_nil r1
  obtain rfl : args = #[v0, v1] := by cases args; simp_all
  obtain ⟨rfl, rfl⟩ := trodVars_none hV
  obtain ⟨a0, len0, cap0, rfl⟩ := okWide_slice Try.underlying22 (hval 0 22 v0 rfl rfl)
  have k0 := h0
  have lt0 : ∀ x ∈ p0, x.block < W.heap.size := by obtain ⟨m, hm⟩ := k0; exact DataW.trod_lt m _ _ _ hm
  obtain ⟨z0, w0⟩ : ∃ zs, IsRow .u8 W a0 len0 cap0 zs := by
    obtain ⟨fuel, hf⟩ := h0
    rcases open_ints Try.underlying22 Try.underlying5 (by kernel_rfl) hf with ⟨hcs, _⟩ | ⟨x, l, c, zs, hcs, _, hl, hm, hz, _, hcell, hwz⟩
    · simp [Value.cells] at hcs
      obtain ⟨rfl, rfl, rfl⟩ := hcs
      exact ⟨[], .inl ⟨rfl, rfl, rfl, rfl⟩⟩
    · simp [Value.cells] at hcs
      obtain ⟨rfl, rfl, rfl⟩ := hcs
      exact ⟨zs, .inr ⟨_, rfl, hl, hm, by simpa using hz, hcell, hwz⟩⟩
  have y0 : len0 * 1 ≤ 140737488351232 := Go.Proofs.YtcbomlmlindjdaaW.PrintWords.sized_ints hsz (j := 0) (t := 22) rfl rfl Try.underlying22 Try.underlying5 (by kernel_rfl) (by kernel_rfl) h0
  obtain ⟨l0, rfl, hr0, hm0, hw0, hc0⟩ := Go.Proofs.YtcbomlmlindjdaaW.PrintWords.ReadsInt.ofRowC w0
  obtain ⟨a1, len1, cap1, rfl⟩ := okWide_slice Try.underlying22 (hval 1 22 v1 rfl rfl)
  have k1 := h1
  have lt1 : ∀ x ∈ p1, x.block < W.heap.size := by obtain ⟨m, hm⟩ := k1; exact DataW.trod_lt m _ _ _ hm
  obtain ⟨z1, w1⟩ : ∃ zs, IsRow .u8 W a1 len1 cap1 zs := by
    obtain ⟨fuel, hf⟩ := h1
    rcases open_ints Try.underlying22 Try.underlying5 (by kernel_rfl) hf with ⟨hcs, _⟩ | ⟨x, l, c, zs, hcs, _, hl, hm, hz, _, hcell, hwz⟩
    · simp [Value.cells] at hcs
      obtain ⟨rfl, rfl, rfl⟩ := hcs
      exact ⟨[], .inl ⟨rfl, rfl, rfl, rfl⟩⟩
    · simp [Value.cells] at hcs
      obtain ⟨rfl, rfl, rfl⟩ := hcs
      exact ⟨zs, .inr ⟨_, rfl, hl, hm, by simpa using hz, hcell, hwz⟩⟩
  have y1 : len1 * 1 ≤ 140737488351232 := Go.Proofs.YtcbomlmlindjdaaW.PrintWords.sized_ints hsz (j := 1) (t := 22) rfl rfl Try.underlying22 Try.underlying5 (by kernel_rfl) (by kernel_rfl) h1
  obtain ⟨l1, rfl, hr1, hm1, hw1, hc1⟩ := Go.Proofs.YtcbomlmlindjdaaW.PrintWords.ReadsInt.ofRowC w1
  clear hA0 hval0 hsz0 hsz
  refine (fnReferenceTrans_walk _ _ l0 _ _ l1 W (Go.Proofs.YtcbomlmlindjdaaW.PrintWords.Kd.C_of_reads (d := (0 : Int)) (h1 := fun _ => rfl) hr0) hc0 y0 hw0 (Go.Proofs.YtcbomlmlindjdaaW.PrintWords.Kd.C_of_reads (d := (0 : Int)) (h1 := fun _ => rfl) hr1) hc1 y1 hw1).mono fun e W' ⟨he, bel⟩ => ?_
  subst he
  exact ⟨_, rfl, _, _, _, [], _, [], hW', trodAll_mk1 (shut_bool Try.underlying4 _), (trodAll_cons_mk (Below.trod laidOut (by kernel_rfl) (of_decide_eq_true (by kernel_rfl)) k0 bel lt0) (trodAll_cons_mk (Below.trod laidOut (by kernel_rfl) (of_decide_eq_true (by kernel_rfl)) k1 bel lt1) trodAll_mk0)), rfl, bel.frame _, fun h => by cases h⟩
set_option maxRecDepth 100000 in
theorem closed : joinedFacts Try.prog 8 Try.f8 Rows.fnReferenceTransSpec Rows.fnReferenceTransRow = true := by
  unfold joinedFacts
  refine Bool.and_eq_true_iff.2 ⟨Bool.and_eq_true_iff.2 ⟨Bool.and_eq_true_iff.2 ⟨Bool.and_eq_true_iff.2 ⟨Bool.and_eq_true_iff.2 ⟨Bool.and_eq_true_iff.2 ⟨Bool.and_eq_true_iff.2 ⟨?_, mayEnter_yes⟩, (congrArg (fun b => Rows.fnReferenceTransRow.lifted == b) liftsFinal_no).trans (by kernel_rfl)⟩, (congrArg (fun b => b == some Rows.fnReferenceTransRow.make) make_cut).trans (by kernel_rfl)⟩, ?_⟩, ?_⟩, ?_⟩, ?_⟩
  all_goals kernel_rfl
theorem over : Rows.fnReferenceTransRow.holds Try.pinned (OpenSpec.ofChange Rows.fnReferenceTransSpec) :=
  OpenClaim.holds_of_wide 8 Try.f8 rfl rfl rfl rfl rfl rfl rfl ⟨rfl, rfl, rfl, rfl, rfl⟩ rfl rfl rfl rfl rfl (by kernel_rfl) Try.func8 closed
    (of_decide_eq_true (by kernel_rfl)) (by unfold Func.isWrapper; first | (rw [if_pos (by decide +kernel)]; kernel_rfl) | (rw [if_neg (by decide +kernel)]; exact ⟨rfl, rfl⟩))
    (fun os started H enc _ => lifted os started H enc)
end Go.Proofs.Ytcbomlmlindjdaa.fnReferenceTrans
namespace Go.Proofs.Ytcbomlmlindjdaa
/-- The row. -/
theorem fnReferenceTrans_holds : Rows.FnReferenceTransSaid := fnReferenceTrans.over
#print axioms fnReferenceTrans_holds
end Go.Proofs.Ytcbomlmlindjdaa
end
