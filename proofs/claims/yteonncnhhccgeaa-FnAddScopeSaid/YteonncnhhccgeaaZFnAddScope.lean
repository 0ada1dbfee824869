/- A scope that is added is one of the form's, adding it twice is adding it once, and nothing else of the form changes. For every input the law FnAddScope returns true, and leaves its input alone. No condition. -/
import Derived.Below
import Derived.ChangeOld
import Derived.JoinedOf
import Derived.KernelRfl
import Derived.OpenShut
import Derived.ProofKit
import Derived.RowKit3
import Derived.ShutString
import Derived.SizedLaws
import Derived.Test.YteonncnhhccgeaaRows
import Derived.WalkKit
import Derived.Test.YteonncnhhccgeaaPk1
import Derived.Test.YteonncnhhccgeaaPk4
import Derived.Test.YteonncnhhccgeaaPk5
section
namespace Go.Proofs.Yteonncnhhccgeaa
open Go.RowKit Go.Proofs.YteonncnhhccgeaaW.PrintWords Go.Proofs.YteonncnhhccgeaaW.PrintLast Go.Proofs.YteonncnhhccgeaaW.PrintMore
set_option linter.unusedVariables false
set_option linter.unusedSimpArgs false
set_option maxHeartbeats 4000000 in
set_option maxRecDepth 100000 in
theorem fnAddScope_walk (A0 : Option Addr) (c0 : Nat) (l0 : List Int) (w : World)
    (hr0 : (Kd.int .u8).C w A0 l0.length l0) (hc0 : l0.length ≤ c0) (y0 : l0.length * 1 ≤ 140737488351232) (hw0 : ∀ n ∈ l0, (Lit.int .u8 n).wf = true) :
    Calls Try.prog 5 #[.slice A0 l0.length c0] w fun e w' => e = .returned (.bool true) ∧ Below w.heap.size w w' := by
  by_cases g0 : l0.length ≤ 1048576
  rotate_left
  · have t0 : decide ((l0.length : Int) > 1048576) = true := decide_eq_true (by omega)
    have t0' : decide (1048576 < l0.length) = true := decide_eq_true (by omega)
    go_enter Try.func5, Try.ntmps5
    go_wp2_with fail
    go_ret
    exact ⟨rfl, Below.refl _ _⟩
  obtain ⟨x, n, hx, hn0, hn1, D0⟩ := drawAdd l0 (fun z hz => byteOk (hw0 z hz))
  rcases h1 : reS (fun l => putS l n) n x with ⟨z, b1⟩
  have hz := reS_tot (fun l => putS l n) n x
  rw [h1] at hz
  replace D0 := Lib.hid D0
  have t0 : decide ((l0.length : Int) > 1048576) = false := decide_eq_false (by omega)
  have t0' : decide (1048576 < l0.length) = false := decide_eq_false (by omega)
  go_enter Try.func5, Try.ntmps5
  go_wp2_with fail
  refine (D0.out A0 c0 _ hr0 hc0).mono ?_
  rintro e w1 ⟨X_3, X_c3, X_4, X_c4, rfl, i, b⟩
  have I := Lib.hid i
  clear i
  have BW := Lib.hid b
  clear b
  have Ix := Lib.hid I.out
  clear I
  go_wp2_with fail
  refine (implGAdd' h1 _ _ _ _ _ (Ix.out.below (below_new _ _)) (by omega)).mono ?_
  rintro e w2 ⟨Z_3, Z_c3, Z_4, Z_c4, rfl, i, b⟩
  have I := Lib.hid i
  clear i
  obtain ⟨k, b⟩ := one_new b
  replace Ix := Lib.hid (Ix.out.below b)
  replace BW := Lib.hid (below_step BW.out b)
  have Kx := Lib.hid k
  clear k
  clear b
  have Iz := Lib.hid I.out
  clear I
  obtain ⟨p0, p1, p2, p3, p4⟩ := fm_cells (blk_below Kx.out (below_new w2 (.cells #[.int .i64 z.f0, .string z.f1, .int .i64 z.f2, .slice Z_3 z.f3.length Z_c3, .slice Z_4 z.f4.length Z_c4] 31)))
  go_wp2_with fail
  clear p0 p1 p2 p3 p4
  refine (specGAdd' h1 _ _ _ _ _ (Ix.out.below (below_new _ _)) (by omega)).mono ?_
  rintro e w3 ⟨U_3, U_c3, U_4, U_c4, rfl, i, b⟩
  have I := Lib.hid i
  clear i
  obtain ⟨k, b⟩ := one_new b
  replace Kx := Lib.hid (blk_below Kx.out b)
  replace Ix := Lib.hid (Ix.out.below b)
  replace Iz := Lib.hid (Iz.out.below b)
  replace BW := Lib.hid (below_step BW.out b)
  have Kz := Lib.hid k
  clear k
  clear b
  have Iu := Lib.hid I.out
  clear I
  obtain ⟨p0, p1, p2, p3, p4⟩ := fm_cells (blk_below Kz.out (below_new w3 (.cells #[.int .i64 z.f0, .string z.f1, .int .i64 z.f2, .slice U_3 z.f3.length U_c3, .slice U_4 z.f4.length U_c4] 31)))
  go_wp2_with fail
  clear p0 p1 p2 p3 p4
  refine (sameT z _ _ _ _ _ _ _ _ _ (Iz.out.below (below_new _ _)) (Iu.out.below (below_new _ _))).mono ?_
  rintro e w4 ⟨rfl, b⟩
  obtain ⟨k, b⟩ := one_new b
  replace Kx := Lib.hid (blk_below Kx.out b)
  replace Kz := Lib.hid (blk_below Kz.out b)
  replace Ix := Lib.hid (Ix.out.below b)
  replace Iz := Lib.hid (Iz.out.below b)
  replace Iu := Lib.hid (Iu.out.below b)
  replace BW := Lib.hid (below_step BW.out b)
  have Ku := Lib.hid k
  clear k
  clear b
  rcases b1 with _ | _
  · obtain ⟨p0, p1, p2, p3, p4⟩ := fm_cells Kz.out
    obtain ⟨q0, q1, q2, q3, q4⟩ := fm_cells Ku.out
    go_wp2_with fail
    clear p0 p1 p2 p3 p4 q0 q1 q2 q3 q4
    refine (sameT z _ _ _ _ _ _ _ _ _ Iz.out Iu.out).mono ?_
    rintro e w5 ⟨rfl, b⟩
    replace Kx := Lib.hid (blk_below Kx.out b)
    replace Kz := Lib.hid (blk_below Kz.out b)
    replace Ku := Lib.hid (blk_below Ku.out b)
    replace Ix := Lib.hid (Ix.out.below b)
    replace Iz := Lib.hid (Iz.out.below b)
    replace Iu := Lib.hid (Iu.out.below b)
    replace BW := Lib.hid (below_step BW.out b)
    clear b
    go_wp2_with fail
    go_ret
    exact ⟨rfl, by repeat (first | exact BW.out | refine below_alloc ?_ _)⟩
  · have h2 := add_again h1
    obtain ⟨hhas, hwi⟩ := add_has h1
    have hbare := re_bare h1
    obtain ⟨l, hl⟩ : ∃ l, scAll z = l := ⟨_, rfl⟩
    obtain ⟨m, hm⟩ : ∃ m, scAll x = m := ⟨_, rfl⟩
    obtain ⟨q, hq⟩ : ∃ q, namesN x = q := ⟨_, rfl⟩
    rw [hl] at hhas hwi
    rw [hm] at hwi
    rw [hq] at hhas
    have HH := Lib.hid hhas
    have HBR := Lib.hid hbare
    clear hhas hbare
    obtain ⟨p0, p1, p2, p3, p4⟩ := fm_cells Kz.out
    go_wp2_with fail
    clear p0 p1 p2 p3 p4
    refine (implGAdd' h2 _ _ _ _ _ Iz.out (by omega)).mono ?_
    rintro e w5 ⟨T_3, T_c3, T_4, T_c4, rfl, i, b⟩
    have I := Lib.hid i
    clear i
    replace Kx := Lib.hid (blk_below Kx.out b)
    replace Kz := Lib.hid (blk_below Kz.out b)
    replace Ku := Lib.hid (blk_below Ku.out b)
    replace Ix := Lib.hid (Ix.out.below b)
    replace Iz := Lib.hid (Iz.out.below b)
    replace Iu := Lib.hid (Iu.out.below b)
    replace BW := Lib.hid (below_step BW.out b)
    clear b
    have It := Lib.hid I.out
    clear I
    obtain ⟨p0, p1, p2, p3, p4⟩ := fm_cells (blk_below Kz.out (below_new w5 (.cells #[.int .i64 z.f0, .string z.f1, .int .i64 z.f2, .slice T_3 z.f3.length T_c3, .slice T_4 z.f4.length T_c4] 31)))
    go_wp2_with fail
    clear p0 p1 p2 p3 p4
    refine (implSc' hl _ _ _ _ _ (Iz.out.below (below_new _ _)) (by omega)).mono ?_
    rintro e w6 ⟨lA, lc, rfl, hlc_, hC, b⟩
    have Ll := Lib.hid hC
    clear hC
    obtain ⟨k, b⟩ := one_new b
    replace Kx := Lib.hid (blk_below Kx.out b)
    replace Kz := Lib.hid (blk_below Kz.out b)
    replace Ku := Lib.hid (blk_below Ku.out b)
    replace Ix := Lib.hid (Ix.out.below b)
    replace Iz := Lib.hid (Iz.out.below b)
    replace Iu := Lib.hid (Iu.out.below b)
    replace It := Lib.hid (It.out.below b)
    replace BW := Lib.hid (below_step BW.out b)
    have Kt := Lib.hid k
    clear k
    clear b
    go_wp2_with fail
    by_cases hqn : q = []
    · have t1 : ((q.length : Int) == 0) = true := by simp [hqn]
      have t2 : (q.length == 0) = true := by simp [hqn]
      have b := below_drew (Below.refl w6.heap.size w6)
      replace Kx := Lib.hid (blk_below Kx.out b)
      replace Kz := Lib.hid (blk_below Kz.out b)
      replace Ku := Lib.hid (blk_below Ku.out b)
      replace Kt := Lib.hid (blk_below Kt.out b)
      replace Ix := Lib.hid (Ix.out.below b)
      replace Iz := Lib.hid (Iz.out.below b)
      replace Iu := Lib.hid (Iu.out.below b)
      replace It := Lib.hid (It.out.below b)
      replace Ll := Lib.hid (Kd.C_below Ll.out b)
      replace BW := Lib.hid (below_step BW.out b)
      clear b
      obtain ⟨p0, p1, p2, p3, p4⟩ := fm_cells Kx.out
      obtain ⟨q0, q1, q2, q3, q4⟩ := fm_cells Kz.out
      obtain ⟨r0, r1, r2, r3, r4⟩ := fm_cells Kt.out
      refine start_ (n := 32) (S := (fun W : World => W.cell? ⟨w1.heap.size, 0, none⟩ = some (.int .i64 x.f0) ∧ W.cell? ⟨w1.heap.size, 1, none⟩ = some (.string x.f1) ∧ W.cell? ⟨w1.heap.size, 2, none⟩ = some (.int .i64 x.f2) ∧ W.cell? ⟨w1.heap.size, 3, none⟩ = some (.slice X_3 x.f3.length X_c3) ∧ W.cell? ⟨w1.heap.size, 4, none⟩ = some (.slice X_4 x.f4.length X_c4) ∧ W.cell? ⟨w2.heap.size, 0, none⟩ = some (.int .i64 z.f0) ∧ W.cell? ⟨w2.heap.size, 1, none⟩ = some (.string z.f1) ∧ W.cell? ⟨w2.heap.size, 2, none⟩ = some (.int .i64 z.f2) ∧ W.cell? ⟨w2.heap.size, 3, none⟩ = some (.slice Z_3 z.f3.length Z_c3) ∧ W.cell? ⟨w2.heap.size, 4, none⟩ = some (.slice Z_4 z.f4.length Z_c4) ∧ W.cell? ⟨w5.heap.size, 0, none⟩ = some (.int .i64 z.f0) ∧ W.cell? ⟨w5.heap.size, 1, none⟩ = some (.string z.f1) ∧ W.cell? ⟨w5.heap.size, 2, none⟩ = some (.int .i64 z.f2) ∧ W.cell? ⟨w5.heap.size, 3, none⟩ = some (.slice T_3 z.f3.length T_c3) ∧ W.cell? ⟨w5.heap.size, 4, none⟩ = some (.slice T_4 z.f4.length T_c4))) (ds := []) #[false, false, false, false, false, false, false, false, false, false, false, false, false, false, false, false, false, false, false, false, false, false, false, false, false, false, false, false, false, false, false, false] (by kernel_rfl) rfl rfl ⟨p0, p1, p2, p3, p4, q0, q1, q2, q3, q4, r0, r1, r2, r3, r4⟩ (fun hHeld => ?_)
      generalize World.drew _ = wd at Kx Kz Ku Kt Ix Iz Iu It BW Ll hHeld ⊢
      clear p0 p1 p2 p3 p4 q0 q1 q2 q3 q4 r0 r1 r2 r3 r4
      refine pure_ (i := 0) (N := some 61) (v := ?_) (a' := ?_) #[true, false, false, false, false, false, false, false, false, false, false, false, false, false, false, false, false, false, false, false, false, false, false, false, false, false, false, false, false, false, false, false] rfl rfl (by kernel_rfl) (fun _ _ _ h => h) (Or.inl ⟨by rfl, ?_⟩) ?_ ?_
      rotate_left
      · intro w'
        go_simp
        with_reducible rfl
      rotate_left
      · simp only [Act.put, List.setIfInBounds_toArray, List.set_cons_zero, List.set_cons_succ, i64_w, i32_w]
        rfl
      refine pure_ (i := 1) (N := some 62) (v := ?_) (a' := ?_) #[true, true, false, false, false, false, false, false, false, false, false, false, false, false, false, false, false, false, false, false, false, false, false, false, false, false, false, false, false, false, false, false] rfl rfl (by kernel_rfl) (fun _ _ _ h => h) (Or.inl ⟨by rfl, ?_⟩) ?_ ?_
      rotate_left
      · intro w'
        go_simp
        with_reducible rfl
      rotate_left
      · simp only [Act.put, List.setIfInBounds_toArray, List.set_cons_zero, List.set_cons_succ, i64_w, i32_w]
        rfl
      refine take_ (i := 2) (N := some 63) (v := ?_) (a' := ?_) #[true, true, true, false, false, false, false, false, false, false, false, false, false, false, false, false, false, false, false, false, false, false, false, false, false, false, false, false, false, false, false, false] rfl rfl (by kernel_rfl) (fun _ _ _ h => h) (Or.inl ⟨by rfl, ?_⟩) hHeld ?_ ?_
      rotate_left
      · rintro w' ⟨s0, s1, s2, s3, s4, s5, s6, s7, s8, s9, s10, s11, s12, s13, s14⟩
        go_simp
        with_reducible rfl
      rotate_left
      · simp only [Act.put, List.setIfInBounds_toArray, List.set_cons_zero, List.set_cons_succ, i64_w, i32_w]
        rfl
      refine take_ (i := 3) (N := some 64) (v := ?_) (a' := ?_) #[true, true, true, true, false, false, false, false, false, false, false, false, false, false, false, false, false, false, false, false, false, false, false, false, false, false, false, false, false, false, false, false] rfl rfl (by kernel_rfl) (fun _ _ _ h => h) (Or.inl ⟨by rfl, ?_⟩) hHeld ?_ ?_
      rotate_left
      · rintro w' ⟨s0, s1, s2, s3, s4, s5, s6, s7, s8, s9, s10, s11, s12, s13, s14⟩
        go_simp
        with_reducible rfl
      rotate_left
      · simp only [Act.put, List.setIfInBounds_toArray, List.set_cons_zero, List.set_cons_succ, i64_w, i32_w]
        rfl
      refine one_ (i := 4) (N := some 65) #[true, true, true, true, true, false, false, false, false, false, false, false, false, false, false, false, false, false, false, false, false, false, false, false, false, false, false, false, false, false, false, false] rfl rfl (by kernel_rfl) (by decide) (fun K hK => ?_)
      refine goes_ Try.func33 (by kernel_rfl) rfl #[.agg #[.int .i64 z.f0, .string z.f1, .int .i64 z.f2, .slice T_3 z.f3.length T_c3, .slice T_4 z.f4.length T_c4], .agg #[.int .i64 z.f0, .string z.f1, .int .i64 z.f2, .slice Z_3 z.f3.length Z_c3, .slice Z_4 z.f4.length Z_c4]] (by rfl) rfl rfl (by (try simp only [List.map_toArray, List.map_cons, List.map_nil]); first | done | rfl) ?_
      refine (sameT z _ _ _ _ _ _ _ _ _ It.out Iz.out).mono ?_
      rintro e w7 ⟨rfl, b⟩
      replace Kx := Lib.hid (blk_below Kx.out b)
      replace Kz := Lib.hid (blk_below Kz.out b)
      replace Ku := Lib.hid (blk_below Ku.out b)
      replace Kt := Lib.hid (blk_below Kt.out b)
      replace Ix := Lib.hid (Ix.out.below b)
      replace Iz := Lib.hid (Iz.out.below b)
      replace Iu := Lib.hid (Iu.out.below b)
      replace It := Lib.hid (It.out.below b)
      replace Ll := Lib.hid (Kd.C_below Ll.out b)
      replace BW := Lib.hid (below_step BW.out b)
      clear b
      refine ⟨_, rfl, ?_⟩
      obtain ⟨p0, p1, p2, p3, p4⟩ := fm_cells Kx.out
      obtain ⟨q0, q1, q2, q3, q4⟩ := fm_cells Kz.out
      obtain ⟨r0, r1, r2, r3, r4⟩ := fm_cells Kt.out
      refine hK.out _ _ ⟨p0, p1, p2, p3, p4, q0, q1, q2, q3, q4, r0, r1, r2, r3, r4⟩ (fun hHeld => ?_)
      clear hK K
      refine norm_ (a' := ?_) ?_ ?_
      rotate_left
      · show Act.put _ (some 65) _ = _
        simp only [Act.put, List.setIfInBounds_toArray, List.set_cons_zero, List.set_cons_succ, i64_w, i32_w]
        rfl
      clear p0 p1 p2 p3 p4 q0 q1 q2 q3 q4 r0 r1 r2 r3 r4
      refine pure_ (i := 5) (N := some 66) (v := ?_) (a' := ?_) #[true, true, true, true, true, true, false, false, false, false, false, false, false, false, false, false, false, false, false, false, false, false, false, false, false, false, false, false, false, false, false, false] rfl rfl (by kernel_rfl) (fun _ _ _ h => h) (Or.inl ⟨by rfl, ?_⟩) ?_ ?_
      rotate_left
      · intro w'
        go_simp
        with_reducible rfl
      rotate_left
      · simp only [Act.put, List.setIfInBounds_toArray, List.set_cons_zero, List.set_cons_succ, i64_w, i32_w]
        rfl
      refine pure_ (i := 6) (N := some 67) (v := ?_) (a' := ?_) #[true, true, true, true, true, true, true, false, false, false, false, false, false, false, false, false, false, false, false, false, false, false, false, false, false, false, false, false, false, false, false, false] rfl rfl (by kernel_rfl) (fun _ _ _ h => h) (Or.inl ⟨by rfl, ?_⟩) ?_ ?_
      rotate_left
      · intro w'
        go_simp
        with_reducible rfl
      rotate_left
      · simp only [Act.put, List.setIfInBounds_toArray, List.set_cons_zero, List.set_cons_succ, i64_w, i32_w]
        rfl
      refine take_ (i := 7) (N := some 68) (v := ?_) (a' := ?_) #[true, true, true, true, true, true, true, true, false, false, false, false, false, false, false, false, false, false, false, false, false, false, false, false, false, false, false, false, false, false, false, false] rfl rfl (by kernel_rfl) (fun _ _ _ h => h) (Or.inl ⟨by rfl, ?_⟩) hHeld ?_ ?_
      rotate_left
      · rintro w' ⟨s0, s1, s2, s3, s4, s5, s6, s7, s8, s9, s10, s11, s12, s13, s14⟩
        go_simp
        with_reducible rfl
      rotate_left
      · simp only [Act.put, List.setIfInBounds_toArray, List.set_cons_zero, List.set_cons_succ, i64_w, i32_w]
        rfl
      refine take_ (i := 9) (N := some 70) (v := ?_) (a' := ?_) #[true, true, true, true, true, true, true, true, false, true, false, false, false, false, false, false, false, false, false, false, false, false, false, false, false, false, false, false, false, false, false, false] rfl rfl (by kernel_rfl) (fun _ _ _ h => h) (Or.inl ⟨by rfl, ?_⟩) hHeld ?_ ?_
      rotate_left
      · rintro w' ⟨s0, s1, s2, s3, s4, s5, s6, s7, s8, s9, s10, s11, s12, s13, s14⟩
        go_simp
        with_reducible rfl
      rotate_left
      · simp only [Act.put, List.setIfInBounds_toArray, List.set_cons_zero, List.set_cons_succ, i64_w, i32_w]
        rfl
      refine one_ (i := 8) (N := some 69) #[true, true, true, true, true, true, true, true, true, true, false, false, false, false, false, false, false, false, false, false, false, false, false, false, false, false, false, false, false, false, false, false] rfl rfl (by kernel_rfl) (by decide) (fun K hK => ?_)
      refine goes_ Try.func35 (by kernel_rfl) rfl #[.agg #[.int .i64 z.f0, .string z.f1, .int .i64 z.f2, .slice Z_3 z.f3.length Z_c3, .slice Z_4 z.f4.length Z_c4]] (by rfl) rfl rfl (by (try simp only [List.map_toArray, List.map_cons, List.map_nil]); first | done | rfl) ?_
      refine (HBR.out ▸ (implStrip_any z _ _ _ _ _ Iz.out (by omega)).mono (fun e w' h => h.get)).mono ?_
      rintro e w8 ⟨SZ_3, SZ_c3, SZ_4, SZ_c4, rfl, i, b⟩
      have I := Lib.hid i
      clear i
      replace Kx := Lib.hid (blk_below Kx.out b)
      replace Kz := Lib.hid (blk_below Kz.out b)
      replace Ku := Lib.hid (blk_below Ku.out b)
      replace Kt := Lib.hid (blk_below Kt.out b)
      replace Ix := Lib.hid (Ix.out.below b)
      replace Iz := Lib.hid (Iz.out.below b)
      replace Iu := Lib.hid (Iu.out.below b)
      replace It := Lib.hid (It.out.below b)
      replace Ll := Lib.hid (Kd.C_below Ll.out b)
      replace BW := Lib.hid (below_step BW.out b)
      clear b
      have Isz := Lib.hid I.out
      clear I
      refine ⟨_, rfl, ?_⟩
      obtain ⟨p0, p1, p2, p3, p4⟩ := fm_cells Kx.out
      obtain ⟨q0, q1, q2, q3, q4⟩ := fm_cells Kz.out
      obtain ⟨r0, r1, r2, r3, r4⟩ := fm_cells Kt.out
      refine hK.out _ _ ⟨p0, p1, p2, p3, p4, q0, q1, q2, q3, q4, r0, r1, r2, r3, r4⟩ (fun hHeld => ?_)
      clear hK K
      refine norm_ (a' := ?_) ?_ ?_
      rotate_left
      · show Act.put _ (some 69) _ = _
        simp only [Act.put, List.setIfInBounds_toArray, List.set_cons_zero, List.set_cons_succ, i64_w, i32_w]
        rfl
      clear p0 p1 p2 p3 p4 q0 q1 q2 q3 q4 r0 r1 r2 r3 r4
      refine one_ (i := 10) (N := some 71) #[true, true, true, true, true, true, true, true, true, true, true, false, false, false, false, false, false, false, false, false, false, false, false, false, false, false, false, false, false, false, false, false] rfl rfl (by kernel_rfl) (by decide) (fun K hK => ?_)
      refine goes_ Try.func35 (by kernel_rfl) rfl #[.agg #[.int .i64 x.f0, .string x.f1, .int .i64 x.f2, .slice X_3 x.f3.length X_c3, .slice X_4 x.f4.length X_c4]] (by rfl) rfl rfl (by (try simp only [List.map_toArray, List.map_cons, List.map_nil]); first | done | rfl) ?_
      refine ((implStrip_any x _ _ _ _ _ Ix.out (by omega)).mono (fun e w' h => h.get)).mono ?_
      rintro e w9 ⟨SX_3, SX_c3, SX_4, SX_c4, rfl, i, b⟩
      have I := Lib.hid i
      clear i
      replace Kx := Lib.hid (blk_below Kx.out b)
      replace Kz := Lib.hid (blk_below Kz.out b)
      replace Ku := Lib.hid (blk_below Ku.out b)
      replace Kt := Lib.hid (blk_below Kt.out b)
      replace Ix := Lib.hid (Ix.out.below b)
      replace Iz := Lib.hid (Iz.out.below b)
      replace Iu := Lib.hid (Iu.out.below b)
      replace It := Lib.hid (It.out.below b)
      replace Isz := Lib.hid (Isz.out.below b)
      replace Ll := Lib.hid (Kd.C_below Ll.out b)
      replace BW := Lib.hid (below_step BW.out b)
      clear b
      have Isx := Lib.hid I.out
      clear I
      refine ⟨_, rfl, ?_⟩
      obtain ⟨p0, p1, p2, p3, p4⟩ := fm_cells Kx.out
      obtain ⟨q0, q1, q2, q3, q4⟩ := fm_cells Kz.out
      obtain ⟨r0, r1, r2, r3, r4⟩ := fm_cells Kt.out
      refine hK.out _ _ ⟨p0, p1, p2, p3, p4, q0, q1, q2, q3, q4, r0, r1, r2, r3, r4⟩ (fun hHeld => ?_)
      clear hK K
      refine norm_ (a' := ?_) ?_ ?_
      rotate_left
      · show Act.put _ (some 71) _ = _
        simp only [Act.put, List.setIfInBounds_toArray, List.set_cons_zero, List.set_cons_succ, i64_w, i32_w]
        rfl
      clear p0 p1 p2 p3 p4 q0 q1 q2 q3 q4 r0 r1 r2 r3 r4
      refine one_ (i := 11) (N := some 72) #[true, true, true, true, true, true, true, true, true, true, true, true, false, false, false, false, false, false, false, false, false, false, false, false, false, false, false, false, false, false, false, false] rfl rfl (by kernel_rfl) (by decide) (fun K hK => ?_)
      refine goes_ Try.func33 (by kernel_rfl) rfl #[.agg #[.int .i64 x.bare.f0, .string x.bare.f1, .int .i64 x.bare.f2, .slice SZ_3 x.bare.f3.length SZ_c3, .slice SZ_4 x.bare.f4.length SZ_c4], .agg #[.int .i64 x.bare.f0, .string x.bare.f1, .int .i64 x.bare.f2, .slice SX_3 x.bare.f3.length SX_c3, .slice SX_4 x.bare.f4.length SX_c4]] (by rfl) rfl rfl (by (try simp only [List.map_toArray, List.map_cons, List.map_nil]); first | done | rfl) ?_
      refine (sameT x.bare _ _ _ _ _ _ _ _ _ Isz.out Isx.out).mono ?_
      rintro e w10 ⟨rfl, b⟩
      replace Kx := Lib.hid (blk_below Kx.out b)
      replace Kz := Lib.hid (blk_below Kz.out b)
      replace Ku := Lib.hid (blk_below Ku.out b)
      replace Kt := Lib.hid (blk_below Kt.out b)
      replace Ix := Lib.hid (Ix.out.below b)
      replace Iz := Lib.hid (Iz.out.below b)
      replace Iu := Lib.hid (Iu.out.below b)
      replace It := Lib.hid (It.out.below b)
      replace Isz := Lib.hid (Isz.out.below b)
      replace Isx := Lib.hid (Isx.out.below b)
      replace Ll := Lib.hid (Kd.C_below Ll.out b)
      replace BW := Lib.hid (below_step BW.out b)
      clear b
      refine ⟨_, rfl, ?_⟩
      obtain ⟨p0, p1, p2, p3, p4⟩ := fm_cells Kx.out
      obtain ⟨q0, q1, q2, q3, q4⟩ := fm_cells Kz.out
      obtain ⟨r0, r1, r2, r3, r4⟩ := fm_cells Kt.out
      refine hK.out _ _ ⟨p0, p1, p2, p3, p4, q0, q1, q2, q3, q4, r0, r1, r2, r3, r4⟩ (fun hHeld => ?_)
      clear hK K
      refine norm_ (a' := ?_) ?_ ?_
      rotate_left
      · show Act.put _ (some 72) _ = _
        simp only [Act.put, List.setIfInBounds_toArray, List.set_cons_zero, List.set_cons_succ, i64_w, i32_w]
        rfl
      clear p0 p1 p2 p3 p4 q0 q1 q2 q3 q4 r0 r1 r2 r3 r4
      refine pure_ (i := 12) (N := some 73) (v := ?_) (a' := ?_) #[true, true, true, true, true, true, true, true, true, true, true, true, true, false, false, false, false, false, false, false, false, false, false, false, false, false, false, false, false, false, false, false] rfl rfl (by kernel_rfl) (fun _ _ _ h => h) (Or.inl ⟨by rfl, ?_⟩) ?_ ?_
      rotate_left
      · intro w'
        go_simp
        with_reducible rfl
      rotate_left
      · simp only [Act.put, List.setIfInBounds_toArray, List.set_cons_zero, List.set_cons_succ, i64_w, i32_w]
        rfl
      refine pure_ (i := 13) (N := some 74) (v := ?_) (a' := ?_) #[true, true, true, true, true, true, true, true, true, true, true, true, true, true, false, false, false, false, false, false, false, false, false, false, false, false, false, false, false, false, false, false] rfl rfl (by kernel_rfl) (fun _ _ _ h => h) (Or.inl ⟨by rfl, ?_⟩) ?_ ?_
      rotate_left
      · intro w'
        go_simp
        with_reducible rfl
      rotate_left
      · simp only [Act.put, List.setIfInBounds_toArray, List.set_cons_zero, List.set_cons_succ, i64_w, i32_w]
        rfl
      refine take_ (i := 14) (N := some 75) (v := ?_) (a' := ?_) #[true, true, true, true, true, true, true, true, true, true, true, true, true, true, true, false, false, false, false, false, false, false, false, false, false, false, false, false, false, false, false, false] rfl rfl (by kernel_rfl) (fun _ _ _ h => h) (Or.inl ⟨by rfl, ?_⟩) hHeld ?_ ?_
      rotate_left
      · rintro w' ⟨s0, s1, s2, s3, s4, s5, s6, s7, s8, s9, s10, s11, s12, s13, s14⟩
        go_simp
        with_reducible rfl
      rotate_left
      · simp only [Act.put, List.setIfInBounds_toArray, List.set_cons_zero, List.set_cons_succ, i64_w, i32_w]
        rfl
      refine one_ (i := 15) (N := some 76) #[true, true, true, true, true, true, true, true, true, true, true, true, true, true, true, true, false, false, false, false, false, false, false, false, false, false, false, false, false, false, false, false] rfl rfl (by kernel_rfl) (by decide) (fun K hK => ?_)
      refine goes_ Try.func36 (by kernel_rfl) rfl #[.agg #[.int .i64 x.f0, .string x.f1, .int .i64 x.f2, .slice X_3 x.f3.length X_c3, .slice X_4 x.f4.length X_c4]] (by rfl) rfl rfl (by (try simp only [List.map_toArray, List.map_cons, List.map_nil]); first | done | rfl) ?_
      refine (implNm' hq _ _ _ _ _ Ix.out (by omega)).mono ?_
      rintro e w11 ⟨qA, qc, rfl, hqc_, hC, b⟩
      have Lq := Lib.hid hC
      clear hC
      replace Kx := Lib.hid (blk_below Kx.out b)
      replace Kz := Lib.hid (blk_below Kz.out b)
      replace Ku := Lib.hid (blk_below Ku.out b)
      replace Kt := Lib.hid (blk_below Kt.out b)
      replace Ix := Lib.hid (Ix.out.below b)
      replace Iz := Lib.hid (Iz.out.below b)
      replace Iu := Lib.hid (Iu.out.below b)
      replace It := Lib.hid (It.out.below b)
      replace Isz := Lib.hid (Isz.out.below b)
      replace Isx := Lib.hid (Isx.out.below b)
      replace Ll := Lib.hid (Kd.C_below Ll.out b)
      replace BW := Lib.hid (below_step BW.out b)
      clear b
      refine ⟨_, rfl, ?_⟩
      obtain ⟨p0, p1, p2, p3, p4⟩ := fm_cells Kx.out
      obtain ⟨q0, q1, q2, q3, q4⟩ := fm_cells Kz.out
      obtain ⟨r0, r1, r2, r3, r4⟩ := fm_cells Kt.out
      refine hK.out _ _ ⟨p0, p1, p2, p3, p4, q0, q1, q2, q3, q4, r0, r1, r2, r3, r4⟩ (fun hHeld => ?_)
      clear hK K
      refine norm_ (a' := ?_) ?_ ?_
      rotate_left
      · show Act.put _ (some 76) _ = _
        simp only [Act.put, List.setIfInBounds_toArray, List.set_cons_zero, List.set_cons_succ, i64_w, i32_w]
        rfl
      clear p0 p1 p2 p3 p4 q0 q1 q2 q3 q4 r0 r1 r2 r3 r4
      refine pure_ (i := 16) (N := some 77) (v := ?_) (a' := ?_) #[true, true, true, true, true, true, true, true, true, true, true, true, true, true, true, true, true, false, false, false, false, false, false, false, false, false, false, false, false, false, false, false] rfl rfl (by kernel_rfl) (fun _ _ _ h => h) (Or.inl ⟨by rfl, ?_⟩) ?_ ?_
      rotate_left
      · intro w'
        go_simp
        with_reducible rfl
      rotate_left
      · simp only [Act.put, List.setIfInBounds_toArray, List.set_cons_zero, List.set_cons_succ, i64_w, i32_w]
        rfl
      refine pure_ (i := 17) (N := some 78) (v := .bool true) (a' := ?_) #[true, true, true, true, true, true, true, true, true, true, true, true, true, true, true, true, true, true, false, false, false, false, false, false, false, false, false, false, false, false, false, false] rfl rfl (by kernel_rfl) (fun _ _ _ h => h) (Or.inl ⟨by rfl, ?_⟩) ?_ ?_
      · intro w'
        go_simp
        skip
      rotate_left
      · simp only [Act.put, List.setIfInBounds_toArray, List.set_cons_zero, List.set_cons_succ, i64_w, i32_w]
        rfl
      refine pure_ (i := 18) (N := some 79) (v := ?_) (a' := ?_) #[true, true, true, true, true, true, true, true, true, true, true, true, true, true, true, true, true, true, true, false, false, false, false, false, false, false, false, false, false, false, false, false] rfl rfl (by kernel_rfl) (fun _ _ _ h => h) (Or.inl ⟨by rfl, ?_⟩) ?_ ?_
      rotate_left
      · intro w'
        go_simp
        with_reducible rfl
      rotate_left
      · simp only [Act.put, List.setIfInBounds_toArray, List.set_cons_zero, List.set_cons_succ, i64_w, i32_w]
        rfl
      refine pure_ (i := 19) (N := some 80) (v := undef) (a' := ?_) #[true, true, true, true, true, true, true, true, true, true, true, true, true, true, true, true, true, true, true, true, false, false, false, false, false, false, false, false, false, false, false, false] rfl rfl (by kernel_rfl) (fun _ _ _ h => h) (Or.inr ⟨by rfl, rfl⟩) ?_ ?_
      rotate_left
      · simp only [Act.put, List.setIfInBounds_toArray, List.set_cons_zero, List.set_cons_succ, i64_w, i32_w]
        rfl
      refine pure_ (i := 21) (N := some 82) (v := undef) (a' := ?_) #[true, true, true, true, true, true, true, true, true, true, true, true, true, true, true, true, true, true, true, true, false, true, false, false, false, false, false, false, false, false, false, false] rfl rfl (by kernel_rfl) (fun _ _ _ h => h) (Or.inr ⟨by rfl, rfl⟩) ?_ ?_
      rotate_left
      · simp only [Act.put, List.setIfInBounds_toArray, List.set_cons_zero, List.set_cons_succ, i64_w, i32_w]
        rfl
      refine one_ (i := 20) (N := some 81) #[true, true, true, true, true, true, true, true, true, true, true, true, true, true, true, true, true, true, true, true, true, true, false, false, false, false, false, false, false, false, false, false] rfl rfl (by kernel_rfl) (by decide) (fun K hK => ?_)
      refine off_ (by rfl) ?_
      obtain ⟨p0, p1, p2, p3, p4⟩ := fm_cells Kx.out
      obtain ⟨q0, q1, q2, q3, q4⟩ := fm_cells Kz.out
      obtain ⟨r0, r1, r2, r3, r4⟩ := fm_cells Kt.out
      refine hK.out _ _ ⟨p0, p1, p2, p3, p4, q0, q1, q2, q3, q4, r0, r1, r2, r3, r4⟩ (fun hHeld => ?_)
      clear hK K
      refine norm_ (a' := ?_) ?_ ?_
      rotate_left
      · show Act.put _ (some 81) _ = _
        simp only [Act.put, List.setIfInBounds_toArray, List.set_cons_zero, List.set_cons_succ, i64_w, i32_w]
        rfl
      clear p0 p1 p2 p3 p4 q0 q1 q2 q3 q4 r0 r1 r2 r3 r4
      refine one_ (i := 22) (N := some 83) #[true, true, true, true, true, true, true, true, true, true, true, true, true, true, true, true, true, true, true, true, true, true, true, false, false, false, false, false, false, false, false, false] rfl rfl (by kernel_rfl) (by decide) (fun K hK => ?_)
      refine off_ (by rfl) ?_
      obtain ⟨p0, p1, p2, p3, p4⟩ := fm_cells Kx.out
      obtain ⟨q0, q1, q2, q3, q4⟩ := fm_cells Kz.out
      obtain ⟨r0, r1, r2, r3, r4⟩ := fm_cells Kt.out
      refine hK.out _ _ ⟨p0, p1, p2, p3, p4, q0, q1, q2, q3, q4, r0, r1, r2, r3, r4⟩ (fun hHeld => ?_)
      clear hK K
      refine norm_ (a' := ?_) ?_ ?_
      rotate_left
      · show Act.put _ (some 83) _ = _
        simp only [Act.put, List.setIfInBounds_toArray, List.set_cons_zero, List.set_cons_succ, i64_w, i32_w]
        rfl
      clear p0 p1 p2 p3 p4 q0 q1 q2 q3 q4 r0 r1 r2 r3 r4
      refine pure_ (i := 23) (N := some 84) (v := ?_) (a' := ?_) #[true, true, true, true, true, true, true, true, true, true, true, true, true, true, true, true, true, true, true, true, true, true, true, true, false, false, false, false, false, false, false, false] rfl rfl (by kernel_rfl) (fun _ _ _ h => h) (Or.inl ⟨by rfl, ?_⟩) ?_ ?_
      rotate_left
      · intro w'
        go_simp
        with_reducible rfl
      rotate_left
      · simp only [Act.put, List.setIfInBounds_toArray, List.set_cons_zero, List.set_cons_succ, i64_w, i32_w]
        rfl
      refine pure_ (i := 24) (N := some 85) (v := ?_) (a' := ?_) #[true, true, true, true, true, true, true, true, true, true, true, true, true, true, true, true, true, true, true, true, true, true, true, true, true, false, false, false, false, false, false, false] rfl rfl (by kernel_rfl) (fun _ _ _ h => h) (Or.inl ⟨by rfl, ?_⟩) ?_ ?_
      rotate_left
      · intro w'
        go_simp
        with_reducible rfl
      rotate_left
      · simp only [Act.put, List.setIfInBounds_toArray, List.set_cons_zero, List.set_cons_succ, i64_w, i32_w]
        rfl
      refine pure_ (i := 25) (N := some 86) (v := ?_) (a' := ?_) #[true, true, true, true, true, true, true, true, true, true, true, true, true, true, true, true, true, true, true, true, true, true, true, true, true, true, false, false, false, false, false, false] rfl rfl (by kernel_rfl) (fun _ _ _ h => h) (Or.inl ⟨by rfl, ?_⟩) ?_ ?_
      rotate_left
      · intro w'
        go_simp
        with_reducible rfl
      rotate_left
      · simp only [Act.put, List.setIfInBounds_toArray, List.set_cons_zero, List.set_cons_succ, i64_w, i32_w]
        rfl
      refine take_ (i := 26) (N := some 87) (v := ?_) (a' := ?_) #[true, true, true, true, true, true, true, true, true, true, true, true, true, true, true, true, true, true, true, true, true, true, true, true, true, true, true, false, false, false, false, false] rfl rfl (by kernel_rfl) (fun _ _ _ h => h) (Or.inl ⟨by rfl, ?_⟩) hHeld ?_ ?_
      rotate_left
      · rintro w' ⟨s0, s1, s2, s3, s4, s5, s6, s7, s8, s9, s10, s11, s12, s13, s14⟩
        go_simp
        with_reducible rfl
      rotate_left
      · simp only [Act.put, List.setIfInBounds_toArray, List.set_cons_zero, List.set_cons_succ, i64_w, i32_w]
        rfl
      refine pure_ (i := 28) (N := some 89) (v := ?_) (a' := ?_) #[true, true, true, true, true, true, true, true, true, true, true, true, true, true, true, true, true, true, true, true, true, true, true, true, true, true, true, false, true, false, false, false] rfl rfl (by kernel_rfl) (fun _ _ _ h => h) (Or.inl ⟨by rfl, ?_⟩) ?_ ?_
      rotate_left
      · intro w'
        go_simp
        with_reducible rfl
      rotate_left
      · simp only [Act.put, List.setIfInBounds_toArray, List.set_cons_zero, List.set_cons_succ, i64_w, i32_w]
        rfl
      refine one_ (i := 27) (N := some 88) #[true, true, true, true, true, true, true, true, true, true, true, true, true, true, true, true, true, true, true, true, true, true, true, true, true, true, true, true, true, false, false, false] rfl rfl (by kernel_rfl) (by decide) (fun K hK => ?_)
      refine goes_ Try.func34 (by kernel_rfl) rfl #[.agg #[.int .i64 x.f0, .string x.f1, .int .i64 x.f2, .slice X_3 x.f3.length X_c3, .slice X_4 x.f4.length X_c4]] (by rfl) rfl rfl (by (try simp only [List.map_toArray, List.map_cons, List.map_nil]); first | done | rfl) ?_
      refine (implSc' hm _ _ _ _ _ Ix.out (by omega)).mono ?_
      rintro e w12 ⟨mA, mc, rfl, hmc_, hC, b⟩
      have Lm := Lib.hid hC
      clear hC
      replace Kx := Lib.hid (blk_below Kx.out b)
      replace Kz := Lib.hid (blk_below Kz.out b)
      replace Ku := Lib.hid (blk_below Ku.out b)
      replace Kt := Lib.hid (blk_below Kt.out b)
      replace Ix := Lib.hid (Ix.out.below b)
      replace Iz := Lib.hid (Iz.out.below b)
      replace Iu := Lib.hid (Iu.out.below b)
      replace It := Lib.hid (It.out.below b)
      replace Isz := Lib.hid (Isz.out.below b)
      replace Isx := Lib.hid (Isx.out.below b)
      replace Ll := Lib.hid (Kd.C_below Ll.out b)
      replace Lq := Lib.hid (Kd.C_below Lq.out b)
      replace BW := Lib.hid (below_step BW.out b)
      clear b
      refine ⟨_, rfl, ?_⟩
      obtain ⟨p0, p1, p2, p3, p4⟩ := fm_cells Kx.out
      obtain ⟨q0, q1, q2, q3, q4⟩ := fm_cells Kz.out
      obtain ⟨r0, r1, r2, r3, r4⟩ := fm_cells Kt.out
      refine hK.out _ _ ⟨p0, p1, p2, p3, p4, q0, q1, q2, q3, q4, r0, r1, r2, r3, r4⟩ (fun hHeld => ?_)
      clear hK K
      refine norm_ (a' := ?_) ?_ ?_
      rotate_left
      · show Act.put _ (some 88) _ = _
        simp only [Act.put, List.setIfInBounds_toArray, List.set_cons_zero, List.set_cons_succ, i64_w, i32_w]
        rfl
      clear p0 p1 p2 p3 p4 q0 q1 q2 q3 q4 r0 r1 r2 r3 r4
      refine one_ (i := 29) (N := some 90) #[true, true, true, true, true, true, true, true, true, true, true, true, true, true, true, true, true, true, true, true, true, true, true, true, true, true, true, true, true, true, false, false] rfl rfl (by kernel_rfl) (by decide) (fun K hK => ?_)
      refine goes_ Try.func28 (by kernel_rfl) rfl #[.slice mA m.length mc, .slice lA l.length lc] (by rfl) rfl rfl (by (try simp only [List.map_toArray, List.map_cons, List.map_nil]); first | done | rfl) ?_
      refine (implW' hwi _ _ _ _ _ Lm.out hmc_ Ll.out hlc_).mono ?_
      rintro e w13 ⟨rfl, b⟩
      replace Kx := Lib.hid (blk_below Kx.out b)
      replace Kz := Lib.hid (blk_below Kz.out b)
      replace Ku := Lib.hid (blk_below Ku.out b)
      replace Kt := Lib.hid (blk_below Kt.out b)
      replace Ix := Lib.hid (Ix.out.below b)
      replace Iz := Lib.hid (Iz.out.below b)
      replace Iu := Lib.hid (Iu.out.below b)
      replace It := Lib.hid (It.out.below b)
      replace Isz := Lib.hid (Isz.out.below b)
      replace Isx := Lib.hid (Isx.out.below b)
      replace Ll := Lib.hid (Kd.C_below Ll.out b)
      replace Lq := Lib.hid (Kd.C_below Lq.out b)
      replace Lm := Lib.hid (Kd.C_below Lm.out b)
      replace BW := Lib.hid (below_step BW.out b)
      clear b
      refine ⟨_, rfl, ?_⟩
      obtain ⟨p0, p1, p2, p3, p4⟩ := fm_cells Kx.out
      obtain ⟨q0, q1, q2, q3, q4⟩ := fm_cells Kz.out
      obtain ⟨r0, r1, r2, r3, r4⟩ := fm_cells Kt.out
      refine hK.out _ _ ⟨p0, p1, p2, p3, p4, q0, q1, q2, q3, q4, r0, r1, r2, r3, r4⟩ (fun hHeld => ?_)
      clear hK K
      refine norm_ (a' := ?_) ?_ ?_
      rotate_left
      · show Act.put _ (some 90) _ = _
        simp only [Act.put, List.setIfInBounds_toArray, List.set_cons_zero, List.set_cons_succ, i64_w, i32_w]
        rfl
      clear p0 p1 p2 p3 p4 q0 q1 q2 q3 q4 r0 r1 r2 r3 r4
      refine pure_ (i := 30) (N := some 91) (v := ?_) (a' := ?_) #[true, true, true, true, true, true, true, true, true, true, true, true, true, true, true, true, true, true, true, true, true, true, true, true, true, true, true, true, true, true, true, false] rfl rfl (by kernel_rfl) (fun _ _ _ h => h) (Or.inl ⟨by rfl, ?_⟩) ?_ ?_
      rotate_left
      · intro w'
        go_simp
        with_reducible rfl
      rotate_left
      · simp only [Act.put, List.setIfInBounds_toArray, List.set_cons_zero, List.set_cons_succ, i64_w, i32_w]
        rfl
      refine pure_ (i := 31) (N := some 2) (v := ?_) (a' := ?_) #[true, true, true, true, true, true, true, true, true, true, true, true, true, true, true, true, true, true, true, true, true, true, true, true, true, true, true, true, true, true, true, true] rfl rfl (by kernel_rfl) (fun _ _ _ h => h) (Or.inl ⟨by rfl, ?_⟩) ?_ ?_
      rotate_left
      · intro w'
        go_simp
        with_reducible rfl
      rotate_left
      · simp only [Act.put, List.setIfInBounds_toArray, List.set_cons_zero, List.set_cons_succ, i64_w, i32_w]
        rfl
      refine done_ (by kernel_rfl) ?_
      go_wp2_with fail
      go_ret
      exact ⟨rfl, by repeat (first | exact BW.out | refine below_alloc ?_ _)⟩
    · have t1 : ((q.length : Int) == 0) = false := by
        rw [beq_eq_false_iff_ne]; intro h; exact hqn (List.eq_nil_of_length_eq_zero (by omega))
      have t2 : (q.length == 0) = false := by
        rw [beq_eq_false_iff_ne]; intro h; exact hqn (List.eq_nil_of_length_eq_zero h)
      have t3 : (q == []) = false := by cases q <;> simp_all
      have b := below_drew (Below.refl w6.heap.size w6)
      replace Kx := Lib.hid (blk_below Kx.out b)
      replace Kz := Lib.hid (blk_below Kz.out b)
      replace Ku := Lib.hid (blk_below Ku.out b)
      replace Kt := Lib.hid (blk_below Kt.out b)
      replace Ix := Lib.hid (Ix.out.below b)
      replace Iz := Lib.hid (Iz.out.below b)
      replace Iu := Lib.hid (Iu.out.below b)
      replace It := Lib.hid (It.out.below b)
      replace Ll := Lib.hid (Kd.C_below Ll.out b)
      replace BW := Lib.hid (below_step BW.out b)
      clear b
      obtain ⟨p0, p1, p2, p3, p4⟩ := fm_cells Kx.out
      obtain ⟨q0, q1, q2, q3, q4⟩ := fm_cells Kz.out
      obtain ⟨r0, r1, r2, r3, r4⟩ := fm_cells Kt.out
      refine start_ (n := 32) (S := (fun W : World => W.cell? ⟨w1.heap.size, 0, none⟩ = some (.int .i64 x.f0) ∧ W.cell? ⟨w1.heap.size, 1, none⟩ = some (.string x.f1) ∧ W.cell? ⟨w1.heap.size, 2, none⟩ = some (.int .i64 x.f2) ∧ W.cell? ⟨w1.heap.size, 3, none⟩ = some (.slice X_3 x.f3.length X_c3) ∧ W.cell? ⟨w1.heap.size, 4, none⟩ = some (.slice X_4 x.f4.length X_c4) ∧ W.cell? ⟨w2.heap.size, 0, none⟩ = some (.int .i64 z.f0) ∧ W.cell? ⟨w2.heap.size, 1, none⟩ = some (.string z.f1) ∧ W.cell? ⟨w2.heap.size, 2, none⟩ = some (.int .i64 z.f2) ∧ W.cell? ⟨w2.heap.size, 3, none⟩ = some (.slice Z_3 z.f3.length Z_c3) ∧ W.cell? ⟨w2.heap.size, 4, none⟩ = some (.slice Z_4 z.f4.length Z_c4) ∧ W.cell? ⟨w5.heap.size, 0, none⟩ = some (.int .i64 z.f0) ∧ W.cell? ⟨w5.heap.size, 1, none⟩ = some (.string z.f1) ∧ W.cell? ⟨w5.heap.size, 2, none⟩ = some (.int .i64 z.f2) ∧ W.cell? ⟨w5.heap.size, 3, none⟩ = some (.slice T_3 z.f3.length T_c3) ∧ W.cell? ⟨w5.heap.size, 4, none⟩ = some (.slice T_4 z.f4.length T_c4))) (ds := []) #[false, false, false, false, false, false, false, false, false, false, false, false, false, false, false, false, false, false, false, false, false, false, false, false, false, false, false, false, false, false, false, false] (by kernel_rfl) rfl rfl ⟨p0, p1, p2, p3, p4, q0, q1, q2, q3, q4, r0, r1, r2, r3, r4⟩ (fun hHeld => ?_)
      generalize World.drew _ = wd at Kx Kz Ku Kt Ix Iz Iu It BW Ll hHeld ⊢
      clear p0 p1 p2 p3 p4 q0 q1 q2 q3 q4 r0 r1 r2 r3 r4
      refine pure_ (i := 0) (N := some 61) (v := ?_) (a' := ?_) #[true, false, false, false, false, false, false, false, false, false, false, false, false, false, false, false, false, false, false, false, false, false, false, false, false, false, false, false, false, false, false, false] rfl rfl (by kernel_rfl) (fun _ _ _ h => h) (Or.inl ⟨by rfl, ?_⟩) ?_ ?_
      rotate_left
      · intro w'
        go_simp
        with_reducible rfl
      rotate_left
      · simp only [Act.put, List.setIfInBounds_toArray, List.set_cons_zero, List.set_cons_succ, i64_w, i32_w]
        rfl
      refine pure_ (i := 1) (N := some 62) (v := ?_) (a' := ?_) #[true, true, false, false, false, false, false, false, false, false, false, false, false, false, false, false, false, false, false, false, false, false, false, false, false, false, false, false, false, false, false, false] rfl rfl (by kernel_rfl) (fun _ _ _ h => h) (Or.inl ⟨by rfl, ?_⟩) ?_ ?_
      rotate_left
      · intro w'
        go_simp
        with_reducible rfl
      rotate_left
      · simp only [Act.put, List.setIfInBounds_toArray, List.set_cons_zero, List.set_cons_succ, i64_w, i32_w]
        rfl
      refine take_ (i := 2) (N := some 63) (v := ?_) (a' := ?_) #[true, true, true, false, false, false, false, false, false, false, false, false, false, false, false, false, false, false, false, false, false, false, false, false, false, false, false, false, false, false, false, false] rfl rfl (by kernel_rfl) (fun _ _ _ h => h) (Or.inl ⟨by rfl, ?_⟩) hHeld ?_ ?_
      rotate_left
      · rintro w' ⟨s0, s1, s2, s3, s4, s5, s6, s7, s8, s9, s10, s11, s12, s13, s14⟩
        go_simp
        with_reducible rfl
      rotate_left
      · simp only [Act.put, List.setIfInBounds_toArray, List.set_cons_zero, List.set_cons_succ, i64_w, i32_w]
        rfl
      refine take_ (i := 3) (N := some 64) (v := ?_) (a' := ?_) #[true, true, true, true, false, false, false, false, false, false, false, false, false, false, false, false, false, false, false, false, false, false, false, false, false, false, false, false, false, false, false, false] rfl rfl (by kernel_rfl) (fun _ _ _ h => h) (Or.inl ⟨by rfl, ?_⟩) hHeld ?_ ?_
      rotate_left
      · rintro w' ⟨s0, s1, s2, s3, s4, s5, s6, s7, s8, s9, s10, s11, s12, s13, s14⟩
        go_simp
        with_reducible rfl
      rotate_left
      · simp only [Act.put, List.setIfInBounds_toArray, List.set_cons_zero, List.set_cons_succ, i64_w, i32_w]
        rfl
      refine one_ (i := 4) (N := some 65) #[true, true, true, true, true, false, false, false, false, false, false, false, false, false, false, false, false, false, false, false, false, false, false, false, false, false, false, false, false, false, false, false] rfl rfl (by kernel_rfl) (by decide) (fun K hK => ?_)
      refine goes_ Try.func33 (by kernel_rfl) rfl #[.agg #[.int .i64 z.f0, .string z.f1, .int .i64 z.f2, .slice T_3 z.f3.length T_c3, .slice T_4 z.f4.length T_c4], .agg #[.int .i64 z.f0, .string z.f1, .int .i64 z.f2, .slice Z_3 z.f3.length Z_c3, .slice Z_4 z.f4.length Z_c4]] (by rfl) rfl rfl (by (try simp only [List.map_toArray, List.map_cons, List.map_nil]); first | done | rfl) ?_
      refine (sameT z _ _ _ _ _ _ _ _ _ It.out Iz.out).mono ?_
      rintro e w7 ⟨rfl, b⟩
      replace Kx := Lib.hid (blk_below Kx.out b)
      replace Kz := Lib.hid (blk_below Kz.out b)
      replace Ku := Lib.hid (blk_below Ku.out b)
      replace Kt := Lib.hid (blk_below Kt.out b)
      replace Ix := Lib.hid (Ix.out.below b)
      replace Iz := Lib.hid (Iz.out.below b)
      replace Iu := Lib.hid (Iu.out.below b)
      replace It := Lib.hid (It.out.below b)
      replace Ll := Lib.hid (Kd.C_below Ll.out b)
      replace BW := Lib.hid (below_step BW.out b)
      clear b
      refine ⟨_, rfl, ?_⟩
      obtain ⟨p0, p1, p2, p3, p4⟩ := fm_cells Kx.out
      obtain ⟨q0, q1, q2, q3, q4⟩ := fm_cells Kz.out
      obtain ⟨r0, r1, r2, r3, r4⟩ := fm_cells Kt.out
      refine hK.out _ _ ⟨p0, p1, p2, p3, p4, q0, q1, q2, q3, q4, r0, r1, r2, r3, r4⟩ (fun hHeld => ?_)
      clear hK K
      refine norm_ (a' := ?_) ?_ ?_
      rotate_left
      · show Act.put _ (some 65) _ = _
        simp only [Act.put, List.setIfInBounds_toArray, List.set_cons_zero, List.set_cons_succ, i64_w, i32_w]
        rfl
      clear p0 p1 p2 p3 p4 q0 q1 q2 q3 q4 r0 r1 r2 r3 r4
      refine pure_ (i := 5) (N := some 66) (v := ?_) (a' := ?_) #[true, true, true, true, true, true, false, false, false, false, false, false, false, false, false, false, false, false, false, false, false, false, false, false, false, false, false, false, false, false, false, false] rfl rfl (by kernel_rfl) (fun _ _ _ h => h) (Or.inl ⟨by rfl, ?_⟩) ?_ ?_
      rotate_left
      · intro w'
        go_simp
        with_reducible rfl
      rotate_left
      · simp only [Act.put, List.setIfInBounds_toArray, List.set_cons_zero, List.set_cons_succ, i64_w, i32_w]
        rfl
      refine pure_ (i := 6) (N := some 67) (v := ?_) (a' := ?_) #[true, true, true, true, true, true, true, false, false, false, false, false, false, false, false, false, false, false, false, false, false, false, false, false, false, false, false, false, false, false, false, false] rfl rfl (by kernel_rfl) (fun _ _ _ h => h) (Or.inl ⟨by rfl, ?_⟩) ?_ ?_
      rotate_left
      · intro w'
        go_simp
        with_reducible rfl
      rotate_left
      · simp only [Act.put, List.setIfInBounds_toArray, List.set_cons_zero, List.set_cons_succ, i64_w, i32_w]
        rfl
      refine take_ (i := 7) (N := some 68) (v := ?_) (a' := ?_) #[true, true, true, true, true, true, true, true, false, false, false, false, false, false, false, false, false, false, false, false, false, false, false, false, false, false, false, false, false, false, false, false] rfl rfl (by kernel_rfl) (fun _ _ _ h => h) (Or.inl ⟨by rfl, ?_⟩) hHeld ?_ ?_
      rotate_left
      · rintro w' ⟨s0, s1, s2, s3, s4, s5, s6, s7, s8, s9, s10, s11, s12, s13, s14⟩
        go_simp
        with_reducible rfl
      rotate_left
      · simp only [Act.put, List.setIfInBounds_toArray, List.set_cons_zero, List.set_cons_succ, i64_w, i32_w]
        rfl
      refine take_ (i := 9) (N := some 70) (v := ?_) (a' := ?_) #[true, true, true, true, true, true, true, true, false, true, false, false, false, false, false, false, false, false, false, false, false, false, false, false, false, false, false, false, false, false, false, false] rfl rfl (by kernel_rfl) (fun _ _ _ h => h) (Or.inl ⟨by rfl, ?_⟩) hHeld ?_ ?_
      rotate_left
      · rintro w' ⟨s0, s1, s2, s3, s4, s5, s6, s7, s8, s9, s10, s11, s12, s13, s14⟩
        go_simp
        with_reducible rfl
      rotate_left
      · simp only [Act.put, List.setIfInBounds_toArray, List.set_cons_zero, List.set_cons_succ, i64_w, i32_w]
        rfl
      refine one_ (i := 8) (N := some 69) #[true, true, true, true, true, true, true, true, true, true, false, false, false, false, false, false, false, false, false, false, false, false, false, false, false, false, false, false, false, false, false, false] rfl rfl (by kernel_rfl) (by decide) (fun K hK => ?_)
      refine goes_ Try.func35 (by kernel_rfl) rfl #[.agg #[.int .i64 z.f0, .string z.f1, .int .i64 z.f2, .slice Z_3 z.f3.length Z_c3, .slice Z_4 z.f4.length Z_c4]] (by rfl) rfl rfl (by (try simp only [List.map_toArray, List.map_cons, List.map_nil]); first | done | rfl) ?_
      refine (HBR.out ▸ (implStrip_any z _ _ _ _ _ Iz.out (by omega)).mono (fun e w' h => h.get)).mono ?_
      rintro e w8 ⟨SZ_3, SZ_c3, SZ_4, SZ_c4, rfl, i, b⟩
      have I := Lib.hid i
      clear i
      replace Kx := Lib.hid (blk_below Kx.out b)
      replace Kz := Lib.hid (blk_below Kz.out b)
      replace Ku := Lib.hid (blk_below Ku.out b)
      replace Kt := Lib.hid (blk_below Kt.out b)
      replace Ix := Lib.hid (Ix.out.below b)
      replace Iz := Lib.hid (Iz.out.below b)
      replace Iu := Lib.hid (Iu.out.below b)
      replace It := Lib.hid (It.out.below b)
      replace Ll := Lib.hid (Kd.C_below Ll.out b)
      replace BW := Lib.hid (below_step BW.out b)
      clear b
      have Isz := Lib.hid I.out
      clear I
      refine ⟨_, rfl, ?_⟩
      obtain ⟨p0, p1, p2, p3, p4⟩ := fm_cells Kx.out
      obtain ⟨q0, q1, q2, q3, q4⟩ := fm_cells Kz.out
      obtain ⟨r0, r1, r2, r3, r4⟩ := fm_cells Kt.out
      refine hK.out _ _ ⟨p0, p1, p2, p3, p4, q0, q1, q2, q3, q4, r0, r1, r2, r3, r4⟩ (fun hHeld => ?_)
      clear hK K
      refine norm_ (a' := ?_) ?_ ?_
      rotate_left
      · show Act.put _ (some 69) _ = _
        simp only [Act.put, List.setIfInBounds_toArray, List.set_cons_zero, List.set_cons_succ, i64_w, i32_w]
        rfl
      clear p0 p1 p2 p3 p4 q0 q1 q2 q3 q4 r0 r1 r2 r3 r4
      refine one_ (i := 10) (N := some 71) #[true, true, true, true, true, true, true, true, true, true, true, false, false, false, false, false, false, false, false, false, false, false, false, false, false, false, false, false, false, false, false, false] rfl rfl (by kernel_rfl) (by decide) (fun K hK => ?_)
      refine goes_ Try.func35 (by kernel_rfl) rfl #[.agg #[.int .i64 x.f0, .string x.f1, .int .i64 x.f2, .slice X_3 x.f3.length X_c3, .slice X_4 x.f4.length X_c4]] (by rfl) rfl rfl (by (try simp only [List.map_toArray, List.map_cons, List.map_nil]); first | done | rfl) ?_
      refine ((implStrip_any x _ _ _ _ _ Ix.out (by omega)).mono (fun e w' h => h.get)).mono ?_
      rintro e w9 ⟨SX_3, SX_c3, SX_4, SX_c4, rfl, i, b⟩
      have I := Lib.hid i
      clear i
      replace Kx := Lib.hid (blk_below Kx.out b)
      replace Kz := Lib.hid (blk_below Kz.out b)
      replace Ku := Lib.hid (blk_below Ku.out b)
      replace Kt := Lib.hid (blk_below Kt.out b)
      replace Ix := Lib.hid (Ix.out.below b)
      replace Iz := Lib.hid (Iz.out.below b)
      replace Iu := Lib.hid (Iu.out.below b)
      replace It := Lib.hid (It.out.below b)
      replace Isz := Lib.hid (Isz.out.below b)
      replace Ll := Lib.hid (Kd.C_below Ll.out b)
      replace BW := Lib.hid (below_step BW.out b)
      clear b
      have Isx := Lib.hid I.out
      clear I
      refine ⟨_, rfl, ?_⟩
      obtain ⟨p0, p1, p2, p3, p4⟩ := fm_cells Kx.out
      obtain ⟨q0, q1, q2, q3, q4⟩ := fm_cells Kz.out
      obtain ⟨r0, r1, r2, r3, r4⟩ := fm_cells Kt.out
      refine hK.out _ _ ⟨p0, p1, p2, p3, p4, q0, q1, q2, q3, q4, r0, r1, r2, r3, r4⟩ (fun hHeld => ?_)
      clear hK K
      refine norm_ (a' := ?_) ?_ ?_
      rotate_left
      · show Act.put _ (some 71) _ = _
        simp only [Act.put, List.setIfInBounds_toArray, List.set_cons_zero, List.set_cons_succ, i64_w, i32_w]
        rfl
      clear p0 p1 p2 p3 p4 q0 q1 q2 q3 q4 r0 r1 r2 r3 r4
      refine one_ (i := 11) (N := some 72) #[true, true, true, true, true, true, true, true, true, true, true, true, false, false, false, false, false, false, false, false, false, false, false, false, false, false, false, false, false, false, false, false] rfl rfl (by kernel_rfl) (by decide) (fun K hK => ?_)
      refine goes_ Try.func33 (by kernel_rfl) rfl #[.agg #[.int .i64 x.bare.f0, .string x.bare.f1, .int .i64 x.bare.f2, .slice SZ_3 x.bare.f3.length SZ_c3, .slice SZ_4 x.bare.f4.length SZ_c4], .agg #[.int .i64 x.bare.f0, .string x.bare.f1, .int .i64 x.bare.f2, .slice SX_3 x.bare.f3.length SX_c3, .slice SX_4 x.bare.f4.length SX_c4]] (by rfl) rfl rfl (by (try simp only [List.map_toArray, List.map_cons, List.map_nil]); first | done | rfl) ?_
      refine (sameT x.bare _ _ _ _ _ _ _ _ _ Isz.out Isx.out).mono ?_
      rintro e w10 ⟨rfl, b⟩
      replace Kx := Lib.hid (blk_below Kx.out b)
      replace Kz := Lib.hid (blk_below Kz.out b)
      replace Ku := Lib.hid (blk_below Ku.out b)
      replace Kt := Lib.hid (blk_below Kt.out b)
      replace Ix := Lib.hid (Ix.out.below b)
      replace Iz := Lib.hid (Iz.out.below b)
      replace Iu := Lib.hid (Iu.out.below b)
      replace It := Lib.hid (It.out.below b)
      replace Isz := Lib.hid (Isz.out.below b)
      replace Isx := Lib.hid (Isx.out.below b)
      replace Ll := Lib.hid (Kd.C_below Ll.out b)
      replace BW := Lib.hid (below_step BW.out b)
      clear b
      refine ⟨_, rfl, ?_⟩
      obtain ⟨p0, p1, p2, p3, p4⟩ := fm_cells Kx.out
      obtain ⟨q0, q1, q2, q3, q4⟩ := fm_cells Kz.out
      obtain ⟨r0, r1, r2, r3, r4⟩ := fm_cells Kt.out
      refine hK.out _ _ ⟨p0, p1, p2, p3, p4, q0, q1, q2, q3, q4, r0, r1, r2, r3, r4⟩ (fun hHeld => ?_)
      clear hK K
      refine norm_ (a' := ?_) ?_ ?_
      rotate_left
      · show Act.put _ (some 72) _ = _
        simp only [Act.put, List.setIfInBounds_toArray, List.set_cons_zero, List.set_cons_succ, i64_w, i32_w]
        rfl
      clear p0 p1 p2 p3 p4 q0 q1 q2 q3 q4 r0 r1 r2 r3 r4
      refine pure_ (i := 12) (N := some 73) (v := ?_) (a' := ?_) #[true, true, true, true, true, true, true, true, true, true, true, true, true, false, false, false, false, false, false, false, false, false, false, false, false, false, false, false, false, false, false, false] rfl rfl (by kernel_rfl) (fun _ _ _ h => h) (Or.inl ⟨by rfl, ?_⟩) ?_ ?_
      rotate_left
      · intro w'
        go_simp
        with_reducible rfl
      rotate_left
      · simp only [Act.put, List.setIfInBounds_toArray, List.set_cons_zero, List.set_cons_succ, i64_w, i32_w]
        rfl
      refine pure_ (i := 13) (N := some 74) (v := ?_) (a' := ?_) #[true, true, true, true, true, true, true, true, true, true, true, true, true, true, false, false, false, false, false, false, false, false, false, false, false, false, false, false, false, false, false, false] rfl rfl (by kernel_rfl) (fun _ _ _ h => h) (Or.inl ⟨by rfl, ?_⟩) ?_ ?_
      rotate_left
      · intro w'
        go_simp
        with_reducible rfl
      rotate_left
      · simp only [Act.put, List.setIfInBounds_toArray, List.set_cons_zero, List.set_cons_succ, i64_w, i32_w]
        rfl
      refine take_ (i := 14) (N := some 75) (v := ?_) (a' := ?_) #[true, true, true, true, true, true, true, true, true, true, true, true, true, true, true, false, false, false, false, false, false, false, false, false, false, false, false, false, false, false, false, false] rfl rfl (by kernel_rfl) (fun _ _ _ h => h) (Or.inl ⟨by rfl, ?_⟩) hHeld ?_ ?_
      rotate_left
      · rintro w' ⟨s0, s1, s2, s3, s4, s5, s6, s7, s8, s9, s10, s11, s12, s13, s14⟩
        go_simp
        with_reducible rfl
      rotate_left
      · simp only [Act.put, List.setIfInBounds_toArray, List.set_cons_zero, List.set_cons_succ, i64_w, i32_w]
        rfl
      refine one_ (i := 15) (N := some 76) #[true, true, true, true, true, true, true, true, true, true, true, true, true, true, true, true, false, false, false, false, false, false, false, false, false, false, false, false, false, false, false, false] rfl rfl (by kernel_rfl) (by decide) (fun K hK => ?_)
      refine goes_ Try.func36 (by kernel_rfl) rfl #[.agg #[.int .i64 x.f0, .string x.f1, .int .i64 x.f2, .slice X_3 x.f3.length X_c3, .slice X_4 x.f4.length X_c4]] (by rfl) rfl rfl (by (try simp only [List.map_toArray, List.map_cons, List.map_nil]); first | done | rfl) ?_
      refine (implNm' hq _ _ _ _ _ Ix.out (by omega)).mono ?_
      rintro e w11 ⟨qA, qc, rfl, hqc_, hC, b⟩
      have Lq := Lib.hid hC
      clear hC
      replace Kx := Lib.hid (blk_below Kx.out b)
      replace Kz := Lib.hid (blk_below Kz.out b)
      replace Ku := Lib.hid (blk_below Ku.out b)
      replace Kt := Lib.hid (blk_below Kt.out b)
      replace Ix := Lib.hid (Ix.out.below b)
      replace Iz := Lib.hid (Iz.out.below b)
      replace Iu := Lib.hid (Iu.out.below b)
      replace It := Lib.hid (It.out.below b)
      replace Isz := Lib.hid (Isz.out.below b)
      replace Isx := Lib.hid (Isx.out.below b)
      replace Ll := Lib.hid (Kd.C_below Ll.out b)
      replace BW := Lib.hid (below_step BW.out b)
      clear b
      refine ⟨_, rfl, ?_⟩
      obtain ⟨p0, p1, p2, p3, p4⟩ := fm_cells Kx.out
      obtain ⟨q0, q1, q2, q3, q4⟩ := fm_cells Kz.out
      obtain ⟨r0, r1, r2, r3, r4⟩ := fm_cells Kt.out
      refine hK.out _ _ ⟨p0, p1, p2, p3, p4, q0, q1, q2, q3, q4, r0, r1, r2, r3, r4⟩ (fun hHeld => ?_)
      clear hK K
      refine norm_ (a' := ?_) ?_ ?_
      rotate_left
      · show Act.put _ (some 76) _ = _
        simp only [Act.put, List.setIfInBounds_toArray, List.set_cons_zero, List.set_cons_succ, i64_w, i32_w]
        rfl
      clear p0 p1 p2 p3 p4 q0 q1 q2 q3 q4 r0 r1 r2 r3 r4
      refine pure_ (i := 16) (N := some 77) (v := ?_) (a' := ?_) #[true, true, true, true, true, true, true, true, true, true, true, true, true, true, true, true, true, false, false, false, false, false, false, false, false, false, false, false, false, false, false, false] rfl rfl (by kernel_rfl) (fun _ _ _ h => h) (Or.inl ⟨by rfl, ?_⟩) ?_ ?_
      rotate_left
      · intro w'
        go_simp
        with_reducible rfl
      rotate_left
      · simp only [Act.put, List.setIfInBounds_toArray, List.set_cons_zero, List.set_cons_succ, i64_w, i32_w]
        rfl
      refine pure_ (i := 17) (N := some 78) (v := .bool false) (a' := ?_) #[true, true, true, true, true, true, true, true, true, true, true, true, true, true, true, true, true, true, false, false, false, false, false, false, false, false, false, false, false, false, false, false] rfl rfl (by kernel_rfl) (fun _ _ _ h => h) (Or.inl ⟨by rfl, ?_⟩) ?_ ?_
      · intro w'
        go_simp
        skip
      rotate_left
      · simp only [Act.put, List.setIfInBounds_toArray, List.set_cons_zero, List.set_cons_succ, i64_w, i32_w]
        rfl
      refine pure_ (i := 18) (N := some 79) (v := ?_) (a' := ?_) #[true, true, true, true, true, true, true, true, true, true, true, true, true, true, true, true, true, true, true, false, false, false, false, false, false, false, false, false, false, false, false, false] rfl rfl (by kernel_rfl) (fun _ _ _ h => h) (Or.inl ⟨by rfl, ?_⟩) ?_ ?_
      rotate_left
      · intro w'
        go_simp
        with_reducible rfl
      rotate_left
      · simp only [Act.put, List.setIfInBounds_toArray, List.set_cons_zero, List.set_cons_succ, i64_w, i32_w]
        rfl
      refine pure_ (i := 19) (N := some 80) (v := ?_) (a' := ?_) #[true, true, true, true, true, true, true, true, true, true, true, true, true, true, true, true, true, true, true, true, false, false, false, false, false, false, false, false, false, false, false, false] rfl rfl (by kernel_rfl) (fun _ _ _ h => h) (Or.inl ⟨by rfl, ?_⟩) ?_ ?_
      rotate_left
      · intro w'
        go_simp
        with_reducible rfl
      rotate_left
      · simp only [Act.put, List.setIfInBounds_toArray, List.set_cons_zero, List.set_cons_succ, i64_w, i32_w]
        rfl
      refine pure_ (i := 21) (N := some 82) (v := ?_) (a' := ?_) #[true, true, true, true, true, true, true, true, true, true, true, true, true, true, true, true, true, true, true, true, false, true, false, false, false, false, false, false, false, false, false, false] rfl rfl (by kernel_rfl) (fun _ _ _ h => h) (Or.inl ⟨by rfl, ?_⟩) ?_ ?_
      rotate_left
      · intro w'
        go_simp
        with_reducible rfl
      rotate_left
      · simp only [Act.put, List.setIfInBounds_toArray, List.set_cons_zero, List.set_cons_succ, i64_w, i32_w]
        rfl
      refine one_ (i := 20) (N := some 81) #[true, true, true, true, true, true, true, true, true, true, true, true, true, true, true, true, true, true, true, true, true, true, false, false, false, false, false, false, false, false, false, false] rfl rfl (by kernel_rfl) (by decide) (fun K hK => ?_)
      refine value_ (w1 := ?_) (v := ?_) (by rfl) rfl ?_ ?_
      rotate_left 2
      · go_simp
        constructor
        · rfl
        · rfl
      have b := below_new w11 (.cells #[.int .i64 n] 3)
      have Lr := Lib.hid (reads_block (l := [n]) (blk_new w11 (.cells #[.int .i64 n] 3)) (by simp) rfl)
      replace Kx := Lib.hid (blk_below Kx.out b)
      replace Kz := Lib.hid (blk_below Kz.out b)
      replace Ku := Lib.hid (blk_below Ku.out b)
      replace Kt := Lib.hid (blk_below Kt.out b)
      replace Ix := Lib.hid (Ix.out.below b)
      replace Iz := Lib.hid (Iz.out.below b)
      replace Iu := Lib.hid (Iu.out.below b)
      replace It := Lib.hid (It.out.below b)
      replace Isz := Lib.hid (Isz.out.below b)
      replace Isx := Lib.hid (Isx.out.below b)
      replace Ll := Lib.hid (Kd.C_below Ll.out b)
      replace Lq := Lib.hid (Kd.C_below Lq.out b)
      replace BW := Lib.hid (below_step BW.out b)
      clear b
      obtain ⟨p0, p1, p2, p3, p4⟩ := fm_cells Kx.out
      obtain ⟨q0, q1, q2, q3, q4⟩ := fm_cells Kz.out
      obtain ⟨r0, r1, r2, r3, r4⟩ := fm_cells Kt.out
      refine hK.out _ _ ⟨p0, p1, p2, p3, p4, q0, q1, q2, q3, q4, r0, r1, r2, r3, r4⟩ (fun hHeld => ?_)
      clear hK K
      refine norm_ (a' := ?_) ?_ ?_
      rotate_left
      · show Act.put _ (some 81) _ = _
        simp only [Act.put, List.setIfInBounds_toArray, List.set_cons_zero, List.set_cons_succ, i64_w, i32_w]
        rfl
      clear p0 p1 p2 p3 p4 q0 q1 q2 q3 q4 r0 r1 r2 r3 r4
      generalize hwv20 : World.alloc w11 _ = wv20 at Kx Kz Ku Kt Ix Iz Iu It Isz Isx BW Ll Lq Lr hHeld ⊢
      refine one_ (i := 22) (N := some 83) #[true, true, true, true, true, true, true, true, true, true, true, true, true, true, true, true, true, true, true, true, true, true, true, false, false, false, false, false, false, false, false, false] rfl rfl (by kernel_rfl) (by decide) (fun K hK => ?_)
      refine goes_ Try.func28 (by kernel_rfl) rfl #[.slice (some ⟨w11.heap.size, 0, none⟩) 1 1, .slice lA l.length lc] (by rfl) rfl rfl (by (try simp only [List.map_toArray, List.map_cons, List.map_nil]); first | done | rfl) ?_
      refine (implW' (HH.out hqn) _ _ _ _ _ Lr.out (Nat.le_refl 1) Ll.out hlc_).mono ?_
      rintro e w12 ⟨rfl, b⟩
      replace Kx := Lib.hid (blk_below Kx.out b)
      replace Kz := Lib.hid (blk_below Kz.out b)
      replace Ku := Lib.hid (blk_below Ku.out b)
      replace Kt := Lib.hid (blk_below Kt.out b)
      replace Ix := Lib.hid (Ix.out.below b)
      replace Iz := Lib.hid (Iz.out.below b)
      replace Iu := Lib.hid (Iu.out.below b)
      replace It := Lib.hid (It.out.below b)
      replace Isz := Lib.hid (Isz.out.below b)
      replace Isx := Lib.hid (Isx.out.below b)
      replace Ll := Lib.hid (Kd.C_below Ll.out b)
      replace Lq := Lib.hid (Kd.C_below Lq.out b)
      replace Lr := Lib.hid (Kd.C_below Lr.out b)
      replace BW := Lib.hid (below_step BW.out b)
      clear b
      refine ⟨_, rfl, ?_⟩
      obtain ⟨p0, p1, p2, p3, p4⟩ := fm_cells Kx.out
      obtain ⟨q0, q1, q2, q3, q4⟩ := fm_cells Kz.out
      obtain ⟨r0, r1, r2, r3, r4⟩ := fm_cells Kt.out
      refine hK.out _ _ ⟨p0, p1, p2, p3, p4, q0, q1, q2, q3, q4, r0, r1, r2, r3, r4⟩ (fun hHeld => ?_)
      clear hK K
      refine norm_ (a' := ?_) ?_ ?_
      rotate_left
      · show Act.put _ (some 83) _ = _
        simp only [Act.put, List.setIfInBounds_toArray, List.set_cons_zero, List.set_cons_succ, i64_w, i32_w]
        rfl
      clear p0 p1 p2 p3 p4 q0 q1 q2 q3 q4 r0 r1 r2 r3 r4
      refine pure_ (i := 23) (N := some 84) (v := ?_) (a' := ?_) #[true, true, true, true, true, true, true, true, true, true, true, true, true, true, true, true, true, true, true, true, true, true, true, true, false, false, false, false, false, false, false, false] rfl rfl (by kernel_rfl) (fun _ _ _ h => h) (Or.inl ⟨by rfl, ?_⟩) ?_ ?_
      rotate_left
      · intro w'
        go_simp
        with_reducible rfl
      rotate_left
      · simp only [Act.put, List.setIfInBounds_toArray, List.set_cons_zero, List.set_cons_succ, i64_w, i32_w]
        rfl
      refine pure_ (i := 24) (N := some 85) (v := ?_) (a' := ?_) #[true, true, true, true, true, true, true, true, true, true, true, true, true, true, true, true, true, true, true, true, true, true, true, true, true, false, false, false, false, false, false, false] rfl rfl (by kernel_rfl) (fun _ _ _ h => h) (Or.inl ⟨by rfl, ?_⟩) ?_ ?_
      rotate_left
      · intro w'
        go_simp
        with_reducible rfl
      rotate_left
      · simp only [Act.put, List.setIfInBounds_toArray, List.set_cons_zero, List.set_cons_succ, i64_w, i32_w]
        rfl
      refine pure_ (i := 25) (N := some 86) (v := ?_) (a' := ?_) #[true, true, true, true, true, true, true, true, true, true, true, true, true, true, true, true, true, true, true, true, true, true, true, true, true, true, false, false, false, false, false, false] rfl rfl (by kernel_rfl) (fun _ _ _ h => h) (Or.inl ⟨by rfl, ?_⟩) ?_ ?_
      rotate_left
      · intro w'
        go_simp
        with_reducible rfl
      rotate_left
      · simp only [Act.put, List.setIfInBounds_toArray, List.set_cons_zero, List.set_cons_succ, i64_w, i32_w]
        rfl
      refine take_ (i := 26) (N := some 87) (v := ?_) (a' := ?_) #[true, true, true, true, true, true, true, true, true, true, true, true, true, true, true, true, true, true, true, true, true, true, true, true, true, true, true, false, false, false, false, false] rfl rfl (by kernel_rfl) (fun _ _ _ h => h) (Or.inl ⟨by rfl, ?_⟩) hHeld ?_ ?_
      rotate_left
      · rintro w' ⟨s0, s1, s2, s3, s4, s5, s6, s7, s8, s9, s10, s11, s12, s13, s14⟩
        go_simp
        with_reducible rfl
      rotate_left
      · simp only [Act.put, List.setIfInBounds_toArray, List.set_cons_zero, List.set_cons_succ, i64_w, i32_w]
        rfl
      refine pure_ (i := 28) (N := some 89) (v := ?_) (a' := ?_) #[true, true, true, true, true, true, true, true, true, true, true, true, true, true, true, true, true, true, true, true, true, true, true, true, true, true, true, false, true, false, false, false] rfl rfl (by kernel_rfl) (fun _ _ _ h => h) (Or.inl ⟨by rfl, ?_⟩) ?_ ?_
      rotate_left
      · intro w'
        go_simp
        with_reducible rfl
      rotate_left
      · simp only [Act.put, List.setIfInBounds_toArray, List.set_cons_zero, List.set_cons_succ, i64_w, i32_w]
        rfl
      refine one_ (i := 27) (N := some 88) #[true, true, true, true, true, true, true, true, true, true, true, true, true, true, true, true, true, true, true, true, true, true, true, true, true, true, true, true, true, false, false, false] rfl rfl (by kernel_rfl) (by decide) (fun K hK => ?_)
      refine goes_ Try.func34 (by kernel_rfl) rfl #[.agg #[.int .i64 x.f0, .string x.f1, .int .i64 x.f2, .slice X_3 x.f3.length X_c3, .slice X_4 x.f4.length X_c4]] (by rfl) rfl rfl (by (try simp only [List.map_toArray, List.map_cons, List.map_nil]); first | done | rfl) ?_
      refine (implSc' hm _ _ _ _ _ Ix.out (by omega)).mono ?_
      rintro e w13 ⟨mA, mc, rfl, hmc_, hC, b⟩
      have Lm := Lib.hid hC
      clear hC
      replace Kx := Lib.hid (blk_below Kx.out b)
      replace Kz := Lib.hid (blk_below Kz.out b)
      replace Ku := Lib.hid (blk_below Ku.out b)
      replace Kt := Lib.hid (blk_below Kt.out b)
      replace Ix := Lib.hid (Ix.out.below b)
      replace Iz := Lib.hid (Iz.out.below b)
      replace Iu := Lib.hid (Iu.out.below b)
      replace It := Lib.hid (It.out.below b)
      replace Isz := Lib.hid (Isz.out.below b)
      replace Isx := Lib.hid (Isx.out.below b)
      replace Ll := Lib.hid (Kd.C_below Ll.out b)
      replace Lq := Lib.hid (Kd.C_below Lq.out b)
      replace Lr := Lib.hid (Kd.C_below Lr.out b)
      replace BW := Lib.hid (below_step BW.out b)
      clear b
      refine ⟨_, rfl, ?_⟩
      obtain ⟨p0, p1, p2, p3, p4⟩ := fm_cells Kx.out
      obtain ⟨q0, q1, q2, q3, q4⟩ := fm_cells Kz.out
      obtain ⟨r0, r1, r2, r3, r4⟩ := fm_cells Kt.out
      refine hK.out _ _ ⟨p0, p1, p2, p3, p4, q0, q1, q2, q3, q4, r0, r1, r2, r3, r4⟩ (fun hHeld => ?_)
      clear hK K
      refine norm_ (a' := ?_) ?_ ?_
      rotate_left
      · show Act.put _ (some 88) _ = _
        simp only [Act.put, List.setIfInBounds_toArray, List.set_cons_zero, List.set_cons_succ, i64_w, i32_w]
        rfl
      clear p0 p1 p2 p3 p4 q0 q1 q2 q3 q4 r0 r1 r2 r3 r4
      refine one_ (i := 29) (N := some 90) #[true, true, true, true, true, true, true, true, true, true, true, true, true, true, true, true, true, true, true, true, true, true, true, true, true, true, true, true, true, true, false, false] rfl rfl (by kernel_rfl) (by decide) (fun K hK => ?_)
      refine goes_ Try.func28 (by kernel_rfl) rfl #[.slice mA m.length mc, .slice lA l.length lc] (by rfl) rfl rfl (by (try simp only [List.map_toArray, List.map_cons, List.map_nil]); first | done | rfl) ?_
      refine (implW' hwi _ _ _ _ _ Lm.out hmc_ Ll.out hlc_).mono ?_
      rintro e w14 ⟨rfl, b⟩
      replace Kx := Lib.hid (blk_below Kx.out b)
      replace Kz := Lib.hid (blk_below Kz.out b)
      replace Ku := Lib.hid (blk_below Ku.out b)
      replace Kt := Lib.hid (blk_below Kt.out b)
      replace Ix := Lib.hid (Ix.out.below b)
      replace Iz := Lib.hid (Iz.out.below b)
      replace Iu := Lib.hid (Iu.out.below b)
      replace It := Lib.hid (It.out.below b)
      replace Isz := Lib.hid (Isz.out.below b)
      replace Isx := Lib.hid (Isx.out.below b)
      replace Ll := Lib.hid (Kd.C_below Ll.out b)
      replace Lq := Lib.hid (Kd.C_below Lq.out b)
      replace Lr := Lib.hid (Kd.C_below Lr.out b)
      replace Lm := Lib.hid (Kd.C_below Lm.out b)
      replace BW := Lib.hid (below_step BW.out b)
      clear b
      refine ⟨_, rfl, ?_⟩
      obtain ⟨p0, p1, p2, p3, p4⟩ := fm_cells Kx.out
      obtain ⟨q0, q1, q2, q3, q4⟩ := fm_cells Kz.out
      obtain ⟨r0, r1, r2, r3, r4⟩ := fm_cells Kt.out
      refine hK.out _ _ ⟨p0, p1, p2, p3, p4, q0, q1, q2, q3, q4, r0, r1, r2, r3, r4⟩ (fun hHeld => ?_)
      clear hK K
      refine norm_ (a' := ?_) ?_ ?_
      rotate_left
      · show Act.put _ (some 90) _ = _
        simp only [Act.put, List.setIfInBounds_toArray, List.set_cons_zero, List.set_cons_succ, i64_w, i32_w]
        rfl
      clear p0 p1 p2 p3 p4 q0 q1 q2 q3 q4 r0 r1 r2 r3 r4
      refine pure_ (i := 30) (N := some 91) (v := ?_) (a' := ?_) #[true, true, true, true, true, true, true, true, true, true, true, true, true, true, true, true, true, true, true, true, true, true, true, true, true, true, true, true, true, true, true, false] rfl rfl (by kernel_rfl) (fun _ _ _ h => h) (Or.inl ⟨by rfl, ?_⟩) ?_ ?_
      rotate_left
      · intro w'
        go_simp
        with_reducible rfl
      rotate_left
      · simp only [Act.put, List.setIfInBounds_toArray, List.set_cons_zero, List.set_cons_succ, i64_w, i32_w]
        rfl
      refine pure_ (i := 31) (N := some 2) (v := ?_) (a' := ?_) #[true, true, true, true, true, true, true, true, true, true, true, true, true, true, true, true, true, true, true, true, true, true, true, true, true, true, true, true, true, true, true, true] rfl rfl (by kernel_rfl) (fun _ _ _ h => h) (Or.inl ⟨by rfl, ?_⟩) ?_ ?_
      rotate_left
      · intro w'
        go_simp
        with_reducible rfl
      rotate_left
      · simp only [Act.put, List.setIfInBounds_toArray, List.set_cons_zero, List.set_cons_succ, i64_w, i32_w]
        rfl
      refine done_ (by kernel_rfl) ?_
      go_wp2_with fail
      go_ret
      exact ⟨rfl, by repeat (first | exact BW.out | refine below_alloc ?_ _)⟩
end Go.Proofs.Yteonncnhhccgeaa
end
section
namespace Go.Proofs.Yteonncnhhccgeaa.fnAddScope
open Go.ChangeShapes Go.WideShapes Go.ChangeAt Go.RowKit Go.Proofs.Yteonncnhhccgeaa
open Go.ChangeMaps (open_string shut_string)
set_option linter.unusedVariables false
theorem own : ownKnob Try.prog.godebug = none := by kernel_rfl
theorem laidOut : laidOutB Try.prog = true := by kernel_rfl
def IsRow (k : IntKind) (w : World) (a : Option Addr) (len cap : Nat) (zs : List Int) : Prop :=
  (a = none ∧ len = 0 ∧ cap = 0 ∧ zs = []) ∨
  ∃ x, a = some x ∧ len ≤ cap ∧ cap ≤ maxLen ∧ zs.length = cap ∧ (∀ i, i < zs.length → w.cell? (x.add i) = some (.int k (zs.getD i 0))) ∧ ∀ n ∈ zs, (Lit.int k n).wf = true
set_option maxRecDepth 100000 in
theorem lifted (os : Os) (started : os.Started) (H : Type) (enc : TypeId × Value → H) :
    ReturnsInHanded {} Try.checked os 5 .any (Rows.fnAddScopeSpec.pre6 enc Try.prog Try.f5 Rows.fnAddScopeRow.domain false) (Rows.fnAddScopeSpec.post enc Try.prog Try.f5 false true false false) := by
  refine returnsInHanded_of_change_sized (C := Try.checked) own started (by kernel_rfl) Try.func5
    (ChangeSpec.witness6 (enc := enc) (C := Try.checked) false ⟨#[], #[.slice none 0 0], []⟩ 8 (by kernel_rfl) (by kernel_rfl) (by kernel_rfl) (by kernel_rfl)) ?_
  intro W base args ds gs before hval0 hW hcnd hsz0 _
  have hsz : (DataW.weightsEach Try.prog (Try.f5.params.toList ++ Rows.fnAddScopeSpec.plain.varTypes Try.prog) (ds ++ gs)).all (· ≤ reachBytes) = true := hsz0
  have hval : ∀ (j : Nat) t v, Try.f5.params[j]? = some t → args[j]? = some v → Value.okWide Try.prog W .any base t v := hval0
  have hW' := hW
  obtain ⟨p, q, hA0, hV, rfl, hfz, hnd⟩ := hW
  have hA : DataW.TrodAll enc Try.prog W 0 (fun _ => true) true Try.f5.params.toList args.toList ds p := hA0
  rw [Try.params5] at hA hval hsz
  obtain ⟨v0, vs0, d0, ds0, p0, q0, hargs, rfl, rfl, h0, r0⟩ := trodAll_cons hA
  obtain ⟨rfl, rfl, rfl⟩ := trodAll_nil r0
  obtain rfl : args = #[v0] := by cases args; simp_all
  obtain ⟨rfl, rfl⟩ := trodVars_none hV
  obtain ⟨a0, len0, cap0, rfl⟩ := okWide_slice Try.underlying22 (hval 0 22 v0 rfl rfl)
  have k0 := h0
  have lt0 : ∀ x ∈ p0, x.block < W.heap.size := by obtain ⟨m, hm⟩ := k0; exact DataW.trod_lt m _ _ _ hm
  obtain ⟨z0, w0⟩ : ∃ zs, IsRow .u8 W a0 len0 cap0 zs := by
    obtain ⟨fuel, hf⟩ := h0
    rcases open_ints Try.underlying22 Try.underlying5 (by kernel_rfl) hf with ⟨hcs, _⟩ | ⟨x, l, c, zs, hcs, _, hl, hm, hz, _, hcell, hwz⟩
    · simp [Value.cells] at hcs
      obtain ⟨rfl, rfl, rfl⟩ := hcs
      exact ⟨[], .inl ⟨rfl, rfl, rfl, rfl⟩⟩
    · simp [Value.cells] at hcs
      obtain ⟨rfl, rfl, rfl⟩ := hcs
      exact ⟨zs, .inr ⟨_, rfl, hl, hm, by simpa using hz, hcell, hwz⟩⟩
  have y0 : len0 * 1 ≤ 140737488351232 := Go.Proofs.YteonncnhhccgeaaW.PrintWords.sized_ints hsz (j := 0) (t := 22) rfl rfl Try.underlying22 Try.underlying5 (by kernel_rfl) (by kernel_rfl) h0
  obtain ⟨l0, rfl, hr0, hm0, hw0, hc0⟩ := Go.Proofs.YteonncnhhccgeaaW.PrintWords.ReadsInt.ofRowC w0
  clear hA0 hval0 hsz0 hsz
  refine (fnAddScope_walk _ _ l0 W (Go.Proofs.YteonncnhhccgeaaW.PrintWords.Kd.C_of_reads (d := (0 : Int)) (h1 := fun _ => rfl) hr0) hc0 y0 hw0).mono fun e W' ⟨he, bel⟩ => ?_
  subst he
  exact ⟨_, rfl, _, _, _, [], _, [], hW', trodAll_mk1 (shut_bool Try.underlying4 _), (trodAll_cons_mk (Below.trod laidOut (by kernel_rfl) (of_decide_eq_true (by kernel_rfl)) k0 bel lt0) trodAll_mk0), rfl, bel.frame _, fun h => by cases h⟩
set_option maxRecDepth 100000 in
theorem closed : joinedFacts Try.prog 5 Try.f5 Rows.fnAddScopeSpec Rows.fnAddScopeRow = true := by
  unfold joinedFacts
  refine Bool.and_eq_true_iff.2 ⟨Bool.and_eq_true_iff.2 ⟨Bool.and_eq_true_iff.2 ⟨Bool.and_eq_true_iff.2 ⟨Bool.and_eq_true_iff.2 ⟨Bool.and_eq_true_iff.2 ⟨Bool.and_eq_true_iff.2 ⟨?_, mayEnter_yes⟩, (congrArg (fun b => Rows.fnAddScopeRow.lifted == b) liftsFinal_no).trans (by kernel_rfl)⟩, (congrArg (fun b => b == some Rows.fnAddScopeRow.make) make_cut).trans (by kernel_rfl)⟩, ?_⟩, ?_⟩, ?_⟩, ?_⟩
  all_goals kernel_rfl
theorem over : Rows.fnAddScopeRow.holds Try.pinned (OpenSpec.ofChange Rows.fnAddScopeSpec) :=
  OpenClaim.holds_of_wide 5 Try.f5 rfl rfl rfl rfl rfl rfl rfl ⟨rfl, rfl, rfl, rfl, rfl⟩ rfl rfl rfl rfl rfl (by kernel_rfl) Try.func5 closed
    (of_decide_eq_true (by kernel_rfl)) (by unfold Func.isWrapper; first | (rw [if_pos (by decide +kernel)]; kernel_rfl) | (rw [if_neg (by decide +kernel)]; exact ⟨rfl, rfl⟩))
    (fun os started H enc _ => lifted os started H enc)
end Go.Proofs.Yteonncnhhccgeaa.fnAddScope
namespace Go.Proofs.Yteonncnhhccgeaa
/-- The row. -/
theorem fnAddScope_holds : Rows.FnAddScopeSaid := fnAddScope.over
#print axioms fnAddScope_holds
end Go.Proofs.Yteonncnhhccgeaa
end
