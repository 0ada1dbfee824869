/- The parts of a flipped form are its flipped parts, and nothing else of it changes. For every input the law FnFlipParts returns true, and leaves its input alone. No condition. -/
import Derived.Below
import Derived.ChangeOld
import Derived.JoinedOf
import Derived.KernelRfl
import Derived.OpenShut
import Derived.ProofKit
import Derived.RowKit3
import Derived.ShutString
import Derived.SizedLaws
import Derived.Test.YtlghpblifbaciaaRows
import Derived.WalkKit
import Derived.Test.YtlghpblifbaciaaPk1
import Derived.Test.YtlghpblifbaciaaPk2
import Derived.Test.YtlghpblifbaciaaPk4
section
namespace Go.Proofs.Ytlghpblifbaciaa
open Go.RowKit Go.Proofs.YtlghpblifbaciaaW.PrintWords Go.Proofs.YtlghpblifbaciaaW.PrintLast Go.Proofs.YtlghpblifbaciaaW.PrintMore
set_option linter.unusedVariables false
set_option linter.unusedSimpArgs false
set_option maxHeartbeats 4000000 in
set_option maxRecDepth 100000 in
theorem fnFlipParts_walk (A0 : Option Addr) (c0 : Nat) (l0 : List Int) (w : World)
    (hr0 : (Kd.int .u8).C w A0 l0.length l0) (hc0 : l0.length ≤ c0) (y0 : l0.length * 1 ≤ 140737488351232) (hw0 : ∀ n ∈ l0, (Lit.int .u8 n).wf = true) :
    Calls Try.prog 30 #[.slice A0 l0.length c0] w fun e w' => e = .returned (.bool true) ∧ Below w.heap.size w w' := by
  by_cases g0 : l0.length ≤ 1048576
  rotate_left
  · have t0 : decide ((l0.length : Int) > 1048576) = true := decide_eq_true (by omega)
    have t0' : decide (1048576 < l0.length) = true := decide_eq_true (by omega)
    go_enter Try.func30, Try.ntmps30
    go_wp2_with fail
    go_ret
    exact ⟨rfl, Below.refl _ _⟩
  obtain ⟨x, n, hx, hn0, hn1, D0⟩ := drawFlip l0 (fun z hz => byteOk (hw0 z hz))
  rcases h1 : reS (fun l => flipS l n) n x with ⟨z, b1⟩
  have hz := reS_tot (fun l => flipS l n) n x
  rw [h1] at hz
  replace D0 := Lib.hid D0
  have t0 : decide ((l0.length : Int) > 1048576) = false := decide_eq_false (by omega)
  have t0' : decide (1048576 < l0.length) = false := decide_eq_false (by omega)
  go_enter Try.func30, Try.ntmps30
  go_wp2_with fail
  refine (D0.out A0 c0 _ hr0 hc0).mono ?_
  rintro e w1 ⟨X_3, X_c3, X_4, X_c4, rfl, i, b⟩
  have I := Lib.hid i
  clear i
  have BW := Lib.hid b
  clear b
  have Ix := Lib.hid I.out
  clear I
  go_wp2_with fail
  refine (implGFlip' h1 _ _ _ _ _ (Ix.out.below (below_new _ _)) (by omega)).mono ?_
  rintro e w2 ⟨Z_3, Z_c3, Z_4, Z_c4, rfl, i, b⟩
  have I := Lib.hid i
  clear i
  obtain ⟨k, b⟩ := one_new b
  replace Ix := Lib.hid (Ix.out.below b)
  replace BW := Lib.hid (below_step BW.out b)
  have Kx := Lib.hid k
  clear k
  clear b
  have Iz := Lib.hid I.out
  clear I
  obtain ⟨p0, p1, p2, p3, p4⟩ := fm_cells (blk_below Kx.out (below_new w2 (.cells #[.int .i64 z.f0, .string z.f1, .int .i64 z.f2, .slice Z_3 z.f3.length Z_c3, .slice Z_4 z.f4.length Z_c4] 31)))
  go_wp2_with fail
  clear p0 p1 p2 p3 p4
  refine (specGFlip' h1 _ _ _ _ _ (Ix.out.below (below_new _ _)) (by omega)).mono ?_
  rintro e w3 ⟨U_3, U_c3, U_4, U_c4, rfl, i, b⟩
  have I := Lib.hid i
  clear i
  obtain ⟨k, b⟩ := one_new b
  replace Kx := Lib.hid (blk_below Kx.out b)
  replace Ix := Lib.hid (Ix.out.below b)
  replace Iz := Lib.hid (Iz.out.below b)
  replace BW := Lib.hid (below_step BW.out b)
  have Kz := Lib.hid k
  clear k
  clear b
  have Iu := Lib.hid I.out
  clear I
  obtain ⟨p0, p1, p2, p3, p4⟩ := fm_cells (blk_below Kz.out (below_new w3 (.cells #[.int .i64 z.f0, .string z.f1, .int .i64 z.f2, .slice U_3 z.f3.length U_c3, .slice U_4 z.f4.length U_c4] 31)))
  go_wp2_with fail
  clear p0 p1 p2 p3 p4
  refine (sameT z _ _ _ _ _ _ _ _ _ (Iz.out.below (below_new _ _)) (Iu.out.below (below_new _ _))).mono ?_
  rintro e w4 ⟨rfl, b⟩
  obtain ⟨k, b⟩ := one_new b
  replace Kx := Lib.hid (blk_below Kx.out b)
  replace Kz := Lib.hid (blk_below Kz.out b)
  replace Ix := Lib.hid (Ix.out.below b)
  replace Iz := Lib.hid (Iz.out.below b)
  replace Iu := Lib.hid (Iu.out.below b)
  replace BW := Lib.hid (below_step BW.out b)
  have Ku := Lib.hid k
  clear k
  clear b
  rcases b1 with _ | _
  · obtain ⟨p0, p1, p2, p3, p4⟩ := fm_cells Kz.out
    obtain ⟨q0, q1, q2, q3, q4⟩ := fm_cells Ku.out
    go_wp2_with fail
    clear p0 p1 p2 p3 p4 q0 q1 q2 q3 q4
    refine (sameT z _ _ _ _ _ _ _ _ _ Iz.out Iu.out).mono ?_
    rintro e w5 ⟨rfl, b⟩
    replace Kx := Lib.hid (blk_below Kx.out b)
    replace Kz := Lib.hid (blk_below Kz.out b)
    replace Ku := Lib.hid (blk_below Ku.out b)
    replace Ix := Lib.hid (Ix.out.below b)
    replace Iz := Lib.hid (Iz.out.below b)
    replace Iu := Lib.hid (Iu.out.below b)
    replace BW := Lib.hid (below_step BW.out b)
    clear b
    go_wp2_with fail
    go_ret
    exact ⟨rfl, by repeat (first | exact BW.out | refine below_alloc ?_ _)⟩
  · obtain ⟨hL, hkid⟩ := re_kids h1
    have hbare := re_bare h1
    have hkt : ∀ k, k ∈ x.f4 → k.tot ≤ 7000 := fun k hk => by have := totL_mem hk; have := x.tot_eq; omega
    have hxl : x.f4.length ≤ 7000 := by have := sizes_pos x.f4; have := sizes_totL x; have := x.size_eq; omega
    replace hL := Lib.hid hL
    obtain ⟨p0, p1, p2, p3, p4⟩ := fm_cells Kz.out
    obtain ⟨q0, q1, q2, q3, q4⟩ := fm_cells Kx.out
    go_wp2_with fail
    clear p0 p1 p2 p3 p4 q0 q1 q2 q3 q4
    go_loopg [9] x.f4.length (fun kq v9 w' => ∃ i : Nat, i ≤ x.f4.length ∧ x.f4.length - i ≤ kq ∧ v9 = .int .i64 i ∧ Aside0 (Below w4.heap.size w4 w'))
    case atStart => exact ⟨0, Nat.zero_le _, by omega, rfl, ⟨Below.refl _ _⟩⟩
    case round =>
      obtain ⟨i, hi, hg, rfl, HW⟩ := hrel
      replace Kx := Lib.hid (blk_below Kx.out HW.out)
      replace Kz := Lib.hid (blk_below Kz.out HW.out)
      replace Ku := Lib.hid (blk_below Ku.out HW.out)
      replace Ix := Lib.hid (Ix.out.below HW.out)
      replace Iz := Lib.hid (Iz.out.below HW.out)
      replace Iu := Lib.hid (Iu.out.below HW.out)
      replace BW := Lib.hid (below_step BW.out HW.out)
      replace HW := Lib.hid HW.out
      by_cases hlt : i < x.f4.length
      · obtain ⟨ad, B3, d3, B4, d4, e, g0, g1, g2, g3, g4, hk⟩ := kid_at Ix.out.g4 i hlt
        have HE := Lib.hid hk
        subst e
        clear hk
        have hlt2 : i < z.f4.length := by have := hL.out; omega
        have hkt1 := hkt _ (List.getElem_mem hlt)
        obtain ⟨p0, p1, p2, p3, p4⟩ := fm_cells Kx.out
        go_wp2_with fail
        clear p0 p1 p2 p3 p4
        clear g0 g1 g2 g3 g4
        refine (implGFlip' (hkid i hlt hlt2) _ _ _ _ _ HE.out (by omega)).mono ?_
        rintro e w5 ⟨KID_3, KID_c3, KID_4, KID_c4, rfl, i, b⟩
        have I := Lib.hid i
        clear i
        replace Kx := Lib.hid (blk_below Kx.out b)
        replace Kz := Lib.hid (blk_below Kz.out b)
        replace Ku := Lib.hid (blk_below Ku.out b)
        replace Ix := Lib.hid (Ix.out.below b)
        replace Iz := Lib.hid (Iz.out.below b)
        replace Iu := Lib.hid (Iu.out.below b)
        replace HW := Lib.hid (below_step HW.out b)
        replace BW := Lib.hid (below_step BW.out b)
        clear b
        have Ikid := Lib.hid I.out
        clear I
        go_wp2_with fail
        obtain ⟨adke, KE_3, KE_c3, KE_4, KE_c4, e, g0, g1, g2, g3, g4, hk⟩ := kid_at (Iz.out.below (below_new w5 (.cells #[.int .i64 z.f4[i].f0, .string z.f4[i].f1, .int .i64 z.f4[i].f2, .slice KID_3 z.f4[i].f3.length KID_c3, .slice KID_4 z.f4[i].f4.length KID_c4] 31))).g4 i hlt2
        have Ike := Lib.hid hk
        clear hk
        have Gke0 := Lib.hid g0
        have Gke1 := Lib.hid g1
        have Gke2 := Lib.hid g2
        have Gke3 := Lib.hid g3
        have Gke4 := Lib.hid g4
        clear g0 g1 g2 g3 g4
        subst e
        have b := below_drew (Below.refl (w5.alloc (.cells #[.int .i64 z.f4[i].f0, .string z.f4[i].f1, .int .i64 z.f4[i].f2, .slice KID_3 z.f4[i].f3.length KID_c3, .slice KID_4 z.f4[i].f4.length KID_c4] 31)).heap.size (w5.alloc (.cells #[.int .i64 z.f4[i].f0, .string z.f4[i].f1, .int .i64 z.f4[i].f2, .slice KID_3 z.f4[i].f3.length KID_c3, .slice KID_4 z.f4[i].f4.length KID_c4] 31)))
        replace Ike := Lib.hid (Ike.out.below b)
        replace Gke0 := Lib.hid (ck0 b Gke0.out)
        replace Gke1 := Lib.hid (ck0 b Gke1.out)
        replace Gke2 := Lib.hid (ck0 b Gke2.out)
        replace Gke3 := Lib.hid (ck0 b Gke3.out)
        replace Gke4 := Lib.hid (ck0 b Gke4.out)
        obtain ⟨k, b⟩ := one_new b
        replace Kx := Lib.hid (blk_below Kx.out b)
        replace Kz := Lib.hid (blk_below Kz.out b)
        replace Ku := Lib.hid (blk_below Ku.out b)
        replace Ix := Lib.hid (Ix.out.below b)
        replace Iz := Lib.hid (Iz.out.below b)
        replace Iu := Lib.hid (Iu.out.below b)
        replace Ikid := Lib.hid (Ikid.out.below b)
        replace HW := Lib.hid (below_step HW.out b)
        replace BW := Lib.hid (below_step BW.out b)
        have Kkid := Lib.hid k
        clear k
        clear b
        obtain ⟨p0, p1, p2, p3, p4⟩ := fm_cells Kkid.out
        obtain ⟨q0, q1, q2, q3, q4⟩ := fm_cells Kz.out
        refine start_ (n := 12) (S := (fun W : World => W.cell? ⟨w5.heap.size, 0, none⟩ = some (.int .i64 z.f4[i].f0) ∧ W.cell? ⟨w5.heap.size, 1, none⟩ = some (.string z.f4[i].f1) ∧ W.cell? ⟨w5.heap.size, 2, none⟩ = some (.int .i64 z.f4[i].f2) ∧ W.cell? ⟨w5.heap.size, 3, none⟩ = some (.slice KID_3 z.f4[i].f3.length KID_c3) ∧ W.cell? ⟨w5.heap.size, 4, none⟩ = some (.slice KID_4 z.f4[i].f4.length KID_c4) ∧ W.cell? ⟨w2.heap.size, 0, none⟩ = some (.int .i64 z.f0) ∧ W.cell? ⟨w2.heap.size, 1, none⟩ = some (.string z.f1) ∧ W.cell? ⟨w2.heap.size, 2, none⟩ = some (.int .i64 z.f2) ∧ W.cell? ⟨w2.heap.size, 3, none⟩ = some (.slice Z_3 z.f3.length Z_c3) ∧ W.cell? ⟨w2.heap.size, 4, none⟩ = some (.slice (some adke) z.f4.length Z_c4) ∧ W.cell? (adke.add (i * 5)) = some (.int .i64 z.f4[i].f0) ∧ W.cell? ⟨(adke.add (i * 5)).block, (adke.add (i * 5)).off + 1, none⟩ = some (.string z.f4[i].f1) ∧ W.cell? ⟨(adke.add (i * 5)).block, (adke.add (i * 5)).off + 2, none⟩ = some (.int .i64 z.f4[i].f2) ∧ W.cell? ⟨(adke.add (i * 5)).block, (adke.add (i * 5)).off + 3, none⟩ = some (.slice KE_3 z.f4[i].f3.length KE_c3) ∧ W.cell? ⟨(adke.add (i * 5)).block, (adke.add (i * 5)).off + 4, none⟩ = some (.slice KE_4 z.f4[i].f4.length KE_c4))) (ds := []) #[false, false, false, false, false, false, false, false, false, false, false, false] (by kernel_rfl) rfl rfl ⟨p0, p1, p2, p3, p4, q0, q1, q2, q3, q4, Gke0.out, Gke1.out, Gke2.out, Gke3.out, Gke4.out⟩ (fun hHeld => ?_)
        generalize World.drew _ = wd at Kx Kz Ku Kkid Ix Iz Iu Ikid BW HW Ike Gke0 Gke1 Gke2 Gke3 Gke4 hHeld ⊢
        clear p0 p1 p2 p3 p4 q0 q1 q2 q3 q4
        refine pure_ (i := 0) (N := some 70) (v := ?_) (a' := ?_) #[true, false, false, false, false, false, false, false, false, false, false, false] rfl rfl (by kernel_rfl) (fun _ _ _ h => h) (Or.inl ⟨by rfl, ?_⟩) ?_ ?_
        rotate_left
        · intro w'
          go_simp
          with_reducible rfl
        rotate_left
        · simp only [Act.put, List.setIfInBounds_toArray, List.set_cons_zero, List.set_cons_succ, i64_w, i32_w]
          rfl
        refine pure_ (i := 1) (N := some 71) (v := ?_) (a' := ?_) #[true, true, false, false, false, false, false, false, false, false, false, false] rfl rfl (by kernel_rfl) (fun _ _ _ h => h) (Or.inl ⟨by rfl, ?_⟩) ?_ ?_
        rotate_left
        · intro w'
          go_simp
          with_reducible rfl
        rotate_left
        · simp only [Act.put, List.setIfInBounds_toArray, List.set_cons_zero, List.set_cons_succ, i64_w, i32_w]
          rfl
        refine pure_ (i := 2) (N := some 72) (v := ?_) (a' := ?_) #[true, true, true, false, false, false, false, false, false, false, false, false] rfl rfl (by kernel_rfl) (fun _ _ _ h => h) (Or.inl ⟨by rfl, ?_⟩) ?_ ?_
        rotate_left
        · intro w'
          go_simp
          with_reducible rfl
        rotate_left
        · simp only [Act.put, List.setIfInBounds_toArray, List.set_cons_zero, List.set_cons_succ, i64_w, i32_w]
          rfl
        refine take_ (i := 3) (N := some 73) (v := ?_) (a' := ?_) #[true, true, true, true, false, false, false, false, false, false, false, false] rfl rfl (by kernel_rfl) (fun _ _ _ h => h) (Or.inl ⟨by rfl, ?_⟩) hHeld ?_ ?_
        rotate_left
        · rintro w' ⟨s0, s1, s2, s3, s4, s5, s6, s7, s8, s9, s10, s11, s12, s13, s14⟩
          go_simp
          with_reducible rfl
        rotate_left
        · simp only [Act.put, List.setIfInBounds_toArray, List.set_cons_zero, List.set_cons_succ, i64_w, i32_w]
          rfl
        refine pure_ (i := 4) (N := some 74) (v := ?_) (a' := ?_) #[true, true, true, true, true, false, false, false, false, false, false, false] rfl rfl (by kernel_rfl) (fun _ _ _ h => h) (Or.inl ⟨by rfl, ?_⟩) ?_ ?_
        rotate_left
        · intro w'
          go_simp
          with_reducible rfl
        rotate_left
        · simp only [Act.put, List.setIfInBounds_toArray, List.set_cons_zero, List.set_cons_succ, i64_w, i32_w]
          rfl
        refine take_ (i := 5) (N := some 75) (v := ?_) (a' := ?_) #[true, true, true, true, true, true, false, false, false, false, false, false] rfl rfl (by kernel_rfl) (fun _ _ _ h => h) (Or.inl ⟨by rfl, ?_⟩) hHeld ?_ ?_
        rotate_left
        · rintro w' ⟨s0, s1, s2, s3, s4, s5, s6, s7, s8, s9, s10, s11, s12, s13, s14⟩
          go_simp
          with_reducible rfl
        rotate_left
        · simp only [Act.put, List.setIfInBounds_toArray, List.set_cons_zero, List.set_cons_succ, i64_w, i32_w]
          rfl
        refine pure_ (i := 6) (N := some 76) (v := ?_) (a' := ?_) #[true, true, true, true, true, true, true, false, false, false, false, false] rfl rfl (by kernel_rfl) (fun _ _ _ h => h) (Or.inl ⟨by rfl, ?_⟩) ?_ ?_
        rotate_left
        · intro w'
          go_simp
          with_reducible rfl
        rotate_left
        · simp only [Act.put, List.setIfInBounds_toArray, List.set_cons_zero, List.set_cons_succ, i64_w, i32_w]
          rfl
        refine pure_ (i := 7) (N := some 77) (v := ?_) (a' := ?_) #[true, true, true, true, true, true, true, true, false, false, false, false] rfl rfl (by kernel_rfl) (fun _ _ _ h => h) (Or.inl ⟨by rfl, ?_⟩) ?_ ?_
        rotate_left
        · intro w'
          go_simp
          with_reducible rfl
        rotate_left
        · simp only [Act.put, List.setIfInBounds_toArray, List.set_cons_zero, List.set_cons_succ, i64_w, i32_w]
          rfl
        refine take_ (i := 8) (N := some 78) (v := ?_) (a' := ?_) #[true, true, true, true, true, true, true, true, true, false, false, false] rfl rfl (by kernel_rfl) (fun _ _ _ h => h) (Or.inl ⟨by rfl, ?_⟩) hHeld ?_ ?_
        rotate_left
        · rintro w' ⟨s0, s1, s2, s3, s4, s5, s6, s7, s8, s9, s10, s11, s12, s13, s14⟩
          go_simp
          with_reducible rfl
        rotate_left
        · simp only [Act.put, List.setIfInBounds_toArray, List.set_cons_zero, List.set_cons_succ, i64_w, i32_w]
          rfl
        refine one_ (i := 9) (N := some 79) #[true, true, true, true, true, true, true, true, true, true, false, false] rfl rfl (by kernel_rfl) (by decide) (fun K hK => ?_)
        refine goes_ Try.func44 (by kernel_rfl) rfl #[.agg #[.int .i64 z.f4[i].f0, .string z.f4[i].f1, .int .i64 z.f4[i].f2, .slice KID_3 z.f4[i].f3.length KID_c3, .slice KID_4 z.f4[i].f4.length KID_c4], .agg #[.int .i64 z.f4[i].f0, .string z.f4[i].f1, .int .i64 z.f4[i].f2, .slice KE_3 z.f4[i].f3.length KE_c3, .slice KE_4 z.f4[i].f4.length KE_c4]] (by rfl) rfl rfl (by (try simp only [List.map_toArray, List.map_cons, List.map_nil]); first | done | rfl) ?_
        refine (sameT z.f4[i] _ _ _ _ _ _ _ _ _ Ikid.out Ike.out).mono ?_
        rintro e w6 ⟨rfl, b⟩
        replace Kx := Lib.hid (blk_below Kx.out b)
        replace Kz := Lib.hid (blk_below Kz.out b)
        replace Ku := Lib.hid (blk_below Ku.out b)
        replace Kkid := Lib.hid (blk_below Kkid.out b)
        replace Ix := Lib.hid (Ix.out.below b)
        replace Iz := Lib.hid (Iz.out.below b)
        replace Iu := Lib.hid (Iu.out.below b)
        replace Ikid := Lib.hid (Ikid.out.below b)
        replace HW := Lib.hid (below_step HW.out b)
        replace Ike := Lib.hid (Ike.out.below b)
        replace Gke0 := Lib.hid (ck0 b Gke0.out)
        replace Gke1 := Lib.hid (ck0 b Gke1.out)
        replace Gke2 := Lib.hid (ck0 b Gke2.out)
        replace Gke3 := Lib.hid (ck0 b Gke3.out)
        replace Gke4 := Lib.hid (ck0 b Gke4.out)
        replace BW := Lib.hid (below_step BW.out b)
        clear b
        refine ⟨_, rfl, ?_⟩
        obtain ⟨p0, p1, p2, p3, p4⟩ := fm_cells Kkid.out
        obtain ⟨q0, q1, q2, q3, q4⟩ := fm_cells Kz.out
        refine hK.out _ _ ⟨p0, p1, p2, p3, p4, q0, q1, q2, q3, q4, Gke0.out, Gke1.out, Gke2.out, Gke3.out, Gke4.out⟩ (fun hHeld => ?_)
        clear hK K
        refine norm_ (a' := ?_) ?_ ?_
        rotate_left
        · show Act.put _ (some 79) _ = _
          simp only [Act.put, List.setIfInBounds_toArray, List.set_cons_zero, List.set_cons_succ, i64_w, i32_w]
          rfl
        clear p0 p1 p2 p3 p4 q0 q1 q2 q3 q4
        refine pure_ (i := 10) (N := some 80) (v := ?_) (a' := ?_) #[true, true, true, true, true, true, true, true, true, true, true, false] rfl rfl (by kernel_rfl) (fun _ _ _ h => h) (Or.inl ⟨by rfl, ?_⟩) ?_ ?_
        rotate_left
        · intro w'
          go_simp
          with_reducible rfl
        rotate_left
        · simp only [Act.put, List.setIfInBounds_toArray, List.set_cons_zero, List.set_cons_succ, i64_w, i32_w]
          rfl
        refine pure_ (i := 11) (N := some 81) (v := ?_) (a' := ?_) #[true, true, true, true, true, true, true, true, true, true, true, true] rfl rfl (by kernel_rfl) (fun _ _ _ h => h) (Or.inl ⟨by rfl, ?_⟩) ?_ ?_
        rotate_left
        · intro w'
          go_simp
          with_reducible rfl
        rotate_left
        · simp only [Act.put, List.setIfInBounds_toArray, List.set_cons_zero, List.set_cons_succ, i64_w, i32_w]
          rfl
        refine done_ (by kernel_rfl) ?_
        clear Ike Gke0 Gke1 Gke2 Gke3 Gke4
        go_wp2_with fail
        go_roundg (x.f4.length - (i + 1))
        case measure => omega
        case rel => exact ⟨i + 1, by omega, Nat.le_refl _, by go_num, ⟨HW.out⟩⟩
      · obtain rfl : i = x.f4.length := by omega
        obtain ⟨p0, p1, p2, p3, p4⟩ := fm_cells Kx.out
        go_wp2_with fail
        clear p0 p1 p2 p3 p4
        have b := below_drew (Below.refl wr.heap.size wr)
        replace Kx := Lib.hid (blk_below Kx.out b)
        replace Kz := Lib.hid (blk_below Kz.out b)
        replace Ku := Lib.hid (blk_below Ku.out b)
        replace Ix := Lib.hid (Ix.out.below b)
        replace Iz := Lib.hid (Iz.out.below b)
        replace Iu := Lib.hid (Iu.out.below b)
        replace HW := Lib.hid (below_step HW.out b)
        replace BW := Lib.hid (below_step BW.out b)
        clear b
        obtain ⟨p0, p1, p2, p3, p4⟩ := fm_cells Kx.out
        obtain ⟨q0, q1, q2, q3, q4⟩ := fm_cells Kz.out
        refine start_ (n := 15) (S := (fun W : World => W.cell? ⟨w1.heap.size, 0, none⟩ = some (.int .i64 x.f0) ∧ W.cell? ⟨w1.heap.size, 1, none⟩ = some (.string x.f1) ∧ W.cell? ⟨w1.heap.size, 2, none⟩ = some (.int .i64 x.f2) ∧ W.cell? ⟨w1.heap.size, 3, none⟩ = some (.slice X_3 x.f3.length X_c3) ∧ W.cell? ⟨w1.heap.size, 4, none⟩ = some (.slice X_4 x.f4.length X_c4) ∧ W.cell? ⟨w2.heap.size, 0, none⟩ = some (.int .i64 z.f0) ∧ W.cell? ⟨w2.heap.size, 1, none⟩ = some (.string z.f1) ∧ W.cell? ⟨w2.heap.size, 2, none⟩ = some (.int .i64 z.f2) ∧ W.cell? ⟨w2.heap.size, 3, none⟩ = some (.slice Z_3 z.f3.length Z_c3) ∧ W.cell? ⟨w2.heap.size, 4, none⟩ = some (.slice Z_4 z.f4.length Z_c4))) (ds := []) #[false, false, false, false, false, false, false, false, false, false, false, false, false, false, false] (by kernel_rfl) rfl rfl ⟨p0, p1, p2, p3, p4, q0, q1, q2, q3, q4⟩ (fun hHeld => ?_)
        generalize World.drew _ = wd at Kx Kz Ku Ix Iz Iu BW HW hHeld ⊢
        clear p0 p1 p2 p3 p4 q0 q1 q2 q3 q4
        refine pure_ (i := 0) (N := some 82) (v := ?_) (a' := ?_) #[true, false, false, false, false, false, false, false, false, false, false, false, false, false, false] rfl rfl (by kernel_rfl) (fun _ _ _ h => h) (Or.inl ⟨by rfl, ?_⟩) ?_ ?_
        rotate_left
        · intro w'
          go_simp
          with_reducible rfl
        rotate_left
        · simp only [Act.put, List.setIfInBounds_toArray, List.set_cons_zero, List.set_cons_succ, i64_w, i32_w]
          rfl
        refine take_ (i := 1) (N := some 83) (v := ?_) (a' := ?_) #[true, true, false, false, false, false, false, false, false, false, false, false, false, false, false] rfl rfl (by kernel_rfl) (fun _ _ _ h => h) (Or.inl ⟨by rfl, ?_⟩) hHeld ?_ ?_
        rotate_left
        · rintro w' ⟨s0, s1, s2, s3, s4, s5, s6, s7, s8, s9⟩
          go_simp
          with_reducible rfl
        rotate_left
        · simp only [Act.put, List.setIfInBounds_toArray, List.set_cons_zero, List.set_cons_succ, i64_w, i32_w]
          rfl
        refine pure_ (i := 2) (N := some 84) (v := ?_) (a' := ?_) #[true, true, true, false, false, false, false, false, false, false, false, false, false, false, false] rfl rfl (by kernel_rfl) (fun _ _ _ h => h) (Or.inl ⟨by rfl, ?_⟩) ?_ ?_
        rotate_left
        · intro w'
          go_simp
          with_reducible rfl
        rotate_left
        · simp only [Act.put, List.setIfInBounds_toArray, List.set_cons_zero, List.set_cons_succ, i64_w, i32_w]
          rfl
        refine pure_ (i := 3) (N := some 85) (v := ?_) (a' := ?_) #[true, true, true, true, false, false, false, false, false, false, false, false, false, false, false] rfl rfl (by kernel_rfl) (fun _ _ _ h => h) (Or.inl ⟨by rfl, ?_⟩) ?_ ?_
        rotate_left
        · intro w'
          go_simp
          with_reducible rfl
        rotate_left
        · simp only [Act.put, List.setIfInBounds_toArray, List.set_cons_zero, List.set_cons_succ, i64_w, i32_w]
          rfl
        refine take_ (i := 4) (N := some 86) (v := ?_) (a' := ?_) #[true, true, true, true, true, false, false, false, false, false, false, false, false, false, false] rfl rfl (by kernel_rfl) (fun _ _ _ h => h) (Or.inl ⟨by rfl, ?_⟩) hHeld ?_ ?_
        rotate_left
        · rintro w' ⟨s0, s1, s2, s3, s4, s5, s6, s7, s8, s9⟩
          go_simp
          with_reducible rfl
        rotate_left
        · simp only [Act.put, List.setIfInBounds_toArray, List.set_cons_zero, List.set_cons_succ, i64_w, i32_w]
          rfl
        refine pure_ (i := 5) (N := some 87) (v := ?_) (a' := ?_) #[true, true, true, true, true, true, false, false, false, false, false, false, false, false, false] rfl rfl (by kernel_rfl) (fun _ _ _ h => h) (Or.inl ⟨by rfl, ?_⟩) ?_ ?_
        rotate_left
        · intro w'
          go_simp
          with_reducible rfl
        rotate_left
        · simp only [Act.put, List.setIfInBounds_toArray, List.set_cons_zero, List.set_cons_succ, i64_w, i32_w]
          rfl
        refine pure_ (i := 6) (N := some 88) (v := .bool true) (a' := ?_) #[true, true, true, true, true, true, true, false, false, false, false, false, false, false, false] rfl rfl (by kernel_rfl) (fun _ _ _ h => h) (Or.inl ⟨by rfl, ?_⟩) ?_ ?_
        · intro w'
          go_simp
          simp [hL.out]
        rotate_left
        · simp only [Act.put, List.setIfInBounds_toArray, List.set_cons_zero, List.set_cons_succ, i64_w, i32_w]
          rfl
        refine pure_ (i := 7) (N := some 89) (v := ?_) (a' := ?_) #[true, true, true, true, true, true, true, true, false, false, false, false, false, false, false] rfl rfl (by kernel_rfl) (fun _ _ _ h => h) (Or.inl ⟨by rfl, ?_⟩) ?_ ?_
        rotate_left
        · intro w'
          go_simp
          with_reducible rfl
        rotate_left
        · simp only [Act.put, List.setIfInBounds_toArray, List.set_cons_zero, List.set_cons_succ, i64_w, i32_w]
          rfl
        refine take_ (i := 8) (N := some 90) (v := ?_) (a' := ?_) #[true, true, true, true, true, true, true, true, true, false, false, false, false, false, false] rfl rfl (by kernel_rfl) (fun _ _ _ h => h) (Or.inl ⟨by rfl, ?_⟩) hHeld ?_ ?_
        rotate_left
        · rintro w' ⟨s0, s1, s2, s3, s4, s5, s6, s7, s8, s9⟩
          go_simp
          with_reducible rfl
        rotate_left
        · simp only [Act.put, List.setIfInBounds_toArray, List.set_cons_zero, List.set_cons_succ, i64_w, i32_w]
          rfl
        refine take_ (i := 10) (N := some 92) (v := ?_) (a' := ?_) #[true, true, true, true, true, true, true, true, true, false, true, false, false, false, false] rfl rfl (by kernel_rfl) (fun _ _ _ h => h) (Or.inl ⟨by rfl, ?_⟩) hHeld ?_ ?_
        rotate_left
        · rintro w' ⟨s0, s1, s2, s3, s4, s5, s6, s7, s8, s9⟩
          go_simp
          with_reducible rfl
        rotate_left
        · simp only [Act.put, List.setIfInBounds_toArray, List.set_cons_zero, List.set_cons_succ, i64_w, i32_w]
          rfl
        refine one_ (i := 9) (N := some 91) #[true, true, true, true, true, true, true, true, true, true, true, false, false, false, false] rfl rfl (by kernel_rfl) (by decide) (fun K hK => ?_)
        refine goes_ Try.func46 (by kernel_rfl) rfl #[.agg #[.int .i64 x.f0, .string x.f1, .int .i64 x.f2, .slice X_3 x.f3.length X_c3, .slice X_4 x.f4.length X_c4]] (by rfl) rfl rfl (by (try simp only [List.map_toArray, List.map_cons, List.map_nil]); first | done | rfl) ?_
        refine ((implStrip_any x _ _ _ _ _ Ix.out (by omega)).mono (fun e w' h => h.get)).mono ?_
        rintro e w5 ⟨SX_3, SX_c3, SX_4, SX_c4, rfl, i, b⟩
        have I := Lib.hid i
        clear i
        replace Kx := Lib.hid (blk_below Kx.out b)
        replace Kz := Lib.hid (blk_below Kz.out b)
        replace Ku := Lib.hid (blk_below Ku.out b)
        replace Ix := Lib.hid (Ix.out.below b)
        replace Iz := Lib.hid (Iz.out.below b)
        replace Iu := Lib.hid (Iu.out.below b)
        replace HW := Lib.hid (below_step HW.out b)
        replace BW := Lib.hid (below_step BW.out b)
        clear b
        have Isx := Lib.hid I.out
        clear I
        refine ⟨_, rfl, ?_⟩
        obtain ⟨p0, p1, p2, p3, p4⟩ := fm_cells Kx.out
        obtain ⟨q0, q1, q2, q3, q4⟩ := fm_cells Kz.out
        refine hK.out _ _ ⟨p0, p1, p2, p3, p4, q0, q1, q2, q3, q4⟩ (fun hHeld => ?_)
        clear hK K
        refine norm_ (a' := ?_) ?_ ?_
        rotate_left
        · show Act.put _ (some 91) _ = _
          simp only [Act.put, List.setIfInBounds_toArray, List.set_cons_zero, List.set_cons_succ, i64_w, i32_w]
          rfl
        clear p0 p1 p2 p3 p4 q0 q1 q2 q3 q4
        refine one_ (i := 11) (N := some 93) #[true, true, true, true, true, true, true, true, true, true, true, true, false, false, false] rfl rfl (by kernel_rfl) (by decide) (fun K hK => ?_)
        refine goes_ Try.func46 (by kernel_rfl) rfl #[.agg #[.int .i64 z.f0, .string z.f1, .int .i64 z.f2, .slice Z_3 z.f3.length Z_c3, .slice Z_4 z.f4.length Z_c4]] (by rfl) rfl rfl (by (try simp only [List.map_toArray, List.map_cons, List.map_nil]); first | done | rfl) ?_
        refine (hbare ▸ (implStrip_any z _ _ _ _ _ Iz.out (by omega)).mono (fun e w' h => h.get)).mono ?_
        rintro e w6 ⟨SZ_3, SZ_c3, SZ_4, SZ_c4, rfl, i, b⟩
        have I := Lib.hid i
        clear i
        replace Kx := Lib.hid (blk_below Kx.out b)
        replace Kz := Lib.hid (blk_below Kz.out b)
        replace Ku := Lib.hid (blk_below Ku.out b)
        replace Ix := Lib.hid (Ix.out.below b)
        replace Iz := Lib.hid (Iz.out.below b)
        replace Iu := Lib.hid (Iu.out.below b)
        replace Isx := Lib.hid (Isx.out.below b)
        replace HW := Lib.hid (below_step HW.out b)
        replace BW := Lib.hid (below_step BW.out b)
        clear b
        have Isz := Lib.hid I.out
        clear I
        refine ⟨_, rfl, ?_⟩
        obtain ⟨p0, p1, p2, p3, p4⟩ := fm_cells Kx.out
        obtain ⟨q0, q1, q2, q3, q4⟩ := fm_cells Kz.out
        refine hK.out _ _ ⟨p0, p1, p2, p3, p4, q0, q1, q2, q3, q4⟩ (fun hHeld => ?_)
        clear hK K
        refine norm_ (a' := ?_) ?_ ?_
        rotate_left
        · show Act.put _ (some 93) _ = _
          simp only [Act.put, List.setIfInBounds_toArray, List.set_cons_zero, List.set_cons_succ, i64_w, i32_w]
          rfl
        clear p0 p1 p2 p3 p4 q0 q1 q2 q3 q4
        refine one_ (i := 12) (N := some 94) #[true, true, true, true, true, true, true, true, true, true, true, true, true, false, false] rfl rfl (by kernel_rfl) (by decide) (fun K hK => ?_)
        refine goes_ Try.func44 (by kernel_rfl) rfl #[.agg #[.int .i64 x.bare.f0, .string x.bare.f1, .int .i64 x.bare.f2, .slice SX_3 x.bare.f3.length SX_c3, .slice SX_4 x.bare.f4.length SX_c4], .agg #[.int .i64 x.bare.f0, .string x.bare.f1, .int .i64 x.bare.f2, .slice SZ_3 x.bare.f3.length SZ_c3, .slice SZ_4 x.bare.f4.length SZ_c4]] (by rfl) rfl rfl (by (try simp only [List.map_toArray, List.map_cons, List.map_nil]); first | done | rfl) ?_
        refine (sameT x.bare _ _ _ _ _ _ _ _ _ Isx.out Isz.out).mono ?_
        rintro e w7 ⟨rfl, b⟩
        replace Kx := Lib.hid (blk_below Kx.out b)
        replace Kz := Lib.hid (blk_below Kz.out b)
        replace Ku := Lib.hid (blk_below Ku.out b)
        replace Ix := Lib.hid (Ix.out.below b)
        replace Iz := Lib.hid (Iz.out.below b)
        replace Iu := Lib.hid (Iu.out.below b)
        replace Isx := Lib.hid (Isx.out.below b)
        replace Isz := Lib.hid (Isz.out.below b)
        replace HW := Lib.hid (below_step HW.out b)
        replace BW := Lib.hid (below_step BW.out b)
        clear b
        refine ⟨_, rfl, ?_⟩
        obtain ⟨p0, p1, p2, p3, p4⟩ := fm_cells Kx.out
        obtain ⟨q0, q1, q2, q3, q4⟩ := fm_cells Kz.out
        refine hK.out _ _ ⟨p0, p1, p2, p3, p4, q0, q1, q2, q3, q4⟩ (fun hHeld => ?_)
        clear hK K
        refine norm_ (a' := ?_) ?_ ?_
        rotate_left
        · show Act.put _ (some 94) _ = _
          simp only [Act.put, List.setIfInBounds_toArray, List.set_cons_zero, List.set_cons_succ, i64_w, i32_w]
          rfl
        clear p0 p1 p2 p3 p4 q0 q1 q2 q3 q4
        refine pure_ (i := 13) (N := some 95) (v := ?_) (a' := ?_) #[true, true, true, true, true, true, true, true, true, true, true, true, true, true, false] rfl rfl (by kernel_rfl) (fun _ _ _ h => h) (Or.inl ⟨by rfl, ?_⟩) ?_ ?_
        rotate_left
        · intro w'
          go_simp
          with_reducible rfl
        rotate_left
        · simp only [Act.put, List.setIfInBounds_toArray, List.set_cons_zero, List.set_cons_succ, i64_w, i32_w]
          rfl
        refine pure_ (i := 14) (N := some 2) (v := ?_) (a' := ?_) #[true, true, true, true, true, true, true, true, true, true, true, true, true, true, true] rfl rfl (by kernel_rfl) (fun _ _ _ h => h) (Or.inl ⟨by rfl, ?_⟩) ?_ ?_
        rotate_left
        · intro w'
          go_simp
          with_reducible rfl
        rotate_left
        · simp only [Act.put, List.setIfInBounds_toArray, List.set_cons_zero, List.set_cons_succ, i64_w, i32_w]
          rfl
        refine done_ (by kernel_rfl) ?_
        go_wp2_with fail
        go_ret
        exact ⟨rfl, by repeat (first | exact BW.out | refine below_alloc ?_ _)⟩
end Go.Proofs.Ytlghpblifbaciaa
end
section
namespace Go.Proofs.Ytlghpblifbaciaa.fnFlipParts
open Go.ChangeShapes Go.WideShapes Go.ChangeAt Go.RowKit Go.Proofs.Ytlghpblifbaciaa
open Go.ChangeMaps (open_string shut_string)
set_option linter.unusedVariables false
theorem own : ownKnob Try.prog.godebug = none := by kernel_rfl
theorem laidOut : laidOutB Try.prog = true := by kernel_rfl
def IsRow (k : IntKind) (w : World) (a : Option Addr) (len cap : Nat) (zs : List Int) : Prop :=
  (a = none ∧ len = 0 ∧ cap = 0 ∧ zs = []) ∨
  ∃ x, a = some x ∧ len ≤ cap ∧ cap ≤ maxLen ∧ zs.length = cap ∧ (∀ i, i < zs.length → w.cell? (x.add i) = some (.int k (zs.getD i 0))) ∧ ∀ n ∈ zs, (Lit.int k n).wf = true
set_option maxRecDepth 100000 in
theorem lifted (os : Os) (started : os.Started) (H : Type) (enc : TypeId × Value → H) :
    ReturnsInHanded {} Try.checked os 30 .any (Rows.fnFlipPartsSpec.pre6 enc Try.prog Try.f30 Rows.fnFlipPartsRow.domain false) (Rows.fnFlipPartsSpec.post enc Try.prog Try.f30 false true false false) := by
  refine returnsInHanded_of_change_sized (C := Try.checked) own started (by kernel_rfl) Try.func30
    (ChangeSpec.witness6 (enc := enc) (C := Try.checked) false ⟨#[], #[.slice none 0 0], []⟩ 8 (by kernel_rfl) (by kernel_rfl) (by kernel_rfl) (by kernel_rfl)) ?_
  intro W base args ds gs before hval0 hW hcnd hsz0 _
  have hsz : (DataW.weightsEach Try.prog (Try.f30.params.toList ++ Rows.fnFlipPartsSpec.plain.varTypes Try.prog) (ds ++ gs)).all (· ≤ reachBytes) = true := hsz0
  have hval : ∀ (j : Nat) t v, Try.f30.params[j]? = some t → args[j]? = some v → Value.okWide Try.prog W .any base t v := hval0
  have hW' := hW
  obtain ⟨p, q, hA0, hV, rfl, hfz, hnd⟩ := hW
  have hA : DataW.TrodAll enc Try.prog W 0 (fun _ => true) true Try.f30.params.toList args.toList ds p := hA0
  rw [Try.params30] at hA hval hsz
  obtain ⟨v0, vs0, d0, ds0, p0, q0, hargs, rfl, rfl, h0, r0⟩ := trodAll_cons hA
  obtain ⟨rfl, rfl, rfl⟩ := trodAll_nil r0
  obtain rfl : args = #[v0] := by cases args; simp_all
  obtain ⟨rfl, rfl⟩ := trodVars_none hV
  obtain ⟨a0, len0, cap0, rfl⟩ := okWide_slice Try.underlying22 (hval 0 22 v0 rfl rfl)
  have k0 := h0
  have lt0 : ∀ x ∈ p0, x.block < W.heap.size := by obtain ⟨m, hm⟩ := k0; exact DataW.trod_lt m _ _ _ hm
  obtain ⟨z0, w0⟩ : ∃ zs, IsRow .u8 W a0 len0 cap0 zs := by
    obtain ⟨fuel, hf⟩ := h0
    rcases open_ints Try.underlying22 Try.underlying5 (by kernel_rfl) hf with ⟨hcs, _⟩ | ⟨x, l, c, zs, hcs, _, hl, hm, hz, _, hcell, hwz⟩
    · simp [Value.cells] at hcs
      obtain ⟨rfl, rfl, rfl⟩ := hcs
      exact ⟨[], .inl ⟨rfl, rfl, rfl, rfl⟩⟩
    · simp [Value.cells] at hcs
      obtain ⟨rfl, rfl, rfl⟩ := hcs
      exact ⟨zs, .inr ⟨_, rfl, hl, hm, by simpa using hz, hcell, hwz⟩⟩
  have y0 : len0 * 1 ≤ 140737488351232 := Go.Proofs.YtlghpblifbaciaaW.PrintWords.sized_ints hsz (j := 0) (t := 22) rfl rfl Try.underlying22 Try.underlying5 (by kernel_rfl) (by kernel_rfl) h0
  obtain ⟨l0, rfl, hr0, hm0, hw0, hc0⟩ := Go.Proofs.YtlghpblifbaciaaW.PrintWords.ReadsInt.ofRowC w0
  clear hA0 hval0 hsz0 hsz
  refine (fnFlipParts_walk _ _ l0 W (Go.Proofs.YtlghpblifbaciaaW.PrintWords.Kd.C_of_reads (d := (0 : Int)) (h1 := fun _ => rfl) hr0) hc0 y0 hw0).mono fun e W' ⟨he, bel⟩ => ?_
  subst he
  exact ⟨_, rfl, _, _, _, [], _, [], hW', trodAll_mk1 (shut_bool Try.underlying4 _), (trodAll_cons_mk (Below.trod laidOut (by kernel_rfl) (of_decide_eq_true (by kernel_rfl)) k0 bel lt0) trodAll_mk0), rfl, bel.frame _, fun h => by cases h⟩
set_option maxRecDepth 100000 in
theorem closed : joinedFacts Try.prog 30 Try.f30 Rows.fnFlipPartsSpec Rows.fnFlipPartsRow = true := by
  unfold joinedFacts
  refine Bool.and_eq_true_iff.2 ⟨Bool.and_eq_true_iff.2 ⟨Bool.and_eq_true_iff.2 ⟨Bool.and_eq_true_iff.2 ⟨Bool.and_eq_true_iff.2 ⟨Bool.and_eq_true_iff.2 ⟨Bool.and_eq_true_iff.2 ⟨?_, mayEnter_yes⟩, (congrArg (fun b => Rows.fnFlipPartsRow.lifted == b) liftsFinal_no).trans (by kernel_rfl)⟩, (congrArg (fun b => b == some Rows.fnFlipPartsRow.make) make_cut).trans (by kernel_rfl)⟩, ?_⟩, ?_⟩, ?_⟩, ?_⟩
  all_goals kernel_rfl
theorem over : Rows.fnFlipPartsRow.holds Try.pinned (OpenSpec.ofChange Rows.fnFlipPartsSpec) :=
  OpenClaim.holds_of_wide 30 Try.f30 rfl rfl rfl rfl rfl rfl rfl ⟨rfl, rfl, rfl, rfl, rfl⟩ rfl rfl rfl rfl rfl (by kernel_rfl) Try.func30 closed
    (of_decide_eq_true (by kernel_rfl)) (by unfold Func.isWrapper; first | (rw [if_pos (by decide +kernel)]; kernel_rfl) | (rw [if_neg (by decide +kernel)]; exact ⟨rfl, rfl⟩))
    (fun os started H enc _ => lifted os started H enc)
end Go.Proofs.Ytlghpblifbaciaa.fnFlipParts
namespace Go.Proofs.Ytlghpblifbaciaa
/-- The row. -/
theorem fnFlipParts_holds : Rows.FnFlipPartsSaid := fnFlipParts.over
#print axioms fnFlipParts_holds
end Go.Proofs.Ytlghpblifbaciaa
end
