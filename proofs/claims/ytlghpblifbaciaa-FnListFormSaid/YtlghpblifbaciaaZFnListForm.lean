/- The form of a list has the list's forms as_ its parts. For every input the law FnListForm returns true, and leaves its input alone. No condition. -/
import Derived.Below
import Derived.ChangeOld
import Derived.JoinedOf
import Derived.KernelRfl
import Derived.OpenShut
import Derived.ProofKit
import Derived.RowKit3
import Derived.ShutString
import Derived.SizedLaws
import Derived.Test.YtlghpblifbaciaaRows
import Derived.WalkKit
import Derived.Test.YtlghpblifbaciaaPl1
import Derived.Test.YtlghpblifbaciaaPl4
section
namespace Go.Proofs.Ytlghpblifbaciaa
open Go.RowKit Go.Proofs.YtlghpblifbaciaaW.PrintWords Go.Proofs.YtlghpblifbaciaaW.PrintLast Go.Proofs.YtlghpblifbaciaaW.PrintMore
set_option linter.unusedVariables false
set_option linter.unusedSimpArgs false
set_option maxHeartbeats 4000000 in
set_option maxRecDepth 100000 in
theorem fnListForm_walk (A0 : Option Addr) (c0 : Nat) (l0 : List Int) (w : World)
    (hr0 : (Kd.int .u8).C w A0 l0.length l0) (hc0 : l0.length ≤ c0) (y0 : l0.length * 1 ≤ 140737488351232) (hw0 : ∀ n ∈ l0, (Lit.int .u8 n).wf = true) :
    Calls Try.prog 14 #[.slice A0 l0.length c0] w fun e w' => e = .returned (.bool true) ∧ Below w.heap.size w w' := by
  by_cases g0 : l0.length ≤ 1048576
  rotate_left
  · have t0 : decide ((l0.length : Int) > 1048576) = true := decide_eq_true (by omega)
    have t0' : decide (1048576 < l0.length) = true := decide_eq_true (by omega)
    go_enter Try.func14, Try.ntmps14
    go_wp2_with fail
    go_ret
    exact ⟨rfl, Below.refl _ _⟩
  obtain ⟨ks, hkl, hkt, D0⟩ := drawList l0 (fun z hz => byteOk (hw0 z hz))
  have hlt0 := lf_tot hkl hkt
  rcases h1 : orN (lf ks) with ⟨z, b1⟩
  have hz := orN_tot (lf ks)
  rw [h1] at hz
  replace D0 := Lib.hid D0
  have t0 : decide ((l0.length : Int) > 1048576) = false := decide_eq_false (by omega)
  have t0' : decide (1048576 < l0.length) = false := decide_eq_false (by omega)
  go_enter Try.func14, Try.ntmps14
  go_wp2_with fail
  refine (D0.out A0 c0 _ hr0 hc0).mono ?_
  rintro e w1 ⟨v, rfl, hn, b⟩
  obtain ⟨rA, rc, rfl, hrc, hC⟩ := NewL.C hn
  have Lr := Lib.hid hC
  clear hC hn
  have BW := Lib.hid b
  clear b
  go_wp2_with fail
  refine (implList' h1 _ _ _ Lr.out hrc (by omega)).mono ?_
  rintro e w2 ⟨F_3, F_c3, F_4, F_c4, rfl, i, b⟩
  have I := Lib.hid i
  clear i
  replace Lr := Lib.hid (Kd.C_below Lr.out b)
  replace BW := Lib.hid (below_step BW.out b)
  clear b
  have If := Lib.hid I.out
  clear I
  go_wp2_with fail
  refine (specList' h1 _ _ _ (Kd.C_below Lr.out (below_new _ _)) hrc (by omega)).mono ?_
  rintro e w3 ⟨G_3, G_c3, G_4, G_c4, rfl, i, b⟩
  have I := Lib.hid i
  clear i
  obtain ⟨k, b⟩ := one_new b
  replace If := Lib.hid (If.out.below b)
  replace Lr := Lib.hid (Kd.C_below Lr.out b)
  replace BW := Lib.hid (below_step BW.out b)
  have Kf := Lib.hid k
  clear k
  clear b
  have Ig := Lib.hid I.out
  clear I
  obtain ⟨p0, p1, p2, p3, p4⟩ := fm_cells (blk_below Kf.out (below_new w3 (.cells #[.int .i64 z.f0, .string z.f1, .int .i64 z.f2, .slice G_3 z.f3.length G_c3, .slice G_4 z.f4.length G_c4] 31)))
  go_wp2_with fail
  clear p0 p1 p2 p3 p4
  refine (sameT z _ _ _ _ _ _ _ _ _ (If.out.below (below_new _ _)) (Ig.out.below (below_new _ _))).mono ?_
  rintro e w4 ⟨rfl, b⟩
  obtain ⟨k, b⟩ := one_new b
  replace Kf := Lib.hid (blk_below Kf.out b)
  replace If := Lib.hid (If.out.below b)
  replace Ig := Lib.hid (Ig.out.below b)
  replace Lr := Lib.hid (Kd.C_below Lr.out b)
  replace BW := Lib.hid (below_step BW.out b)
  have Kg := Lib.hid k
  clear k
  clear b
  rcases b1 with _ | _
  · obtain ⟨p0, p1, p2, p3, p4⟩ := fm_cells Kf.out
    obtain ⟨q0, q1, q2, q3, q4⟩ := fm_cells Kg.out
    go_wp2_with fail
    clear p0 p1 p2 p3 p4 q0 q1 q2 q3 q4
    refine (sameT z _ _ _ _ _ _ _ _ _ If.out Ig.out).mono ?_
    rintro e w5 ⟨rfl, b⟩
    replace Kf := Lib.hid (blk_below Kf.out b)
    replace Kg := Lib.hid (blk_below Kg.out b)
    replace If := Lib.hid (If.out.below b)
    replace Ig := Lib.hid (Ig.out.below b)
    replace Lr := Lib.hid (Kd.C_below Lr.out b)
    replace BW := Lib.hid (below_step BW.out b)
    clear b
    go_wp2_with fail
    go_ret
    exact ⟨rfl, by repeat (first | exact BW.out | refine below_alloc ?_ _)⟩
  · obtain ⟨hok, hzl⟩ := orN_true h1
    have hk : ks = z.f4 := by rw [hzl]
    have hokz : FmOk z := by rw [hzl]; exact hok
    clear h1 hzl hok
    subst hk
    have hkid : ∀ k, k ∈ z.f4 → pB (FmOk k) = true := fun k hk => pB_iff.2 (fmOk_kid hokz k hk)
    replace hkid := Lib.hid hkid
    have hvz := pB_iff.2 hokz
    have hsz := z.size_eq
    have hss := sizes_totL z
    replace hsz := Lib.hid hsz
    clear hokz
    obtain ⟨p0, p1, p2, p3, p4⟩ := fm_cells Kf.out
    obtain ⟨q0, q1, q2, q3, q4⟩ := fm_cells Kg.out
    go_wp2_with fail
    clear p0 p1 p2 p3 p4 q0 q1 q2 q3 q4
    go_loopg [8, 9] z.f4.length (fun kq v8 v9 w' => ∃ i m : Nat, i ≤ z.f4.length ∧ z.f4.length - i ≤ kq ∧ v9 = .int .i64 i ∧ v8 = .int .i64 m ∧ Aside0 (m = 1 + sizes (z.f4.take i)) ∧ Aside0 (Below w4.heap.size w4 w'))
    case atStart => exact ⟨0, 1, Nat.zero_le _, by omega, rfl, rfl, ⟨by simp [sizes]⟩, ⟨Below.refl _ _⟩⟩
    case round =>
      obtain ⟨i, m, hi, hg, rfl, rfl, HM, HW⟩ := hrel
      replace Kf := Lib.hid (blk_below Kf.out HW.out)
      replace Kg := Lib.hid (blk_below Kg.out HW.out)
      replace If := Lib.hid (If.out.below HW.out)
      replace Ig := Lib.hid (Ig.out.below HW.out)
      replace Lr := Lib.hid (Kd.C_below Lr.out HW.out)
      replace BW := Lib.hid (below_step BW.out HW.out)
      replace HW := Lib.hid HW.out
      replace HM := Lib.hid HM.out
      by_cases hlt : i < z.f4.length
      · have hk0 := hkid.out _ (List.getElem_mem hlt)
        have hk1 := hkt _ (List.getElem_mem hlt)
        have hk2 := sizes_totL z.f4[i]
        have HST := Lib.hid (sizes_take z.f4 i hlt)
        have hm9 : m ≤ 30000 := by have := HM.out; have := sizes_take_le z.f4 i; have := hsz.out; omega
        obtain ⟨adkl, KL_3, KL_c3, KL_4, KL_c4, e, g0, g1, g2, g3, g4, hk⟩ := kid_at Lr.out i hlt
        have Ikl := Lib.hid hk
        clear hk
        have Gkl0 := Lib.hid g0
        have Gkl1 := Lib.hid g1
        have Gkl2 := Lib.hid g2
        have Gkl3 := Lib.hid g3
        have Gkl4 := Lib.hid g4
        clear g0 g1 g2 g3 g4
        subst e
        have g0 := Gkl0.out
        have g1 := Gkl1.out
        have g2 := Gkl2.out
        have g3 := Gkl3.out
        have g4 := Gkl4.out
        go_wp2_with fail
        clear g0 g1 g2 g3 g4
        refine (implSize_any z.f4[i] _ _ _ _ _ Ikl.out (by omega)).mono ?_
        rintro e w5 ⟨rfl, b⟩
        replace Kf := Lib.hid (blk_below Kf.out b)
        replace Kg := Lib.hid (blk_below Kg.out b)
        replace If := Lib.hid (If.out.below b)
        replace Ig := Lib.hid (Ig.out.below b)
        replace Lr := Lib.hid (Kd.C_below Lr.out b)
        replace HW := Lib.hid (below_step HW.out b)
        replace Ikl := Lib.hid (Ikl.out.below b)
        replace Gkl0 := Lib.hid (ck0 b Gkl0.out)
        replace Gkl1 := Lib.hid (ck0 b Gkl1.out)
        replace Gkl2 := Lib.hid (ck0 b Gkl2.out)
        replace Gkl3 := Lib.hid (ck0 b Gkl3.out)
        replace Gkl4 := Lib.hid (ck0 b Gkl4.out)
        replace BW := Lib.hid (below_step BW.out b)
        clear b
        go_wp2_with fail
        obtain ⟨adkf, KF_3, KF_c3, KF_4, KF_c4, e, g0, g1, g2, g3, g4, hk⟩ := kid_at If.out.g4 i hlt
        have Ikf := Lib.hid hk
        clear hk
        have Gkf0 := Lib.hid g0
        have Gkf1 := Lib.hid g1
        have Gkf2 := Lib.hid g2
        have Gkf3 := Lib.hid g3
        have Gkf4 := Lib.hid g4
        clear g0 g1 g2 g3 g4
        subst e
        have b := below_drew (Below.refl w5.heap.size w5)
        replace Kf := Lib.hid (blk_below Kf.out b)
        replace Kg := Lib.hid (blk_below Kg.out b)
        replace If := Lib.hid (If.out.below b)
        replace Ig := Lib.hid (Ig.out.below b)
        replace Lr := Lib.hid (Kd.C_below Lr.out b)
        replace HW := Lib.hid (below_step HW.out b)
        replace Ikl := Lib.hid (Ikl.out.below b)
        replace Gkl0 := Lib.hid (ck0 b Gkl0.out)
        replace Gkl1 := Lib.hid (ck0 b Gkl1.out)
        replace Gkl2 := Lib.hid (ck0 b Gkl2.out)
        replace Gkl3 := Lib.hid (ck0 b Gkl3.out)
        replace Gkl4 := Lib.hid (ck0 b Gkl4.out)
        replace Ikf := Lib.hid (Ikf.out.below b)
        replace Gkf0 := Lib.hid (ck0 b Gkf0.out)
        replace Gkf1 := Lib.hid (ck0 b Gkf1.out)
        replace Gkf2 := Lib.hid (ck0 b Gkf2.out)
        replace Gkf3 := Lib.hid (ck0 b Gkf3.out)
        replace Gkf4 := Lib.hid (ck0 b Gkf4.out)
        replace BW := Lib.hid (below_step BW.out b)
        clear b
        obtain ⟨p0, p1, p2, p3, p4⟩ := fm_cells Kf.out
        refine start_ (n := 19) (S := (fun W : World => W.cell? ⟨w2.heap.size, 0, none⟩ = some (.int .i64 z.f0) ∧ W.cell? ⟨w2.heap.size, 1, none⟩ = some (.string z.f1) ∧ W.cell? ⟨w2.heap.size, 2, none⟩ = some (.int .i64 z.f2) ∧ W.cell? ⟨w2.heap.size, 3, none⟩ = some (.slice F_3 z.f3.length F_c3) ∧ W.cell? ⟨w2.heap.size, 4, none⟩ = some (.slice (some adkf) z.f4.length F_c4) ∧ W.cell? (adkf.add (i * 5)) = some (.int .i64 z.f4[i].f0) ∧ W.cell? ⟨(adkf.add (i * 5)).block, (adkf.add (i * 5)).off + 1, none⟩ = some (.string z.f4[i].f1) ∧ W.cell? ⟨(adkf.add (i * 5)).block, (adkf.add (i * 5)).off + 2, none⟩ = some (.int .i64 z.f4[i].f2) ∧ W.cell? ⟨(adkf.add (i * 5)).block, (adkf.add (i * 5)).off + 3, none⟩ = some (.slice KF_3 z.f4[i].f3.length KF_c3) ∧ W.cell? ⟨(adkf.add (i * 5)).block, (adkf.add (i * 5)).off + 4, none⟩ = some (.slice KF_4 z.f4[i].f4.length KF_c4) ∧ W.cell? (adkl.add (i * 5)) = some (.int .i64 z.f4[i].f0) ∧ W.cell? ⟨(adkl.add (i * 5)).block, (adkl.add (i * 5)).off + 1, none⟩ = some (.string z.f4[i].f1) ∧ W.cell? ⟨(adkl.add (i * 5)).block, (adkl.add (i * 5)).off + 2, none⟩ = some (.int .i64 z.f4[i].f2) ∧ W.cell? ⟨(adkl.add (i * 5)).block, (adkl.add (i * 5)).off + 3, none⟩ = some (.slice KL_3 z.f4[i].f3.length KL_c3) ∧ W.cell? ⟨(adkl.add (i * 5)).block, (adkl.add (i * 5)).off + 4, none⟩ = some (.slice KL_4 z.f4[i].f4.length KL_c4))) (ds := []) #[false, false, false, false, false, false, false, false, false, false, false, false, false, false, false, false, false, false, false] (by kernel_rfl) rfl rfl ⟨p0, p1, p2, p3, p4, Gkf0.out, Gkf1.out, Gkf2.out, Gkf3.out, Gkf4.out, Gkl0.out, Gkl1.out, Gkl2.out, Gkl3.out, Gkl4.out⟩ (fun hHeld => ?_)
        generalize World.drew _ = wd at Kf Kg If Ig BW Lr HW Ikl Gkl0 Gkl1 Gkl2 Gkl3 Gkl4 Ikf Gkf0 Gkf1 Gkf2 Gkf3 Gkf4 hHeld ⊢
        clear p0 p1 p2 p3 p4
        refine pure_ (i := 0) (N := some 59) (v := ?_) (a' := ?_) #[true, false, false, false, false, false, false, false, false, false, false, false, false, false, false, false, false, false, false] rfl rfl (by kernel_rfl) (fun _ _ _ h => h) (Or.inl ⟨by rfl, ?_⟩) ?_ ?_
        rotate_left
        · intro w'
          go_simp
          with_reducible rfl
        rotate_left
        · simp only [Act.put, List.setIfInBounds_toArray, List.set_cons_zero, List.set_cons_succ, i64_w, i32_w]
          rfl
        refine take_ (i := 1) (N := some 60) (v := ?_) (a' := ?_) #[true, true, false, false, false, false, false, false, false, false, false, false, false, false, false, false, false, false, false] rfl rfl (by kernel_rfl) (fun _ _ _ h => h) (Or.inl ⟨by rfl, ?_⟩) hHeld ?_ ?_
        rotate_left
        · rintro w' ⟨s0, s1, s2, s3, s4, s5, s6, s7, s8, s9, s10, s11, s12, s13, s14⟩
          go_simp
          with_reducible rfl
        rotate_left
        · simp only [Act.put, List.setIfInBounds_toArray, List.set_cons_zero, List.set_cons_succ, i64_w, i32_w]
          rfl
        refine pure_ (i := 2) (N := some 61) (v := ?_) (a' := ?_) #[true, true, true, false, false, false, false, false, false, false, false, false, false, false, false, false, false, false, false] rfl rfl (by kernel_rfl) (fun _ _ _ h => h) (Or.inl ⟨by rfl, ?_⟩) ?_ ?_
        rotate_left
        · intro w'
          go_simp
          with_reducible rfl
        rotate_left
        · simp only [Act.put, List.setIfInBounds_toArray, List.set_cons_zero, List.set_cons_succ, i64_w, i32_w]
          rfl
        refine pure_ (i := 3) (N := some 62) (v := ?_) (a' := ?_) #[true, true, true, true, false, false, false, false, false, false, false, false, false, false, false, false, false, false, false] rfl rfl (by kernel_rfl) (fun _ _ _ h => h) (Or.inl ⟨by rfl, ?_⟩) ?_ ?_
        rotate_left
        · intro w'
          go_simp
          with_reducible rfl
        rotate_left
        · simp only [Act.put, List.setIfInBounds_toArray, List.set_cons_zero, List.set_cons_succ, i64_w, i32_w]
          rfl
        refine take_ (i := 4) (N := some 63) (v := ?_) (a' := ?_) #[true, true, true, true, true, false, false, false, false, false, false, false, false, false, false, false, false, false, false] rfl rfl (by kernel_rfl) (fun _ _ _ h => h) (Or.inl ⟨by rfl, ?_⟩) hHeld ?_ ?_
        rotate_left
        · rintro w' ⟨s0, s1, s2, s3, s4, s5, s6, s7, s8, s9, s10, s11, s12, s13, s14⟩
          go_simp
          with_reducible rfl
        rotate_left
        · simp only [Act.put, List.setIfInBounds_toArray, List.set_cons_zero, List.set_cons_succ, i64_w, i32_w]
          rfl
        refine pure_ (i := 5) (N := some 64) (v := ?_) (a' := ?_) #[true, true, true, true, true, true, false, false, false, false, false, false, false, false, false, false, false, false, false] rfl rfl (by kernel_rfl) (fun _ _ _ h => h) (Or.inl ⟨by rfl, ?_⟩) ?_ ?_
        rotate_left
        · intro w'
          go_simp
          with_reducible rfl
        rotate_left
        · simp only [Act.put, List.setIfInBounds_toArray, List.set_cons_zero, List.set_cons_succ, i64_w, i32_w]
          rfl
        refine pure_ (i := 6) (N := some 65) (v := ?_) (a' := ?_) #[true, true, true, true, true, true, true, false, false, false, false, false, false, false, false, false, false, false, false] rfl rfl (by kernel_rfl) (fun _ _ _ h => h) (Or.inl ⟨by rfl, ?_⟩) ?_ ?_
        rotate_left
        · intro w'
          go_simp
          with_reducible rfl
        rotate_left
        · simp only [Act.put, List.setIfInBounds_toArray, List.set_cons_zero, List.set_cons_succ, i64_w, i32_w]
          rfl
        refine pure_ (i := 7) (N := some 66) (v := ?_) (a' := ?_) #[true, true, true, true, true, true, true, true, false, false, false, false, false, false, false, false, false, false, false] rfl rfl (by kernel_rfl) (fun _ _ _ h => h) (Or.inl ⟨by rfl, ?_⟩) ?_ ?_
        rotate_left
        · intro w'
          go_simp
          with_reducible rfl
        rotate_left
        · simp only [Act.put, List.setIfInBounds_toArray, List.set_cons_zero, List.set_cons_succ, i64_w, i32_w]
          rfl
        refine take_ (i := 8) (N := some 67) (v := ?_) (a' := ?_) #[true, true, true, true, true, true, true, true, true, false, false, false, false, false, false, false, false, false, false] rfl rfl (by kernel_rfl) (fun _ _ _ h => h) (Or.inl ⟨by rfl, ?_⟩) hHeld ?_ ?_
        rotate_left
        · rintro w' ⟨s0, s1, s2, s3, s4, s5, s6, s7, s8, s9, s10, s11, s12, s13, s14⟩
          go_simp
          with_reducible rfl
        rotate_left
        · simp only [Act.put, List.setIfInBounds_toArray, List.set_cons_zero, List.set_cons_succ, i64_w, i32_w]
          rfl
        refine one_ (i := 9) (N := some 68) #[true, true, true, true, true, true, true, true, true, true, false, false, false, false, false, false, false, false, false] rfl rfl (by kernel_rfl) (by decide) (fun K hK => ?_)
        refine goes_ Try.func44 (by kernel_rfl) rfl #[.agg #[.int .i64 z.f4[i].f0, .string z.f4[i].f1, .int .i64 z.f4[i].f2, .slice KF_3 z.f4[i].f3.length KF_c3, .slice KF_4 z.f4[i].f4.length KF_c4], .agg #[.int .i64 z.f4[i].f0, .string z.f4[i].f1, .int .i64 z.f4[i].f2, .slice KL_3 z.f4[i].f3.length KL_c3, .slice KL_4 z.f4[i].f4.length KL_c4]] (by rfl) rfl rfl (by (try simp only [List.map_toArray, List.map_cons, List.map_nil]); first | done | rfl) ?_
        refine (sameT z.f4[i] _ _ _ _ _ _ _ _ _ Ikf.out Ikl.out).mono ?_
        rintro e w6 ⟨rfl, b⟩
        replace Kf := Lib.hid (blk_below Kf.out b)
        replace Kg := Lib.hid (blk_below Kg.out b)
        replace If := Lib.hid (If.out.below b)
        replace Ig := Lib.hid (Ig.out.below b)
        replace Lr := Lib.hid (Kd.C_below Lr.out b)
        replace HW := Lib.hid (below_step HW.out b)
        replace Ikl := Lib.hid (Ikl.out.below b)
        replace Gkl0 := Lib.hid (ck0 b Gkl0.out)
        replace Gkl1 := Lib.hid (ck0 b Gkl1.out)
        replace Gkl2 := Lib.hid (ck0 b Gkl2.out)
        replace Gkl3 := Lib.hid (ck0 b Gkl3.out)
        replace Gkl4 := Lib.hid (ck0 b Gkl4.out)
        replace Ikf := Lib.hid (Ikf.out.below b)
        replace Gkf0 := Lib.hid (ck0 b Gkf0.out)
        replace Gkf1 := Lib.hid (ck0 b Gkf1.out)
        replace Gkf2 := Lib.hid (ck0 b Gkf2.out)
        replace Gkf3 := Lib.hid (ck0 b Gkf3.out)
        replace Gkf4 := Lib.hid (ck0 b Gkf4.out)
        replace BW := Lib.hid (below_step BW.out b)
        clear b
        refine ⟨_, rfl, ?_⟩
        obtain ⟨p0, p1, p2, p3, p4⟩ := fm_cells Kf.out
        refine hK.out _ _ ⟨p0, p1, p2, p3, p4, Gkf0.out, Gkf1.out, Gkf2.out, Gkf3.out, Gkf4.out, Gkl0.out, Gkl1.out, Gkl2.out, Gkl3.out, Gkl4.out⟩ (fun hHeld => ?_)
        clear hK K
        refine norm_ (a' := ?_) ?_ ?_
        rotate_left
        · show Act.put _ (some 68) _ = _
          simp only [Act.put, List.setIfInBounds_toArray, List.set_cons_zero, List.set_cons_succ, i64_w, i32_w]
          rfl
        clear p0 p1 p2 p3 p4
        refine pure_ (i := 10) (N := some 69) (v := ?_) (a' := ?_) #[true, true, true, true, true, true, true, true, true, true, true, false, false, false, false, false, false, false, false] rfl rfl (by kernel_rfl) (fun _ _ _ h => h) (Or.inl ⟨by rfl, ?_⟩) ?_ ?_
        rotate_left
        · intro w'
          go_simp
          with_reducible rfl
        rotate_left
        · simp only [Act.put, List.setIfInBounds_toArray, List.set_cons_zero, List.set_cons_succ, i64_w, i32_w]
          rfl
        refine pure_ (i := 11) (N := some 70) (v := ?_) (a' := ?_) #[true, true, true, true, true, true, true, true, true, true, true, true, false, false, false, false, false, false, false] rfl rfl (by kernel_rfl) (fun _ _ _ h => h) (Or.inl ⟨by rfl, ?_⟩) ?_ ?_
        rotate_left
        · intro w'
          go_simp
          with_reducible rfl
        rotate_left
        · simp only [Act.put, List.setIfInBounds_toArray, List.set_cons_zero, List.set_cons_succ, i64_w, i32_w]
          rfl
        refine pure_ (i := 12) (N := some 71) (v := ?_) (a' := ?_) #[true, true, true, true, true, true, true, true, true, true, true, true, true, false, false, false, false, false, false] rfl rfl (by kernel_rfl) (fun _ _ _ h => h) (Or.inl ⟨by rfl, ?_⟩) ?_ ?_
        rotate_left
        · intro w'
          go_simp
          with_reducible rfl
        rotate_left
        · simp only [Act.put, List.setIfInBounds_toArray, List.set_cons_zero, List.set_cons_succ, i64_w, i32_w]
          rfl
        refine pure_ (i := 13) (N := some 72) (v := ?_) (a' := ?_) #[true, true, true, true, true, true, true, true, true, true, true, true, true, true, false, false, false, false, false] rfl rfl (by kernel_rfl) (fun _ _ _ h => h) (Or.inl ⟨by rfl, ?_⟩) ?_ ?_
        rotate_left
        · intro w'
          go_simp
          with_reducible rfl
        rotate_left
        · simp only [Act.put, List.setIfInBounds_toArray, List.set_cons_zero, List.set_cons_succ, i64_w, i32_w]
          rfl
        refine pure_ (i := 14) (N := some 73) (v := ?_) (a' := ?_) #[true, true, true, true, true, true, true, true, true, true, true, true, true, true, true, false, false, false, false] rfl rfl (by kernel_rfl) (fun _ _ _ h => h) (Or.inl ⟨by rfl, ?_⟩) ?_ ?_
        rotate_left
        · intro w'
          go_simp
          with_reducible rfl
        rotate_left
        · simp only [Act.put, List.setIfInBounds_toArray, List.set_cons_zero, List.set_cons_succ, i64_w, i32_w]
          rfl
        refine take_ (i := 15) (N := some 74) (v := ?_) (a' := ?_) #[true, true, true, true, true, true, true, true, true, true, true, true, true, true, true, true, false, false, false] rfl rfl (by kernel_rfl) (fun _ _ _ h => h) (Or.inl ⟨by rfl, ?_⟩) hHeld ?_ ?_
        rotate_left
        · rintro w' ⟨s0, s1, s2, s3, s4, s5, s6, s7, s8, s9, s10, s11, s12, s13, s14⟩
          go_simp
          with_reducible rfl
        rotate_left
        · simp only [Act.put, List.setIfInBounds_toArray, List.set_cons_zero, List.set_cons_succ, i64_w, i32_w]
          rfl
        refine one_ (i := 16) (N := some 75) #[true, true, true, true, true, true, true, true, true, true, true, true, true, true, true, true, true, false, false] rfl rfl (by kernel_rfl) (by decide) (fun K hK => ?_)
        refine goes_ Try.func53 (by kernel_rfl) rfl #[.agg #[.int .i64 z.f4[i].f0, .string z.f4[i].f1, .int .i64 z.f4[i].f2, .slice KL_3 z.f4[i].f3.length KL_c3, .slice KL_4 z.f4[i].f4.length KL_c4]] (by rfl) rfl rfl (by (try simp only [List.map_toArray, List.map_cons, List.map_nil]); first | done | rfl) ?_
        refine (implValid' hk0 _ _ _ _ _ Ikl.out (by omega)).mono ?_
        rintro e w7 ⟨rfl, b⟩
        replace Kf := Lib.hid (blk_below Kf.out b)
        replace Kg := Lib.hid (blk_below Kg.out b)
        replace If := Lib.hid (If.out.below b)
        replace Ig := Lib.hid (Ig.out.below b)
        replace Lr := Lib.hid (Kd.C_below Lr.out b)
        replace HW := Lib.hid (below_step HW.out b)
        replace Ikl := Lib.hid (Ikl.out.below b)
        replace Gkl0 := Lib.hid (ck0 b Gkl0.out)
        replace Gkl1 := Lib.hid (ck0 b Gkl1.out)
        replace Gkl2 := Lib.hid (ck0 b Gkl2.out)
        replace Gkl3 := Lib.hid (ck0 b Gkl3.out)
        replace Gkl4 := Lib.hid (ck0 b Gkl4.out)
        replace Ikf := Lib.hid (Ikf.out.below b)
        replace Gkf0 := Lib.hid (ck0 b Gkf0.out)
        replace Gkf1 := Lib.hid (ck0 b Gkf1.out)
        replace Gkf2 := Lib.hid (ck0 b Gkf2.out)
        replace Gkf3 := Lib.hid (ck0 b Gkf3.out)
        replace Gkf4 := Lib.hid (ck0 b Gkf4.out)
        replace BW := Lib.hid (below_step BW.out b)
        clear b
        refine ⟨_, rfl, ?_⟩
        obtain ⟨p0, p1, p2, p3, p4⟩ := fm_cells Kf.out
        refine hK.out _ _ ⟨p0, p1, p2, p3, p4, Gkf0.out, Gkf1.out, Gkf2.out, Gkf3.out, Gkf4.out, Gkl0.out, Gkl1.out, Gkl2.out, Gkl3.out, Gkl4.out⟩ (fun hHeld => ?_)
        clear hK K
        refine norm_ (a' := ?_) ?_ ?_
        rotate_left
        · show Act.put _ (some 75) _ = _
          simp only [Act.put, List.setIfInBounds_toArray, List.set_cons_zero, List.set_cons_succ, i64_w, i32_w]
          rfl
        clear p0 p1 p2 p3 p4
        refine pure_ (i := 17) (N := some 76) (v := ?_) (a' := ?_) #[true, true, true, true, true, true, true, true, true, true, true, true, true, true, true, true, true, true, false] rfl rfl (by kernel_rfl) (fun _ _ _ h => h) (Or.inl ⟨by rfl, ?_⟩) ?_ ?_
        rotate_left
        · intro w'
          go_simp
          with_reducible rfl
        rotate_left
        · simp only [Act.put, List.setIfInBounds_toArray, List.set_cons_zero, List.set_cons_succ, i64_w, i32_w]
          rfl
        refine pure_ (i := 18) (N := some 77) (v := ?_) (a' := ?_) #[true, true, true, true, true, true, true, true, true, true, true, true, true, true, true, true, true, true, true] rfl rfl (by kernel_rfl) (fun _ _ _ h => h) (Or.inl ⟨by rfl, ?_⟩) ?_ ?_
        rotate_left
        · intro w'
          go_simp
          with_reducible rfl
        rotate_left
        · simp only [Act.put, List.setIfInBounds_toArray, List.set_cons_zero, List.set_cons_succ, i64_w, i32_w]
          rfl
        refine done_ (by kernel_rfl) ?_
        go_wp2_with fail
        go_roundg (z.f4.length - (i + 1))
        case measure => omega
        case rel => exact ⟨i + 1, m + z.f4[i].size, by omega, Nat.le_refl _, by go_num, by go_num, ⟨by have := HM.out; have := HST.out; omega⟩, ⟨HW.out⟩⟩
      · obtain rfl : i = z.f4.length := by omega
        obtain rfl : m = z.size := by have := HM.out; rw [List.take_length] at this; have := hsz.out; omega
        obtain ⟨p0, p1, p2, p3, p4⟩ := fm_cells Kf.out
        go_wp2_with fail
        clear p0 p1 p2 p3 p4
        refine (implValid' hvz _ _ _ _ _ If.out (by omega)).mono ?_
        rintro e w5 ⟨rfl, b⟩
        replace Kf := Lib.hid (blk_below Kf.out b)
        replace Kg := Lib.hid (blk_below Kg.out b)
        replace If := Lib.hid (If.out.below b)
        replace Ig := Lib.hid (Ig.out.below b)
        replace Lr := Lib.hid (Kd.C_below Lr.out b)
        replace HW := Lib.hid (below_step HW.out b)
        replace BW := Lib.hid (below_step BW.out b)
        clear b
        obtain ⟨p0, p1, p2, p3, p4⟩ := fm_cells Kf.out
        go_wp2_with fail
        clear p0 p1 p2 p3 p4
        refine (implSize_any z _ _ _ _ _ If.out (by omega)).mono ?_
        rintro e w6 ⟨rfl, b⟩
        replace Kf := Lib.hid (blk_below Kf.out b)
        replace Kg := Lib.hid (blk_below Kg.out b)
        replace If := Lib.hid (If.out.below b)
        replace Ig := Lib.hid (Ig.out.below b)
        replace Lr := Lib.hid (Kd.C_below Lr.out b)
        replace HW := Lib.hid (below_step HW.out b)
        replace BW := Lib.hid (below_step BW.out b)
        clear b
        obtain ⟨p0, p1, p2, p3, p4⟩ := fm_cells Kf.out
        go_wp2_with fail
        clear p0 p1 p2 p3 p4
        go_ret
        exact ⟨rfl, by repeat (first | exact BW.out | refine below_alloc ?_ _)⟩
end Go.Proofs.Ytlghpblifbaciaa
end
section
namespace Go.Proofs.Ytlghpblifbaciaa.fnListForm
open Go.ChangeShapes Go.WideShapes Go.ChangeAt Go.RowKit Go.Proofs.Ytlghpblifbaciaa
open Go.ChangeMaps (open_string shut_string)
set_option linter.unusedVariables false
theorem own : ownKnob Try.prog.godebug = none := by kernel_rfl
theorem laidOut : laidOutB Try.prog = true := by kernel_rfl
def IsRow (k : IntKind) (w : World) (a : Option Addr) (len cap : Nat) (zs : List Int) : Prop :=
  (a = none ∧ len = 0 ∧ cap = 0 ∧ zs = []) ∨
  ∃ x, a = some x ∧ len ≤ cap ∧ cap ≤ maxLen ∧ zs.length = cap ∧ (∀ i, i < zs.length → w.cell? (x.add i) = some (.int k (zs.getD i 0))) ∧ ∀ n ∈ zs, (Lit.int k n).wf = true
set_option maxRecDepth 100000 in
theorem lifted (os : Os) (started : os.Started) (H : Type) (enc : TypeId × Value → H) :
    ReturnsInHanded {} Try.checked os 14 .any (Rows.fnListFormSpec.pre6 enc Try.prog Try.f14 Rows.fnListFormRow.domain false) (Rows.fnListFormSpec.post enc Try.prog Try.f14 false true false false) := by
  refine returnsInHanded_of_change_sized (C := Try.checked) own started (by kernel_rfl) Try.func14
    (ChangeSpec.witness6 (enc := enc) (C := Try.checked) false ⟨#[], #[.slice none 0 0], []⟩ 8 (by kernel_rfl) (by kernel_rfl) (by kernel_rfl) (by kernel_rfl)) ?_
  intro W base args ds gs before hval0 hW hcnd hsz0 _
  have hsz : (DataW.weightsEach Try.prog (Try.f14.params.toList ++ Rows.fnListFormSpec.plain.varTypes Try.prog) (ds ++ gs)).all (· ≤ reachBytes) = true := hsz0
  have hval : ∀ (j : Nat) t v, Try.f14.params[j]? = some t → args[j]? = some v → Value.okWide Try.prog W .any base t v := hval0
  have hW' := hW
  obtain ⟨p, q, hA0, hV, rfl, hfz, hnd⟩ := hW
  have hA : DataW.TrodAll enc Try.prog W 0 (fun _ => true) true Try.f14.params.toList args.toList ds p := hA0
  rw [Try.params14] at hA hval hsz
  obtain ⟨v0, vs0, d0, ds0, p0, q0, hargs, rfl, rfl, h0, r0⟩ := trodAll_cons hA
  obtain ⟨rfl, rfl, rfl⟩ := trodAll_nil r0
  obtain rfl : args = #[v0] := by cases args; simp_all
  obtain ⟨rfl, rfl⟩ := trodVars_none hV
  obtain ⟨a0, len0, cap0, rfl⟩ := okWide_slice Try.underlying22 (hval 0 22 v0 rfl rfl)
  have k0 := h0
  have lt0 : ∀ x ∈ p0, x.block < W.heap.size := by obtain ⟨m, hm⟩ := k0; exact DataW.trod_lt m _ _ _ hm
  obtain ⟨z0, w0⟩ : ∃ zs, IsRow .u8 W a0 len0 cap0 zs := by
    obtain ⟨fuel, hf⟩ := h0
    rcases open_ints Try.underlying22 Try.underlying5 (by kernel_rfl) hf with ⟨hcs, _⟩ | ⟨x, l, c, zs, hcs, _, hl, hm, hz, _, hcell, hwz⟩
    · simp [Value.cells] at hcs
      obtain ⟨rfl, rfl, rfl⟩ := hcs
      exact ⟨[], .inl ⟨rfl, rfl, rfl, rfl⟩⟩
    · simp [Value.cells] at hcs
      obtain ⟨rfl, rfl, rfl⟩ := hcs
      exact ⟨zs, .inr ⟨_, rfl, hl, hm, by simpa using hz, hcell, hwz⟩⟩
  have y0 : len0 * 1 ≤ 140737488351232 := Go.Proofs.YtlghpblifbaciaaW.PrintWords.sized_ints hsz (j := 0) (t := 22) rfl rfl Try.underlying22 Try.underlying5 (by kernel_rfl) (by kernel_rfl) h0
  obtain ⟨l0, rfl, hr0, hm0, hw0, hc0⟩ := Go.Proofs.YtlghpblifbaciaaW.PrintWords.ReadsInt.ofRowC w0
  clear hA0 hval0 hsz0 hsz
  refine (fnListForm_walk _ _ l0 W (Go.Proofs.YtlghpblifbaciaaW.PrintWords.Kd.C_of_reads (d := (0 : Int)) (h1 := fun _ => rfl) hr0) hc0 y0 hw0).mono fun e W' ⟨he, bel⟩ => ?_
  subst he
  exact ⟨_, rfl, _, _, _, [], _, [], hW', trodAll_mk1 (shut_bool Try.underlying4 _), (trodAll_cons_mk (Below.trod laidOut (by kernel_rfl) (of_decide_eq_true (by kernel_rfl)) k0 bel lt0) trodAll_mk0), rfl, bel.frame _, fun h => by cases h⟩
set_option maxRecDepth 100000 in
theorem closed : joinedFacts Try.prog 14 Try.f14 Rows.fnListFormSpec Rows.fnListFormRow = true := by
  unfold joinedFacts
  refine Bool.and_eq_true_iff.2 ⟨Bool.and_eq_true_iff.2 ⟨Bool.and_eq_true_iff.2 ⟨Bool.and_eq_true_iff.2 ⟨Bool.and_eq_true_iff.2 ⟨Bool.and_eq_true_iff.2 ⟨Bool.and_eq_true_iff.2 ⟨?_, mayEnter_yes⟩, (congrArg (fun b => Rows.fnListFormRow.lifted == b) liftsFinal_no).trans (by kernel_rfl)⟩, (congrArg (fun b => b == some Rows.fnListFormRow.make) make_cut).trans (by kernel_rfl)⟩, ?_⟩, ?_⟩, ?_⟩, ?_⟩
  all_goals kernel_rfl
theorem over : Rows.fnListFormRow.holds Try.pinned (OpenSpec.ofChange Rows.fnListFormSpec) :=
  OpenClaim.holds_of_wide 14 Try.f14 rfl rfl rfl rfl rfl rfl rfl ⟨rfl, rfl, rfl, rfl, rfl⟩ rfl rfl rfl rfl rfl (by kernel_rfl) Try.func14 closed
    (of_decide_eq_true (by kernel_rfl)) (by unfold Func.isWrapper; first | (rw [if_pos (by decide +kernel)]; kernel_rfl) | (rw [if_neg (by decide +kernel)]; exact ⟨rfl, rfl⟩))
    (fun os started H enc _ => lifted os started H enc)
end Go.Proofs.Ytlghpblifbaciaa.fnListForm
namespace Go.Proofs.Ytlghpblifbaciaa
/-- The row. -/
theorem fnListForm_holds : Rows.FnListFormSaid := fnListForm.over
#print axioms fnListForm_holds
end Go.Proofs.Ytlghpblifbaciaa
end
