/- The forms of two lists are equal where the lists are. For every input the law FnListSame returns true, and leaves its input alone. No condition. -/
import Derived.Below
import Derived.ChangeOld
import Derived.JoinedOf
import Derived.KernelRfl
import Derived.OpenShut
import Derived.ProofKit
import Derived.RowKit3
import Derived.ShutString
import Derived.SizedLaws
import Derived.Test.YtlghpblifbaciaaRows
import Derived.WalkKit
import Derived.Test.YtlghpblifbaciaaPl1
import Derived.Test.YtlghpblifbaciaaPl4
section
namespace Go.Proofs.Ytlghpblifbaciaa
open Go.RowKit Go.Proofs.YtlghpblifbaciaaW.PrintWords Go.Proofs.YtlghpblifbaciaaW.PrintLast Go.Proofs.YtlghpblifbaciaaW.PrintMore
set_option linter.unusedVariables false
set_option linter.unusedSimpArgs false
set_option maxHeartbeats 4000000 in
set_option maxRecDepth 100000 in
theorem fnListSame_walk (A0 : Option Addr) (c0 : Nat) (l0 : List Int) (A1 : Option Addr) (c1 : Nat) (l1 : List Int) (w : World)
    (hr0 : (Kd.int .u8).C w A0 l0.length l0) (hc0 : l0.length ≤ c0) (y0 : l0.length * 1 ≤ 140737488351232) (hw0 : ∀ n ∈ l0, (Lit.int .u8 n).wf = true)
    (hr1 : (Kd.int .u8).C w A1 l1.length l1) (hc1 : l1.length ≤ c1) (y1 : l1.length * 1 ≤ 140737488351232) (hw1 : ∀ n ∈ l1, (Lit.int .u8 n).wf = true) :
    Calls Try.prog 13 #[.slice A0 l0.length c0, .slice A1 l1.length c1] w fun e w' => e = .returned (.bool true) ∧ Below w.heap.size w w' := by
  by_cases g0 : l0.length ≤ 1048576
  rotate_left
  · have t0 : decide ((l0.length : Int) > 1048576) = true := decide_eq_true (by omega)
    have t0' : decide (1048576 < l0.length) = true := decide_eq_true (by omega)
    go_enter Try.func13, Try.ntmps13
    go_wp2_with fail
    go_ret
    exact ⟨rfl, Below.refl _ _⟩
  by_cases g1 : l1.length ≤ 1048576
  rotate_left
  · have t0 : decide ((l0.length : Int) > 1048576) = false := decide_eq_false (by omega)
    have t0' : decide (1048576 < l0.length) = false := decide_eq_false (by omega)
    have t1 : decide ((l1.length : Int) > 1048576) = true := decide_eq_true (by omega)
    have t1' : decide (1048576 < l1.length) = true := decide_eq_true (by omega)
    go_enter Try.func13, Try.ntmps13
    go_wp2_with fail
    go_ret
    exact ⟨rfl, Below.refl _ _⟩
  obtain ⟨as_, hal, hat, D0⟩ := drawList l0 (fun z hz => byteOk (hw0 z hz))
  obtain ⟨bs, hbl, hbt, D1⟩ := drawList l1 (fun z hz => byteOk (hw1 z hz))
  have hlt0 := lf_tot hal hat
  have hlt1 := lf_tot hbl hbt
  rcases h1 : orN (lf as_) with ⟨z, b1⟩
  have hz := orN_tot (lf as_)
  rw [h1] at hz
  rcases h2 : orN (lf bs) with ⟨u, b2⟩
  have hu := orN_tot (lf bs)
  rw [h2] at hu
  replace D0 := Lib.hid D0
  replace D1 := Lib.hid D1
  have t0 : decide ((l0.length : Int) > 1048576) = false := decide_eq_false (by omega)
  have t0' : decide (1048576 < l0.length) = false := decide_eq_false (by omega)
  have t1 : decide ((l1.length : Int) > 1048576) = false := decide_eq_false (by omega)
  have t1' : decide (1048576 < l1.length) = false := decide_eq_false (by omega)
  go_enter Try.func13, Try.ntmps13
  go_wp2_with fail
  refine (D0.out A0 c0 _ hr0 hc0).mono ?_
  rintro e w1 ⟨v, rfl, hn, b⟩
  obtain ⟨aA, ac, rfl, hac, hC⟩ := NewL.C hn
  have La := Lib.hid hC
  clear hC hn
  have BW := Lib.hid b
  clear b
  go_wp2_with fail
  refine (D1.out A1 c1 _ (Kd.C_below hr1 BW.out) hc1).mono ?_
  rintro e w2 ⟨v, rfl, hn, b⟩
  obtain ⟨bA, bc, rfl, hbc, hC⟩ := NewL.C hn
  have Lb := Lib.hid hC
  clear hC hn
  replace La := Lib.hid (Kd.C_below La.out b)
  replace BW := Lib.hid (below_step BW.out b)
  clear b
  go_wp2_with fail
  refine (implList' h1 _ _ _ La.out hac (by omega)).mono ?_
  rintro e w3 ⟨X_3, X_c3, X_4, X_c4, rfl, i, b⟩
  have I := Lib.hid i
  clear i
  replace La := Lib.hid (Kd.C_below La.out b)
  replace Lb := Lib.hid (Kd.C_below Lb.out b)
  replace BW := Lib.hid (below_step BW.out b)
  clear b
  have Ix := Lib.hid I.out
  clear I
  go_wp2_with fail
  refine (specList' h1 _ _ _ (Kd.C_below La.out (below_new _ _)) hac (by omega)).mono ?_
  rintro e w4 ⟨G_3, G_c3, G_4, G_c4, rfl, i, b⟩
  have I := Lib.hid i
  clear i
  obtain ⟨k, b⟩ := one_new b
  replace Ix := Lib.hid (Ix.out.below b)
  replace La := Lib.hid (Kd.C_below La.out b)
  replace Lb := Lib.hid (Kd.C_below Lb.out b)
  replace BW := Lib.hid (below_step BW.out b)
  have Kx := Lib.hid k
  clear k
  clear b
  have Ig := Lib.hid I.out
  clear I
  obtain ⟨p0, p1, p2, p3, p4⟩ := fm_cells (blk_below Kx.out (below_new w4 (.cells #[.int .i64 z.f0, .string z.f1, .int .i64 z.f2, .slice G_3 z.f3.length G_c3, .slice G_4 z.f4.length G_c4] 31)))
  go_wp2_with fail
  clear p0 p1 p2 p3 p4
  refine (sameT z _ _ _ _ _ _ _ _ _ (Ix.out.below (below_new _ _)) (Ig.out.below (below_new _ _))).mono ?_
  rintro e w5 ⟨rfl, b⟩
  obtain ⟨k, b⟩ := one_new b
  replace Kx := Lib.hid (blk_below Kx.out b)
  replace Ix := Lib.hid (Ix.out.below b)
  replace Ig := Lib.hid (Ig.out.below b)
  replace La := Lib.hid (Kd.C_below La.out b)
  replace Lb := Lib.hid (Kd.C_below Lb.out b)
  replace BW := Lib.hid (below_step BW.out b)
  have Kg := Lib.hid k
  clear k
  clear b
  rcases b1 with _ | _
  · obtain ⟨p0, p1, p2, p3, p4⟩ := fm_cells Kx.out
    obtain ⟨q0, q1, q2, q3, q4⟩ := fm_cells Kg.out
    go_wp2_with fail
    clear p0 p1 p2 p3 p4 q0 q1 q2 q3 q4
    refine (sameT z _ _ _ _ _ _ _ _ _ Ix.out Ig.out).mono ?_
    rintro e w6 ⟨rfl, b⟩
    replace Kx := Lib.hid (blk_below Kx.out b)
    replace Kg := Lib.hid (blk_below Kg.out b)
    replace Ix := Lib.hid (Ix.out.below b)
    replace Ig := Lib.hid (Ig.out.below b)
    replace La := Lib.hid (Kd.C_below La.out b)
    replace Lb := Lib.hid (Kd.C_below Lb.out b)
    replace BW := Lib.hid (below_step BW.out b)
    clear b
    go_wp2_with fail
    go_ret
    exact ⟨rfl, by repeat (first | exact BW.out | refine below_alloc ?_ _)⟩
  · obtain ⟨p0, p1, p2, p3, p4⟩ := fm_cells Kx.out
    obtain ⟨q0, q1, q2, q3, q4⟩ := fm_cells Kg.out
    go_wp2_with fail
    clear p0 p1 p2 p3 p4 q0 q1 q2 q3 q4
    refine (implList' h2 _ _ _ Lb.out hbc (by omega)).mono ?_
    rintro e w6 ⟨Y_3, Y_c3, Y_4, Y_c4, rfl, i, b⟩
    have I := Lib.hid i
    clear i
    replace Kx := Lib.hid (blk_below Kx.out b)
    replace Kg := Lib.hid (blk_below Kg.out b)
    replace Ix := Lib.hid (Ix.out.below b)
    replace Ig := Lib.hid (Ig.out.below b)
    replace La := Lib.hid (Kd.C_below La.out b)
    replace Lb := Lib.hid (Kd.C_below Lb.out b)
    replace BW := Lib.hid (below_step BW.out b)
    clear b
    have Iy := Lib.hid I.out
    clear I
    rcases b2 with _ | _
    · go_wp2_with fail
      go_ret
      exact ⟨rfl, by repeat (first | exact BW.out | refine below_alloc ?_ _)⟩
    · obtain ⟨-, hzl⟩ := orN_true h1
      obtain ⟨-, hul⟩ := orN_true h2
      have ha : as_ = z.f4 := by rw [hzl]
      have hb : bs = u.f4 := by rw [hul]
      have hzu : z = u ↔ z.f4 = u.f4 := by rw [hzl, hul]; exact ⟨fun h => by injection h, fun h => congrArg lf (show as_ = bs from h)⟩
      clear h1 hzl h2 hul
      subst ha
      subst hb
      replace hzu := Lib.hid hzu
      obtain ⟨s0, hs0⟩ : ∃ s : Bool, (z.f4.length == u.f4.length) = s := ⟨_, rfl⟩
      have hs1 : ((z.f4.length : Int) == (u.f4.length : Int)) = s0 := by rw [← hs0]; exact Bool.eq_iff_iff.2 (by simp only [beq_iff_eq]; omega)
      have HS0 := Lib.hid hs0
      go_wp2_with fail
      clear hs0 hs1
      have b := Below.refl (w6.alloc (.cells #[.int .i64 u.f0, .string u.f1, .int .i64 u.f2, .slice Y_3 u.f3.length Y_c3, .slice Y_4 u.f4.length Y_c4] 31)).heap.size (w6.alloc (.cells #[.int .i64 u.f0, .string u.f1, .int .i64 u.f2, .slice Y_3 u.f3.length Y_c3, .slice Y_4 u.f4.length Y_c4] 31))
      obtain ⟨k, b⟩ := one_new b
      replace Kx := Lib.hid (blk_below Kx.out b)
      replace Kg := Lib.hid (blk_below Kg.out b)
      replace Ix := Lib.hid (Ix.out.below b)
      replace Ig := Lib.hid (Ig.out.below b)
      replace Iy := Lib.hid (Iy.out.below b)
      replace La := Lib.hid (Kd.C_below La.out b)
      replace Lb := Lib.hid (Kd.C_below Lb.out b)
      replace BW := Lib.hid (below_step BW.out b)
      have Ky := Lib.hid k
      clear k
      clear b
      generalize (w6.alloc (.cells #[.int .i64 u.f0, .string u.f1, .int .i64 u.f2, .slice Y_3 u.f3.length Y_c3, .slice Y_4 u.f4.length Y_c4] 31)) = wz at Kx Kg Ky Ix Ig Iy BW La Lb ⊢
      go_loopg [13, 14] z.f4.length (fun kq v13 v14 w' => ∃ (i : Nat) (s : Bool), i ≤ z.f4.length ∧ z.f4.length - i ≤ kq ∧ v14 = .int .i64 i ∧ v13 = .bool s ∧ Aside0 (SameTo z.f4 u.f4 i s) ∧ Aside0 (Below wz.heap.size wz w'))
      case atStart => exact ⟨0, s0, Nat.zero_le _, by omega, rfl, rfl, ⟨SameTo.start HS0.out⟩, ⟨Below.refl _ _⟩⟩
      case round =>
        obtain ⟨i, s, hi, hg, rfl, rfl, HM, HW⟩ := hrel
        replace Kx := Lib.hid (blk_below Kx.out HW.out)
        replace Kg := Lib.hid (blk_below Kg.out HW.out)
        replace Ky := Lib.hid (blk_below Ky.out HW.out)
        replace Ix := Lib.hid (Ix.out.below HW.out)
        replace Ig := Lib.hid (Ig.out.below HW.out)
        replace Iy := Lib.hid (Iy.out.below HW.out)
        replace La := Lib.hid (Kd.C_below La.out HW.out)
        replace Lb := Lib.hid (Kd.C_below Lb.out HW.out)
        replace BW := Lib.hid (below_step BW.out HW.out)
        replace HW := Lib.hid HW.out
        replace HM := Lib.hid HM.out
        by_cases hlt : i < z.f4.length
        · rcases s with _ | _
          · have hE : eqB z u = false := by rw [Bool.eq_false_iff]; intro h; exact HM.out.no (hzu.out.1 (eqB_iff.1 h))
            obtain ⟨p0, p1, p2, p3, p4⟩ := fm_cells Kx.out
            obtain ⟨q0, q1, q2, q3, q4⟩ := fm_cells Ky.out
            go_wp2_with fail
            clear p0 p1 p2 p3 p4 q0 q1 q2 q3 q4
            refine (hE ▸ implSame_any z u _ _ _ _ _ _ _ _ _ Ix.out Iy.out).mono ?_
            rintro e w7 ⟨rfl, b⟩
            replace Kx := Lib.hid (blk_below Kx.out b)
            replace Kg := Lib.hid (blk_below Kg.out b)
            replace Ky := Lib.hid (blk_below Ky.out b)
            replace Ix := Lib.hid (Ix.out.below b)
            replace Ig := Lib.hid (Ig.out.below b)
            replace Iy := Lib.hid (Iy.out.below b)
            replace La := Lib.hid (Kd.C_below La.out b)
            replace Lb := Lib.hid (Kd.C_below Lb.out b)
            replace HW := Lib.hid (below_step HW.out b)
            replace BW := Lib.hid (below_step BW.out b)
            clear b
            go_wp2_with fail
            go_ret
            exact ⟨rfl, by repeat (first | exact BW.out | refine below_alloc ?_ _)⟩
          · have hlt2 : i < u.f4.length := by have := HM.out.len; omega
            obtain ⟨q, hq⟩ : ∃ q : Bool, eqB z.f4[i] u.f4[i] = q := ⟨_, rfl⟩
            have HM2 := Lib.hid (HM.out.next hlt hlt2 hq)
            go_wp2_with fail
            obtain ⟨adka, KA_3, KA_c3, KA_4, KA_c4, e, g0, g1, g2, g3, g4, hk⟩ := kid_at La.out i hlt
            have Ika := Lib.hid hk
            clear hk
            have Gka0 := Lib.hid g0
            have Gka1 := Lib.hid g1
            have Gka2 := Lib.hid g2
            have Gka3 := Lib.hid g3
            have Gka4 := Lib.hid g4
            clear g0 g1 g2 g3 g4
            subst e
            obtain ⟨adkb, KB_3, KB_c3, KB_4, KB_c4, e, g0, g1, g2, g3, g4, hk⟩ := kid_at Lb.out i hlt2
            have Ikb := Lib.hid hk
            clear hk
            have Gkb0 := Lib.hid g0
            have Gkb1 := Lib.hid g1
            have Gkb2 := Lib.hid g2
            have Gkb3 := Lib.hid g3
            have Gkb4 := Lib.hid g4
            clear g0 g1 g2 g3 g4
            subst e
            have b := below_drew (Below.refl wr.heap.size wr)
            replace Kx := Lib.hid (blk_below Kx.out b)
            replace Kg := Lib.hid (blk_below Kg.out b)
            replace Ky := Lib.hid (blk_below Ky.out b)
            replace Ix := Lib.hid (Ix.out.below b)
            replace Ig := Lib.hid (Ig.out.below b)
            replace Iy := Lib.hid (Iy.out.below b)
            replace La := Lib.hid (Kd.C_below La.out b)
            replace Lb := Lib.hid (Kd.C_below Lb.out b)
            replace HW := Lib.hid (below_step HW.out b)
            replace Ika := Lib.hid (Ika.out.below b)
            replace Gka0 := Lib.hid (ck0 b Gka0.out)
            replace Gka1 := Lib.hid (ck0 b Gka1.out)
            replace Gka2 := Lib.hid (ck0 b Gka2.out)
            replace Gka3 := Lib.hid (ck0 b Gka3.out)
            replace Gka4 := Lib.hid (ck0 b Gka4.out)
            replace Ikb := Lib.hid (Ikb.out.below b)
            replace Gkb0 := Lib.hid (ck0 b Gkb0.out)
            replace Gkb1 := Lib.hid (ck0 b Gkb1.out)
            replace Gkb2 := Lib.hid (ck0 b Gkb2.out)
            replace Gkb3 := Lib.hid (ck0 b Gkb3.out)
            replace Gkb4 := Lib.hid (ck0 b Gkb4.out)
            replace BW := Lib.hid (below_step BW.out b)
            clear b
            refine start_ (n := 10) (S := (fun W : World => W.cell? (adka.add (i * 5)) = some (.int .i64 z.f4[i].f0) ∧ W.cell? ⟨(adka.add (i * 5)).block, (adka.add (i * 5)).off + 1, none⟩ = some (.string z.f4[i].f1) ∧ W.cell? ⟨(adka.add (i * 5)).block, (adka.add (i * 5)).off + 2, none⟩ = some (.int .i64 z.f4[i].f2) ∧ W.cell? ⟨(adka.add (i * 5)).block, (adka.add (i * 5)).off + 3, none⟩ = some (.slice KA_3 z.f4[i].f3.length KA_c3) ∧ W.cell? ⟨(adka.add (i * 5)).block, (adka.add (i * 5)).off + 4, none⟩ = some (.slice KA_4 z.f4[i].f4.length KA_c4) ∧ W.cell? (adkb.add (i * 5)) = some (.int .i64 u.f4[i].f0) ∧ W.cell? ⟨(adkb.add (i * 5)).block, (adkb.add (i * 5)).off + 1, none⟩ = some (.string u.f4[i].f1) ∧ W.cell? ⟨(adkb.add (i * 5)).block, (adkb.add (i * 5)).off + 2, none⟩ = some (.int .i64 u.f4[i].f2) ∧ W.cell? ⟨(adkb.add (i * 5)).block, (adkb.add (i * 5)).off + 3, none⟩ = some (.slice KB_3 u.f4[i].f3.length KB_c3) ∧ W.cell? ⟨(adkb.add (i * 5)).block, (adkb.add (i * 5)).off + 4, none⟩ = some (.slice KB_4 u.f4[i].f4.length KB_c4))) (ds := []) #[false, false, false, false, false, false, false, false, false, false] (by kernel_rfl) rfl rfl ⟨Gka0.out, Gka1.out, Gka2.out, Gka3.out, Gka4.out, Gkb0.out, Gkb1.out, Gkb2.out, Gkb3.out, Gkb4.out⟩ (fun hHeld => ?_)
            generalize World.drew _ = wd at Kx Kg Ky Ix Ig Iy BW La Lb HW Ika Gka0 Gka1 Gka2 Gka3 Gka4 Ikb Gkb0 Gkb1 Gkb2 Gkb3 Gkb4 hHeld ⊢
            refine pure_ (i := 0) (N := some 79) (v := ?_) (a' := ?_) #[true, false, false, false, false, false, false, false, false, false] rfl rfl (by kernel_rfl) (fun _ _ _ h => h) (Or.inl ⟨by rfl, ?_⟩) ?_ ?_
            rotate_left
            · intro w'
              go_simp
              with_reducible rfl
            rotate_left
            · simp only [Act.put, List.setIfInBounds_toArray, List.set_cons_zero, List.set_cons_succ, i64_w, i32_w]
              rfl
            refine pure_ (i := 1) (N := some 80) (v := ?_) (a' := ?_) #[true, true, false, false, false, false, false, false, false, false] rfl rfl (by kernel_rfl) (fun _ _ _ h => h) (Or.inl ⟨by rfl, ?_⟩) ?_ ?_
            rotate_left
            · intro w'
              go_simp
              with_reducible rfl
            rotate_left
            · simp only [Act.put, List.setIfInBounds_toArray, List.set_cons_zero, List.set_cons_succ, i64_w, i32_w]
              rfl
            refine pure_ (i := 2) (N := some 81) (v := ?_) (a' := ?_) #[true, true, true, false, false, false, false, false, false, false] rfl rfl (by kernel_rfl) (fun _ _ _ h => h) (Or.inl ⟨by rfl, ?_⟩) ?_ ?_
            rotate_left
            · intro w'
              go_simp
              with_reducible rfl
            rotate_left
            · simp only [Act.put, List.setIfInBounds_toArray, List.set_cons_zero, List.set_cons_succ, i64_w, i32_w]
              rfl
            refine take_ (i := 3) (N := some 82) (v := ?_) (a' := ?_) #[true, true, true, true, false, false, false, false, false, false] rfl rfl (by kernel_rfl) (fun _ _ _ h => h) (Or.inl ⟨by rfl, ?_⟩) hHeld ?_ ?_
            rotate_left
            · rintro w' ⟨s0, s1, s2, s3, s4, s5, s6, s7, s8, s9⟩
              go_simp
              with_reducible rfl
            rotate_left
            · simp only [Act.put, List.setIfInBounds_toArray, List.set_cons_zero, List.set_cons_succ, i64_w, i32_w]
              rfl
            refine pure_ (i := 4) (N := some 83) (v := ?_) (a' := ?_) #[true, true, true, true, true, false, false, false, false, false] rfl rfl (by kernel_rfl) (fun _ _ _ h => h) (Or.inl ⟨by rfl, ?_⟩) ?_ ?_
            rotate_left
            · intro w'
              go_simp
              with_reducible rfl
            rotate_left
            · simp only [Act.put, List.setIfInBounds_toArray, List.set_cons_zero, List.set_cons_succ, i64_w, i32_w]
              rfl
            refine pure_ (i := 5) (N := some 84) (v := ?_) (a' := ?_) #[true, true, true, true, true, true, false, false, false, false] rfl rfl (by kernel_rfl) (fun _ _ _ h => h) (Or.inl ⟨by rfl, ?_⟩) ?_ ?_
            rotate_left
            · intro w'
              go_simp
              with_reducible rfl
            rotate_left
            · simp only [Act.put, List.setIfInBounds_toArray, List.set_cons_zero, List.set_cons_succ, i64_w, i32_w]
              rfl
            refine pure_ (i := 6) (N := some 85) (v := ?_) (a' := ?_) #[true, true, true, true, true, true, true, false, false, false] rfl rfl (by kernel_rfl) (fun _ _ _ h => h) (Or.inl ⟨by rfl, ?_⟩) ?_ ?_
            rotate_left
            · intro w'
              go_simp
              with_reducible rfl
            rotate_left
            · simp only [Act.put, List.setIfInBounds_toArray, List.set_cons_zero, List.set_cons_succ, i64_w, i32_w]
              rfl
            refine take_ (i := 7) (N := some 86) (v := ?_) (a' := ?_) #[true, true, true, true, true, true, true, true, false, false] rfl rfl (by kernel_rfl) (fun _ _ _ h => h) (Or.inl ⟨by rfl, ?_⟩) hHeld ?_ ?_
            rotate_left
            · rintro w' ⟨s0, s1, s2, s3, s4, s5, s6, s7, s8, s9⟩
              go_simp
              with_reducible rfl
            rotate_left
            · simp only [Act.put, List.setIfInBounds_toArray, List.set_cons_zero, List.set_cons_succ, i64_w, i32_w]
              rfl
            refine one_ (i := 8) (N := some 87) #[true, true, true, true, true, true, true, true, true, false] rfl rfl (by kernel_rfl) (by decide) (fun K hK => ?_)
            refine goes_ Try.func44 (by kernel_rfl) rfl #[.agg #[.int .i64 z.f4[i].f0, .string z.f4[i].f1, .int .i64 z.f4[i].f2, .slice KA_3 z.f4[i].f3.length KA_c3, .slice KA_4 z.f4[i].f4.length KA_c4], .agg #[.int .i64 u.f4[i].f0, .string u.f4[i].f1, .int .i64 u.f4[i].f2, .slice KB_3 u.f4[i].f3.length KB_c3, .slice KB_4 u.f4[i].f4.length KB_c4]] (by rfl) rfl rfl (by (try simp only [List.map_toArray, List.map_cons, List.map_nil]); first | done | rfl) ?_
            refine (hq ▸ implSame_any z.f4[i] u.f4[i] _ _ _ _ _ _ _ _ _ Ika.out Ikb.out).mono ?_
            rintro e w7 ⟨rfl, b⟩
            replace Kx := Lib.hid (blk_below Kx.out b)
            replace Kg := Lib.hid (blk_below Kg.out b)
            replace Ky := Lib.hid (blk_below Ky.out b)
            replace Ix := Lib.hid (Ix.out.below b)
            replace Ig := Lib.hid (Ig.out.below b)
            replace Iy := Lib.hid (Iy.out.below b)
            replace La := Lib.hid (Kd.C_below La.out b)
            replace Lb := Lib.hid (Kd.C_below Lb.out b)
            replace HW := Lib.hid (below_step HW.out b)
            replace Ika := Lib.hid (Ika.out.below b)
            replace Gka0 := Lib.hid (ck0 b Gka0.out)
            replace Gka1 := Lib.hid (ck0 b Gka1.out)
            replace Gka2 := Lib.hid (ck0 b Gka2.out)
            replace Gka3 := Lib.hid (ck0 b Gka3.out)
            replace Gka4 := Lib.hid (ck0 b Gka4.out)
            replace Ikb := Lib.hid (Ikb.out.below b)
            replace Gkb0 := Lib.hid (ck0 b Gkb0.out)
            replace Gkb1 := Lib.hid (ck0 b Gkb1.out)
            replace Gkb2 := Lib.hid (ck0 b Gkb2.out)
            replace Gkb3 := Lib.hid (ck0 b Gkb3.out)
            replace Gkb4 := Lib.hid (ck0 b Gkb4.out)
            replace BW := Lib.hid (below_step BW.out b)
            clear b
            refine ⟨_, rfl, ?_⟩
            refine hK.out _ _ ⟨Gka0.out, Gka1.out, Gka2.out, Gka3.out, Gka4.out, Gkb0.out, Gkb1.out, Gkb2.out, Gkb3.out, Gkb4.out⟩ (fun hHeld => ?_)
            clear hK K
            refine norm_ (a' := ?_) ?_ ?_
            rotate_left
            · show Act.put _ (some 87) _ = _
              simp only [Act.put, List.setIfInBounds_toArray, List.set_cons_zero, List.set_cons_succ, i64_w, i32_w]
              rfl
            refine pure_ (i := 9) (N := some 13) (v := ?_) (a' := ?_) #[true, true, true, true, true, true, true, true, true, true] rfl rfl (by kernel_rfl) (fun _ _ _ h => h) (Or.inl ⟨by rfl, ?_⟩) ?_ ?_
            rotate_left
            · intro w'
              go_simp
              with_reducible rfl
            rotate_left
            · simp only [Act.put, List.setIfInBounds_toArray, List.set_cons_zero, List.set_cons_succ, i64_w, i32_w]
              rfl
            refine done_ (by kernel_rfl) ?_
            go_wp2_with fail
            go_roundg (z.f4.length - (i + 1))
            case measure => omega
            case rel => exact ⟨i + 1, q, by omega, Nat.le_refl _, by go_num, rfl, ⟨HM2.out⟩, ⟨HW.out⟩⟩
        · rcases s with _ | _
          · have hE : eqB z u = false := by rw [Bool.eq_false_iff]; intro h; exact HM.out.no (hzu.out.1 (eqB_iff.1 h))
            obtain ⟨p0, p1, p2, p3, p4⟩ := fm_cells Kx.out
            obtain ⟨q0, q1, q2, q3, q4⟩ := fm_cells Ky.out
            go_wp2_with fail
            clear p0 p1 p2 p3 p4 q0 q1 q2 q3 q4
            refine (hE ▸ implSame_any z u _ _ _ _ _ _ _ _ _ Ix.out Iy.out).mono ?_
            rintro e w7 ⟨rfl, b⟩
            replace Kx := Lib.hid (blk_below Kx.out b)
            replace Kg := Lib.hid (blk_below Kg.out b)
            replace Ky := Lib.hid (blk_below Ky.out b)
            replace Ix := Lib.hid (Ix.out.below b)
            replace Ig := Lib.hid (Ig.out.below b)
            replace Iy := Lib.hid (Iy.out.below b)
            replace La := Lib.hid (Kd.C_below La.out b)
            replace Lb := Lib.hid (Kd.C_below Lb.out b)
            replace HW := Lib.hid (below_step HW.out b)
            replace BW := Lib.hid (below_step BW.out b)
            clear b
            go_wp2_with fail
            go_ret
            exact ⟨rfl, by repeat (first | exact BW.out | refine below_alloc ?_ _)⟩
          · have hE : eqB z u = true := eqB_iff.2 (hzu.out.2 (HM.out.yes (by omega)))
            obtain ⟨p0, p1, p2, p3, p4⟩ := fm_cells Kx.out
            obtain ⟨q0, q1, q2, q3, q4⟩ := fm_cells Ky.out
            go_wp2_with fail
            clear p0 p1 p2 p3 p4 q0 q1 q2 q3 q4
            refine (hE ▸ implSame_any z u _ _ _ _ _ _ _ _ _ Ix.out Iy.out).mono ?_
            rintro e w7 ⟨rfl, b⟩
            replace Kx := Lib.hid (blk_below Kx.out b)
            replace Kg := Lib.hid (blk_below Kg.out b)
            replace Ky := Lib.hid (blk_below Ky.out b)
            replace Ix := Lib.hid (Ix.out.below b)
            replace Ig := Lib.hid (Ig.out.below b)
            replace Iy := Lib.hid (Iy.out.below b)
            replace La := Lib.hid (Kd.C_below La.out b)
            replace Lb := Lib.hid (Kd.C_below Lb.out b)
            replace HW := Lib.hid (below_step HW.out b)
            replace BW := Lib.hid (below_step BW.out b)
            clear b
            go_wp2_with fail
            go_ret
            exact ⟨rfl, by repeat (first | exact BW.out | refine below_alloc ?_ _)⟩
end Go.Proofs.Ytlghpblifbaciaa
end
section
namespace Go.Proofs.Ytlghpblifbaciaa.fnListSame
open Go.ChangeShapes Go.WideShapes Go.ChangeAt Go.RowKit Go.Proofs.Ytlghpblifbaciaa
open Go.ChangeMaps (open_string shut_string)
set_option linter.unusedVariables false
theorem own : ownKnob Try.prog.godebug = none := by kernel_rfl
theorem laidOut : laidOutB Try.prog = true := by kernel_rfl
def IsRow (k : IntKind) (w : World) (a : Option Addr) (len cap : Nat) (zs : List Int) : Prop :=
  (a = none ∧ len = 0 ∧ cap = 0 ∧ zs = []) ∨
  ∃ x, a = some x ∧ len ≤ cap ∧ cap ≤ maxLen ∧ zs.length = cap ∧ (∀ i, i < zs.length → w.cell? (x.add i) = some (.int k (zs.getD i 0))) ∧ ∀ n ∈ zs, (Lit.int k n).wf = true
set_option maxRecDepth 100000 in
theorem lifted (os : Os) (started : os.Started) (H : Type) (enc : TypeId × Value → H) :
    ReturnsInHanded {} Try.checked os 13 .any (Rows.fnListSameSpec.pre6 enc Try.prog Try.f13 Rows.fnListSameRow.domain false) (Rows.fnListSameSpec.post enc Try.prog Try.f13 false true false false) := by
  refine returnsInHanded_of_change_sized (C := Try.checked) own started (by kernel_rfl) Try.func13
    (ChangeSpec.witness6 (enc := enc) (C := Try.checked) false ⟨#[], #[.slice none 0 0, .slice none 0 0], []⟩ 8 (by kernel_rfl) (by kernel_rfl) (by kernel_rfl) (by kernel_rfl)) ?_
  intro W base args ds gs before hval0 hW hcnd hsz0 _
  have hsz : (DataW.weightsEach Try.prog (Try.f13.params.toList ++ Rows.fnListSameSpec.plain.varTypes Try.prog) (ds ++ gs)).all (· ≤ reachBytes) = true := hsz0
  have hval : ∀ (j : Nat) t v, Try.f13.params[j]? = some t → args[j]? = some v → Value.okWide Try.prog W .any base t v := hval0
  have hW' := hW
  obtain ⟨p, q, hA0, hV, rfl, hfz, hnd⟩ := hW
  have hA : DataW.TrodAll enc Try.prog W 0 (fun _ => true) true Try.f13.params.toList args.toList ds p := hA0
  rw [Try.params13] at hA hval hsz
  obtain ⟨v0, vs0, d0, ds0, p0, q0, hargs, rfl, rfl, h0, r0⟩ := trodAll_cons hA
  obtain ⟨v1, vs1, d1, ds1, p1, q1, rfl, rfl, rfl, h1, r1⟩ := trodAll_cons r0
  obtain ⟨rfl, rfl, rfl⟩ := trodAll_nil r1
  obtain rfl : args = #[v0, v1] := by cases args; simp_all
  obtain ⟨rfl, rfl⟩ := trodVars_none hV
  obtain ⟨a0, len0, cap0, rfl⟩ := okWide_slice Try.underlying22 (hval 0 22 v0 rfl rfl)
  have k0 := h0
  have lt0 : ∀ x ∈ p0, x.block < W.heap.size := by obtain ⟨m, hm⟩ := k0; exact DataW.trod_lt m _ _ _ hm
  obtain ⟨z0, w0⟩ : ∃ zs, IsRow .u8 W a0 len0 cap0 zs := by
    obtain ⟨fuel, hf⟩ := h0
    rcases open_ints Try.underlying22 Try.underlying5 (by kernel_rfl) hf with ⟨hcs, _⟩ | ⟨x, l, c, zs, hcs, _, hl, hm, hz, _, hcell, hwz⟩
    · simp [Value.cells] at hcs
      obtain ⟨rfl, rfl, rfl⟩ := hcs
      exact ⟨[], .inl ⟨rfl, rfl, rfl, rfl⟩⟩
    · simp [Value.cells] at hcs
      obtain ⟨rfl, rfl, rfl⟩ := hcs
      exact ⟨zs, .inr ⟨_, rfl, hl, hm, by simpa using hz, hcell, hwz⟩⟩
  have y0 : len0 * 1 ≤ 140737488351232 := Go.Proofs.YtlghpblifbaciaaW.PrintWords.sized_ints hsz (j := 0) (t := 22) rfl rfl Try.underlying22 Try.underlying5 (by kernel_rfl) (by kernel_rfl) h0
  obtain ⟨l0, rfl, hr0, hm0, hw0, hc0⟩ := Go.Proofs.YtlghpblifbaciaaW.PrintWords.ReadsInt.ofRowC w0
  obtain ⟨a1, len1, cap1, rfl⟩ := okWide_slice Try.underlying22 (hval 1 22 v1 rfl rfl)
  have k1 := h1
  have lt1 : ∀ x ∈ p1, x.block < W.heap.size := by obtain ⟨m, hm⟩ := k1; exact DataW.trod_lt m _ _ _ hm
  obtain ⟨z1, w1⟩ : ∃ zs, IsRow .u8 W a1 len1 cap1 zs := by
    obtain ⟨fuel, hf⟩ := h1
    rcases open_ints Try.underlying22 Try.underlying5 (by kernel_rfl) hf with ⟨hcs, _⟩ | ⟨x, l, c, zs, hcs, _, hl, hm, hz, _, hcell, hwz⟩
    · simp [Value.cells] at hcs
      obtain ⟨rfl, rfl, rfl⟩ := hcs
      exact ⟨[], .inl ⟨rfl, rfl, rfl, rfl⟩⟩
    · simp [Value.cells] at hcs
      obtain ⟨rfl, rfl, rfl⟩ := hcs
      exact ⟨zs, .inr ⟨_, rfl, hl, hm, by simpa using hz, hcell, hwz⟩⟩
  have y1 : len1 * 1 ≤ 140737488351232 := Go.Proofs.YtlghpblifbaciaaW.PrintWords.sized_ints hsz (j := 1) (t := 22) rfl rfl Try.underlying22 Try.underlying5 (by kernel_rfl) (by kernel_rfl) h1
  obtain ⟨l1, rfl, hr1, hm1, hw1, hc1⟩ := Go.Proofs.YtlghpblifbaciaaW.PrintWords.ReadsInt.ofRowC w1
  clear hA0 hval0 hsz0 hsz
  refine (fnListSame_walk _ _ l0 _ _ l1 W (Go.Proofs.YtlghpblifbaciaaW.PrintWords.Kd.C_of_reads (d := (0 : Int)) (h1 := fun _ => rfl) hr0) hc0 y0 hw0 (Go.Proofs.YtlghpblifbaciaaW.PrintWords.Kd.C_of_reads (d := (0 : Int)) (h1 := fun _ => rfl) hr1) hc1 y1 hw1).mono fun e W' ⟨he, bel⟩ => ?_
  subst he
  exact ⟨_, rfl, _, _, _, [], _, [], hW', trodAll_mk1 (shut_bool Try.underlying4 _), (trodAll_cons_mk (Below.trod laidOut (by kernel_rfl) (of_decide_eq_true (by kernel_rfl)) k0 bel lt0) (trodAll_cons_mk (Below.trod laidOut (by kernel_rfl) (of_decide_eq_true (by kernel_rfl)) k1 bel lt1) trodAll_mk0)), rfl, bel.frame _, fun h => by cases h⟩
set_option maxRecDepth 100000 in
theorem closed : joinedFacts Try.prog 13 Try.f13 Rows.fnListSameSpec Rows.fnListSameRow = true := by
  unfold joinedFacts
  refine Bool.and_eq_true_iff.2 ⟨Bool.and_eq_true_iff.2 ⟨Bool.and_eq_true_iff.2 ⟨Bool.and_eq_true_iff.2 ⟨Bool.and_eq_true_iff.2 ⟨Bool.and_eq_true_iff.2 ⟨Bool.and_eq_true_iff.2 ⟨?_, mayEnter_yes⟩, (congrArg (fun b => Rows.fnListSameRow.lifted == b) liftsFinal_no).trans (by kernel_rfl)⟩, (congrArg (fun b => b == some Rows.fnListSameRow.make) make_cut).trans (by kernel_rfl)⟩, ?_⟩, ?_⟩, ?_⟩, ?_⟩
  all_goals kernel_rfl
theorem over : Rows.fnListSameRow.holds Try.pinned (OpenSpec.ofChange Rows.fnListSameSpec) :=
  OpenClaim.holds_of_wide 13 Try.f13 rfl rfl rfl rfl rfl rfl rfl ⟨rfl, rfl, rfl, rfl, rfl⟩ rfl rfl rfl rfl rfl (by kernel_rfl) Try.func13 closed
    (of_decide_eq_true (by kernel_rfl)) (by unfold Func.isWrapper; first | (rw [if_pos (by decide +kernel)]; kernel_rfl) | (rw [if_neg (by decide +kernel)]; exact ⟨rfl, rfl⟩))
    (fun os started H enc _ => lifted os started H enc)
end Go.Proofs.Ytlghpblifbaciaa.fnListSame
namespace Go.Proofs.Ytlghpblifbaciaa
/-- The row. -/
theorem fnListSame_holds : Rows.FnListSameSaid := fnListSame.over
#print axioms fnListSame_holds
end Go.Proofs.Ytlghpblifbaciaa
end
