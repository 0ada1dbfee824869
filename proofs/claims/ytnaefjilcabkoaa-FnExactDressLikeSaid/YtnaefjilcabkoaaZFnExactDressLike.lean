/- The program's DressLike returns what the reference's returns, in memory of its own. For every input the law FnExactDressLike returns true, and leaves its input alone. No condition. -/
import Derived.Below
import Derived.ChangeOld
import Derived.Deep.RegionHeld3
import Derived.JoinedOf
import Derived.KernelRfl
import Derived.OpenShut
import Derived.ProofKit
import Derived.RowKit3
import Derived.ShutString
import Derived.SizedLaws
import Derived.Test.YtnaefjilcabkoaaRows
import Derived.WalkKit
import Derived.Test.YtnaefjilcabkoaaKe1
import Derived.Test.YtnaefjilcabkoaaKe2
import Derived.Test.YtnaefjilcabkoaaKe3
section
namespace Go.Proofs.Ytnaefjilcabkoaa
open Go.RowKit Go.Proofs.YtnaefjilcabkoaaW.PrintWords Go.Proofs.YtnaefjilcabkoaaW.PrintLast Go.Proofs.YtnaefjilcabkoaaW.PrintMore
set_option linter.unusedVariables false
set_option linter.unusedSimpArgs false
set_option maxHeartbeats 8000000 in
set_option maxRecDepth 100000 in
theorem fnExactDressLike_walk (x : Fm) (A3 : Option Addr) (Ac3 : Nat) (A4 : Option Addr) (Ac4 : Nat) (m : Fm) (B3 : Option Addr) (Bc3 : Nat) (B4 : Option Addr) (Bc4 : Nat) (w : World) (hin : FmIn w x A3 Ac3 A4 Ac4) (hnm : NmSmall x) (hinm : FmIn w m B3 Bc3 B4 Bc4) (hnmm : NmSmall m) :
    Calls Try.prog 7 #[.agg #[.int .i64 x.f0, .string x.f1, .int .i64 x.f2, .slice A3 x.f3.length Ac3, .slice A4 x.f4.length Ac4], .agg #[.int .i64 m.f0, .string m.f1, .int .i64 m.f2, .slice B3 m.f3.length Bc3, .slice B4 m.f4.length Bc4]] w fun e w' => e = .returned (.bool true) ∧ Below w.heap.size w w' := by
  have HZ := Lib.hid (fun W hb => szForm_any x A3 Ac3 A4 Ac4 1048576 W (hin.below hb) hnm (by omega) (by omega))
  have HZ2 := Lib.hid (fun W hb (hq : x.tot ≤ 1048576) => szForm_any m B3 Bc3 B4 Bc4 (1048576 - (x.tot : Int)) W (hinm.below hb) hnmm (by omega) (by omega))
  rcases hz : dressR m x with ⟨z, b⟩
  have hzt : z.tot ≤ 20000 := by have := dressTot m x; rw [hz] at this; exact this
  have HZT := Lib.hid (And.intro hz hzt)
  clear hz hzt
  have HI := Lib.hid hin
  have HJ := Lib.hid hinm
  clear hin hinm
  go_enter Try.func7, Try.ntmps7
  go_wp2_with fail
  refine (HZ.out _ (below_step (below_new _ _) (below_new _ _))).mono ?_
  rintro e w1 ⟨rfl, hb1⟩
  obtain ⟨k1, l1, b1⟩ := two_new hb1
  have KA := Lib.hid k1
  have KB := Lib.hid l1
  have BW := Lib.hid b1
  clear hb1 k1 l1 b1 HZ
  by_cases hq : x.tot ≤ 1048576
  rotate_left
  · rw [szR_no (by omega)]
    have hd2 : decide ((-1 : Int) < 0) = true := by simp
    go_wp2_with fail
    go_ret
    exact ⟨rfl, BW.out⟩
  rw [szR_yes (by omega)]
  have hd : decide ((1048576 : Int) - (x.tot : Int) < 0) = false := decide_eq_false (by omega)
  obtain ⟨p0, p1, p2, p3, p4⟩ := fm_cells KB.out
  go_wp2_with fail
  clear p0 p1 p2 p3 p4
  refine (HZ2.out _ BW.out hq).mono ?_
  rintro e w2 ⟨rfl, bb⟩
  replace KA := Lib.hid (blk_below KA.out bb)
  replace KB := Lib.hid (blk_below KB.out bb)
  replace BW := Lib.hid (below_step BW.out bb)
  clear bb HZ2
  by_cases hq2 : (m.tot : Int) ≤ 1048576 - (x.tot : Int)
  rotate_left
  · rw [szR_no (by omega)]
    have hd2 : decide ((-1 : Int) < 0) = true := by simp
    go_wp2_with fail
    go_ret
    exact ⟨rfl, BW.out⟩
  rw [szR_yes hq2]
  have hd2 : decide ((1048576 : Int) - (x.tot : Int) - (m.tot : Int) < 0) = false := decide_eq_false (by omega)
  have hqm : m.tot ≤ 1048576 := by omega
  go_wp2_with fail
  have bD := below_drew (Below.refl w2.heap.size w2)
  have HB := Lib.hid bD
  clear bD
  have KAr := Lib.hid (KA.out)
  have KBr := Lib.hid (KB.out)
  refine start_ (n := 11) (S := (fun W : World => W.cell? ⟨w.heap.size, 0, none⟩ = some (.int .i64 x.f0) ∧ W.cell? ⟨w.heap.size, 1, none⟩ = some (.string x.f1) ∧ W.cell? ⟨w.heap.size, 2, none⟩ = some (.int .i64 x.f2) ∧ W.cell? ⟨w.heap.size, 3, none⟩ = some (.slice A3 x.f3.length Ac3) ∧ W.cell? ⟨w.heap.size, 4, none⟩ = some (.slice A4 x.f4.length Ac4) ∧ W.cell? ⟨w.heap.size + 1, 0, none⟩ = some (.int .i64 m.f0) ∧ W.cell? ⟨w.heap.size + 1, 1, none⟩ = some (.string m.f1) ∧ W.cell? ⟨w.heap.size + 1, 2, none⟩ = some (.int .i64 m.f2) ∧ W.cell? ⟨w.heap.size + 1, 3, none⟩ = some (.slice B3 m.f3.length Bc3) ∧ W.cell? ⟨w.heap.size + 1, 4, none⟩ = some (.slice B4 m.f4.length Bc4))) (ds := []) #[false, false, false, false, false, false, false, false, false, false, false] (by kernel_rfl) rfl rfl ⟨(fm_cells (blk_below KAr.out HB.out)).1, (fm_cells (blk_below KAr.out HB.out)).2.1, (fm_cells (blk_below KAr.out HB.out)).2.2.1, (fm_cells (blk_below KAr.out HB.out)).2.2.2.1, (fm_cells (blk_below KAr.out HB.out)).2.2.2.2, (fm_cells (blk_below KBr.out HB.out)).1, (fm_cells (blk_below KBr.out HB.out)).2.1, (fm_cells (blk_below KBr.out HB.out)).2.2.1, (fm_cells (blk_below KBr.out HB.out)).2.2.2.1, (fm_cells (blk_below KBr.out HB.out)).2.2.2.2⟩ (fun hHeld => ?_)
  generalize World.drew _ = wd at HB hHeld ⊢
  refine take_ (i := 0) (N := some 28) (v := ?_) (a' := ?_) #[true, false, false, false, false, false, false, false, false, false, false] rfl rfl (by kernel_rfl) (fun _ _ _ h => h) (Or.inl ⟨by rfl, ?_⟩) hHeld ?_ ?_
  rotate_left
  · rintro w' ⟨s0, s1, s2, s3, s4, s5, s6, s7, s8, s9⟩
    go_simp
    with_reducible rfl
  rotate_left
  · simp only [Act.put, List.setIfInBounds_toArray, List.set_cons_zero, List.set_cons_succ, i64_w, i32_w]
    rfl
  refine take_ (i := 2) (N := some 30) (v := ?_) (a' := ?_) #[true, false, true, false, false, false, false, false, false, false, false] rfl rfl (by kernel_rfl) (fun _ _ _ h => h) (Or.inl ⟨by rfl, ?_⟩) hHeld ?_ ?_
  rotate_left
  · rintro w' ⟨s0, s1, s2, s3, s4, s5, s6, s7, s8, s9⟩
    go_simp
    with_reducible rfl
  rotate_left
  · simp only [Act.put, List.setIfInBounds_toArray, List.set_cons_zero, List.set_cons_succ, i64_w, i32_w]
    rfl
  refine join_ (σ := Value × Value × Value × Nat) 2 #[true, true, true, true, true, true, true, true, true, false, false] (fun s_ => [(29, s_.1), (31, s_.2.1), (32, (.tuple #[s_.2.2.1, .bool b])), (27, (.tuple #[s_.2.2.1, .bool b])), (33, s_.2.2.1), (34, .bool b), (6, .pointer (some ⟨s_.2.2.2, 0, none⟩))]) (fun s_ w' => Below w2.heap.size w2 w' ∧ w'.heap[s_.2.2.2]? = some (.cells #[.int .i64 0, .string ⟨#[]⟩, .int .i64 0, .slice none 0 0, .slice none 0 0] 29) ∧ w2.heap.size ≤ s_.2.2.2 ∧ ∃ (U3 : Option Addr) (Uc3 : Nat) (U4 : Option Addr) (Uc4 : Nat), s_.2.2.1 = .agg #[.int .i64 z.f0, .string z.f1, .int .i64 z.f2, .slice U3 z.f3.length Uc3, .slice U4 z.f4.length Uc4] ∧ FmP (fun b => b ≠ s_.2.2.2) w' z U3 Uc3 U4 Uc4) ?_ ?_
  · rintro ⟨vP, vR, vU, gU⟩ wj ⟨HB', hbox, hge, U3, Uc3, U4, Uc4, hvU, hP⟩
    simp only at hbox hge hvU hP
    subst hvU
    replace HB := Lib.hid HB'
    clear HB'
    refine norm_ (a' := ?_) ?_ ?_
    rotate_left
    · simp only [putAll, Act.put, List.setIfInBounds_toArray, List.set_cons_zero, List.set_cons_succ]
      rfl
    obtain ⟨z0, z1, z2, z3, z4⟩ := fm_cells hbox
    obtain ⟨f0, f1, f2, f3, f4⟩ := fm_free hbox
    obtain ⟨st1, st2, st3⟩ := st5 hbox (.int .i64 z.f0) (.string z.f1) (.int .i64 z.f2) (.slice U3 z.f3.length Uc3) (.slice U4 z.f4.length Uc4)
    have HX := Lib.hid (st3 _ _ HB.out hge)
    have IN := Lib.hid ((hP.move (st3 0 _ (Below.refl 0 _) (Nat.zero_le _)).size (fun b h1 _ => st2 b h1)).now)
    have KN := Lib.hid st1
    have HGE := Lib.hid hge
    clear hbox st1 st2 st3 hP hge
    refine one_ (i := 9) (N := none) #[true, true, true, true, true, true, true, true, true, true, false] rfl rfl (by kernel_rfl) (by decide) (fun K hK => ?_)
    refine skip_ (w1 := ?_) (by rfl) rfl ?_ ?_
    rotate_left
    · go_simp
      rfl
    refine hK.out _ _ ⟨(fm_cells (blk_below KAr.out HX.out)).1, (fm_cells (blk_below KAr.out HX.out)).2.1, (fm_cells (blk_below KAr.out HX.out)).2.2.1, (fm_cells (blk_below KAr.out HX.out)).2.2.2.1, (fm_cells (blk_below KAr.out HX.out)).2.2.2.2, (fm_cells (blk_below KBr.out HX.out)).1, (fm_cells (blk_below KBr.out HX.out)).2.1, (fm_cells (blk_below KBr.out HX.out)).2.2.1, (fm_cells (blk_below KBr.out HX.out)).2.2.2.1, (fm_cells (blk_below KBr.out HX.out)).2.2.2.2⟩ (fun hHeld => ?_)
    clear hK K z0 z1 z2 z3 z4 f0 f1 f2 f3 f4
    generalize World.setCell (World.setCell (World.setCell (World.setCell (World.setCell wj _ _) _ _) _ _) _ _) _ _ = wxU at HX IN KN hHeld ⊢
    refine pure_ (i := 10) (N := some 7) (v := ?_) (a' := ?_) #[true, true, true, true, true, true, true, true, true, true, true] rfl rfl (by kernel_rfl) (fun _ _ _ h => h) (Or.inl ⟨by rfl, ?_⟩) ?_ ?_
    rotate_left
    · intro w'
      go_simp
      with_reducible rfl
    rotate_left
    · simp only [Act.put, List.setIfInBounds_toArray, List.set_cons_zero, List.set_cons_succ, i64_w, i32_w]
      rfl
    refine done_ (by kernel_rfl) ?_
    clear hHeld HB KAr KBr
    have KU := Lib.hid KN.out
    have IU := Lib.hid IN.out
    replace KA := Lib.hid (blk_below KA.out HX.out)
    replace KB := Lib.hid (blk_below KB.out HX.out)
    replace BW := Lib.hid (below_step BW.out HX.out)
    clear KN IN HX HGE
    obtain ⟨p0, p1, p2, p3, p4⟩ := fm_cells KA.out
    go_wp2_with fail
    clear p0 p1 p2 p3 p4
    refine (toFormO x A3 Ac3 A4 Ac4 wxU (HI.out.below BW.out) hq).mono ?_
    rintro e w4 ⟨X3, Xc3, X4, Xc4, fx, rfl, ox, bb⟩
    have OX := Lib.hid ox
    have BX := Lib.hid bb
    have HS1 := Lib.hid (show wxU.heap.size ≤ w4.heap.size from bb.size)
    clear ox bb
    obtain ⟨p0, p1, p2, p3, p4⟩ := fm_cells (blk_below (blk_below KB.out BX.out) (below_new w4 (.cells #[.int .i64 x.f0, .string x.f1, .int .i64 x.f2, .slice X3 x.f3.length Xc3, .slice X4 x.f4.length Xc4] 29)))
    go_wp2_with fail
    clear p0 p1 p2 p3 p4
    refine (toFormO m B3 Bc3 B4 Bc4 _ (HJ.out.below (below_step (below_step BW.out BX.out) (below_new _ _))) hqm).mono ?_
    rintro e w5 ⟨Y3, Yc3, Y4, Yc4, fy, rfl, oy, bb⟩
    obtain ⟨kx, bb⟩ := one_new bb
    obtain ⟨ly, hly, oy⟩ : ∃ ly, w4.heap.size + 1 ≤ ly ∧ Own ly w5.heap.size w5 m (.slice Y3 m.f3.length Yc3) (.slice Y4 m.f4.length Yc4) fy := ⟨_, by simp, oy⟩
    have KX := Lib.hid kx
    have OY := Lib.hid oy
    replace OX := Lib.hid (OX.out.later bb)
    replace BX := Lib.hid (below_step BX.out bb)
    have HS2 := Lib.hid (show w4.heap.size + 1 ≤ ly ∧ w4.heap.size ≤ w5.heap.size from ⟨hly, bb.size⟩)
    clear kx oy bb hly
    have bn := below_new w5 (.cells #[.int .i64 m.f0, .string m.f1, .int .i64 m.f2, .slice Y3 m.f3.length Yc3, .slice Y4 m.f4.length Yc4] 29)
    obtain ⟨p0, p1, p2, p3, p4⟩ := fm_cells (blk_below KX.out bn)
    go_wp2_with fail
    clear p0 p1 p2 p3 p4
    refine (implDressO HZT.out.1 X3 Xc3 X4 Xc4 Y3 Yc3 Y4 Yc4 _ (OX.out.now.below bn) (OY.out.now.below bn) hq hqm).mono ?_
    rintro e w6 ⟨G3, Gc3, G4, Gc4, fg, rfl, og, bb⟩
    obtain ⟨ky, bb⟩ := one_new bb
    obtain ⟨lo, hlo, og⟩ : ∃ lo, w5.heap.size + 1 ≤ lo ∧ Own lo w6.heap.size w6 z (.slice G3 z.f3.length Gc3) (.slice G4 z.f4.length Gc4) fg := ⟨_, by simp, og⟩
    have KY := Lib.hid ky
    have OG := Lib.hid og
    replace KX := Lib.hid (blk_below KX.out bb)
    replace OX := Lib.hid (OX.out.later bb)
    replace OY := Lib.hid (OY.out.later bb)
    replace BX := Lib.hid (below_step BX.out bb)
    have HS3 := Lib.hid (show w5.heap.size + 1 ≤ lo ∧ w5.heap.size ≤ w6.heap.size from ⟨hlo, bb.size⟩)
    clear ky og bb hlo bn
    have bn := below_new w6 (.cells #[.int .i64 z.f0, .string z.f1, .int .i64 z.f2, .slice G3 z.f3.length Gc3, .slice G4 z.f4.length Gc4] 29)
    obtain ⟨p0, p1, p2, p3, p4⟩ := fm_cells (blk_below (blk_below KU.out BX.out) bn)
    go_wp2_with fail
    clear p0 p1 p2 p3 p4
    refine (eqForm_any z z G3 Gc3 G4 Gc4 U3 Uc3 U4 Uc4 _ (OG.out.now.below bn) ((IU.out.below BX.out).below bn)).mono ?_
    rintro e w7 ⟨rfl, bb⟩
    obtain ⟨kg, bb⟩ := one_new bb
    have KG := Lib.hid kg
    clear kg bn
    replace KX := Lib.hid (blk_below KX.out bb)
    replace KY := Lib.hid (blk_below KY.out bb)
    replace OX := Lib.hid (OX.out.later bb)
    replace OY := Lib.hid (OY.out.later bb)
    replace OG := Lib.hid (OG.out.later bb)
    replace BX := Lib.hid (below_step BX.out bb)
    clear bb
    rw [eqB_self]
    have hne : (b != b) = false := by simp
    obtain ⟨p0, p1, p2, p3, p4⟩ := fm_cells (blk_below KA.out BX.out)
    obtain ⟨q0, q1, q2, q3, q4⟩ := fm_cells KX.out
    go_wp2_with fail
    go_region_held3 (fun W => W.cell? ⟨w.heap.size, 0, none⟩ = some (.int .i64 x.f0) ∧ W.cell? ⟨w.heap.size, 1, none⟩ = some (.string x.f1) ∧ W.cell? ⟨w.heap.size, 2, none⟩ = some (.int .i64 x.f2) ∧ W.cell? ⟨w.heap.size, 3, none⟩ = some (.slice A3 x.f3.length Ac3) ∧ W.cell? ⟨w.heap.size, 4, none⟩ = some (.slice A4 x.f4.length Ac4) ∧ W.cell? ⟨w4.heap.size, 0, none⟩ = some (.int .i64 x.f0) ∧ W.cell? ⟨w4.heap.size, 1, none⟩ = some (.string x.f1) ∧ W.cell? ⟨w4.heap.size, 2, none⟩ = some (.int .i64 x.f2) ∧ W.cell? ⟨w4.heap.size, 3, none⟩ = some (.slice X3 x.f3.length Xc3) ∧ W.cell? ⟨w4.heap.size, 4, none⟩ = some (.slice X4 x.f4.length Xc4)) (first | go_keep | exact keepTen (below_step (Below.refl _ _).drew hba) ⟨p0, p1, p2, p3, p4, q0, q1, q2, q3, q4⟩ | exact keepTen (below_step (below_step (Below.refl _ _).drew hba) hbs) ⟨p0, p1, p2, p3, p4, q0, q1, q2, q3, q4⟩)
      ((first
        | (go_at_call 16; refine (toFormO x A3 Ac3 A4 Ac4 _ (HI.out.below (below_step BW.out BX.out).drew) hq).mono ?_; rintro e wa ⟨V3, Vc3, V4, Vc4, fv, rfl, ov, hba⟩)
        | (go_at_call 18; refine (eqForm_any x x _ _ _ _ _ _ _ _ _ (OX.out.now.below (below_step (Below.refl _ _).drew hba)) ov.now).mono ?_; rintro e ws1 ⟨rfl, hbs⟩)))
    have bb := below_step (below_step (Below.refl _ _).drew hba) hbs
    clear p0 p1 p2 p3 p4 q0 q1 q2 q3 q4
    replace KX := Lib.hid (blk_below KX.out bb)
    replace KY := Lib.hid (blk_below KY.out bb)
    replace OX := Lib.hid (OX.out.later bb)
    replace OY := Lib.hid (OY.out.later bb)
    replace OG := Lib.hid (OG.out.later bb)
    replace BX := Lib.hid (below_step BX.out bb)
    replace KG := Lib.hid (blk_below KG.out bb)
    clear bb hba hbs ov
    rw [eqB_self]
    obtain ⟨p0, p1, p2, p3, p4⟩ := fm_cells (blk_below KB.out BX.out)
    obtain ⟨q0, q1, q2, q3, q4⟩ := fm_cells KY.out
    go_wp2_with fail
    go_region_held3 (fun W => W.cell? ⟨w.heap.size + 1, 0, none⟩ = some (.int .i64 m.f0) ∧ W.cell? ⟨w.heap.size + 1, 1, none⟩ = some (.string m.f1) ∧ W.cell? ⟨w.heap.size + 1, 2, none⟩ = some (.int .i64 m.f2) ∧ W.cell? ⟨w.heap.size + 1, 3, none⟩ = some (.slice B3 m.f3.length Bc3) ∧ W.cell? ⟨w.heap.size + 1, 4, none⟩ = some (.slice B4 m.f4.length Bc4) ∧ W.cell? ⟨w5.heap.size, 0, none⟩ = some (.int .i64 m.f0) ∧ W.cell? ⟨w5.heap.size, 1, none⟩ = some (.string m.f1) ∧ W.cell? ⟨w5.heap.size, 2, none⟩ = some (.int .i64 m.f2) ∧ W.cell? ⟨w5.heap.size, 3, none⟩ = some (.slice Y3 m.f3.length Yc3) ∧ W.cell? ⟨w5.heap.size, 4, none⟩ = some (.slice Y4 m.f4.length Yc4)) (first | go_keep | exact keepTen (below_step (Below.refl _ _).drew hba) ⟨p0, p1, p2, p3, p4, q0, q1, q2, q3, q4⟩ | exact keepTen (below_step (below_step (Below.refl _ _).drew hba) hbs) ⟨p0, p1, p2, p3, p4, q0, q1, q2, q3, q4⟩)
      ((first
        | (go_at_call 16; refine (toFormO m B3 Bc3 B4 Bc4 _ (HJ.out.below (below_step BW.out BX.out).drew) hqm).mono ?_; rintro e wa ⟨V3, Vc3, V4, Vc4, fv, rfl, ov, hba⟩)
        | (go_at_call 18; refine (eqForm_any m m _ _ _ _ _ _ _ _ _ (OY.out.now.below (below_step (Below.refl _ _).drew hba)) ov.now).mono ?_; rintro e ws2 ⟨rfl, hbs⟩)))
    have bb := below_step (below_step (Below.refl _ _).drew hba) hbs
    clear p0 p1 p2 p3 p4 q0 q1 q2 q3 q4
    replace KX := Lib.hid (blk_below KX.out bb)
    replace KY := Lib.hid (blk_below KY.out bb)
    replace OX := Lib.hid (OX.out.later bb)
    replace OY := Lib.hid (OY.out.later bb)
    replace OG := Lib.hid (OG.out.later bb)
    replace BX := Lib.hid (below_step BX.out bb)
    replace KG := Lib.hid (blk_below KG.out bb)
    clear bb hba hbs ov
    rw [eqB_self]
    obtain ⟨p0, p1, p2, p3, p4⟩ := fm_cells KX.out
    go_wp2_with fail
    clear p0 p1 p2 p3 p4
    refine (markForm_own 1 OX.out (by omega) (by omega)).mono ?_
    rintro e w8 ⟨rfl, _, hm⟩
    replace BX := Lib.hid (BX.out.trans (hm.below BX.out.size (Nat.le_refl _)))
    replace OG := Lib.hid (hm.own OG.out (.inl (by have := HS2.out; have := HS3.out; omega)))
    replace OY := Lib.hid (hm.own OY.out (.inl (by have := HS2.out; omega)))
    replace KG := Lib.hid (hm.blk KG.out (.inr (by have := HS2.out; have := HS3.out; omega)))
    replace KY := Lib.hid (hm.blk KY.out (.inr HS2.out.2))
    clear hm OX KX
    have hcx := x.cnt_tot
    have hcm := m.cnt_tot
    obtain ⟨p0, p1, p2, p3, p4⟩ := fm_cells KY.out
    go_wp2_with fail
    clear p0 p1 p2 p3 p4
    refine (markForm_own (1 + (x.cnt : Int)) OY.out (by omega) (by omega)).mono ?_
    rintro e w9 ⟨rfl, _, hm⟩
    replace BX := Lib.hid (BX.out.trans (hm.below BX.out.size (by have := HS1.out; have := HS2.out; omega)))
    replace OG := Lib.hid (hm.own OG.out (.inl (by have := HS3.out; omega)))
    replace KG := Lib.hid (hm.blk KG.out (.inr HS3.out.2))
    clear hm OY KY hcx hcm
    have hk : decide ((1 : Int) + (x.cnt : Int) + (m.cnt : Int) < 0) = false := decide_eq_false (by omega)
    obtain ⟨p0, p1, p2, p3, p4⟩ := fm_cells (blk_below KU.out BX.out)
    obtain ⟨q0, q1, q2, q3, q4⟩ := fm_cells KG.out
    go_wp2_with fail
    clear p0 p1 p2 p3 p4 q0 q1 q2 q3 q4
    refine (eqForm_any z z G3 Gc3 G4 Gc4 U3 Uc3 U4 Uc4 _ OG.out.now (IU.out.below BX.out)).mono ?_
    rintro e w10 ⟨rfl, bb⟩
    replace OG := Lib.hid (OG.out.later bb)
    replace KG := Lib.hid (blk_below KG.out bb)
    replace BX := Lib.hid (below_step BX.out bb)
    clear bb
    rw [eqB_self]
    obtain ⟨p0, p1, p2, p3, p4⟩ := fm_cells KG.out
    go_wp2_with fail
    clear p0 p1 p2 p3 p4
    refine (markForm_own 1 OG.out (by omega) (by have := HZT.out.2; omega)).mono ?_
    rintro e w11 ⟨rfl, om, hm⟩
    have OM := Lib.hid om
    replace BX := Lib.hid (BX.out.trans (hm.below BX.out.size (by have := HS1.out; have := HS2.out; have := HS3.out; omega)))
    replace KG := Lib.hid (hm.blk KG.out (.inr (Nat.le_refl _)))
    clear hm om OG
    have hk2 : decide ((1 : Int) + (z.cnt : Int) < 0) = false := decide_eq_false (by omega)
    have hk3 : (((1 : Int) + (z.cnt : Int)) != (1 + (z.cnt : Int))) = false := by simp
    obtain ⟨p0, p1, p2, p3, p4⟩ := fm_cells KG.out
    go_wp2_with fail
    clear p0 p1 p2 p3 p4
    refine (heldForm_own 1 OM.out (by omega) (by have := HZT.out.2; omega)).mono ?_
    rintro e w12 ⟨rfl, bb⟩
    replace OM := Lib.hid (OM.out.later bb)
    replace KG := Lib.hid (blk_below KG.out bb)
    replace BX := Lib.hid (below_step BX.out bb)
    clear bb
    go_wp2_with fail
    have bD := below_drew (Below.refl w12.heap.size w12)
    have HB := Lib.hid bD
    clear bD
    have KAr := Lib.hid (blk_below KA.out BX.out)
    have KBr := Lib.hid (blk_below KB.out BX.out)
    refine start_ (n := 11) (S := (fun W : World => W.cell? ⟨w.heap.size, 0, none⟩ = some (.int .i64 x.f0) ∧ W.cell? ⟨w.heap.size, 1, none⟩ = some (.string x.f1) ∧ W.cell? ⟨w.heap.size, 2, none⟩ = some (.int .i64 x.f2) ∧ W.cell? ⟨w.heap.size, 3, none⟩ = some (.slice A3 x.f3.length Ac3) ∧ W.cell? ⟨w.heap.size, 4, none⟩ = some (.slice A4 x.f4.length Ac4) ∧ W.cell? ⟨w.heap.size + 1, 0, none⟩ = some (.int .i64 m.f0) ∧ W.cell? ⟨w.heap.size + 1, 1, none⟩ = some (.string m.f1) ∧ W.cell? ⟨w.heap.size + 1, 2, none⟩ = some (.int .i64 m.f2) ∧ W.cell? ⟨w.heap.size + 1, 3, none⟩ = some (.slice B3 m.f3.length Bc3) ∧ W.cell? ⟨w.heap.size + 1, 4, none⟩ = some (.slice B4 m.f4.length Bc4))) (ds := []) #[false, false, false, false, false, false, false, false, false, false, false] (by kernel_rfl) rfl rfl ⟨(fm_cells (blk_below KAr.out HB.out)).1, (fm_cells (blk_below KAr.out HB.out)).2.1, (fm_cells (blk_below KAr.out HB.out)).2.2.1, (fm_cells (blk_below KAr.out HB.out)).2.2.2.1, (fm_cells (blk_below KAr.out HB.out)).2.2.2.2, (fm_cells (blk_below KBr.out HB.out)).1, (fm_cells (blk_below KBr.out HB.out)).2.1, (fm_cells (blk_below KBr.out HB.out)).2.2.1, (fm_cells (blk_below KBr.out HB.out)).2.2.2.1, (fm_cells (blk_below KBr.out HB.out)).2.2.2.2⟩ (fun hHeld => ?_)
    generalize World.drew _ = wd at HB hHeld ⊢
    refine take_ (i := 0) (N := some 95) (v := ?_) (a' := ?_) #[true, false, false, false, false, false, false, false, false, false, false] rfl rfl (by kernel_rfl) (fun _ _ _ h => h) (Or.inl ⟨by rfl, ?_⟩) hHeld ?_ ?_
    rotate_left
    · rintro w' ⟨s0, s1, s2, s3, s4, s5, s6, s7, s8, s9⟩
      go_simp
      with_reducible rfl
    rotate_left
    · simp only [Act.put, List.setIfInBounds_toArray, List.set_cons_zero, List.set_cons_succ, i64_w, i32_w]
      rfl
    refine take_ (i := 2) (N := some 97) (v := ?_) (a' := ?_) #[true, false, true, false, false, false, false, false, false, false, false] rfl rfl (by kernel_rfl) (fun _ _ _ h => h) (Or.inl ⟨by rfl, ?_⟩) hHeld ?_ ?_
    rotate_left
    · rintro w' ⟨s0, s1, s2, s3, s4, s5, s6, s7, s8, s9⟩
      go_simp
      with_reducible rfl
    rotate_left
    · simp only [Act.put, List.setIfInBounds_toArray, List.set_cons_zero, List.set_cons_succ, i64_w, i32_w]
      rfl
    refine join_ (σ := Value × Value × Value × Nat) 2 #[true, true, true, true, true, true, true, true, true, false, false] (fun s_ => [(96, s_.1), (98, s_.2.1), (99, (.tuple #[s_.2.2.1, .bool b])), (94, (.tuple #[s_.2.2.1, .bool b])), (100, s_.2.2.1), (101, .bool b), (15, .pointer (some ⟨s_.2.2.2, 0, none⟩))]) (fun s_ w' => Below w12.heap.size w12 w' ∧ w'.heap[s_.2.2.2]? = some (.cells #[.int .i64 0, .string ⟨#[]⟩, .int .i64 0, .slice none 0 0, .slice none 0 0] 29) ∧ w12.heap.size ≤ s_.2.2.2 ∧ ∃ (U3 : Option Addr) (Uc3 : Nat) (U4 : Option Addr) (Uc4 : Nat), s_.2.2.1 = .agg #[.int .i64 z.f0, .string z.f1, .int .i64 z.f2, .slice U3 z.f3.length Uc3, .slice U4 z.f4.length Uc4] ∧ FmP (fun b => b ≠ s_.2.2.2) w' z U3 Uc3 U4 Uc4) ?_ ?_
    · rintro ⟨vP, vR, vU, gH⟩ wj ⟨HB', hbox, hge, H3, Hc3, H4, Hc4, hvU, hP⟩
      simp only at hbox hge hvU hP
      subst hvU
      replace HB := Lib.hid HB'
      clear HB'
      refine norm_ (a' := ?_) ?_ ?_
      rotate_left
      · simp only [putAll, Act.put, List.setIfInBounds_toArray, List.set_cons_zero, List.set_cons_succ]
        rfl
      obtain ⟨z0, z1, z2, z3, z4⟩ := fm_cells hbox
      obtain ⟨f0, f1, f2, f3, f4⟩ := fm_free hbox
      obtain ⟨st1, st2, st3⟩ := st5 hbox (.int .i64 z.f0) (.string z.f1) (.int .i64 z.f2) (.slice H3 z.f3.length Hc3) (.slice H4 z.f4.length Hc4)
      have HX := Lib.hid (st3 _ _ HB.out hge)
      have IN := Lib.hid ((hP.move (st3 0 _ (Below.refl 0 _) (Nat.zero_le _)).size (fun b h1 _ => st2 b h1)).now)
      have KN := Lib.hid st1
      have HGE := Lib.hid hge
      clear hbox st1 st2 st3 hP hge
      refine one_ (i := 9) (N := none) #[true, true, true, true, true, true, true, true, true, true, false] rfl rfl (by kernel_rfl) (by decide) (fun K hK => ?_)
      refine skip_ (w1 := ?_) (by rfl) rfl ?_ ?_
      rotate_left
      · go_simp
        rfl
      refine hK.out _ _ ⟨(fm_cells (blk_below KAr.out HX.out)).1, (fm_cells (blk_below KAr.out HX.out)).2.1, (fm_cells (blk_below KAr.out HX.out)).2.2.1, (fm_cells (blk_below KAr.out HX.out)).2.2.2.1, (fm_cells (blk_below KAr.out HX.out)).2.2.2.2, (fm_cells (blk_below KBr.out HX.out)).1, (fm_cells (blk_below KBr.out HX.out)).2.1, (fm_cells (blk_below KBr.out HX.out)).2.2.1, (fm_cells (blk_below KBr.out HX.out)).2.2.2.1, (fm_cells (blk_below KBr.out HX.out)).2.2.2.2⟩ (fun hHeld => ?_)
      clear hK K z0 z1 z2 z3 z4 f0 f1 f2 f3 f4
      generalize World.setCell (World.setCell (World.setCell (World.setCell (World.setCell wj _ _) _ _) _ _) _ _) _ _ = wxH at HX IN KN hHeld ⊢
      refine pure_ (i := 10) (N := some 16) (v := ?_) (a' := ?_) #[true, true, true, true, true, true, true, true, true, true, true] rfl rfl (by kernel_rfl) (fun _ _ _ h => h) (Or.inl ⟨by rfl, ?_⟩) ?_ ?_
      rotate_left
      · intro w'
        go_simp
        with_reducible rfl
      rotate_left
      · simp only [Act.put, List.setIfInBounds_toArray, List.set_cons_zero, List.set_cons_succ, i64_w, i32_w]
        rfl
      refine done_ (by kernel_rfl) ?_
      clear hHeld HB KAr KBr
      replace OM := Lib.hid (OM.out.later HX.out)
      replace KG := Lib.hid (blk_below KG.out HX.out)
      replace BX := Lib.hid (below_step BX.out HX.out)
      have KH := Lib.hid KN.out
      have IH := Lib.hid IN.out
      clear KN IN HX HGE
      obtain ⟨p0, p1, p2, p3, p4⟩ := fm_cells (blk_below KU.out BX.out)
      obtain ⟨q0, q1, q2, q3, q4⟩ := fm_cells KH.out
      go_wp2_with fail
      clear p0 p1 p2 p3 p4 q0 q1 q2 q3 q4
      refine (eqForm_any z z H3 Hc3 H4 Hc4 U3 Uc3 U4 Uc4 _ IH.out (IU.out.below BX.out)).mono ?_
      rintro e w14 ⟨rfl, bb⟩
      replace OM := Lib.hid (OM.out.later bb)
      replace KG := Lib.hid (blk_below KG.out bb)
      replace BX := Lib.hid (below_step BX.out bb)
      clear bb IH KH
      rw [eqB_self]
      obtain ⟨p0, p1, p2, p3, p4⟩ := fm_cells KG.out
      go_wp2_with fail
      clear p0 p1 p2 p3 p4
      refine (heldForm_own 1 OM.out (by omega) (by have := HZT.out.2; omega)).mono ?_
      rintro e w15 ⟨rfl, bb⟩
      replace OM := Lib.hid (OM.out.later bb)
      replace KG := Lib.hid (blk_below KG.out bb)
      replace BX := Lib.hid (below_step BX.out bb)
      clear bb
      go_wp2_with fail
      go_ret
      exact ⟨rfl, below_step BW.out BX.out⟩
    · intro hCont
      refine two_ (i := 1) (j := 8) (Ni := some 96) (Nj := some 15) #[true, true, true, false, false, false, false, false, false, false, false] #[true, false, true, false, false, false, false, false, true, false, false] rfl rfl rfl rfl (by kernel_rfl) (by decide) (by decide) (fun K hK => ?_) (fun K hK => ?_)
      · refine goes_ Try.func16 (by kernel_rfl) rfl #[.agg #[.int .i64 x.f0, .string x.f1, .int .i64 x.f2, .slice A3 x.f3.length Ac3, .slice A4 x.f4.length Ac4]] (by rfl) rfl rfl (by (try simp only [List.map_toArray, List.map_cons, List.map_nil]); first | done | rfl) ?_
        refine (toFormO x A3 Ac3 A4 Ac4 wd (HI.out.below (below_step (below_step BW.out BX.out) HB.out)) hq).mono ?_
        rintro e wdc0 ⟨P3, Pc3, P4, Pc4, fp, rfl, o, bb⟩
        have IP := Lib.hid o.now
        clear o
        refine ⟨_, rfl, ?_⟩
        replace HB := Lib.hid (below_step HB.out bb)
        refine hK.out _ _ ⟨(fm_cells (blk_below KAr.out HB.out)).1, (fm_cells (blk_below KAr.out HB.out)).2.1, (fm_cells (blk_below KAr.out HB.out)).2.2.1, (fm_cells (blk_below KAr.out HB.out)).2.2.2.1, (fm_cells (blk_below KAr.out HB.out)).2.2.2.2, (fm_cells (blk_below KBr.out HB.out)).1, (fm_cells (blk_below KBr.out HB.out)).2.1, (fm_cells (blk_below KBr.out HB.out)).2.2.1, (fm_cells (blk_below KBr.out HB.out)).2.2.2.1, (fm_cells (blk_below KBr.out HB.out)).2.2.2.2⟩ (fun hHeld => ?_)
        clear hK K
        refine norm_ (a' := ?_) ?_ ?_
        rotate_left
        · show Act.put _ (some 96) _ = _
          simp only [Act.put, List.setIfInBounds_toArray, List.set_cons_zero, List.set_cons_succ, i64_w, i32_w]
          rfl
        refine two_ (i := 3) (j := 8) (Ni := some 98) (Nj := some 15) #[true, true, true, true, false, false, false, false, false, false, false] #[true, true, true, false, false, false, false, false, true, false, false] rfl rfl rfl rfl (by kernel_rfl) (by decide) (by decide) (fun K hK => ?_) (fun K hK => ?_)
        · refine goes_ Try.func16 (by kernel_rfl) rfl #[.agg #[.int .i64 m.f0, .string m.f1, .int .i64 m.f2, .slice B3 m.f3.length Bc3, .slice B4 m.f4.length Bc4]] (by rfl) rfl rfl (by (try simp only [List.map_toArray, List.map_cons, List.map_nil]); first | done | rfl) ?_
          refine (toFormO m B3 Bc3 B4 Bc4 wdc0 (HJ.out.below (below_step (below_step BW.out BX.out) HB.out)) hqm).mono ?_
          rintro e wdc0c1 ⟨R3, Rc3, R4, Rc4, fr, rfl, o, bb⟩
          have IR := Lib.hid o.now
          replace IP := Lib.hid (IP.out.below bb)
          clear o
          refine ⟨_, rfl, ?_⟩
          replace HB := Lib.hid (below_step HB.out bb)
          refine hK.out _ _ ⟨(fm_cells (blk_below KAr.out HB.out)).1, (fm_cells (blk_below KAr.out HB.out)).2.1, (fm_cells (blk_below KAr.out HB.out)).2.2.1, (fm_cells (blk_below KAr.out HB.out)).2.2.2.1, (fm_cells (blk_below KAr.out HB.out)).2.2.2.2, (fm_cells (blk_below KBr.out HB.out)).1, (fm_cells (blk_below KBr.out HB.out)).2.1, (fm_cells (blk_below KBr.out HB.out)).2.2.1, (fm_cells (blk_below KBr.out HB.out)).2.2.2.1, (fm_cells (blk_below KBr.out HB.out)).2.2.2.2⟩ (fun hHeld => ?_)
          clear hK K
          refine norm_ (a' := ?_) ?_ ?_
          rotate_left
          · show Act.put _ (some 98) _ = _
            simp only [Act.put, List.setIfInBounds_toArray, List.set_cons_zero, List.set_cons_succ, i64_w, i32_w]
            rfl
          refine two_ (i := 4) (j := 8) (Ni := some 99) (Nj := some 15) #[true, true, true, true, true, false, false, false, false, false, false] #[true, true, true, true, false, false, false, false, true, false, false] rfl rfl rfl rfl (by kernel_rfl) (by decide) (by decide) (fun K hK => ?_) (fun K hK => ?_)
          · refine goes_ Try.func31 (by kernel_rfl) rfl #[.agg #[.int .i64 x.f0, .string x.f1, .int .i64 x.f2, .slice P3 x.f3.length Pc3, .slice P4 x.f4.length Pc4], .agg #[.int .i64 m.f0, .string m.f1, .int .i64 m.f2, .slice R3 m.f3.length Rc3, .slice R4 m.f4.length Rc4]] (by rfl) rfl rfl (by (try simp only [List.map_toArray, List.map_cons, List.map_nil]); first | done | rfl) ?_
            refine (implDressS HZT.out.1 P3 Pc3 P4 Pc4 R3 Rc3 R4 Rc4 wdc0c1 IP.out IR.out hq hqm).mono ?_
            rintro e wdc0c1c2 ⟨U3, Uc3, U4, Uc4, rfl, hs, bb⟩
            refine ⟨_, rfl, ?_⟩
            replace HB := Lib.hid (below_step HB.out bb)
            refine hK.out _ _ ⟨(fm_cells (blk_below KAr.out HB.out)).1, (fm_cells (blk_below KAr.out HB.out)).2.1, (fm_cells (blk_below KAr.out HB.out)).2.2.1, (fm_cells (blk_below KAr.out HB.out)).2.2.2.1, (fm_cells (blk_below KAr.out HB.out)).2.2.2.2, (fm_cells (blk_below KBr.out HB.out)).1, (fm_cells (blk_below KBr.out HB.out)).2.1, (fm_cells (blk_below KBr.out HB.out)).2.2.1, (fm_cells (blk_below KBr.out HB.out)).2.2.2.1, (fm_cells (blk_below KBr.out HB.out)).2.2.2.2⟩ (fun hHeld => ?_)
            clear hK K
            refine norm_ (a' := ?_) ?_ ?_
            rotate_left
            · show Act.put _ (some 99) _ = _
              simp only [Act.put, List.setIfInBounds_toArray, List.set_cons_zero, List.set_cons_succ, i64_w, i32_w]
              rfl
            refine pure_ (i := 5) (N := some 94) (v := ?_) (a' := ?_) #[true, true, true, true, true, true, false, false, false, false, false] rfl rfl (by kernel_rfl) (fun _ _ _ h => h) (Or.inl ⟨by rfl, ?_⟩) ?_ ?_
            rotate_left
            · intro w'
              go_simp
              with_reducible rfl
            rotate_left
            · simp only [Act.put, List.setIfInBounds_toArray, List.set_cons_zero, List.set_cons_succ, i64_w, i32_w]
              rfl
            refine pure_ (i := 6) (N := some 100) (v := ?_) (a' := ?_) #[true, true, true, true, true, true, true, false, false, false, false] rfl rfl (by kernel_rfl) (fun _ _ _ h => h) (Or.inl ⟨by rfl, ?_⟩) ?_ ?_
            rotate_left
            · intro w'
              go_simp
              with_reducible rfl
            rotate_left
            · simp only [Act.put, List.setIfInBounds_toArray, List.set_cons_zero, List.set_cons_succ, i64_w, i32_w]
              rfl
            refine pure_ (i := 7) (N := some 101) (v := ?_) (a' := ?_) #[true, true, true, true, true, true, true, true, false, false, false] rfl rfl (by kernel_rfl) (fun _ _ _ h => h) (Or.inl ⟨by rfl, ?_⟩) ?_ ?_
            rotate_left
            · intro w'
              go_simp
              with_reducible rfl
            rotate_left
            · simp only [Act.put, List.setIfInBounds_toArray, List.set_cons_zero, List.set_cons_succ, i64_w, i32_w]
              rfl
            refine one_ (i := 8) (N := some 15) #[true, true, true, true, true, true, true, true, true, false, false] rfl rfl (by kernel_rfl) (by decide) (fun K hK => ?_)
            refine box_step ?hg (N := 15) ?hd (cs := #[.int .i64 0, .string ⟨#[]⟩, .int .i64 0, .slice none 0 0, .slice none 0 0]) (t := 29) ?hr ?_; (case hd => rfl); (case hg => rfl); (case hr => first | (go_simp; done) | (go_simp; rfl))
            intro g3 hg3 wdc0c1c2y hbox bb
            have hge : w12.heap.size ≤ g3 := hg3 ▸ HB.out.size
            have HB0 := HB
            replace HB := Lib.hid (below_step HB.out bb)
            refine hK.out _ _ ⟨(fm_cells (blk_below KAr.out HB.out)).1, (fm_cells (blk_below KAr.out HB.out)).2.1, (fm_cells (blk_below KAr.out HB.out)).2.2.1, (fm_cells (blk_below KAr.out HB.out)).2.2.2.1, (fm_cells (blk_below KAr.out HB.out)).2.2.2.2, (fm_cells (blk_below KBr.out HB.out)).1, (fm_cells (blk_below KBr.out HB.out)).2.1, (fm_cells (blk_below KBr.out HB.out)).2.2.1, (fm_cells (blk_below KBr.out HB.out)).2.2.2.1, (fm_cells (blk_below KBr.out HB.out)).2.2.2.2⟩ (fun hHeld => ?_)
            clear hK K
            refine norm_ (a' := ?_) ?_ ?_
            rotate_left
            · show Act.put _ (some 15) _ = _
              simp only [Act.put, List.setIfInBounds_toArray, List.set_cons_zero, List.set_cons_succ, i64_w, i32_w]
              rfl
            exact norm_ (by simp only [putAll, Act.put, List.setIfInBounds_toArray, List.set_cons_zero, List.set_cons_succ]) (hCont (.agg #[.int .i64 x.f0, .string x.f1, .int .i64 x.f2, .slice P3 x.f3.length Pc3, .slice P4 x.f4.length Pc4], .agg #[.int .i64 m.f0, .string m.f1, .int .i64 m.f2, .slice R3 m.f3.length Rc3, .slice R4 m.f4.length Rc4], .agg #[.int .i64 z.f0, .string z.f1, .int .i64 z.f2, .slice U3 z.f3.length Uc3, .slice U4 z.f4.length Uc4], g3) _ ⟨HB.out, hbox, hge, U3, Uc3, U4, Uc4, rfl, ((FmP.ofS (P := fun b => b ≠ g3) hs (fun b h1 h2 => by omega)).later bb)⟩)
          · refine box_step ?hg (N := 15) ?hd (cs := #[.int .i64 0, .string ⟨#[]⟩, .int .i64 0, .slice none 0 0, .slice none 0 0]) (t := 29) ?hr ?_; (case hd => rfl); (case hg => rfl); (case hr => first | (go_simp; done) | (go_simp; rfl))
            intro g3 hg3 wdc0c1y hbox bb
            have hge : w12.heap.size ≤ g3 := hg3 ▸ HB.out.size
            have HB0 := HB
            replace HB := Lib.hid (below_step HB.out bb)
            refine hK.out _ _ ⟨(fm_cells (blk_below KAr.out HB.out)).1, (fm_cells (blk_below KAr.out HB.out)).2.1, (fm_cells (blk_below KAr.out HB.out)).2.2.1, (fm_cells (blk_below KAr.out HB.out)).2.2.2.1, (fm_cells (blk_below KAr.out HB.out)).2.2.2.2, (fm_cells (blk_below KBr.out HB.out)).1, (fm_cells (blk_below KBr.out HB.out)).2.1, (fm_cells (blk_below KBr.out HB.out)).2.2.1, (fm_cells (blk_below KBr.out HB.out)).2.2.2.1, (fm_cells (blk_below KBr.out HB.out)).2.2.2.2⟩ (fun hHeld => ?_)
            clear hK K
            refine norm_ (a' := ?_) ?_ ?_
            rotate_left
            · show Act.put _ (some 15) _ = _
              simp only [Act.put, List.setIfInBounds_toArray, List.set_cons_zero, List.set_cons_succ, i64_w, i32_w]
              rfl
            replace IP := Lib.hid (IP.out.below bb)
            replace IR := Lib.hid (IR.out.below bb)
            clear bb
            refine one_ (i := 4) (N := some 99) #[true, true, true, true, true, false, false, false, true, false, false] rfl rfl (by kernel_rfl) (by decide) (fun K hK => ?_)
            have hlt := blk_lt hbox
            refine goes_ Try.func31 (by kernel_rfl) rfl #[.agg #[.int .i64 x.f0, .string x.f1, .int .i64 x.f2, .slice P3 x.f3.length Pc3, .slice P4 x.f4.length Pc4], .agg #[.int .i64 m.f0, .string m.f1, .int .i64 m.f2, .slice R3 m.f3.length Rc3, .slice R4 m.f4.length Rc4]] (by rfl) rfl rfl (by (try simp only [List.map_toArray, List.map_cons, List.map_nil]); first | done | rfl) ?_
            refine (implDressS HZT.out.1 P3 Pc3 P4 Pc4 R3 Rc3 R4 Rc4 wdc0c1y IP.out IR.out hq hqm).mono ?_
            rintro e wdc0c1yc2 ⟨U3, Uc3, U4, Uc4, rfl, hs, bb⟩
            refine ⟨_, rfl, ?_⟩
            replace HB := Lib.hid (below_step HB.out bb)
            replace hbox := blk_below hbox bb
            refine hK.out _ _ ⟨(fm_cells (blk_below KAr.out HB.out)).1, (fm_cells (blk_below KAr.out HB.out)).2.1, (fm_cells (blk_below KAr.out HB.out)).2.2.1, (fm_cells (blk_below KAr.out HB.out)).2.2.2.1, (fm_cells (blk_below KAr.out HB.out)).2.2.2.2, (fm_cells (blk_below KBr.out HB.out)).1, (fm_cells (blk_below KBr.out HB.out)).2.1, (fm_cells (blk_below KBr.out HB.out)).2.2.1, (fm_cells (blk_below KBr.out HB.out)).2.2.2.1, (fm_cells (blk_below KBr.out HB.out)).2.2.2.2⟩ (fun hHeld => ?_)
            clear hK K
            refine norm_ (a' := ?_) ?_ ?_
            rotate_left
            · show Act.put _ (some 99) _ = _
              simp only [Act.put, List.setIfInBounds_toArray, List.set_cons_zero, List.set_cons_succ, i64_w, i32_w]
              rfl
            clear bb
            refine pure_ (i := 5) (N := some 94) (v := ?_) (a' := ?_) #[true, true, true, true, true, true, false, false, true, false, false] rfl rfl (by kernel_rfl) (fun _ _ _ h => h) (Or.inl ⟨by rfl, ?_⟩) ?_ ?_
            rotate_left
            · intro w'
              go_simp
              with_reducible rfl
            rotate_left
            · simp only [Act.put, List.setIfInBounds_toArray, List.set_cons_zero, List.set_cons_succ, i64_w, i32_w]
              rfl
            refine pure_ (i := 6) (N := some 100) (v := ?_) (a' := ?_) #[true, true, true, true, true, true, true, false, true, false, false] rfl rfl (by kernel_rfl) (fun _ _ _ h => h) (Or.inl ⟨by rfl, ?_⟩) ?_ ?_
            rotate_left
            · intro w'
              go_simp
              with_reducible rfl
            rotate_left
            · simp only [Act.put, List.setIfInBounds_toArray, List.set_cons_zero, List.set_cons_succ, i64_w, i32_w]
              rfl
            refine pure_ (i := 7) (N := some 101) (v := ?_) (a' := ?_) #[true, true, true, true, true, true, true, true, true, false, false] rfl rfl (by kernel_rfl) (fun _ _ _ h => h) (Or.inl ⟨by rfl, ?_⟩) ?_ ?_
            rotate_left
            · intro w'
              go_simp
              with_reducible rfl
            rotate_left
            · simp only [Act.put, List.setIfInBounds_toArray, List.set_cons_zero, List.set_cons_succ, i64_w, i32_w]
              rfl
            exact norm_ (by simp only [putAll, Act.put, List.setIfInBounds_toArray, List.set_cons_zero, List.set_cons_succ]) (hCont (.agg #[.int .i64 x.f0, .string x.f1, .int .i64 x.f2, .slice P3 x.f3.length Pc3, .slice P4 x.f4.length Pc4], .agg #[.int .i64 m.f0, .string m.f1, .int .i64 m.f2, .slice R3 m.f3.length Rc3, .slice R4 m.f4.length Rc4], .agg #[.int .i64 z.f0, .string z.f1, .int .i64 z.f2, .slice U3 z.f3.length Uc3, .slice U4 z.f4.length Uc4], g3) _ ⟨HB.out, hbox, hge, U3, Uc3, U4, Uc4, rfl, (FmP.ofS (P := fun b => b ≠ g3) hs (fun b h1 h2 => by omega))⟩)
        · refine box_step ?hg (N := 15) ?hd (cs := #[.int .i64 0, .string ⟨#[]⟩, .int .i64 0, .slice none 0 0, .slice none 0 0]) (t := 29) ?hr ?_; (case hd => rfl); (case hg => rfl); (case hr => first | (go_simp; done) | (go_simp; rfl))
          intro g3 hg3 wdc0y hbox bb
          have hge : w12.heap.size ≤ g3 := hg3 ▸ HB.out.size
          have HB0 := HB
          replace HB := Lib.hid (below_step HB.out bb)
          refine hK.out _ _ ⟨(fm_cells (blk_below KAr.out HB.out)).1, (fm_cells (blk_below KAr.out HB.out)).2.1, (fm_cells (blk_below KAr.out HB.out)).2.2.1, (fm_cells (blk_below KAr.out HB.out)).2.2.2.1, (fm_cells (blk_below KAr.out HB.out)).2.2.2.2, (fm_cells (blk_below KBr.out HB.out)).1, (fm_cells (blk_below KBr.out HB.out)).2.1, (fm_cells (blk_below KBr.out HB.out)).2.2.1, (fm_cells (blk_below KBr.out HB.out)).2.2.2.1, (fm_cells (blk_below KBr.out HB.out)).2.2.2.2⟩ (fun hHeld => ?_)
          clear hK K
          refine norm_ (a' := ?_) ?_ ?_
          rotate_left
          · show Act.put _ (some 15) _ = _
            simp only [Act.put, List.setIfInBounds_toArray, List.set_cons_zero, List.set_cons_succ, i64_w, i32_w]
            rfl
          replace IP := Lib.hid (IP.out.below bb)
          clear bb
          refine one_ (i := 3) (N := some 98) #[true, true, true, true, false, false, false, false, true, false, false] rfl rfl (by kernel_rfl) (by decide) (fun K hK => ?_)
          refine goes_ Try.func16 (by kernel_rfl) rfl #[.agg #[.int .i64 m.f0, .string m.f1, .int .i64 m.f2, .slice B3 m.f3.length Bc3, .slice B4 m.f4.length Bc4]] (by rfl) rfl rfl (by (try simp only [List.map_toArray, List.map_cons, List.map_nil]); first | done | rfl) ?_
          refine (toFormO m B3 Bc3 B4 Bc4 wdc0y (HJ.out.below (below_step (below_step BW.out BX.out) HB.out)) hqm).mono ?_
          rintro e wdc0yc1 ⟨R3, Rc3, R4, Rc4, fr, rfl, o, bb⟩
          have IR := Lib.hid o.now
          replace IP := Lib.hid (IP.out.below bb)
          clear o
          refine ⟨_, rfl, ?_⟩
          replace HB := Lib.hid (below_step HB.out bb)
          replace hbox := blk_below hbox bb
          refine hK.out _ _ ⟨(fm_cells (blk_below KAr.out HB.out)).1, (fm_cells (blk_below KAr.out HB.out)).2.1, (fm_cells (blk_below KAr.out HB.out)).2.2.1, (fm_cells (blk_below KAr.out HB.out)).2.2.2.1, (fm_cells (blk_below KAr.out HB.out)).2.2.2.2, (fm_cells (blk_below KBr.out HB.out)).1, (fm_cells (blk_below KBr.out HB.out)).2.1, (fm_cells (blk_below KBr.out HB.out)).2.2.1, (fm_cells (blk_below KBr.out HB.out)).2.2.2.1, (fm_cells (blk_below KBr.out HB.out)).2.2.2.2⟩ (fun hHeld => ?_)
          clear hK K
          refine norm_ (a' := ?_) ?_ ?_
          rotate_left
          · show Act.put _ (some 98) _ = _
            simp only [Act.put, List.setIfInBounds_toArray, List.set_cons_zero, List.set_cons_succ, i64_w, i32_w]
            rfl
          clear bb
          refine one_ (i := 4) (N := some 99) #[true, true, true, true, true, false, false, false, true, false, false] rfl rfl (by kernel_rfl) (by decide) (fun K hK => ?_)
          have hlt := blk_lt hbox
          refine goes_ Try.func31 (by kernel_rfl) rfl #[.agg #[.int .i64 x.f0, .string x.f1, .int .i64 x.f2, .slice P3 x.f3.length Pc3, .slice P4 x.f4.length Pc4], .agg #[.int .i64 m.f0, .string m.f1, .int .i64 m.f2, .slice R3 m.f3.length Rc3, .slice R4 m.f4.length Rc4]] (by rfl) rfl rfl (by (try simp only [List.map_toArray, List.map_cons, List.map_nil]); first | done | rfl) ?_
          refine (implDressS HZT.out.1 P3 Pc3 P4 Pc4 R3 Rc3 R4 Rc4 wdc0yc1 IP.out IR.out hq hqm).mono ?_
          rintro e wdc0yc1c2 ⟨U3, Uc3, U4, Uc4, rfl, hs, bb⟩
          refine ⟨_, rfl, ?_⟩
          replace HB := Lib.hid (below_step HB.out bb)
          replace hbox := blk_below hbox bb
          refine hK.out _ _ ⟨(fm_cells (blk_below KAr.out HB.out)).1, (fm_cells (blk_below KAr.out HB.out)).2.1, (fm_cells (blk_below KAr.out HB.out)).2.2.1, (fm_cells (blk_below KAr.out HB.out)).2.2.2.1, (fm_cells (blk_below KAr.out HB.out)).2.2.2.2, (fm_cells (blk_below KBr.out HB.out)).1, (fm_cells (blk_below KBr.out HB.out)).2.1, (fm_cells (blk_below KBr.out HB.out)).2.2.1, (fm_cells (blk_below KBr.out HB.out)).2.2.2.1, (fm_cells (blk_below KBr.out HB.out)).2.2.2.2⟩ (fun hHeld => ?_)
          clear hK K
          refine norm_ (a' := ?_) ?_ ?_
          rotate_left
          · show Act.put _ (some 99) _ = _
            simp only [Act.put, List.setIfInBounds_toArray, List.set_cons_zero, List.set_cons_succ, i64_w, i32_w]
            rfl
          clear bb
          refine pure_ (i := 5) (N := some 94) (v := ?_) (a' := ?_) #[true, true, true, true, true, true, false, false, true, false, false] rfl rfl (by kernel_rfl) (fun _ _ _ h => h) (Or.inl ⟨by rfl, ?_⟩) ?_ ?_
          rotate_left
          · intro w'
            go_simp
            with_reducible rfl
          rotate_left
          · simp only [Act.put, List.setIfInBounds_toArray, List.set_cons_zero, List.set_cons_succ, i64_w, i32_w]
            rfl
          refine pure_ (i := 6) (N := some 100) (v := ?_) (a' := ?_) #[true, true, true, true, true, true, true, false, true, false, false] rfl rfl (by kernel_rfl) (fun _ _ _ h => h) (Or.inl ⟨by rfl, ?_⟩) ?_ ?_
          rotate_left
          · intro w'
            go_simp
            with_reducible rfl
          rotate_left
          · simp only [Act.put, List.setIfInBounds_toArray, List.set_cons_zero, List.set_cons_succ, i64_w, i32_w]
            rfl
          refine pure_ (i := 7) (N := some 101) (v := ?_) (a' := ?_) #[true, true, true, true, true, true, true, true, true, false, false] rfl rfl (by kernel_rfl) (fun _ _ _ h => h) (Or.inl ⟨by rfl, ?_⟩) ?_ ?_
          rotate_left
          · intro w'
            go_simp
            with_reducible rfl
          rotate_left
          · simp only [Act.put, List.setIfInBounds_toArray, List.set_cons_zero, List.set_cons_succ, i64_w, i32_w]
            rfl
          exact norm_ (by simp only [putAll, Act.put, List.setIfInBounds_toArray, List.set_cons_zero, List.set_cons_succ]) (hCont (.agg #[.int .i64 x.f0, .string x.f1, .int .i64 x.f2, .slice P3 x.f3.length Pc3, .slice P4 x.f4.length Pc4], .agg #[.int .i64 m.f0, .string m.f1, .int .i64 m.f2, .slice R3 m.f3.length Rc3, .slice R4 m.f4.length Rc4], .agg #[.int .i64 z.f0, .string z.f1, .int .i64 z.f2, .slice U3 z.f3.length Uc3, .slice U4 z.f4.length Uc4], g3) _ ⟨HB.out, hbox, hge, U3, Uc3, U4, Uc4, rfl, (FmP.ofS (P := fun b => b ≠ g3) hs (fun b h1 h2 => by omega))⟩)
      · refine box_step ?hg (N := 15) ?hd (cs := #[.int .i64 0, .string ⟨#[]⟩, .int .i64 0, .slice none 0 0, .slice none 0 0]) (t := 29) ?hr ?_; (case hd => rfl); (case hg => rfl); (case hr => first | (go_simp; done) | (go_simp; rfl))
        intro g3 hg3 wdy hbox bb
        have hge : w12.heap.size ≤ g3 := hg3 ▸ HB.out.size
        have HB0 := HB
        replace HB := Lib.hid (below_step HB.out bb)
        refine hK.out _ _ ⟨(fm_cells (blk_below KAr.out HB.out)).1, (fm_cells (blk_below KAr.out HB.out)).2.1, (fm_cells (blk_below KAr.out HB.out)).2.2.1, (fm_cells (blk_below KAr.out HB.out)).2.2.2.1, (fm_cells (blk_below KAr.out HB.out)).2.2.2.2, (fm_cells (blk_below KBr.out HB.out)).1, (fm_cells (blk_below KBr.out HB.out)).2.1, (fm_cells (blk_below KBr.out HB.out)).2.2.1, (fm_cells (blk_below KBr.out HB.out)).2.2.2.1, (fm_cells (blk_below KBr.out HB.out)).2.2.2.2⟩ (fun hHeld => ?_)
        clear hK K
        refine norm_ (a' := ?_) ?_ ?_
        rotate_left
        · show Act.put _ (some 15) _ = _
          simp only [Act.put, List.setIfInBounds_toArray, List.set_cons_zero, List.set_cons_succ, i64_w, i32_w]
          rfl
        clear bb
        refine one_ (i := 1) (N := some 96) #[true, true, true, false, false, false, false, false, true, false, false] rfl rfl (by kernel_rfl) (by decide) (fun K hK => ?_)
        refine goes_ Try.func16 (by kernel_rfl) rfl #[.agg #[.int .i64 x.f0, .string x.f1, .int .i64 x.f2, .slice A3 x.f3.length Ac3, .slice A4 x.f4.length Ac4]] (by rfl) rfl rfl (by (try simp only [List.map_toArray, List.map_cons, List.map_nil]); first | done | rfl) ?_
        refine (toFormO x A3 Ac3 A4 Ac4 wdy (HI.out.below (below_step (below_step BW.out BX.out) HB.out)) hq).mono ?_
        rintro e wdyc0 ⟨P3, Pc3, P4, Pc4, fp, rfl, o, bb⟩
        have IP := Lib.hid o.now
        clear o
        refine ⟨_, rfl, ?_⟩
        replace HB := Lib.hid (below_step HB.out bb)
        replace hbox := blk_below hbox bb
        refine hK.out _ _ ⟨(fm_cells (blk_below KAr.out HB.out)).1, (fm_cells (blk_below KAr.out HB.out)).2.1, (fm_cells (blk_below KAr.out HB.out)).2.2.1, (fm_cells (blk_below KAr.out HB.out)).2.2.2.1, (fm_cells (blk_below KAr.out HB.out)).2.2.2.2, (fm_cells (blk_below KBr.out HB.out)).1, (fm_cells (blk_below KBr.out HB.out)).2.1, (fm_cells (blk_below KBr.out HB.out)).2.2.1, (fm_cells (blk_below KBr.out HB.out)).2.2.2.1, (fm_cells (blk_below KBr.out HB.out)).2.2.2.2⟩ (fun hHeld => ?_)
        clear hK K
        refine norm_ (a' := ?_) ?_ ?_
        rotate_left
        · show Act.put _ (some 96) _ = _
          simp only [Act.put, List.setIfInBounds_toArray, List.set_cons_zero, List.set_cons_succ, i64_w, i32_w]
          rfl
        clear bb
        refine one_ (i := 3) (N := some 98) #[true, true, true, true, false, false, false, false, true, false, false] rfl rfl (by kernel_rfl) (by decide) (fun K hK => ?_)
        refine goes_ Try.func16 (by kernel_rfl) rfl #[.agg #[.int .i64 m.f0, .string m.f1, .int .i64 m.f2, .slice B3 m.f3.length Bc3, .slice B4 m.f4.length Bc4]] (by rfl) rfl rfl (by (try simp only [List.map_toArray, List.map_cons, List.map_nil]); first | done | rfl) ?_
        refine (toFormO m B3 Bc3 B4 Bc4 wdyc0 (HJ.out.below (below_step (below_step BW.out BX.out) HB.out)) hqm).mono ?_
        rintro e wdyc0c1 ⟨R3, Rc3, R4, Rc4, fr, rfl, o, bb⟩
        have IR := Lib.hid o.now
        replace IP := Lib.hid (IP.out.below bb)
        clear o
        refine ⟨_, rfl, ?_⟩
        replace HB := Lib.hid (below_step HB.out bb)
        replace hbox := blk_below hbox bb
        refine hK.out _ _ ⟨(fm_cells (blk_below KAr.out HB.out)).1, (fm_cells (blk_below KAr.out HB.out)).2.1, (fm_cells (blk_below KAr.out HB.out)).2.2.1, (fm_cells (blk_below KAr.out HB.out)).2.2.2.1, (fm_cells (blk_below KAr.out HB.out)).2.2.2.2, (fm_cells (blk_below KBr.out HB.out)).1, (fm_cells (blk_below KBr.out HB.out)).2.1, (fm_cells (blk_below KBr.out HB.out)).2.2.1, (fm_cells (blk_below KBr.out HB.out)).2.2.2.1, (fm_cells (blk_below KBr.out HB.out)).2.2.2.2⟩ (fun hHeld => ?_)
        clear hK K
        refine norm_ (a' := ?_) ?_ ?_
        rotate_left
        · show Act.put _ (some 98) _ = _
          simp only [Act.put, List.setIfInBounds_toArray, List.set_cons_zero, List.set_cons_succ, i64_w, i32_w]
          rfl
        clear bb
        refine one_ (i := 4) (N := some 99) #[true, true, true, true, true, false, false, false, true, false, false] rfl rfl (by kernel_rfl) (by decide) (fun K hK => ?_)
        have hlt := blk_lt hbox
        refine goes_ Try.func31 (by kernel_rfl) rfl #[.agg #[.int .i64 x.f0, .string x.f1, .int .i64 x.f2, .slice P3 x.f3.length Pc3, .slice P4 x.f4.length Pc4], .agg #[.int .i64 m.f0, .string m.f1, .int .i64 m.f2, .slice R3 m.f3.length Rc3, .slice R4 m.f4.length Rc4]] (by rfl) rfl rfl (by (try simp only [List.map_toArray, List.map_cons, List.map_nil]); first | done | rfl) ?_
        refine (implDressS HZT.out.1 P3 Pc3 P4 Pc4 R3 Rc3 R4 Rc4 wdyc0c1 IP.out IR.out hq hqm).mono ?_
        rintro e wdyc0c1c2 ⟨U3, Uc3, U4, Uc4, rfl, hs, bb⟩
        refine ⟨_, rfl, ?_⟩
        replace HB := Lib.hid (below_step HB.out bb)
        replace hbox := blk_below hbox bb
        refine hK.out _ _ ⟨(fm_cells (blk_below KAr.out HB.out)).1, (fm_cells (blk_below KAr.out HB.out)).2.1, (fm_cells (blk_below KAr.out HB.out)).2.2.1, (fm_cells (blk_below KAr.out HB.out)).2.2.2.1, (fm_cells (blk_below KAr.out HB.out)).2.2.2.2, (fm_cells (blk_below KBr.out HB.out)).1, (fm_cells (blk_below KBr.out HB.out)).2.1, (fm_cells (blk_below KBr.out HB.out)).2.2.1, (fm_cells (blk_below KBr.out HB.out)).2.2.2.1, (fm_cells (blk_below KBr.out HB.out)).2.2.2.2⟩ (fun hHeld => ?_)
        clear hK K
        refine norm_ (a' := ?_) ?_ ?_
        rotate_left
        · show Act.put _ (some 99) _ = _
          simp only [Act.put, List.setIfInBounds_toArray, List.set_cons_zero, List.set_cons_succ, i64_w, i32_w]
          rfl
        clear bb
        refine pure_ (i := 5) (N := some 94) (v := ?_) (a' := ?_) #[true, true, true, true, true, true, false, false, true, false, false] rfl rfl (by kernel_rfl) (fun _ _ _ h => h) (Or.inl ⟨by rfl, ?_⟩) ?_ ?_
        rotate_left
        · intro w'
          go_simp
          with_reducible rfl
        rotate_left
        · simp only [Act.put, List.setIfInBounds_toArray, List.set_cons_zero, List.set_cons_succ, i64_w, i32_w]
          rfl
        refine pure_ (i := 6) (N := some 100) (v := ?_) (a' := ?_) #[true, true, true, true, true, true, true, false, true, false, false] rfl rfl (by kernel_rfl) (fun _ _ _ h => h) (Or.inl ⟨by rfl, ?_⟩) ?_ ?_
        rotate_left
        · intro w'
          go_simp
          with_reducible rfl
        rotate_left
        · simp only [Act.put, List.setIfInBounds_toArray, List.set_cons_zero, List.set_cons_succ, i64_w, i32_w]
          rfl
        refine pure_ (i := 7) (N := some 101) (v := ?_) (a' := ?_) #[true, true, true, true, true, true, true, true, true, false, false] rfl rfl (by kernel_rfl) (fun _ _ _ h => h) (Or.inl ⟨by rfl, ?_⟩) ?_ ?_
        rotate_left
        · intro w'
          go_simp
          with_reducible rfl
        rotate_left
        · simp only [Act.put, List.setIfInBounds_toArray, List.set_cons_zero, List.set_cons_succ, i64_w, i32_w]
          rfl
        exact norm_ (by simp only [putAll, Act.put, List.setIfInBounds_toArray, List.set_cons_zero, List.set_cons_succ]) (hCont (.agg #[.int .i64 x.f0, .string x.f1, .int .i64 x.f2, .slice P3 x.f3.length Pc3, .slice P4 x.f4.length Pc4], .agg #[.int .i64 m.f0, .string m.f1, .int .i64 m.f2, .slice R3 m.f3.length Rc3, .slice R4 m.f4.length Rc4], .agg #[.int .i64 z.f0, .string z.f1, .int .i64 z.f2, .slice U3 z.f3.length Uc3, .slice U4 z.f4.length Uc4], g3) _ ⟨HB.out, hbox, hge, U3, Uc3, U4, Uc4, rfl, (FmP.ofS (P := fun b => b ≠ g3) hs (fun b h1 h2 => by omega))⟩)
  · intro hCont
    refine two_ (i := 1) (j := 8) (Ni := some 29) (Nj := some 6) #[true, true, true, false, false, false, false, false, false, false, false] #[true, false, true, false, false, false, false, false, true, false, false] rfl rfl rfl rfl (by kernel_rfl) (by decide) (by decide) (fun K hK => ?_) (fun K hK => ?_)
    · refine goes_ Try.func16 (by kernel_rfl) rfl #[.agg #[.int .i64 x.f0, .string x.f1, .int .i64 x.f2, .slice A3 x.f3.length Ac3, .slice A4 x.f4.length Ac4]] (by rfl) rfl rfl (by (try simp only [List.map_toArray, List.map_cons, List.map_nil]); first | done | rfl) ?_
      refine (toFormO x A3 Ac3 A4 Ac4 wd (HI.out.below (below_step BW.out HB.out)) hq).mono ?_
      rintro e wdc0 ⟨P3, Pc3, P4, Pc4, fp, rfl, o, bb⟩
      have IP := Lib.hid o.now
      clear o
      refine ⟨_, rfl, ?_⟩
      replace HB := Lib.hid (below_step HB.out bb)
      refine hK.out _ _ ⟨(fm_cells (blk_below KAr.out HB.out)).1, (fm_cells (blk_below KAr.out HB.out)).2.1, (fm_cells (blk_below KAr.out HB.out)).2.2.1, (fm_cells (blk_below KAr.out HB.out)).2.2.2.1, (fm_cells (blk_below KAr.out HB.out)).2.2.2.2, (fm_cells (blk_below KBr.out HB.out)).1, (fm_cells (blk_below KBr.out HB.out)).2.1, (fm_cells (blk_below KBr.out HB.out)).2.2.1, (fm_cells (blk_below KBr.out HB.out)).2.2.2.1, (fm_cells (blk_below KBr.out HB.out)).2.2.2.2⟩ (fun hHeld => ?_)
      clear hK K
      refine norm_ (a' := ?_) ?_ ?_
      rotate_left
      · show Act.put _ (some 29) _ = _
        simp only [Act.put, List.setIfInBounds_toArray, List.set_cons_zero, List.set_cons_succ, i64_w, i32_w]
        rfl
      refine two_ (i := 3) (j := 8) (Ni := some 31) (Nj := some 6) #[true, true, true, true, false, false, false, false, false, false, false] #[true, true, true, false, false, false, false, false, true, false, false] rfl rfl rfl rfl (by kernel_rfl) (by decide) (by decide) (fun K hK => ?_) (fun K hK => ?_)
      · refine goes_ Try.func16 (by kernel_rfl) rfl #[.agg #[.int .i64 m.f0, .string m.f1, .int .i64 m.f2, .slice B3 m.f3.length Bc3, .slice B4 m.f4.length Bc4]] (by rfl) rfl rfl (by (try simp only [List.map_toArray, List.map_cons, List.map_nil]); first | done | rfl) ?_
        refine (toFormO m B3 Bc3 B4 Bc4 wdc0 (HJ.out.below (below_step BW.out HB.out)) hqm).mono ?_
        rintro e wdc0c1 ⟨R3, Rc3, R4, Rc4, fr, rfl, o, bb⟩
        have IR := Lib.hid o.now
        replace IP := Lib.hid (IP.out.below bb)
        clear o
        refine ⟨_, rfl, ?_⟩
        replace HB := Lib.hid (below_step HB.out bb)
        refine hK.out _ _ ⟨(fm_cells (blk_below KAr.out HB.out)).1, (fm_cells (blk_below KAr.out HB.out)).2.1, (fm_cells (blk_below KAr.out HB.out)).2.2.1, (fm_cells (blk_below KAr.out HB.out)).2.2.2.1, (fm_cells (blk_below KAr.out HB.out)).2.2.2.2, (fm_cells (blk_below KBr.out HB.out)).1, (fm_cells (blk_below KBr.out HB.out)).2.1, (fm_cells (blk_below KBr.out HB.out)).2.2.1, (fm_cells (blk_below KBr.out HB.out)).2.2.2.1, (fm_cells (blk_below KBr.out HB.out)).2.2.2.2⟩ (fun hHeld => ?_)
        clear hK K
        refine norm_ (a' := ?_) ?_ ?_
        rotate_left
        · show Act.put _ (some 31) _ = _
          simp only [Act.put, List.setIfInBounds_toArray, List.set_cons_zero, List.set_cons_succ, i64_w, i32_w]
          rfl
        refine two_ (i := 4) (j := 8) (Ni := some 32) (Nj := some 6) #[true, true, true, true, true, false, false, false, false, false, false] #[true, true, true, true, false, false, false, false, true, false, false] rfl rfl rfl rfl (by kernel_rfl) (by decide) (by decide) (fun K hK => ?_) (fun K hK => ?_)
        · refine goes_ Try.func30 (by kernel_rfl) rfl #[.agg #[.int .i64 x.f0, .string x.f1, .int .i64 x.f2, .slice P3 x.f3.length Pc3, .slice P4 x.f4.length Pc4], .agg #[.int .i64 m.f0, .string m.f1, .int .i64 m.f2, .slice R3 m.f3.length Rc3, .slice R4 m.f4.length Rc4]] (by rfl) rfl rfl (by (try simp only [List.map_toArray, List.map_cons, List.map_nil]); first | done | rfl) ?_
          refine (specDressO HZT.out.1 P3 Pc3 P4 Pc4 R3 Rc3 R4 Rc4 wdc0c1 IP.out IR.out hq hqm).mono ?_
          rintro e wdc0c1c2 ⟨U3, Uc3, U4, Uc4, rfl, hs, bb⟩
          refine ⟨_, rfl, ?_⟩
          replace HB := Lib.hid (below_step HB.out bb)
          refine hK.out _ _ ⟨(fm_cells (blk_below KAr.out HB.out)).1, (fm_cells (blk_below KAr.out HB.out)).2.1, (fm_cells (blk_below KAr.out HB.out)).2.2.1, (fm_cells (blk_below KAr.out HB.out)).2.2.2.1, (fm_cells (blk_below KAr.out HB.out)).2.2.2.2, (fm_cells (blk_below KBr.out HB.out)).1, (fm_cells (blk_below KBr.out HB.out)).2.1, (fm_cells (blk_below KBr.out HB.out)).2.2.1, (fm_cells (blk_below KBr.out HB.out)).2.2.2.1, (fm_cells (blk_below KBr.out HB.out)).2.2.2.2⟩ (fun hHeld => ?_)
          clear hK K
          refine norm_ (a' := ?_) ?_ ?_
          rotate_left
          · show Act.put _ (some 32) _ = _
            simp only [Act.put, List.setIfInBounds_toArray, List.set_cons_zero, List.set_cons_succ, i64_w, i32_w]
            rfl
          refine pure_ (i := 5) (N := some 27) (v := ?_) (a' := ?_) #[true, true, true, true, true, true, false, false, false, false, false] rfl rfl (by kernel_rfl) (fun _ _ _ h => h) (Or.inl ⟨by rfl, ?_⟩) ?_ ?_
          rotate_left
          · intro w'
            go_simp
            with_reducible rfl
          rotate_left
          · simp only [Act.put, List.setIfInBounds_toArray, List.set_cons_zero, List.set_cons_succ, i64_w, i32_w]
            rfl
          refine pure_ (i := 6) (N := some 33) (v := ?_) (a' := ?_) #[true, true, true, true, true, true, true, false, false, false, false] rfl rfl (by kernel_rfl) (fun _ _ _ h => h) (Or.inl ⟨by rfl, ?_⟩) ?_ ?_
          rotate_left
          · intro w'
            go_simp
            with_reducible rfl
          rotate_left
          · simp only [Act.put, List.setIfInBounds_toArray, List.set_cons_zero, List.set_cons_succ, i64_w, i32_w]
            rfl
          refine pure_ (i := 7) (N := some 34) (v := ?_) (a' := ?_) #[true, true, true, true, true, true, true, true, false, false, false] rfl rfl (by kernel_rfl) (fun _ _ _ h => h) (Or.inl ⟨by rfl, ?_⟩) ?_ ?_
          rotate_left
          · intro w'
            go_simp
            with_reducible rfl
          rotate_left
          · simp only [Act.put, List.setIfInBounds_toArray, List.set_cons_zero, List.set_cons_succ, i64_w, i32_w]
            rfl
          refine one_ (i := 8) (N := some 6) #[true, true, true, true, true, true, true, true, true, false, false] rfl rfl (by kernel_rfl) (by decide) (fun K hK => ?_)
          refine box_step ?hg (N := 6) ?hd (cs := #[.int .i64 0, .string ⟨#[]⟩, .int .i64 0, .slice none 0 0, .slice none 0 0]) (t := 29) ?hr ?_; (case hd => rfl); (case hg => rfl); (case hr => first | (go_simp; done) | (go_simp; rfl))
          intro g3 hg3 wdc0c1c2y hbox bb
          have hge : w2.heap.size ≤ g3 := hg3 ▸ HB.out.size
          have HB0 := HB
          replace HB := Lib.hid (below_step HB.out bb)
          refine hK.out _ _ ⟨(fm_cells (blk_below KAr.out HB.out)).1, (fm_cells (blk_below KAr.out HB.out)).2.1, (fm_cells (blk_below KAr.out HB.out)).2.2.1, (fm_cells (blk_below KAr.out HB.out)).2.2.2.1, (fm_cells (blk_below KAr.out HB.out)).2.2.2.2, (fm_cells (blk_below KBr.out HB.out)).1, (fm_cells (blk_below KBr.out HB.out)).2.1, (fm_cells (blk_below KBr.out HB.out)).2.2.1, (fm_cells (blk_below KBr.out HB.out)).2.2.2.1, (fm_cells (blk_below KBr.out HB.out)).2.2.2.2⟩ (fun hHeld => ?_)
          clear hK K
          refine norm_ (a' := ?_) ?_ ?_
          rotate_left
          · show Act.put _ (some 6) _ = _
            simp only [Act.put, List.setIfInBounds_toArray, List.set_cons_zero, List.set_cons_succ, i64_w, i32_w]
            rfl
          exact norm_ (by simp only [putAll, Act.put, List.setIfInBounds_toArray, List.set_cons_zero, List.set_cons_succ]) (hCont (.agg #[.int .i64 x.f0, .string x.f1, .int .i64 x.f2, .slice P3 x.f3.length Pc3, .slice P4 x.f4.length Pc4], .agg #[.int .i64 m.f0, .string m.f1, .int .i64 m.f2, .slice R3 m.f3.length Rc3, .slice R4 m.f4.length Rc4], .agg #[.int .i64 z.f0, .string z.f1, .int .i64 z.f2, .slice U3 z.f3.length Uc3, .slice U4 z.f4.length Uc4], g3) _ ⟨HB.out, hbox, hge, U3, Uc3, U4, Uc4, rfl, ((FmP.ofS (P := fun b => b ≠ g3) hs (fun b h1 h2 => by omega)).later bb)⟩)
        · refine box_step ?hg (N := 6) ?hd (cs := #[.int .i64 0, .string ⟨#[]⟩, .int .i64 0, .slice none 0 0, .slice none 0 0]) (t := 29) ?hr ?_; (case hd => rfl); (case hg => rfl); (case hr => first | (go_simp; done) | (go_simp; rfl))
          intro g3 hg3 wdc0c1y hbox bb
          have hge : w2.heap.size ≤ g3 := hg3 ▸ HB.out.size
          have HB0 := HB
          replace HB := Lib.hid (below_step HB.out bb)
          refine hK.out _ _ ⟨(fm_cells (blk_below KAr.out HB.out)).1, (fm_cells (blk_below KAr.out HB.out)).2.1, (fm_cells (blk_below KAr.out HB.out)).2.2.1, (fm_cells (blk_below KAr.out HB.out)).2.2.2.1, (fm_cells (blk_below KAr.out HB.out)).2.2.2.2, (fm_cells (blk_below KBr.out HB.out)).1, (fm_cells (blk_below KBr.out HB.out)).2.1, (fm_cells (blk_below KBr.out HB.out)).2.2.1, (fm_cells (blk_below KBr.out HB.out)).2.2.2.1, (fm_cells (blk_below KBr.out HB.out)).2.2.2.2⟩ (fun hHeld => ?_)
          clear hK K
          refine norm_ (a' := ?_) ?_ ?_
          rotate_left
          · show Act.put _ (some 6) _ = _
            simp only [Act.put, List.setIfInBounds_toArray, List.set_cons_zero, List.set_cons_succ, i64_w, i32_w]
            rfl
          replace IP := Lib.hid (IP.out.below bb)
          replace IR := Lib.hid (IR.out.below bb)
          clear bb
          refine one_ (i := 4) (N := some 32) #[true, true, true, true, true, false, false, false, true, false, false] rfl rfl (by kernel_rfl) (by decide) (fun K hK => ?_)
          have hlt := blk_lt hbox
          refine goes_ Try.func30 (by kernel_rfl) rfl #[.agg #[.int .i64 x.f0, .string x.f1, .int .i64 x.f2, .slice P3 x.f3.length Pc3, .slice P4 x.f4.length Pc4], .agg #[.int .i64 m.f0, .string m.f1, .int .i64 m.f2, .slice R3 m.f3.length Rc3, .slice R4 m.f4.length Rc4]] (by rfl) rfl rfl (by (try simp only [List.map_toArray, List.map_cons, List.map_nil]); first | done | rfl) ?_
          refine (specDressO HZT.out.1 P3 Pc3 P4 Pc4 R3 Rc3 R4 Rc4 wdc0c1y IP.out IR.out hq hqm).mono ?_
          rintro e wdc0c1yc2 ⟨U3, Uc3, U4, Uc4, rfl, hs, bb⟩
          refine ⟨_, rfl, ?_⟩
          replace HB := Lib.hid (below_step HB.out bb)
          replace hbox := blk_below hbox bb
          refine hK.out _ _ ⟨(fm_cells (blk_below KAr.out HB.out)).1, (fm_cells (blk_below KAr.out HB.out)).2.1, (fm_cells (blk_below KAr.out HB.out)).2.2.1, (fm_cells (blk_below KAr.out HB.out)).2.2.2.1, (fm_cells (blk_below KAr.out HB.out)).2.2.2.2, (fm_cells (blk_below KBr.out HB.out)).1, (fm_cells (blk_below KBr.out HB.out)).2.1, (fm_cells (blk_below KBr.out HB.out)).2.2.1, (fm_cells (blk_below KBr.out HB.out)).2.2.2.1, (fm_cells (blk_below KBr.out HB.out)).2.2.2.2⟩ (fun hHeld => ?_)
          clear hK K
          refine norm_ (a' := ?_) ?_ ?_
          rotate_left
          · show Act.put _ (some 32) _ = _
            simp only [Act.put, List.setIfInBounds_toArray, List.set_cons_zero, List.set_cons_succ, i64_w, i32_w]
            rfl
          clear bb
          refine pure_ (i := 5) (N := some 27) (v := ?_) (a' := ?_) #[true, true, true, true, true, true, false, false, true, false, false] rfl rfl (by kernel_rfl) (fun _ _ _ h => h) (Or.inl ⟨by rfl, ?_⟩) ?_ ?_
          rotate_left
          · intro w'
            go_simp
            with_reducible rfl
          rotate_left
          · simp only [Act.put, List.setIfInBounds_toArray, List.set_cons_zero, List.set_cons_succ, i64_w, i32_w]
            rfl
          refine pure_ (i := 6) (N := some 33) (v := ?_) (a' := ?_) #[true, true, true, true, true, true, true, false, true, false, false] rfl rfl (by kernel_rfl) (fun _ _ _ h => h) (Or.inl ⟨by rfl, ?_⟩) ?_ ?_
          rotate_left
          · intro w'
            go_simp
            with_reducible rfl
          rotate_left
          · simp only [Act.put, List.setIfInBounds_toArray, List.set_cons_zero, List.set_cons_succ, i64_w, i32_w]
            rfl
          refine pure_ (i := 7) (N := some 34) (v := ?_) (a' := ?_) #[true, true, true, true, true, true, true, true, true, false, false] rfl rfl (by kernel_rfl) (fun _ _ _ h => h) (Or.inl ⟨by rfl, ?_⟩) ?_ ?_
          rotate_left
          · intro w'
            go_simp
            with_reducible rfl
          rotate_left
          · simp only [Act.put, List.setIfInBounds_toArray, List.set_cons_zero, List.set_cons_succ, i64_w, i32_w]
            rfl
          exact norm_ (by simp only [putAll, Act.put, List.setIfInBounds_toArray, List.set_cons_zero, List.set_cons_succ]) (hCont (.agg #[.int .i64 x.f0, .string x.f1, .int .i64 x.f2, .slice P3 x.f3.length Pc3, .slice P4 x.f4.length Pc4], .agg #[.int .i64 m.f0, .string m.f1, .int .i64 m.f2, .slice R3 m.f3.length Rc3, .slice R4 m.f4.length Rc4], .agg #[.int .i64 z.f0, .string z.f1, .int .i64 z.f2, .slice U3 z.f3.length Uc3, .slice U4 z.f4.length Uc4], g3) _ ⟨HB.out, hbox, hge, U3, Uc3, U4, Uc4, rfl, (FmP.ofS (P := fun b => b ≠ g3) hs (fun b h1 h2 => by omega))⟩)
      · refine box_step ?hg (N := 6) ?hd (cs := #[.int .i64 0, .string ⟨#[]⟩, .int .i64 0, .slice none 0 0, .slice none 0 0]) (t := 29) ?hr ?_; (case hd => rfl); (case hg => rfl); (case hr => first | (go_simp; done) | (go_simp; rfl))
        intro g3 hg3 wdc0y hbox bb
        have hge : w2.heap.size ≤ g3 := hg3 ▸ HB.out.size
        have HB0 := HB
        replace HB := Lib.hid (below_step HB.out bb)
        refine hK.out _ _ ⟨(fm_cells (blk_below KAr.out HB.out)).1, (fm_cells (blk_below KAr.out HB.out)).2.1, (fm_cells (blk_below KAr.out HB.out)).2.2.1, (fm_cells (blk_below KAr.out HB.out)).2.2.2.1, (fm_cells (blk_below KAr.out HB.out)).2.2.2.2, (fm_cells (blk_below KBr.out HB.out)).1, (fm_cells (blk_below KBr.out HB.out)).2.1, (fm_cells (blk_below KBr.out HB.out)).2.2.1, (fm_cells (blk_below KBr.out HB.out)).2.2.2.1, (fm_cells (blk_below KBr.out HB.out)).2.2.2.2⟩ (fun hHeld => ?_)
        clear hK K
        refine norm_ (a' := ?_) ?_ ?_
        rotate_left
        · show Act.put _ (some 6) _ = _
          simp only [Act.put, List.setIfInBounds_toArray, List.set_cons_zero, List.set_cons_succ, i64_w, i32_w]
          rfl
        replace IP := Lib.hid (IP.out.below bb)
        clear bb
        refine one_ (i := 3) (N := some 31) #[true, true, true, true, false, false, false, false, true, false, false] rfl rfl (by kernel_rfl) (by decide) (fun K hK => ?_)
        refine goes_ Try.func16 (by kernel_rfl) rfl #[.agg #[.int .i64 m.f0, .string m.f1, .int .i64 m.f2, .slice B3 m.f3.length Bc3, .slice B4 m.f4.length Bc4]] (by rfl) rfl rfl (by (try simp only [List.map_toArray, List.map_cons, List.map_nil]); first | done | rfl) ?_
        refine (toFormO m B3 Bc3 B4 Bc4 wdc0y (HJ.out.below (below_step BW.out HB.out)) hqm).mono ?_
        rintro e wdc0yc1 ⟨R3, Rc3, R4, Rc4, fr, rfl, o, bb⟩
        have IR := Lib.hid o.now
        replace IP := Lib.hid (IP.out.below bb)
        clear o
        refine ⟨_, rfl, ?_⟩
        replace HB := Lib.hid (below_step HB.out bb)
        replace hbox := blk_below hbox bb
        refine hK.out _ _ ⟨(fm_cells (blk_below KAr.out HB.out)).1, (fm_cells (blk_below KAr.out HB.out)).2.1, (fm_cells (blk_below KAr.out HB.out)).2.2.1, (fm_cells (blk_below KAr.out HB.out)).2.2.2.1, (fm_cells (blk_below KAr.out HB.out)).2.2.2.2, (fm_cells (blk_below KBr.out HB.out)).1, (fm_cells (blk_below KBr.out HB.out)).2.1, (fm_cells (blk_below KBr.out HB.out)).2.2.1, (fm_cells (blk_below KBr.out HB.out)).2.2.2.1, (fm_cells (blk_below KBr.out HB.out)).2.2.2.2⟩ (fun hHeld => ?_)
        clear hK K
        refine norm_ (a' := ?_) ?_ ?_
        rotate_left
        · show Act.put _ (some 31) _ = _
          simp only [Act.put, List.setIfInBounds_toArray, List.set_cons_zero, List.set_cons_succ, i64_w, i32_w]
          rfl
        clear bb
        refine one_ (i := 4) (N := some 32) #[true, true, true, true, true, false, false, false, true, false, false] rfl rfl (by kernel_rfl) (by decide) (fun K hK => ?_)
        have hlt := blk_lt hbox
        refine goes_ Try.func30 (by kernel_rfl) rfl #[.agg #[.int .i64 x.f0, .string x.f1, .int .i64 x.f2, .slice P3 x.f3.length Pc3, .slice P4 x.f4.length Pc4], .agg #[.int .i64 m.f0, .string m.f1, .int .i64 m.f2, .slice R3 m.f3.length Rc3, .slice R4 m.f4.length Rc4]] (by rfl) rfl rfl (by (try simp only [List.map_toArray, List.map_cons, List.map_nil]); first | done | rfl) ?_
        refine (specDressO HZT.out.1 P3 Pc3 P4 Pc4 R3 Rc3 R4 Rc4 wdc0yc1 IP.out IR.out hq hqm).mono ?_
        rintro e wdc0yc1c2 ⟨U3, Uc3, U4, Uc4, rfl, hs, bb⟩
        refine ⟨_, rfl, ?_⟩
        replace HB := Lib.hid (below_step HB.out bb)
        replace hbox := blk_below hbox bb
        refine hK.out _ _ ⟨(fm_cells (blk_below KAr.out HB.out)).1, (fm_cells (blk_below KAr.out HB.out)).2.1, (fm_cells (blk_below KAr.out HB.out)).2.2.1, (fm_cells (blk_below KAr.out HB.out)).2.2.2.1, (fm_cells (blk_below KAr.out HB.out)).2.2.2.2, (fm_cells (blk_below KBr.out HB.out)).1, (fm_cells (blk_below KBr.out HB.out)).2.1, (fm_cells (blk_below KBr.out HB.out)).2.2.1, (fm_cells (blk_below KBr.out HB.out)).2.2.2.1, (fm_cells (blk_below KBr.out HB.out)).2.2.2.2⟩ (fun hHeld => ?_)
        clear hK K
        refine norm_ (a' := ?_) ?_ ?_
        rotate_left
        · show Act.put _ (some 32) _ = _
          simp only [Act.put, List.setIfInBounds_toArray, List.set_cons_zero, List.set_cons_succ, i64_w, i32_w]
          rfl
        clear bb
        refine pure_ (i := 5) (N := some 27) (v := ?_) (a' := ?_) #[true, true, true, true, true, true, false, false, true, false, false] rfl rfl (by kernel_rfl) (fun _ _ _ h => h) (Or.inl ⟨by rfl, ?_⟩) ?_ ?_
        rotate_left
        · intro w'
          go_simp
          with_reducible rfl
        rotate_left
        · simp only [Act.put, List.setIfInBounds_toArray, List.set_cons_zero, List.set_cons_succ, i64_w, i32_w]
          rfl
        refine pure_ (i := 6) (N := some 33) (v := ?_) (a' := ?_) #[true, true, true, true, true, true, true, false, true, false, false] rfl rfl (by kernel_rfl) (fun _ _ _ h => h) (Or.inl ⟨by rfl, ?_⟩) ?_ ?_
        rotate_left
        · intro w'
          go_simp
          with_reducible rfl
        rotate_left
        · simp only [Act.put, List.setIfInBounds_toArray, List.set_cons_zero, List.set_cons_succ, i64_w, i32_w]
          rfl
        refine pure_ (i := 7) (N := some 34) (v := ?_) (a' := ?_) #[true, true, true, true, true, true, true, true, true, false, false] rfl rfl (by kernel_rfl) (fun _ _ _ h => h) (Or.inl ⟨by rfl, ?_⟩) ?_ ?_
        rotate_left
        · intro w'
          go_simp
          with_reducible rfl
        rotate_left
        · simp only [Act.put, List.setIfInBounds_toArray, List.set_cons_zero, List.set_cons_succ, i64_w, i32_w]
          rfl
        exact norm_ (by simp only [putAll, Act.put, List.setIfInBounds_toArray, List.set_cons_zero, List.set_cons_succ]) (hCont (.agg #[.int .i64 x.f0, .string x.f1, .int .i64 x.f2, .slice P3 x.f3.length Pc3, .slice P4 x.f4.length Pc4], .agg #[.int .i64 m.f0, .string m.f1, .int .i64 m.f2, .slice R3 m.f3.length Rc3, .slice R4 m.f4.length Rc4], .agg #[.int .i64 z.f0, .string z.f1, .int .i64 z.f2, .slice U3 z.f3.length Uc3, .slice U4 z.f4.length Uc4], g3) _ ⟨HB.out, hbox, hge, U3, Uc3, U4, Uc4, rfl, (FmP.ofS (P := fun b => b ≠ g3) hs (fun b h1 h2 => by omega))⟩)
    · refine box_step ?hg (N := 6) ?hd (cs := #[.int .i64 0, .string ⟨#[]⟩, .int .i64 0, .slice none 0 0, .slice none 0 0]) (t := 29) ?hr ?_; (case hd => rfl); (case hg => rfl); (case hr => first | (go_simp; done) | (go_simp; rfl))
      intro g3 hg3 wdy hbox bb
      have hge : w2.heap.size ≤ g3 := hg3 ▸ HB.out.size
      have HB0 := HB
      replace HB := Lib.hid (below_step HB.out bb)
      refine hK.out _ _ ⟨(fm_cells (blk_below KAr.out HB.out)).1, (fm_cells (blk_below KAr.out HB.out)).2.1, (fm_cells (blk_below KAr.out HB.out)).2.2.1, (fm_cells (blk_below KAr.out HB.out)).2.2.2.1, (fm_cells (blk_below KAr.out HB.out)).2.2.2.2, (fm_cells (blk_below KBr.out HB.out)).1, (fm_cells (blk_below KBr.out HB.out)).2.1, (fm_cells (blk_below KBr.out HB.out)).2.2.1, (fm_cells (blk_below KBr.out HB.out)).2.2.2.1, (fm_cells (blk_below KBr.out HB.out)).2.2.2.2⟩ (fun hHeld => ?_)
      clear hK K
      refine norm_ (a' := ?_) ?_ ?_
      rotate_left
      · show Act.put _ (some 6) _ = _
        simp only [Act.put, List.setIfInBounds_toArray, List.set_cons_zero, List.set_cons_succ, i64_w, i32_w]
        rfl
      clear bb
      refine one_ (i := 1) (N := some 29) #[true, true, true, false, false, false, false, false, true, false, false] rfl rfl (by kernel_rfl) (by decide) (fun K hK => ?_)
      refine goes_ Try.func16 (by kernel_rfl) rfl #[.agg #[.int .i64 x.f0, .string x.f1, .int .i64 x.f2, .slice A3 x.f3.length Ac3, .slice A4 x.f4.length Ac4]] (by rfl) rfl rfl (by (try simp only [List.map_toArray, List.map_cons, List.map_nil]); first | done | rfl) ?_
      refine (toFormO x A3 Ac3 A4 Ac4 wdy (HI.out.below (below_step BW.out HB.out)) hq).mono ?_
      rintro e wdyc0 ⟨P3, Pc3, P4, Pc4, fp, rfl, o, bb⟩
      have IP := Lib.hid o.now
      clear o
      refine ⟨_, rfl, ?_⟩
      replace HB := Lib.hid (below_step HB.out bb)
      replace hbox := blk_below hbox bb
      refine hK.out _ _ ⟨(fm_cells (blk_below KAr.out HB.out)).1, (fm_cells (blk_below KAr.out HB.out)).2.1, (fm_cells (blk_below KAr.out HB.out)).2.2.1, (fm_cells (blk_below KAr.out HB.out)).2.2.2.1, (fm_cells (blk_below KAr.out HB.out)).2.2.2.2, (fm_cells (blk_below KBr.out HB.out)).1, (fm_cells (blk_below KBr.out HB.out)).2.1, (fm_cells (blk_below KBr.out HB.out)).2.2.1, (fm_cells (blk_below KBr.out HB.out)).2.2.2.1, (fm_cells (blk_below KBr.out HB.out)).2.2.2.2⟩ (fun hHeld => ?_)
      clear hK K
      refine norm_ (a' := ?_) ?_ ?_
      rotate_left
      · show Act.put _ (some 29) _ = _
        simp only [Act.put, List.setIfInBounds_toArray, List.set_cons_zero, List.set_cons_succ, i64_w, i32_w]
        rfl
      clear bb
      refine one_ (i := 3) (N := some 31) #[true, true, true, true, false, false, false, false, true, false, false] rfl rfl (by kernel_rfl) (by decide) (fun K hK => ?_)
      refine goes_ Try.func16 (by kernel_rfl) rfl #[.agg #[.int .i64 m.f0, .string m.f1, .int .i64 m.f2, .slice B3 m.f3.length Bc3, .slice B4 m.f4.length Bc4]] (by rfl) rfl rfl (by (try simp only [List.map_toArray, List.map_cons, List.map_nil]); first | done | rfl) ?_
      refine (toFormO m B3 Bc3 B4 Bc4 wdyc0 (HJ.out.below (below_step BW.out HB.out)) hqm).mono ?_
      rintro e wdyc0c1 ⟨R3, Rc3, R4, Rc4, fr, rfl, o, bb⟩
      have IR := Lib.hid o.now
      replace IP := Lib.hid (IP.out.below bb)
      clear o
      refine ⟨_, rfl, ?_⟩
      replace HB := Lib.hid (below_step HB.out bb)
      replace hbox := blk_below hbox bb
      refine hK.out _ _ ⟨(fm_cells (blk_below KAr.out HB.out)).1, (fm_cells (blk_below KAr.out HB.out)).2.1, (fm_cells (blk_below KAr.out HB.out)).2.2.1, (fm_cells (blk_below KAr.out HB.out)).2.2.2.1, (fm_cells (blk_below KAr.out HB.out)).2.2.2.2, (fm_cells (blk_below KBr.out HB.out)).1, (fm_cells (blk_below KBr.out HB.out)).2.1, (fm_cells (blk_below KBr.out HB.out)).2.2.1, (fm_cells (blk_below KBr.out HB.out)).2.2.2.1, (fm_cells (blk_below KBr.out HB.out)).2.2.2.2⟩ (fun hHeld => ?_)
      clear hK K
      refine norm_ (a' := ?_) ?_ ?_
      rotate_left
      · show Act.put _ (some 31) _ = _
        simp only [Act.put, List.setIfInBounds_toArray, List.set_cons_zero, List.set_cons_succ, i64_w, i32_w]
        rfl
      clear bb
      refine one_ (i := 4) (N := some 32) #[true, true, true, true, true, false, false, false, true, false, false] rfl rfl (by kernel_rfl) (by decide) (fun K hK => ?_)
      have hlt := blk_lt hbox
      refine goes_ Try.func30 (by kernel_rfl) rfl #[.agg #[.int .i64 x.f0, .string x.f1, .int .i64 x.f2, .slice P3 x.f3.length Pc3, .slice P4 x.f4.length Pc4], .agg #[.int .i64 m.f0, .string m.f1, .int .i64 m.f2, .slice R3 m.f3.length Rc3, .slice R4 m.f4.length Rc4]] (by rfl) rfl rfl (by (try simp only [List.map_toArray, List.map_cons, List.map_nil]); first | done | rfl) ?_
      refine (specDressO HZT.out.1 P3 Pc3 P4 Pc4 R3 Rc3 R4 Rc4 wdyc0c1 IP.out IR.out hq hqm).mono ?_
      rintro e wdyc0c1c2 ⟨U3, Uc3, U4, Uc4, rfl, hs, bb⟩
      refine ⟨_, rfl, ?_⟩
      replace HB := Lib.hid (below_step HB.out bb)
      replace hbox := blk_below hbox bb
      refine hK.out _ _ ⟨(fm_cells (blk_below KAr.out HB.out)).1, (fm_cells (blk_below KAr.out HB.out)).2.1, (fm_cells (blk_below KAr.out HB.out)).2.2.1, (fm_cells (blk_below KAr.out HB.out)).2.2.2.1, (fm_cells (blk_below KAr.out HB.out)).2.2.2.2, (fm_cells (blk_below KBr.out HB.out)).1, (fm_cells (blk_below KBr.out HB.out)).2.1, (fm_cells (blk_below KBr.out HB.out)).2.2.1, (fm_cells (blk_below KBr.out HB.out)).2.2.2.1, (fm_cells (blk_below KBr.out HB.out)).2.2.2.2⟩ (fun hHeld => ?_)
      clear hK K
      refine norm_ (a' := ?_) ?_ ?_
      rotate_left
      · show Act.put _ (some 32) _ = _
        simp only [Act.put, List.setIfInBounds_toArray, List.set_cons_zero, List.set_cons_succ, i64_w, i32_w]
        rfl
      clear bb
      refine pure_ (i := 5) (N := some 27) (v := ?_) (a' := ?_) #[true, true, true, true, true, true, false, false, true, false, false] rfl rfl (by kernel_rfl) (fun _ _ _ h => h) (Or.inl ⟨by rfl, ?_⟩) ?_ ?_
      rotate_left
      · intro w'
        go_simp
        with_reducible rfl
      rotate_left
      · simp only [Act.put, List.setIfInBounds_toArray, List.set_cons_zero, List.set_cons_succ, i64_w, i32_w]
        rfl
      refine pure_ (i := 6) (N := some 33) (v := ?_) (a' := ?_) #[true, true, true, true, true, true, true, false, true, false, false] rfl rfl (by kernel_rfl) (fun _ _ _ h => h) (Or.inl ⟨by rfl, ?_⟩) ?_ ?_
      rotate_left
      · intro w'
        go_simp
        with_reducible rfl
      rotate_left
      · simp only [Act.put, List.setIfInBounds_toArray, List.set_cons_zero, List.set_cons_succ, i64_w, i32_w]
        rfl
      refine pure_ (i := 7) (N := some 34) (v := ?_) (a' := ?_) #[true, true, true, true, true, true, true, true, true, false, false] rfl rfl (by kernel_rfl) (fun _ _ _ h => h) (Or.inl ⟨by rfl, ?_⟩) ?_ ?_
      rotate_left
      · intro w'
        go_simp
        with_reducible rfl
      rotate_left
      · simp only [Act.put, List.setIfInBounds_toArray, List.set_cons_zero, List.set_cons_succ, i64_w, i32_w]
        rfl
      exact norm_ (by simp only [putAll, Act.put, List.setIfInBounds_toArray, List.set_cons_zero, List.set_cons_succ]) (hCont (.agg #[.int .i64 x.f0, .string x.f1, .int .i64 x.f2, .slice P3 x.f3.length Pc3, .slice P4 x.f4.length Pc4], .agg #[.int .i64 m.f0, .string m.f1, .int .i64 m.f2, .slice R3 m.f3.length Rc3, .slice R4 m.f4.length Rc4], .agg #[.int .i64 z.f0, .string z.f1, .int .i64 z.f2, .slice U3 z.f3.length Uc3, .slice U4 z.f4.length Uc4], g3) _ ⟨HB.out, hbox, hge, U3, Uc3, U4, Uc4, rfl, (FmP.ofS (P := fun b => b ≠ g3) hs (fun b h1 h2 => by omega))⟩)
end Go.Proofs.Ytnaefjilcabkoaa
end
section
namespace Go.Proofs.Ytnaefjilcabkoaa.fnExactDressLike
open Go.ChangeShapes Go.WideShapes Go.ChangeAt Go.RowKit Go.Proofs.Ytnaefjilcabkoaa
open Go.ChangeMaps (open_string shut_string)
set_option linter.unusedVariables false
theorem own : ownKnob Try.prog.godebug = none := by kernel_rfl
theorem laidOut : laidOutB Try.prog = true := by kernel_rfl
set_option maxRecDepth 100000 in
theorem lifted (os : Os) (started : os.Started) (H : Type) (enc : TypeId × Value → H) :
    ReturnsInHanded {} Try.checked os 7 .any (Rows.fnExactDressLikeSpec.pre6 enc Try.prog Try.f7 Rows.fnExactDressLikeRow.domain false) (Rows.fnExactDressLikeSpec.post enc Try.prog Try.f7 false true false false) := by
  refine returnsInHanded_of_change_sized (C := Try.checked) own started (by kernel_rfl) Try.func7
    (ChangeSpec.witness6 (enc := enc) (C := Try.checked) false ⟨#[], #[.agg #[.int .i64 0, .string ByteArray.empty, .int .i64 0, .slice none 0 0, .slice none 0 0], .agg #[.int .i64 0, .string ByteArray.empty, .int .i64 0, .slice none 0 0, .slice none 0 0]], []⟩ 8 (by kernel_rfl) (by kernel_rfl) (by kernel_rfl) (by kernel_rfl)) ?_
  intro W base args ds gs before hval0 hW hcnd hsz0 _
  have hsz : (DataW.weightsEach Try.prog (Try.f7.params.toList ++ Rows.fnExactDressLikeSpec.plain.varTypes Try.prog) (ds ++ gs)).all (· ≤ reachBytes) = true := hsz0
  have hval : ∀ (j : Nat) t v, Try.f7.params[j]? = some t → args[j]? = some v → Value.okWide Try.prog W .any base t v := hval0
  have hW' := hW
  obtain ⟨p, q, hA0, hV, rfl, hfz, hnd⟩ := hW
  have hA : DataW.TrodAll enc Try.prog W 0 (fun _ => true) true Try.f7.params.toList args.toList ds p := hA0
  rw [Try.params7] at hA hval hsz
  obtain ⟨v0, vs0, d0, ds0, p0, q0, hargs, rfl, rfl, h0, r0⟩ := trodAll_cons hA
  obtain ⟨v1, vs1, d1, ds1, p1, q1, rfl, rfl, rfl, h1, r1⟩ := trodAll_cons r0
  obtain ⟨rfl, rfl, rfl⟩ := trodAll_nil r1
  obtain rfl : args = #[v0, v1] := by cases args; simp_all
  obtain ⟨rfl, rfl⟩ := trodVars_none hV
  have k0 := h0
  have lt0 : ∀ x ∈ p0, x.block < W.heap.size := by obtain ⟨m, hm⟩ := k0; exact DataW.trod_lt m _ _ _ hm
  obtain ⟨x0, A0, c0, B0, e0, rfl, i0, z0⟩ := open_form (hval 0 25 v0 rfl rfl) h0
  have k1 := h1
  have lt1 : ∀ x ∈ p1, x.block < W.heap.size := by obtain ⟨m, hm⟩ := k1; exact DataW.trod_lt m _ _ _ hm
  obtain ⟨x1, A1, c1, B1, e1, rfl, i1, z1⟩ := open_form (hval 1 25 v1 rfl rfl) h1
  clear hA0 hval0 hsz0 hsz
  refine (fnExactDressLike_walk x0 A0 c0 B0 e0 x1 A1 c1 B1 e1 W i0 z0 i1 z1).mono fun e W' ⟨he, bel⟩ => ?_
  subst he
  exact ⟨_, rfl, _, _, _, [], _, [], hW', trodAll_mk1 (shut_bool Try.underlying4 _), (trodAll_cons_mk (Below.trod laidOut (by kernel_rfl) (of_decide_eq_true (by kernel_rfl)) k0 bel lt0) (trodAll_cons_mk (Below.trod laidOut (by kernel_rfl) (of_decide_eq_true (by kernel_rfl)) k1 bel lt1) trodAll_mk0)), rfl, bel.frame _, fun h => by cases h⟩
set_option maxRecDepth 100000 in
theorem closed : joinedFacts Try.prog 7 Try.f7 Rows.fnExactDressLikeSpec Rows.fnExactDressLikeRow = true := by
  unfold joinedFacts
  refine Bool.and_eq_true_iff.2 ⟨Bool.and_eq_true_iff.2 ⟨Bool.and_eq_true_iff.2 ⟨Bool.and_eq_true_iff.2 ⟨Bool.and_eq_true_iff.2 ⟨Bool.and_eq_true_iff.2 ⟨Bool.and_eq_true_iff.2 ⟨?_, mayEnter_yes⟩, (congrArg (fun b => Rows.fnExactDressLikeRow.lifted == b) liftsFinal_no).trans (by kernel_rfl)⟩, (congrArg (fun b => b == some Rows.fnExactDressLikeRow.make) make_cut).trans (by kernel_rfl)⟩, ?_⟩, ?_⟩, ?_⟩, ?_⟩
  all_goals kernel_rfl
theorem over : Rows.fnExactDressLikeRow.holds Try.pinned (OpenSpec.ofChange Rows.fnExactDressLikeSpec) :=
  OpenClaim.holds_of_wide 7 Try.f7 rfl rfl rfl rfl rfl rfl rfl ⟨rfl, rfl, rfl, rfl, rfl⟩ rfl rfl rfl rfl rfl (by kernel_rfl) Try.func7 closed
    (of_decide_eq_true (by kernel_rfl)) (by unfold Func.isWrapper; first | (rw [if_pos (by decide +kernel)]; kernel_rfl) | (rw [if_neg (by decide +kernel)]; exact ⟨rfl, rfl⟩))
    (fun os started H enc _ => lifted os started H enc)
end Go.Proofs.Ytnaefjilcabkoaa.fnExactDressLike
namespace Go.Proofs.Ytnaefjilcabkoaa
/-- The row. -/
theorem fnExactDressLike_holds : Rows.FnExactDressLikeSaid := fnExactDressLike.over
#print axioms fnExactDressLike_holds
end Go.Proofs.Ytnaefjilcabkoaa
end
