/- The law FnExactFormSame returns true: the program's FormSame returns what the reference's returns, and leaves its arguments alone. No condition. -/
import Derived.Test.YthjnbladlgkmnaaSz
import Derived.Test.YthjnbladlgkmnaaTo
import Derived.Test.YthjnbladlgkmnaaEq
import Derived.Test.YthjnbladlgkmnaaSame
import Derived.Test.YthjnbladlgkmnaaWFnExactFormSize
import Derived.Deep.RegionHeld3
namespace Go.Proofs.Ythjnbladlgkmnaa
open Go.RowKit Go.Proofs.YthjnbladlgkmnaaW.PrintWords Go.Proofs.YthjnbladlgkmnaaW.PrintLast Go.Proofs.YthjnbladlgkmnaaW.PrintMore
set_option linter.unusedVariables false
theorem keep10 {w1 w2 : World} (hb : Below w1.heap.size w1 w2) {a0 a1 a2 a3 a4 a5 a6 a7 a8 a9 : Addr} {v0 v1 v2 v3 v4 v5 v6 v7 v8 v9 : Value} (h : w1.cell? a0 = some v0 ∧ w1.cell? a1 = some v1 ∧ w1.cell? a2 = some v2 ∧ w1.cell? a3 = some v3 ∧ w1.cell? a4 = some v4 ∧ w1.cell? a5 = some v5 ∧ w1.cell? a6 = some v6 ∧ w1.cell? a7 = some v7 ∧ w1.cell? a8 = some v8 ∧ w1.cell? a9 = some v9) : w2.cell? a0 = some v0 ∧ w2.cell? a1 = some v1 ∧ w2.cell? a2 = some v2 ∧ w2.cell? a3 = some v3 ∧ w2.cell? a4 = some v4 ∧ w2.cell? a5 = some v5 ∧ w2.cell? a6 = some v6 ∧ w2.cell? a7 = some v7 ∧ w2.cell? a8 = some v8 ∧ w2.cell? a9 = some v9 :=
  let ⟨h0, h1, h2, h3, h4, h5, h6, h7, h8, h9⟩ := h
  ⟨ck0 hb h0, ck0 hb h1, ck0 hb h2, ck0 hb h3, ck0 hb h4, ck0 hb h5, ck0 hb h6, ck0 hb h7, ck0 hb h8, ck0 hb h9⟩
set_option maxHeartbeats 4000000 in
set_option maxRecDepth 100000 in
theorem fnExactFormSame_walk (x : Fm) (A3 : Option Addr) (c3 : Nat) (A4 : Option Addr) (c4 : Nat) (y : Fm) (B3 : Option Addr) (d3 : Nat) (B4 : Option Addr) (d4 : Nat) (w : World) (hin : FmIn w x A3 c3 A4 c4) (hnm : NmSmall x) (hin2 : FmIn w y B3 d3 B4 d4) (hnm2 : NmSmall y) :
    Calls Try.prog 7 #[.agg #[.int .i64 x.kind, .string x.name, .int .i64 x.num, .slice A3 x.sc.length c3, .slice A4 x.kids.length c4], .agg #[.int .i64 y.kind, .string y.name, .int .i64 y.num, .slice B3 y.sc.length d3, .slice B4 y.kids.length d4]] w fun e w' => e = .returned (.bool true) ∧ Below w.heap.size w w' := by
  have HZ := Lib.hid (fun W hb => szForm_any x A3 c3 A4 c4 1048576 W (hin.below hb) hnm (by omega) (by omega))
  have HZ2 := Lib.hid (fun W hb (hq : x.tot ≤ 1048576) => szForm_any y B3 d3 B4 d4 (1048576 - (x.tot : Int)) W (hin2.below hb) hnm2 (by omega) (by omega))
  have HI := Lib.hid hin
  have HI2 := Lib.hid hin2
  clear hin hin2
  go_enter Try.func7, Try.ntmps7
  go_wp2_with fail
  refine (HZ.out _ (below_step (below_new _ _) (below_new _ _))).mono ?_
  rintro e w1 ⟨rfl, hb1⟩
  obtain ⟨k1, l1, b1⟩ := two_new hb1
  clear hb1
  obtain ⟨p0, p1, p2, p3, p4⟩ := fm_cells k1
  obtain ⟨q0, q1, q2, q3, q4⟩ := fm_cells l1
  by_cases hq : x.tot ≤ 1048576
  · rw [szR_yes (by omega)]
    have hd : decide ((1048576 : Int) - (x.tot : Int) < 0) = false := decide_eq_false (by omega)
    go_wp2_with fail
    refine (HZ2.out _ b1 hq).mono ?_
    rintro e w2 ⟨rfl, hb2⟩
    have k2 := blk_below k1 hb2
    have l2 := blk_below l1 hb2
    have b2 := below_step b1 hb2
    clear hb2 k1 l1 b1 p0 p1 p2 p3 p4 q0 q1 q2 q3 q4
    obtain ⟨p0, p1, p2, p3, p4⟩ := fm_cells k2
    obtain ⟨q0, q1, q2, q3, q4⟩ := fm_cells l2
    by_cases hq2 : (y.tot : Int) ≤ 1048576 - (x.tot : Int)
    · rw [szR_yes hq2]
      have hd2 : decide ((1048576 : Int) - (x.tot : Int) - (y.tot : Int) < 0) = false := decide_eq_false (by omega)
      have HT := Lib.hid (fun W hb => toForm_any x A3 c3 A4 c4 W (HI.out.below hb) hq)
      have HT2 := Lib.hid (fun W hb => toForm_any y B3 d3 B4 d4 W (HI2.out.below hb) (by omega))
      have B2 := Lib.hid b2
      go_wp2_with fail
      go_region_held3 (fun w' => w'.cell? ⟨w.heap.size, 0, none⟩ = some (.int .i64 x.kind) ∧ w'.cell? ⟨w.heap.size, 1, none⟩ = some (.string x.name) ∧ w'.cell? ⟨w.heap.size, 2, none⟩ = some (.int .i64 x.num) ∧ w'.cell? ⟨w.heap.size, 3, none⟩ = some (.slice A3 x.sc.length c3) ∧ w'.cell? ⟨w.heap.size, 4, none⟩ = some (.slice A4 x.kids.length c4) ∧ w'.cell? ⟨w.heap.size + 1, 0, none⟩ = some (.int .i64 y.kind) ∧ w'.cell? ⟨w.heap.size + 1, 1, none⟩ = some (.string y.name) ∧ w'.cell? ⟨w.heap.size + 1, 2, none⟩ = some (.int .i64 y.num) ∧ w'.cell? ⟨w.heap.size + 1, 3, none⟩ = some (.slice B3 y.sc.length d3) ∧ w'.cell? ⟨w.heap.size + 1, 4, none⟩ = some (.slice B4 y.kids.length d4)) (first | go_keep | exact keep10 (below_step (Below.refl _ _).drew hba) ⟨p0, p1, p2, p3, p4, q0, q1, q2, q3, q4⟩ | exact keep10 (below_step (Below.refl _ _).drew hbb) ⟨p0, p1, p2, p3, p4, q0, q1, q2, q3, q4⟩ | exact keep10 (below_step (below_step (Below.refl _ _).drew hba) hbb) ⟨p0, p1, p2, p3, p4, q0, q1, q2, q3, q4⟩ | exact keep10 (below_step (below_step (Below.refl _ _).drew hbb) hba) ⟨p0, p1, p2, p3, p4, q0, q1, q2, q3, q4⟩ | exact keep10 (below_step (below_step (below_step (Below.refl _ _).drew hba) hbb) hbs) ⟨p0, p1, p2, p3, p4, q0, q1, q2, q3, q4⟩ | exact keep10 (below_step (below_step (below_step (Below.refl _ _).drew hbb) hba) hbs) ⟨p0, p1, p2, p3, p4, q0, q1, q2, q3, q4⟩)
        ((first
          | (go_at_call 36; (with_reducible refine Calls.mono (HT.out _ ?_) ?_); (first | exact B2.out.drew | exact below_step B2.out.drew hbb); intro e wa hr; obtain ⟨E3, g3, E4, g4, rfl, ia, hba⟩ := hr.open)
          | (go_at_call 36; (with_reducible refine Calls.mono (HT2.out _ ?_) ?_); (first | exact B2.out.drew | exact below_step B2.out.drew hba); intro e wb hr2; obtain ⟨F3, h3, F4, h4, rfl, ib, hbb⟩ := hr2.open)
          | (go_at_call 39; refine (specSame_any x y _ _ _ _ _ _ _ _ _ (by first | exact ia | exact ia.below hbb) (by first | exact ib | exact ib.below hba)).mono ?_; rintro e ws ⟨rfl, hbs⟩)))
      have bs := below_step (below_step (below_step (Below.refl _ _).drew hba) hbb) hbs
      have k3 := blk_below k2 bs
      have l3 := blk_below l2 bs
      have b3 := below_step b2 bs
      clear hba hbb hbs ia ib bs k2 l2 b2 B2 p0 p1 p2 p3 p4 q0 q1 q2 q3 q4 hr hr2
      generalize hE : eqB x y = E
      have HE := Lib.hid hE
      clear hE
      obtain ⟨p0, p1, p2, p3, p4⟩ := fm_cells k3
      go_wp2_with fail
      refine (HT.out _ b3).mono ?_
      intro e w4 hr
      obtain ⟨C3, f3, C4, f4, rfl, i4, hb4⟩ := hr.open
      have k4 := blk_below k3 hb4
      have l4 := blk_below l3 hb4
      have b4 := below_step b3 hb4
      clear hr hb4 k3 l3 b3 p0 p1 p2 p3 p4
      have hn := below_new w4 (.cells #[.int .i64 x.kind, .string x.name, .int .i64 x.num, .slice C3 x.sc.length f3, .slice C4 x.kids.length f4] 34)
      obtain ⟨q0, q1, q2, q3, q4⟩ := fm_cells (blk_below l4 hn)
      have hb5 := below_step b4 hn
      go_wp2_with fail
      refine (HT2.out _ hb5).mono ?_
      intro e w5 hr
      obtain ⟨D3, e3, D4, e4, rfl, i5, hb6⟩ := hr.open
      obtain ⟨m5, c5⟩ := one_new hb6
      have k5 := blk_below k4 c5
      have l5 := blk_below l4 c5
      have b5 := below_step b4 c5
      have i45 := i4.below c5
      clear hr hb6 hb5 hn k4 l4 b4 q0 q1 q2 q3 q4 i4 c5
      have hn := below_new w5 (.cells #[.int .i64 y.kind, .string y.name, .int .i64 y.num, .slice D3 y.sc.length e3, .slice D4 y.kids.length e4] 34)
      have HI := Lib.hid (implSame_any x y C3 f3 C4 f4 D3 e3 D4 e4 _ (i45.below hn) (i5.below hn))
      obtain ⟨p0, p1, p2, p3, p4⟩ := fm_cells (blk_below m5 hn)
      clear hn
      go_wp2_with fail
      refine HI.out.mono ?_
      rintro e w6 ⟨rfl, hb6⟩
      obtain ⟨n6, c6⟩ := one_new hb6
      have k6 := blk_below k5 c6
      have l6 := blk_below l5 c6
      have m6 := blk_below m5 c6
      have b6 := below_step b5 c6
      have I4 := Lib.hid (i45.below c6)
      have I5 := Lib.hid (i5.below c6)
      clear hb6 k5 l5 m5 b5 i45 i5 c6 p0 p1 p2 p3 p4 HI
      obtain ⟨p0, p1, p2, p3, p4⟩ := fm_cells k6
      obtain ⟨q0, q1, q2, q3, q4⟩ := fm_cells m6
      rw [HE.out]
      have hne : (E != E) = false := by simp
      go_wp2_with fail
      go_region_held3 (fun w' => w'.cell? ⟨w.heap.size, 0, none⟩ = some (.int .i64 x.kind) ∧ w'.cell? ⟨w.heap.size, 1, none⟩ = some (.string x.name) ∧ w'.cell? ⟨w.heap.size, 2, none⟩ = some (.int .i64 x.num) ∧ w'.cell? ⟨w.heap.size, 3, none⟩ = some (.slice A3 x.sc.length c3) ∧ w'.cell? ⟨w.heap.size, 4, none⟩ = some (.slice A4 x.kids.length c4) ∧ w'.cell? ⟨w4.heap.size, 0, none⟩ = some (.int .i64 x.kind) ∧ w'.cell? ⟨w4.heap.size, 1, none⟩ = some (.string x.name) ∧ w'.cell? ⟨w4.heap.size, 2, none⟩ = some (.int .i64 x.num) ∧ w'.cell? ⟨w4.heap.size, 3, none⟩ = some (.slice C3 x.sc.length f3) ∧ w'.cell? ⟨w4.heap.size, 4, none⟩ = some (.slice C4 x.kids.length f4)) (first | go_keep | exact keep10 (below_step (Below.refl _ _).drew hba) ⟨p0, p1, p2, p3, p4, q0, q1, q2, q3, q4⟩ | exact keep10 (below_step (below_step (Below.refl _ _).drew hba) hbs) ⟨p0, p1, p2, p3, p4, q0, q1, q2, q3, q4⟩)
        ((first
          | (go_at_call 36; refine (HT.out _ b6.drew).mono ?_; intro e wa hr; obtain ⟨E3, g3, E4, g4, rfl, ia, hba⟩ := hr.open)
          | (go_at_call 38; refine (eqForm_any x x _ _ _ _ _ _ _ _ _ (I4.out.below (below_step (Below.refl _ _).drew hba)) ia).mono ?_; rintro e ws ⟨rfl, hbs⟩)))
      have bs := below_step (below_step (Below.refl _ _).drew hba) hbs
      have l7 := blk_below l6 bs
      have n7 := blk_below n6 bs
      have b7 := below_step b6 bs
      have I7 := Lib.hid (I5.out.below bs)
      clear hba hbs ia hr k6 l6 m6 n6 b6 I4 I5 p0 p1 p2 p3 p4 q0 q1 q2 q3 q4 bs
      rw [eqB_self]
      obtain ⟨p0, p1, p2, p3, p4⟩ := fm_cells l7
      obtain ⟨q0, q1, q2, q3, q4⟩ := fm_cells n7
      go_wp2_with fail
      go_region_held3 (fun w' => w'.cell? ⟨w.heap.size + 1, 0, none⟩ = some (.int .i64 y.kind) ∧ w'.cell? ⟨w.heap.size + 1, 1, none⟩ = some (.string y.name) ∧ w'.cell? ⟨w.heap.size + 1, 2, none⟩ = some (.int .i64 y.num) ∧ w'.cell? ⟨w.heap.size + 1, 3, none⟩ = some (.slice B3 y.sc.length d3) ∧ w'.cell? ⟨w.heap.size + 1, 4, none⟩ = some (.slice B4 y.kids.length d4) ∧ w'.cell? ⟨w5.heap.size, 0, none⟩ = some (.int .i64 y.kind) ∧ w'.cell? ⟨w5.heap.size, 1, none⟩ = some (.string y.name) ∧ w'.cell? ⟨w5.heap.size, 2, none⟩ = some (.int .i64 y.num) ∧ w'.cell? ⟨w5.heap.size, 3, none⟩ = some (.slice D3 y.sc.length e3) ∧ w'.cell? ⟨w5.heap.size, 4, none⟩ = some (.slice D4 y.kids.length e4)) (first | go_keep | exact keep10 (below_step (Below.refl _ _).drew hba) ⟨p0, p1, p2, p3, p4, q0, q1, q2, q3, q4⟩ | exact keep10 (below_step (below_step (Below.refl _ _).drew hba) hbs) ⟨p0, p1, p2, p3, p4, q0, q1, q2, q3, q4⟩)
        ((first
          | (go_at_call 36; refine (HT2.out _ b7.drew).mono ?_; intro e wa hr; obtain ⟨E3, g3, E4, g4, rfl, ia, hba⟩ := hr.open)
          | (go_at_call 38; refine (eqForm_any y y _ _ _ _ _ _ _ _ _ (I7.out.below (below_step (Below.refl _ _).drew hba)) ia).mono ?_; rintro e ws ⟨rfl, hbs⟩)))
      rw [eqB_self]
      go_wp2_with fail
      go_ret
      exact ⟨rfl, below_step b7 (below_step (below_step (Below.refl _ _).drew hba) hbs)⟩
    · rw [szR_no (by omega)]
      have hd2 : decide ((-1 : Int) < 0) = true := by simp
      go_wp2_with fail
      go_ret
      exact ⟨rfl, b2⟩
  · rw [szR_no (by omega)]
    have hd : decide ((-1 : Int) < 0) = true := by simp
    go_wp2_with fail
    go_ret
    exact ⟨rfl, b1⟩
end Go.Proofs.Ythjnbladlgkmnaa
