/- The law FnExactFormSize returns true: the program's FormSize returns what the reference's returns, and leaves its argument alone. No condition. -/
import Derived.Test.YthjnbladlgkmnaaSz
import Derived.Test.YthjnbladlgkmnaaTo
import Derived.Test.YthjnbladlgkmnaaEq
import Derived.Test.YthjnbladlgkmnaaSize
import Derived.Deep.RegionHeld3
namespace Go.Proofs.Ythjnbladlgkmnaa
open Go.RowKit Go.Proofs.YthjnbladlgkmnaaW.PrintWords Go.Proofs.YthjnbladlgkmnaaW.PrintLast Go.Proofs.YthjnbladlgkmnaaW.PrintMore
set_option linter.unusedVariables false
theorem RetF.open {w w1 : World} {x : Fm} {e : Ending} (h : RetF w x e w1) : ∃ A3 c3 A4 c4, e = .returned (.agg #[.int .i64 x.kind, .string x.name, .int .i64 x.num, .slice A3 x.sc.length c3, .slice A4 x.kids.length c4]) ∧ FmIn w1 x A3 c3 A4 c4 ∧ Below w.heap.size w w1 := by
  obtain ⟨v3, v4, rfl, ⟨fp, ht, _⟩, hb⟩ := h
  obtain ⟨A3, c3, A4, c4, rfl, rfl, hin⟩ := ht.In
  exact ⟨A3, c3, A4, c4, rfl, hin, hb⟩
set_option maxHeartbeats 4000000 in
theorem fnExactFormSize_walk (x : Fm) (A3 : Option Addr) (c3 : Nat) (A4 : Option Addr) (c4 : Nat) (w : World) (hin : FmIn w x A3 c3 A4 c4) (hnm : NmSmall x) :
    Calls Try.prog 6 #[.agg #[.int .i64 x.kind, .string x.name, .int .i64 x.num, .slice A3 x.sc.length c3, .slice A4 x.kids.length c4]] w fun e w' => e = .returned (.bool true) ∧ Below w.heap.size w w' := by
  have HZ := Lib.hid (fun W hb => szForm_any x A3 c3 A4 c4 1048576 W (hin.below hb) hnm (by omega) (by omega))
  have HI := Lib.hid hin
  clear hin
  go_enter Try.func6, Try.ntmps6
  go_wp2_with fail
  refine (HZ.out _ (below_new _ _)).mono ?_
  rintro e w1 ⟨rfl, hb1⟩
  obtain ⟨k1, b1⟩ := one_new hb1
  clear hb1
  obtain ⟨p0, p1, p2, p3, p4⟩ := fm_cells k1
  by_cases hq : x.tot ≤ 1048576
  · rw [szR_yes (by omega)]
    have hd : decide ((1048576 : Int) - (x.tot : Int) < 0) = false := decide_eq_false (by omega)
    have HT := Lib.hid (fun W hb => toForm_any x A3 c3 A4 c4 W (HI.out.below hb) hq)
    go_wp2_with fail
    refine (HT.out _ b1).mono ?_
    intro e w2 hr
    obtain ⟨B3, d3, B4, d4, rfl, i2, hb2⟩ := hr.open
    have k2 := blk_below k1 hb2
    have b2 := below_step b1 hb2
    clear hr hb2 p0 p1 p2 p3 p4 k1 b1
    obtain ⟨p0, p1, p2, p3, p4⟩ := fm_cells k2
    have hsz : x.size < 4611686018427387904 := by have := sizes_totL x; omega
    have HS := Lib.hid (specSize_any x B3 d3 B4 d4 _ i2 hsz)
    clear i2
    go_wp2_with fail
    refine HS.out.mono ?_
    rintro e w3 ⟨rfl, hb3⟩
    have k3 := blk_below k2 hb3
    have b3 := below_step b2 hb3
    clear hb3 k2 b2 p0 p1 p2 p3 p4 HS
    obtain ⟨p0, p1, p2, p3, p4⟩ := fm_cells k3
    go_wp2_with fail
    refine (HT.out _ b3).mono ?_
    intro e w4 hr
    obtain ⟨C3, f3, C4, f4, rfl, i4, hb4⟩ := hr.open
    have k4 := blk_below k3 hb4
    have b4 := below_step b3 hb4
    clear hr hb4 k3 b3 p0 p1 p2 p3 p4
    have HS := Lib.hid (fun W hb => implSize_any x C3 f3 C4 f4 W (i4.below hb) hsz)
    have H4 := Lib.hid i4
    clear i4
    go_wp2_with fail
    refine (HS.out _ (below_new _ _)).mono ?_
    rintro e w5 ⟨rfl, hb5⟩
    have k5 := blk_below (blk_below k4 (below_new _ _)) hb5
    obtain ⟨l5, c5⟩ := one_new hb5
    have b5 := below_step b4 c5
    clear hb5 k4
    obtain ⟨p0, p1, p2, p3, p4⟩ := fm_cells k5
    obtain ⟨q0, q1, q2, q3, q4⟩ := fm_cells l5
    have hne : ((x.size : Int) != (x.size : Int)) = false := by simp
    have HE := Lib.hid (fun W E3 E4 g3 g4 hb h6 => eqForm_any x x C3 f3 C4 f4 E3 g3 E4 g4 W ((H4.out.below c5).below hb) h6)
    have B5 := Lib.hid b5
    clear b4 c5 b5
    go_wp2_with fail
    go_region_held3 (fun w' => w'.cell? ⟨w.heap.size, 0, none⟩ = some (.int .i64 x.kind) ∧ w'.cell? ⟨w.heap.size, 1, none⟩ = some (.string x.name) ∧ w'.cell? ⟨w.heap.size, 2, none⟩ = some (.int .i64 x.num) ∧ w'.cell? ⟨w.heap.size, 3, none⟩ = some (.slice A3 x.sc.length c3) ∧ w'.cell? ⟨w.heap.size, 4, none⟩ = some (.slice A4 x.kids.length c4) ∧ w'.cell? ⟨w4.heap.size, 0, none⟩ = some (.int .i64 x.kind) ∧ w'.cell? ⟨w4.heap.size, 1, none⟩ = some (.string x.name) ∧ w'.cell? ⟨w4.heap.size, 2, none⟩ = some (.int .i64 x.num) ∧ w'.cell? ⟨w4.heap.size, 3, none⟩ = some (.slice C3 x.sc.length f3) ∧ w'.cell? ⟨w4.heap.size, 4, none⟩ = some (.slice C4 x.kids.length f4)) (first | go_keep | exact ⟨ck hb6 p0, ck hb6 p1, ck hb6 p2, ck hb6 p3, ck hb6 p4, ck hb6 q0, ck hb6 q1, ck hb6 q2, ck hb6 q3, ck hb6 q4⟩ | exact ⟨ck0 hb7 (ck hb6 p0), ck0 hb7 (ck hb6 p1), ck0 hb7 (ck hb6 p2), ck0 hb7 (ck hb6 p3), ck0 hb7 (ck hb6 p4), ck0 hb7 (ck hb6 q0), ck0 hb7 (ck hb6 q1), ck0 hb7 (ck hb6 q2), ck0 hb7 (ck hb6 q3), ck0 hb7 (ck hb6 q4)⟩)
      ((first
        | (go_at_call 36; refine (HT.out _ B5.out.drew).mono ?_; intro e w6 hr; obtain ⟨E3, g3, E4, g4, rfl, i6, hb6⟩ := hr.open)
        | (go_at_call 38; refine (HE.out _ _ _ _ _ (below_step (Below.refl _ _).drew hb6) i6).mono ?_; rintro e w7 ⟨rfl, hb7⟩)))
    rw [eqB_self]
    go_wp2_with fail
    go_ret
    exact ⟨rfl, below_step B5.out (below_step (below_step (Below.refl _ _).drew hb6) hb7)⟩
  · rw [szR_no (by omega)]
    have hd : decide ((-1 : Int) < 0) = true := by simp
    go_wp2_with fail
    go_ret
    exact ⟨rfl, b1⟩
end Go.Proofs.Ythjnbladlgkmnaa
