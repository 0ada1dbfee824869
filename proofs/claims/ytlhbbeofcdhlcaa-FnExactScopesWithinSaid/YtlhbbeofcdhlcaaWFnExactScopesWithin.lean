/- The law FnExactScopesWithin returns true: the program's ScopesWithin returns what the reference's returns, and leaves its arguments alone. No condition. -/
import Derived.Test.YtlhbbeofcdhlcaaInt
namespace Go.Proofs.Ytlhbbeofcdhlcaa
open Go.RowKit Go.Proofs.YtlhbbeofcdhlcaaW.PrintWords Go.Proofs.YtlhbbeofcdhlcaaW.PrintLast Go.Proofs.YtlhbbeofcdhlcaaW.PrintMore
set_option linter.unusedVariables false
set_option maxHeartbeats 2000000 in
theorem fnExactScopesWithin_walk (A0 : Option Addr) (c0 : Nat) (xs : List Int) (A1 : Option Addr) (c1 : Nat) (ys : List Int) (w : World)
    (hr0 : kI.C w A0 xs.length xs) (hc0 : xs.length ≤ c0) (y0 : xs.length * 8 ≤ 140737488351232) (hw0 : ∀ n ∈ xs, (Lit.int .i64 n).wf = true)
    (hr1 : kI.C w A1 ys.length ys) (hc1 : ys.length ≤ c1) (y1 : ys.length * 8 ≤ 140737488351232) (hw1 : ∀ n ∈ ys, (Lit.int .i64 n).wf = true) :
    Calls Try.prog 5 #[.slice A0 xs.length c0, .slice A1 ys.length c1] w fun e w' => e = .returned (.bool true) ∧ Below w.heap.size w w' := by
  clear hw0 hw1
  by_cases h0 : (1048576 : Int) < (xs.length : Int)
  · have h0' : decide ((1048576 : Int) < (xs.length : Int)) = true := decide_eq_true h0
    go_enter Try.func5, Try.ntmps5
    go_wp2_with fail
    go_ret
    exact ⟨rfl, Below.refl _ _⟩
  have h0' : decide ((1048576 : Int) < (xs.length : Int)) = false := decide_eq_false h0
  by_cases h1 : (1048576 : Int) < (ys.length : Int)
  · have h1' : decide ((1048576 : Int) < (ys.length : Int)) = true := decide_eq_true h1
    go_enter Try.func5, Try.ntmps5
    go_wp2_with fail
    go_ret
    exact ⟨rfl, Below.refl _ _⟩
  have h1' : decide ((1048576 : Int) < (ys.length : Int)) = false := decide_eq_false h1
  clear h0 h1
  go_enter Try.func5, Try.ntmps5
  go_wp2_with fail
  refine (toIntS_any xs A0 c0 _ hr0 hc0 (by omega)).mono ?_
  rintro e w1 ⟨v, rfl, hR, b1⟩
  obtain ⟨A2, c2, rfl, l2, r2⟩ := Kd.R_reads hR
  clear hR
  go_wp2_with fail
  refine (toIntS_any ys A1 c1 _ (Kd.C_below hr1 b1) hc1 (by omega)).mono ?_
  rintro e w2 ⟨v, rfl, hR, b2⟩
  obtain ⟨A3, c3, rfl, l3, r3⟩ := Kd.R_reads hR
  clear hR
  have b2' := below_step b1 b2
  go_wp2_with fail
  refine (specWithin_any xs ys A2 A3 c2 c3 _ (Kd.C_below r2 b2) l2 r3 l3).mono ?_
  rintro e w3 ⟨rfl, b3⟩
  have b3' := below_step b2' b3
  go_wp2_with fail
  refine (toIntS_any xs A0 c0 _ (Kd.C_below hr0 b3') hc0 (by omega)).mono ?_
  rintro e w4 ⟨v, rfl, hR, b4⟩
  obtain ⟨A4, c4, rfl, l4, r4⟩ := Kd.R_reads hR
  clear hR
  have b4' := below_step b3' b4
  go_wp2_with fail
  refine (toIntS_any ys A1 c1 _ (Kd.C_below hr1 b4') hc1 (by omega)).mono ?_
  rintro e w5 ⟨v, rfl, hR, b5⟩
  obtain ⟨A5, c5, rfl, l5, r5⟩ := Kd.R_reads hR
  clear hR
  have b5' := below_step b4' b5
  go_wp2_with fail
  refine (implWithin_any xs ys A4 A5 c4 c5 _ (Kd.C_below r4 b5) l4 r5 l5).mono ?_
  rintro e w6 ⟨rfl, b6⟩
  have b6' := below_step b5' b6
  generalize decide (∀ x, x ∈ xs → x ∈ ys) = b
  have hbb : (b != b) = false := by cases b <;> rfl
  go_wp2_with fail
  refine (toIntS_any xs A0 c0 _ (Kd.C_below hr0 b6') hc0 (by omega)).mono ?_
  rintro e w7 ⟨v, rfl, hR, b7⟩
  obtain ⟨A6, c6, rfl, l6, r6⟩ := Kd.R_reads hR
  clear hR
  have b7' := below_step b6' b7
  go_wp2_with fail
  refine (eqIntS_any xs xs A4 A6 c4 c6 _ (Kd.C_below (Kd.C_below (Kd.C_below r4 b5) b6) b7) l4 r6 l6).mono ?_
  rintro e w8 ⟨rfl, b8⟩
  have b8' := below_step b7' b8
  rw [decide_eq_true (rfl : xs = xs)]
  go_wp2_with fail
  refine (toIntS_any ys A1 c1 _ (Kd.C_below hr1 b8') hc1 (by omega)).mono ?_
  rintro e w9 ⟨v, rfl, hR, b9⟩
  obtain ⟨A7, c7, rfl, l7, r7⟩ := Kd.R_reads hR
  clear hR
  have b9' := below_step b8' b9
  go_wp2_with fail
  refine (eqIntS_any ys ys A5 A7 c5 c7 _ (Kd.C_below (Kd.C_below (Kd.C_below (Kd.C_below r5 b6) b7) b8) b9) l5 r7 l7).mono ?_
  rintro e w10 ⟨rfl, b10⟩
  rw [decide_eq_true (rfl : ys = ys)]
  go_wp2_with fail
  go_ret
  exact ⟨rfl, below_step b9' b10⟩
end Go.Proofs.Ytlhbbeofcdhlcaa
