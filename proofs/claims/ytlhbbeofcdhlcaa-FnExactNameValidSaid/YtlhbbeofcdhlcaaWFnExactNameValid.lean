/- The law FnExactNameValid returns true: the program's NameValid returns what the reference's returns. No condition. -/
import Derived.Test.YtlhbbeofcdhlcaaNm
namespace Go.Proofs.Ytlhbbeofcdhlcaa
open Go.RowKit Go.Proofs.YtlhbbeofcdhlcaaW.PrintWords Go.Proofs.YtlhbbeofcdhlcaaW.PrintLast Go.Proofs.YtlhbbeofcdhlcaaW.PrintMore
theorem fnExactNameValid_walk (s : ByteArray) (w : World) (hs : s.size ≤ 140737488351232) :
    Calls Try.prog 4 #[.string s] w fun e w' => e = .returned (.bool true) ∧ Below w.heap.size w w' := by
  by_cases h0 : (1048576 : Int) < (s.size : Int)
  · have h0' : decide ((1048576 : Int) < (s.size : Int)) = true := decide_eq_true h0
    go_enter Try.func4, Try.ntmps4
    go_wp2_with fail
    go_ret
    exact ⟨rfl, Below.refl _ _⟩
  have h0' : decide ((1048576 : Int) < (s.size : Int)) = false := decide_eq_false h0
  clear h0
  go_enter Try.func4, Try.ntmps4
  go_wp2_with fail
  refine (specName_any s _ hs).mono ?_
  rintro e w1 ⟨rfl, b1⟩
  go_wp2_with fail
  refine (implName_any s _ hs).mono ?_
  rintro e w2 ⟨rfl, b2⟩
  generalize nmB s = b
  have hbb : (b != b) = false := by cases b <;> rfl
  go_wp2_with fail
  go_ret
  exact ⟨rfl, below_step b1 b2⟩
end Go.Proofs.Ytlhbbeofcdhlcaa
