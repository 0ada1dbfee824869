/- The nodes of a form's parts add up to those of the form. For every input the law FnFormSize returns true, and leaves its input alone. No condition. -/
import Derived.Test.YtlghpblifbaciaaPFnFormSize
import Derived.Test.YtlghpblifbaciaaQ7
namespace Go.Proofs.Ytlghpblifbaciaa
open Go.RowKit Go.Proofs.YtlghpblifbaciaaW.PrintWords
set_option linter.unusedVariables false
theorem fnFormSize_byte {n : Int} (h : (Lit.int .u8 n).wf = true) : 0 ≤ n ∧ n < 256 := by
  simp only [Lit.wf, Bool.and_eq_true, decide_eq_true_eq] at h
  have e1 : IntKind.u8.min = 0 := by decide
  have e2 : IntKind.u8.max = 255 := by decide
  omega
theorem fnFormSize_walk (A0 : Option Addr) (c0 : Nat) (l0 : List Int) (w : World)
    (hr0 : (Kd.int .u8).C w A0 l0.length l0) (hc0 : l0.length ≤ c0) (y0 : l0.length * 1 ≤ 140737488351232) (hw0 : ∀ n ∈ l0, (Lit.int .u8 n).wf = true) :
    Calls Try.prog 5 #[.slice A0 l0.length c0] w fun e w' => e = .returned (.bool true) ∧ Below w.heap.size w w' := by
  obtain ⟨k, hk⟩ := (ev_fnFormSize l0 (fun z hz => fnFormSize_byte (hw0 z hz))).rounds
  exact Q.laws_FnFormSize.calls k A0 c0 l0 true w hr0 hc0 hk
end Go.Proofs.Ytlghpblifbaciaa
