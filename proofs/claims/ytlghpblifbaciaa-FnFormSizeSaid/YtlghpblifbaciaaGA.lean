/- Functions whose contracts are proved by hand, in the shape of the printed ones (written by mp.py out of given.txt). -/
import Derived.Test.YtlghpblifbaciaaQ0
import Derived.Test.YtlghpblifbaciaaSize
namespace Go.Proofs.Ytlghpblifbaciaa.Q
open Go.RowKit Go.Proofs.YtlghpblifbaciaaW.PrintWords Go.Proofs.YtlghpblifbaciaaW.PrintLast Go.Proofs.YtlghpblifbaciaaW.PrintMore
set_option linter.unusedVariables false
set_option linter.unusedSimpArgs false

/-! ### impl_FormSize: function 39, proved by hand -/
noncomputable def impl_FormSize.f (a0_0 : Int) (a0_1 : ByteArray) (a0_2 : Int) (l0_3 : List Int) (l0_4 : List (S31)) : Option (Int) := gIf ((⟨a0_0, a0_1, a0_2, l0_3, l0_4⟩ : Fm).size < 4611686018427387904) ((⟨a0_0, a0_1, a0_2, l0_3, l0_4⟩ : Fm).size : Int)
set_option maxRecDepth 100000 in
theorem impl_FormSize.calls (a0_0 : Int) (a0_1 : ByteArray) (a0_2 : Int) (A0_3 : Option Addr) (c0_3 : Nat) (l0_3 : List Int) (A0_4 : Option Addr) (c0_4 : Nat) (l0_4 : List (S31)) (r : Int) (w : World) (hr0_3 : Kd.C (Kd.int .i64) w A0_3 l0_3.length l0_3) (hc0_3 : l0_3.length ≤ c0_3) (hr0_4 : Kd.C k31 w A0_4 l0_4.length l0_4) (hc0_4 : l0_4.length ≤ c0_4) (h : impl_FormSize.f a0_0 a0_1 a0_2 l0_3 l0_4 = some r) :
    Calls Try.prog 39 #[.agg #[.int .i64 a0_0, .string a0_1, .int .i64 a0_2, .slice A0_3 l0_3.length c0_3, .slice A0_4 l0_4.length c0_4]] w fun e w' => e = .returned (.int .i64 r) ∧ Below w.heap.size w w' := by
  obtain ⟨ht, rfl⟩ := gIf_some h
  exact implSize_any (⟨a0_0, a0_1, a0_2, l0_3, l0_4⟩ : Fm) A0_3 c0_3 A0_4 c0_4 w ⟨hc0_3, hr0_3, hc0_4, hr0_4⟩ ht

/-! ### spec_FormSize: function 40, proved by hand -/
noncomputable def spec_FormSize.f (a0_0 : Int) (a0_1 : ByteArray) (a0_2 : Int) (l0_3 : List Int) (l0_4 : List (S31)) : Option (Int) := gIf ((⟨a0_0, a0_1, a0_2, l0_3, l0_4⟩ : Fm).size < 4611686018427387904) ((⟨a0_0, a0_1, a0_2, l0_3, l0_4⟩ : Fm).size : Int)
set_option maxRecDepth 100000 in
theorem spec_FormSize.calls (a0_0 : Int) (a0_1 : ByteArray) (a0_2 : Int) (A0_3 : Option Addr) (c0_3 : Nat) (l0_3 : List Int) (A0_4 : Option Addr) (c0_4 : Nat) (l0_4 : List (S31)) (r : Int) (w : World) (hr0_3 : Kd.C (Kd.int .i64) w A0_3 l0_3.length l0_3) (hc0_3 : l0_3.length ≤ c0_3) (hr0_4 : Kd.C k31 w A0_4 l0_4.length l0_4) (hc0_4 : l0_4.length ≤ c0_4) (h : spec_FormSize.f a0_0 a0_1 a0_2 l0_3 l0_4 = some r) :
    Calls Try.prog 40 #[.agg #[.int .i64 a0_0, .string a0_1, .int .i64 a0_2, .slice A0_3 l0_3.length c0_3, .slice A0_4 l0_4.length c0_4]] w fun e w' => e = .returned (.int .i64 r) ∧ Below w.heap.size w w' := by
  obtain ⟨ht, rfl⟩ := gIf_some h
  exact specSize_any (⟨a0_0, a0_1, a0_2, l0_3, l0_4⟩ : Fm) A0_3 c0_3 A0_4 c0_4 w ⟨hc0_3, hr0_3, hc0_4, hr0_4⟩ ht
end Go.Proofs.Ytlghpblifbaciaa.Q
