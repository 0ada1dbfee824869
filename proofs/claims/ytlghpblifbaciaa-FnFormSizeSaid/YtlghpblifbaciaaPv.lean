/- What DrawFormValid comes to: some form of a bounded size (no program is in sight here). -/
import Derived.Test.YtlghpblifbaciaaPh
import Derived.Test.YtlghpblifbaciaaQ6
namespace Go.Proofs.Ytlghpblifbaciaa
open Go.RowKit Go.Proofs.YtlghpblifbaciaaW.PrintWords Go.Proofs.Ytlghpblifbaciaa.Q
set_option linter.unusedVariables false
theorem ev_formValid (l : List Int) (hl : ∀ z, z ∈ l → 0 ≤ z ∧ z < 256) : ∃ x : Fm, x.tot ≤ 7000 ∧ Ev (fun k => spec_DrawFormValid.f k l) (x.f0, x.f1, x.f2, x.f3, x.f4) := by
  obtain ⟨s, hs, e0⟩ := ev_open l hl
  obtain ⟨n, hn, e1⟩ := ev_num hs 0 (by omega) [3, 2, 4] (by simp) (by simp)
  obtain ⟨d, rfl, hd⟩ : ∃ d : Nat, n = (d : Int) ∧ d ≤ 4 := by
    simp only [List.mem_cons, List.not_mem_nil, or_false] at hn
    rcases hn with rfl | rfl | rfl
    · exact ⟨3, rfl, by omega⟩
    · exact ⟨2, rfl, by omega⟩
    · exact ⟨4, rfl, by omega⟩
  have hB := Bn_le hd
  obtain ⟨x1, q1, a1, b1, c1⟩ := ev_some hs d hd 1 (by omega)
  have s1 := sizes_totL x1
  obtain ⟨x2, q2, a2, b2, f2, c2⟩ := ev_dress hs x1 (by omega) q1 (by omega)
  obtain ⟨x3, q3, a3, b3, f3, c3⟩ := ev_mutate hs x2 (by omega) q2 (by omega)
  obtain ⟨x4, q4, a4, b4, f4, c4⟩ := ev_mutate hs x3 (by omega) q3 (by omega)
  refine ⟨x4, by omega, ?_⟩
  simp only [spec_DrawFormValid.f]
  refine Ev.bind (g := fun _ => _) (Ev.some e0) (Ev.bind e1 (Ev.bind c1 (Ev.bind c2 (Ev.bind c3 (Ev.bind c4 ?_)))))
  exact Ev.now _
end Go.Proofs.Ytlghpblifbaciaa
