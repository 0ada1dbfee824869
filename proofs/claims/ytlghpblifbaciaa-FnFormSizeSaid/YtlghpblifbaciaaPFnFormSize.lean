/- The law FnFormSize in plain terms: with enough rounds its answer is true (no program is in sight here). -/
import Derived.Test.YtlghpblifbaciaaPv
import Derived.Test.YtlghpblifbaciaaQ6
import Derived.Test.YtlghpblifbaciaaQ7
namespace Go.Proofs.Ytlghpblifbaciaa
open Go.RowKit Go.Proofs.YtlghpblifbaciaaW.PrintWords Go.Proofs.Ytlghpblifbaciaa.Q
set_option linter.unusedVariables false
theorem ev_fnFormSize (l : List Int) (hl : ∀ z, z ∈ l → 0 ≤ z ∧ z < 256) : Ev (fun k => laws_FnFormSize.f k l) true := by
  simp only [laws_FnFormSize.f]
  by_cases h : (l.length : Int) > 1048576
  · exact Ev.pos h (Ev.now _)
  refine Ev.neg h ?_
  obtain ⟨x, hx, e⟩ := ev_formValid l hl
  have hs := sizes_totL x
  have hsz := x.size_eq
  have ed : Ev (fun k => spec_DrawFormSize.f k l) (x.f0, x.f1, x.f2, x.f3, x.f4) := by
    simp only [spec_DrawFormSize.f]
    refine Ev.bind e ?_
    exact Ev.now _
  have z1 : impl_FormSize.f x.f0 x.f1 x.f2 x.f3 x.f4 = some (x.size : Int) := by
    unfold impl_FormSize.f
    rw [Fm.eta, gIf_yes (by omega)]
  have z2 : spec_FormSize.f x.f0 x.f1 x.f2 x.f3 x.f4 = some (x.size : Int) := by
    unfold spec_FormSize.f
    rw [Fm.eta, gIf_yes (by omega)]
  refine Ev.bind ed (Ev.bind (g := fun _ => _) (Ev.some z1) (Ev.bind (g := fun _ => _) (Ev.some z2) (Ev.pos rfl ?_)))
  obtain ⟨r, hp, hr⟩ := ev_loop (L := fun k (t : Int × Int) => laws_FnFormSize.l0 k (x.size : Int) t.1 t.2 x.f0 x.f1 x.f2 x.f3 x.f4)
    (fun i t => t = (((1 + sizes (x.f4.take i) : Nat) : Int), (i : Int))) x.f4.length (· = true) (by
      rintro i t hi rfl
      refine ⟨(((1 + sizes (x.f4.take (i + 1)) : Nat) : Int), ((i + 1 : Nat) : Int)), rfl, fun r hr => ?_⟩
      have hle := sizes_take_le x.f4 (i + 1)
      have h4 := lenT x
      have hst := sizes_take _ _ hi
      rw [hst] at hle
      have z3 : impl_FormSize.f x.f4[i].f0 x.f4[i].f1 x.f4[i].f2 x.f4[i].f3 x.f4[i].f4 = some (x.f4[i].size : Int) := by
        unfold impl_FormSize.f
        rw [Fm.eta, gIf_yes (by omega)]
      refine Ev.step (fun k => by rw [laws_FnFormSize.l0]) (Ev.pos (by show (i : Int) < (x.f4.length : Int); omega) (Ev.pos (by show (0 : Int) ≤ (i : Int); omega) ?_))
      dsimp only
      rw [rdF _ _ hi]
      refine Ev.bind (g := fun _ => _) (Ev.some z3) ?_
      rw [wr1 _ (by omega), show wrap64 (((1 + sizes (x.f4.take i) : Nat) : Int) + (x.f4[i].size : Int)) = ((1 + sizes (x.f4.take (i + 1)) : Nat) : Int) from by rw [hst]; exact wrN (by omega) (by omega)]
      exact hr) (by
      rintro t rfl
      refine ⟨true, rfl, Ev.step (fun k => by rw [laws_FnFormSize.l0]) (Ev.neg (by simp) ?_)⟩
      rw [List.take_length, show ((x.size : Int) == ((1 + sizes x.f4 : Nat) : Int)) = true from by rw [hsz]; simp]
      exact Ev.now _) ((1 : Int), (0 : Int)) (by simp [sizes])
  subst hp
  exact hr
end Go.Proofs.Ytlghpblifbaciaa
