/- What the functions that copy and strip forms come to (no program is in sight here). -/
import Derived.Test.YtlghpblifbaciaaPu
import Derived.Test.YtlghpblifbaciaaGA
import Derived.Test.YtlghpblifbaciaaQ2
namespace Go.Proofs.Ytlghpblifbaciaa
open Go.RowKit Go.Proofs.YtlghpblifbaciaaW.PrintWords Go.Proofs.Ytlghpblifbaciaa.Q
set_option linter.unusedVariables false
mutual
/-- A form without scopes. -/
def Fm.bare : Fm → Fm
  | ⟨a, b, c, _, ks⟩ => ⟨a, b, c, [], bareL ks⟩
def bareL : List Fm → List Fm
  | [] => []
  | k :: ks => k.bare :: bareL ks
end
theorem bareL_map (l : List Fm) : bareL l = l.map Fm.bare := by
  induction l with
  | nil => rfl
  | cons a l ih => simp [bareL, ih]
theorem Fm.bare_eq (x : Fm) : x.bare = ⟨x.f0, x.f1, x.f2, [], x.f4.map Fm.bare⟩ := by
  cases x; simp only [Fm.bare, bareL_map]
theorem ev_spec_l1Copy : ∀ x : Fm, x.tot ≤ 1000000000 → Ev (fun k => spec_l1Copy.f k x.f0 x.f1 x.f2 x.f3 x.f4) (x.f0, x.f1, x.f2, x.f3, x.f4) := by
  intro x
  induction x using Fm.ind with
  | _ x ih =>
  intro ht
  have h3 := scT x
  have h4 := lenT x
  refine Ev.step (fun k => by rw [spec_l1Copy.f]) ?_
  refine Ev.bind (g := fun _ => _) (Ev.now _) (Ev.pos (by simp; omega) ?_)
  obtain ⟨r, hp, hr⟩ := ev_loop (L := fun k (s : Int × List Fm) => spec_l1Copy.l0 k s.1 x.f0 x.f1 x.f2 x.f3 x.f4 x.f0 x.f1 x.f2 x.f3 s.2)
    (fun i s => s = ((i : Int), x.f4.take i)) x.f4.length (· = (x.f0, x.f1, x.f2, x.f3, x.f4)) (by
      rintro i s hi rfl
      refine ⟨((i + 1 : Nat), x.f4.take i ++ [x.f4[i]]), by rw [takeS hi], fun r hr => ?_⟩
      have hk := getKidT hi
      refine Ev.step (fun k => by rw [spec_l1Copy.l0]) ?_
      refine Ev.pos (by simpa using hi) (Ev.pos (by simp) ?_)
      rw [rdF _ _ hi]
      refine Ev.bind (ih _ (List.getElem_mem hi) (by omega)) ?_
      refine Ev.pos (by simp; omega) ?_
      rw [wr1 _ (by omega)]
      dsimp only
      rw [Fm.eta]
      exact hr) (by
      rintro s rfl
      refine ⟨_, rfl, Ev.step (fun k => by rw [spec_l1Copy.l0]) (Ev.neg (by simp) ?_)⟩
      rw [List.take_of_length_le (by simp)]
      exact Ev.now _) (0, []) rfl
  subst hp
  exact hr
end Go.Proofs.Ytlghpblifbaciaa
