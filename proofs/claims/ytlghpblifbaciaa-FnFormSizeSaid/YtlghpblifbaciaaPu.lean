/- Words for the plain laws: what the printed functions come to with enough rounds (no program is in sight here). -/
import Derived.Test.YtlghpblifbaciaaQ0
import Derived.Test.YtlghpblifbaciaaMath
namespace Go.Proofs.Ytlghpblifbaciaa
open Go.RowKit Go.Proofs.YtlghpblifbaciaaW.PrintWords
set_option linter.unusedVariables false
theorem Ev.some {α : Type} {o : Option α} {r : α} (h : o = some r) : Ev (fun _ => o) r := ⟨0, fun _ _ => h⟩
theorem Ev.pos {α : Type} {c : Prop} [Decidable c] {a b : Nat → Option α} {r : α} (h : c) (e : Ev a r) : Ev (fun k => if c then a k else b k) r := by
  simp only [if_pos h]; exact e
theorem Ev.neg {α : Type} {c : Prop} [Decidable c] {a b : Nat → Option α} {r : α} (h : ¬ c) (e : Ev b r) : Ev (fun k => if c then a k else b k) r := by
  simp only [if_neg h]; exact e
theorem ev_loop {R S : Type} {L : Nat → S → Option R} (Inv : Nat → S → Prop) (n : Nat) (Post : R → Prop)
    (hs : ∀ i s, i < n → Inv i s → ∃ s', Inv (i + 1) s' ∧ ∀ r, Ev (fun k => L k s') r → Ev (fun k => L k s) r)
    (he : ∀ s, Inv n s → ∃ r, Post r ∧ Ev (fun k => L k s) r) : ∀ s, Inv 0 s → ∃ r, Post r ∧ Ev (fun k => L k s) r := by
  have key : ∀ m i s, i + m = n → Inv i s → ∃ r, Post r ∧ Ev (fun k => L k s) r := by
    intro m
    induction m with
    | zero => intro i s hi h; obtain rfl : i = n := by omega
              exact he s h
    | succ m ih =>
      intro i s hi h
      obtain ⟨s', h', hk⟩ := hs i s (by omega) h
      obtain ⟨r, hp, hr⟩ := ih (i + 1) s' (by omega) h'
      exact ⟨r, hp, hk r hr⟩
  exact fun s h => key n 0 s (by omega) h
theorem wr1 (i : Nat) (h : i < 4611686018427387904) : wrap64 ((i : Int) + 1) = ((i + 1 : Nat) : Int) := by
  rw [Go.IntWalk.wrap64_in _ ⟨by omega, by omega⟩]; omega
theorem rdF (l : List Fm) (i : Nat) (h : i < l.length) : Q.rd_T31 l (i : Int) = l[i] := by
  simp [Q.rd_T31, List.getD, h]
theorem Fm.eta (x : Fm) : (⟨x.f0, x.f1, x.f2, x.f3, x.f4⟩ : Fm) = x := by cases x; rfl
theorem takeS {α : Type} {l : List α} {i : Nat} (h : i < l.length) : l.take i ++ [l[i]] = l.take (i + 1) := (List.take_succ_eq_append_getElem h).symm
theorem lenT (x : Fm) : x.f4.length ≤ x.tot := by
  have := len_totL x.f4; have := x.tot_eq; omega
theorem scT (x : Fm) : x.f3.length ≤ x.tot := by
  have := x.tot_eq; omega
theorem kidT {x k : Fm} (h : k ∈ x.f4) : k.tot + 1 ≤ x.tot := by
  have := totL_mem h; have := x.tot_eq; omega
theorem getKidT {x : Fm} {i : Nat} (h : i < x.f4.length) : x.f4[i].tot + 1 ≤ x.tot := kidT (List.getElem_mem h)
end Go.Proofs.Ytlghpblifbaciaa
