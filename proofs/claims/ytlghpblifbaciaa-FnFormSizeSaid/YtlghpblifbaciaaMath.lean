/- Plain facts on forms: how many nodes, how many values and letters. No program in sight. -/
import Derived.Test.YtlghpblifbaciaaFm
namespace Go.Proofs.Ytlghpblifbaciaa
set_option linter.unusedVariables false
set_option linter.unusedSimpArgs false

mutual
def Fm.size : Fm → Nat
  | ⟨_, _, _, _, ks⟩ => 1 + sizes ks
def sizes : List Fm → Nat
  | [] => 0
  | k :: ks => k.size + sizes ks
end
theorem Fm.size_eq (x : Fm) : x.size = 1 + sizes x.f4 := by cases x; rfl
theorem sizes_append (a b : List Fm) : sizes (a ++ b) = sizes a + sizes b := by
  induction a with
  | nil => simp [sizes]
  | cons x xs ih => simp only [List.cons_append, sizes, ih]; omega
theorem sizes_take (l : List Fm) (i : Nat) (h : i < l.length) : sizes (l.take (i + 1)) = sizes (l.take i) + l[i].size := by
  rw [List.take_succ_eq_append_getElem h, sizes_append]; simp [sizes]
theorem sizes_take_le (l : List Fm) (i : Nat) : sizes (l.take i) ≤ sizes l := by
  have h := sizes_append (l.take i) (l.drop i)
  rw [List.take_append_drop] at h
  omega
theorem sizes_mem {l : List Fm} {k : Fm} (h : k ∈ l) : k.size ≤ sizes l := by
  induction l with
  | nil => cases h
  | cons x xs ih =>
    simp only [sizes]
    rcases List.mem_cons.1 h with rfl | h
    · omega
    · have := ih h; omega

/-! values and letters: what szForm counts -/
mutual
def Fm.tot : Fm → Nat
  | ⟨_, nm, _, sc, ks⟩ => nm.size + sc.length + totL ks
def totL : List Fm → Nat
  | [] => 0
  | k :: ks => 1 + k.tot + totL ks
end
theorem Fm.tot_eq (x : Fm) : x.tot = x.f1.size + x.f3.length + totL x.f4 := by cases x; rfl
theorem totL_append (a b : List Fm) : totL (a ++ b) = totL a + totL b := by
  induction a with
  | nil => simp [totL]
  | cons x xs ih => simp only [List.cons_append, totL, ih]; omega
theorem totL_take (l : List Fm) (i : Nat) (h : i < l.length) : totL (l.take (i + 1)) = totL (l.take i) + (1 + l[i].tot) := by
  rw [List.take_succ_eq_append_getElem h, totL_append]; simp [totL]
theorem totL_take_le (l : List Fm) (i : Nat) : totL (l.take i) ≤ totL l := by
  have h := totL_append (l.take i) (l.drop i)
  rw [List.take_append_drop] at h
  omega
theorem totL_mem {l : List Fm} {k : Fm} (h : k ∈ l) : k.tot + 1 ≤ totL l := by
  induction l with
  | nil => cases h
  | cons x xs ih =>
    simp only [totL]
    rcases List.mem_cons.1 h with rfl | h
    · omega
    · have := ih h; omega
theorem len_totL (l : List Fm) : l.length ≤ totL l := by
  induction l with
  | nil => simp
  | cons x xs ih => simp only [totL, List.length_cons]; omega
theorem sizes_totL : ∀ x : Fm, x.size ≤ 1 + x.tot := by
  intro x
  induction x using Fm.ind with
  | h x ih =>
    rw [Fm.size_eq, Fm.tot_eq]
    have key : ∀ l : List Fm, (∀ k, k ∈ l → k.size ≤ 1 + k.tot) → sizes l ≤ totL l := by
      intro l
      induction l with
      | nil => intro _; simp [sizes, totL]
      | cons y ys ih2 =>
        intro h
        simp only [sizes, totL]
        have h1 := h y List.mem_cons_self
        have h2 := ih2 (fun k hk => h k (List.mem_cons_of_mem _ hk))
        omega
    have := key x.f4 ih
    omega
/-- Names are not longer than any string is. -/
inductive NmSmall : Fm → Prop
  | mk (x : Fm) (h : x.f1.size ≤ 9223372036854775807) (hk : ∀ k, k ∈ x.f4 → NmSmall k) : NmSmall x
theorem NmSmall.nm {x : Fm} (h : NmSmall x) : x.f1.size ≤ 9223372036854775807 := by cases h; assumption
theorem NmSmall.kid {x : Fm} (h : NmSmall x) : ∀ k, k ∈ x.f4 → NmSmall k := by cases h; assumption
theorem nmSmall_of_tot : ∀ x : Fm, x.tot ≤ 140737488351232 → NmSmall x := by
  intro x
  induction x using Fm.ind with
  | h x ih =>
    intro h
    rw [Fm.tot_eq] at h
    refine ⟨x, by omega, fun k hk => ih k hk ?_⟩
    have := totL_mem hk
    omega
/-- What szForm returns. -/
def szR (L : Int) (t : Nat) : Int := if (t : Int) ≤ L then L - t else -1
theorem szR_neg {L : Int} {t : Nat} : szR L t < 0 ↔ L < t := by unfold szR; split <;> omega
theorem szR_le {L : Int} {t : Nat} (h : 0 ≤ L) : szR L t ≤ L := by unfold szR; split <;> omega
theorem szR_ge {L : Int} {t : Nat} : -1 ≤ szR L t := by unfold szR; split <;> omega
theorem szR_yes {L : Int} {t : Nat} (h : (t : Int) ≤ L) : szR L t = L - t := by unfold szR; rw [if_pos h]
theorem szR_no {L : Int} {t : Nat} (h : L < t) : szR L t = -1 := by unfold szR; rw [if_neg (by omega)]
end Go.Proofs.Ytlghpblifbaciaa
