/- Contracts of the functions over lists of numbers. -/
import Derived.Test.YtlghpblifbaciaaProg
import Derived.Test.YtlghpblifbaciaaFm
import Derived.WalkKit
import Derived.KernelRfl
import Derived.Deep.LoopGhost
import Derived.Deep.QuietTactic
import Derived.BigQuiet
import Derived.Lib.Hide
import Derived.Outline
import Derived.OwnWalk
import Derived.Shelf.Abstract
namespace Go.Proofs.Ytlghpblifbaciaa
open Go.RowKit Go.Proofs.YtlghpblifbaciaaW.PrintWords Go.Proofs.YtlghpblifbaciaaW.PrintLast Go.Proofs.YtlghpblifbaciaaW.PrintMore
set_option linter.unusedVariables false
set_option linter.unusedSimpArgs false

theorem infoI : (Try.prog.info? 3).map (fun i => (i.zero, i.size, i.bytes)) = some (some (.int .i64 0), 1, 8) := by kernel_rfl
theorem ret_b {a b : Bool} (h : a = b) : Ending.returned (.bool a) = .returned (.bool b) := by rw [h]
theorem ret_i {a b : Int} (h : a = b) : Ending.returned (.int .i64 a) = .returned (.int .i64 b) := by rw [h]

/-! where the first element is that has p: slices.Index and its kin -/
def fidx {α : Type} (p : α → Bool) (xs : List α) : Int := if xs.findIdx p < xs.length then (xs.findIdx p : Int) else -1
theorem fidx_hit {α : Type} {p : α → Bool} {xs : List α} {i : Nat} (h : i < xs.length) (hp : p xs[i] = true) (hn : ∀ j (hj : j < i), p (xs[j]'(by omega)) = false) : fidx p xs = i := by
  have e : xs.findIdx p = i := by
    rw [List.findIdx_eq h]
    exact ⟨hp, fun j hj => hn j hj⟩
  unfold fidx
  rw [e, if_pos h]
theorem fidx_miss {α : Type} {p : α → Bool} {xs : List α} (hn : ∀ j (hj : j < xs.length), p xs[j] = false) : fidx p xs = -1 := by
  have e : ¬ xs.findIdx p < xs.length := by
    intro h
    have := List.findIdx_getElem (w := h)
    rw [hn _ h] at this
    cases this
  unfold fidx
  rw [if_neg e]
theorem fidx_any {α : Type} (p : α → Bool) (xs : List α) : decide (0 ≤ fidx p xs) = xs.any p := by
  unfold fidx
  by_cases h : xs.findIdx p < xs.length
  · rw [if_pos h]
    have := List.findIdx_getElem (w := h)
    rw [decide_eq_true (by omega)]
    exact (List.any_eq_true.2 ⟨_, List.getElem_mem h, this⟩).symm
  · rw [if_neg h]
    rw [decide_eq_false (by omega)]
    symm
    rw [List.any_eq_false]
    intro x hx hp
    exact h (List.findIdx_lt_length_of_exists ⟨x, hx, hp⟩)
theorem fidx_lt {α : Type} (p : α → Bool) (xs : List α) : -1 ≤ fidx p xs ∧ fidx p xs < xs.length := by
  unfold fidx
  split <;> omega

set_option maxHeartbeats 1000000 in
theorem l2Has_any (xs : List Int) (n : Int) (A : Option Addr) (c : Nat) (w : World) (hr : kI.C w A xs.length xs) (hc : xs.length ≤ c) :
    Calls Try.prog 101 #[.slice A xs.length c, .int .i64 n] w (Ret w (.bool (decide (n ∈ xs)))) := by
  have hmax := hr.2.1
  go_enter Try.func101, Try.ntmps101
  go_wp2_with fail
  go_loopg [5] xs.length (fun kq v5 w' => ∃ i : Nat, i ≤ xs.length ∧ xs.length - i ≤ kq ∧ v5 = .int .i64 i ∧ Aside0 (∀ j (h : j < xs.length), j < i → xs[j] ≠ n) ∧ Aside0 (Below w.heap.size w w'))
  case atStart => exact ⟨0, Nat.zero_le _, by omega, rfl, ⟨fun j _ h => absurd h (by omega)⟩, ⟨Below.refl _ _⟩⟩
  case round =>
    obtain ⟨i, hi, hg, rfl, HN, HW⟩ := hrel
    by_cases hlt : i < xs.length
    · obtain ⟨ad, e, hcell⟩ := int_at (Kd.C_below hr HW.out) i hlt
      subst e
      by_cases he : xs[i] = n
      · have hb : (xs[i] == n) = true := by simpa using he
        have hm : n ∈ xs := he ▸ List.getElem_mem hlt
        have HM := Lib.hid hm
        clear he hm
        go_wp2_with fail
        go_ret
        exact ⟨ret_b (decide_eq_true HM.out).symm, HW.out⟩
      · have hb : (xs[i] == n) = false := by simpa using he
        have HE := Lib.hid he
        clear he
        go_wp2_with fail
        go_roundg (xs.length - (i + 1))
        case measure => omega
        case rel =>
          refine ⟨i + 1, by omega, Nat.le_refl _, by go_num, ⟨fun j hj hji => ?_⟩, ⟨HW.out⟩⟩
          rcases Nat.lt_or_ge j i with h | h
          · exact HN.out j hj h
          · obtain rfl : j = i := by omega
            exact HE.out
    · obtain rfl : i = xs.length := by omega
      go_wp2_with fail
      go_ret
      refine ⟨ret_b (decide_eq_false ?_).symm, HW.out⟩
      intro hm
      obtain ⟨j, hj, he⟩ := List.getElem_of_mem hm
      exact HN.out j hj hj he
theorem within_any (a b c : Int) (w : World) : Calls Try.prog 129 #[.int .i64 a, .int .i64 b, .int .i64 c] w (Ret w (.bool (decide (b ≤ a ∧ a ≤ c)))) := by
  by_cases h1 : b ≤ a
  · have h1' : decide (b ≤ a) = true := decide_eq_true h1
    by_cases h2 : a ≤ c
    · have h2' : decide (a ≤ c) = true := decide_eq_true h2
      have H := Lib.hid (And.intro h1 h2); clear h1 h2
      go_enter Try.func129, Try.ntmps129
      go_wp2_with fail
      go_ret
      exact ⟨ret_b (decide_eq_true H.out).symm, Below.refl _ _⟩
    · have h2' : decide (a ≤ c) = false := decide_eq_false h2
      have H := Lib.hid h2; clear h1 h2
      go_enter Try.func129, Try.ntmps129
      go_wp2_with fail
      go_ret
      exact ⟨rfl, Below.refl _ _⟩
  · have h1' : decide (b ≤ a) = false := decide_eq_false h1
    have H := Lib.hid h1; clear h1
    go_enter Try.func129, Try.ntmps129
    go_wp2_with fail
    go_ret
    exact ⟨rfl, Below.refl _ _⟩
set_option maxHeartbeats 1000000 in
theorem specWithin_any (xs ys : List Int) (A B : Option Addr) (c d : Nat) (w : World) (hr : kI.C w A xs.length xs) (hc : xs.length ≤ c) (hr2 : kI.C w B ys.length ys) (hc2 : ys.length ≤ d) :
    Calls Try.prog 37 #[.slice A xs.length c, .slice B ys.length d] w (Ret w (.bool (decide (∀ x, x ∈ xs → x ∈ ys)))) := by
  have hmax := hr.2.1
  go_enter Try.func37, Try.ntmps37
  go_wp2_with fail
  go_loopg [5] xs.length (fun kq v5 w' => ∃ i : Nat, i ≤ xs.length ∧ xs.length - i ≤ kq ∧ v5 = .int .i64 i ∧ Aside0 (∀ j (h : j < xs.length), j < i → xs[j] ∈ ys) ∧ Aside0 (Below w.heap.size w w'))
  case atStart => exact ⟨0, Nat.zero_le _, by omega, rfl, ⟨fun j _ h => absurd h (by omega)⟩, ⟨Below.refl _ _⟩⟩
  case round =>
    obtain ⟨i, hi, hg, rfl, HN, HW⟩ := hrel
    by_cases hlt : i < xs.length
    · obtain ⟨ad, e, hcell⟩ := int_at (Kd.C_below hr HW.out) i hlt
      subst e
      have HC := Lib.hid (l2Has_any ys xs[i] B d wr (Kd.C_below hr2 HW.out) hc2)
      go_wp2_with fail
      refine HC.out.mono ?_
      rintro e w1 ⟨rfl, hb1⟩
      by_cases he : xs[i] ∈ ys
      · have HE := Lib.hid he
        rw [decide_eq_true he]
        clear he
        go_wp2_with fail
        go_roundg (xs.length - (i + 1))
        case measure => omega
        case rel =>
          refine ⟨i + 1, by omega, Nat.le_refl _, by go_num, ⟨fun j hj hji => ?_⟩, ⟨below_step HW.out hb1⟩⟩
          rcases Nat.lt_or_ge j i with h | h
          · exact HN.out j hj h
          · obtain rfl : j = i := by omega
            exact HE.out
      · have HE := Lib.hid he
        rw [decide_eq_false he]
        clear he
        go_wp2_with fail
        go_ret
        exact ⟨ret_b (decide_eq_false (fun h => HE.out (h _ (List.getElem_mem hlt)))).symm, below_step HW.out hb1⟩
    · obtain rfl : i = xs.length := by omega
      go_wp2_with fail
      go_ret
      refine ⟨ret_b (decide_eq_true ?_).symm, HW.out⟩
      intro x hx
      obtain ⟨j, hj, rfl⟩ := List.getElem_of_mem hx
      exact HN.out j hj hj
set_option maxHeartbeats 1000000 in
theorem indexI_any (xs : List Int) (n : Int) (A : Option Addr) (c : Nat) (w : World) (hr : kI.C w A xs.length xs) (hc : xs.length ≤ c) :
    Calls Try.prog 161 #[.slice A xs.length c, .int .i64 n] w (Ret w (.int .i64 (fidx (fun x => n == x) xs))) := by
  have hmax := hr.2.1
  go_enter Try.func161, Try.ntmps161
  go_wp2_with fail
  go_loopg [5, 8] xs.length (fun kq v5 v8 w' => ∃ i : Nat, i ≤ xs.length ∧ xs.length - i ≤ kq ∧ v8 = .int .i64 i ∧ Aside0 (∀ j (h : j < xs.length), j < i → (n == xs[j]) = false) ∧ Aside0 (Below w.heap.size w w'))
  case atStart => exact ⟨0, Nat.zero_le _, by omega, rfl, ⟨fun j _ h => absurd h (by omega)⟩, ⟨Below.refl _ _⟩⟩
  case round =>
    obtain ⟨i, hi, hg, rfl, HN, HW⟩ := hrel
    by_cases hlt : i < xs.length
    · obtain ⟨ad, e, hcell⟩ := int_at (Kd.C_below hr HW.out) i hlt
      subst e
      cases hb : (n == xs[i]) with
      | true =>
        have HB := Lib.hid (fidx_hit (p := fun x => n == x) hlt hb (fun j hj => HN.out j _ hj))
        go_wp2_with fail
        go_ret
        exact ⟨ret_i HB.out.symm, HW.out⟩
      | false =>
        have HE := Lib.hid hb
        go_wp2_with fail
        go_roundg (xs.length - (i + 1))
        case measure => omega
        case rel =>
          refine ⟨i + 1, by omega, Nat.le_refl _, by go_num, ⟨fun j hj hji => ?_⟩, ⟨HW.out⟩⟩
          rcases Nat.lt_or_ge j i with h | h
          · exact HN.out j hj h
          · obtain rfl : j = i := by omega
            exact HE.out
    · obtain rfl : i = xs.length := by omega
      go_wp2_with fail
      go_ret
      exact ⟨ret_i (fidx_miss (fun j hj => HN.out j hj hj)).symm, HW.out⟩
theorem containsI_any (xs : List Int) (n : Int) (A : Option Addr) (c : Nat) (w : World) (hr : kI.C w A xs.length xs) (hc : xs.length ≤ c) :
    Calls Try.prog 100 #[.slice A xs.length c, .int .i64 n] w (Ret w (.bool (decide (n ∈ xs)))) := by
  have hd : decide (0 ≤ fidx (fun x => n == x) xs) = decide (n ∈ xs) := by
    rw [fidx_any, Bool.eq_iff_iff, List.any_eq_true, decide_eq_true_iff]
    constructor
    · rintro ⟨x, hx, he⟩
      rw [eq_of_beq he]
      exact hx
    · intro h
      exact ⟨n, h, by simp⟩
  have HD := Lib.hid hd
  clear hd
  have HC := Lib.hid (indexI_any xs n A c w hr hc)
  clear hr hc
  generalize fidx (fun x => n == x) xs = r at HD HC
  go_enter Try.func100, Try.ntmps100
  go_wp2_with fail
  refine HC.out.mono ?_
  rintro e w1 ⟨rfl, hb1⟩
  go_wp2_with fail
  go_ret
  exact ⟨ret_b HD.out, hb1⟩
set_option maxHeartbeats 1000000 in
theorem indexFuncI_any (xs : List Int) (p : Int → Bool) (g : Nat) (lb : Array Value) (eg : ∀ args w, (callFunc g args).run Try.prog w = .ok (.enter g args) w) (A : Option Addr) (c : Nat) (w : World) (hr : kI.C w A xs.length xs) (hc : xs.length ≤ c)
    (hp : ∀ x, x ∈ xs → ∀ W, Below w.heap.size w W → Calls Try.prog g (#[.int .i64 x] ++ lb) W (Ret W (.bool (p x)))) :
    Calls Try.prog 160 #[.slice A xs.length c, .func (.func g) #[] lb] w (Ret w (.int .i64 (fidx p xs))) := by
  have hmax := hr.2.1
  have HP := Lib.hid hp
  clear hp
  go_enter Try.func160, Try.ntmps160
  go_wp2_with fail
  go_loopg [5, 8] xs.length (fun kq v5 v8 w' => ∃ i : Nat, i ≤ xs.length ∧ xs.length - i ≤ kq ∧ v8 = .int .i64 i ∧ Aside0 (∀ j (h : j < xs.length), j < i → p xs[j] = false) ∧ Aside0 (Below w.heap.size w w'))
  case atStart => exact ⟨0, Nat.zero_le _, by omega, rfl, ⟨fun j _ h => absurd h (by omega)⟩, ⟨Below.refl _ _⟩⟩
  case round =>
    obtain ⟨i, hi, hg, rfl, HN, HW⟩ := hrel
    by_cases hlt : i < xs.length
    · obtain ⟨ad, e, hcell⟩ := int_at (Kd.C_below hr HW.out) i hlt
      subst e
      have HC := Lib.hid (HP.out xs[i] (List.getElem_mem hlt) wr HW.out)
      generalize hb : p xs[i] = b at HC
      have HB := Lib.hid hb
      clear hb
      cases b with
      | true =>
        go_wp2_with fail
        refine HC.out.mono ?_
        rintro e w1 ⟨rfl, hb1⟩
        go_wp2_with fail
        go_ret
        exact ⟨ret_i (fidx_hit hlt HB.out (fun j hj => HN.out j _ hj)).symm, below_step HW.out hb1⟩
      | false =>
        go_wp2_with fail
        refine HC.out.mono ?_
        rintro e w1 ⟨rfl, hb1⟩
        go_wp2_with fail
        go_roundg (xs.length - (i + 1))
        case measure => omega
        case rel =>
          refine ⟨i + 1, by omega, Nat.le_refl _, by go_num, ⟨fun j hj hji => ?_⟩, ⟨below_step HW.out hb1⟩⟩
          rcases Nat.lt_or_ge j i with h | h
          · exact HN.out j hj h
          · obtain rfl : j = i := by omega
            exact HB.out
    · obtain rfl : i = xs.length := by omega
      go_wp2_with fail
      go_ret
      exact ⟨ret_i (fidx_miss (fun j hj => HN.out j hj hj)).symm, HW.out⟩
theorem containsFuncI_any (xs : List Int) (p : Int → Bool) (g : Nat) (lb : Array Value) (eg : ∀ args w, (callFunc g args).run Try.prog w = .ok (.enter g args) w) (A : Option Addr) (c : Nat) (w : World) (hr : kI.C w A xs.length xs) (hc : xs.length ≤ c)
    (hp : ∀ x, x ∈ xs → ∀ W, Below w.heap.size w W → Calls Try.prog g (#[.int .i64 x] ++ lb) W (Ret W (.bool (p x)))) :
    Calls Try.prog 98 #[.slice A xs.length c, .func (.func g) #[] lb] w (Ret w (.bool (xs.any p))) := by
  have HD := Lib.hid (fidx_any p xs)
  have HC := Lib.hid (indexFuncI_any xs p g lb eg A c w hr hc hp)
  clear hr hc hp
  generalize fidx p xs = r at HD HC
  go_enter Try.func98, Try.ntmps98
  go_wp2_with fail
  refine HC.out.mono ?_
  rintro e w1 ⟨rfl, hb1⟩
  go_wp2_with fail
  go_ret
  exact ⟨ret_b HD.out, hb1⟩
theorem within1_any (ys : List Int) (n : Int) (B : Option Addr) (d g : Nat) (w : World) (hg : w.cell? ⟨g, 0, none⟩ = some (.slice B ys.length d)) (hr : kI.C w B ys.length ys) (hc : ys.length ≤ d) :
    Calls Try.prog 99 #[.int .i64 n, .pointer (some ⟨g, 0, none⟩)] w (Ret w (.bool (!decide (n ∈ ys)))) := by
  have HC := Lib.hid (containsI_any ys n B d w hr hc)
  clear hr hc
  go_enter Try.func99, Try.ntmps99
  go_wp2_with fail
  refine HC.out.mono ?_
  rintro e w1 ⟨rfl, hb1⟩
  generalize hd : decide (n ∈ ys) = b
  have HD := Lib.hid hd
  clear hd
  go_wp2_with fail
  go_ret
  exact ⟨ret_b (by rw [HD.out]), hb1⟩
theorem implWithin_any (xs ys : List Int) (A B : Option Addr) (c d : Nat) (w : World) (hr : kI.C w A xs.length xs) (hc : xs.length ≤ c) (hr2 : kI.C w B ys.length ys) (hc2 : ys.length ≤ d) :
    Calls Try.prog 36 #[.slice A xs.length c, .slice B ys.length d] w (Ret w (.bool (decide (∀ x, x ∈ xs → x ∈ ys)))) := by
  have eg : ∀ args w, (callFunc 99 args).run Try.prog w = .ok (.enter 99 args) w := enters_of Try.func99 (by kernel_rfl) rfl
  have hbx : Below w.heap.size w (w.alloc (.cells #[.slice B ys.length d] 23)) := (Below.refl _ _).alloc (Nat.le_refl _) _
  have HC := Lib.hid (containsFuncI_any xs (fun n => !decide (n ∈ ys)) 99 #[.pointer (some ⟨w.heap.size, 0, none⟩)] eg A c (w.alloc (.cells #[.slice B ys.length d] 23)) (Kd.C_below hr hbx) hc
    (fun x _ W hb => within1_any ys x B d w.heap.size W ((hb.cell (p := ⟨w.heap.size, 0, none⟩) (by simp)).trans (by simp)) (Kd.C_below hr2 (hbx.trans (hb.mono (by simp)))) hc2))
  have hd : (!(xs.any fun n => !decide (n ∈ ys))) = decide (∀ x, x ∈ xs → x ∈ ys) := by
    rw [Bool.eq_iff_iff, decide_eq_true_iff]
    simp
  have HD := Lib.hid hd
  clear hd hr hr2 hc hc2
  generalize (xs.any fun n => !decide (n ∈ ys)) = b at HD HC
  go_enter Try.func36, Try.ntmps36
  go_wp2_with fail
  refine HC.out.mono ?_
  rintro e w1 ⟨rfl, hb1⟩
  go_wp2_with fail
  go_ret
  exact ⟨ret_b HD.out, below_step hbx hb1⟩
end Go.Proofs.Ytlghpblifbaciaa
