/- Words for the laws' proofs (part 2): contracts of functions, and plain lemmas. -/
import Derived.BigQuiet
import Derived.Deep.LoopGhost
import Derived.Deep.QuietTactic
import Derived.Deep.RegionHeld3
import Derived.Ground.Names2Prog
import Derived.IntWalk
import Derived.KernelRfl
import Derived.Laws.IdiomStrings
import Derived.Lib.Bytealg
import Derived.Lib.Hide
import Derived.Lib.LazyBuf
import Derived.Lib.SliceRun
import Derived.Lib.Strings
import Derived.Outline
import Derived.OwnWalk
import Derived.Shelf.Abstract
import Derived.Shelf.Slices.Empties
import Derived.Shelf.Slices.SearchI
import Derived.Shelf.Spec.SlicesInsertGrow
import Derived.Test.YtlklclebjeeaaaaProg
import Derived.WalkKit
import Derived.Test.YtlklclebjeeaaaaPb1
section
namespace Go.Proofs.Ytlklclebjeeaaaa
open Go.RowKit Go.Proofs.YtlklclebjeeaaaaW.PrintWords Go.Proofs.YtlklclebjeeaaaaW.PrintLast Go.Proofs.YtlklclebjeeaaaaW.PrintMore
set_option linter.unusedVariables false
set_option linter.unusedSimpArgs false

theorem infoI : (Try.prog.info? 3).map (fun i => (i.zero, i.size, i.bytes)) = some (some (.int .i64 0), 1, 8) := by kernel_rfl
theorem ret_b {a b : Bool} (h : a = b) : Ending.returned (.bool a) = .returned (.bool b) := by rw [h]
theorem ret_i {a b : Int} (h : a = b) : Ending.returned (.int .i64 a) = .returned (.int .i64 b) := by rw [h]

/-! where the first element is that has p: slices.Index and its kin -/
def fidx {α : Type} (p : α → Bool) (xs : List α) : Int := if xs.findIdx p < xs.length then (xs.findIdx p : Int) else -1
theorem fidx_hit {α : Type} {p : α → Bool} {xs : List α} {i : Nat} (h : i < xs.length) (hp : p xs[i] = true) (hn : ∀ j (hj : j < i), p (xs[j]'(by omega)) = false) : fidx p xs = i := by
  have e : xs.findIdx p = i := by
    rw [List.findIdx_eq h]
    exact ⟨hp, fun j hj => hn j hj⟩
  unfold fidx
  rw [e, if_pos h]
theorem fidx_miss {α : Type} {p : α → Bool} {xs : List α} (hn : ∀ j (hj : j < xs.length), p xs[j] = false) : fidx p xs = -1 := by
  have e : ¬ xs.findIdx p < xs.length := by
    intro h
    have := List.findIdx_getElem (w := h)
    rw [hn _ h] at this
    cases this
  unfold fidx
  rw [if_neg e]
theorem fidx_any {α : Type} (p : α → Bool) (xs : List α) : decide (0 ≤ fidx p xs) = xs.any p := by
  unfold fidx
  by_cases h : xs.findIdx p < xs.length
  · rw [if_pos h]
    have := List.findIdx_getElem (w := h)
    rw [decide_eq_true (by omega)]
    exact (List.any_eq_true.2 ⟨_, List.getElem_mem h, this⟩).symm
  · rw [if_neg h]
    rw [decide_eq_false (by omega)]
    symm
    rw [List.any_eq_false]
    intro x hx hp
    exact h (List.findIdx_lt_length_of_exists ⟨x, hx, hp⟩)
set_option maxHeartbeats 1000000 in
theorem l2Has_any (xs : List Int) (n : Int) (A : Option Addr) (c : Nat) (w : World) (hr : kI.C w A xs.length xs) (hc : xs.length ≤ c) :
    Calls Try.prog 113 #[.slice A xs.length c, .int .i64 n] w (Ret w (.bool (decide (n ∈ xs)))) := by
  have hmax := hr.2.1
  go_enter Try.func113, Try.ntmps113
  go_wp2_with fail
  go_loopg [5] xs.length (fun kq v5 w' => ∃ i : Nat, i ≤ xs.length ∧ xs.length - i ≤ kq ∧ v5 = .int .i64 i ∧ Aside0 (∀ j (h : j < xs.length), j < i → xs[j] ≠ n) ∧ Aside0 (Below w.heap.size w w'))
  case atStart => exact ⟨0, Nat.zero_le _, by omega, rfl, ⟨fun j _ h => absurd h (by omega)⟩, ⟨Below.refl _ _⟩⟩
  case round =>
    obtain ⟨i, hi, hg, rfl, HN, HW⟩ := hrel
    by_cases hlt : i < xs.length
    · obtain ⟨ad, e, hcell⟩ := int_at (Kd.C_below hr HW.out) i hlt
      subst e
      by_cases he : xs[i] = n
      · have hb : (xs[i] == n) = true := by simpa using he
        have hm : n ∈ xs := he ▸ List.getElem_mem hlt
        have HM := Lib.hid hm
        clear he hm
        go_wp2_with fail
        go_ret
        exact ⟨ret_b (decide_eq_true HM.out).symm, HW.out⟩
      · have hb : (xs[i] == n) = false := by simpa using he
        have HE := Lib.hid he
        clear he
        go_wp2_with fail
        go_roundg (xs.length - (i + 1))
        case measure => omega
        case rel =>
          refine ⟨i + 1, by omega, Nat.le_refl _, by go_num, ⟨fun j hj hji => ?_⟩, ⟨HW.out⟩⟩
          rcases Nat.lt_or_ge j i with h | h
          · exact HN.out j hj h
          · obtain rfl : j = i := by omega
            exact HE.out
    · obtain rfl : i = xs.length := by omega
      go_wp2_with fail
      go_ret
      refine ⟨ret_b (decide_eq_false ?_).symm, HW.out⟩
      intro hm
      obtain ⟨j, hj, he⟩ := List.getElem_of_mem hm
      exact HN.out j hj hj he
theorem within_any (a b c : Int) (w : World) : Calls Try.prog 86 #[.int .i64 a, .int .i64 b, .int .i64 c] w (Ret w (.bool (decide (b ≤ a ∧ a ≤ c)))) := by
  by_cases h1 : b ≤ a
  · have h1' : decide (b ≤ a) = true := decide_eq_true h1
    by_cases h2 : a ≤ c
    · have h2' : decide (a ≤ c) = true := decide_eq_true h2
      have H := Lib.hid (And.intro h1 h2); clear h1 h2
      go_enter Try.func86, Try.ntmps86
      go_wp2_with fail
      go_ret
      exact ⟨ret_b (decide_eq_true H.out).symm, Below.refl _ _⟩
    · have h2' : decide (a ≤ c) = false := decide_eq_false h2
      have H := Lib.hid h2; clear h1 h2
      go_enter Try.func86, Try.ntmps86
      go_wp2_with fail
      go_ret
      exact ⟨rfl, Below.refl _ _⟩
  · have h1' : decide (b ≤ a) = false := decide_eq_false h1
    have H := Lib.hid h1; clear h1
    go_enter Try.func86, Try.ntmps86
    go_wp2_with fail
    go_ret
    exact ⟨rfl, Below.refl _ _⟩
set_option maxHeartbeats 1000000 in
theorem specWithin_any (xs ys : List Int) (A B : Option Addr) (c d : Nat) (w : World) (hr : kI.C w A xs.length xs) (hc : xs.length ≤ c) (hr2 : kI.C w B ys.length ys) (hc2 : ys.length ≤ d) :
    Calls Try.prog 83 #[.slice A xs.length c, .slice B ys.length d] w (Ret w (.bool (decide (∀ x, x ∈ xs → x ∈ ys)))) := by
  have hmax := hr.2.1
  go_enter Try.func83, Try.ntmps83
  go_wp2_with fail
  go_loopg [5] xs.length (fun kq v5 w' => ∃ i : Nat, i ≤ xs.length ∧ xs.length - i ≤ kq ∧ v5 = .int .i64 i ∧ Aside0 (∀ j (h : j < xs.length), j < i → xs[j] ∈ ys) ∧ Aside0 (Below w.heap.size w w'))
  case atStart => exact ⟨0, Nat.zero_le _, by omega, rfl, ⟨fun j _ h => absurd h (by omega)⟩, ⟨Below.refl _ _⟩⟩
  case round =>
    obtain ⟨i, hi, hg, rfl, HN, HW⟩ := hrel
    by_cases hlt : i < xs.length
    · obtain ⟨ad, e, hcell⟩ := int_at (Kd.C_below hr HW.out) i hlt
      subst e
      have HC := Lib.hid (l2Has_any ys xs[i] B d wr (Kd.C_below hr2 HW.out) hc2)
      go_wp2_with fail
      refine HC.out.mono ?_
      rintro e w1 ⟨rfl, hb1⟩
      by_cases he : xs[i] ∈ ys
      · have HE := Lib.hid he
        rw [decide_eq_true he]
        clear he
        go_wp2_with fail
        go_roundg (xs.length - (i + 1))
        case measure => omega
        case rel =>
          refine ⟨i + 1, by omega, Nat.le_refl _, by go_num, ⟨fun j hj hji => ?_⟩, ⟨below_step HW.out hb1⟩⟩
          rcases Nat.lt_or_ge j i with h | h
          · exact HN.out j hj h
          · obtain rfl : j = i := by omega
            exact HE.out
      · have HE := Lib.hid he
        rw [decide_eq_false he]
        clear he
        go_wp2_with fail
        go_ret
        exact ⟨ret_b (decide_eq_false (fun h => HE.out (h _ (List.getElem_mem hlt)))).symm, below_step HW.out hb1⟩
    · obtain rfl : i = xs.length := by omega
      go_wp2_with fail
      go_ret
      refine ⟨ret_b (decide_eq_true ?_).symm, HW.out⟩
      intro x hx
      obtain ⟨j, hj, rfl⟩ := List.getElem_of_mem hx
      exact HN.out j hj hj
set_option maxHeartbeats 1000000 in
theorem indexI_any (xs : List Int) (n : Int) (A : Option Addr) (c : Nat) (w : World) (hr : kI.C w A xs.length xs) (hc : xs.length ≤ c) :
    Calls Try.prog 123 #[.slice A xs.length c, .int .i64 n] w (Ret w (.int .i64 (fidx (fun x => n == x) xs))) := by
  have hmax := hr.2.1
  go_enter Try.func123, Try.ntmps123
  go_wp2_with fail
  go_loopg [5, 8] xs.length (fun kq v5 v8 w' => ∃ i : Nat, i ≤ xs.length ∧ xs.length - i ≤ kq ∧ v8 = .int .i64 i ∧ Aside0 (∀ j (h : j < xs.length), j < i → (n == xs[j]) = false) ∧ Aside0 (Below w.heap.size w w'))
  case atStart => exact ⟨0, Nat.zero_le _, by omega, rfl, ⟨fun j _ h => absurd h (by omega)⟩, ⟨Below.refl _ _⟩⟩
  case round =>
    obtain ⟨i, hi, hg, rfl, HN, HW⟩ := hrel
    by_cases hlt : i < xs.length
    · obtain ⟨ad, e, hcell⟩ := int_at (Kd.C_below hr HW.out) i hlt
      subst e
      cases hb : (n == xs[i]) with
      | true =>
        have HB := Lib.hid (fidx_hit (p := fun x => n == x) hlt hb (fun j hj => HN.out j _ hj))
        go_wp2_with fail
        go_ret
        exact ⟨ret_i HB.out.symm, HW.out⟩
      | false =>
        have HE := Lib.hid hb
        go_wp2_with fail
        go_roundg (xs.length - (i + 1))
        case measure => omega
        case rel =>
          refine ⟨i + 1, by omega, Nat.le_refl _, by go_num, ⟨fun j hj hji => ?_⟩, ⟨HW.out⟩⟩
          rcases Nat.lt_or_ge j i with h | h
          · exact HN.out j hj h
          · obtain rfl : j = i := by omega
            exact HE.out
    · obtain rfl : i = xs.length := by omega
      go_wp2_with fail
      go_ret
      exact ⟨ret_i (fidx_miss (fun j hj => HN.out j hj hj)).symm, HW.out⟩
theorem containsI_any (xs : List Int) (n : Int) (A : Option Addr) (c : Nat) (w : World) (hr : kI.C w A xs.length xs) (hc : xs.length ≤ c) :
    Calls Try.prog 117 #[.slice A xs.length c, .int .i64 n] w (Ret w (.bool (decide (n ∈ xs)))) := by
  have hd : decide (0 ≤ fidx (fun x => n == x) xs) = decide (n ∈ xs) := by
    rw [fidx_any, Bool.eq_iff_iff, List.any_eq_true, decide_eq_true_iff]
    constructor
    · rintro ⟨x, hx, he⟩
      rw [eq_of_beq he]
      exact hx
    · intro h
      exact ⟨n, h, by simp⟩
  have HD := Lib.hid hd
  clear hd
  have HC := Lib.hid (indexI_any xs n A c w hr hc)
  clear hr hc
  generalize fidx (fun x => n == x) xs = r at HD HC
  go_enter Try.func117, Try.ntmps117
  go_wp2_with fail
  refine HC.out.mono ?_
  rintro e w1 ⟨rfl, hb1⟩
  go_wp2_with fail
  go_ret
  exact ⟨ret_b HD.out, hb1⟩
set_option maxHeartbeats 1000000 in
theorem indexFuncI_any (xs : List Int) (p : Int → Bool) (g : Nat) (lb : Array Value) (eg : ∀ args w, (callFunc g args).run Try.prog w = .ok (.enter g args) w) (A : Option Addr) (c : Nat) (w : World) (hr : kI.C w A xs.length xs) (hc : xs.length ≤ c)
    (hp : ∀ x, x ∈ xs → ∀ W, Below w.heap.size w W → Calls Try.prog g (#[.int .i64 x] ++ lb) W (Ret W (.bool (p x)))) :
    Calls Try.prog 93 #[.slice A xs.length c, .func (.func g) #[] lb] w (Ret w (.int .i64 (fidx p xs))) := by
  have hmax := hr.2.1
  have HP := Lib.hid hp
  clear hp
  go_enter Try.func93, Try.ntmps93
  go_wp2_with fail
  go_loopg [5, 8] xs.length (fun kq v5 v8 w' => ∃ i : Nat, i ≤ xs.length ∧ xs.length - i ≤ kq ∧ v8 = .int .i64 i ∧ Aside0 (∀ j (h : j < xs.length), j < i → p xs[j] = false) ∧ Aside0 (Below w.heap.size w w'))
  case atStart => exact ⟨0, Nat.zero_le _, by omega, rfl, ⟨fun j _ h => absurd h (by omega)⟩, ⟨Below.refl _ _⟩⟩
  case round =>
    obtain ⟨i, hi, hg, rfl, HN, HW⟩ := hrel
    by_cases hlt : i < xs.length
    · obtain ⟨ad, e, hcell⟩ := int_at (Kd.C_below hr HW.out) i hlt
      subst e
      have HC := Lib.hid (HP.out xs[i] (List.getElem_mem hlt) wr HW.out)
      generalize hb : p xs[i] = b at HC
      have HB := Lib.hid hb
      clear hb
      cases b with
      | true =>
        go_wp2_with fail
        refine HC.out.mono ?_
        rintro e w1 ⟨rfl, hb1⟩
        go_wp2_with fail
        go_ret
        exact ⟨ret_i (fidx_hit hlt HB.out (fun j hj => HN.out j _ hj)).symm, below_step HW.out hb1⟩
      | false =>
        go_wp2_with fail
        refine HC.out.mono ?_
        rintro e w1 ⟨rfl, hb1⟩
        go_wp2_with fail
        go_roundg (xs.length - (i + 1))
        case measure => omega
        case rel =>
          refine ⟨i + 1, by omega, Nat.le_refl _, by go_num, ⟨fun j hj hji => ?_⟩, ⟨below_step HW.out hb1⟩⟩
          rcases Nat.lt_or_ge j i with h | h
          · exact HN.out j hj h
          · obtain rfl : j = i := by omega
            exact HB.out
    · obtain rfl : i = xs.length := by omega
      go_wp2_with fail
      go_ret
      exact ⟨ret_i (fidx_miss (fun j hj => HN.out j hj hj)).symm, HW.out⟩
theorem containsFuncI_any (xs : List Int) (p : Int → Bool) (g : Nat) (lb : Array Value) (eg : ∀ args w, (callFunc g args).run Try.prog w = .ok (.enter g args) w) (A : Option Addr) (c : Nat) (w : World) (hr : kI.C w A xs.length xs) (hc : xs.length ≤ c)
    (hp : ∀ x, x ∈ xs → ∀ W, Below w.heap.size w W → Calls Try.prog g (#[.int .i64 x] ++ lb) W (Ret W (.bool (p x)))) :
    Calls Try.prog 91 #[.slice A xs.length c, .func (.func g) #[] lb] w (Ret w (.bool (xs.any p))) := by
  have HD := Lib.hid (fidx_any p xs)
  have HC := Lib.hid (indexFuncI_any xs p g lb eg A c w hr hc hp)
  clear hr hc hp
  generalize fidx p xs = r at HD HC
  go_enter Try.func91, Try.ntmps91
  go_wp2_with fail
  refine HC.out.mono ?_
  rintro e w1 ⟨rfl, hb1⟩
  go_wp2_with fail
  go_ret
  exact ⟨ret_b HD.out, hb1⟩
theorem within1_any (ys : List Int) (n : Int) (B : Option Addr) (d g : Nat) (w : World) (hg : w.cell? ⟨g, 0, none⟩ = some (.slice B ys.length d)) (hr : kI.C w B ys.length ys) (hc : ys.length ≤ d) :
    Calls Try.prog 116 #[.int .i64 n, .pointer (some ⟨g, 0, none⟩)] w (Ret w (.bool (!decide (n ∈ ys)))) := by
  have HC := Lib.hid (containsI_any ys n B d w hr hc)
  clear hr hc
  go_enter Try.func116, Try.ntmps116
  go_wp2_with fail
  refine HC.out.mono ?_
  rintro e w1 ⟨rfl, hb1⟩
  generalize hd : decide (n ∈ ys) = b
  have HD := Lib.hid hd
  clear hd
  go_wp2_with fail
  go_ret
  exact ⟨ret_b (by rw [HD.out]), hb1⟩
theorem implWithin_any (xs ys : List Int) (A B : Option Addr) (c d : Nat) (w : World) (hr : kI.C w A xs.length xs) (hc : xs.length ≤ c) (hr2 : kI.C w B ys.length ys) (hc2 : ys.length ≤ d) :
    Calls Try.prog 90 #[.slice A xs.length c, .slice B ys.length d] w (Ret w (.bool (decide (∀ x, x ∈ xs → x ∈ ys)))) := by
  have eg : ∀ args w, (callFunc 116 args).run Try.prog w = .ok (.enter 116 args) w := enters_of Try.func116 (by kernel_rfl) rfl
  have hbx : Below w.heap.size w (w.alloc (.cells #[.slice B ys.length d] 23)) := (Below.refl _ _).alloc (Nat.le_refl _) _
  have HC := Lib.hid (containsFuncI_any xs (fun n => !decide (n ∈ ys)) 116 #[.pointer (some ⟨w.heap.size, 0, none⟩)] eg A c (w.alloc (.cells #[.slice B ys.length d] 23)) (Kd.C_below hr hbx) hc
    (fun x _ W hb => within1_any ys x B d w.heap.size W ((hb.cell (p := ⟨w.heap.size, 0, none⟩) (by simp)).trans (by simp)) (Kd.C_below hr2 (hbx.trans (hb.mono (by simp)))) hc2))
  have hd : (!(xs.any fun n => !decide (n ∈ ys))) = decide (∀ x, x ∈ xs → x ∈ ys) := by
    rw [Bool.eq_iff_iff, decide_eq_true_iff]
    simp
  have HD := Lib.hid hd
  clear hd hr hr2 hc hc2
  generalize (xs.any fun n => !decide (n ∈ ys)) = b at HD HC
  go_enter Try.func90, Try.ntmps90
  go_wp2_with fail
  refine HC.out.mono ?_
  rintro e w1 ⟨rfl, hb1⟩
  go_wp2_with fail
  go_ret
  exact ⟨ret_b HD.out, below_step hbx hb1⟩
set_option maxHeartbeats 1000000 in
theorem eqIntS_any (xs ys : List Int) (A B : Option Addr) (c d : Nat) (w : World) (hr : kI.C w A xs.length xs) (hc : xs.length ≤ c) (hr2 : kI.C w B ys.length ys) (hc2 : ys.length ≤ d) :
    Calls Try.prog 16 #[.slice A xs.length c, .slice B ys.length d] w (Ret w (.bool (decide (xs = ys)))) := by
  have hmax := hr.2.1
  by_cases hl : xs.length = ys.length
  · have hl1 : ((xs.length : Int) == (ys.length : Int)) = true := by simp [hl]
    have hl2 : ((xs.length : Int) != (ys.length : Int)) = false := by simp [hl]
    have hl3 : (xs.length == ys.length) = true := by simp [hl]
    have hl4 : (xs.length != ys.length) = false := by simp [hl]
    have HL := Lib.hid hl
    clear hl
    go_enter Try.func16, Try.ntmps16
    go_wp2_with fail
    go_loopg [5] xs.length (fun kq v5 w' => ∃ i : Nat, i ≤ xs.length ∧ xs.length - i ≤ kq ∧ v5 = .int .i64 i ∧ Aside0 (∀ j (h : j < xs.length) (h2 : j < ys.length), j < i → xs[j] = ys[j]) ∧ Aside0 (Below w.heap.size w w'))
    case atStart => exact ⟨0, Nat.zero_le _, by omega, rfl, ⟨fun j _ _ h => absurd h (by omega)⟩, ⟨Below.refl _ _⟩⟩
    case round =>
      obtain ⟨i, hi, hg, rfl, HN, HW⟩ := hrel
      by_cases hlt : i < xs.length
      · have hlt2 : i < ys.length := by have := HL.out; omega
        obtain ⟨ad, e, hcell⟩ := int_at (Kd.C_below hr HW.out) i hlt
        subst e
        obtain ⟨ad2, e2, hcell2⟩ := int_at (Kd.C_below hr2 HW.out) i hlt2
        subst e2
        by_cases he : xs[i] = ys[i]
        · have hb1 : (xs[i] == ys[i]) = true := by simpa using he
          have hb2 : (xs[i] != ys[i]) = false := by simpa using he
          have HE := Lib.hid he
          clear he
          go_wp2_with fail
          go_quiet (fail)
          go_wp2_with fail
          go_roundg (xs.length - (i + 1))
          case measure => omega
          case rel =>
            refine ⟨i + 1, by omega, Nat.le_refl _, by go_num, ⟨fun j hj hj2 hji => ?_⟩, ⟨pw_below_drewN HW.out _⟩⟩
            rcases Nat.lt_or_ge j i with h | h
            · exact HN.out j hj hj2 h
            · obtain rfl : j = i := by omega
              exact HE.out
        · have hb1 : (xs[i] == ys[i]) = false := by simpa using he
          have hb2 : (xs[i] != ys[i]) = true := by simpa using he
          have HE := Lib.hid he
          clear he
          go_wp2_with fail
          go_quiet (fail)
          go_wp2_with fail
          go_ret
          refine ⟨ret_b (decide_eq_false (fun h => HE.out ?_)).symm, pw_below_drewN HW.out _⟩
          subst h
          rfl
      · obtain rfl : i = xs.length := by omega
        go_wp2_with fail
        go_ret
        refine ⟨ret_b (decide_eq_true (List.ext_getElem HL.out (fun j hj hj2 => HN.out j hj hj2 hj))).symm, HW.out⟩
  · have hl1 : ((xs.length : Int) == (ys.length : Int)) = false := by simp; omega
    have hl2 : ((xs.length : Int) != (ys.length : Int)) = true := by simp; omega
    have hl3 : (xs.length == ys.length) = false := by simp [hl]
    have hl4 : (xs.length != ys.length) = true := by simp [hl]
    have HL := Lib.hid hl
    clear hl
    go_enter Try.func16, Try.ntmps16
    go_wp2_with fail
    go_ret
    exact ⟨ret_b (decide_eq_false (fun h => HL.out (by rw [h]))).symm, Below.refl _ _⟩
set_option maxHeartbeats 1000000 in
theorem toIntS_any (xs : List Int) (A : Option Addr) (c : Nat) (w : World) (hr : kI.C w A xs.length xs) (hc : xs.length ≤ c) (hs : xs.length ≤ 35184372088832) :
    Calls Try.prog 49 #[.slice A xs.length c] w (fun e w' => ∃ v, e = .returned v ∧ kI.R 3 w' w.heap.size (fun _ => True) v xs ∧ Below w.heap.size w w') := by
  have hmax := hr.2.1
  have hdt : decide (0 ≤ (xs.length : Int)) = true := decide_eq_true (by omega)
  go_enter Try.func49, Try.ntmps49
  go_wp2_with (first | ((with_reducible refine gate_dst (N := 7) rfl ?_); refine Kd.R_make kI _ 3 rfl (N := 7) rfl 23 _ _ rfl (xs.length : Int) rfl rfl Try.underlying23 (.int .i64 0) 8 infoI rfl (by decide) (by omega) 0 (ok := fun _ => True) (okp := fun _ => True) rfl (fun _ hk => hk) trivial (by omega) (by omega) (Below.refl _ _) (Nat.le_refl _) ?_; intro v0 w0 ho0 hb0 hg0 hn0))
  go_loopg [4] xs.length (fun kq v4 w' => ∃ i : Nat, i ≤ xs.length ∧ xs.length - i ≤ kq ∧ v4 = .int .i64 i ∧ Aside0 (kI.R 3 w' w.heap.size (fun _ => True) v0 (xs.take i ++ List.replicate (xs.length - i) 0)) ∧ Aside0 (Below w.heap.size w w'))
  case atStart => exact ⟨0, Nat.zero_le _, by omega, rfl, ⟨by simpa using ho0⟩, ⟨hb0⟩⟩
  case round =>
    obtain ⟨i, hi, hg, rfl, HO, HW⟩ := hrel
    clear ho0 hb0 hg0 hn0
    by_cases hlt : i < xs.length
    · obtain ⟨ad, e, hcell⟩ := int_at (Kd.C_below hr HW.out) i hlt
      subst e
      obtain ⟨g, cap, e, hg1, _, hx, hf, _, HP⟩ := own_at HO.out i (by simp; omega)
      rw [fill_len xs 0 i hi] at e HP
      subst e
      have HP := Lib.hid (HP xs[i])
      have HG := Lib.hid hg1
      clear hg1
      go_wp2_with fail
      go_roundg (xs.length - (i + 1))
      case measure => omega
      case rel =>
        refine ⟨i + 1, by omega, Nat.le_refl _, by go_num, ⟨?_⟩, ⟨below_set HW.out HG.out⟩⟩
        have := HP.out
        rwa [fill_step xs 0 i hlt] at this
    · obtain rfl : i = xs.length := by omega
      go_wp2_with fail
      go_ret
      refine ⟨_, rfl, ?_, HW.out⟩
      have := HO.out
      rw [List.take_length, Nat.sub_self] at this
      simpa using this
end Go.Proofs.Ytlklclebjeeaaaa
end
section
namespace Go.Proofs.Ytlklclebjeeaaaa
set_option linter.unusedVariables false
set_option linter.unusedSimpArgs false

mutual
def Fm.size : Fm → Nat
  | ⟨_, _, _, _, ks⟩ => 1 + sizes ks
def sizes : List Fm → Nat
  | [] => 0
  | k :: ks => k.size + sizes ks
end
theorem Fm.size_eq (x : Fm) : x.size = 1 + sizes x.f4 := by cases x; rfl
theorem sizes_append (a b : List Fm) : sizes (a ++ b) = sizes a + sizes b := by
  induction a with
  | nil => simp [sizes]
  | cons x xs ih => simp only [List.cons_append, sizes, ih]; omega
theorem sizes_take (l : List Fm) (i : Nat) (h : i < l.length) : sizes (l.take (i + 1)) = sizes (l.take i) + l[i].size := by
  rw [List.take_succ_eq_append_getElem h, sizes_append]; simp [sizes]
theorem sizes_take_le (l : List Fm) (i : Nat) : sizes (l.take i) ≤ sizes l := by
  have h := sizes_append (l.take i) (l.drop i)
  rw [List.take_append_drop] at h
  omega
/-! values and letters: what szForm counts -/
mutual
def Fm.tot : Fm → Nat
  | ⟨_, nm, _, sc, ks⟩ => nm.size + sc.length + totL ks
def totL : List Fm → Nat
  | [] => 0
  | k :: ks => 1 + k.tot + totL ks
end
theorem Fm.tot_eq (x : Fm) : x.tot = x.f1.size + x.f3.length + totL x.f4 := by cases x; rfl
theorem totL_append (a b : List Fm) : totL (a ++ b) = totL a + totL b := by
  induction a with
  | nil => simp [totL]
  | cons x xs ih => simp only [List.cons_append, totL, ih]; omega
theorem totL_take (l : List Fm) (i : Nat) (h : i < l.length) : totL (l.take (i + 1)) = totL (l.take i) + (1 + l[i].tot) := by
  rw [List.take_succ_eq_append_getElem h, totL_append]; simp [totL]
theorem totL_mem {l : List Fm} {k : Fm} (h : k ∈ l) : k.tot + 1 ≤ totL l := by
  induction l with
  | nil => cases h
  | cons x xs ih =>
    simp only [totL]
    rcases List.mem_cons.1 h with rfl | h
    · omega
    · have := ih h; omega
theorem len_totL (l : List Fm) : l.length ≤ totL l := by
  induction l with
  | nil => simp
  | cons x xs ih => simp only [totL, List.length_cons]; omega
theorem sizes_totL : ∀ x : Fm, x.size ≤ 1 + x.tot := by
  intro x
  induction x using Fm.ind with
  | h x ih =>
    rw [Fm.size_eq, Fm.tot_eq]
    have key : ∀ l : List Fm, (∀ k, k ∈ l → k.size ≤ 1 + k.tot) → sizes l ≤ totL l := by
      intro l
      induction l with
      | nil => intro _; simp [sizes, totL]
      | cons y ys ih2 =>
        intro h
        simp only [sizes, totL]
        have h1 := h y List.mem_cons_self
        have h2 := ih2 (fun k hk => h k (List.mem_cons_of_mem _ hk))
        omega
    have := key x.f4 ih
    omega
/-- Names are not longer than any string is. -/
inductive NmSmall : Fm → Prop
  | mk (x : Fm) (h : x.f1.size ≤ 9223372036854775807) (hk : ∀ k, k ∈ x.f4 → NmSmall k) : NmSmall x
theorem NmSmall.nm {x : Fm} (h : NmSmall x) : x.f1.size ≤ 9223372036854775807 := by cases h; assumption
theorem NmSmall.kid {x : Fm} (h : NmSmall x) : ∀ k, k ∈ x.f4 → NmSmall k := by cases h; assumption
/-- What szForm returns. -/
def szR (L : Int) (t : Nat) : Int := if (t : Int) ≤ L then L - t else -1
theorem szR_neg {L : Int} {t : Nat} : szR L t < 0 ↔ L < t := by unfold szR; split <;> omega
theorem szR_yes {L : Int} {t : Nat} (h : (t : Int) ≤ L) : szR L t = L - t := by unfold szR; rw [if_pos h]
theorem szR_no {L : Int} {t : Nat} (h : L < t) : szR L t = -1 := by unfold szR; rw [if_neg (by omega)]
end Go.Proofs.Ytlklclebjeeaaaa
end
section
namespace Go.Proofs.Ytlklclebjeeaaaa
open Go.RowKit Go.Proofs.YtlklclebjeeaaaaW.PrintWords Go.Proofs.YtlklclebjeeaaaaW.PrintLast Go.Proofs.YtlklclebjeeaaaaW.PrintMore
set_option linter.unusedVariables false
set_option linter.unusedSimpArgs false

theorem szIntS_any (A : Option Addr) (n c : Nat) (L : Int) (w : World) (h0 : 0 ≤ L) (h1 : L ≤ 1048576) (hn : n ≤ 9223372036854775807) : Calls Try.prog 44 #[.slice A n c, .int .i64 L] w (Ret w (.int .i64 (szR L n))) := by
  by_cases h : (n : Int) ≤ L
  · have hd : decide (L - (n : Int) < 0) = false := decide_eq_false (by omega)
    have H := Lib.hid (szR_yes h)
    go_enter Try.func44, Try.ntmps44
    go_wp2_with fail
    go_ret
    exact ⟨ret_i H.out.symm, Below.refl _ _⟩
  · have hd : decide (L - (n : Int) < 0) = true := decide_eq_true (by omega)
    have H := Lib.hid (szR_no (L := L) (t := n) (by omega))
    go_enter Try.func44, Try.ntmps44
    go_wp2_with fail
    go_ret
    exact ⟨ret_i H.out.symm, Below.refl _ _⟩
/-- What is asked of szForm at a form. -/
def SzForm (x : Fm) : Prop := ∀ (A3 : Option Addr) (c3 : Nat) (A4 : Option Addr) (c4 : Nat) (L : Int) (w : World), FmIn w x A3 c3 A4 c4 → NmSmall x → 0 ≤ L → L ≤ 1048576 →
    Calls Try.prog 11 #[.agg #[.int .i64 x.f0, .string x.f1, .int .i64 x.f2, .slice A3 x.f3.length c3, .slice A4 x.f4.length c4], .int .i64 L] w (Ret w (.int .i64 (szR L x.tot)))
theorem totL_split (ks : List Fm) (i : Nat) : totL (ks.take i) + (ks.length - i) ≤ totL ks := by
  have h := totL_append (ks.take i) (ks.drop i)
  rw [List.take_append_drop] at h
  have := len_totL (ks.drop i)
  rw [List.length_drop] at this
  omega
set_option maxHeartbeats 1000000 in
theorem szFormS_of (ks : List Fm) (hks : ∀ k, k ∈ ks → SzForm k) (A : Option Addr) (c : Nat) (L : Int) (w : World) (hr : kF.C w A ks.length ks) (hc : ks.length ≤ c) (hnm : ∀ k, k ∈ ks → NmSmall k) (h0 : 0 ≤ L) (h1 : L ≤ 1048576) :
    Calls Try.prog 35 #[.slice A ks.length c, .int .i64 L] w (Ret w (.int .i64 (szR L (totL ks)))) := by
  have hmax := hr.2.1
  by_cases hlen : (ks.length : Int) ≤ L
  · have hd : decide (L - (ks.length : Int) < 0) = false := decide_eq_false (by omega)
    have HK := Lib.hid hks
    have HM := Lib.hid hnm
    clear hks hnm
    go_enter Try.func35, Try.ntmps35
    go_wp2_with fail
    go_loopg [1, 5] ks.length (fun kq v1 v5 w' => ∃ (i : Nat) (M : Int), i ≤ ks.length ∧ ks.length - i ≤ kq ∧ v5 = .int .i64 i ∧ v1 = .int .i64 M ∧ 0 ≤ M ∧ M ≤ L ∧ Aside0 (M = L - ((ks.length - i : Nat) : Int) - (totL (ks.take i) : Int)) ∧ Aside0 (Below w.heap.size w w'))
    case atStart => exact ⟨0, L - ks.length, Nat.zero_le _, by omega, rfl, rfl, by omega, by omega, ⟨by simp [totL]⟩, ⟨Below.refl _ _⟩⟩
    case round =>
      obtain ⟨i, M, hi, hg, rfl, rfl, hM0, hM1, HM1, HW⟩ := hrel
      by_cases hlt : i < ks.length
      · obtain ⟨ad, B3, d3, B4, d4, e, g0, g1, g2, g3, g4, hk⟩ := kid_at (Kd.C_below hr HW.out) i hlt
        have HC := Lib.hid (HK.out _ (List.getElem_mem hlt) B3 d3 B4 d4 M wr hk (HM.out _ (List.getElem_mem hlt)) hM0 (by omega))
        have HT := Lib.hid (totL_take ks i hlt)
        have HS := Lib.hid (totL_split ks (i + 1))
        clear hk
        subst e
        by_cases hq : (ks[i].tot : Int) ≤ M
        · rw [szR_yes hq] at HC
          have hd2 : decide (M - (ks[i].tot : Int) < 0) = false := decide_eq_false (by omega)
          go_wp2_with fail
          refine HC.out.mono ?_
          rintro e w1 ⟨rfl, hb1⟩
          go_wp2_with fail
          go_roundg (ks.length - (i + 1))
          case measure => omega
          case rel => exact ⟨i + 1, M - ks[i].tot, by omega, Nat.le_refl _, by go_num, rfl, by omega, by omega, ⟨by have := HM1.out; have := HT.out; omega⟩, ⟨below_step HW.out hb1⟩⟩
        · rw [szR_no (by omega)] at HC
          have HN := Lib.hid (szR_no (L := L) (t := totL ks) (by have := HM1.out; have := HT.out; have := HS.out; omega))
          go_wp2_with fail
          refine HC.out.mono ?_
          rintro e w1 ⟨rfl, hb1⟩
          go_wp2_with fail
          go_ret
          exact ⟨ret_i HN.out.symm, below_step HW.out hb1⟩
      · obtain rfl : i = ks.length := by omega
        have HN := Lib.hid (szR_yes (L := L) (t := totL ks) (by have := HM1.out; rw [List.take_length] at this; omega))
        have HE := Lib.hid (show M = L - (totL ks : Int) by have := HM1.out; rw [List.take_length] at this; omega)
        go_wp2_with fail
        go_ret
        exact ⟨ret_i (by rw [HN.out, HE.out]), HW.out⟩
  · have hd : decide (L - (ks.length : Int) < 0) = true := decide_eq_true (by omega)
    have HN := Lib.hid (szR_no (L := L) (t := totL ks) (by have := len_totL ks; omega))
    go_enter Try.func35, Try.ntmps35
    go_wp2_with fail
    go_ret
    exact ⟨ret_i HN.out.symm, Below.refl _ _⟩
theorem szR_step {L : Int} {a b : Nat} (h : (a : Int) ≤ L) : szR (L - a) b = szR L (a + b) := by unfold szR; split <;> split <;> omega
set_option maxHeartbeats 1000000 in
theorem szForm_any (x : Fm) : SzForm x := by
  induction x using Fm.ind with
  | h x ih =>
    intro A3 c3 A4 c4 L w hin hnm h0 h1
    have hn := hnm.nm
    have H3 := hin.g3.2.1
    rw [Fm.tot_eq]
    by_cases h2 : (x.f1.size : Int) ≤ L
    · have hd : decide (L - (x.f1.size : Int) < 0) = false := decide_eq_false (by omega)
      by_cases h3 : (x.f3.length : Int) ≤ L - x.f1.size
      · have HE : Hid (szR (L - x.f1.size - x.f3.length) (totL x.f4) = szR L (x.f1.size + x.f3.length + totL x.f4)) := Lib.hid (by rw [szR_step h3, szR_step h2]; congr 1; omega)
        go_enter Try.func11, Try.ntmps11
        go_wp2_with fail
        refine (szIntS_any A3 x.f3.length c3 _ _ (by omega) (by omega) H3).mono ?_
        rintro e w1 ⟨rfl, hb1⟩
        rw [szR_yes h3]
        have hd2 : decide (L - (x.f1.size : Int) - (x.f3.length : Int) < 0) = false := decide_eq_false (by omega)
        have hb0 : Below w.heap.size w w1 := below_step (below_new w _) hb1
        obtain ⟨q0, q1, q2, q3, q4⟩ := fm_cells (blk_below (blk_new w _) hb1)
        go_wp2_with fail
        refine (szFormS_of x.f4 ih A4 c4 _ _ (Kd.C_below hin.g4 hb0) hin.l4 hnm.kid (by omega) (by omega)).mono ?_
        rintro e w2 ⟨rfl, hb2⟩
        rw [HE.out]
        have hb3 := below_step hb0 hb2
        by_cases hz : szR L (x.f1.size + x.f3.length + totL x.f4) < 0
        · have hd3 := decide_eq_true hz
          have HZ : Hid (szR L (x.f1.size + x.f3.length + totL x.f4) = -1) := Lib.hid (szR_no (szR_neg.1 hz))
          clear hz
          go_wp2_with fail
          go_ret
          exact ⟨ret_i HZ.out.symm, hb3⟩
        · have hd3 := decide_eq_false hz
          clear hz
          go_wp2_with fail
          go_ret
          exact ⟨rfl, hb3⟩
      · have HZ : Hid (szR L (x.f1.size + x.f3.length + totL x.f4) = -1) := Lib.hid (szR_no (by omega))
        go_enter Try.func11, Try.ntmps11
        go_wp2_with fail
        refine (szIntS_any A3 x.f3.length c3 _ _ (by omega) (by omega) H3).mono ?_
        rintro e w1 ⟨rfl, hb1⟩
        rw [szR_no (by omega)]
        have hb0 : Below w.heap.size w w1 := ((Below.refl _ _).alloc (Nat.le_refl _) _).trans (hb1.mono (by simp))
        go_wp2_with fail
        go_ret
        exact ⟨ret_i HZ.out.symm, hb0⟩
    · have hd : decide (L - (x.f1.size : Int) < 0) = true := decide_eq_true (by omega)
      have HZ : Hid (szR L (x.f1.size + x.f3.length + totL x.f4) = -1) := Lib.hid (szR_no (by omega))
      go_enter Try.func11, Try.ntmps11
      go_wp2_with fail
      go_ret
      exact ⟨ret_i HZ.out.symm, (Below.refl _ _).alloc (Nat.le_refl _) _⟩
end Go.Proofs.Ytlklclebjeeaaaa
end
section
namespace Go.Proofs.Ytlklclebjeeaaaa
open Go.RowKit Go.Proofs.YtlklclebjeeaaaaW.PrintWords Go.Proofs.YtlklclebjeeaaaaW.PrintLast Go.Proofs.YtlklclebjeeaaaaW.PrintMore
set_option linter.unusedVariables false
set_option linter.unusedSimpArgs false

abbrev encI (xs : List Int) : List Value := encs (Value.int .i64) xs
abbrev obs (v : Value) : List Nat := v.ownBlock.toList
mutual
inductive TrF (w : World) : Fm → Value → Value → List Nat → Prop
  | mk (x : Fm) (v3 v4 : Value) (inner : List Value) (fp : List Nat) (h3 : w.ownsRow 0 3 1 v3 x.f3.length (encI x.f3)) (h4 : w.ownsRow 0 34 5 v4 x.f4.length inner) (hk : TrL w x.f4 inner fp) : TrF w x v3 v4 (obs v3 ++ (obs v4 ++ fp))
inductive TrL (w : World) : List Fm → List Value → List Nat → Prop
  | nil : TrL w [] [] []
  | cons (k : Fm) (ks : List Fm) (v3 v4 : Value) (rest : List Value) (fk fs : List Nat) (hk : TrF w k v3 v4 fk) (hs : TrL w ks rest fs) : TrL w (k :: ks) ([.int .i64 k.f0, .string k.f1, .int .i64 k.f2, v3, v4] ++ rest) (fk ++ fs)
end
theorem TrF.open {w : World} {x : Fm} {v3 v4 : Value} {fp : List Nat} (h : TrF w x v3 v4 fp) : ∃ inner fk, fp = obs v3 ++ (obs v4 ++ fk) ∧ w.ownsRow 0 3 1 v3 x.f3.length (encI x.f3) ∧ w.ownsRow 0 34 5 v4 x.f4.length inner ∧ TrL w x.f4 inner fk := by
  cases h with
  | mk _ _ _ inner fk h3 h4 hk => exact ⟨inner, fk, rfl, h3, h4, hk⟩
theorem TrL.cons_inv {w : World} {k : Fm} {ks : List Fm} {inner : List Value} {fp : List Nat} (h : TrL w (k :: ks) inner fp) : ∃ v3 v4 rest fk fs, inner = [.int .i64 k.f0, .string k.f1, .int .i64 k.f2, v3, v4] ++ rest ∧ fp = fk ++ fs ∧ TrF w k v3 v4 fk ∧ TrL w ks rest fs := by
  cases h with
  | cons _ _ v3 v4 rest fk fs hk hs => exact ⟨v3, v4, rest, fk, fs, rfl, rfl, hk, hs⟩
theorem TrL.nil_inv {w : World} {inner : List Value} {fp : List Nat} (h : TrL w [] inner fp) : inner = [] ∧ fp = [] := by
  cases h
  exact ⟨rfl, rfl⟩
/-- A fact on forms, shown for forms and lists of forms at once. -/
theorem TrL.of {w : World} {Q : List Fm → List Value → List Nat → Prop} (hn : Q [] [] []) (hc : ∀ k ks v3 v4 rest fk fs, TrF w k v3 v4 fk → TrL w ks rest fs → Q ks rest fs → Q (k :: ks) ([.int .i64 k.f0, .string k.f1, .int .i64 k.f2, v3, v4] ++ rest) (fk ++ fs)) : ∀ {ks : List Fm} {inner : List Value} {fp : List Nat}, TrL w ks inner fp → Q ks inner fp := by
  intro ks
  induction ks with
  | nil => intro inner fp h; obtain ⟨rfl, rfl⟩ := h.nil_inv; exact hn
  | cons k ks ih =>
    intro inner fp h
    obtain ⟨v3, v4, rest, fk, fs, rfl, rfl, hk, hs⟩ := h.cons_inv
    exact hc k ks v3 v4 rest fk fs hk hs (ih hs)
theorem TrL.len {w : World} {ks : List Fm} {inner : List Value} {fp : List Nat} (h : TrL w ks inner fp) : inner.length = ks.length * 5 := by
  refine TrL.of (Q := fun ks inner _ => inner.length = ks.length * 5) rfl ?_ h
  intro k ks v3 v4 rest fk fs _ _ ih
  simp [ih]; omega
theorem TrL.append {w : World} {a b : List Fm} {ia ib : List Value} {fa fb : List Nat} (ha : TrL w a ia fa) (hb : TrL w b ib fb) : TrL w (a ++ b) (ia ++ ib) (fa ++ fb) := by
  refine TrL.of (Q := fun a ia fa => TrL w (a ++ b) (ia ++ ib) (fa ++ fb)) hb ?_ ha
  intro k ks v3 v4 rest fk fs hk _ ih
  rw [List.cons_append, List.append_assoc, List.append_assoc]
  exact .cons k _ v3 v4 _ fk _ hk ih
theorem TrL.one {w : World} {k : Fm} {v3 v4 : Value} {fk : List Nat} (hk : TrF w k v3 v4 fk) : TrL w [k] [.int .i64 k.f0, .string k.f1, .int .i64 k.f2, v3, v4] fk := by
  have := TrL.cons k [] v3 v4 [] fk [] hk .nil
  simpa using this
theorem TrL.split {w : World} (a : List Fm) : ∀ {b : List Fm} {inner : List Value} {fp : List Nat}, TrL w (a ++ b) inner fp → ∃ ia ib fa fb, inner = ia ++ ib ∧ fp = fa ++ fb ∧ TrL w a ia fa ∧ TrL w b ib fb := by
  induction a with
  | nil => intro b inner fp h; exact ⟨[], inner, [], fp, rfl, rfl, .nil, h⟩
  | cons k ks ih =>
    intro b inner fp h
    obtain ⟨v3, v4, rest, fk, fs, rfl, rfl, hk, hs⟩ := TrL.cons_inv (ks := ks ++ b) h
    obtain ⟨ia, ib, fa, fb, rfl, rfl, h1, h2⟩ := ih hs
    exact ⟨_ ++ ia, ib, fk ++ fa, fb, by rw [List.append_assoc], by rw [List.append_assoc], .cons k ks v3 v4 ia fk fa hk h1, h2⟩
theorem obs_mem {v : Value} {k : Nat} : k ∈ obs v ↔ v.ownBlock = some k := by
  unfold obs
  cases v.ownBlock <;> simp [eq_comm]
theorem own_base_ {w : World} {e sz n B : Nat} {v : Value} {xs : List Value} (h : w.ownsRow 0 e sz v n xs) (hb : ∀ b, v.ownBlock = some b → B ≤ b) : w.ownsRow B e sz v n xs := by
  obtain ⟨h1, h2⟩ := h
  refine ⟨h1, ?_⟩
  rcases h2 with h2 | ⟨g, cap, cur, rfl, hg, r⟩
  · exact .inl h2
  · exact .inr ⟨g, cap, cur, rfl, hb g rfl, r⟩
/-- Where the blocks of the footprint stand as_ they stood, the form stands. -/
theorem TrF.move {w w1 : World} : ∀ (x : Fm) {v3 v4 : Value} {fp : List Nat}, TrF w x v3 v4 fp → (∀ b, b ∈ fp → w1.heap[b]? = w.heap[b]?) → TrF w1 x v3 v4 fp := by
  intro x
  induction x using Fm.ind with
  | h x ih =>
    intro v3 v4 fp h hm
    obtain ⟨inner, fk, rfl, h3, h4, hk⟩ := h.open
    refine .mk x v3 v4 inner fk (own_move h3 (fun k hk => hm k (by simp [obs_mem, hk]))) (own_move h4 (fun k hk => hm k (by simp [obs_mem, hk]))) ?_
    have key : ∀ (ks : List Fm), (∀ k, k ∈ ks → k ∈ x.f4) → ∀ {inner : List Value} {fk : List Nat}, TrL w ks inner fk → (∀ b, b ∈ fk → w1.heap[b]? = w.heap[b]?) → TrL w1 ks inner fk := by
      intro ks
      induction ks with
      | nil => intro _ inner fk h _; obtain ⟨rfl, rfl⟩ := h.nil_inv; exact .nil
      | cons k ks ih2 =>
        intro hsub inner fk h hm
        obtain ⟨u3, u4, rest, f1, f2, rfl, rfl, hk, hs⟩ := h.cons_inv
        exact .cons k ks u3 u4 rest f1 f2 (ih k (hsub k List.mem_cons_self) hk (fun b hb => hm b (List.mem_append_left _ hb))) (ih2 (fun k hk => hsub k (List.mem_cons_of_mem _ hk)) hs (fun b hb => hm b (List.mem_append_right _ hb)))
    exact key x.f4 (fun _ h => h) hk (fun b hb => hm b (by simp [hb]))
theorem TrL.move {w w1 : World} : ∀ (ks : List Fm) {inner : List Value} {fk : List Nat}, TrL w ks inner fk → (∀ b, b ∈ fk → w1.heap[b]? = w.heap[b]?) → TrL w1 ks inner fk := by
  intro ks
  induction ks with
  | nil => intro inner fk h _; obtain ⟨rfl, rfl⟩ := h.nil_inv; exact .nil
  | cons k ks ih2 =>
    intro inner fk h hm
    obtain ⟨u3, u4, rest, f1, f2, rfl, rfl, hk, hs⟩ := h.cons_inv
    exact .cons k ks u3 u4 rest f1 f2 (hk.move k (fun b hb => hm b (List.mem_append_left _ hb))) (ih2 hs (fun b hb => hm b (List.mem_append_right _ hb)))
theorem TrF.lt {w : World} : ∀ (x : Fm) {v3 v4 : Value} {fp : List Nat}, TrF w x v3 v4 fp → ∀ b, b ∈ fp → b < w.heap.size := by
  intro x
  induction x using Fm.ind with
  | h x ih =>
    intro v3 v4 fp h b hb
    obtain ⟨inner, fk, rfl, h3, h4, hk⟩ := h.open
    rcases List.mem_append.1 hb with hb | hb
    · exact own_lt h3 b (obs_mem.1 hb)
    rcases List.mem_append.1 hb with hb | hb
    · exact own_lt h4 b (obs_mem.1 hb)
    have key : ∀ (ks : List Fm), (∀ k, k ∈ ks → k ∈ x.f4) → ∀ {inner : List Value} {fk : List Nat}, TrL w ks inner fk → ∀ b, b ∈ fk → b < w.heap.size := by
      intro ks
      induction ks with
      | nil => intro _ inner fk h b hb; obtain ⟨rfl, rfl⟩ := h.nil_inv; cases hb
      | cons k ks ih2 =>
        intro hsub inner fk h b hb
        obtain ⟨u3, u4, rest, f1, f2, rfl, rfl, hk, hs⟩ := h.cons_inv
        rcases List.mem_append.1 hb with hb | hb
        · exact ih k (hsub k List.mem_cons_self) hk b hb
        · exact ih2 (fun k hk => hsub k (List.mem_cons_of_mem _ hk)) hs b hb
    exact key x.f4 (fun _ h => h) hk b hb
theorem TrL.lt {w : World} : ∀ (ks : List Fm) {inner : List Value} {fk : List Nat}, TrL w ks inner fk → ∀ b, b ∈ fk → b < w.heap.size := by
  intro ks
  induction ks with
  | nil => intro inner fk h b hb; obtain ⟨rfl, rfl⟩ := h.nil_inv; cases hb
  | cons k ks ih2 =>
    intro inner fk h b hb
    obtain ⟨u3, u4, rest, f1, f2, rfl, rfl, hk, hs⟩ := h.cons_inv
    rcases List.mem_append.1 hb with hb | hb
    · exact hk.lt k b hb
    · exact ih2 hs b hb
theorem TrF.later {w w1 : World} {x : Fm} {v3 v4 : Value} {fp : List Nat} (h : TrF w x v3 v4 fp) (hb : Below w.heap.size w w1) : TrF w1 x v3 v4 fp := h.move x (fun b hb2 => hb.block b (h.lt x b hb2))
theorem TrL.later {w w1 : World} {ks : List Fm} {inner : List Value} {fp : List Nat} (h : TrL w ks inner fp) (hb : Below w.heap.size w w1) : TrL w1 ks inner fp := h.move ks (fun b hb2 => hb.block b (h.lt ks b hb2))
/-- A row of numbers reads. -/
theorem own_C {w : World} {v : Value} {xs : List Int} (h : w.ownsRow 0 3 1 v xs.length (encI xs)) : ∃ A c, v = .slice A xs.length c ∧ xs.length ≤ c ∧ kI.C w A xs.length xs := by
  obtain ⟨A, c, e, hr⟩ := own_reads_row (R := kI.K w) h (Kd.reps_scalar xs) rfl
  subst e
  exact ⟨A, c, rfl, own_le h, hr⟩
/-- A form in new memory reads. -/
theorem TrF.In {w : World} : ∀ (x : Fm) {v3 v4 : Value} {fp : List Nat}, TrF w x v3 v4 fp → ∃ A3 c3 A4 c4, v3 = .slice A3 x.f3.length c3 ∧ v4 = .slice A4 x.f4.length c4 ∧ FmIn w x A3 c3 A4 c4 := by
  intro x
  induction x using Fm.ind with
  | h x ih =>
    intro v3 v4 fp h
    obtain ⟨inner, fk, rfl, h3, h4, hk⟩ := h.open
    obtain ⟨A3, c3, rfl, l3, r3⟩ := own_C h3
    have key : ∀ (ks : List Fm), (∀ k, k ∈ ks → k ∈ x.f4) → ∀ {inner : List Value} {fk : List Nat}, TrL w ks inner fk → Reps (kF.K w) 5 ks inner := by
      intro ks
      induction ks with
      | nil => intro _ inner fk h; obtain ⟨rfl, rfl⟩ := h.nil_inv; exact Reps.none _ _
      | cons k ks ih2 =>
        intro hsub inner fk h
        obtain ⟨u3, u4, rest, f1, f2, rfl, rfl, hk, hs⟩ := h.cons_inv
        obtain ⟨B3, d3, B4, d4, rfl, rfl, hin⟩ := ih k (hsub k List.mem_cons_self) hk
        have hr := ih2 (fun k hk => hsub k (List.mem_cons_of_mem _ hk)) hs
        refine ⟨by rw [List.length_append, hr.1]; simp; omega, fun j p hj => ?_⟩
        cases j with
        | zero =>
          have : k = p := by simpa using hj
          subst this
          simpa using kF_mk hin
        | succ j =>
          have h2 := hr.2 j p (by simpa using hj)
          rw [show (j + 1) * 5 = 5 + j * 5 from by omega, ← List.drop_drop]
          simpa using h2
    obtain ⟨A4, c4, e, r4⟩ := own_reads_row (R := kF.K w) h4 (key x.f4 (fun _ h => h) hk) rfl
    subst e
    exact ⟨A3, c3, A4, c4, rfl, rfl, l3, r3, own_le h4, r4⟩
theorem TrL.reps {w : World} : ∀ (ks : List Fm) {inner : List Value} {fk : List Nat}, TrL w ks inner fk → Reps (kF.K w) 5 ks inner := by
  intro ks
  induction ks with
  | nil => intro inner fk h; obtain ⟨rfl, rfl⟩ := h.nil_inv; exact Reps.none _ _
  | cons k ks ih2 =>
    intro inner fk h
    obtain ⟨u3, u4, rest, f1, f2, rfl, rfl, hk, hs⟩ := h.cons_inv
    obtain ⟨B3, d3, B4, d4, rfl, rfl, hin⟩ := hk.In k
    have hr := ih2 hs
    refine ⟨by rw [List.length_append, hr.1]; simp; omega, fun j p hj => ?_⟩
    cases j with
    | zero =>
      have : k = p := by simpa using hj
      subst this
      simpa using kF_mk hin
    | succ j =>
      have h2 := hr.2 j p (by simpa using hj)
      rw [show (j + 1) * 5 = 5 + j * 5 from by omega, ← List.drop_drop]
      simpa using h2
theorem TrL.C {w : World} {ks : List Fm} {inner : List Value} {fk : List Nat} {v : Value} (h : TrL w ks inner fk) (h4 : w.ownsRow 0 34 5 v ks.length inner) : ∃ A c, v = .slice A ks.length c ∧ ks.length ≤ c ∧ kF.C w A ks.length ks := by
  obtain ⟨A4, c4, e, r4⟩ := own_reads_row (R := kF.K w) h4 (h.reps ks) rfl
  subst e
  exact ⟨A4, c4, rfl, own_le h4, r4⟩
/-- Five stores, one behind the other: an element of a row. -/
abbrev set5 (w : World) (g o : Nat) (b0 b1 b2 b3 b4 : Value) : World := ((((w.setCell ⟨g, o, none⟩ b0).setCell ⟨g, o + 1, none⟩ b1).setCell ⟨g, o + 2, none⟩ b2).setCell ⟨g, o + 3, none⟩ b3).setCell ⟨g, o + 4, none⟩ b4
theorem set5_far (w : World) (g o : Nat) (b0 b1 b2 b3 b4 : Value) (k : Nat) (h : k ≠ g) : (set5 w g o b0 b1 b2 b3 b4).heap[k]? = w.heap[k]? := by
  unfold set5
  rw [Below.heap_setCell _ _ _ _ h, Below.heap_setCell _ _ _ _ h, Below.heap_setCell _ _ _ _ h, Below.heap_setCell _ _ _ _ h, Below.heap_setCell _ _ _ _ h]
theorem set5_below {B : Nat} {a w : World} (h : Below B a w) {g : Nat} (hg : B ≤ g) (o : Nat) (b0 b1 b2 b3 b4 : Value) : Below B a (set5 w g o b0 b1 b2 b3 b4) :=
  ((((h.setCell (p := ⟨g, _, none⟩) hg _).setCell (p := ⟨g, _, none⟩) hg _).setCell (p := ⟨g, _, none⟩) hg _).setCell (p := ⟨g, _, none⟩) hg _).setCell (p := ⟨g, _, none⟩) hg _
theorem row_put {w : World} {e g n cap i : Nat} {inner rest : List Value} {a0 a1 a2 a3 a4 : Value} (h : w.ownsRow 0 e 5 (.slice (some ⟨g, 0, none⟩) n cap) n (inner ++ ([a0, a1, a2, a3, a4] ++ rest))) (hl : inner.length = i * 5) :
    (w.cell? ⟨g, i * 5, none⟩ = some a0 ∧ w.cell? ⟨g, i * 5 + 1, none⟩ = some a1 ∧ w.cell? ⟨g, i * 5 + 2, none⟩ = some a2 ∧ w.cell? ⟨g, i * 5 + 3, none⟩ = some a3 ∧ w.cell? ⟨g, i * 5 + 4, none⟩ = some a4) ∧
    (∀ j, w.frozen? ⟨g, j, none⟩ = false) ∧
    ∀ b0 b1 b2 b3 b4, (set5 w g (i * 5) b0 b1 b2 b3 b4).ownsRow 0 e 5 (.slice (some ⟨g, 0, none⟩) n cap) n (inner ++ ([b0, b1, b2, b3, b4] ++ rest)) := by
  have hn : inner.length + 5 + rest.length = n * 5 := by have := h.1; simp at this; omega
  have hc : ∀ j, j < 5 → w.cell? ⟨g, i * 5 + j, none⟩ = ([a0, a1, a2, a3, a4] ++ rest)[j]? := by
    intro j hj
    rw [World.ownsRow.cellAt h _ (by omega), List.getElem?_append_right (by omega)]
    congr 1
    omega
  refine ⟨⟨hc 0 (by omega), hc 1 (by omega), hc 2 (by omega), hc 3 (by omega), hc 4 (by omega)⟩, fun j => World.ownsRow.frozenAt h j, fun b0 b1 b2 b3 b4 => ?_⟩
  have s0 := (World.ownsRow.stored h (i * 5) b0).1
  have s1 := (World.ownsRow.stored s0 (i * 5 + 1) b1).1
  have s2 := (World.ownsRow.stored s1 (i * 5 + 2) b2).1
  have s3 := (World.ownsRow.stored s2 (i * 5 + 3) b3).1
  have s4 := (World.ownsRow.stored s3 (i * 5 + 4) b4).1
  have e : ((((((inner ++ ([a0, a1, a2, a3, a4] ++ rest)).set (i * 5) b0).set (i * 5 + 1) b1).set (i * 5 + 2) b2).set (i * 5 + 3) b3).set (i * 5 + 4) b4) = inner ++ ([b0, b1, b2, b3, b4] ++ rest) := by
    rw [← hl]
    simp [List.set_append]
  rw [e] at s4
  exact s4
end Go.Proofs.Ytlklclebjeeaaaa
end
section
namespace Go.Proofs.Ytlklclebjeeaaaa
open Go.RowKit Go.Proofs.YtlklclebjeeaaaaW.PrintWords Go.Proofs.YtlklclebjeeaaaaW.PrintLast Go.Proofs.YtlklclebjeeaaaaW.PrintMore
set_option linter.unusedVariables false
set_option linter.unusedSimpArgs false

theorem infoF : (Try.prog.info? 34).map (fun i => (i.zero, i.size, i.bytes)) = some (some (.agg #[(.int .i64 0), (.string ⟨#[]⟩), (.int .i64 0), (.slice none 0 0), (.slice none 0 0)]), 5, 80) := by kernel_rfl
/-- A form in new memory, from block B on. -/
def NewF (B : Nat) (w' : World) (x : Fm) (v3 v4 : Value) : Prop := ∃ fp, TrF w' x v3 v4 fp ∧ fp.Nodup ∧ ∀ b, b ∈ fp → B ≤ b
/-- A list of forms in new memory, from block B on. -/
def NewL (B : Nat) (w' : World) (ks : List Fm) (v : Value) : Prop := ∃ inner fp, w'.ownsRow 0 34 5 v ks.length inner ∧ TrL w' ks inner fp ∧ (obs v ++ fp).Nodup ∧ ∀ b, b ∈ obs v ++ fp → B ≤ b
def RetF (w : World) (x : Fm) (e : Ending) (w' : World) : Prop := ∃ v3 v4, e = .returned (.agg #[.int .i64 x.f0, .string x.f1, .int .i64 x.f2, v3, v4]) ∧ NewF w.heap.size w' x v3 v4 ∧ Below w.heap.size w w'
def RetL (w : World) (ks : List Fm) (e : Ending) (w' : World) : Prop := ∃ v, e = .returned v ∧ NewL w.heap.size w' ks v ∧ Below w.heap.size w w'

/-- As the print tells what is the call's own. -/
theorem TrF.R {w : World} {B : Nat} : ∀ (x : Fm) {v3 v4 : Value} {fp : List Nat} {ok : Nat → Prop}, TrF w x v3 v4 fp → fp.Nodup → (∀ b, b ∈ fp → B ≤ b) → (∀ b, b ∈ fp → ok b) → kI.R 3 w B ok v3 x.f3 ∧ kF.R 34 w B (fun k => ok k ∧ some k ≠ v3.ownBlock) v4 x.f4 := by
  intro x
  induction x using Fm.ind with
  | h x ih =>
    intro v3 v4 fp ok h hnd hge hok
    obtain ⟨inner, fk, rfl, h3, h4, hk⟩ := h.open
    obtain ⟨n1, n2, n3⟩ := List.nodup_append.1 hnd
    obtain ⟨n4, n5, n6⟩ := List.nodup_append.1 n2
    refine ⟨Kd.R_of_own (own_base_ h3 (fun b hb => hge b (by simp [obs_mem, hb]))) (fun k hk => hok k (by simp [obs_mem, hk])), fun k hk => ⟨hok k (by simp [obs_mem, hk]), fun he => n3 k (obs_mem.2 he.symm) k (by simp [obs_mem, hk]) rfl⟩, inner, own_base_ h4 (fun b hb => hge b (by simp [obs_mem, hb])), ?_⟩
    have key : ∀ (ks : List Fm), (∀ k, k ∈ ks → k ∈ x.f4) → ∀ {inner : List Value} {fk : List Nat}, TrL w ks inner fk → fk.Nodup → (∀ b, b ∈ fk → B ≤ b) → (∀ b, b ∈ fk → ok b ∧ some b ≠ v3.ownBlock ∧ some b ≠ v4.ownBlock) → Reps (kF.M w B (fun k => (ok k ∧ some k ≠ v3.ownBlock) ∧ some k ≠ v4.ownBlock)) 5 ks inner := by
      intro ks
      induction ks with
      | nil => intro _ inner fk h _ _ _; obtain ⟨rfl, rfl⟩ := h.nil_inv; exact Reps.none _ _
      | cons k ks ih2 =>
        intro hsub inner fk h hnd hge hok
        obtain ⟨u3, u4, rest, f1, f2, rfl, rfl, hk, hs⟩ := h.cons_inv
        obtain ⟨m1, m2, m3⟩ := List.nodup_append.1 hnd
        have hR := ih k (hsub k List.mem_cons_self) (ok := fun k => (ok k ∧ some k ≠ v3.ownBlock) ∧ some k ≠ v4.ownBlock) hk m1 (fun b hb => hge b (List.mem_append_left _ hb)) (fun b hb => ⟨⟨(hok b (List.mem_append_left _ hb)).1, (hok b (List.mem_append_left _ hb)).2.1⟩, (hok b (List.mem_append_left _ hb)).2.2⟩)
        have hr := ih2 (fun k hk => hsub k (List.mem_cons_of_mem _ hk)) hs m2 (fun b hb => hge b (List.mem_append_right _ hb)) (fun b hb => hok b (List.mem_append_right _ hb))
        refine ⟨by rw [List.length_append, hr.1]; simp; omega, fun j p hj => ?_⟩
        cases j with
        | zero =>
          have : k = p := by simpa using hj
          subst this
          simpa using kF_mkM hR.1 (Kd.R_mono hR.2 (fun _ h => h.1))
        | succ j =>
          have h2 := hr.2 j p (by simpa using hj)
          rw [show (j + 1) * 5 = 5 + j * 5 from by omega, ← List.drop_drop]
          simpa using h2
    refine key x.f4 (fun _ h => h) hk n5 (fun b hb => hge b (by simp [hb])) (fun b hb => ⟨hok b (by simp [hb]), fun he => n3 b (obs_mem.2 he.symm) b (by simp [hb]) rfl, fun he => n6 b (obs_mem.2 he.symm) b hb rfl⟩)
abbrev zc : List Value := [.int .i64 0, .string ⟨#[]⟩, .int .i64 0, .slice none 0 0, .slice none 0 0]
theorem zc_raw (w : World) (base : Nat) (ok : Nat → Prop) : (Kd.raw 5).M w base ok zc (Value.agg #[(.int .i64 0), (.string ⟨#[]⟩), (.int .i64 0), (.slice none 0 0), (.slice none 0 0)]).cells.toList := by
  refine ⟨rfl, rfl, fun u hu => ?_⟩
  have hu' : u ∈ zc := hu
  simp only [zc, List.mem_cons, List.not_mem_nil, or_false] at hu'
  rcases hu' with rfl | rfl | rfl | rfl | rfl <;> rfl
theorem reps_flat {sz : Nat} (hs : 0 < sz) : ∀ (rows : List (List Value)) (inner : List Value), Reps (fun x cs => cs = x ∧ cs.length = sz ∧ ∀ u ∈ cs, u.oneCell' = true) sz rows inner → inner = rows.flatten := by
  intro rows
  induction rows with
  | nil => intro inner h; have := h.1; simp at this; simp [this]
  | cons r rows ih =>
    intro inner h
    have h0 := h.2 0 r rfl
    simp only [Nat.zero_mul, List.drop_zero] at h0
    have h1 : Reps (fun x cs => cs = x ∧ cs.length = sz ∧ ∀ u ∈ cs, u.oneCell' = true) sz rows (inner.drop sz) := by
      refine ⟨by rw [List.length_drop, h.1, List.length_cons, Nat.add_mul]; omega, fun j p hj => ?_⟩
      have := h.2 (j + 1) p (by simpa using hj)
      rwa [Nat.add_mul, Nat.one_mul, Nat.add_comm, ← List.drop_drop] at this
    rw [List.flatten_cons, ← ih _ h1, ← h0.1, List.take_append_drop]
/-- What make([]Form, n) leaves. -/
theorem zeros_of {w : World} {base : Nat} {ok : Nat → Prop} {v : Value} {n : Nat} (h : (Kd.raw 5).R 34 w base ok v (List.replicate n zc)) : w.ownsRow 0 34 5 v n (List.replicate n zc).flatten := by
  obtain ⟨_, inner, ho, hr⟩ := h
  rw [reps_flat (by omega) _ _ hr, List.length_replicate] at ho
  exact own_weaken ho (Nat.zero_le _)
def ToForm (x : Fm) : Prop := ∀ (A3 : Option Addr) (c3 : Nat) (A4 : Option Addr) (c4 : Nat) (w : World), FmIn w x A3 c3 A4 c4 → x.tot ≤ 1048576 →
    Calls Try.prog 14 #[.agg #[.int .i64 x.f0, .string x.f1, .int .i64 x.f2, .slice A3 x.f3.length c3, .slice A4 x.f4.length c4]] w (RetF w x)
set_option maxHeartbeats 4000000 in
theorem toFormS_of (ks : List Fm) (hks : ∀ k, k ∈ ks → ToForm k) (A : Option Addr) (c : Nat) (w : World) (hr : kF.C w A ks.length ks) (hc : ks.length ≤ c) (ht : totL ks ≤ 1048576) :
    Calls Try.prog 37 #[.slice A ks.length c] w (RetL w ks) := by
  have hmax := hr.2.1
  have hlen := len_totL ks
  have HK := Lib.hid hks
  clear hks
  go_enter Try.func37, Try.ntmps37
  go_wp2_with (first | ((with_reducible refine gate_dst (N := 7) rfl ?_); refine Kd.R_make (Kd.raw 5) _ 34 rfl (N := 7) rfl 32 _ _ rfl (ks.length : Int) rfl rfl Try.underlying32 (.agg #[(.int .i64 0), (.string ⟨#[]⟩), (.int .i64 0), (.slice none 0 0), (.slice none 0 0)]) 80 infoF rfl (by decide) (by omega) zc (ok := fun _ => True) (okp := fun _ => True) (zc_raw _ _ _) (fun _ hk => hk) trivial (by omega) (by omega) (Below.refl _ _) (Nat.le_refl _) ?_; intro v0 w0 ho0 hb0 hg0 hn0))
  rw [Int.toNat_natCast] at ho0
  have hz := zeros_of ho0
  obtain ⟨bn, hbn1, hbn2⟩ := hn0
  go_loopg [4] ks.length (fun kq v4 w' => ∃ i : Nat, i ≤ ks.length ∧ ks.length - i ≤ kq ∧ v4 = .int .i64 i ∧ Aside0 (∃ inner fp, w'.ownsRow 0 34 5 v0 ks.length (inner ++ (List.replicate (ks.length - i) zc).flatten) ∧ TrL w' (ks.take i) inner fp ∧ (obs v0 ++ fp).Nodup ∧ ∀ b, b ∈ obs v0 ++ fp → w.heap.size ≤ b) ∧ Aside0 (Below w.heap.size w w'))
  case atStart =>
    refine ⟨0, Nat.zero_le _, by omega, rfl, ⟨[], [], by simpa using hz, by simpa using TrL.nil, by simp [obs, hbn1], by simpa [obs, hbn1] using hbn2⟩, ⟨hb0⟩⟩
  case round =>
    obtain ⟨i, hi, hg, rfl, HO, HW⟩ := hrel
    clear ho0 hz hb0 hg0 hbn1 hbn2
    by_cases hlt : i < ks.length
    · obtain ⟨ad, B3, d3, B4, d4, e, g0, g1, g2, g3, g4, hk⟩ := kid_at (Kd.C_below hr HW.out) i hlt
      subst e
      have hkt := totL_mem (List.getElem_mem hlt)
      have HC := Lib.hid (HK.out ks[i] (List.getElem_mem hlt) B3 d3 B4 d4 wr hk (by omega))
      clear hk
      go_wp2_with fail
      refine HC.out.mono ?_
      rintro e w1 ⟨v3, v4, rfl, HN, hb1⟩
      obtain ⟨C3, j3, C4, j4, e3, e4⟩ : ∃ C3 j3 C4 j4, v3 = .slice C3 ks[i].f3.length j3 ∧ v4 = .slice C4 ks[i].f4.length j4 := by
        obtain ⟨fk, hkt2, _⟩ := HN
        obtain ⟨C3, j3, C4, j4, e3, e4, _⟩ := hkt2.In
        exact ⟨C3, j3, C4, j4, e3, e4⟩
      subst e3
      subst e4
      have HO2 := HO.out
      clear HO
      obtain ⟨inner, fp, ho, htr, hnd, hge⟩ := HO2
      rw [show ks.length - i = (ks.length - (i + 1)) + 1 from by omega, List.replicate_succ, List.flatten_cons] at ho
      obtain ⟨g, cap, e, hg0, hg1⟩ := ho.form (by omega)
      subst e
      have ho1 := own_move (w1 := w1) ho (fun k hk => by
        have : g = k := by simpa [Value.ownBlock] using hk
        subst this
        exact hb1.block g hg1)
      have htr1 := htr.later hb1
      have hl := htr.len
      rw [List.length_take, Nat.min_eq_left hi] at hl
      obtain ⟨⟨q0, q1, q2, q3, q4⟩, hfz, hput⟩ := row_put ho1 hl
      have z0 := hfz (i * 5)
      have z1 := hfz (i * 5 + 1)
      have z2 := hfz (i * 5 + 2)
      have z3 := hfz (i * 5 + 3)
      have z4 := hfz (i * 5 + 4)
      have hgw : w.heap.size ≤ g := hge g (by simp [obs, Value.ownBlock])
      have HF : Hid (∃ inner' fp', (set5 w1 g (i * 5) (.int .i64 ks[i].f0) (.string ks[i].f1) (.int .i64 ks[i].f2) (.slice C3 ks[i].f3.length j3) (.slice C4 ks[i].f4.length j4)).ownsRow 0 34 5 (.slice (some ⟨g, 0, none⟩) ks.length cap) ks.length (inner' ++ (List.replicate (ks.length - (i + 1)) zc).flatten) ∧ TrL (set5 w1 g (i * 5) (.int .i64 ks[i].f0) (.string ks[i].f1) (.int .i64 ks[i].f2) (.slice C3 ks[i].f3.length j3) (.slice C4 ks[i].f4.length j4)) (ks.take (i + 1)) inner' fp' ∧ (obs (.slice (some ⟨g, 0, none⟩) ks.length cap) ++ fp').Nodup ∧ ∀ b, b ∈ obs (.slice (some ⟨g, 0, none⟩) ks.length cap) ++ fp' → w.heap.size ≤ b) := by
        obtain ⟨fk, hkt2, hknd, hkge⟩ := HN
        have hold : ∀ b, b ∈ obs (Value.slice (some ⟨g, 0, none⟩) ks.length cap) ++ fp → b < wr.heap.size := by
          intro b hb
          rcases List.mem_append.1 hb with hb | hb
          · have : b = g := by simpa [obs, Value.ownBlock] using hb
            omega
          · exact htr.lt _ b hb
        have hgf : ∀ b, b ∈ fp → b ≠ g := by
          intro b hb he
          subst he
          rw [show obs (Value.slice (some ⟨b, 0, none⟩) ks.length cap) = [b] from rfl] at hnd
          simp [hb] at hnd
        have hgk : ∀ b, b ∈ fk → b ≠ g := by
          intro b hb he
          have := hkge b hb
          omega
        refine ⟨inner ++ [.int .i64 ks[i].f0, .string ks[i].f1, .int .i64 ks[i].f2, .slice C3 ks[i].f3.length j3, .slice C4 ks[i].f4.length j4], fp ++ fk, ?_, ?_, ?_, ?_⟩
        · rw [List.append_assoc]
          exact hput _ _ _ _ _
        · rw [List.take_succ_eq_append_getElem hlt]
          exact (htr1.move _ (fun b hb => set5_far _ _ _ _ _ _ _ _ b (hgf b hb))).append (TrL.one (hkt2.move _ (fun b hb => set5_far _ _ _ _ _ _ _ _ b (hgk b hb))))
        · rw [← List.append_assoc, List.nodup_append]
          refine ⟨hnd, hknd, fun a ha b hb he => ?_⟩
          have h1 := hold a ha
          have h2 := hkge b hb
          omega
        · intro b hb
          rw [← List.append_assoc] at hb
          rcases List.mem_append.1 hb with hb | hb
          · exact hge b hb
          · have h2 := hkge b hb
            have := HW.out.size
            omega
      have HB := Lib.hid (set5_below (below_step HW.out hb1) hgw (i * 5) (.int .i64 ks[i].f0) (.string ks[i].f1) (.int .i64 ks[i].f2) (.slice C3 ks[i].f3.length j3) (.slice C4 ks[i].f4.length j4))
      clear HN ho ho1 htr htr1 hnd hge hl hfz hput hgw hg0 hg1
      go_wp2_with fail
      go_roundg (ks.length - (i + 1))
      case measure => omega
      case rel => exact ⟨i + 1, by omega, Nat.le_refl _, by go_num, ⟨HF.out⟩, ⟨HB.out⟩⟩
    · obtain rfl : i = ks.length := by omega
      have HF : Hid (NewL w.heap.size wr ks v0) := by
        obtain ⟨inner, fp, ho, htr, hnd, hge⟩ := HO.out
        rw [Nat.sub_self] at ho
        rw [List.take_length] at htr
        exact ⟨inner, fp, by simpa using ho, htr, hnd, hge⟩
      clear HO
      go_wp2_with fail
      go_ret
      exact ⟨_, rfl, HF.out, HW.out⟩
set_option maxHeartbeats 4000000 in
theorem toForm_any (x : Fm) : ToForm x := by
  induction x using Fm.ind with
  | h x ih =>
    intro A3 c3 A4 c4 w hin ht
    have hs := Fm.tot_eq x
    have hs3 : x.f3.length ≤ 1048576 := by omega
    have hs4 : totL x.f4 ≤ 1048576 := by omega
    clear hs ht
    have H3 := Lib.hid (fun W hb => toIntS_any x.f3 A3 c3 W (Kd.C_below hin.g3 hb) hin.l3 (by omega))
    have H4 := Lib.hid (fun W hb => toFormS_of x.f4 ih A4 c4 W (Kd.C_below hin.g4 hb) hin.l4 hs4)
    clear ih hin
    go_enter Try.func14, Try.ntmps14
    go_wp2_with fail
    refine (H3.out _ (below_step (below_step (below_new _ _) (below_new _ _)) (below_new _ _))).mono ?_
    rintro e w1 ⟨v3, rfl, hR3, hb1⟩
    obtain ⟨k0, k1, k2, b1⟩ := three_new hb1
    clear hb1
    obtain ⟨p0, p1, p2, p3, p4⟩ := fm_cells k0
    obtain ⟨q0, q1, q2, q3, q4⟩ := fm_cells k2
    obtain ⟨f0, f1, f2, f3, f4⟩ := fm_free k2
    obtain ⟨D3, e3, r3, _, _⟩ := Kd.R_reads hR3
    subst r3
    go_wp2_with fail
    have bw := below_set b1 (show w.heap.size ≤ w.heap.size + 1 + 1 by omega) (j := 3) (v := .slice D3 x.f3.length e3)
    refine (H4.out _ bw).mono ?_
    rintro e w2 ⟨v4, rfl, HL, hb2⟩
    have m2 := blk_below (by simpa using blk_set k2 3 (.slice D3 x.f3.length e3)) hb2
    have m1 := blk_below (blk_far k1 (p := ⟨w.heap.size + 1 + 1, 3, none⟩) (by simp) (.slice D3 x.f3.length e3)) hb2
    have b2 := below_step bw hb2
    obtain ⟨s0, s1, s2, s3, s4⟩ := fm_cells m2
    obtain ⟨t0, t1, t2, t3, t4⟩ := fm_free m2
    obtain ⟨u0, u1, u2, u3, u4⟩ := fm_cells m1
    obtain ⟨y0, y1, y2, y3, y4⟩ := fm_free m1
    have h3b := Kd.R_base hR3
    have h3l := Kd.R_lt hR3
    have h3o := Kd.own_of_R hR3
    obtain ⟨inner, fp, h4o, htl, hnd, hge⟩ := HL
    obtain ⟨D4, e4, hd4, _, _⟩ := htl.C h4o
    subst hd4
    have hwsz : ((((w.alloc (.cells #[.int .i64 x.f0, .string x.f1, .int .i64 x.f2, .slice A3 x.f3.length c3, .slice A4 x.f4.length c4] 26)).alloc (.cells #[.int .i64 0, .string ⟨#[]⟩, .int .i64 0, .slice none 0 0, .slice none 0 0] 34)).alloc (.cells #[.int .i64 x.f0, .string x.f1, .int .i64 x.f2, .slice none 0 0, .slice none 0 0] 34)) : World).heap.size = w.heap.size + 3 := by simp
    have HF : Hid (∀ W, (∀ b, b ≠ w.heap.size + 1 → b ≠ w.heap.size + 1 + 1 → W.heap[b]? = w2.heap[b]?) → NewF w.heap.size W x (.slice D3 x.f3.length e3) (.slice D4 x.f4.length e4)) := by
      intro W hW
      have hsz1 := k2
      have hlt1 : w.heap.size + 1 + 1 < w1.heap.size := blk_lt k2
      have hge2 : ∀ b, b ∈ obs (.slice D4 x.f4.length e4) ++ fp → w1.heap.size ≤ b := by
        intro b hb
        have := hge b hb
        simpa using this
      have hge3 : ∀ b, b ∈ obs (.slice D3 x.f3.length e3) → w.heap.size + 1 + 1 < b ∧ b < w1.heap.size := by
        intro b hb
        have e := obs_mem.1 hb
        have h1 := h3b b e
        have h2 := h3l b e
        simp at h1
        omega
      refine ⟨_, .mk x _ _ inner fp ?_ ?_ ?_, ?_, ?_⟩
      · refine own_move (own_weaken h3o (Nat.zero_le _)) (fun k hk => ?_)
        have hk2 := hge3 k (obs_mem.2 hk)
        rw [hW k (by omega) (by omega), hb2.block k (by simp; omega), Below.heap_setCell _ _ _ _ (by simp; omega)]
      · refine own_move h4o (fun k hk => ?_)
        have hk2 := hge2 k (List.mem_append_left _ (obs_mem.2 hk))
        exact hW k (by omega) (by omega)
      · refine htl.move _ (fun k hk => ?_)
        have hk2 := hge2 k (List.mem_append_right _ hk)
        exact hW k (by omega) (by omega)
      · rw [List.nodup_append]
        refine ⟨?_, hnd, fun a ha b hb he => ?_⟩
        · unfold obs
          cases (Value.slice D3 x.f3.length e3).ownBlock <;> simp
        · have h1 := hge3 a ha
          have h2 := hge2 b hb
          omega
      · intro b hb
        rcases List.mem_append.1 hb with hb | hb
        · have := hge3 b hb
          omega
        · have := hge2 b hb
          omega
    clear h3b h3l h3o h4o htl hnd hge hwsz hR3 k0 k1 k2 m1 m2 hb2 bw H3 H4
    go_wp2_with fail
    refine bodyPost_ret (v := .agg #[.int .i64 x.f0, .string x.f1, .int .i64 x.f2, .slice D3 x.f3.length e3, .slice D4 x.f4.length e4]) (by simp [results, Try.results14, go_sem, u0, u1, u2, u3, u4]) rfl ⟨_, _, rfl, HF.out _ (fun b hb1 hb2 => ?_), ?_⟩
    · rw [Below.heap_setCell _ _ _ b hb1, Below.heap_setCell _ _ _ b hb1, Below.heap_setCell _ _ _ b hb1, Below.heap_setCell _ _ _ b hb1, Below.heap_setCell _ _ _ b hb1, Below.heap_setCell _ _ _ b hb2]
    · repeat (refine below_set ?_ (by omega))
      exact b2
end Go.Proofs.Ytlklclebjeeaaaa
end
section
namespace Go.Proofs.Ytlklclebjeeaaaa
open Go.RowKit Go.Proofs.YtlklclebjeeaaaaW.PrintWords Go.Proofs.YtlklclebjeeaaaaW.PrintLast Go.Proofs.YtlklclebjeeaaaaW.PrintMore
set_option linter.unusedVariables false
set_option linter.unusedSimpArgs false

noncomputable def eqB {α : Type} (x y : α) : Bool := @decide (x = y) (Classical.propDecidable _)
theorem eqB_iff {α : Type} {x y : α} : eqB x y = true ↔ x = y := by unfold eqB; exact @decide_eq_true_iff _ (Classical.propDecidable _)
theorem eqB_self {α : Type} (x : α) : eqB x x = true := eqB_iff.2 rfl
theorem eqB_no {α : Type} {x y : α} (h : x ≠ y) : false = eqB x y := by
  cases hb : eqB x y with
  | true => exact absurd (eqB_iff.1 hb) h
  | false => rfl
theorem eqB_yes {α : Type} {x y : α} (h : x = y) : true = eqB x y := (eqB_iff.2 h).symm
theorem toList_inj {a b : ByteArray} (h : a.toList = b.toList) : a = b := by
  have e : ∀ s : ByteArray, s.toList = s.data.toList := fun s => by rw [ByteArray.toList_eq]
  rw [e, e] at h
  cases a; cases b
  simp only at h
  rw [Array.toList_inj.1 h]
theorem Fm.ext' {x y : Fm} (h1 : x.f0 = y.f0) (h2 : x.f1 = y.f1) (h3 : x.f2 = y.f2) (h4 : x.f3 = y.f3) (h5 : x.f4 = y.f4) : x = y := by
  cases x; cases y; simp_all
def EqForm (x : Fm) : Prop := ∀ (y : Fm) (A3 : Option Addr) (c3 : Nat) (A4 : Option Addr) (c4 : Nat) (B3 : Option Addr) (d3 : Nat) (B4 : Option Addr) (d4 : Nat) (w : World), FmIn w x A3 c3 A4 c4 → FmIn w y B3 d3 B4 d4 →
    Calls Try.prog 18 #[.agg #[.int .i64 x.f0, .string x.f1, .int .i64 x.f2, .slice A3 x.f3.length c3, .slice A4 x.f4.length c4], .agg #[.int .i64 y.f0, .string y.f1, .int .i64 y.f2, .slice B3 y.f3.length d3, .slice B4 y.f4.length d4]] w (Ret w (.bool (eqB x y)))
set_option maxHeartbeats 4000000 in
set_option maxRecDepth 100000 in
theorem eqFormS_of (ks ls : List Fm) (hks : ∀ k, k ∈ ks → EqForm k) (A B : Option Addr) (c d : Nat) (w : World) (hr : kF.C w A ks.length ks) (hc : ks.length ≤ c) (hr2 : kF.C w B ls.length ls) (hc2 : ls.length ≤ d) :
    Calls Try.prog 39 #[.slice A ks.length c, .slice B ls.length d] w (Ret w (.bool (eqB ks ls))) := by
  have hmax := hr.2.1
  by_cases hl : ks.length = ls.length
  · have hl1 : ((ks.length : Int) == (ls.length : Int)) = true := by simp [hl]
    have hl2 : ((ks.length : Int) != (ls.length : Int)) = false := by simp [hl]
    have hl3 : (ks.length == ls.length) = true := by simp [hl]
    have hl4 : (ks.length != ls.length) = false := by simp [hl]
    have HL := Lib.hid hl
    have HK := Lib.hid hks
    clear hl hks
    go_enter Try.func39, Try.ntmps39
    go_wp2_with fail
    go_loopg [5] ks.length (fun kq v5 w' => ∃ i : Nat, i ≤ ks.length ∧ ks.length - i ≤ kq ∧ v5 = .int .i64 i ∧ Aside0 (∀ j (h : j < ks.length) (h2 : j < ls.length), j < i → ks[j] = ls[j]) ∧ Aside0 (Below w.heap.size w w'))
    case atStart => exact ⟨0, Nat.zero_le _, by omega, rfl, ⟨fun j _ _ h => absurd h (by omega)⟩, ⟨Below.refl _ _⟩⟩
    case round =>
      obtain ⟨i, hi, hg, rfl, HN, HW⟩ := hrel
      by_cases hlt : i < ks.length
      · have hlt2 : i < ls.length := by have := HL.out; omega
        obtain ⟨ad, B3, d3, B4, d4, e, g0, g1, g2, g3, g4, hk⟩ := kid_at (Kd.C_below hr HW.out) i hlt
        subst e
        obtain ⟨ad2, E3, f3, E4, f4, e2, h0, h1, h2, h3, h4, hk2⟩ := kid_at (Kd.C_below hr2 HW.out) i hlt2
        subst e2
        have HC := Lib.hid (fun W (hb : Below wr.heap.size wr W) => HK.out ks[i] (List.getElem_mem hlt) ls[i] B3 d3 B4 d4 E3 f3 E4 f4 W (hk.below hb) (hk2.below hb))
        clear hk hk2
        have p1 : (0 : Int) ≤ (i : Int) := by omega
        have p2 : (i : Int) < (ks.length : Int) := by omega
        have p3 : (i : Int) < (ls.length : Int) := by omega
        go_wp2_with fail
        go_region_held3 (fun w' => w'.cell? (ad.add (i * 5)) = some (.int .i64 ks[i].f0) ∧ w'.cell? ⟨(ad.add (i * 5)).block, (ad.add (i * 5)).off + 1, none⟩ = some (.string ks[i].f1) ∧ w'.cell? ⟨(ad.add (i * 5)).block, (ad.add (i * 5)).off + 2, none⟩ = some (.int .i64 ks[i].f2) ∧ w'.cell? ⟨(ad.add (i * 5)).block, (ad.add (i * 5)).off + 3, none⟩ = some (.slice B3 ks[i].f3.length d3) ∧ w'.cell? ⟨(ad.add (i * 5)).block, (ad.add (i * 5)).off + 4, none⟩ = some (.slice B4 ks[i].f4.length d4) ∧ w'.cell? (ad2.add (i * 5)) = some (.int .i64 ls[i].f0) ∧ w'.cell? ⟨(ad2.add (i * 5)).block, (ad2.add (i * 5)).off + 1, none⟩ = some (.string ls[i].f1) ∧ w'.cell? ⟨(ad2.add (i * 5)).block, (ad2.add (i * 5)).off + 2, none⟩ = some (.int .i64 ls[i].f2) ∧ w'.cell? ⟨(ad2.add (i * 5)).block, (ad2.add (i * 5)).off + 3, none⟩ = some (.slice E3 ls[i].f3.length f3) ∧ w'.cell? ⟨(ad2.add (i * 5)).block, (ad2.add (i * 5)).off + 4, none⟩ = some (.slice E4 ls[i].f4.length f4)) (first | go_keep | exact ⟨ck hb1 g0, ck hb1 g1, ck hb1 g2, ck hb1 g3, ck hb1 g4, ck hb1 h0, ck hb1 h1, ck hb1 h2, ck hb1 h3, ck hb1 h4⟩) ((go_at_call 18; refine (HC.out _ (Below.refl _ _).drew).mono ?_; rintro e w1 ⟨rfl, hb1⟩))
        cases he : eqB ks[i] ls[i] with
        | true =>
          have HE := Lib.hid (eqB_iff.1 he)
          clear he
          go_wp2_with fail
          go_roundg (ks.length - (i + 1))
          case measure => omega
          case rel =>
            refine ⟨i + 1, by omega, Nat.le_refl _, by go_num, ⟨fun j hj hj2 hji => ?_⟩, ⟨below_step HW.out (below_step (Below.refl _ _).drew hb1)⟩⟩
            rcases Nat.lt_or_ge j i with h | h
            · exact HN.out j hj hj2 h
            · obtain rfl : j = i := by omega
              exact HE.out
        | false =>
          have HE := Lib.hid he
          clear he
          go_wp2_with fail
          go_ret
          refine ⟨ret_b (eqB_no (fun h => ?_)), below_step HW.out (below_step (Below.refl _ _).drew hb1)⟩
          have := HE.out
          subst h
          rw [eqB_self] at this
          cases this
      · obtain rfl : i = ks.length := by omega
        go_wp2_with fail
        go_ret
        exact ⟨ret_b (eqB_yes (List.ext_getElem HL.out (fun j hj hj2 => HN.out j hj hj2 hj))), HW.out⟩
  · have hl2 : ((ks.length : Int) != (ls.length : Int)) = true := by simp; omega
    have hl4 : (ks.length != ls.length) = true := by simp [hl]
    have hl1 : ((ks.length : Int) == (ls.length : Int)) = false := by rw [beq_eq_false_iff_ne]; omega
    have hl3 : (ks.length == ls.length) = false := by rw [beq_eq_false_iff_ne]; omega
    have HL := Lib.hid hl
    clear hl
    go_enter Try.func39, Try.ntmps39
    go_wp2_with fail
    go_ret
    exact ⟨ret_b (eqB_no (fun h => HL.out (by rw [h]))), Below.refl _ _⟩
set_option maxHeartbeats 4000000 in
theorem eqForm_any (x : Fm) : EqForm x := by
  induction x using Fm.ind with
  | h x ih =>
    intro y A3 c3 A4 c4 B3 d3 B4 d4 w hx hy
    have HX := Lib.hid (fun (h1 : x.f0 = y.f0) (h2 : x.f1 = y.f1) (h3 : x.f2 = y.f2) (h4 : x.f3 = y.f3) (h5 : x.f4 = y.f4) => Fm.ext' h1 h2 h3 h4 h5)
    have hb1 := below_new w (.cells #[.int .i64 x.f0, .string x.f1, .int .i64 x.f2, .slice A3 x.f3.length c3, .slice A4 x.f4.length c4] 34)
    have hb2 := below_step hb1 (below_new _ (.cells #[.int .i64 y.f0, .string y.f1, .int .i64 y.f2, .slice B3 y.f3.length d3, .slice B4 y.f4.length d4] 34))
    have HB := Lib.hid hb2
    by_cases e1 : x.f0 = y.f0
    · have t1 : (x.f0 == y.f0) = true := by simpa using e1
      have t1' : (x.f0 != y.f0) = false := by simpa using e1
      have E1 := Lib.hid e1
      clear e1
      by_cases e2 : x.f1 = y.f1
      · have t2 : (x.f1.toList == y.f1.toList) = true := by rw [e2]; simp
        have t2' : (x.f1.toList != y.f1.toList) = false := by rw [e2]; simp
        have E2 := Lib.hid e2
        clear e2
        by_cases e3 : x.f2 = y.f2
        · have t3 : (x.f2 == y.f2) = true := by simpa using e3
          have t3' : (x.f2 != y.f2) = false := by simpa using e3
          have E3 := Lib.hid e3
          clear e3
          have HC := Lib.hid (eqIntS_any x.f3 y.f3 A3 B3 c3 d3 _ (Kd.C_below hx.g3 hb2) hx.l3 (Kd.C_below hy.g3 hb2) hy.l3)
          have HK := Lib.hid (fun W hb => eqFormS_of x.f4 y.f4 ih A4 B4 c4 d4 W (Kd.C_below hx.g4 hb) hx.l4 (Kd.C_below hy.g4 hb) hy.l4)
          clear ih hx hy hb1 hb2
          go_enter Try.func18, Try.ntmps18
          go_wp2_with fail
          refine HC.out.mono ?_
          rintro e w1 ⟨rfl, k1⟩
          have hz := blk_below (blk_below (blk_new w (.cells #[.int .i64 x.f0, .string x.f1, .int .i64 x.f2, .slice A3 x.f3.length c3, .slice A4 x.f4.length c4] 34)) (below_new _ _)) k1
          have hz2 := blk_below (blk_new (w.alloc (.cells #[.int .i64 x.f0, .string x.f1, .int .i64 x.f2, .slice A3 x.f3.length c3, .slice A4 x.f4.length c4] 34)) (.cells #[.int .i64 y.f0, .string y.f1, .int .i64 y.f2, .slice B3 y.f3.length d3, .slice B4 y.f4.length d4] 34)) k1
          rw [show (w.alloc (.cells #[.int .i64 x.f0, .string x.f1, .int .i64 x.f2, .slice A3 x.f3.length c3, .slice A4 x.f4.length c4] 34)).heap.size = w.heap.size + 1 from by simp] at hz2
          obtain ⟨_, _, _, _, q4⟩ := fm_cells hz
          obtain ⟨_, _, _, _, r4⟩ := fm_cells hz2
          have K1 := Lib.hid (below_step HB.out k1)
          clear hz hz2 k1
          by_cases e4 : x.f3 = y.f3
          · have E4 := Lib.hid e4
            rw [decide_eq_true e4]
            clear e4
            go_wp2_with fail
            refine (HK.out _ K1.out).mono ?_
            rintro e w2 ⟨rfl, k2⟩
            cases e5 : eqB x.f4 y.f4 with
            | true =>
              have E5 := Lib.hid (eqB_iff.1 e5)
              clear e5
              go_wp2_with fail
              go_ret
              exact ⟨ret_b (eqB_yes (HX.out E1.out E2.out E3.out E4.out E5.out)), below_step K1.out k2⟩
            | false =>
              have E5 := Lib.hid e5
              clear e5
              go_wp2_with fail
              go_ret
              refine ⟨ret_b (eqB_no (fun h => ?_)), below_step K1.out k2⟩
              have := E5.out
              rw [h, eqB_self] at this
              cases this
          · have E4 := Lib.hid e4
            rw [decide_eq_false e4]
            clear e4
            go_wp2_with fail
            go_ret
            exact ⟨ret_b (eqB_no (fun h => E4.out (by rw [h]))), K1.out⟩
        · have t3 : (x.f2 == y.f2) = false := by simpa using e3
          have t3' : (x.f2 != y.f2) = true := by simpa using e3
          have E3 := Lib.hid e3
          clear e3 ih hx hy hb1 hb2
          go_enter Try.func18, Try.ntmps18
          go_wp2_with fail
          go_ret
          exact ⟨ret_b (eqB_no (fun h => E3.out (by rw [h]))), HB.out⟩
      · have t2 : (x.f1.toList == y.f1.toList) = false := by rw [beq_eq_false_iff_ne]; exact fun h => e2 (toList_inj h)
        have t2' : (x.f1.toList != y.f1.toList) = true := by rw [bne_iff_ne]; exact fun h => e2 (toList_inj h)
        have E2 := Lib.hid e2
        clear e2 ih hx hy hb1 hb2
        go_enter Try.func18, Try.ntmps18
        go_wp2_with fail
        go_ret
        exact ⟨ret_b (eqB_no (fun h => E2.out (by rw [h]))), HB.out⟩
    · have t1 : (x.f0 == y.f0) = false := by simpa using e1
      have t1' : (x.f0 != y.f0) = true := by simpa using e1
      have E1 := Lib.hid e1
      clear e1 ih hx hy hb1 hb2
      go_enter Try.func18, Try.ntmps18
      go_wp2_with fail
      go_ret
      exact ⟨ret_b (eqB_no (fun h => E1.out (by rw [h]))), HB.out⟩
end Go.Proofs.Ytlklclebjeeaaaa
end
section
namespace Go.Proofs.Ytlklclebjeeaaaa
open Go.RowKit Go.Proofs.YtlklclebjeeaaaaW.PrintWords Go.Proofs.YtlklclebjeeaaaaW.PrintLast Go.Proofs.YtlklclebjeeaaaaW.PrintMore
set_option linter.unusedVariables false
set_option linter.unusedSimpArgs false
set_option maxRecDepth 100000

def letterB (c : Int) : Bool := (decide (97 ≤ c) && decide (c ≤ 122)) || c == 42 || c == 63 || c == 61 || c == 43 || c == 60
def digitB (c : Int) : Bool := (decide (48 ≤ c) && decide (c ≤ 57)) || c == 45
theorem l1Letter_any (c : Int) (first : Bool) (w : World) (h0 : 0 ≤ c) (h1 : c < 256) : Calls Try.prog 110 #[.int .u8 c, .bool first] w (Ret w (.bool (letterB c || (!first && digitB c)))) := by
  go_enter Try.func110, Try.ntmps110
  go_wp2
  all_goals
    go_ret
    refine ⟨ret_b ?_, Below.refl _ _⟩
    first
    | rfl
    | (rw [Bool.eq_iff_iff]; simp_all [letterB, digitB]; done)
    | (rw [Bool.eq_iff_iff]; simp_all [letterB, digitB]; omega)
    | (cases first <;> rw [Bool.eq_iff_iff] <;> simp_all [letterB, digitB] <;> omega)
/-- What a valid name is. -/
def NmOk (s : ByteArray) : Prop := s.toList = [46, 46, 46] ∨ s.toList = [95] ∨ (1 ≤ s.size ∧ s.size ≤ 12 ∧ ∀ i (h : i < s.size), (letterB s[i].toNat || (!((i : Int) == 0) && digitB s[i].toNat)) = true)
noncomputable def nmB (s : ByteArray) : Bool := @decide (NmOk s) (Classical.propDecidable _)
theorem nmB_iff (s : ByteArray) : nmB s = true ↔ NmOk s := by unfold nmB; exact @decide_eq_true_iff _ (Classical.propDecidable _)
theorem nmB_t {s : ByteArray} (h : NmOk s) : true = nmB s := ((nmB_iff s).2 h).symm
theorem nmB_f {s : ByteArray} (h : ¬ NmOk s) : false = nmB s := by
  cases hb : nmB s with
  | true => exact absurd ((nmB_iff s).1 hb) h
  | false => rfl
theorem byte_lt (s : ByteArray) (i : Nat) (h : i < s.size) : 0 ≤ (s[i].toNat : Int) ∧ (s[i].toNat : Int) < 256 := ⟨by omega, by have := s[i].toNat_lt; omega⟩

set_option maxHeartbeats 2000000 in
theorem specName_any (s : ByteArray) (w : World) (hs : s.size ≤ 140737488351232) : Calls Try.prog 79 #[.string s] w (Ret w (.bool (nmB s))) := by
  by_cases h1 : s.toList = [46, 46, 46]
  · have h1' : (s.toList == [46, 46, 46]) = true := by rw [h1]; rfl
    have H := Lib.hid (nmB_t (s := s) (.inl h1))
    clear h1
    go_enter Try.func79, Try.ntmps79
    go_wp2_with fail
    go_ret
    exact ⟨ret_b H.out, Below.refl _ _⟩
  by_cases h2 : s.toList = [95]
  · have h1' : (s.toList == [46, 46, 46]) = false := by simpa using h1
    have h2' : (s.toList == [95]) = true := by rw [h2]; rfl
    have H := Lib.hid (nmB_t (s := s) (.inr (.inl h2)))
    clear h1 h2
    go_enter Try.func79, Try.ntmps79
    go_wp2_with fail
    go_ret
    exact ⟨ret_b H.out, Below.refl _ _⟩
  have h1' : (s.toList == [46, 46, 46]) = false := by simpa using h1
  have h2' : (s.toList == [95]) = false := by simpa using h2
  have H1 := Lib.hid h1
  have H2 := Lib.hid h2
  clear h1 h2
  go_enter Try.func79, Try.ntmps79
  go_wp2_with fail
  go_loopg [3] s.size (fun kq v3 w' => ∃ i : Nat, i ≤ s.size ∧ s.size - i ≤ kq ∧ v3 = .int .i64 i ∧ Aside0 (∀ j (h : j < s.size), j < i → (letterB s[j].toNat || (!((j : Int) == 0) && digitB s[j].toNat)) = true) ∧ Aside0 (Below w.heap.size w w'))
  case atStart => exact ⟨0, Nat.zero_le _, by omega, rfl, ⟨fun j _ h => absurd h (by omega)⟩, ⟨Below.refl _ _⟩⟩
  case round =>
    obtain ⟨i, hi, hg, rfl, HN, HW⟩ := hrel
    by_cases hlt : i < s.size
    · by_cases h12 : i ≤ 12
      · have hd : decide ((i : Int) ≤ 12) = true := decide_eq_true (by omega)
        have hd1 : decide ((i : Int) < (s.size : Int)) = true := decide_eq_true (by omega)
        have HC := Lib.hid (l1Letter_any (s[i].toNat : Int) ((i : Int) == 0) wr (byte_lt s i hlt).1 (byte_lt s i hlt).2)
        go_wp2_with fail
        refine HC.out.mono ?_
        rintro e w1 ⟨rfl, hb1⟩
        cases hb : (letterB s[i].toNat || (!((i : Int) == 0) && digitB s[i].toNat)) with
        | true =>
          have HB := Lib.hid hb
          clear hb
          go_wp2_with fail
          go_roundg (s.size - (i + 1))
          case measure => omega
          case rel =>
            refine ⟨i + 1, by omega, Nat.le_refl _, by go_num, ⟨fun j hj hji => ?_⟩, ⟨below_step HW.out hb1⟩⟩
            rcases Nat.lt_or_ge j i with h | h
            · exact HN.out j hj h
            · obtain rfl : j = i := by omega
              exact HB.out
        | false =>
          have HB := Lib.hid hb
          clear hb
          go_wp2_with fail
          go_ret
          refine ⟨ret_b (nmB_f ?_), below_step HW.out hb1⟩
          rintro (h | h | ⟨_, _, h⟩)
          · exact H1.out h
          · exact H2.out h
          · have := h i hlt
            rw [HB.out] at this
            cases this
      · have hd : decide ((i : Int) ≤ 12) = false := decide_eq_false (by omega)
        have hd1 : decide ((i : Int) < (s.size : Int)) = true := decide_eq_true (by omega)
        have hd2 : decide (1 ≤ (s.size : Int)) = true := decide_eq_true (by omega)
        have hd3 : decide ((s.size : Int) ≤ 12) = false := decide_eq_false (by omega)
        have HL := Lib.hid (show 12 < s.size by omega)
        go_wp2_with fail
        go_ret
        refine ⟨ret_b (nmB_f ?_), HW.out⟩
        rintro (h | h | ⟨_, h, _⟩)
        · exact H1.out h
        · exact H2.out h
        · have := HL.out
          omega
    · obtain rfl : i = s.size := by omega
      by_cases g1 : 1 ≤ s.size
      · have hd2 : decide (1 ≤ (s.size : Int)) = true := decide_eq_true (by omega)
        by_cases g2 : s.size ≤ 12
        · have hd3 : decide ((s.size : Int) ≤ 12) = true := decide_eq_true (by omega)
          have H := Lib.hid (nmB_t (s := s) (.inr (.inr ⟨g1, g2, fun i h => HN.out i h h⟩)))
          go_wp2_with fail
          go_ret
          exact ⟨ret_b H.out, HW.out⟩
        · have hd3 : decide ((s.size : Int) ≤ 12) = false := decide_eq_false (by omega)
          have H := Lib.hid (nmB_f (s := s) (by
            rintro (h | h | ⟨_, h, _⟩)
            · exact H1.out h
            · exact H2.out h
            · omega))
          go_wp2_with fail
          go_ret
          exact ⟨ret_b H.out, HW.out⟩
      · have hd2 : decide (1 ≤ (s.size : Int)) = false := decide_eq_false (by omega)
        have H := Lib.hid (nmB_f (s := s) (by
            rintro (h | h | ⟨h, _, _⟩)
            · exact H1.out h
            · exact H2.out h
            · omega))
        go_wp2_with fail
        go_ret
        exact ⟨ret_b H.out, HW.out⟩
theorem bytealgIndex_any (s : ByteArray) (c : Int) (w : World) : Calls Try.prog 122 #[.string s, .int .u8 c] w fun e w' => e = .returned (.int .i64 (Lib.indexByte s.data.toList c.toNat.toUInt8)) ∧ w' = w := by
  go_enter Try.func122, Try.ntmps122
  go_wp2
  rw [run_callFunc_extern Try.func124 (by kernel_rfl) (by kernel_rfl) (by kernel_rfl) (e := Extern.BytealgIndexByte.indexByte) (by kernel_rfl), Lib.run_indexByteString]
  simp only [Result.andThen]
  rw [Oper.upon_value]
  go_wp2
  go_ret
  exact ⟨rfl, rfl⟩
theorem indexByte_any (s : ByteArray) (c : Int) (w : World) : Calls Try.prog 114 #[.string s, .int .u8 c] w fun e w' => e = .returned (.int .i64 (Lib.indexByte s.data.toList c.toNat.toUInt8)) ∧ w' = w := by
  go_enter Try.func114, Try.ntmps114
  go_wp2_with fail
  refine (bytealgIndex_any s c w).mono ?_
  rintro e w1 ⟨rfl, rfl⟩
  go_wp2_with fail
  go_ret
  exact ⟨rfl, rfl⟩
theorem signs_tab : ∀ n : Fin 256, decide (0 ≤ Lib.indexByte [42, 63, 61, 43, 60] (n : Nat).toUInt8) = (decide ((n : Nat) = 42) || decide ((n : Nat) = 63) || decide ((n : Nat) = 61) || decide ((n : Nat) = 43) || decide ((n : Nat) = 60)) := by decide +kernel
theorem signs (c : Int) (h0 : 0 ≤ c) (h1 : c < 256) : decide (0 ≤ Lib.indexByte [42, 63, 61, 43, 60] c.toNat.toUInt8) = (c == 42 || c == 63 || c == 61 || c == 43 || c == 60) := by
  have h := signs_tab ⟨c.toNat, by omega⟩
  simp only at h
  rw [h, Bool.eq_iff_iff]
  simp
  omega
set_option maxHeartbeats 4000000 in
theorem implName_any (s : ByteArray) (w : World) (hs : s.size ≤ 140737488351232) : Calls Try.prog 84 #[.string s] w (Ret w (.bool (nmB s))) := by
  by_cases h1 : s.toList = [46, 46, 46]
  · have h1' : (s.toList == [46, 46, 46]) = true := by rw [h1]; rfl
    have H := Lib.hid (nmB_t (s := s) (.inl h1))
    clear h1
    go_enter Try.func84, Try.ntmps84
    go_wp2_with fail
    go_ret
    exact ⟨ret_b H.out, Below.refl _ _⟩
  by_cases h2 : s.toList = [95]
  · have h1' : (s.toList == [46, 46, 46]) = false := by simpa using h1
    have h2' : (s.toList == [95]) = true := by rw [h2]; rfl
    have H := Lib.hid (nmB_t (s := s) (.inr (.inl h2)))
    clear h1 h2
    go_enter Try.func84, Try.ntmps84
    go_wp2_with fail
    go_ret
    exact ⟨ret_b H.out, Below.refl _ _⟩
  have h1' : (s.toList == [46, 46, 46]) = false := by simpa using h1
  have h2' : (s.toList == [95]) = false := by simpa using h2
  have H1 := Lib.hid h1
  have H2 := Lib.hid h2
  clear h1 h2
  go_enter Try.func84, Try.ntmps84
  go_wp2_with fail
  go_loopg [3, 4] s.size (fun kq v3 v4 w' => ∃ i : Nat, i ≤ s.size ∧ s.size - i ≤ kq ∧ v3 = .int .i64 i ∧ Aside0 (∀ j (h : j < s.size), j < i → (letterB s[j].toNat || (!((j : Int) == 0) && digitB s[j].toNat)) = true) ∧ Aside0 (Below w.heap.size w w'))
  case atStart => exact ⟨0, Nat.zero_le _, by omega, rfl, ⟨fun j _ h => absurd h (by omega)⟩, ⟨Below.refl _ _⟩⟩
  case round =>
    obtain ⟨i, hi, hg, rfl, HN, HW⟩ := hrel
    by_cases hlt : i < s.size
    · have hd1 : decide ((i : Int) < (s.size : Int)) = true := decide_eq_true (by omega)
      obtain ⟨hc0, hc1⟩ := byte_lt s i hlt
      have HS := Lib.hid (signs (s[i].toNat : Int) hc0 hc1)
      have HK : Hid ((letterB s[i].toNat || (!((i : Int) == 0) && digitB s[i].toNat)) = true → ∀ j (h : j < s.size), j < i + 1 → (letterB s[j].toNat || (!((j : Int) == 0) && digitB s[j].toNat)) = true) := Lib.hid (fun hb j hj hji => by
        rcases Nat.lt_or_ge j i with h | h
        · exact HN.out j hj h
        · obtain rfl : j = i := by omega
          exact hb)
      have HF : Hid ((letterB s[i].toNat || (!((i : Int) == 0) && digitB s[i].toNat)) = false → false = nmB s) := Lib.hid (fun hb => nmB_f (by
          rintro (h | h | ⟨_, _, h⟩)
          · exact H1.out h
          · exact H2.out h
          · have := h i hlt
            rw [hb] at this
            cases this))
      clear HN
      have hI : ∀ W, Calls Try.prog 114 #[.string ⟨#[42, 63, 61, 43, 60]⟩, .int .u8 (s[i].toNat : Int)] W (fun e w' => e = .returned (.int .i64 (Lib.indexByte [42, 63, 61, 43, 60] (s[i].toNat : Int).toNat.toUInt8)) ∧ w' = W) := fun W => indexByte_any _ _ W
      have HI := Lib.hid hI
      clear hI
      generalize Lib.indexByte [42, 63, 61, 43, 60] (s[i].toNat : Int).toNat.toUInt8 = r at HI HS
      by_cases hA : 97 ≤ (s[i].toNat : Int) ∧ (s[i].toNat : Int) ≤ 122
      · obtain ⟨a1, a2⟩ := hA
        have HG := Lib.hid (show (letterB (s[i].toNat : Int) || (!((i : Int) == 0) && digitB (s[i].toNat : Int))) = true by simp [letterB, a1, a2])
        have a1' := decide_eq_true a1
        have a2' := decide_eq_true a2
        go_wp2_with fail
        go_roundg (s.size - (i + 1))
        case measure => omega
        case rel => exact ⟨i + 1, by omega, Nat.le_refl _, by go_num, ⟨HK.out HG.out⟩, ⟨HW.out⟩⟩
      · have hA' : (decide (97 ≤ (s[i].toNat : Int)) && decide ((s[i].toNat : Int) ≤ 122)) = false := by rw [Bool.eq_false_iff]; simp; omega
        have HA := Lib.hid hA'
        clear hA'
        by_cases a1 : 97 ≤ (s[i].toNat : Int)
        · have a2 : 122 < (s[i].toNat : Int) := by omega
          clear hA
          have a1' := decide_eq_true a1
          have a2' : decide ((s[i].toNat : Int) ≤ 122) = false := decide_eq_false (by omega)
          go_wp2_with fail
          refine (HI.out wr).mono ?_
          rintro e w1 ⟨rfl, rfl⟩
          by_cases hr : 0 ≤ r
          · have HG := Lib.hid (show (letterB (s[i].toNat : Int) || (!((i : Int) == 0) && digitB (s[i].toNat : Int))) = true by
              have := HS.out; rw [decide_eq_true hr] at this; unfold letterB; rw [HA.out]; simp at this ⊢; left; omega)
            have hr' := decide_eq_true hr
            go_wp2_with fail
            go_roundg (s.size - (i + 1))
            case measure => omega
            case rel => exact ⟨i + 1, by omega, Nat.le_refl _, by go_num, ⟨HK.out HG.out⟩, ⟨HW.out⟩⟩
          · have hr' : decide (0 ≤ r) = false := decide_eq_false hr
            have HG := Lib.hid (show (letterB (s[i].toNat : Int) || (!((i : Int) == 0) && digitB (s[i].toNat : Int))) = false by
              have := HS.out; rw [decide_eq_false hr] at this; unfold letterB digitB; rw [HA.out]; simp at this ⊢; omega)
            have e45 : ((s[i].toNat : Int) == 45) = false := by simp; omega
            have e48 : decide (48 ≤ (s[i].toNat : Int)) = true := decide_eq_true (by omega)
            have e57 : decide ((s[i].toNat : Int) ≤ 57) = false := decide_eq_false (by omega)
            by_cases i0 : 0 < i
            · have i0' : decide ((0 : Int) < (i : Int)) = true := decide_eq_true (by omega)
              go_wp2_with fail
              go_ret
              exact ⟨ret_b (HF.out HG.out), HW.out⟩
            · have i0' : decide ((0 : Int) < (i : Int)) = false := decide_eq_false (by omega)
              go_wp2_with fail
              go_ret
              exact ⟨ret_b (HF.out HG.out), HW.out⟩
        · have a1' : decide (97 ≤ (s[i].toNat : Int)) = false := decide_eq_false a1
          clear hA
          go_wp2_with fail
          refine (HI.out wr).mono ?_
          rintro e w1 ⟨rfl, rfl⟩
          by_cases hr : 0 ≤ r
          · have HG := Lib.hid (show (letterB (s[i].toNat : Int) || (!((i : Int) == 0) && digitB (s[i].toNat : Int))) = true by
              have := HS.out; rw [decide_eq_true hr] at this; unfold letterB; rw [HA.out]; simp at this ⊢; left; omega)
            have hr' := decide_eq_true hr
            go_wp2_with fail
            go_roundg (s.size - (i + 1))
            case measure => omega
            case rel => exact ⟨i + 1, by omega, Nat.le_refl _, by go_num, ⟨HK.out HG.out⟩, ⟨HW.out⟩⟩
          · have hr' : decide (0 ≤ r) = false := decide_eq_false hr
            have HL := Lib.hid (show letterB (s[i].toNat : Int) = false by
              have := HS.out; rw [decide_eq_false hr] at this; unfold letterB; rw [HA.out]; simp at this ⊢; omega)
            by_cases i0 : 0 < i
            · have i0' : decide ((0 : Int) < (i : Int)) = true := decide_eq_true (by omega)
              have HZ := Lib.hid (show ((i : Int) == 0) = false by simp; omega)
              by_cases hD : digitB (s[i].toNat : Int) = true
              · have HG := Lib.hid (show (letterB (s[i].toNat : Int) || (!((i : Int) == 0) && digitB (s[i].toNat : Int))) = true by rw [hD, HZ.out]; simp)
                by_cases d48 : 48 ≤ (s[i].toNat : Int)
                · have d57 : (s[i].toNat : Int) ≤ 57 := by simp [digitB, d48] at hD; omega
                  have d48' := decide_eq_true d48
                  have d57' := decide_eq_true d57
                  clear hD
                  go_wp2_with fail
                  go_roundg (s.size - (i + 1))
                  case measure => omega
                  case rel => exact ⟨i + 1, by omega, Nat.le_refl _, by go_num, ⟨HK.out HG.out⟩, ⟨HW.out⟩⟩
                · have d45 : ((s[i].toNat : Int) == 45) = true := by simp [digitB, d48] at hD; simp; omega
                  have d48' : decide (48 ≤ (s[i].toNat : Int)) = false := decide_eq_false d48
                  clear hD
                  go_wp2_with fail
                  go_roundg (s.size - (i + 1))
                  case measure => omega
                  case rel => exact ⟨i + 1, by omega, Nat.le_refl _, by go_num, ⟨HK.out HG.out⟩, ⟨HW.out⟩⟩
              · have HG := Lib.hid (show (letterB (s[i].toNat : Int) || (!((i : Int) == 0) && digitB (s[i].toNat : Int))) = false by rw [HL.out, Bool.eq_false_iff.2 hD]; simp)
                have d45 : ((s[i].toNat : Int) == 45) = false := by simp [digitB] at hD; simp; omega
                by_cases d48 : 48 ≤ (s[i].toNat : Int)
                · have d57' : decide ((s[i].toNat : Int) ≤ 57) = false := decide_eq_false (by simp [digitB, d48] at hD; omega)
                  have d48' := decide_eq_true d48
                  clear hD
                  go_wp2_with fail
                  go_ret
                  exact ⟨ret_b (HF.out HG.out), HW.out⟩
                · have d48' : decide (48 ≤ (s[i].toNat : Int)) = false := decide_eq_false d48
                  clear hD
                  go_wp2_with fail
                  go_ret
                  exact ⟨ret_b (HF.out HG.out), HW.out⟩
            · have i0' : decide ((0 : Int) < (i : Int)) = false := decide_eq_false (by omega)
              have HG := Lib.hid (show (letterB (s[i].toNat : Int) || (!((i : Int) == 0) && digitB (s[i].toNat : Int))) = false by
                obtain rfl : i = 0 := by omega
                rw [HL.out]; simp)
              go_wp2_with fail
              go_ret
              exact ⟨ret_b (HF.out HG.out), HW.out⟩
    · obtain rfl : i = s.size := by omega
      have HX : Hid (decide (1 ≤ (s.size : Int) ∧ (s.size : Int) ≤ 12) = nmB s) := Lib.hid (by
        by_cases g : 1 ≤ s.size ∧ s.size ≤ 12
        · rw [decide_eq_true (by omega)]
          exact nmB_t (.inr (.inr ⟨g.1, g.2, fun i h => HN.out i h h⟩))
        · rw [decide_eq_false (by omega)]
          refine nmB_f ?_
          rintro (h | h | ⟨h, h', _⟩)
          · exact H1.out h
          · exact H2.out h
          · omega)
      go_wp2_with fail
      refine (within_any _ _ _ _).mono ?_
      rintro e w1 ⟨rfl, hb1⟩
      rw [HX.out]
      go_wp2_with fail
      go_ret
      exact ⟨rfl, below_step HW.out hb1⟩
end Go.Proofs.Ytlklclebjeeaaaa
end
section
namespace Go.Proofs.Ytlklclebjeeaaaa
open Go.RowKit Go.Proofs.YtlklclebjeeaaaaW.PrintWords Go.Proofs.YtlklclebjeeaaaaW.PrintLast Go.Proofs.YtlklclebjeeaaaaW.PrintMore
set_option linter.unusedVariables false
set_option linter.unusedSimpArgs false
noncomputable def pB (p : Prop) : Bool := @decide p (Classical.propDecidable _)
theorem pB_iff {p : Prop} : pB p = true ↔ p := by unfold pB; exact @decide_eq_true_iff _ (Classical.propDecidable _)
theorem pB_yes {p : Prop} (h : p) : true = pB p := (pB_iff.2 h).symm
theorem pB_no {p : Prop} (h : ¬ p) : false = pB p := by
  cases e : pB p with
  | true => exact absurd (pB_iff.1 e) h
  | false => rfl
theorem pB_of {b : Bool} {p : Prop} (h : b = true ↔ p) : b = pB p := by
  cases b with
  | true => exact pB_yes (h.1 rfl)
  | false => exact pB_no (fun hp => by have := h.2 hp; cases this)
def ScAt (xs : List Int) (i : Nat) : Prop := ∀ h : i < xs.length, 1 ≤ xs[i] ∧ xs[i] ≤ 99 ∧ ∀ (j : Nat) (hj : j < xs.length), j + 1 = i → xs[j] < xs[i]
def ScOk (xs : List Int) : Prop := xs.length ≤ 24 ∧ ∀ i, ScAt xs i
set_option maxHeartbeats 2000000 in
theorem l1Scopes_any (xs : List Int) (A : Option Addr) (c : Nat) (w : World) (hr : kI.C w A xs.length xs) (hc : xs.length ≤ c) :
    Calls Try.prog 80 #[.slice A xs.length c] w (Ret w (.bool (pB (ScOk xs)))) := by
  have hmax := hr.2.1
  go_enter Try.func80, Try.ntmps80
  go_wp2_with fail
  go_loopg [3] xs.length (fun kq v3 w' => ∃ i : Nat, i ≤ xs.length ∧ xs.length - i ≤ kq ∧ v3 = .int .i64 i ∧ Aside0 (i ≤ 25) ∧ Aside0 (∀ j, j < i → ScAt xs j) ∧ Aside0 (Below w.heap.size w w'))
  case atStart => exact ⟨0, Nat.zero_le _, by omega, rfl, ⟨by omega⟩, ⟨fun j h => absurd h (by omega)⟩, ⟨Below.refl _ _⟩⟩
  case round =>
    obtain ⟨i, hi, hg, rfl, H25, HN, HW⟩ := hrel
    by_cases hlt : i < xs.length
    · have t1 : decide ((i : Int) < (xs.length : Int)) = true := decide_eq_true (by omega)
      by_cases h24 : i ≤ 24
      · have t2 : decide ((i : Int) ≤ 24) = true := decide_eq_true (by omega)
        obtain ⟨ad, e, hcell⟩ := int_at (Kd.C_below hr HW.out) i hlt
        subst e
        have p1 : (0 : Int) ≤ (i : Int) := by omega
        have p2 : (i : Int) < (xs.length : Int) := by omega
        by_cases ha : xs[i] < 1
        · have a1 : decide (xs[i] < 1) = true := decide_eq_true ha
          have HA := Lib.hid ha
          clear ha
          go_wp2_with fail
          go_quiet (fail)
          go_wp2_with fail
          go_ret
          refine ⟨ret_b (pB_no (fun h => ?_)), pw_below_drewN HW.out _⟩
          have := (h.2 i hlt).1
          have := HA.out
          omega
        · have a1 : decide (xs[i] < 1) = false := decide_eq_false ha
          have HA := Lib.hid ha
          clear ha
          by_cases hb : xs[i] > 99
          · have a2 : decide (xs[i] > 99) = true := decide_eq_true hb
            have a3 : decide (99 < xs[i]) = true := decide_eq_true hb
            have HB := Lib.hid hb
            clear hb
            go_wp2_with fail
            go_quiet (fail)
            go_wp2_with fail
            go_ret
            refine ⟨ret_b (pB_no (fun h => ?_)), pw_below_drewN HW.out _⟩
            have := (h.2 i hlt).2.1
            have := HB.out
            omega
          · have a2 : decide (xs[i] > 99) = false := decide_eq_false hb
            have a3 : decide (99 < xs[i]) = false := decide_eq_false hb
            have HB := Lib.hid hb
            clear hb
            by_cases hz : i = 0
            · have z1 : decide ((i : Int) > 0) = false := decide_eq_false (by omega)
              have z2 : decide ((0 : Int) < (i : Int)) = false := decide_eq_false (by omega)
              have z3 : decide (0 < i) = false := decide_eq_false (by omega)
              have HZ := Lib.hid hz
              clear hz
              go_wp2_with fail
              go_quiet (fail)
              go_wp2_with fail
              go_roundg (xs.length - (i + 1))
              case measure => omega
              case rel =>
                refine ⟨i + 1, by omega, Nat.le_refl _, by go_num, ⟨by omega⟩, ⟨fun j hj => ?_⟩, ⟨pw_below_drewN HW.out _⟩⟩
                have h1 := HA.out
                have h2 := HB.out
                have h3 := HZ.out
                obtain rfl : j = i := by omega
                exact fun _ => ⟨by omega, by omega, fun j hj he => absurd he (by omega)⟩
            · obtain ⟨j, hji⟩ : ∃ j, i = j + 1 := ⟨i - 1, by omega⟩
              have hj : j < xs.length := by omega
              obtain ⟨ad3, e3, hcell3⟩ := int_at (Kd.C_below hr HW.out) j hj
              obtain rfl : ad = ad3 := by cases e3; rfl
              have z1 : decide ((i : Int) > 0) = true := decide_eq_true (by omega)
              have z2 : decide ((0 : Int) < (i : Int)) = true := decide_eq_true (by omega)
              have z3 : decide (0 < i) = true := decide_eq_true (by omega)
              have u1 : IntKind.i64.wrap ((i : Int) - 1) = (j : Int) := by rw [show ((i : Int) - 1) = (j : Int) from by omega]; exact IntWalk.i64_in _ (by omega)
              have u2 : (0 : Int) ≤ (j : Int) := by omega
              have u3 : (j : Int) < (xs.length : Int) := by omega
              have HJ := Lib.hid hji
              by_cases hle : xs[i] ≤ xs[j]
              · have c1 : decide (xs[i] ≤ xs[j]) = true := decide_eq_true hle
                have HL := Lib.hid hle
                clear hle hz hji
                go_wp2_with fail
                go_quiet (fail)
                go_wp2_with fail
                go_ret
                refine ⟨ret_b (pB_no (fun h => ?_)), pw_below_drewN HW.out _⟩
                have := (h.2 i hlt).2.2 j hj HJ.out.symm
                have := HL.out
                omega
              · have c1 : decide (xs[i] ≤ xs[j]) = false := decide_eq_false hle
                have HL := Lib.hid hle
                clear hle hz hji
                go_wp2_with fail
                go_quiet (fail)
                go_wp2_with fail
                go_roundg (xs.length - (i + 1))
                case measure => omega
                case rel =>
                  refine ⟨i + 1, by omega, Nat.le_refl _, by go_num, ⟨by omega⟩, ⟨fun q hq => ?_⟩, ⟨pw_below_drewN HW.out _⟩⟩
                  rcases Nat.lt_or_ge q i with h | h
                  · exact HN.out q h
                  · obtain rfl : q = i := by omega
                    have h1 := HA.out
                    have h2 := HB.out
                    have h3 := HL.out
                    have h4 := HJ.out
                    refine fun _ => ⟨by omega, by omega, fun p hp he => ?_⟩
                    obtain rfl : p = j := by omega
                    omega
      · have t2 : decide ((i : Int) ≤ 24) = false := decide_eq_false (by omega)
        have t3 : decide ((xs.length : Int) ≤ 24) = false := decide_eq_false (by omega)
        go_wp2_with fail
        go_ret
        refine ⟨ret_b (pB_no (fun h => ?_)), HW.out⟩
        have := h.1
        omega
    · obtain rfl : i = xs.length := by omega
      have t1 : decide ((xs.length : Int) < (xs.length : Int)) = false := decide_eq_false (by omega)
      by_cases h24 : xs.length ≤ 24
      · have t3 : decide ((xs.length : Int) ≤ 24) = true := decide_eq_true (by omega)
        go_wp2_with fail
        go_ret
        exact ⟨ret_b (pB_yes ⟨h24, fun i h => HN.out i h h⟩), HW.out⟩
      · have t3 : decide ((xs.length : Int) ≤ 24) = false := decide_eq_false (by omega)
        go_wp2_with fail
        go_ret
        exact ⟨ret_b (pB_no (fun h => h24 h.1)), HW.out⟩
set_option maxHeartbeats 2000000 in
theorem scopesOk_any (xs : List Int) (A : Option Addr) (c : Nat) (w : World) (hr : kI.C w A xs.length xs) (hc : xs.length ≤ c) :
    Calls Try.prog 85 #[.slice A xs.length c] w (Ret w (.bool (pB (ScOk xs)))) := by
  have hmax := hr.2.1
  go_enter Try.func85, Try.ntmps85
  go_wp2_with fail
  go_loopg [3, 4, 7] xs.length (fun kq v3 v4 v7 w' => ∃ i : Nat, i ≤ xs.length ∧ xs.length - i ≤ kq ∧ v7 = .int .i64 i ∧ Aside0 (∀ j, j < i → ScAt xs j) ∧ Aside0 (Below w.heap.size w w'))
  case atStart => exact ⟨0, Nat.zero_le _, by omega, rfl, ⟨fun j h => absurd h (by omega)⟩, ⟨Below.refl _ _⟩⟩
  case round =>
    obtain ⟨i, hi, hg, rfl, HN, HW⟩ := hrel
    by_cases hlt : i < xs.length
    · obtain ⟨ad, e, hcell⟩ := int_at (Kd.C_below hr HW.out) i hlt
      subst e
      have HC := Lib.hid (within_any xs[i] 1 99 wr)
      go_wp2_with fail
      refine HC.out.mono ?_
      rintro e w1 ⟨rfl, hb1⟩
      have hW1 := below_step HW.out hb1
      by_cases ha : 1 ≤ xs[i] ∧ xs[i] ≤ 99
      · rw [decide_eq_true ha]
        have HA := Lib.hid ha
        clear ha
        by_cases hz : i = 0
        · have z1 : decide ((i : Int) > 0) = false := decide_eq_false (by omega)
          have z2 : decide ((0 : Int) < (i : Int)) = false := decide_eq_false (by omega)
          have z3 : decide (0 < i) = false := decide_eq_false (by omega)
          have HZ := Lib.hid hz
          have HW1 := Lib.hid hW1
          clear hz hW1 hb1
          go_wp2_with fail
          go_roundg (xs.length - (i + 1))
          case measure => omega
          case rel =>
            refine ⟨i + 1, by omega, Nat.le_refl _, by go_num, ⟨fun q hq => ?_⟩, ⟨HW1.out⟩⟩
            have h1 := HA.out
            have h3 := HZ.out
            obtain rfl : q = i := by omega
            exact fun _ => ⟨h1.1, h1.2, fun j hj he => absurd he (by omega)⟩
        · obtain ⟨j, hji⟩ : ∃ j, i = j + 1 := ⟨i - 1, by omega⟩
          have hj : j < xs.length := by omega
          obtain ⟨ad3, e3, hcell3⟩ := int_at (Kd.C_below hr hW1) j hj
          obtain rfl : ad = ad3 := by cases e3; rfl
          have z1 : decide ((i : Int) > 0) = true := decide_eq_true (by omega)
          have z2 : decide ((0 : Int) < (i : Int)) = true := decide_eq_true (by omega)
          have z3 : decide (0 < i) = true := decide_eq_true (by omega)
          have u1 : IntKind.i64.wrap ((i : Int) - 1) = (j : Int) := by rw [show ((i : Int) - 1) = (j : Int) from by omega]; exact IntWalk.i64_in _ (by omega)
          have u2 : (0 : Int) ≤ (j : Int) := by omega
          have u3 : (j : Int) < (xs.length : Int) := by omega
          have u4 : (i : Int) - 1 = (j : Int) := by omega
          have HJ := Lib.hid hji
          have HW1 := Lib.hid hW1
          by_cases hle : xs[i] ≤ xs[j]
          · have c1 : decide (xs[j] ≥ xs[i]) = true := decide_eq_true hle
            have c2 : decide (xs[i] ≤ xs[j]) = true := decide_eq_true hle
            have HL := Lib.hid hle
            clear hle hz hji hW1 hb1
            go_wp2_with fail
            go_ret
            refine ⟨ret_b (pB_no (fun h => ?_)), HW1.out⟩
            have := (h.2 i hlt).2.2 j hj HJ.out.symm
            have := HL.out
            omega
          · have c1 : decide (xs[j] ≥ xs[i]) = false := decide_eq_false hle
            have c2 : decide (xs[i] ≤ xs[j]) = false := decide_eq_false hle
            have HL := Lib.hid hle
            clear hle hz hji hW1 hb1
            go_wp2_with fail
            go_roundg (xs.length - (i + 1))
            case measure => omega
            case rel =>
              refine ⟨i + 1, by omega, Nat.le_refl _, by go_num, ⟨fun q hq => ?_⟩, ⟨HW1.out⟩⟩
              rcases Nat.lt_or_ge q i with h | h
              · exact HN.out q h
              · obtain rfl : q = i := by omega
                have h1 := HA.out
                have h3 := HL.out
                have h4 := HJ.out
                refine fun _ => ⟨h1.1, h1.2, fun p hp he => ?_⟩
                obtain rfl : p = j := by omega
                omega
      · rw [decide_eq_false ha]
        have HA := Lib.hid ha
        have HW1 := Lib.hid hW1
        clear ha hW1 hb1
        go_wp2_with fail
        go_ret
        exact ⟨ret_b (pB_no (fun h => HA.out ⟨(h.2 i hlt).1, (h.2 i hlt).2.1⟩)), HW1.out⟩
    · obtain rfl : i = xs.length := by omega
      by_cases h24 : xs.length ≤ 24
      · have t3 : decide ((xs.length : Int) ≤ 24) = true := decide_eq_true (by omega)
        go_wp2_with fail
        go_ret
        exact ⟨ret_b (pB_yes ⟨h24, fun i h => HN.out i h h⟩), HW.out⟩
      · have t3 : decide ((xs.length : Int) ≤ 24) = false := decide_eq_false (by omega)
        go_wp2_with fail
        go_ret
        exact ⟨ret_b (pB_no (fun h => h24 h.1)), HW.out⟩
end Go.Proofs.Ytlklclebjeeaaaa
end
section
namespace Go.Proofs.Ytlklclebjeeaaaa
open Go.RowKit Go.Proofs.YtlklclebjeeaaaaW.PrintWords Go.Proofs.YtlklclebjeeaaaaW.PrintLast Go.Proofs.YtlklclebjeeaaaaW.PrintMore
set_option linter.unusedVariables false
set_option linter.unusedSimpArgs false

set_option maxHeartbeats 1000000 in
theorem l1Ints_any (xs ys : List Int) (A B : Option Addr) (c d : Nat) (w : World) (hr : kI.C w A xs.length xs) (hc : xs.length ≤ c) (hr2 : kI.C w B ys.length ys) (hc2 : ys.length ≤ d) :
    Calls Try.prog 81 #[.slice A xs.length c, .slice B ys.length d] w (Ret w (.bool (decide (xs = ys)))) := by
  have hmax := hr.2.1
  by_cases hl : xs.length = ys.length
  · have hl1 : ((xs.length : Int) == (ys.length : Int)) = true := by simp [hl]
    have hl2 : ((xs.length : Int) != (ys.length : Int)) = false := by simp [hl]
    have hl3 : (xs.length == ys.length) = true := by simp [hl]
    have hl4 : (xs.length != ys.length) = false := by simp [hl]
    have HL := Lib.hid hl
    clear hl
    go_enter Try.func81, Try.ntmps81
    go_wp2_with fail
    go_loopg [5] xs.length (fun kq v5 w' => ∃ i : Nat, i ≤ xs.length ∧ xs.length - i ≤ kq ∧ v5 = .int .i64 i ∧ Aside0 (∀ j (h : j < xs.length) (h2 : j < ys.length), j < i → xs[j] = ys[j]) ∧ Aside0 (Below w.heap.size w w'))
    case atStart => exact ⟨0, Nat.zero_le _, by omega, rfl, ⟨fun j _ _ h => absurd h (by omega)⟩, ⟨Below.refl _ _⟩⟩
    case round =>
      obtain ⟨i, hi, hg, rfl, HN, HW⟩ := hrel
      by_cases hlt : i < xs.length
      · have hlt2 : i < ys.length := by have := HL.out; omega
        obtain ⟨ad, e, hcell⟩ := int_at (Kd.C_below hr HW.out) i hlt
        subst e
        obtain ⟨ad2, e2, hcell2⟩ := int_at (Kd.C_below hr2 HW.out) i hlt2
        subst e2
        by_cases he : xs[i] = ys[i]
        · have hb1 : (xs[i] == ys[i]) = true := by simpa using he
          have hb2 : (xs[i] != ys[i]) = false := by simpa using he
          have HE := Lib.hid he
          clear he
          go_wp2_with fail
          go_quiet (fail)
          go_wp2_with fail
          go_roundg (xs.length - (i + 1))
          case measure => omega
          case rel =>
            refine ⟨i + 1, by omega, Nat.le_refl _, by go_num, ⟨fun j hj hj2 hji => ?_⟩, ⟨pw_below_drewN HW.out _⟩⟩
            rcases Nat.lt_or_ge j i with h | h
            · exact HN.out j hj hj2 h
            · obtain rfl : j = i := by omega
              exact HE.out
        · have hb1 : (xs[i] == ys[i]) = false := by simpa using he
          have hb2 : (xs[i] != ys[i]) = true := by simpa using he
          have HE := Lib.hid he
          clear he
          go_wp2_with fail
          go_quiet (fail)
          go_wp2_with fail
          go_ret
          refine ⟨ret_b (decide_eq_false (fun h => HE.out ?_)).symm, pw_below_drewN HW.out _⟩
          subst h
          rfl
      · obtain rfl : i = xs.length := by omega
        go_wp2_with fail
        go_ret
        refine ⟨ret_b (decide_eq_true (List.ext_getElem HL.out (fun j hj hj2 => HN.out j hj hj2 hj))).symm, HW.out⟩
  · have hl1 : ((xs.length : Int) == (ys.length : Int)) = false := by simp; omega
    have hl2 : ((xs.length : Int) != (ys.length : Int)) = true := by simp; omega
    have hl3 : (xs.length == ys.length) = false := by simp [hl]
    have hl4 : (xs.length != ys.length) = true := by simp [hl]
    have HL := Lib.hid hl
    clear hl
    go_enter Try.func81, Try.ntmps81
    go_wp2_with fail
    go_ret
    exact ⟨ret_b (decide_eq_false (fun h => HL.out (by rw [h]))).symm, Below.refl _ _⟩
set_option maxHeartbeats 1000000 in
theorem equalI_any (xs ys : List Int) (A B : Option Addr) (c d : Nat) (w : World) (hr : kI.C w A xs.length xs) (hc : xs.length ≤ c) (hr2 : kI.C w B ys.length ys) (hc2 : ys.length ≤ d) :
    Calls Try.prog 89 #[.slice A xs.length c, .slice B ys.length d] w (Ret w (.bool (decide (xs = ys)))) := by
  have hmax := hr.2.1
  by_cases hl : xs.length = ys.length
  · have hl1 : ((xs.length : Int) == (ys.length : Int)) = true := by simp [hl]
    have hl2 : ((xs.length : Int) != (ys.length : Int)) = false := by simp [hl]
    have hl3 : (xs.length == ys.length) = true := by simp [hl]
    have hl4 : (xs.length != ys.length) = false := by simp [hl]
    have HL := Lib.hid hl
    clear hl
    go_enter Try.func89, Try.ntmps89
    go_wp2_with fail
    go_loopg [5, 13] xs.length (fun kq v5 v13 w' => ∃ i : Nat, i ≤ xs.length ∧ xs.length - i ≤ kq ∧ v13 = .int .i64 i ∧ Aside0 (∀ j (h : j < xs.length) (h2 : j < ys.length), j < i → xs[j] = ys[j]) ∧ Aside0 (Below w.heap.size w w'))
    case atStart => exact ⟨0, Nat.zero_le _, by omega, rfl, ⟨fun j _ _ h => absurd h (by omega)⟩, ⟨Below.refl _ _⟩⟩
    case round =>
      obtain ⟨i, hi, hg, rfl, HN, HW⟩ := hrel
      by_cases hlt : i < xs.length
      · have hlt2 : i < ys.length := by have := HL.out; omega
        obtain ⟨ad, e, hcell⟩ := int_at (Kd.C_below hr HW.out) i hlt
        subst e
        obtain ⟨ad2, e2, hcell2⟩ := int_at (Kd.C_below hr2 HW.out) i hlt2
        subst e2
        by_cases he : xs[i] = ys[i]
        · have hb1 : (xs[i] == ys[i]) = true := by simpa using he
          have hb2 : (xs[i] != ys[i]) = false := by simpa using he
          have HE := Lib.hid he
          clear he
          go_wp2_with fail
          go_quiet (fail)
          go_wp2_with fail
          go_roundg (xs.length - (i + 1))
          case measure => omega
          case rel =>
            refine ⟨i + 1, by omega, Nat.le_refl _, by go_num, ⟨fun j hj hj2 hji => ?_⟩, ⟨pw_below_drewN HW.out _⟩⟩
            rcases Nat.lt_or_ge j i with h | h
            · exact HN.out j hj hj2 h
            · obtain rfl : j = i := by omega
              exact HE.out
        · have hb1 : (xs[i] == ys[i]) = false := by simpa using he
          have hb2 : (xs[i] != ys[i]) = true := by simpa using he
          have HE := Lib.hid he
          clear he
          go_wp2_with fail
          go_quiet (fail)
          go_wp2_with fail
          go_ret
          refine ⟨ret_b (decide_eq_false (fun h => HE.out ?_)).symm, pw_below_drewN HW.out _⟩
          subst h
          rfl
      · obtain rfl : i = xs.length := by omega
        go_wp2_with fail
        go_ret
        refine ⟨ret_b (decide_eq_true (List.ext_getElem HL.out (fun j hj hj2 => HN.out j hj hj2 hj))).symm, HW.out⟩
  · have hl1 : ((xs.length : Int) == (ys.length : Int)) = false := by simp; omega
    have hl2 : ((xs.length : Int) != (ys.length : Int)) = true := by simp; omega
    have hl3 : (xs.length == ys.length) = false := by simp [hl]
    have hl4 : (xs.length != ys.length) = true := by simp [hl]
    have HL := Lib.hid hl
    clear hl
    go_enter Try.func89, Try.ntmps89
    go_wp2_with fail
    go_ret
    exact ⟨ret_b (decide_eq_false (fun h => HL.out (by rw [h]))).symm, Below.refl _ _⟩
def SpecSame (x : Fm) : Prop := ∀ (y : Fm) (A3 : Option Addr) (c3 : Nat) (A4 : Option Addr) (c4 : Nat) (B3 : Option Addr) (d3 : Nat) (B4 : Option Addr) (d4 : Nat) (w : World), FmIn w x A3 c3 A4 c4 → FmIn w y B3 d3 B4 d4 →
    Calls Try.prog 63 #[.agg #[.int .i64 x.f0, .string x.f1, .int .i64 x.f2, .slice A3 x.f3.length c3, .slice A4 x.f4.length c4], .agg #[.int .i64 y.f0, .string y.f1, .int .i64 y.f2, .slice B3 y.f3.length d3, .slice B4 y.f4.length d4]] w (Ret w (.bool (eqB x y)))
set_option maxHeartbeats 4000000 in
set_option maxRecDepth 100000 in
theorem specSame_any (x : Fm) : SpecSame x := by
  induction x using Fm.ind with
  | h x ih =>
    intro y A3 c3 A4 c4 B3 d3 B4 d4 w hx hy
    have HX := Lib.hid (fun (h1 : x.f0 = y.f0) (h2 : x.f1 = y.f1) (h3 : x.f2 = y.f2) (h4 : x.f3 = y.f3) (h5 : x.f4 = y.f4) => Fm.ext' h1 h2 h3 h4 h5)
    have hb1 := below_new w (.cells #[.int .i64 x.f0, .string x.f1, .int .i64 x.f2, .slice A3 x.f3.length c3, .slice A4 x.f4.length c4] 34)
    have hb2 := below_step hb1 (below_new _ (.cells #[.int .i64 y.f0, .string y.f1, .int .i64 y.f2, .slice B3 y.f3.length d3, .slice B4 y.f4.length d4] 34))
    have HB := Lib.hid hb2
    by_cases e1 : x.f0 = y.f0
    · have t1 : (x.f0 == y.f0) = true := by simpa using e1
      have t1' : (x.f0 != y.f0) = false := by simpa using e1
      have E1 := Lib.hid e1
      clear e1
      by_cases e2 : x.f1 = y.f1
      · have t2 : (x.f1.toList == y.f1.toList) = true := by rw [e2]; simp
        have t2' : (x.f1.toList != y.f1.toList) = false := by rw [e2]; simp
        have E2 := Lib.hid e2
        clear e2
        by_cases e3 : x.f2 = y.f2
        · have t3 : (x.f2 == y.f2) = true := by simpa using e3
          have t3' : (x.f2 != y.f2) = false := by simpa using e3
          have E3 := Lib.hid e3
          clear e3
          have HC := Lib.hid (l1Ints_any x.f3 y.f3 A3 B3 c3 d3 _ (Kd.C_below hx.g3 hb2) hx.l3 (Kd.C_below hy.g3 hb2) hy.l3)
          have HK := Lib.hid (fun (k : Fm) (h : k ∈ x.f4) => ih k h)
          have HXY := Lib.hid (And.intro hx hy)
          have hmax := hx.g4.2.1
          clear ih hx hy hb1 hb2
          go_enter Try.func63, Try.ntmps63
          go_wp2_with fail
          refine HC.out.mono ?_
          rintro e w1 ⟨rfl, k1⟩
          have hz := blk_below (blk_below (blk_new w (.cells #[.int .i64 x.f0, .string x.f1, .int .i64 x.f2, .slice A3 x.f3.length c3, .slice A4 x.f4.length c4] 34)) (below_new _ _)) k1
          have hz2 := blk_below (blk_new (w.alloc (.cells #[.int .i64 x.f0, .string x.f1, .int .i64 x.f2, .slice A3 x.f3.length c3, .slice A4 x.f4.length c4] 34)) (.cells #[.int .i64 y.f0, .string y.f1, .int .i64 y.f2, .slice B3 y.f3.length d3, .slice B4 y.f4.length d4] 34)) k1
          rw [show (w.alloc (.cells #[.int .i64 x.f0, .string x.f1, .int .i64 x.f2, .slice A3 x.f3.length c3, .slice A4 x.f4.length c4] 34)).heap.size = w.heap.size + 1 from by simp] at hz2
          obtain ⟨_, _, _, _, q4⟩ := fm_cells hz
          obtain ⟨_, _, _, _, r4⟩ := fm_cells hz2
          have K1 := Lib.hid (below_step HB.out k1)
          clear hz hz2 k1
          by_cases e4 : x.f3 = y.f3
          · have E4 := Lib.hid e4
            rw [decide_eq_true e4]
            clear e4
            by_cases hl : x.f4.length = y.f4.length
            · have hl1 : ((x.f4.length : Int) == (y.f4.length : Int)) = true := by simp [hl]
              have hl2 : ((x.f4.length : Int) != (y.f4.length : Int)) = false := by simp [hl]
              have HL := Lib.hid hl
              have C1 := Lib.hid (Kd.C_below HXY.out.1.g4 K1.out)
              have C2 := Lib.hid (Kd.C_below HXY.out.2.g4 K1.out)
              clear hl
              go_wp2_with fail
              go_loopg [5] x.f4.length (fun kq v5 w' => ∃ i : Nat, i ≤ x.f4.length ∧ x.f4.length - i ≤ kq ∧ v5 = .int .i64 i ∧ Aside0 (∀ j (h : j < x.f4.length) (h2 : j < y.f4.length), j < i → x.f4[j] = y.f4[j]) ∧ Aside0 (Below w1.heap.size w1 w'))
              case atStart => exact ⟨0, Nat.zero_le _, by omega, rfl, ⟨fun j _ _ h => absurd h (by omega)⟩, ⟨Below.refl _ _⟩⟩
              case round =>
                obtain ⟨i, hi, hg, rfl, HN, HW⟩ := hrel
                have q6 := ck0 HW.out q4
                by_cases hlt : i < x.f4.length
                · have hlt2 : i < y.f4.length := by have := HL.out; omega
                  obtain ⟨ad, G3, m3, G4, m4, e, g0, g1, g2, g3, g4, hk⟩ := kid_at (Kd.C_below C1.out HW.out) i hlt
                  subst e
                  obtain ⟨ad2, E3, f3, E4, f4, e2, h0, h1, h2, h3, h4, hk2⟩ := kid_at (Kd.C_below C2.out HW.out) i hlt2
                  subst e2
                  have HC := Lib.hid (fun W (hb : Below wr.heap.size wr W) => HK.out x.f4[i] (List.getElem_mem hlt) y.f4[i] G3 m3 G4 m4 E3 f3 E4 f4 W (hk.below hb) (hk2.below hb))
                  clear hk hk2
                  have q5 := ck0 HW.out q4
                  have r5 := ck0 HW.out r4
                  have p1 : (0 : Int) ≤ (i : Int) := by omega
                  have p2 : (i : Int) < (x.f4.length : Int) := by omega
                  have p3 : (i : Int) < (y.f4.length : Int) := by omega
                  go_wp2_with fail
                  go_region_held3 (fun w' => w'.cell? ⟨w.heap.size, 4, none⟩ = some (.slice (some ad) x.f4.length c4) ∧ w'.cell? ⟨w.heap.size + 1, 4, none⟩ = some (.slice (some ad2) y.f4.length d4) ∧ w'.cell? (ad.add (i * 5)) = some (.int .i64 x.f4[i].f0) ∧ w'.cell? ⟨(ad.add (i * 5)).block, (ad.add (i * 5)).off + 1, none⟩ = some (.string x.f4[i].f1) ∧ w'.cell? ⟨(ad.add (i * 5)).block, (ad.add (i * 5)).off + 2, none⟩ = some (.int .i64 x.f4[i].f2) ∧ w'.cell? ⟨(ad.add (i * 5)).block, (ad.add (i * 5)).off + 3, none⟩ = some (.slice G3 x.f4[i].f3.length m3) ∧ w'.cell? ⟨(ad.add (i * 5)).block, (ad.add (i * 5)).off + 4, none⟩ = some (.slice G4 x.f4[i].f4.length m4) ∧ w'.cell? (ad2.add (i * 5)) = some (.int .i64 y.f4[i].f0) ∧ w'.cell? ⟨(ad2.add (i * 5)).block, (ad2.add (i * 5)).off + 1, none⟩ = some (.string y.f4[i].f1) ∧ w'.cell? ⟨(ad2.add (i * 5)).block, (ad2.add (i * 5)).off + 2, none⟩ = some (.int .i64 y.f4[i].f2) ∧ w'.cell? ⟨(ad2.add (i * 5)).block, (ad2.add (i * 5)).off + 3, none⟩ = some (.slice E3 y.f4[i].f3.length f3) ∧ w'.cell? ⟨(ad2.add (i * 5)).block, (ad2.add (i * 5)).off + 4, none⟩ = some (.slice E4 y.f4[i].f4.length f4)) (first | go_keep | exact ⟨ck hb1 q5, ck hb1 r5, ck hb1 g0, ck hb1 g1, ck hb1 g2, ck hb1 g3, ck hb1 g4, ck hb1 h0, ck hb1 h1, ck hb1 h2, ck hb1 h3, ck hb1 h4⟩) ((go_at_call 63; refine (HC.out _ (Below.refl _ _).drew).mono ?_; rintro e w2 ⟨rfl, hb1⟩))
                  cases he : eqB x.f4[i] y.f4[i] with
                  | true =>
                    have HE := Lib.hid (eqB_iff.1 he)
                    clear he
                    go_wp2_with fail
                    go_roundg (x.f4.length - (i + 1))
                    case measure => omega
                    case rel =>
                      refine ⟨i + 1, by omega, Nat.le_refl _, by go_num, ⟨fun j hj hj2 hji => ?_⟩, ⟨below_step HW.out (below_step (Below.refl _ _).drew hb1)⟩⟩
                      rcases Nat.lt_or_ge j i with h | h
                      · exact HN.out j hj hj2 h
                      · obtain rfl : j = i := by omega
                        exact HE.out
                  | false =>
                    have HE := Lib.hid he
                    clear he
                    go_wp2_with fail
                    go_ret
                    refine ⟨ret_b (eqB_no (fun h => ?_)), below_step K1.out (below_step HW.out (below_step (Below.refl _ _).drew hb1))⟩
                    have := HE.out
                    subst h
                    rw [eqB_self] at this
                    cases this
                · obtain rfl : i = x.f4.length := by omega
                  have q5 := ck0 HW.out q4
                  go_wp2_with fail
                  go_ret
                  exact ⟨ret_b (eqB_yes (HX.out E1.out E2.out E3.out E4.out (List.ext_getElem HL.out (fun j hj hj2 => HN.out j hj hj2 hj)))), below_step K1.out HW.out⟩
            · have hl1 : ((x.f4.length : Int) == (y.f4.length : Int)) = false := by rw [beq_eq_false_iff_ne]; omega
              have hl2 : ((x.f4.length : Int) != (y.f4.length : Int)) = true := by simp; omega
              have HL := Lib.hid hl
              clear hl
              go_wp2_with fail
              go_ret
              exact ⟨ret_b (eqB_no (fun h => HL.out (by rw [h]))), K1.out⟩
          · have E4 := Lib.hid e4
            rw [decide_eq_false e4]
            clear e4
            go_wp2_with fail
            go_ret
            exact ⟨ret_b (eqB_no (fun h => E4.out (by rw [h]))), K1.out⟩
        · have t3 : (x.f2 == y.f2) = false := by simpa using e3
          have t3' : (x.f2 != y.f2) = true := by simpa using e3
          have E3 := Lib.hid e3
          clear e3 ih hx hy hb1 hb2
          go_enter Try.func63, Try.ntmps63
          go_wp2_with fail
          go_ret
          exact ⟨ret_b (eqB_no (fun h => E3.out (by rw [h]))), HB.out⟩
      · have t2 : (x.f1.toList == y.f1.toList) = false := by rw [beq_eq_false_iff_ne]; exact fun h => e2 (toList_inj h)
        have t2' : (x.f1.toList != y.f1.toList) = true := by rw [bne_iff_ne]; exact fun h => e2 (toList_inj h)
        have E2 := Lib.hid e2
        clear e2 ih hx hy hb1 hb2
        go_enter Try.func63, Try.ntmps63
        go_wp2_with fail
        go_ret
        exact ⟨ret_b (eqB_no (fun h => E2.out (by rw [h]))), HB.out⟩
    · have t1 : (x.f0 == y.f0) = false := by simpa using e1
      have t1' : (x.f0 != y.f0) = true := by simpa using e1
      have E1 := Lib.hid e1
      clear e1 ih hx hy hb1 hb2
      go_enter Try.func63, Try.ntmps63
      go_wp2_with fail
      go_ret
      exact ⟨ret_b (eqB_no (fun h => E1.out (by rw [h]))), HB.out⟩
def ImplSame (x : Fm) : Prop := ∀ (y : Fm) (A3 : Option Addr) (c3 : Nat) (A4 : Option Addr) (c4 : Nat) (B3 : Option Addr) (d3 : Nat) (B4 : Option Addr) (d4 : Nat) (w : World), FmIn w x A3 c3 A4 c4 → FmIn w y B3 d3 B4 d4 →
    Calls Try.prog 94 #[.agg #[.int .i64 x.f0, .string x.f1, .int .i64 x.f2, .slice A3 x.f3.length c3, .slice A4 x.f4.length c4], .agg #[.int .i64 y.f0, .string y.f1, .int .i64 y.f2, .slice B3 y.f3.length d3, .slice B4 y.f4.length d4]] w (Ret w (.bool (eqB x y)))
set_option maxHeartbeats 4000000 in
set_option maxRecDepth 100000 in
theorem equalFunc_of (ks ls : List Fm) (hks : ∀ k, k ∈ ks → ImplSame k) (A B : Option Addr) (c d : Nat) (w : World) (hr : kF.C w A ks.length ks) (hc : ks.length ≤ c) (hr2 : kF.C w B ls.length ls) (hc2 : ls.length ≤ d) :
    Calls Try.prog 118 #[.slice A ks.length c, .slice B ls.length d, .func (.func 94) #[] #[]] w (Ret w (.bool (eqB ks ls))) := by
  have eg : ∀ args w, (callFunc 94 args).run Try.prog w = .ok (.enter 94 args) w := enters_of Try.func94 (by kernel_rfl) rfl
  have hmax := hr.2.1
  by_cases hl : ks.length = ls.length
  · have hl1 : ((ks.length : Int) == (ls.length : Int)) = true := by simp [hl]
    have hl2 : ((ks.length : Int) != (ls.length : Int)) = false := by simp [hl]
    have HL := Lib.hid hl
    have HK := Lib.hid hks
    clear hl hks
    go_enter Try.func118, Try.ntmps118
    go_wp2_with fail
    go_loopg [7, 8, 9, 17] ks.length (fun kq v7 v8 v9 v17 w' => ∃ i : Nat, i ≤ ks.length ∧ ks.length - i ≤ kq ∧ v17 = .int .i64 i ∧ Aside0 (∀ j (h : j < ks.length) (h2 : j < ls.length), j < i → ks[j] = ls[j]) ∧ Aside0 (Below w.heap.size w w'))
    case atStart => exact ⟨0, Nat.zero_le _, by omega, rfl, ⟨fun j _ _ h => absurd h (by omega)⟩, ⟨Below.refl _ _⟩⟩
    case round =>
      obtain ⟨i, hi, hg, rfl, HN, HW⟩ := hrel
      by_cases hlt : i < ks.length
      · have hlt2 : i < ls.length := by have := HL.out; omega
        obtain ⟨ad, G3, m3, G4, m4, e, g0, g1, g2, g3, g4, hk⟩ := kid_at (Kd.C_below hr HW.out) i hlt
        subst e
        obtain ⟨ad2, E3, f3, E4, f4, e2, h0, h1, h2, h3, h4, hk2⟩ := kid_at (Kd.C_below hr2 HW.out) i hlt2
        subst e2
        have HC := Lib.hid (fun W (hb : Below wr.heap.size wr W) => HK.out ks[i] (List.getElem_mem hlt) ls[i] G3 m3 G4 m4 E3 f3 E4 f4 W (hk.below hb) (hk2.below hb))
        clear hk hk2
        have hn := below_new wr (.cells #[.int .i64 ks[i].f0, .string ks[i].f1, .int .i64 ks[i].f2, .slice G3 ks[i].f3.length m3, .slice G4 ks[i].f4.length m4] 34)
        have k0 := ck0 hn h0
        have k1 := ck0 hn h1
        have k2 := ck0 hn h2
        have k3 := ck0 hn h3
        have k4 := ck0 hn h4
        clear hn
        go_wp2_with fail
        refine (HC.out _ (below_step (below_new _ _) (below_new _ _))).mono ?_
        rintro e w1 ⟨rfl, hb1⟩
        obtain ⟨_, _, b1⟩ := two_new hb1
        have B1 := Lib.hid b1
        clear hb1 b1
        cases he : eqB ks[i] ls[i] with
        | true =>
          have HE := Lib.hid (eqB_iff.1 he)
          clear he
          go_wp2_with fail
          go_roundg (ks.length - (i + 1))
          case measure => omega
          case rel =>
            refine ⟨i + 1, by omega, Nat.le_refl _, by go_num, ⟨fun j hj hj2 hji => ?_⟩, ⟨below_step HW.out B1.out⟩⟩
            rcases Nat.lt_or_ge j i with h | h
            · exact HN.out j hj hj2 h
            · obtain rfl : j = i := by omega
              exact HE.out
        | false =>
          have HE := Lib.hid he
          clear he
          go_wp2_with fail
          go_ret
          refine ⟨ret_b (eqB_no (fun h => ?_)), below_step HW.out B1.out⟩
          have := HE.out
          subst h
          rw [eqB_self] at this
          cases this
      · obtain rfl : i = ks.length := by omega
        go_wp2_with fail
        go_ret
        exact ⟨ret_b (eqB_yes (List.ext_getElem HL.out (fun j hj hj2 => HN.out j hj hj2 hj))), HW.out⟩
  · have hl2 : ((ks.length : Int) != (ls.length : Int)) = true := by simp; omega
    have hl1 : ((ks.length : Int) == (ls.length : Int)) = false := by rw [beq_eq_false_iff_ne]; omega
    have HL := Lib.hid hl
    clear hl
    go_enter Try.func118, Try.ntmps118
    go_wp2_with fail
    go_ret
    exact ⟨ret_b (eqB_no (fun h => HL.out (by rw [h]))), Below.refl _ _⟩
set_option maxHeartbeats 4000000 in
theorem implSame_any (x : Fm) : ImplSame x := by
  induction x using Fm.ind with
  | h x ih =>
    intro y A3 c3 A4 c4 B3 d3 B4 d4 w hx hy
    have HX := Lib.hid (fun (h1 : x.f0 = y.f0) (h2 : x.f1 = y.f1) (h3 : x.f2 = y.f2) (h4 : x.f3 = y.f3) (h5 : x.f4 = y.f4) => Fm.ext' h1 h2 h3 h4 h5)
    have hb1 := below_new w (.cells #[.int .i64 x.f0, .string x.f1, .int .i64 x.f2, .slice A3 x.f3.length c3, .slice A4 x.f4.length c4] 34)
    have hb2 := below_step hb1 (below_new _ (.cells #[.int .i64 y.f0, .string y.f1, .int .i64 y.f2, .slice B3 y.f3.length d3, .slice B4 y.f4.length d4] 34))
    have HB := Lib.hid hb2
    by_cases e1 : x.f0 = y.f0
    · have t1 : (x.f0 == y.f0) = true := by simpa using e1
      have t1' : (x.f0 != y.f0) = false := by simpa using e1
      have E1 := Lib.hid e1
      clear e1
      by_cases e2 : x.f1 = y.f1
      · have t2 : (x.f1.toList == y.f1.toList) = true := by rw [e2]; simp
        have t2' : (x.f1.toList != y.f1.toList) = false := by rw [e2]; simp
        have E2 := Lib.hid e2
        clear e2
        by_cases e3 : x.f2 = y.f2
        · have t3 : (x.f2 == y.f2) = true := by simpa using e3
          have t3' : (x.f2 != y.f2) = false := by simpa using e3
          have E3 := Lib.hid e3
          clear e3
          have HC := Lib.hid (equalI_any x.f3 y.f3 A3 B3 c3 d3 _ (Kd.C_below hx.g3 hb2) hx.l3 (Kd.C_below hy.g3 hb2) hy.l3)
          have HK := Lib.hid (fun W hb => equalFunc_of x.f4 y.f4 ih A4 B4 c4 d4 W (Kd.C_below hx.g4 hb) hx.l4 (Kd.C_below hy.g4 hb) hy.l4)
          clear ih hx hy hb1 hb2
          go_enter Try.func94, Try.ntmps94
          go_wp2_with fail
          refine HC.out.mono ?_
          rintro e w1 ⟨rfl, k1⟩
          have hz := blk_below (blk_below (blk_new w (.cells #[.int .i64 x.f0, .string x.f1, .int .i64 x.f2, .slice A3 x.f3.length c3, .slice A4 x.f4.length c4] 34)) (below_new _ _)) k1
          have hz2 := blk_below (blk_new (w.alloc (.cells #[.int .i64 x.f0, .string x.f1, .int .i64 x.f2, .slice A3 x.f3.length c3, .slice A4 x.f4.length c4] 34)) (.cells #[.int .i64 y.f0, .string y.f1, .int .i64 y.f2, .slice B3 y.f3.length d3, .slice B4 y.f4.length d4] 34)) k1
          rw [show (w.alloc (.cells #[.int .i64 x.f0, .string x.f1, .int .i64 x.f2, .slice A3 x.f3.length c3, .slice A4 x.f4.length c4] 34)).heap.size = w.heap.size + 1 from by simp] at hz2
          obtain ⟨_, _, _, _, q4⟩ := fm_cells hz
          obtain ⟨_, _, _, _, r4⟩ := fm_cells hz2
          have K1 := Lib.hid (below_step HB.out k1)
          clear hz hz2 k1
          by_cases e4 : x.f3 = y.f3
          · have E4 := Lib.hid e4
            rw [decide_eq_true e4]
            clear e4
            go_wp2_with fail
            refine (HK.out _ K1.out).mono ?_
            rintro e w2 ⟨rfl, k2⟩
            cases e5 : eqB x.f4 y.f4 with
            | true =>
              have E5 := Lib.hid (eqB_iff.1 e5)
              clear e5
              go_wp2_with fail
              go_ret
              exact ⟨ret_b (eqB_yes (HX.out E1.out E2.out E3.out E4.out E5.out)), below_step K1.out k2⟩
            | false =>
              have E5 := Lib.hid e5
              clear e5
              go_wp2_with fail
              go_ret
              refine ⟨ret_b (eqB_no (fun h => ?_)), below_step K1.out k2⟩
              have := E5.out
              rw [h, eqB_self] at this
              cases this
          · have E4 := Lib.hid e4
            rw [decide_eq_false e4]
            clear e4
            go_wp2_with fail
            go_ret
            exact ⟨ret_b (eqB_no (fun h => E4.out (by rw [h]))), K1.out⟩
        · have t3 : (x.f2 == y.f2) = false := by simpa using e3
          have t3' : (x.f2 != y.f2) = true := by simpa using e3
          have E3 := Lib.hid e3
          clear e3 ih hx hy hb1 hb2
          go_enter Try.func94, Try.ntmps94
          go_wp2_with fail
          go_ret
          exact ⟨ret_b (eqB_no (fun h => E3.out (by rw [h]))), HB.out⟩
      · have t2 : (x.f1.toList == y.f1.toList) = false := by rw [beq_eq_false_iff_ne]; exact fun h => e2 (toList_inj h)
        have t2' : (x.f1.toList != y.f1.toList) = true := by rw [bne_iff_ne]; exact fun h => e2 (toList_inj h)
        have E2 := Lib.hid e2
        clear e2 ih hx hy hb1 hb2
        go_enter Try.func94, Try.ntmps94
        go_wp2_with fail
        go_ret
        exact ⟨ret_b (eqB_no (fun h => E2.out (by rw [h]))), HB.out⟩
    · have t1 : (x.f0 == y.f0) = false := by simpa using e1
      have t1' : (x.f0 != y.f0) = true := by simpa using e1
      have E1 := Lib.hid e1
      clear e1 ih hx hy hb1 hb2
      go_enter Try.func94, Try.ntmps94
      go_wp2_with fail
      go_ret
      exact ⟨ret_b (eqB_no (fun h => E1.out (by rw [h]))), HB.out⟩
end Go.Proofs.Ytlklclebjeeaaaa
end
section
namespace Go.Proofs.Ytlklclebjeeaaaa
open Go.RowKit Go.Proofs.YtlklclebjeeaaaaW.PrintWords Go.Proofs.YtlklclebjeeaaaaW.PrintLast Go.Proofs.YtlklclebjeeaaaaW.PrintMore
set_option linter.unusedVariables false
set_option linter.unusedSimpArgs false

theorem nmB_false {s : ByteArray} (h : nmB s = false) : ¬ NmOk s := fun k => by rw [(nmB_iff _).2 k] at h; cases h
theorem pB_false {p : Prop} (h : pB p = false) : ¬ p := fun k => by rw [pB_iff.2 k] at h; cases h
abbrev kB : Kd Bd := Q.k66
def zBd : Bd := ⟨⟨#[]⟩, [], 0⟩
/-- What the three cells of a binding lead to. -/
structure BdIn (w : World) (x : Bd) (A1 : Option Addr) (c1 : Nat) : Prop where
  l1 : x.f1.length ≤ c1
  g1 : kI.C w A1 x.f1.length x.f1
theorem BdIn.below {w w1 : World} {x : Bd} {A1 : Option Addr} {c1 : Nat} (h : BdIn w x A1 c1) (hb : Below w.heap.size w w1) : BdIn w1 x A1 c1 := ⟨h.l1, Kd.C_below h.g1 hb⟩
/-- The binding at place i: its cells, and what they lead to. -/
theorem bd_at {w : World} {A : Option Addr} {n : Nat} {xs : List Bd} (h : kB.C w A n xs) (i : Nat) (h1 : i < xs.length) : ∃ ad A1 c1, A = some ad ∧ w.cell? (ad.add (i * 3)) = some (.string xs[i].f0) ∧ w.cell? ⟨(ad.add (i * 3)).block, (ad.add (i * 3)).off + 1, none⟩ = some (.slice A1 xs[i].f1.length c1) ∧ w.cell? ⟨(ad.add (i * 3)).block, (ad.add (i * 3)).off + 2, none⟩ = some (.int .i64 xs[i].f2) ∧ BdIn w xs[i] A1 c1 := by
  have hn := h.1
  obtain ⟨ad, c, e, _, hK, hc0⟩ := Kd.C_get h zBd (i : Int) (by omega) (by omega)
  rw [Int.toNat_natCast] at hK hc0
  rw [show xs.getD i zBd = xs[i] from by rw [List.getD_eq_getElem?_getD, List.getElem?_eq_getElem h1]; rfl] at hK
  have hc : ∀ j u, c[j]? = some u → w.cell? (ad.add (i * 3 + j)) = some u := hc0
  obtain ⟨A1, c1, rfl, l1, g1⟩ := Q.k66_open hK
  exact ⟨ad, A1, c1, e, hc 0 _ rfl, by rw [← add_field _ _ 1 (by omega)]; exact hc 1 _ rfl, by rw [← add_field _ _ 2 (by omega)]; exact hc 2 _ rfl, l1, g1⟩
/-- The three cells of a variable that holds a binding. -/
theorem bd_cells {w : World} {g : Nat} {v0 v1 v2 : Value} {t : TypeId} (h : w.heap[g]? = some (.cells #[v0, v1, v2] t (0, 0))) : w.cell? ⟨g, 0, none⟩ = some v0 ∧ w.cell? ⟨g, 1, none⟩ = some v1 ∧ w.cell? ⟨g, 2, none⟩ = some v2 :=
  ⟨(blk_cell h 0).trans rfl, (blk_cell h 1).trans rfl, (blk_cell h 2).trans rfl⟩
set_option maxHeartbeats 1000000 in
theorem indexFuncB_any (xs : List Bd) (p : Bd → Bool) (g : Nat) (lb : Array Value) (eg : ∀ args w, (callFunc g args).run Try.prog w = .ok (.enter g args) w) (A : Option Addr) (c : Nat) (w : World) (hr : kB.C w A xs.length xs) (hc : xs.length ≤ c)
    (hp : ∀ x, x ∈ xs → ∀ (A1 : Option Addr) (c1 : Nat) (W : World), Below w.heap.size w W → BdIn W x A1 c1 → Calls Try.prog g (#[.agg #[.string x.f0, .slice A1 x.f1.length c1, .int .i64 x.f2]] ++ lb) W (Ret W (.bool (p x)))) :
    Calls Try.prog 115 #[.slice A xs.length c, .func (.func g) #[] lb] w (Ret w (.int .i64 (fidx p xs))) := by
  have hmax := hr.2.1
  have HP := Lib.hid hp
  clear hp
  go_enter Try.func115, Try.ntmps115
  go_wp2_with fail
  go_loopg [5, 8] xs.length (fun kq v5 v8 w' => ∃ i : Nat, i ≤ xs.length ∧ xs.length - i ≤ kq ∧ v8 = .int .i64 i ∧ Aside0 (∀ j (h : j < xs.length), j < i → p xs[j] = false) ∧ Aside0 (Below w.heap.size w w'))
  case atStart => exact ⟨0, Nat.zero_le _, by omega, rfl, ⟨fun j _ h => absurd h (by omega)⟩, ⟨Below.refl _ _⟩⟩
  case round =>
    obtain ⟨i, hi, hg, rfl, HN, HW⟩ := hrel
    by_cases hlt : i < xs.length
    · obtain ⟨ad, A1, c1, e, g0, g1, g2, hk⟩ := bd_at (Kd.C_below hr HW.out) i hlt
      subst e
      have HC := Lib.hid (HP.out xs[i] (List.getElem_mem hlt) A1 c1 wr HW.out hk)
      clear hk
      generalize hb : p xs[i] = b at HC
      have HB := Lib.hid hb
      clear hb
      cases b with
      | true =>
        go_wp2_with fail
        refine HC.out.mono ?_
        rintro e w1 ⟨rfl, hb1⟩
        go_wp2_with fail
        go_ret
        exact ⟨ret_i (fidx_hit hlt HB.out (fun j hj => HN.out j _ hj)).symm, below_step HW.out hb1⟩
      | false =>
        go_wp2_with fail
        refine HC.out.mono ?_
        rintro e w1 ⟨rfl, hb1⟩
        go_wp2_with fail
        go_roundg (xs.length - (i + 1))
        case measure => omega
        case rel =>
          refine ⟨i + 1, by omega, Nat.le_refl _, by go_num, ⟨fun j hj hji => ?_⟩, ⟨below_step HW.out hb1⟩⟩
          rcases Nat.lt_or_ge j i with h | h
          · exact HN.out j hj h
          · obtain rfl : j = i := by omega
            exact HB.out
    · obtain rfl : i = xs.length := by omega
      go_wp2_with fail
      go_ret
      exact ⟨ret_i (fidx_miss (fun j hj => HN.out j hj hj)).symm, HW.out⟩
theorem containsFuncB_any (xs : List Bd) (p : Bd → Bool) (g : Nat) (lb : Array Value) (eg : ∀ args w, (callFunc g args).run Try.prog w = .ok (.enter g args) w) (A : Option Addr) (c : Nat) (w : World) (hr : kB.C w A xs.length xs) (hc : xs.length ≤ c)
    (hp : ∀ x, x ∈ xs → ∀ (A1 : Option Addr) (c1 : Nat) (W : World), Below w.heap.size w W → BdIn W x A1 c1 → Calls Try.prog g (#[.agg #[.string x.f0, .slice A1 x.f1.length c1, .int .i64 x.f2]] ++ lb) W (Ret W (.bool (p x)))) :
    Calls Try.prog 87 #[.slice A xs.length c, .func (.func g) #[] lb] w (Ret w (.bool (xs.any p))) := by
  have HD := Lib.hid (fidx_any p xs)
  have HC := Lib.hid (indexFuncB_any xs p g lb eg A c w hr hc hp)
  clear hr hc hp
  generalize fidx p xs = r at HD HC
  go_enter Try.func87, Try.ntmps87
  go_wp2_with fail
  refine HC.out.mono ?_
  rintro e w1 ⟨rfl, hb1⟩
  go_wp2_with fail
  go_ret
  exact ⟨ret_b HD.out, hb1⟩

def BdOk (b : Bd) : Prop := NmOk b.f0 ∧ ScOk b.f1 ∧ 1 ≤ b.f2 ∧ b.f2 ≤ 999
def sameB (b c : Bd) : Bool := decide (c.f0.toList = b.f0.toList) && decide (c.f1 = b.f1)
def BdAt (l : List Bd) (i : Nat) : Prop := ∀ (h : i < l.length), BdOk l[i] ∧ (l.take i).any (sameB l[i]) = false
def BdsOk (l : List Bd) : Prop := l.length ≤ 60 ∧ ∀ i, BdAt l i
theorem bindsValid1_any (x b : Bd) (A1 : Option Addr) (c1 : Nat) (B1 : Option Addr) (d1 : Nat) (g : Nat) (w : World) (hx : BdIn w x A1 c1) (hg : w.heap[g]? = some (.cells #[.string b.f0, .slice B1 b.f1.length d1, .int .i64 b.f2] 66 (0, 0))) (hb : BdIn w b B1 d1) :
    Calls Try.prog 88 #[.agg #[.string x.f0, .slice A1 x.f1.length c1, .int .i64 x.f2], .pointer (some ⟨g, 0, none⟩)] w (Ret w (.bool (sameB b x))) := by
  obtain ⟨p0, p1, p2⟩ := bd_cells hg
  have hn := below_new w (.cells #[.string x.f0, .slice A1 x.f1.length c1, .int .i64 x.f2] 66)
  have HC := Lib.hid (equalI_any x.f1 b.f1 A1 B1 c1 d1 _ (Kd.C_below hx.g1 hn) hx.l1 (Kd.C_below hb.g1 hn) hb.l1)
  have HN := Lib.hid hn
  have q0 := ck0 hn p0
  have q1 := ck0 hn p1
  clear hn hg p0 p1 p2 hx hb
  by_cases e : x.f0.toList = b.f0.toList
  · have t1 : (x.f0.toList == b.f0.toList) = true := by rw [e]; simp
    have HE := Lib.hid e
    clear e
    go_enter Try.func88, Try.ntmps88
    go_wp2_with fail
    refine HC.out.mono ?_
    rintro e w1 ⟨rfl, hb1⟩
    generalize hd : decide (x.f1 = b.f1) = z
    have HD := Lib.hid hd
    clear hd
    go_wp2_with fail
    go_ret
    exact ⟨ret_b (by rw [sameB, decide_eq_true HE.out, HD.out]; rfl), below_step HN.out hb1⟩
  · have t1 : (x.f0.toList == b.f0.toList) = false := by simpa using e
    have HE := Lib.hid e
    clear e
    go_enter Try.func88, Try.ntmps88
    go_wp2_with fail
    go_ret
    exact ⟨ret_b (by rw [sameB, decide_eq_false HE.out]; rfl), HN.out⟩
set_option maxHeartbeats 4000000 in
set_option maxRecDepth 100000 in
theorem implBinds_any (xs : List Bd) (A : Option Addr) (c : Nat) (w : World) (hr : kB.C w A xs.length xs) (hc : xs.length ≤ c) (hn : ∀ b, b ∈ xs → b.f0.size ≤ 140737488351232) :
    Calls Try.prog 50 #[.slice A xs.length c] w (Ret w (.bool (pB (BdsOk xs)))) := by
  have eg : ∀ args w, (callFunc 88 args).run Try.prog w = .ok (.enter 88 args) w := enters_of Try.func88 (by kernel_rfl) rfl
  have hmax := hr.2.1
  have EG := Lib.hid eg
  have NM := Lib.hid hn
  clear eg hn
  go_enter Try.func50, Try.ntmps50
  go_wp2_with fail
  go_loopg [3, 4, 7] xs.length (fun kq v3 v4 v7 w' => ∃ i : Nat, i ≤ xs.length ∧ xs.length - i ≤ kq ∧ v7 = .int .i64 i ∧ Aside0 (∀ j, j < i → BdAt xs j) ∧ Aside0 (Below w.heap.size w w'))
  case atStart => exact ⟨0, Nat.zero_le _, by omega, rfl, ⟨fun j h => absurd h (by omega)⟩, ⟨Below.refl _ _⟩⟩
  case round =>
    obtain ⟨i, hi, hg, rfl, HN, HW⟩ := hrel
    by_cases hlt : i < xs.length
    · obtain ⟨ad, A1, c1, e, g0, g1, g2, hk⟩ := bd_at (Kd.C_below hr HW.out) i hlt
      subst e
      have HK := Lib.hid hk
      have HX := Lib.hid (NM.out xs[i] (List.getElem_mem hlt))
      have hnw := below_new wr (.cells #[.string xs[i].f0, .slice A1 xs[i].f1.length c1, .int .i64 xs[i].f2] 66)
      have HNW := Lib.hid hnw
      clear hk hnw
      go_wp2_with fail
      refine (implName_any _ _ HX.out).mono ?_
      rintro e w1 ⟨rfl, hb1⟩
      obtain ⟨k0, b1⟩ := one_new hb1
      obtain ⟨p0, p1, p2⟩ := bd_cells k0
      have K0 := Lib.hid k0
      have B1 := Lib.hid b1
      clear k0 hb1 b1
      cases ht : nmB xs[i].f0 with
      | false =>
        have HT := Lib.hid (nmB_false ht)
        clear ht
        go_wp2_with fail
        go_ret
        exact ⟨ret_b (pB_no (fun h => HT.out (h.2 i hlt).1.1)), below_step HW.out B1.out⟩
      | true =>
        have HT := Lib.hid ((nmB_iff _).1 ht)
        clear ht
        go_wp2_with fail
        refine (scopesOk_any xs[i].f1 A1 c1 w1 (HK.out.below B1.out).g1 HK.out.l1).mono ?_
        rintro e w2 ⟨rfl, hb2⟩
        obtain ⟨q0, q1, q2⟩ := bd_cells (blk_below K0.out hb2)
        have B2 := Lib.hid (below_step B1.out hb2)
        have K2 := Lib.hid (blk_below K0.out hb2)
        clear hb2 p0 p1 p2
        cases hs : pB (ScOk xs[i].f1) with
        | false =>
          have HS := Lib.hid (pB_false hs)
          clear hs
          go_wp2_with fail
          go_ret
          exact ⟨ret_b (pB_no (fun h => HS.out (h.2 i hlt).1.2.1)), below_step HW.out B2.out⟩
        | true =>
          have HS := Lib.hid (pB_iff.1 hs)
          clear hs
          go_wp2_with fail
          refine (within_any _ _ _ _).mono ?_
          rintro e w3 ⟨rfl, hb3⟩
          have B3 := Lib.hid (below_step B2.out hb3)
          have K3 := Lib.hid (blk_below K2.out hb3)
          clear hb3 q0 q1 q2
          cases hd : decide (1 ≤ xs[i].f2 ∧ xs[i].f2 ≤ 999) with
          | false =>
            have HD := Lib.hid (of_decide_eq_false hd)
            clear hd
            go_wp2_with fail
            go_ret
            exact ⟨ret_b (pB_no (fun h => HD.out (h.2 i hlt).1.2.2)), below_step HW.out B3.out⟩
          | true =>
            have HD := Lib.hid (of_decide_eq_true hd)
            clear hd
            have HCF := Lib.hid (containsFuncB_any (xs.take i) (sameB xs[i]) 88 #[.pointer (some ⟨wr.heap.size, 0, none⟩)] EG.out (some ad) c w3 (Kd.C_take (Kd.C_below hr (below_step HW.out B3.out)) (by omega)) (by rw [List.length_take]; omega)
              (fun x hx A2 c2 W hb hin => bindsValid1_any x xs[i] A2 c2 A1 c1 wr.heap.size W hin (blk_below K3.out hb) ((HK.out.below B3.out).below hb)))
            rw [List.length_take, Nat.min_eq_left hi] at HCF
            go_wp2_with fail
            refine HCF.out.mono ?_
            rintro e w4 ⟨rfl, hb4⟩
            have B4 := Lib.hid (below_step B3.out hb4)
            clear hb4
            cases hz : (xs.take i).any (sameB xs[i]) with
            | true =>
              have HZ := Lib.hid hz
              clear hz
              go_wp2_with fail
              go_ret
              exact ⟨ret_b (pB_no (fun h => by have := (h.2 i hlt).2; rw [HZ.out] at this; cases this)), below_step HW.out B4.out⟩
            | false =>
              have HZ := Lib.hid hz
              clear hz
              go_wp2_with fail
              go_roundg (xs.length - (i + 1))
              case measure => omega
              case rel =>
                refine ⟨i + 1, by omega, Nat.le_refl _, by go_num, ⟨fun j hji => ?_⟩, ⟨below_step HW.out B4.out⟩⟩
                rcases Nat.lt_or_ge j i with h | h
                · exact HN.out j h
                · obtain rfl : j = i := by omega
                  exact fun _ => ⟨⟨HT.out, HS.out, HD.out⟩, HZ.out⟩
    · obtain rfl : i = xs.length := by omega
      by_cases h60 : xs.length ≤ 60
      · have t1 : decide ((xs.length : Int) ≤ 60) = true := decide_eq_true (by omega)
        have t2 : decide (xs.length ≤ 60) = true := decide_eq_true h60
        go_wp2_with fail
        go_ret
        exact ⟨ret_b (pB_yes ⟨h60, fun j h => HN.out j h h⟩), HW.out⟩
      · have t1 : decide ((xs.length : Int) ≤ 60) = false := decide_eq_false (by omega)
        have t2 : decide (xs.length ≤ 60) = false := decide_eq_false h60
        go_wp2_with fail
        go_ret
        exact ⟨ret_b (pB_no (fun h => h60 h.1)), HW.out⟩
end Go.Proofs.Ytlklclebjeeaaaa
end
section
namespace Go.Proofs.Ytlklclebjeeaaaa
open Go.RowKit Go.Proofs.YtlklclebjeeaaaaW.PrintWords Go.Proofs.YtlklclebjeeaaaaW.PrintLast Go.Proofs.YtlklclebjeeaaaaW.PrintMore
set_option linter.unusedVariables false
set_option linter.unusedSimpArgs false
/-- Only the blocks of S, and new ones, may have changed. -/
structure Mk (S : List Nat) (w w' : World) : Prop where
  b0 : Below 0 w w'
  keep : ∀ b, b < w.heap.size → b ∉ S → w'.heap[b]? = w.heap[b]?
theorem Mk.refl (S : List Nat) (w : World) : Mk S w w := ⟨Below.refl _ _, fun _ _ _ => rfl⟩
theorem Mk.trans {S : List Nat} {a b c : World} (h : Mk S a b) (k : Mk S b c) : Mk S a c :=
  ⟨h.b0.trans k.b0, fun j hj hs => (k.keep j (Nat.lt_of_lt_of_le hj h.b0.size) hs).trans (h.keep j hj hs)⟩
theorem Mk.more {S T : List Nat} {a b : World} (h : Mk S a b) (hs : ∀ j, j ∈ S → j ∈ T) : Mk T a b := ⟨h.b0, fun j hj ht => h.keep j hj (fun q => ht (hs j q))⟩
theorem Mk.ofBelow {S : List Nat} {w w' : World} (h : Below w.heap.size w w') : Mk S w w' := ⟨h.mono (Nat.zero_le _), fun b hb _ => h.block b hb⟩
theorem Mk.set {S : List Nat} (w : World) {g : Nat} (hg : g ∈ S) (i : Nat) (u : Value) : Mk S w (w.setCell ⟨g, i, none⟩ u) :=
  ⟨(Below.refl 0 w).setCell (Nat.zero_le _) u, fun b _ hb => Below.heap_setCell _ _ _ _ (fun h => hb (h ▸ hg))⟩
theorem Mk.below {S : List Nat} {w w' : World} {B : Nat} (h : Mk S w w') (hB : B ≤ w.heap.size) (hs : ∀ b, b ∈ S → B ≤ b) : Below B w w' :=
  ⟨h.b0.os, h.b0.tape, h.b0.output, h.b0.size, fun k hk => h.keep k (Nat.lt_of_lt_of_le hk hB) (fun q => Nat.lt_irrefl _ (Nat.lt_of_lt_of_le hk (hs k q)))⟩
theorem Mk.tree {S fp : List Nat} {w w' : World} {x : Fm} {v3 v4 : Value} (h : Mk S w w') (ht : TrF w x v3 v4 fp) (hs : ∀ b, b ∈ fp → b ∉ S) : TrF w' x v3 v4 fp :=
  ht.move x (fun b hb => h.keep b (ht.lt x b hb) (hs b hb))
/-- The numbers k, k + 1, ..: n of them. -/
def markI (n : Nat) (k : Int) : List Int := (List.range n).map (fun i : Nat => k + (i : Int))
theorem markI_length (n : Nat) (k : Int) : (markI n k).length = n := by simp [markI]
set_option maxHeartbeats 1000000 in
theorem markIntS_any (xs : List Int) (v : Value) (k : Int) (w : World) (h : kI.R 3 w 0 (fun _ => True) v xs) (hk0 : 0 ≤ k) (hk1 : k + xs.length ≤ 1000000000) :
    Calls Try.prog 21 #[v, .int .i64 k] w (fun e w' => e = .returned (.int .i64 (k + xs.length)) ∧ kI.R 3 w' 0 (fun _ => True) v (markI xs.length k) ∧ Mk (obs v) w w') := by
  obtain ⟨A, c, rfl, hcap, hC0⟩ := own_C (Kd.own_of_R h)
  have hmax := hC0.2.1
  have HA := Lib.hid h
  clear h hC0
  go_enter Try.func21, Try.ntmps21
  go_wp2_with fail
  go_loopg [1, 5] xs.length (fun kq v1 v5 w' => ∃ i : Nat, i ≤ xs.length ∧ xs.length - i ≤ kq ∧ v5 = .int .i64 i ∧ v1 = .int .i64 (k + (i : Int)) ∧ Aside0 (kI.R 3 w' 0 (fun _ => True) (.slice A xs.length c) (markI i k ++ xs.drop i)) ∧ Aside0 (Mk (obs (.slice A xs.length c)) w w'))
  case atStart => exact ⟨0, Nat.zero_le _, by omega, rfl, by simp, ⟨by simpa [markI] using HA.out⟩, ⟨Mk.refl _ _⟩⟩
  case round =>
    obtain ⟨i, hi, hg, rfl, rfl, HO, HW⟩ := hrel
    by_cases hlt : i < xs.length
    · have hlen : (markI i k ++ xs.drop i).length = xs.length := by simp [markI]; omega
      obtain ⟨g, cap, e, hg1, _, hx, hf, _, HP⟩ := own_at HO.out i (by omega)
      rw [hlen] at e HP
      have hA : A = some ⟨g, 0, none⟩ := by cases e; rfl
      have hcc : c = cap := by cases e; rfl
      subst hA
      subst hcc
      have HP := Lib.hid (HP (k + (i : Int)))
      have HM := Lib.hid (Mk.set wr (S := obs (.slice (some ⟨g, 0, none⟩) xs.length c)) (g := g) (by simp [obs, Value.ownBlock]) i (.int .i64 (k + (i : Int))))
      clear e
      go_wp2_with fail
      go_roundg (xs.length - (i + 1))
      case measure => omega
      case rel =>
        refine ⟨i + 1, by omega, Nat.le_refl _, by go_num, by go_num, ⟨?_⟩, ⟨HW.out.trans HM.out⟩⟩
        have := HP.out
        rwa [show (markI i k ++ xs.drop i).set i (k + (i : Int)) = markI (i + 1) k ++ xs.drop (i + 1) from ?_] at this
        have e1 : (List.drop i xs).set 0 (k + (i : Int)) = (k + (i : Int)) :: List.drop (i + 1) xs := by rw [List.drop_eq_getElem_cons hlt]; rfl
        rw [List.set_append_right _ _ (by simp [markI]), markI_length, Nat.sub_self, e1]
        simp [markI, List.range_succ]
    · obtain rfl : i = xs.length := by omega
      go_wp2_with fail
      go_ret
      refine ⟨rfl, ?_, HW.out⟩
      have := HO.out
      rwa [List.drop_length, List.append_nil] at this
theorem heldIntS_any (n : Nat) (A : Option Addr) (c : Nat) (k : Int) (w : World) (hr : kI.C w A n (markI n k)) (hc : n ≤ c) (hk0 : 0 ≤ k) (hk1 : k + n ≤ 1000000000) :
    Calls Try.prog 22 #[.slice A n c, .int .i64 k] w (Ret w (.int .i64 (k + n))) := by
  have hmax := hr.2.1
  go_enter Try.func22, Try.ntmps22
  go_wp2_with fail
  go_loopg [1, 5] n (fun kq v1 v5 w' => ∃ i : Nat, i ≤ n ∧ n - i ≤ kq ∧ v5 = .int .i64 i ∧ v1 = .int .i64 (k + (i : Int)) ∧ Aside0 (Below w.heap.size w w'))
  case atStart => exact ⟨0, Nat.zero_le _, by omega, rfl, by simp, ⟨Below.refl _ _⟩⟩
  case round =>
    obtain ⟨i, hi, hg, rfl, rfl, HW⟩ := hrel
    by_cases hlt : i < n
    · obtain ⟨ad, e, hcell⟩ := int_at (Kd.C_below hr HW.out) i (by rw [markI_length]; exact hlt)
      subst e
      rw [show (markI n k)[i]'(by rw [markI_length]; exact hlt) = k + (i : Int) from by simp [markI]] at hcell
      have ht : ((k + (i : Int)) != (k + (i : Int))) = false := by simp
      go_wp2_with fail
      go_roundg (n - (i + 1))
      case measure => omega
      case rel => exact ⟨i + 1, by omega, Nat.le_refl _, by go_num, by go_num, ⟨HW.out⟩⟩
    · obtain rfl : i = n := by omega
      go_wp2_with fail
      go_ret
      exact ⟨rfl, HW.out⟩
def dg (n : Nat) (acc : ByteArray) : ByteArray := if h : n = 0 then acc else dg (n / 10) (⟨#[48 + UInt8.ofNat (n % 10)]⟩ ++ acc)
termination_by n
decreasing_by omega
def mt (k : Int) : ByteArray := if k ≤ 0 then ⟨#[109, 48]⟩ else ⟨#[109]⟩ ++ dg k.toNat ⟨#[]⟩
set_option maxRecDepth 100000 in
set_option maxHeartbeats 1000000 in
theorem markText_any (k : Nat) (w : World) (hk0 : 1 ≤ k) (hk1 : k ≤ 1000000000) :
    Calls Try.prog 54 #[.int .i64 k] w (Ret w (.string (mt k))) := by
  have t0 : decide ((k : Int) ≤ 0) = false := decide_eq_false (by omega)
  have t0' : decide (k = 0) = false := decide_eq_false (by omega)
  go_enter Try.func54, Try.ntmps54
  go_wp2_with fail
  go_loopg [0, 3] k (fun kq v0 v3 w' => ∃ (n : Nat) (acc : ByteArray), acc.size + n ≤ k ∧ n ≤ kq ∧ v0 = .int .i64 n ∧ v3 = .string acc ∧ Aside0 (dg n acc = dg k ⟨#[]⟩) ∧ Aside0 (Below w.heap.size w w'))
  case atStart => exact ⟨k, _, (by have : (ByteArray.mk #[]).size = 0 := rfl; omega), by omega, rfl, rfl, ⟨rfl⟩, ⟨Below.refl _ _⟩⟩
  case round =>
    obtain ⟨n, acc, hn, hg, rfl, rfl, HD, HW⟩ := hrel
    have ha : acc.size ≤ 1000000000 := by omega
    by_cases hz : n = 0
    · have t1 : decide ((n : Int) > 0) = false := decide_eq_false (by omega)
      have t2 : decide (0 < n) = false := decide_eq_false (by omega)
      have HZ := Lib.hid hz
      clear hz
      go_wp2_with fail
      go_ret
      refine ⟨?_, HW.out⟩
      have h1 := HD.out
      rw [HZ.out, dg, dif_pos rfl] at h1
      rw [h1, mt, if_neg (by omega), Int.toNat_natCast]
      rfl
    · have t1 : decide ((n : Int) > 0) = true := decide_eq_true (by omega)
      have t2 : decide (0 < n) = true := decide_eq_true (by omega)
      have hd : (convert 99 9 (.slice (some ⟨wr.heap.size, 0, none⟩) 1 1)).run Try.prog (wr.alloc (.cells #[.int .u8 (48 + (n : Int) % 10)] 5)) = .ok (.string ⟨#[UInt8.ofNat (48 + n % 10)]⟩) (wr.alloc (.cells #[.int .u8 (48 + (n : Int) % 10)] 5)) :=
        run_convert_bytes_back (P := Try.prog) _ 99 9 5 ⟨wr.heap.size, 0, none⟩ 1 [UInt8.ofNat (48 + n % 10)] Try.underlying99 Try.underlying5 Try.underlying9 (by
          intro j hj
          obtain rfl : j = 0 := by simpa using hj
          have h8 : (UInt8.ofNat (48 + n % 10)).toNat = 48 + n % 10 := by rw [UInt8.toNat_ofNat']; omega
          show _ = some (Value.int .u8 ((UInt8.ofNat (48 + n % 10)).toNat : Int))
          rw [h8]
          exact ((blk_cell (blk_new wr (.cells #[.int .u8 (48 + (n : Int) % 10)] 5)) 0).trans (by simp)))
      go_wp2_with fail
      go_roundg (n / 10)
      case measure => omega
      case rel =>
        refine ⟨n / 10, _, ?_, Nat.le_refl _, by go_num, rfl, ⟨?_⟩, ⟨HW.out.alloc HW.out.size _⟩⟩
        · have : (⟨#[48 + UInt8.ofNat (n % 10)]⟩ ++ acc : ByteArray).size = 1 + acc.size := by rw [ByteArray.size_append]; rfl
          omega
        · have h1 := HD.out
          rw [dg, dif_neg hz] at h1
          exact h1
end Go.Proofs.Ytlklclebjeeaaaa
end
section
namespace Go.Proofs.Ytlklclebjeeaaaa
open Go.RowKit Go.Proofs.YtlklclebjeeaaaaW.PrintWords Go.Proofs.YtlklclebjeeaaaaW.PrintLast Go.Proofs.YtlklclebjeeaaaaW.PrintMore
set_option linter.unusedVariables false
set_option linter.unusedSimpArgs false
theorem Mk.setCells {S : List Nat} {g : Nat} (hg : g ∈ S) : ∀ (vs : List Value) (o : Nat) (w : World), Mk S w (w.setCells g o vs)
  | [], _, w => Mk.refl S w
  | u :: r, o, w => by
    rw [World.setCells]
    exact (Mk.set w hg o u).trans (Mk.setCells hg r (o + 1) _)
end Go.Proofs.Ytlklclebjeeaaaa
end
section
namespace Go.Proofs.Ytlklclebjeeaaaa
open Go.RowKit Go.Proofs.YtlklclebjeeaaaaW.PrintWords Go.Proofs.YtlklclebjeeaaaaW.PrintLast Go.Proofs.YtlklclebjeeaaaaW.PrintMore
set_option linter.unusedVariables false
/-- Number, captured variables, the world in which these lie, what it computes, and that it does. -/
structure Fv where
  g : Nat
  lb : Array Value
  w0 : World
  f : List Int → Option (List Int)
  eg : ∀ args w, (callFunc g args).run Try.prog w = .ok (.enter g args) w
  ok : ∀ (P1_ : Nat → Prop) (u : Value) (l r : List Int) (wb w : World), Below wb.heap.size wb w → kI.R 3 w wb.heap.size P1_ u l → Below w0.heap.size w0 wb → f l = some r →
    Calls Try.prog g (#[u] ++ lb) w fun e w' => ∃ v0_ : Value, e = .returned v0_ ∧ kI.R 3 w' wb.heap.size (fun k_ => P1_ k_ ∨ w.heap.size ≤ k_) v0_ r ∧ Below wb.heap.size wb w' ∧ Kept w w' (fun k_ => P1_ k_)
end Go.Proofs.Ytlklclebjeeaaaa
namespace Go.Proofs.Ytlklclebjeeaaaa.Q
open Go.RowKit Go.Proofs.YtlklclebjeeaaaaW.PrintWords Go.Proofs.YtlklclebjeeaaaaW.PrintLast Go.Proofs.YtlklclebjeeaaaaW.PrintMore
set_option linter.unusedVariables false
def chg.f (a0 : Fv) (l1 : List Int) : Option (List Int) := a0.f l1
theorem chg.calls (a0 : Fv) (P1_ : Nat → Prop) (u9000_ : Value) (l1 : List Int) (r : List Int) (w0 w : World) (hB : Below w0.heap.size w0 w) (ho1 : Kd.R (Kd.int .i64) 3 w w0.heap.size P1_ u9000_ l1) (hw0 : Below a0.w0.heap.size a0.w0 w0) (h : chg.f a0 l1 = some r) :
    Calls Try.prog a0.g (#[u9000_] ++ a0.lb) w fun e w' => ∃ v0_ : Value, e = .returned v0_ ∧ Kd.R (Kd.int .i64) 3 w' w0.heap.size (fun k_ => (P1_ k_ ∨ w.heap.size ≤ k_)) v0_ r ∧ Below w0.heap.size w0 w' ∧ Kept w w' (fun k_ => P1_ k_) :=
  a0.ok P1_ u9000_ l1 r w0 w hB ho1 hw0 h
section
variable {P : Program} {ops : Array Oper} {Q : Exit → Act → World → Prop}
end
end Go.Proofs.Ytlklclebjeeaaaa.Q
end
section
namespace Go.Proofs.Ytlklclebjeeaaaa
open Go.RowKit Go.Proofs.YtlklclebjeeaaaaW.PrintWords Go.Proofs.YtlklclebjeeaaaaW.PrintLast Go.Proofs.YtlklclebjeeaaaaW.PrintMore
set_option linter.unusedVariables false
set_option linter.unusedSimpArgs false
def putAt (xs : List Int) (k : Nat) (x : Int) : List Int := xs.take k ++ x :: xs.drop k
/-- A set with a number. -/
def putS (l : List Int) (x : Int) : List Int := if x ∈ l then l else putAt l (l.countP (· < x)) x
end Go.Proofs.Ytlklclebjeeaaaa
end
section
namespace Go.Proofs.Ytlklclebjeeaaaa
open Go.RowKit Go.Proofs.YtlklclebjeeaaaaW.PrintWords Go.Proofs.YtlklclebjeeaaaaW.PrintLast Go.Proofs.YtlklclebjeeaaaaW.PrintMore
set_option linter.unusedVariables false
set_option linter.unusedSimpArgs false
/-- How a function tells of a form in new memory: from block B on. -/
structure Tells where
  T : Nat → World → Fm → Value → Value → Prop
  move : ∀ {B w w' x v3 v4}, T B w x v3 v4 → (∀ b, B ≤ b → w'.heap[b]? = w.heap[b]?) → T B w' x v3 v4
  low : ∀ {B B' w x v3 v4}, B' ≤ B → T B w x v3 v4 → T B' w x v3 v4
  form : ∀ {B w x v3 v4}, T B w x v3 v4 → ∃ A c B d, v3 = .slice A x.f3.length c ∧ v4 = .slice B x.f4.length d
def RetT (t : Tells) (w : World) (p : Fm × Bool) (e : Ending) (w' : World) : Prop := ∃ v3 v4, e = .returned (.tuple #[.agg #[.int .i64 p.1.f0, .string p.1.f1, .int .i64 p.1.f2, v3, v4], .bool p.2]) ∧ t.T w.heap.size w' p.1 v3 v4 ∧ Below w.heap.size w w'
def tellsNew : Tells where
  T := NewF
  move := by
    rintro B w w' x v3 v4 ⟨fp, ht, hn, hg⟩ hm
    exact ⟨fp, ht.move x (fun b hb => hm b (hg b hb)), hn, hg⟩
  low := by
    rintro B B' w x v3 v4 hb ⟨fp, ht, hn, hg⟩
    exact ⟨fp, ht, hn, fun b h => Nat.le_trans hb (hg b h)⟩
  form := by
    rintro B w x v3 v4 ⟨fp, ht, hn, hg⟩
    obtain ⟨A3, c3, A4, c4, e3, e4, _⟩ := ht.In
    exact ⟨A3, c3, A4, c4, e3, e4⟩
def tellsR : Tells where
  T := fun B w x v3 v4 => kI.R 3 w B (fun _ => True) v3 x.f3 ∧ kF.R 34 w B (fun k => some k ≠ v3.ownBlock) v4 x.f4
  move := by
    rintro B w w' x v3 v4 ⟨h3, h4⟩ hm
    have h3' := Kd.R_mono (Kd.R_move (Kd.R_bound h3) (fun k hk => hm k hk.2.1)) (fun _ _ => trivial)
    exact ⟨h3', Kd.R_mono (Kd.R_move (Kd.R_bound h4) (fun k hk => hm k hk.2.1)) (fun _ hk => hk.1)⟩
  low := by
    rintro B B' w x v3 v4 hb ⟨h3, h4⟩
    exact ⟨Kd.R_lower h3 hb, Kd.R_lower h4 hb⟩
  form := by
    rintro B w x v3 v4 ⟨h3, h4⟩
    obtain ⟨A, c, e3⟩ := Kd.R_slice h3
    obtain ⟨A2, c2, e4⟩ := Kd.R_slice h4
    exact ⟨A, c, A2, c2, e3, e4⟩
/-- What a mover leaves, as_ the print tells it. -/
theorem Mk.kept {v : Value} {w w' : World} {P1 : Nat → Prop} (h : Mk (obs v) w w') (hp : ∀ k, v.ownBlock = some k → P1 k) : Kept w w' (fun k => P1 k) := ⟨h.b0.size, fun i hi hn => h.keep i hi (fun hm => hn (hp i (obs_mem.1 hm)))⟩
/-- A set with a number put in or taken out. -/
def flipS (l : List Int) (n : Int) : List Int := if n ∈ l then l.filter (fun y => !(y == n)) else putS l n
end Go.Proofs.Ytlklclebjeeaaaa
end
section
namespace Go.Proofs.Ytlklclebjeeaaaa
open Go.RowKit Go.Proofs.YtlklclebjeeaaaaW.PrintWords Go.Proofs.YtlklclebjeeaaaaW.PrintLast Go.Proofs.YtlklclebjeeaaaaW.PrintMore
set_option linter.unusedVariables false
set_option linter.unusedSimpArgs false
set_option maxHeartbeats 1000000 in
theorem l1Count_any : ∀ (x : Fm) (A3 : Option Addr) (c3 : Nat) (A4 : Option Addr) (c4 : Nat) (w : World), FmIn w x A3 c3 A4 c4 → x.size < 4611686018427387904 →
    Calls Try.prog 112 #[.agg #[.int .i64 x.f0, .string x.f1, .int .i64 x.f2, .slice A3 x.f3.length c3, .slice A4 x.f4.length c4]] w (Ret w (.int .i64 x.size)) := by
  intro x
  induction x using Fm.ind with
  | h x ih =>
    intro A3 c3 A4 c4 w hin hsz
    have hmax := hin.g4.2.1
    have hse := Fm.size_eq x
    have HS := Lib.hid hse
    have hszl : sizes x.f4 < 4611686018427387904 := by omega
    clear hse hsz
    go_enter Try.func112, Try.ntmps112
    go_wp2_with fail
    go_loopg [3, 4] x.f4.length (fun kq v3 v4 w' => ∃ i : Nat, i ≤ x.f4.length ∧ x.f4.length - i ≤ kq ∧ v4 = .int .i64 i ∧ v3 = .int .i64 ((1 + sizes (x.f4.take i) : Nat) : Int) ∧ Aside0 (w'.heap[w.heap.size]? = some (.cells #[.int .i64 x.f0, .string x.f1, .int .i64 x.f2, .slice A3 x.f3.length c3, .slice A4 x.f4.length c4] 34 (0, 0))) ∧ Aside0 (Below w.heap.size w w'))
    case atStart => exact ⟨0, Nat.zero_le _, by omega, rfl, by simp [sizes], ⟨blk_new w _⟩, ⟨below_new w _⟩⟩
    case round =>
      obtain ⟨i, hi, hg, rfl, rfl, HB, HW⟩ := hrel
      obtain ⟨q0, q1, q2, q3, q4⟩ := fm_cells HB.out
      by_cases hlt : i < x.f4.length
      · obtain ⟨ad, B3, d3, B4, d4, e, h0, h1, h2, h3, h4, hk⟩ := kid_at (Kd.C_below hin.g4 HW.out) i hlt
        have hle := sizes_take_le x.f4 (i + 1)
        rw [sizes_take _ _ hlt] at hle
        have HC := Lib.hid (ih x.f4[i] (List.getElem_mem hlt) B3 d3 B4 d4 wr hk (by omega))
        clear hk ih
        subst e
        go_wp2_with fail
        refine HC.out.mono ?_
        rintro e w1 ⟨rfl, hb1⟩
        go_wp2_with fail
        go_roundg (x.f4.length - (i + 1))
        case measure => omega
        case rel =>
          refine ⟨i + 1, by omega, Nat.le_refl _, by go_num, ?_, ⟨blk_below HB.out hb1⟩, ⟨below_step HW.out hb1⟩⟩
          rw [sizes_take _ _ hlt]; go_num
      · have he : i = x.f4.length := by omega
        subst he
        go_wp2_with fail
        go_ret
        refine ⟨?_, HW.out⟩
        rw [List.take_length, HS.out]
        rfl
end Go.Proofs.Ytlklclebjeeaaaa
end
section
namespace Go.Proofs.Ytlklclebjeeaaaa
open Go.RowKit Go.Proofs.YtlklclebjeeaaaaW.PrintWords Go.Proofs.YtlklclebjeeaaaaW.PrintLast Go.Proofs.YtlklclebjeeaaaaW.PrintMore
set_option linter.unusedVariables false
set_option linter.unusedSimpArgs false
def IsOk : Nat → Fm → Prop
  | 0, _ => False
  | n + 1, x => (x.f0 = 1 ∧ NmOk x.f1 ∧ x.f2 = 0 ∧ ScOk x.f3 ∧ x.f4.length = 0) ∨ (x.f0 = 2 ∧ x.f1.toList = [] ∧ 0 ≤ x.f2 ∧ x.f2 ≤ 999 ∧ x.f3.length = 0 ∧ x.f4.length = 0) ∨ (x.f0 = 3 ∧ x.f1.toList = [] ∧ x.f2 = 0 ∧ x.f3.length = 0 ∧ ∀ k, k ∈ x.f4 → IsOk n k)
theorem isOk1 {n : Nat} {x : Fm} (h : x.f0 = 1) : IsOk (n + 1) x ↔ NmOk x.f1 ∧ x.f2 = 0 ∧ ScOk x.f3 ∧ x.f4.length = 0 := by
  unfold IsOk
  constructor
  · rintro (⟨_, h⟩ | ⟨h2, _⟩ | ⟨h2, _⟩)
    · exact h
    · omega
    · omega
  · exact fun h2 => .inl ⟨h, h2⟩
theorem isOk2 {n : Nat} {x : Fm} (h : x.f0 = 2) : IsOk (n + 1) x ↔ x.f1.toList = [] ∧ 0 ≤ x.f2 ∧ x.f2 ≤ 999 ∧ x.f3.length = 0 ∧ x.f4.length = 0 := by
  unfold IsOk
  constructor
  · rintro (⟨h2, _⟩ | ⟨_, h⟩ | ⟨h2, _⟩)
    · omega
    · exact h
    · omega
  · exact fun h2 => .inr (.inl ⟨h, h2⟩)
theorem isOk3 {n : Nat} {x : Fm} (h1 : x.f0 ≠ 1) (h2 : x.f0 ≠ 2) : IsOk (n + 1) x ↔ x.f0 = 3 ∧ x.f1.toList = [] ∧ x.f2 = 0 ∧ x.f3.length = 0 ∧ ∀ k, k ∈ x.f4 → IsOk n k := by
  conv => lhs; unfold IsOk
  constructor
  · rintro (⟨h, _⟩ | ⟨h, _⟩ | h)
    · exact absurd h h1
    · exact absurd h h2
    · exact h
  · exact fun h => .inr (.inr h)
theorem name_size {x : Fm} (h : x.tot ≤ 1048576) : x.f1.size ≤ 140737488351232 := by rw [Fm.tot_eq] at h; omega
theorem kid_tot {x k : Fm} (h : x.tot ≤ 1048576) (hk : k ∈ x.f4) : k.tot ≤ 1048576 := by
  have := totL_mem hk
  rw [Fm.tot_eq] at h
  omega
set_option maxHeartbeats 4000000 in
set_option maxRecDepth 100000 in
theorem l1Is_any : ∀ (n : Nat) (x : Fm) (A3 : Option Addr) (c3 : Nat) (A4 : Option Addr) (c4 : Nat) (m : Int) (w : World), m = n → n ≤ 1000 → FmIn w x A3 c3 A4 c4 → x.tot ≤ 1048576 →
    Calls Try.prog 111 #[.agg #[.int .i64 x.f0, .string x.f1, .int .i64 x.f2, .slice A3 x.f3.length c3, .slice A4 x.f4.length c4], .int .i64 m] w (Ret w (.bool (pB (IsOk n x)))) := by
  intro n
  induction n with
  | zero =>
    intro x A3 c3 A4 c4 m w hm hn hin ht
    have tm : (m == 0) = true := by rw [beq_iff_eq]; omega
    clear hin ht hm
    go_enter Try.func111, Try.ntmps111
    go_wp2_with fail
    go_ret
    exact ⟨ret_b (pB_no (fun h => h)), below_new w _⟩
  | succ n ih =>
    intro x A3 c3 A4 c4 m w hm hn hin ht
    have tm : (m == 0) = false := by rw [beq_eq_false_iff_ne]; omega
    have m1 : -1000 ≤ m := by omega
    have m2 : m ≤ 1001 := by omega
    have HM := Lib.hid hm
    have HI := Lib.hid hin
    have HT := Lib.hid ht
    have IH := Lib.hid ih
    have hmax := hin.g4.2.1
    have HN := Lib.hid (specName_any x.f1 (w.alloc (.cells #[.int .i64 x.f0, .string x.f1, .int .i64 x.f2, .slice A3 x.f3.length c3, .slice A4 x.f4.length c4] 34)) (name_size ht))
    clear hm hin ht ih hn
    by_cases k1 : x.f0 = 1
    · have e1 : (x.f0 == 1) = true := by simpa using k1
      have K1 := Lib.hid k1
      clear k1
      go_enter Try.func111, Try.ntmps111
      go_wp2_with fail
      refine HN.out.mono ?_
      rintro e w1 ⟨rfl, hb1⟩
      obtain ⟨z1, b1⟩ := one_new hb1
      obtain ⟨p0, p1, p2, p3, p4⟩ := fm_cells z1
      have B1 := Lib.hid b1
      have HS := Lib.hid (l1Scopes_any x.f3 A3 c3 w1 (Kd.C_below HI.out.g3 b1) HI.out.l3)
      clear hb1 b1
      cases hq : nmB x.f1 with
      | false =>
        have HQ := Lib.hid hq
        clear hq
        go_wp2_with fail
        go_ret
        exact ⟨ret_b (pB_no (fun h => by have := nmB_t ((isOk1 K1.out).1 h).1; rw [HQ.out] at this; cases this)), B1.out⟩
      | true =>
        have HQ := Lib.hid hq
        clear hq
        by_cases h2 : x.f2 = 0
        · have t2 : (x.f2 == 0) = true := by simpa using h2
          have H2 := Lib.hid h2
          clear h2
          go_wp2_with fail
          refine HS.out.mono ?_
          rintro e w2 ⟨rfl, hb2⟩
          have z2 := blk_below z1 hb2
          have B2 := Lib.hid (below_step B1.out hb2)
          clear hb2 z1 p0 p1 p2 p3 p4
          obtain ⟨p0, p1, p2, p3, p4⟩ := fm_cells z2
          cases hq : pB (ScOk x.f3) with
          | false =>
            have HQ2 := Lib.hid hq
            clear hq
            go_wp2_with fail
            go_ret
            exact ⟨ret_b (pB_no (fun h => by have := pB_yes ((isOk1 K1.out).1 h).2.2.1; rw [HQ2.out] at this; cases this)), B2.out⟩
          | true =>
            have HQ2 := Lib.hid hq
            clear hq
            by_cases h3 : x.f4.length = 0
            · have t3 : ((x.f4.length : Int) == 0) = true := by rw [beq_iff_eq]; omega
              have H3 := Lib.hid h3
              clear h3
              go_wp2_with fail
              go_ret
              exact ⟨ret_b (pB_yes ((isOk1 K1.out).2 ⟨(nmB_iff _).1 HQ.out, H2.out, pB_iff.1 HQ2.out, H3.out⟩)), B2.out⟩
            · have t3 : ((x.f4.length : Int) == 0) = false := by rw [beq_eq_false_iff_ne]; omega
              have H3 := Lib.hid h3
              clear h3
              go_wp2_with fail
              go_ret
              exact ⟨ret_b (pB_no (fun h => H3.out ((isOk1 K1.out).1 h).2.2.2)), B2.out⟩
        · have t2 : (x.f2 == 0) = false := by simpa using h2
          have H2 := Lib.hid h2
          clear h2
          go_wp2_with fail
          go_ret
          exact ⟨ret_b (pB_no (fun h => H2.out ((isOk1 K1.out).1 h).2.1)), B1.out⟩
    · have e1 : (x.f0 == 1) = false := by simpa using k1
      have K1 := Lib.hid k1
      clear k1 HN
      by_cases k2 : x.f0 = 2
      · have e2 : (x.f0 == 2) = true := by simpa using k2
        have K2 := Lib.hid k2
        clear k2
        have B0 := Lib.hid (below_new w (.cells #[.int .i64 x.f0, .string x.f1, .int .i64 x.f2, .slice A3 x.f3.length c3, .slice A4 x.f4.length c4] 34))
        go_enter Try.func111, Try.ntmps111
        by_cases h1 : x.f1.toList = []
        · have t1 : (x.f1.toList == []) = true := by rw [h1]; rfl
          have H1 := Lib.hid h1
          clear h1
          by_cases h2 : 0 ≤ x.f2
          · have t2 : decide (x.f2 ≥ 0) = true := decide_eq_true h2
            have t2' : decide (0 ≤ x.f2) = true := decide_eq_true h2
            have H2 := Lib.hid h2
            clear h2
            by_cases h3 : x.f2 ≤ 999
            · have t3 : decide (x.f2 ≤ 999) = true := decide_eq_true h3
              have H3 := Lib.hid h3
              clear h3
              by_cases h4 : x.f3.length = 0
              · have t4 : ((x.f3.length : Int) == 0) = true := by rw [beq_iff_eq]; omega
                have H4 := Lib.hid h4
                clear h4
                by_cases h5 : x.f4.length = 0
                · have t5 : ((x.f4.length : Int) == 0) = true := by rw [beq_iff_eq]; omega
                  have H5 := Lib.hid h5
                  clear h5
                  go_wp2_with fail
                  go_ret
                  exact ⟨ret_b (pB_yes ((isOk2 K2.out).2 ⟨H1.out, H2.out, H3.out, H4.out, H5.out⟩)), B0.out⟩
                · have t5 : ((x.f4.length : Int) == 0) = false := by rw [beq_eq_false_iff_ne]; omega
                  have H5 := Lib.hid h5
                  clear h5
                  go_wp2_with fail
                  go_ret
                  exact ⟨ret_b (pB_no (fun h => H5.out ((isOk2 K2.out).1 h).2.2.2.2)), B0.out⟩
              · have t4 : ((x.f3.length : Int) == 0) = false := by rw [beq_eq_false_iff_ne]; omega
                have H4 := Lib.hid h4
                clear h4
                go_wp2_with fail
                go_ret
                exact ⟨ret_b (pB_no (fun h => H4.out ((isOk2 K2.out).1 h).2.2.2.1)), B0.out⟩
            · have t3 : decide (x.f2 ≤ 999) = false := decide_eq_false h3
              have H3 := Lib.hid h3
              clear h3
              go_wp2_with fail
              go_ret
              exact ⟨ret_b (pB_no (fun h => by have h1 := H3.out; have h2 := ((isOk2 K2.out).1 h).2.2.1; omega)), B0.out⟩
          · have t2 : decide (x.f2 ≥ 0) = false := decide_eq_false h2
            have t2' : decide (0 ≤ x.f2) = false := decide_eq_false h2
            have H2 := Lib.hid h2
            clear h2
            go_wp2_with fail
            go_ret
            exact ⟨ret_b (pB_no (fun h => by have h1 := H2.out; have h2 := ((isOk2 K2.out).1 h).2.1; omega)), B0.out⟩
        · have t1 : (x.f1.toList == []) = false := by rw [beq_eq_false_iff_ne]; exact h1
          have H1 := Lib.hid h1
          clear h1
          go_wp2_with fail
          go_ret
          exact ⟨ret_b (pB_no (fun h => H1.out ((isOk2 K2.out).1 h).1)), B0.out⟩
      · have e2 : (x.f0 == 2) = false := by simpa using k2
        have K2 := Lib.hid k2
        clear k2
        by_cases k3 : x.f0 = 3
        · have e3 : (x.f0 != 3) = false := by simpa using k3
          have e3' : (x.f0 == 3) = true := by simpa using k3
          have K3 := Lib.hid k3
          clear k3
          have B0 := Lib.hid (below_new w (.cells #[.int .i64 x.f0, .string x.f1, .int .i64 x.f2, .slice A3 x.f3.length c3, .slice A4 x.f4.length c4] 34))
          obtain ⟨p0, p1, p2, p3, p4⟩ := fm_cells (blk_new w (.cells #[.int .i64 x.f0, .string x.f1, .int .i64 x.f2, .slice A3 x.f3.length c3, .slice A4 x.f4.length c4] 34))
          clear p0 p1 p2 p3
          go_enter Try.func111, Try.ntmps111
          by_cases h1 : x.f1.toList = []
          · have t1 : (x.f1.toList != []) = false := by rw [h1]; rfl
            have t1' : (x.f1.toList == []) = true := by rw [h1]; rfl
            have H1 := Lib.hid h1
            clear h1
            by_cases h2 : x.f2 = 0
            · have t2 : (x.f2 != 0) = false := by simpa using h2
              have H2 := Lib.hid h2
              clear h2
              by_cases h4 : x.f3.length = 0
              · have t4 : ((x.f3.length : Int) != 0) = false := by simp [h4]
                have t4' : ((x.f3.length : Int) == 0) = true := by rw [beq_iff_eq]; omega
                have H4 := Lib.hid h4
                clear h4
                go_wp2_with fail
                go_loopg [5] x.f4.length (fun kq v5 w' => ∃ i : Nat, i ≤ x.f4.length ∧ x.f4.length - i ≤ kq ∧ v5 = .int .i64 i ∧ Aside0 (∀ j (h : j < x.f4.length), j < i → IsOk n x.f4[j]) ∧ Aside0 (Below (w.alloc (.cells #[.int .i64 x.f0, .string x.f1, .int .i64 x.f2, .slice A3 x.f3.length c3, .slice A4 x.f4.length c4] 34)).heap.size (w.alloc (.cells #[.int .i64 x.f0, .string x.f1, .int .i64 x.f2, .slice A3 x.f3.length c3, .slice A4 x.f4.length c4] 34)) w'))
                case atStart => exact ⟨0, Nat.zero_le _, by omega, rfl, ⟨fun j _ h => absurd h (by omega)⟩, ⟨Below.refl _ _⟩⟩
                case round =>
                  obtain ⟨i, hi, hg, rfl, HN, HW⟩ := hrel
                  have q4 := ck0 HW.out p4
                  have HW0 := Lib.hid (below_step B0.out HW.out)
                  by_cases hlt : i < x.f4.length
                  · obtain ⟨ad, G3, m3, G4, m4, e, g0, g1, g2, g3, g4, hk⟩ := kid_at (Kd.C_below HI.out.g4 HW0.out) i hlt
                    subst e
                    have HC := Lib.hid (IH.out x.f4[i] G3 m3 G4 m4 (m - 1) wr (by have := HM.out; omega) (by have := HM.out; omega) hk (kid_tot HT.out (List.getElem_mem hlt)))
                    clear hk
                    go_wp2_with fail
                    refine HC.out.mono ?_
                    rintro e w1 ⟨rfl, hb1⟩
                    have HB1 := Lib.hid hb1
                    clear hb1
                    cases he : pB (IsOk n x.f4[i]) with
                    | true =>
                      have HE := Lib.hid he
                      clear he
                      go_wp2_with fail
                      go_roundg (x.f4.length - (i + 1))
                      case measure => omega
                      case rel =>
                        refine ⟨i + 1, by omega, Nat.le_refl _, by go_num, ⟨fun j hj hji => ?_⟩, ⟨below_step HW.out HB1.out⟩⟩
                        rcases Nat.lt_or_ge j i with h | h
                        · exact HN.out j hj h
                        · obtain rfl : j = i := by omega
                          exact pB_iff.1 HE.out
                    | false =>
                      have HE := Lib.hid he
                      clear he
                      go_wp2_with fail
                      go_ret
                      refine ⟨ret_b (pB_no (fun h => ?_)), below_step HW0.out HB1.out⟩
                      have := pB_yes (((isOk3 K1.out K2.out).1 h).2.2.2.2 _ (List.getElem_mem hlt))
                      rw [HE.out] at this
                      cases this
                  · obtain rfl : i = x.f4.length := by omega
                    go_wp2_with fail
                    go_ret
                    refine ⟨ret_b (pB_yes ((isOk3 K1.out K2.out).2 ⟨K3.out, H1.out, H2.out, H4.out, fun k hk => ?_⟩)), HW0.out⟩
                    obtain ⟨j, hj, rfl⟩ := List.getElem_of_mem hk
                    exact HN.out j hj hj
              · have t4 : ((x.f3.length : Int) != 0) = true := by rw [bne_iff_ne]; omega
                have t4' : ((x.f3.length : Int) == 0) = false := by rw [beq_eq_false_iff_ne]; omega
                have H4 := Lib.hid h4
                clear h4
                go_wp2_with fail
                go_ret
                exact ⟨ret_b (pB_no (fun h => by have h1 := H4.out; have h2 := ((isOk3 K1.out K2.out).1 h).2.2.2.1; omega)), B0.out⟩
            · have t2 : (x.f2 != 0) = true := by simpa using h2
              have H2 := Lib.hid h2
              clear h2
              go_wp2_with fail
              go_ret
              exact ⟨ret_b (pB_no (fun h => H2.out ((isOk3 K1.out K2.out).1 h).2.2.1)), B0.out⟩
          · have t1 : (x.f1.toList != []) = true := by rw [bne_iff_ne]; exact h1
            have t1' : (x.f1.toList == []) = false := by rw [beq_eq_false_iff_ne]; exact h1
            have H1 := Lib.hid h1
            clear h1
            go_wp2_with fail
            go_ret
            exact ⟨ret_b (pB_no (fun h => H1.out ((isOk3 K1.out K2.out).1 h).2.1)), B0.out⟩
        · have e3 : (x.f0 != 3) = true := by simpa using k3
          have e3' : (x.f0 == 3) = false := by simpa using k3
          have K3 := Lib.hid k3
          clear k3
          have B0 := Lib.hid (below_new w (.cells #[.int .i64 x.f0, .string x.f1, .int .i64 x.f2, .slice A3 x.f3.length c3, .slice A4 x.f4.length c4] 34))
          go_enter Try.func111, Try.ntmps111
          go_wp2_with fail
          go_ret
          exact ⟨ret_b (pB_no (fun h => K3.out ((isOk3 K1.out K2.out).1 h).1)), B0.out⟩
def FmOk (x : Fm) : Prop := IsOk 40 x ∧ x.size ≤ 400
theorem specValid_any (x : Fm) (A3 : Option Addr) (c3 : Nat) (A4 : Option Addr) (c4 : Nat) (w : World) (hin : FmIn w x A3 c3 A4 c4) (ht : x.tot ≤ 1048576) :
    Calls Try.prog 82 #[.agg #[.int .i64 x.f0, .string x.f1, .int .i64 x.f2, .slice A3 x.f3.length c3, .slice A4 x.f4.length c4]] w (Ret w (.bool (pB (FmOk x)))) := by
  have hb := below_new w (.cells #[.int .i64 x.f0, .string x.f1, .int .i64 x.f2, .slice A3 x.f3.length c3, .slice A4 x.f4.length c4] 34)
  have HI := Lib.hid (l1Is_any 40 x A3 c3 A4 c4 40 _ rfl (by omega) (hin.below hb) ht)
  have hsz : x.size < 4611686018427387904 := by have := sizes_totL x; omega
  have HS := Lib.hid (fun W hb => l1Count_any x A3 c3 A4 c4 W (hin.below hb) hsz)
  clear hb hin
  go_enter Try.func82, Try.ntmps82
  go_wp2_with fail
  refine HI.out.mono ?_
  rintro e w1 ⟨rfl, hb1⟩
  obtain ⟨z1, b1⟩ := one_new hb1
  obtain ⟨p0, p1, p2, p3, p4⟩ := fm_cells z1
  have B1 := Lib.hid b1
  have HS1 := Lib.hid (HS.out _ b1)
  clear hb1 b1 HS
  cases hq : pB (IsOk 40 x) with
  | false =>
    have HQ := Lib.hid hq
    clear hq
    go_wp2_with fail
    go_ret
    exact ⟨ret_b (pB_no (fun h => by have := pB_yes h.1; rw [HQ.out] at this; cases this)), B1.out⟩
  | true =>
    have HQ := Lib.hid hq
    clear hq
    go_wp2_with fail
    refine HS1.out.mono ?_
    rintro e w2 ⟨rfl, hb2⟩
    have B2 := Lib.hid (below_step B1.out hb2)
    clear hb2
    by_cases h4 : x.size ≤ 400
    · have t1 : decide ((x.size : Int) ≤ 400) = true := decide_eq_true (by omega)
      have H4 := Lib.hid h4
      clear h4
      go_wp2_with fail
      go_ret
      exact ⟨ret_b (pB_yes ⟨pB_iff.1 HQ.out, H4.out⟩), B2.out⟩
    · have t1 : decide ((x.size : Int) ≤ 400) = false := decide_eq_false (by omega)
      have H4 := Lib.hid h4
      clear h4
      go_wp2_with fail
      go_ret
      exact ⟨ret_b (pB_no (fun h => by have h1 := H4.out; have h2 := h.2; omega)), B2.out⟩
end Go.Proofs.Ytlklclebjeeaaaa
end
section
namespace Go.Proofs.Ytlklclebjeeaaaa
set_option linter.unusedVariables false
set_option linter.unusedSimpArgs false
abbrev Srt (l : List Int) : Prop := l.Pairwise (· < ·)
abbrev takeO (l : List Int) (x : Int) : List Int := l.filter (fun y => !(y == x))
end Go.Proofs.Ytlklclebjeeaaaa
end
section
namespace Go.Proofs.Ytlklclebjeeaaaa
set_option linter.unusedVariables false
set_option linter.unusedSimpArgs false
mutual
/-- A form whose names have other scopes (what is no name has none). -/
def Fm.chS (g : List Int → List Int) : Fm → Fm
  | ⟨a, b, c, d, ks⟩ => ⟨a, b, c, if a = 1 then g d else [], chSL g ks⟩
def chSL (g : List Int → List Int) : List Fm → List Fm
  | [] => []
  | k :: ks => k.chS g :: chSL g ks
end
/-- A fact on all names within a form. -/
inductive AllNm (P : Fm → Prop) : Fm → Prop
  | mk (x : Fm) (h : x.f0 = 1 → P x) (hk : ∀ k, k ∈ x.f4 → AllNm P k) : AllNm P x
theorem AllNm.at {P : Fm → Prop} {x : Fm} (h : AllNm P x) : x.f0 = 1 → P x := by cases h; assumption
theorem AllNm.kid {P : Fm → Prop} {x : Fm} (h : AllNm P x) : ∀ k, k ∈ x.f4 → AllNm P k := by cases h; assumption
theorem AllNm.imp {P Q : Fm → Prop} (hi : ∀ x, P x → Q x) {x : Fm} (h : AllNm P x) : AllNm Q x := by
  induction h with
  | mk x h hk ih => exact ⟨x, fun e => hi x (h e), ih⟩
theorem AllNm.and {P Q : Fm → Prop} {x : Fm} (h : AllNm P x) (h2 : AllNm Q x) : AllNm (fun y => P y ∧ Q y) x := by
  induction h with
  | mk x h hk ih => exact ⟨x, fun e => ⟨h e, h2.at e⟩, fun k hk => ih k hk (h2.kid k hk)⟩
theorem AllNm.all {P : Fm → Prop} (h : ∀ x, P x) (x : Fm) : AllNm P x := by
  induction x using Fm.ind with
  | h x ih => exact ⟨x, fun _ => h x, ih⟩
/-- What AddScope, FlipScope, DropScope and DressLike return. -/
noncomputable def orN (x : Fm) : Fm × Bool := if pB (FmOk x) then (x, true) else (zFm, false)
noncomputable def reS (g : List Int → List Int) (n : Int) (x : Fm) : Fm × Bool := if pB (FmOk x ∧ 1 ≤ n ∧ n ≤ 99) then orN (x.chS g) else (zFm, false)
abbrev tupF (p : Fm × Bool) : Int × ByteArray × Int × List Int × List Fm × Bool := (p.1.f0, p.1.f1, p.1.f2, p.1.f3, p.1.f4, p.2)
end Go.Proofs.Ytlklclebjeeaaaa
end
section
namespace Go.Proofs.Ytlklclebjeeaaaa
open Go.RowKit Go.Proofs.YtlklclebjeeaaaaW.PrintWords Go.Proofs.YtlklclebjeeaaaaW.PrintLast Go.Proofs.YtlklclebjeeaaaaW.PrintMore
set_option linter.unusedVariables false
set_option linter.unusedSimpArgs false
def LeftAt (w : World) (g : Nat) (L : Int) : Prop := w.heap[g]? = some (.cells #[.int .i64 L] 3 (0, 0))
def OkPost (n : Nat) (x : Fm) (L : Int) (g : Nat) (w0 : World) (e : Ending) (w' : World) : Prop :=
  ∃ b, e = .returned (.bool b) ∧ (b = true ↔ IsOk n x ∧ (x.size : Int) ≤ L) ∧ Below w0.heap.size w0 w' ∧ (b = true → LeftAt w' g (L - x.size))
theorem okPost_no {n : Nat} {x : Fm} {L : Int} {g : Nat} {w0 w' : World} (h : ¬ (IsOk n x ∧ (x.size : Int) ≤ L)) (hb : Below w0.heap.size w0 w') : OkPost n x L g w0 (.returned (.bool false)) w' :=
  ⟨false, rfl, ⟨(fun h => nomatch h), (fun h2 => absurd h2 h)⟩, hb, (fun h => nomatch h)⟩
theorem okPost_yes {n : Nat} {x : Fm} {L : Int} {g : Nat} {w0 w' : World} (h : IsOk n x ∧ (x.size : Int) ≤ L) (hb : Below w0.heap.size w0 w') (hl : LeftAt w' g (L - x.size)) : OkPost n x L g w0 (.returned (.bool true)) w' :=
  ⟨true, rfl, ⟨fun _ => h, fun _ => rfl⟩, hb, fun _ => hl⟩
set_option maxHeartbeats 8000000 in
set_option maxRecDepth 100000 in
theorem formOk_any : ∀ (n : Nat) (x : Fm) (A3 : Option Addr) (c3 : Nat) (A4 : Option Addr) (c4 : Nat) (d L : Int) (g : Nat) (w0 w : World), d + n = 41 → 1 ≤ d → 0 ≤ L → L ≤ 400 → x.tot ≤ 1048576 → FmIn w0 x A3 c3 A4 c4 → Below w0.heap.size w0 w → w0.heap.size ≤ g → LeftAt w g L →
    Calls Try.prog 103 #[.agg #[.int .i64 x.f0, .string x.f1, .int .i64 x.f2, .slice A3 x.f3.length c3, .slice A4 x.f4.length c4], .int .i64 d, .pointer (some ⟨g, 0, none⟩)] w (OkPost n x L g w0) := by
  intro n
  induction n with
  | zero =>
    intro x A3 c3 A4 c4 d L g w0 w hd hd1 hL0 hL1 ht hin hb hg hl
    have hgw : g < w.heap.size := by
      rcases Nat.lt_or_ge g w.heap.size with h | h
      · exact h
      · unfold LeftAt at hl; rw [Array.getElem?_eq_none h] at hl; cases hl
    have ka := blk_below hl (below_new w (.cells #[.int .i64 x.f0, .string x.f1, .int .i64 x.f2, .slice A3 x.f3.length c3, .slice A4 x.f4.length c4] 34))
    have hk0 := (blk_cell ka 0).trans (show _ = some (Value.int .i64 L) from rfl)
    have hf0 := blk_frozen ka 0
    have ks := blk_below (blk_set hl 0 (.int .i64 (L - 1))) (below_new (w.setCell ⟨g, 0, none⟩ (.int .i64 (L - 1))) (.cells #[.int .i64 x.f0, .string x.f1, .int .i64 x.f2, .slice A3 x.f3.length c3, .slice A4 x.f4.length c4] 34))
    have hk1 := (blk_cell ks 0).trans (show _ = some (Value.int .i64 (L - 1)) from by simp)
    have HB := Lib.hid (below_step (Below.setCell hb (p := ⟨g, 0, none⟩) hg (.int .i64 (L - 1))) (below_new (w.setCell ⟨g, 0, none⟩ (.int .i64 (L - 1))) (.cells #[.int .i64 x.f0, .string x.f1, .int .i64 x.f2, .slice A3 x.f3.length c3, .slice A4 x.f4.length c4] 34)))
    have h40 : d > 40 := by omega
    have t2 : decide (d > 40) = true := decide_eq_true (by omega)
    have t2' : decide (40 < d) = true := decide_eq_true (by omega)
    clear hin ht hb hl ka ks hd
    by_cases h0 : L - 1 < 0
    · have t1 : decide (L - 1 < 0) = true := decide_eq_true h0
      clear h0
      go_enter Try.func103, Try.ntmps103
      go_wp2_with fail


      go_ret
      exact okPost_no (fun h => h.1) HB.out
    · have t1 : decide (L - 1 < 0) = false := decide_eq_false h0
      clear h0
      go_enter Try.func103, Try.ntmps103
      go_wp2_with fail
      go_ret
      exact okPost_no (fun h => h.1) HB.out
  | succ n ih =>
    intro x A3 c3 A4 c4 d L g w0 w hd hd1 hL0 hL1 ht hin hb hg hl
    have hgw : g < w.heap.size := by
      rcases Nat.lt_or_ge g w.heap.size with h | h
      · exact h
      · unfold LeftAt at hl; rw [Array.getElem?_eq_none h] at hl; cases hl
    have ka := blk_below hl (below_new w (.cells #[.int .i64 x.f0, .string x.f1, .int .i64 x.f2, .slice A3 x.f3.length c3, .slice A4 x.f4.length c4] 34))
    have hk0 := (blk_cell ka 0).trans (show _ = some (Value.int .i64 L) from rfl)
    have hf0 := blk_frozen ka 0
    have ks := blk_below (blk_set hl 0 (.int .i64 (L - 1))) (below_new (w.setCell ⟨g, 0, none⟩ (.int .i64 (L - 1))) (.cells #[.int .i64 x.f0, .string x.f1, .int .i64 x.f2, .slice A3 x.f3.length c3, .slice A4 x.f4.length c4] 34))
    have hk1 := (blk_cell ks 0).trans (show _ = some (Value.int .i64 (L - 1)) from by simp)
    have KS : LeftAt ((w.setCell ⟨g, 0, none⟩ (.int .i64 (L - 1))).alloc (.cells #[.int .i64 x.f0, .string x.f1, .int .i64 x.f2, .slice A3 x.f3.length c3, .slice A4 x.f4.length c4] 34)) g (L - 1) := by simpa [LeftAt] using ks
    have hz0 := blk_new (w.setCell ⟨g, 0, none⟩ (.int .i64 (L - 1))) (.cells #[.int .i64 x.f0, .string x.f1, .int .i64 x.f2, .slice A3 x.f3.length c3, .slice A4 x.f4.length c4] 34)
    rw [show (w.setCell ⟨g, 0, none⟩ (.int .i64 (L - 1))).heap.size = w.heap.size from by simp] at hz0
    have HB0 := below_step (Below.setCell hb (p := ⟨g, 0, none⟩) hg (.int .i64 (L - 1))) (below_new (w.setCell ⟨g, 0, none⟩ (.int .i64 (L - 1))) (.cells #[.int .i64 x.f0, .string x.f1, .int .i64 x.f2, .slice A3 x.f3.length c3, .slice A4 x.f4.length c4] 34))
    have HB := Lib.hid HB0
    have hsz := Fm.size_eq x
    have hmax := hin.g4.2.1
    by_cases h0 : L - 1 < 0
    · have t1 : decide (L - 1 < 0) = true := decide_eq_true h0
      have H0 := Lib.hid (show ¬ ((x.size : Int) ≤ L) by omega)
      clear h0 hin ht hb hl ka ks hd hsz hz0 HB0 ih KS
      go_enter Try.func103, Try.ntmps103
      go_wp2_with fail
      go_ret
      exact okPost_no (fun h => by have h1 := H0.out; have h2 := h.2; omega) HB.out
    have t1 : decide (L - 1 < 0) = false := decide_eq_false h0
    have hd40 : d ≤ 40 := by omega
    have t2 : decide (d > 40) = false := decide_eq_false (by omega)
    have t2' : decide (40 < d) = false := decide_eq_false (by omega)
    have HD := Lib.hid hd
    have HI := Lib.hid (hin.below HB0)
    have HI0 := Lib.hid hin
    have HT := Lib.hid ht
    have IH := Lib.hid ih
    have HSZ := Lib.hid hsz
    have HKS := Lib.hid KS
    have HZ0 := Lib.hid hz0
    have HNm := Lib.hid (implName_any x.f1 ((w.setCell ⟨g, 0, none⟩ (.int .i64 (L - 1))).alloc (.cells #[.int .i64 x.f0, .string x.f1, .int .i64 x.f2, .slice A3 x.f3.length c3, .slice A4 x.f4.length c4] 34)) (name_size ht))
    have HWi := Lib.hid (within_any x.f2 0 999 ((w.setCell ⟨g, 0, none⟩ (.int .i64 (L - 1))).alloc (.cells #[.int .i64 x.f0, .string x.f1, .int .i64 x.f2, .slice A3 x.f3.length c3, .slice A4 x.f4.length c4] 34)))
    clear hd hin ht ih hsz KS ks hb hl ka HB0
    by_cases k1 : x.f0 = 1
    · have e1 : (x.f0 == 1) = true := by simpa using k1
      have K1 := Lib.hid k1
      clear k1 HWi hz0
      go_enter Try.func103, Try.ntmps103
      go_wp2_with fail
      refine HNm.out.mono ?_
      rintro e w1 ⟨rfl, hb1⟩
      have z1 := blk_below HZ0.out hb1
      have l1 := blk_below HKS.out hb1
      obtain ⟨p0, p1, p2, p3, p4⟩ := fm_cells z1
      have B1 := Lib.hid (below_step HB.out hb1)
      have HS := Lib.hid (scopesOk_any x.f3 A3 c3 w1 (Kd.C_below HI0.out.g3 B1.out) HI0.out.l3)
      clear hb1
      cases hq : nmB x.f1 with
      | false =>
        have HQ := Lib.hid hq
        clear hq
        go_wp2_with fail
        go_ret
        exact okPost_no (fun h => by have := nmB_t ((isOk1 K1.out).1 h.1).1; rw [HQ.out] at this; cases this) B1.out
      | true =>
        have HQ := Lib.hid hq
        clear hq
        by_cases h2 : x.f2 = 0
        · have t3 : (x.f2 == 0) = true := by simpa using h2
          have H2 := Lib.hid h2
          clear h2
          go_wp2_with fail
          refine HS.out.mono ?_
          rintro e w2 ⟨rfl, hb2⟩
          have z2 := blk_below z1 hb2
          have L2 := Lib.hid (blk_below l1 hb2)
          have B2 := Lib.hid (below_step B1.out hb2)
          clear hb2 z1 l1 p0 p1 p2 p3 p4
          obtain ⟨p0, p1, p2, p3, p4⟩ := fm_cells z2
          cases hq : pB (ScOk x.f3) with
          | false =>
            have HQ2 := Lib.hid hq
            clear hq
            go_wp2_with fail
            go_ret
            exact okPost_no (fun h => by have := pB_yes ((isOk1 K1.out).1 h.1).2.2.1; rw [HQ2.out] at this; cases this) B2.out
          | true =>
            have HQ2 := Lib.hid hq
            clear hq
            by_cases h3 : x.f4.length = 0
            · have t4 : ((x.f4.length : Int) == 0) = true := by rw [beq_iff_eq]; omega
              have H3 := Lib.hid h3
              have H0 := Lib.hid h0
              clear h3 h0
              go_wp2_with fail
              go_ret
              have hs1 : x.size = 1 := by have h1 := HSZ.out; rw [List.length_eq_zero_iff.1 H3.out] at h1; exact h1
              have hc1 : (x.size : Int) = 1 := by omega
              exact okPost_yes ⟨(isOk1 K1.out).2 ⟨(nmB_iff _).1 HQ.out, H2.out, pB_iff.1 HQ2.out, H3.out⟩, by have := H0.out; omega⟩ B2.out (by rw [hc1]; exact L2.out)
            · have t4 : ((x.f4.length : Int) == 0) = false := by rw [beq_eq_false_iff_ne]; omega
              have H3 := Lib.hid h3
              clear h3
              go_wp2_with fail
              go_ret
              exact okPost_no (fun h => H3.out ((isOk1 K1.out).1 h.1).2.2.2) B2.out
        · have t3 : (x.f2 == 0) = false := by simpa using h2
          have H2 := Lib.hid h2
          clear h2
          go_wp2_with fail
          go_ret
          exact okPost_no (fun h => H2.out ((isOk1 K1.out).1 h.1).2.1) B1.out
    have e1 : (x.f0 == 1) = false := by simpa using k1
    have K1 := Lib.hid k1
    clear k1 HNm
    obtain ⟨p0, p1, p2, p3, p4⟩ := fm_cells hz0
    by_cases k2 : x.f0 = 2
    · have e2 : (x.f0 == 2) = true := by simpa using k2
      have K2 := Lib.hid k2
      clear k2 hz0
      go_enter Try.func103, Try.ntmps103
      by_cases h1 : x.f1.toList = []
      · have t3 : (x.f1.toList == []) = true := by rw [h1]; rfl
        have H1 := Lib.hid h1
        clear h1
        go_wp2_with fail
        refine HWi.out.mono ?_
        rintro e w1 ⟨rfl, hb1⟩
        have z1 := blk_below HZ0.out hb1
        have L1 := Lib.hid (blk_below HKS.out hb1)
        have B1 := Lib.hid (below_step HB.out hb1)
        clear hb1 p0 p1 p2 p3 p4
        obtain ⟨p0, p1, p2, p3, p4⟩ := fm_cells z1
        by_cases h2 : 0 ≤ x.f2 ∧ x.f2 ≤ 999
        · rw [decide_eq_true h2]
          have H2 := Lib.hid h2
          clear h2
          by_cases h4 : x.f3.length = 0
          · have t4 : ((x.f3.length : Int) == 0) = true := by rw [beq_iff_eq]; omega
            have H4 := Lib.hid h4
            clear h4
            by_cases h5 : x.f4.length = 0
            · have t5 : ((x.f4.length : Int) == 0) = true := by rw [beq_iff_eq]; omega
              have H5 := Lib.hid h5
              have H0 := Lib.hid h0
              clear h5 h0
              go_wp2_with fail
              go_ret
              have hs1 : x.size = 1 := by have h1 := HSZ.out; rw [List.length_eq_zero_iff.1 H5.out] at h1; exact h1
              have hc1 : (x.size : Int) = 1 := by omega
              exact okPost_yes ⟨(isOk2 K2.out).2 ⟨H1.out, H2.out.1, H2.out.2, H4.out, H5.out⟩, by have := H0.out; omega⟩ B1.out (by rw [hc1]; exact L1.out)
            · have t5 : ((x.f4.length : Int) == 0) = false := by rw [beq_eq_false_iff_ne]; omega
              have H5 := Lib.hid h5
              clear h5
              go_wp2_with fail
              go_ret
              exact okPost_no (fun h => H5.out ((isOk2 K2.out).1 h.1).2.2.2.2) B1.out
          · have t4 : ((x.f3.length : Int) == 0) = false := by rw [beq_eq_false_iff_ne]; omega
            have H4 := Lib.hid h4
            clear h4
            go_wp2_with fail
            go_ret
            exact okPost_no (fun h => H4.out ((isOk2 K2.out).1 h.1).2.2.2.1) B1.out
        · rw [decide_eq_false h2]
          have H2 := Lib.hid h2
          clear h2
          go_wp2_with fail
          go_ret
          exact okPost_no (fun h => H2.out ⟨((isOk2 K2.out).1 h.1).2.1, ((isOk2 K2.out).1 h.1).2.2.1⟩) B1.out
      · have t3 : (x.f1.toList == []) = false := by rw [beq_eq_false_iff_ne]; exact h1
        have H1 := Lib.hid h1
        clear h1
        go_wp2_with fail
        go_ret
        exact okPost_no (fun h => H1.out ((isOk2 K2.out).1 h.1).1) HB.out
    have e2 : (x.f0 == 2) = false := by simpa using k2
    have K2 := Lib.hid k2
    clear k2 HWi
    by_cases k3 : x.f0 = 3
    · have e3 : (x.f0 == 3) = true := by simpa using k3
      have K3 := Lib.hid k3
      clear k3
      go_enter Try.func103, Try.ntmps103
      by_cases h1 : x.f1.toList = []
      · have t3 : (x.f1.toList != []) = false := by rw [h1]; rfl
        have t3' : (x.f1.toList == []) = true := by rw [h1]; rfl
        have H1 := Lib.hid h1
        clear h1
        by_cases h2 : x.f2 = 0
        · have t4 : (x.f2 != 0) = false := by simpa using h2
          have H2 := Lib.hid h2
          clear h2
          by_cases h4 : x.f3.length = 0
          · have t5 : decide ((x.f3.length : Int) > 0) = false := decide_eq_false (by omega)
            have t5' : decide ((0 : Int) < (x.f3.length : Int)) = false := decide_eq_false (by omega)
            have t5'' : decide (0 < x.f3.length) = false := decide_eq_false (by omega)
            have H4 := Lib.hid h4
            clear h4
            go_wp2_with fail
            go_loopg [8, 86] x.f4.length (fun kq v8 v86 w' => ∃ i : Nat, i ≤ x.f4.length ∧ x.f4.length - i ≤ kq ∧ v86 = .int .i64 i ∧ Aside0 (∀ j (h : j < x.f4.length), j < i → IsOk n x.f4[j]) ∧ Aside0 (Below w0.heap.size w0 w') ∧ Aside0 (LeftAt w' g (L - 1 - sizes (x.f4.take i))) ∧ Aside0 (0 ≤ L - 1 - (sizes (x.f4.take i) : Int)))
            case atStart => exact ⟨0, Nat.zero_le _, by omega, rfl, ⟨fun j _ h => absurd h (by omega)⟩, ⟨HB.out⟩, ⟨by simpa [sizes] using HKS.out⟩, ⟨by simp [sizes]; omega⟩⟩
            case round =>
              obtain ⟨i, hi, hg2, rfl, HN, HW, HL, HP⟩ := hrel
              by_cases hlt : i < x.f4.length
              · obtain ⟨ad, G3, m3, G4, m4, e, g0, g1, g2, g3, g4, hk⟩ := kid_at HI0.out.g4 i hlt
                subst e
                have q0 := ck0 HW.out g0
                have q1 := ck0 HW.out g1
                have q2 := ck0 HW.out g2
                have q3 := ck0 HW.out g3
                have q4 := ck0 HW.out g4
                have hst := sizes_take x.f4 i hlt
                have hle := sizes_take_le x.f4 (i + 1)
                have hP := HP.out
                have hfr : w0.heap.size ≤ wr.heap.size := HW.out.size
                have HC := Lib.hid (IH.out x.f4[i] G3 m3 G4 m4 (d + 1) (L - 1 - (sizes (x.f4.take i) : Int)) g w0 (wr.alloc (.cells #[.int .i64 x.f4[i].f0, .string x.f4[i].f1, .int .i64 x.f4[i].f2, .slice G3 x.f4[i].f3.length m3, .slice G4 x.f4[i].f4.length m4] 34)) (by have := HD.out; omega) (by omega) hP (by omega) (kid_tot HT.out (List.getElem_mem hlt)) hk (below_step HW.out (below_new _ _)) hg (blk_below HL.out (below_new _ _)))
                have HST := Lib.hid hst
                have HLE := Lib.hid hle
                clear hk g0 g1 g2 g3 g4 hst hle hP hfr
                go_wp2_with fail
                refine HC.out.mono ?_
                intro e w1 hpost
                obtain ⟨b, rfl, hiff, hb1, hl1⟩ := hpost
                have HF := Lib.hid hiff
                have HB1 := Lib.hid hb1
                have HL1 := Lib.hid hl1
                clear hiff hb1 hl1
                cases b with
                | true =>
                  go_wp2_with fail
                  go_roundg (x.f4.length - (i + 1))
                  case measure => omega
                  case rel =>
                    have h1 := HST.out
                    have h2 := HF.out.1 (by simp)
                    have h3 := HL1.out (by simp)
                    refine ⟨i + 1, by omega, Nat.le_refl _, by go_num, ⟨fun j hj hji => ?_⟩, ⟨HB1.out⟩, ⟨?_⟩, ⟨by rw [h1]; omega⟩⟩
                    · rcases Nat.lt_or_ge j i with h | h
                      · exact HN.out j hj h
                      · obtain rfl : j = i := by omega
                        exact h2.1
                    · rw [h1, show L - 1 - ((sizes (x.f4.take i) + x.f4[i].size : Nat) : Int) = L - 1 - (sizes (x.f4.take i) : Int) - (x.f4[i].size : Int) from by omega]
                      exact h3
                | false =>
                  go_wp2_with fail
                  go_ret
                  refine okPost_no (fun h => ?_) HB1.out
                  have h1 := HF.out.2 ⟨((isOk3 K1.out K2.out).1 h.1).2.2.2.2 _ (List.getElem_mem hlt), by have h1 := HST.out; have h2 := HLE.out; have h3 := HSZ.out; have h4 := h.2; omega⟩
                  cases h1
              · obtain rfl : i = x.f4.length := by omega
                go_wp2_with fail
                go_ret
                have hsum : (x.size : Int) = 1 + (sizes x.f4 : Int) := by have := HSZ.out; omega
                have hP := HP.out
                have hL := HL.out
                rw [List.take_length] at hP hL
                refine okPost_yes ⟨(isOk3 K1.out K2.out).2 ⟨K3.out, H1.out, H2.out, H4.out, fun k hk => ?_⟩, by omega⟩ HW.out (by rw [show L - (x.size : Int) = L - 1 - (sizes x.f4 : Int) from by omega]; exact hL)
                obtain ⟨j, hj, rfl⟩ := List.getElem_of_mem hk
                exact HN.out j hj hj
          · have t5 : decide ((x.f3.length : Int) > 0) = true := decide_eq_true (by omega)
            have t5' : decide ((0 : Int) < (x.f3.length : Int)) = true := decide_eq_true (by omega)
            have t5'' : decide (0 < x.f3.length) = true := decide_eq_true (by omega)
            have H4 := Lib.hid h4
            clear h4
            go_wp2_with fail
            go_ret
            exact okPost_no (fun h => H4.out ((isOk3 K1.out K2.out).1 h.1).2.2.2.1) HB.out
        · have t4 : (x.f2 != 0) = true := by simpa using h2
          have H2 := Lib.hid h2
          clear h2
          go_wp2_with fail
          go_ret
          exact okPost_no (fun h => H2.out ((isOk3 K1.out K2.out).1 h.1).2.2.1) HB.out
      · have t3 : (x.f1.toList != []) = true := by rw [bne_iff_ne]; exact h1
        have t3' : (x.f1.toList == []) = false := by rw [beq_eq_false_iff_ne]; exact h1
        have H1 := Lib.hid h1
        clear h1
        go_wp2_with fail
        go_ret
        exact okPost_no (fun h => H1.out ((isOk3 K1.out K2.out).1 h.1).2.1) HB.out
    have e3 : (x.f0 == 3) = false := by simpa using k3
    have K3 := Lib.hid k3
    clear k3
    go_enter Try.func103, Try.ntmps103
    go_wp2_with fail
    go_ret
    exact okPost_no (fun h => K3.out ((isOk3 K1.out K2.out).1 h.1).1) HB.out
theorem implValid_any (x : Fm) (A3 : Option Addr) (c3 : Nat) (A4 : Option Addr) (c4 : Nat) (w : World) (hin : FmIn w x A3 c3 A4 c4) (ht : x.tot ≤ 1048576) :
    Calls Try.prog 72 #[.agg #[.int .i64 x.f0, .string x.f1, .int .i64 x.f2, .slice A3 x.f3.length c3, .slice A4 x.f4.length c4]] w (Ret w (.bool (pB (FmOk x)))) := by
  have hb := below_step (below_new w (.cells #[.int .i64 x.f0, .string x.f1, .int .i64 x.f2, .slice A3 x.f3.length c3, .slice A4 x.f4.length c4] 34)) (below_new _ (.cells #[.int .i64 400] 3))
  have hl := blk_new (w.alloc (.cells #[.int .i64 x.f0, .string x.f1, .int .i64 x.f2, .slice A3 x.f3.length c3, .slice A4 x.f4.length c4] 34)) (.cells #[.int .i64 400] 3)
  rw [show (w.alloc (.cells #[.int .i64 x.f0, .string x.f1, .int .i64 x.f2, .slice A3 x.f3.length c3, .slice A4 x.f4.length c4] 34)).heap.size = w.heap.size + 1 from by simp] at hl
  have HC := Lib.hid (formOk_any 40 x A3 c3 A4 c4 1 400 (w.heap.size + 1) w _ (by omega) (by omega) (by omega) (by omega) ht hin hb (by omega) hl)
  clear hin ht hb hl
  go_enter Try.func72, Try.ntmps72
  go_wp2_with fail
  refine HC.out.mono ?_
  intro e w1 hpost
  obtain ⟨b, rfl, hiff, hb1, hl1⟩ := hpost
  have hv : b = pB (FmOk x) := pB_of ⟨fun h => ⟨(hiff.1 h).1, by have := (hiff.1 h).2; omega⟩, fun h => hiff.2 ⟨h.1, by have := h.2; omega⟩⟩
  have HV := Lib.hid hv
  have HB1 := Lib.hid hb1
  clear hiff hb1 hl1 hv HC
  go_wp2_with fail
  go_ret
  exact ⟨ret_b HV.out, HB1.out⟩
end Go.Proofs.Ytlklclebjeeaaaa
end
section
namespace Go.Proofs.Ytlklclebjeeaaaa
open Go.RowKit Go.Proofs.YtlklclebjeeaaaaW.PrintWords Go.Proofs.YtlklclebjeeaaaaW.PrintLast Go.Proofs.YtlklclebjeeaaaaW.PrintMore
set_option linter.unusedVariables false
set_option linter.unusedSimpArgs false
def IsName (x : Fm) : Prop := x.f0 = 1 ∧ FmOk x
def SmName (x y : Fm) : Prop := FmOk x ∧ FmOk y ∧ x.f0 = 1 ∧ x = y
end Go.Proofs.Ytlklclebjeeaaaa
end
section
namespace Go.Proofs.Ytlklclebjeeaaaa
set_option linter.unusedVariables false
set_option linter.unusedSimpArgs false
/-- Binding i of a list. -/
def bdAt (l : List Bd) (i : Nat) : Bd := l.getD i zBd
theorem bdAt_eq {l : List Bd} {i : Nat} (h : i < l.length) : bdAt l i = l[i] := by
  show l.getD i zBd = _
  rw [List.getD_eq_getElem?_getD, List.getElem?_eq_getElem h]; rfl
/-- A binding fits a name. -/
def fitsB (x : Fm) (b : Bd) : Bool := decide (b.f0.toList = x.f1.toList) && decide (∀ s, s ∈ b.f1 → s ∈ x.f3)
/-- The places of the bindings, of the first n, that fit. -/
def fitI (l : List Bd) (x : Fm) (n : Nat) : List Int := ((List.range n).filter (fun i => fitsB x (bdAt l i))).map (fun i : Nat => (i : Int))
abbrev fitL (l : List Bd) (x : Fm) : List Int := fitI l x l.length
/-- The scopes of the binding at place j are among those of the one at place m. -/
def subI (l : List Bd) (j m : Int) : Bool := decide (∀ s, s ∈ (bdAt l j.toNat).f1 → s ∈ (bdAt l m.toNat).f1)
/-- All of the first n places lead to bindings whose scopes are among those of place m. -/
def bestI (l : List Bd) (f : List Int) (m : Int) (n : Nat) : Bool := (f.take n).all (fun j => subI l j m)
abbrev bestL (l : List Bd) (f : List Int) (m : Int) : Bool := bestI l f m f.length
/-- The place of the closest binding, and how looking for it ends: 1 one, 2 many, 0 none. -/
def boundR (l : List Bd) (x : Fm) : Int × Int := match (fitL l x).find? (bestL l (fitL l x)) with
  | some m => (m, 1)
  | none => (0, if fitL l x = [] then 0 else 2)
noncomputable def findR (l : List Bd) (x : Fm) : Int × Int := if pB (BdsOk l ∧ IsName x) = true then (if (boundR l x).2 = 1 then ((bdAt l (boundR l x).1.toNat).f2, 1) else (0, (boundR l x).2)) else (0, 0)
noncomputable def fittingR (l : List Bd) (x : Fm) : List Int := if pB (BdsOk l ∧ IsName x) = true then fitL l x else []
noncomputable def hiddenR (l : List Bd) (x : Fm) : List Int := if pB (BdsOk l ∧ IsName x) = true then (if (boundR l x).2 = 1 then (fitL l x).filter (fun j => !(j == (boundR l x).1)) else []) else []
noncomputable def addBindR (l : List Bd) (x : Fm) (id : Int) : List Bd × Bool := if pB (BdsOk l ∧ IsName x) = true then (if pB (BdsOk (l ++ [⟨x.f1, x.f3, id⟩])) = true then (l ++ [⟨x.f1, x.f3, id⟩], true) else ([], false)) else ([], false)
/-- Two names stand for the same. -/
def refB (p q : Int × Int) (x y : Fm) : Bool := (p.2 == 1 && q.2 == 1 && p.1 == q.1) || (p.2 == 0 && q.2 == 0 && decide (x.f1.toList = y.f1.toList))
noncomputable def sameR (l : List Bd) (x y : Fm) : Bool := pB (BdsOk l ∧ IsName x ∧ IsName y) && refB (findR l x) (findR l y) x y
/-! Valid lists. -/
theorem sameB_iff {b c : Bd} : sameB b c = true ↔ c.f0.toList = b.f0.toList ∧ c.f1 = b.f1 := by
  unfold sameB; rw [Bool.and_eq_true, decide_eq_true_iff, decide_eq_true_iff]
theorem bdsOk_iff {l : List Bd} : BdsOk l ↔ l.length ≤ 60 ∧ (∀ b, b ∈ l → BdOk b) ∧ l.Pairwise (fun b c => ¬ (b.f0.toList = c.f0.toList ∧ b.f1 = c.f1)) := by
  unfold BdsOk BdAt
  constructor
  · rintro ⟨h1, h2⟩
    refine ⟨h1, fun b hb => ?_, List.pairwise_iff_getElem.2 (fun i j hi hj hij he => ?_)⟩
    · obtain ⟨i, hi, rfl⟩ := List.getElem_of_mem hb
      exact (h2 i hi).1
    · have h3 := (h2 j hj).2
      rw [List.any_eq_false] at h3
      exact h3 l[i] (List.mem_take_iff_getElem.2 ⟨i, by omega, rfl⟩) (sameB_iff.2 he)
  · rintro ⟨h1, h2, h3⟩
    refine ⟨h1, fun i hi => ⟨h2 _ (List.getElem_mem hi), ?_⟩⟩
    rw [List.any_eq_false]
    intro b hb he
    obtain ⟨j, hj, rfl⟩ := List.mem_take_iff_getElem.1 hb
    exact (List.pairwise_iff_getElem.1 h3) j i (by omega) hi (by omega) (sameB_iff.1 he)
/-- A binding that fits, and whose scopes hold those of all that fit. -/
structure Best (l : List Bd) (x : Fm) (b : Bd) : Prop where
  mem : b ∈ l
  fits : fitsB x b = true
  top : ∀ c, c ∈ l → fitsB x c = true → ∀ s, s ∈ c.f1 → s ∈ b.f1
end Go.Proofs.Ytlklclebjeeaaaa
end
section
namespace Go.Proofs.Ytlklclebjeeaaaa
open Go.RowKit Go.Proofs.YtlklclebjeeaaaaW.PrintWords
set_option linter.unusedVariables false
theorem Ev.some {α : Type} {o : Option α} {r : α} (h : o = some r) : Ev (fun _ => o) r := ⟨0, fun _ _ => h⟩
theorem Ev.pos {α : Type} {c : Prop} [Decidable c] {a b : Nat → Option α} {r : α} (h : c) (e : Ev a r) : Ev (fun k => if c then a k else b k) r := by
  simp only [if_pos h]; exact e
theorem Ev.neg {α : Type} {c : Prop} [Decidable c] {a b : Nat → Option α} {r : α} (h : ¬ c) (e : Ev b r) : Ev (fun k => if c then a k else b k) r := by
  simp only [if_neg h]; exact e
theorem ev_loop {R S : Type} {L : Nat → S → Option R} (Inv : Nat → S → Prop) (n : Nat) (Post : R → Prop)
    (hs : ∀ i s, i < n → Inv i s → ∃ s', Inv (i + 1) s' ∧ ∀ r, Ev (fun k => L k s') r → Ev (fun k => L k s) r)
    (he : ∀ s, Inv n s → ∃ r, Post r ∧ Ev (fun k => L k s) r) : ∀ s, Inv 0 s → ∃ r, Post r ∧ Ev (fun k => L k s) r := by
  have key : ∀ m i s, i + m = n → Inv i s → ∃ r, Post r ∧ Ev (fun k => L k s) r := by
    intro m
    induction m with
    | zero => intro i s hi h; obtain rfl : i = n := by omega
              exact he s h
    | succ m ih =>
      intro i s hi h
      obtain ⟨s', h', hk⟩ := hs i s (by omega) h
      obtain ⟨r, hp, hr⟩ := ih (i + 1) s' (by omega) h'
      exact ⟨r, hp, hk r hr⟩
  exact fun s h => key n 0 s (by omega) h
theorem wr1 (i : Nat) (h : i < 4611686018427387904) : wrap64 ((i : Int) + 1) = ((i + 1 : Nat) : Int) := by
  rw [Go.IntWalk.wrap64_in _ ⟨by omega, by omega⟩]; omega
end Go.Proofs.Ytlklclebjeeaaaa
end
section
namespace Go.Proofs.Ytlklclebjeeaaaa
open Go.RowKit Go.Proofs.YtlklclebjeeaaaaW.PrintWords Go.Proofs.YtlklclebjeeaaaaW.PrintLast Go.Proofs.YtlklclebjeeaaaaW.PrintMore
set_option linter.unusedVariables false
set_option linter.unusedSimpArgs false
abbrev kS : Kd ByteArray := Kd.string
instance decMemB (n : ByteArray) (xs : List ByteArray) : Decidable (n ∈ xs) := @List.instDecidableMemOfLawfulBEq ByteArray instBEqOfDecidableEq _ n xs
end Go.Proofs.Ytlklclebjeeaaaa
end
section
namespace Go.Proofs.Ytlklclebjeeaaaa
open Go.RowKit Go.Proofs.YtlklclebjeeaaaaW.PrintWords Go.Proofs.YtlklclebjeeaaaaW.PrintLast Go.Proofs.YtlklclebjeeaaaaW.PrintMore
set_option linter.unusedVariables false
set_option linter.unusedSimpArgs false
/-- A row of numbers in new memory is handed back. -/
def RetI (w : World) (xs : List Int) (e : Ending) (w' : World) : Prop := ∃ v, e = .returned v ∧ kI.R 3 w' w.heap.size (fun _ => True) v xs ∧ Below w.heap.size w w'
set_option maxHeartbeats 1000000 in
theorem cloneI_any (xs : List Int) (A : Option Addr) (c : Nat) (w : World) (hr : kI.C w A xs.length xs) (hc : xs.length ≤ c) (hs : xs.length ≤ 17592186044416) :
    Calls Try.prog 61 #[.slice A xs.length c] w (RetI w xs) := by
  have hmax := hr.2.1
  cases A with
  | none =>
    have hz : xs = [] := by
      rcases hr.2.2 with h
      by_cases hp : 0 < xs.length
      · obtain ⟨ad, he, _⟩ := h hp
        cases he
      · exact List.eq_nil_of_length_eq_zero (by omega)
    subst hz
    have hq := fun w => Go.run_eql_slice_nil (P := Try.prog) w 23 3 none 0 c Try.underlying23
    simp only [Option.isNone_none] at hq
    clear hr hmax
    go_enter Try.func61, Try.ntmps61
    go_wp2_with fail
    go_ret
    exact ⟨_, rfl, Kd.R_nil _ _ _ _ _, Below.refl _ _⟩
  | some ad =>
    have hq := fun w => Go.run_eql_slice_nil (P := Try.prog) w 23 3 (some ad) xs.length c Try.underlying23
    simp only [Option.isNone_some] at hq
    have HR := Aside0.mk hr
    clear hr
    go_enter Try.func61, Try.ntmps61
    go_wp2_with (first | ((with_reducible refine gate_dst (N := 5) rfl ?_); refine Kd.R_lit (Kd.int .i64) _ 3 ?hg (N := 5) ?hd (xs := ([] : List Int)) (inner := []) (ok := fun _ => True) (okp := fun _ => True) ?hr ?hp (fun _ hk => hk) trivial (Below.refl _ _) (Nat.le_refl _) (by simp) ?_; (case hd => rfl); (case hg => rfl); (case hr => first | (go_simp; done) | (go_simp; rfl)); (case hp => exact (Reps.none _ _)); intro v0 w0 ho0 hb0 hg0 hn0; have HO := Aside0.mk ho0; have HB := Aside0.mk hb0; clear ho0 hb0 hg0 hn0) | ((with_reducible refine gate_dst (N := 7) rfl ?_); refine Kd.R_append_row (Value.int .i64) (0 : Int) (w0 := w) w.heap.size rfl (.tmp 5) (.tmp 6) 23 3 (.int .i64 0) 8 rfl Try.underlying23 infoI rfl (by decide) v0 [] xs (some ad) xs.length c (fun _ => True) rfl rfl (fun _ _ => trivial) HO.out (Kd.C_below HR.out HB.out) HB.out HB.out.size (by simp; omega) ?_; intro v1 w1 ho1 hb1 hg1 hn1; have HO1 := Aside0.mk ho1; have HB1 := Aside0.mk hb1; clear ho1 hb1 hg1 hn1))
    go_ret
    exact ⟨_, rfl, (by have := HO1.out; rw [List.nil_append] at this; exact this), HB1.out⟩
end Go.Proofs.Ytlklclebjeeaaaa
end
section
namespace Go.Proofs.Ytlklclebjeeaaaa.Q
open Go.RowKit Go.Proofs.YtlklclebjeeaaaaW.PrintWords Go.Proofs.YtlklclebjeeaaaaW.PrintLast Go.Proofs.YtlklclebjeeaaaaW.PrintMore
set_option linter.unusedVariables false
set_option linter.unusedSimpArgs false

/-! ### spec_NameValid: function 79, proved by hand -/
noncomputable def spec_NameValid.f (a0 : ByteArray) : Option (Bool) := gIf (a0.size ≤ 140737488351232) (nmB a0)
set_option maxRecDepth 100000 in
theorem spec_NameValid.calls (a0 : ByteArray) (r : Bool) (w : World)  (h : spec_NameValid.f a0 = some r) :
    Calls Try.prog 79 #[.string a0] w fun e w' => e = .returned (.bool r) ∧ Below w.heap.size w w' := by
  obtain ⟨ht, rfl⟩ := gIf_some h
  exact specName_any a0 w ht

/-! ### spec_l1Scopes: function 80, proved by hand -/
noncomputable def spec_l1Scopes.f (l0 : List Int) : Option (Bool) := some (pB (ScOk l0))
set_option maxRecDepth 100000 in
theorem spec_l1Scopes.calls (A0 : Option Addr) (c0 : Nat) (l0 : List Int) (r : Bool) (w : World) (hr0 : Kd.C (Kd.int .i64) w A0 l0.length l0) (hc0 : l0.length ≤ c0) (h : spec_l1Scopes.f l0 = some r) :
    Calls Try.prog 80 #[.slice A0 l0.length c0] w fun e w' => e = .returned (.bool r) ∧ Below w.heap.size w w' := by
  obtain rfl := Option.some.inj h
  exact l1Scopes_any l0 A0 c0 w hr0 hc0

/-! ### spec_l1Ints: function 81, proved by hand -/
noncomputable def spec_l1Ints.f (l0 : List Int) (l1 : List Int) : Option (Bool) := some (decide (l0 = l1))
set_option maxRecDepth 100000 in
theorem spec_l1Ints.calls (A0 : Option Addr) (c0 : Nat) (l0 : List Int) (A1 : Option Addr) (c1 : Nat) (l1 : List Int) (r : Bool) (w : World) (hr0 : Kd.C (Kd.int .i64) w A0 l0.length l0) (hc0 : l0.length ≤ c0) (hr1 : Kd.C (Kd.int .i64) w A1 l1.length l1) (hc1 : l1.length ≤ c1) (h : spec_l1Ints.f l0 l1 = some r) :
    Calls Try.prog 81 #[.slice A0 l0.length c0, .slice A1 l1.length c1] w fun e w' => e = .returned (.bool r) ∧ Below w.heap.size w w' := by
  obtain rfl := Option.some.inj h
  exact l1Ints_any l0 l1 A0 A1 c0 c1 w hr0 hc0 hr1 hc1

/-! ### spec_FormValid: function 82, proved by hand -/
noncomputable def spec_FormValid.f (a0_0 : Int) (a0_1 : ByteArray) (a0_2 : Int) (l0_3 : List Int) (l0_4 : List (S34)) : Option (Bool) := gIf ((⟨a0_0, a0_1, a0_2, l0_3, l0_4⟩ : Fm).tot ≤ 1048576) (pB (FmOk (⟨a0_0, a0_1, a0_2, l0_3, l0_4⟩ : Fm)))
set_option maxRecDepth 100000 in
theorem spec_FormValid.calls (a0_0 : Int) (a0_1 : ByteArray) (a0_2 : Int) (A0_3 : Option Addr) (c0_3 : Nat) (l0_3 : List Int) (A0_4 : Option Addr) (c0_4 : Nat) (l0_4 : List (S34)) (r : Bool) (w : World) (hr0_3 : Kd.C (Kd.int .i64) w A0_3 l0_3.length l0_3) (hc0_3 : l0_3.length ≤ c0_3) (hr0_4 : Kd.C k34 w A0_4 l0_4.length l0_4) (hc0_4 : l0_4.length ≤ c0_4) (h : spec_FormValid.f a0_0 a0_1 a0_2 l0_3 l0_4 = some r) :
    Calls Try.prog 82 #[.agg #[.int .i64 a0_0, .string a0_1, .int .i64 a0_2, .slice A0_3 l0_3.length c0_3, .slice A0_4 l0_4.length c0_4]] w fun e w' => e = .returned (.bool r) ∧ Below w.heap.size w w' := by
  obtain ⟨ht, rfl⟩ := gIf_some h
  exact specValid_any (⟨a0_0, a0_1, a0_2, l0_3, l0_4⟩ : Fm) A0_3 c0_3 A0_4 c0_4 w ⟨hc0_3, hr0_3, hc0_4, hr0_4⟩ ht

/-! ### spec_l2Has: function 113, proved by hand -/
noncomputable def spec_l2Has.f (l0 : List Int) (a1 : Int) : Option (Bool) := some (decide (a1 ∈ l0))
set_option maxRecDepth 100000 in
theorem spec_l2Has.calls (A0 : Option Addr) (c0 : Nat) (l0 : List Int) (a1 : Int) (r : Bool) (w : World) (hr0 : Kd.C (Kd.int .i64) w A0 l0.length l0) (hc0 : l0.length ≤ c0) (h : spec_l2Has.f l0 a1 = some r) :
    Calls Try.prog 113 #[.slice A0 l0.length c0, .int .i64 a1] w fun e w' => e = .returned (.bool r) ∧ Below w.heap.size w w' := by
  obtain rfl := Option.some.inj h
  exact l2Has_any l0 a1 A0 c0 w hr0 hc0

/-! ### spec_ScopesWithin: function 83, proved by hand -/
noncomputable def spec_ScopesWithin.f (l0 : List Int) (l1 : List Int) : Option (Bool) := some (decide (∀ x, x ∈ l0 → x ∈ l1))
set_option maxRecDepth 100000 in
theorem spec_ScopesWithin.calls (A0 : Option Addr) (c0 : Nat) (l0 : List Int) (A1 : Option Addr) (c1 : Nat) (l1 : List Int) (r : Bool) (w : World) (hr0 : Kd.C (Kd.int .i64) w A0 l0.length l0) (hc0 : l0.length ≤ c0) (hr1 : Kd.C (Kd.int .i64) w A1 l1.length l1) (hc1 : l1.length ≤ c1) (h : spec_ScopesWithin.f l0 l1 = some r) :
    Calls Try.prog 83 #[.slice A0 l0.length c0, .slice A1 l1.length c1] w fun e w' => e = .returned (.bool r) ∧ Below w.heap.size w w' := by
  obtain rfl := Option.some.inj h
  exact specWithin_any l0 l1 A0 A1 c0 c1 w hr0 hc0 hr1 hc1

/-! ### impl_within: function 86, proved by hand -/
noncomputable def impl_within.f (a0 : Int) (a1 : Int) (a2 : Int) : Option (Bool) := some (decide (a1 ≤ a0 ∧ a0 ≤ a2))
set_option maxRecDepth 100000 in
theorem impl_within.calls (a0 : Int) (a1 : Int) (a2 : Int) (r : Bool) (w : World)  (h : impl_within.f a0 a1 a2 = some r) :
    Calls Try.prog 86 #[.int .i64 a0, .int .i64 a1, .int .i64 a2] w fun e w' => e = .returned (.bool r) ∧ Below w.heap.size w w' := by
  obtain rfl := Option.some.inj h
  exact within_any a0 a1 a2 w

/-! ### impl_NameValid: function 84, proved by hand -/
noncomputable def impl_NameValid.f (a0 : ByteArray) : Option (Bool) := gIf (a0.size ≤ 140737488351232) (nmB a0)
set_option maxRecDepth 100000 in
theorem impl_NameValid.calls (a0 : ByteArray) (r : Bool) (w : World)  (h : impl_NameValid.f a0 = some r) :
    Calls Try.prog 84 #[.string a0] w fun e w' => e = .returned (.bool r) ∧ Below w.heap.size w w' := by
  obtain ⟨ht, rfl⟩ := gIf_some h
  exact implName_any a0 w ht

/-! ### impl_scopesOk: function 85, proved by hand -/
noncomputable def impl_scopesOk.f (l0 : List Int) : Option (Bool) := some (pB (ScOk l0))
set_option maxRecDepth 100000 in
theorem impl_scopesOk.calls (A0 : Option Addr) (c0 : Nat) (l0 : List Int) (r : Bool) (w : World) (hr0 : Kd.C (Kd.int .i64) w A0 l0.length l0) (hc0 : l0.length ≤ c0) (h : impl_scopesOk.f l0 = some r) :
    Calls Try.prog 85 #[.slice A0 l0.length c0] w fun e w' => e = .returned (.bool r) ∧ Below w.heap.size w w' := by
  obtain rfl := Option.some.inj h
  exact scopesOk_any l0 A0 c0 w hr0 hc0

/-! ### impl_FormValid: function 72, proved by hand -/
noncomputable def impl_FormValid.f (a0_0 : Int) (a0_1 : ByteArray) (a0_2 : Int) (l0_3 : List Int) (l0_4 : List (S34)) : Option (Bool) := gIf ((⟨a0_0, a0_1, a0_2, l0_3, l0_4⟩ : Fm).tot ≤ 1048576) (pB (FmOk (⟨a0_0, a0_1, a0_2, l0_3, l0_4⟩ : Fm)))
set_option maxRecDepth 100000 in
theorem impl_FormValid.calls (a0_0 : Int) (a0_1 : ByteArray) (a0_2 : Int) (A0_3 : Option Addr) (c0_3 : Nat) (l0_3 : List Int) (A0_4 : Option Addr) (c0_4 : Nat) (l0_4 : List (S34)) (r : Bool) (w : World) (hr0_3 : Kd.C (Kd.int .i64) w A0_3 l0_3.length l0_3) (hc0_3 : l0_3.length ≤ c0_3) (hr0_4 : Kd.C k34 w A0_4 l0_4.length l0_4) (hc0_4 : l0_4.length ≤ c0_4) (h : impl_FormValid.f a0_0 a0_1 a0_2 l0_3 l0_4 = some r) :
    Calls Try.prog 72 #[.agg #[.int .i64 a0_0, .string a0_1, .int .i64 a0_2, .slice A0_3 l0_3.length c0_3, .slice A0_4 l0_4.length c0_4]] w fun e w' => e = .returned (.bool r) ∧ Below w.heap.size w w' := by
  obtain ⟨ht, rfl⟩ := gIf_some h
  exact implValid_any (⟨a0_0, a0_1, a0_2, l0_3, l0_4⟩ : Fm) A0_3 c0_3 A0_4 c0_4 w ⟨hc0_3, hr0_3, hc0_4, hr0_4⟩ ht

/-! ### impl_ScopesWithin: function 90, proved by hand -/
noncomputable def impl_ScopesWithin.f (l0 : List Int) (l1 : List Int) : Option (Bool) := some (decide (∀ x, x ∈ l0 → x ∈ l1))
set_option maxRecDepth 100000 in
theorem impl_ScopesWithin.calls (A0 : Option Addr) (c0 : Nat) (l0 : List Int) (A1 : Option Addr) (c1 : Nat) (l1 : List Int) (r : Bool) (w : World) (hr0 : Kd.C (Kd.int .i64) w A0 l0.length l0) (hc0 : l0.length ≤ c0) (hr1 : Kd.C (Kd.int .i64) w A1 l1.length l1) (hc1 : l1.length ≤ c1) (h : impl_ScopesWithin.f l0 l1 = some r) :
    Calls Try.prog 90 #[.slice A0 l0.length c0, .slice A1 l1.length c1] w fun e w' => e = .returned (.bool r) ∧ Below w.heap.size w w' := by
  obtain rfl := Option.some.inj h
  exact implWithin_any l0 l1 A0 A1 c0 c1 w hr0 hc0 hr1 hc1

/-! ### slices_Clone_int_int: function 61, proved by hand -/
noncomputable def slices_Clone_int_int.f (l0 : List Int) : Option ((List Int)) := gIf (l0.length ≤ 17592186044416) l0
set_option maxRecDepth 100000 in
theorem slices_Clone_int_int.calls (A0 : Option Addr) (c0 : Nat) (l0 : List Int) (r : List Int) (w : World) (hr0 : Kd.C (Kd.int .i64) w A0 l0.length l0) (hc0 : l0.length ≤ c0) (h : slices_Clone_int_int.f l0 = some r) :
    Calls Try.prog 61 #[.slice A0 l0.length c0] w fun e w' => ∃ v0_ : Value, e = .returned (v0_) ∧ Kd.R (Kd.int .i64) 3 w' w.heap.size (fun k_ => True) v0_ r ∧ Below w.heap.size w w' := by
  obtain ⟨ht, rfl⟩ := gIf_some h
  exact cloneI_any l0 A0 c0 w hr0 hc0 ht

/-! ### spec_FormSame: function 63, proved by hand -/
noncomputable def spec_FormSame.f (a0_0 : Int) (a0_1 : ByteArray) (a0_2 : Int) (l0_3 : List Int) (l0_4 : List (S34)) (a1_0 : Int) (a1_1 : ByteArray) (a1_2 : Int) (l1_3 : List Int) (l1_4 : List (S34)) : Option (Bool) := some (eqB (⟨a0_0, a0_1, a0_2, l0_3, l0_4⟩ : Fm) (⟨a1_0, a1_1, a1_2, l1_3, l1_4⟩ : Fm))
set_option maxRecDepth 100000 in
theorem spec_FormSame.calls (a0_0 : Int) (a0_1 : ByteArray) (a0_2 : Int) (A0_3 : Option Addr) (c0_3 : Nat) (l0_3 : List Int) (A0_4 : Option Addr) (c0_4 : Nat) (l0_4 : List (S34)) (a1_0 : Int) (a1_1 : ByteArray) (a1_2 : Int) (A1_3 : Option Addr) (c1_3 : Nat) (l1_3 : List Int) (A1_4 : Option Addr) (c1_4 : Nat) (l1_4 : List (S34)) (r : Bool) (w : World) (hr0_3 : Kd.C (Kd.int .i64) w A0_3 l0_3.length l0_3) (hc0_3 : l0_3.length ≤ c0_3) (hr0_4 : Kd.C k34 w A0_4 l0_4.length l0_4) (hc0_4 : l0_4.length ≤ c0_4) (hr1_3 : Kd.C (Kd.int .i64) w A1_3 l1_3.length l1_3) (hc1_3 : l1_3.length ≤ c1_3) (hr1_4 : Kd.C k34 w A1_4 l1_4.length l1_4) (hc1_4 : l1_4.length ≤ c1_4) (h : spec_FormSame.f a0_0 a0_1 a0_2 l0_3 l0_4 a1_0 a1_1 a1_2 l1_3 l1_4 = some r) :
    Calls Try.prog 63 #[.agg #[.int .i64 a0_0, .string a0_1, .int .i64 a0_2, .slice A0_3 l0_3.length c0_3, .slice A0_4 l0_4.length c0_4], .agg #[.int .i64 a1_0, .string a1_1, .int .i64 a1_2, .slice A1_3 l1_3.length c1_3, .slice A1_4 l1_4.length c1_4]] w fun e w' => e = .returned (.bool r) ∧ Below w.heap.size w w' := by
  obtain rfl := Option.some.inj h
  exact specSame_any (⟨a0_0, a0_1, a0_2, l0_3, l0_4⟩ : Fm) (⟨a1_0, a1_1, a1_2, l1_3, l1_4⟩ : Fm) A0_3 c0_3 A0_4 c0_4 A1_3 c1_3 A1_4 c1_4 w ⟨hc0_3, hr0_3, hc0_4, hr0_4⟩ ⟨hc1_3, hr1_3, hc1_4, hr1_4⟩

/-! ### slices_Equal_int_int: function 89, proved by hand -/
noncomputable def slices_Equal_int_int.f (l0 : List Int) (l1 : List Int) : Option (Bool) := some (decide (l0 = l1))
set_option maxRecDepth 100000 in
theorem slices_Equal_int_int.calls (A0 : Option Addr) (c0 : Nat) (l0 : List Int) (A1 : Option Addr) (c1 : Nat) (l1 : List Int) (r : Bool) (w : World) (hr0 : Kd.C (Kd.int .i64) w A0 l0.length l0) (hc0 : l0.length ≤ c0) (hr1 : Kd.C (Kd.int .i64) w A1 l1.length l1) (hc1 : l1.length ≤ c1) (h : slices_Equal_int_int.f l0 l1 = some r) :
    Calls Try.prog 89 #[.slice A0 l0.length c0, .slice A1 l1.length c1] w fun e w' => e = .returned (.bool r) ∧ Below w.heap.size w w' := by
  obtain rfl := Option.some.inj h
  exact equalI_any l0 l1 A0 A1 c0 c1 w hr0 hc0 hr1 hc1

/-! ### impl_FormSame: function 94, proved by hand -/
noncomputable def impl_FormSame.f (a0_0 : Int) (a0_1 : ByteArray) (a0_2 : Int) (l0_3 : List Int) (l0_4 : List (S34)) (a1_0 : Int) (a1_1 : ByteArray) (a1_2 : Int) (l1_3 : List Int) (l1_4 : List (S34)) : Option (Bool) := some (eqB (⟨a0_0, a0_1, a0_2, l0_3, l0_4⟩ : Fm) (⟨a1_0, a1_1, a1_2, l1_3, l1_4⟩ : Fm))
set_option maxRecDepth 100000 in
theorem impl_FormSame.calls (a0_0 : Int) (a0_1 : ByteArray) (a0_2 : Int) (A0_3 : Option Addr) (c0_3 : Nat) (l0_3 : List Int) (A0_4 : Option Addr) (c0_4 : Nat) (l0_4 : List (S34)) (a1_0 : Int) (a1_1 : ByteArray) (a1_2 : Int) (A1_3 : Option Addr) (c1_3 : Nat) (l1_3 : List Int) (A1_4 : Option Addr) (c1_4 : Nat) (l1_4 : List (S34)) (r : Bool) (w : World) (hr0_3 : Kd.C (Kd.int .i64) w A0_3 l0_3.length l0_3) (hc0_3 : l0_3.length ≤ c0_3) (hr0_4 : Kd.C k34 w A0_4 l0_4.length l0_4) (hc0_4 : l0_4.length ≤ c0_4) (hr1_3 : Kd.C (Kd.int .i64) w A1_3 l1_3.length l1_3) (hc1_3 : l1_3.length ≤ c1_3) (hr1_4 : Kd.C k34 w A1_4 l1_4.length l1_4) (hc1_4 : l1_4.length ≤ c1_4) (h : impl_FormSame.f a0_0 a0_1 a0_2 l0_3 l0_4 a1_0 a1_1 a1_2 l1_3 l1_4 = some r) :
    Calls Try.prog 94 #[.agg #[.int .i64 a0_0, .string a0_1, .int .i64 a0_2, .slice A0_3 l0_3.length c0_3, .slice A0_4 l0_4.length c0_4], .agg #[.int .i64 a1_0, .string a1_1, .int .i64 a1_2, .slice A1_3 l1_3.length c1_3, .slice A1_4 l1_4.length c1_4]] w fun e w' => e = .returned (.bool r) ∧ Below w.heap.size w w' := by
  obtain rfl := Option.some.inj h
  exact implSame_any (⟨a0_0, a0_1, a0_2, l0_3, l0_4⟩ : Fm) (⟨a1_0, a1_1, a1_2, l1_3, l1_4⟩ : Fm) A0_3 c0_3 A0_4 c0_4 A1_3 c1_3 A1_4 c1_4 w ⟨hc0_3, hr0_3, hc0_4, hr0_4⟩ ⟨hc1_3, hr1_3, hc1_4, hr1_4⟩
end Go.Proofs.Ytlklclebjeeaaaa.Q
end
section
namespace Go.Proofs.Ytlklclebjeeaaaa.Q
open Go.RowKit Go.Proofs.YtlklclebjeeaaaaW.PrintWords Go.Proofs.YtlklclebjeeaaaaW.PrintLast Go.Proofs.YtlklclebjeeaaaaW.PrintMore
set_option linter.unusedVariables false
set_option linter.unusedSimpArgs false

/-! ### impl_BindsValid: function 50, proved by hand -/
noncomputable def impl_BindsValid.f (l0 : List (S66)) : Option (Bool) := gIf (∀ b, b ∈ l0 → b.f0.size ≤ 140737488351232) (pB (BdsOk l0))
set_option maxRecDepth 100000 in
theorem impl_BindsValid.calls (A0 : Option Addr) (c0 : Nat) (l0 : List (S66)) (r : Bool) (w : World) (hr0 : Kd.C k66 w A0 l0.length l0) (hc0 : l0.length ≤ c0) (h : impl_BindsValid.f l0 = some r) :
    Calls Try.prog 50 #[.slice A0 l0.length c0] w fun e w' => e = .returned (.bool r) ∧ Below w.heap.size w w' := by
  obtain ⟨ht, rfl⟩ := gIf_some h
  exact implBinds_any l0 A0 c0 w hr0 hc0 ht
end Go.Proofs.Ytlklclebjeeaaaa.Q
end
