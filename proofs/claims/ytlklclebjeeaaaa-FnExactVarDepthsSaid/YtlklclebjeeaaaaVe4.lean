/- Words for the laws' proofs (part 4): contracts of functions, and plain lemmas. -/
import Derived.BigQuiet
import Derived.Deep.Slices
import Derived.KernelRfl
import Derived.Lib.LazyBuf
import Derived.Lib.SmallJoins
import Derived.OpenShut
import Derived.ProofKit
import Derived.Test.YtlklclebjeeaaaaProg
import Derived.Test.YtlklclebjeeaaaaVe1
import Derived.Test.YtlklclebjeeaaaaVe2
import Derived.Test.YtlklclebjeeaaaaVe3
section
namespace Go.Proofs.Ytlklclebjeeaaaa
open Go.RowKit Go.Proofs.YtlklclebjeeaaaaW.PrintWords Go.Proofs.YtlklclebjeeaaaaW.PrintLast Go.Proofs.YtlklclebjeeaaaaW.PrintMore
set_option linter.unusedVariables false
set_option linter.unusedSimpArgs false
theorem dots_list : (⟨#[46, 46, 46]⟩ : ByteArray).toList = [46, 46, 46] := by first | decide +kernel | simp [ByteArray.toList, ByteArray.toList.loop]
theorem namedDots_any (x : Fm) (A3 : Option Addr) (Ac3 : Nat) (A4 : Option Addr) (Ac4 : Nat) (w : World) (hin : FmIn w x A3 Ac3 A4 Ac4) :
    Calls Try.prog 74 #[.agg #[.int .i64 x.f0, .string x.f1, .int .i64 x.f2, .slice A3 x.f3.length Ac3, .slice A4 x.f4.length Ac4], .string ⟨#[46, 46, 46]⟩] w (Ret w (.bool (dotsB x))) := by
  refine Q.impl_named.calls x.f0 x.f1 x.f2 A3 Ac3 x.f3 A4 Ac4 x.f4 ⟨#[46, 46, 46]⟩ (dotsB x) w hin.g3 hin.l3 hin.g4 hin.l4 ?_
  unfold Q.impl_named.f dotsB
  rw [dots_list]
  by_cases h : x.f0 = 1
  · rw [if_pos h, show (x.f0 == 1) = true from by simpa using h, Bool.true_and]
  · rw [if_neg h, show (x.f0 == 1) = false from by simpa using h, Bool.false_and]
set_option maxHeartbeats 2000000 in
theorem indexFuncF_any (xs : List Fm) (p : Fm → Bool) (g : Nat) (lb : Array Value) (eg : ∀ args w, (callFunc g args).run Try.prog w = .ok (.enter g args) w) (A : Option Addr) (c : Nat) (w : World) (hr : kF.C w A xs.length xs) (hc : xs.length ≤ c)
    (hp : ∀ x, x ∈ xs → ∀ (A3 : Option Addr) (Ac3 : Nat) (A4 : Option Addr) (Ac4 : Nat) (W : World), Below w.heap.size w W → FmIn W x A3 Ac3 A4 Ac4 → Calls Try.prog g (#[.agg #[.int .i64 x.f0, .string x.f1, .int .i64 x.f2, .slice A3 x.f3.length Ac3, .slice A4 x.f4.length Ac4]] ++ lb) W (Ret W (.bool (p x)))) :
    Calls Try.prog 119 #[.slice A xs.length c, .func (.func g) #[] lb] w (Ret w (.int .i64 (fidx p xs))) := by
  have hmax := hr.2.1
  have HP := Lib.hid hp
  clear hp
  go_enter Try.func119, Try.ntmps119
  go_wp2_with fail
  go_loopg [5, 8] xs.length (fun kq v5 v8 w' => ∃ i : Nat, i ≤ xs.length ∧ xs.length - i ≤ kq ∧ v8 = .int .i64 i ∧ Aside0 (∀ j (h : j < xs.length), j < i → p xs[j] = false) ∧ Aside0 (Below w.heap.size w w'))
  case atStart => exact ⟨0, Nat.zero_le _, by omega, rfl, ⟨fun j _ h => absurd h (by omega)⟩, ⟨Below.refl _ _⟩⟩
  case round =>
    obtain ⟨i, hi, hg, rfl, HN, HW⟩ := hrel
    by_cases hlt : i < xs.length
    · obtain ⟨ad, X3, Xc3, X4, Xc4, e, g0, g1, g2, g3, g4, hk⟩ := kid_at (Kd.C_below hr HW.out) i hlt
      subst e
      have HC := Lib.hid (HP.out xs[i] (List.getElem_mem hlt) X3 Xc3 X4 Xc4 wr HW.out hk)
      clear hk
      generalize hb : p xs[i] = b at HC
      have HB := Lib.hid hb
      clear hb
      cases b with
      | true =>
        go_wp2_with fail
        refine HC.out.mono ?_
        rintro e w1 ⟨rfl, hb1⟩
        clear g0 g1 g2 g3 g4
        go_wp2_with fail
        go_ret
        exact ⟨ret_i (fidx_hit hlt HB.out (fun j hj => HN.out j _ hj)).symm, below_step HW.out hb1⟩
      | false =>
        go_wp2_with fail
        refine HC.out.mono ?_
        rintro e w1 ⟨rfl, hb1⟩
        clear g0 g1 g2 g3 g4
        go_wp2_with fail
        go_roundg (xs.length - (i + 1))
        case measure => omega
        case rel =>
          refine ⟨i + 1, by omega, Nat.le_refl _, by go_num, ⟨fun j hj hji => ?_⟩, ⟨below_step HW.out hb1⟩⟩
          rcases Nat.lt_or_ge j i with h | h
          · exact HN.out j hj h
          · obtain rfl : j = i := by omega
            exact HB.out
    · obtain rfl : i = xs.length := by omega
      go_wp2_with fail
      go_ret
      exact ⟨ret_i (fidx_miss (fun j hj => HN.out j hj hj)).symm, HW.out⟩
theorem containsFuncF_any (xs : List Fm) (p : Fm → Bool) (g : Nat) (lb : Array Value) (eg : ∀ args w, (callFunc g args).run Try.prog w = .ok (.enter g args) w) (A : Option Addr) (c : Nat) (w : World) (hr : kF.C w A xs.length xs) (hc : xs.length ≤ c)
    (hp : ∀ x, x ∈ xs → ∀ (A3 : Option Addr) (Ac3 : Nat) (A4 : Option Addr) (Ac4 : Nat) (W : World), Below w.heap.size w W → FmIn W x A3 Ac3 A4 Ac4 → Calls Try.prog g (#[.agg #[.int .i64 x.f0, .string x.f1, .int .i64 x.f2, .slice A3 x.f3.length Ac3, .slice A4 x.f4.length Ac4]] ++ lb) W (Ret W (.bool (p x)))) :
    Calls Try.prog 106 #[.slice A xs.length c, .func (.func g) #[] lb] w (Ret w (.bool (xs.any p))) := by
  have HD := Lib.hid (fidx_any p xs)
  have HC := Lib.hid (indexFuncF_any xs p g lb eg A c w hr hc hp)
  clear hr hc hp
  generalize fidx p xs = r at HD HC
  go_enter Try.func106, Try.ntmps106
  go_wp2_with fail
  refine HC.out.mono ?_
  rintro e w1 ⟨rfl, hb1⟩
  go_wp2_with fail
  go_ret
  exact ⟨ret_b HD.out, hb1⟩
set_option maxHeartbeats 2000000 in
theorem isIn1_any (x y : Fm) (A3 : Option Addr) (Ac3 : Nat) (A4 : Option Addr) (Ac4 : Nat) (B3 : Option Addr) (Bc3 : Nat) (B4 : Option Addr) (Bc4 : Nat) (g : Nat) (w : World) (hx : FmIn w x A3 Ac3 A4 Ac4) (hy : FmIn w y B3 Bc3 B4 Bc4) (hg : w.heap[g]? = some (.cells #[.int .i64 y.f0, .string y.f1, .int .i64 y.f2, .slice B3 y.f3.length Bc3, .slice B4 y.f4.length Bc4] 34 (0, 0))) :
    Calls Try.prog 107 #[.agg #[.int .i64 x.f0, .string x.f1, .int .i64 x.f2, .slice A3 x.f3.length Ac3, .slice A4 x.f4.length Ac4], .pointer (some ⟨g, 0, none⟩)] w (Ret w (.bool (eqB x y))) := by
  have HB := Lib.hid (below_new w (.cells #[.int .i64 x.f0, .string x.f1, .int .i64 x.f2, .slice A3 x.f3.length Ac3, .slice A4 x.f4.length Ac4] 34))
  have HA := Lib.hid (blk_new w (.cells #[.int .i64 x.f0, .string x.f1, .int .i64 x.f2, .slice A3 x.f3.length Ac3, .slice A4 x.f4.length Ac4] 34))
  have HBx := Lib.hid (blk_below hg HB.out)
  have HN := Lib.hid (fun W hb => implSame_any x y A3 Ac3 A4 Ac4 B3 Bc3 B4 Bc4 W (hx.below hb) (hy.below hb))
  clear hx hy hg
  obtain ⟨p0, p1, p2, p3, p4⟩ := fm_cells HA.out
  obtain ⟨q0, q1, q2, q3, q4⟩ := fm_cells HBx.out
  go_enter Try.func107, Try.ntmps107
  go_wp2_with fail
  refine (HN.out _ HB.out).mono ?_
  rintro e w1 ⟨rfl, b⟩
  have HB2 := Lib.hid (below_step HB.out b)
  clear b p0 p1 p2 p3 p4 q0 q1 q2 q3 q4
  go_wp2_with fail
  go_ret
  exact ⟨rfl, HB2.out⟩
set_option maxHeartbeats 2000000 in
theorem isIn_any (xs : List Fm) (A : Option Addr) (c : Nat) (y : Fm) (B3 : Option Addr) (Bc3 : Nat) (B4 : Option Addr) (Bc4 : Nat) (w : World) (hr : kF.C w A xs.length xs) (hc : xs.length ≤ c) (hy : FmIn w y B3 Bc3 B4 Bc4) :
    Calls Try.prog 77 #[.slice A xs.length c, .agg #[.int .i64 y.f0, .string y.f1, .int .i64 y.f2, .slice B3 y.f3.length Bc3, .slice B4 y.f4.length Bc4]] w (Ret w (.bool (xs.any (fun x => eqB x y)))) := by
  have eg : ∀ args w, (callFunc 107 args).run Try.prog w = .ok (.enter 107 args) w := enters_of Try.func107 (by kernel_rfl) rfl
  have hb := below_new w (.cells #[.int .i64 y.f0, .string y.f1, .int .i64 y.f2, .slice B3 y.f3.length Bc3, .slice B4 y.f4.length Bc4] 34)
  have hk := blk_new w (.cells #[.int .i64 y.f0, .string y.f1, .int .i64 y.f2, .slice B3 y.f3.length Bc3, .slice B4 y.f4.length Bc4] 34)
  have HC := Lib.hid (containsFuncF_any xs (fun x => eqB x y) 107 #[.pointer (some ⟨w.heap.size, 0, none⟩)] eg A c _ (Kd.C_below hr hb) hc
    (fun x hxm X3 Xc3 X4 Xc4 V hv hxi => isIn1_any x y X3 Xc3 X4 Xc4 B3 Bc3 B4 Bc4 w.heap.size V hxi (hy.below (below_step hb hv)) (blk_below hk hv)))
  have HB := Lib.hid hb
  clear hr hb hk eg
  go_enter Try.func77, Try.ntmps77
  go_wp2_with fail
  refine HC.out.mono ?_
  rintro e w1 ⟨rfl, b⟩
  have HB2 := Lib.hid (below_step HB.out b)
  clear b
  go_wp2_with fail
  go_ret
  exact ⟨rfl, HB2.out⟩
set_option maxHeartbeats 2000000 in
theorem dotsAt1_any (x : Fm) (A3 : Option Addr) (Ac3 : Nat) (A4 : Option Addr) (Ac4 : Nat) (w : World) (hx : FmIn w x A3 Ac3 A4 Ac4) :
    Calls Try.prog 120 #[.agg #[.int .i64 x.f0, .string x.f1, .int .i64 x.f2, .slice A3 x.f3.length Ac3, .slice A4 x.f4.length Ac4]] w (Ret w (.bool (dotsB x))) := by
  have HB := Lib.hid (below_new w (.cells #[.int .i64 x.f0, .string x.f1, .int .i64 x.f2, .slice A3 x.f3.length Ac3, .slice A4 x.f4.length Ac4] 34))
  have HA := Lib.hid (blk_new w (.cells #[.int .i64 x.f0, .string x.f1, .int .i64 x.f2, .slice A3 x.f3.length Ac3, .slice A4 x.f4.length Ac4] 34))
  have HN := Lib.hid (namedDots_any x A3 Ac3 A4 Ac4 _ (hx.below HB.out))
  clear hx
  obtain ⟨p0, p1, p2, p3, p4⟩ := fm_cells HA.out
  go_enter Try.func120, Try.ntmps120
  go_wp2_with fail
  refine HN.out.mono ?_
  rintro e w1 ⟨rfl, b⟩
  have HB2 := Lib.hid (below_step HB.out b)
  clear b p0 p1 p2 p3 p4
  go_wp2_with fail
  go_ret
  exact ⟨rfl, HB2.out⟩
theorem dotsAt_any (xs : List Fm) (A : Option Addr) (c : Nat) (w : World) (hr : kF.C w A xs.length xs) (hc : xs.length ≤ c) :
    Calls Try.prog 104 #[.slice A xs.length c] w (Ret w (.int .i64 (fidx dotsB xs))) := by
  have eg : ∀ args w, (callFunc 120 args).run Try.prog w = .ok (.enter 120 args) w := enters_of Try.func120 (by kernel_rfl) rfl
  have HC := Lib.hid (indexFuncF_any xs dotsB 120 #[] eg A c w hr hc (fun x hxm X3 Xc3 X4 Xc4 V hv hxi => dotsAt1_any x X3 Xc3 X4 Xc4 V hxi))
  clear hr eg
  go_enter Try.func104, Try.ntmps104
  go_wp2_with fail
  refine HC.out.mono ?_
  rintro e w1 ⟨rfl, b⟩
  go_wp2_with fail
  go_ret
  exact ⟨rfl, b⟩
set_option maxHeartbeats 8000000 in
set_option maxRecDepth 100000 in
theorem literalsOk_any (xs : List Fm) (A : Option Addr) (c : Nat) (w : World) (hr : kF.C w A xs.length xs) (hc : xs.length ≤ c) (ht : ∀ x, x ∈ xs → x.tot ≤ 1048576) :
    Calls Try.prog 73 #[.slice A xs.length c] w (Ret w (.bool (pB (LitsOk xs)))) := by
  have hmax := hr.2.1
  have HM := Lib.hid ht
  clear ht
  go_enter Try.func73, Try.ntmps73
  go_wp2_with fail
  go_loopg [3, 4, 7] xs.length (fun kq v3 v4 v7 w' => ∃ i : Nat, i ≤ xs.length ∧ xs.length - i ≤ kq ∧ v7 = .int .i64 i ∧ Aside0 (∀ j, j < i → LitAt xs j) ∧ Aside0 (Below w.heap.size w w'))
  case atStart => exact ⟨0, Nat.zero_le _, by omega, rfl, ⟨fun j h => absurd h (by omega)⟩, ⟨Below.refl _ _⟩⟩
  case round =>
    obtain ⟨i, hi, hg, rfl, HN, HW⟩ := hrel
    by_cases hlt : i < xs.length
    rotate_left
    · obtain rfl : i = xs.length := by omega
      by_cases h9 : xs.length ≤ 9
      · have t1 : decide ((xs.length : Int) ≤ 9) = true := decide_eq_true (by omega)
        have t2 : decide (xs.length ≤ 9) = true := decide_eq_true h9
        have H9 := Lib.hid h9
        clear h9
        go_wp2_with fail
        go_ret
        exact ⟨ret_b (pB_yes ⟨H9.out, fun j h => HN.out j h h⟩), HW.out⟩
      · have t1 : decide ((xs.length : Int) ≤ 9) = false := decide_eq_false (by omega)
        have t2 : decide (xs.length ≤ 9) = false := decide_eq_false h9
        have H9 := Lib.hid h9
        clear h9
        go_wp2_with fail
        go_ret
        exact ⟨ret_b (pB_no (fun h => H9.out h.1)), HW.out⟩
    obtain ⟨ad, X3, Xc3, X4, Xc4, e, g0, g1, g2, g3, g4, hk⟩ := kid_at (Kd.C_below hr HW.out) i hlt
    subst e
    have hn := below_new wr (.cells #[.int .i64 xs[i].f0, .string xs[i].f1, .int .i64 xs[i].f2, .slice X3 xs[i].f3.length Xc3, .slice X4 xs[i].f4.length Xc4] 34)
    have HBx := Lib.hid (blk_new wr (.cells #[.int .i64 xs[i].f0, .string xs[i].f1, .int .i64 xs[i].f2, .slice X3 xs[i].f3.length Xc3, .slice X4 xs[i].f4.length Xc4] 34))
    have HK := Lib.hid (fun W hb => isName_any xs[i] X3 Xc3 X4 Xc4 W (hk.below (below_step hn hb)) (HM.out _ (List.getElem_mem hlt)))
    have hF := fun W hb => isIn_any (xs.take i) (some ad) c xs[i] X3 Xc3 X4 Xc4 W (Kd.C_take (Kd.C_below hr (below_step HW.out (below_step hn hb))) (by omega)) (by rw [List.length_take]; omega) (hk.below (below_step hn hb))
    rw [List.length_take, Nat.min_eq_left hi] at hF
    have HF := Lib.hid hF
    have HS0 : Hid (∀ W : World, Below (wr.alloc (.cells #[.int .i64 xs[i].f0, .string xs[i].f1, .int .i64 xs[i].f2, .slice X3 xs[i].f3.length Xc3, .slice X4 xs[i].f4.length Xc4] 34)).heap.size (wr.alloc (.cells #[.int .i64 xs[i].f0, .string xs[i].f1, .int .i64 xs[i].f2, .slice X3 xs[i].f3.length Xc3, .slice X4 xs[i].f4.length Xc4] 34)) W → (fun W : World => W.cell? ⟨wr.heap.size, 0, none⟩ = some (.int .i64 xs[i].f0) ∧ W.cell? ⟨wr.heap.size, 1, none⟩ = some (.string xs[i].f1) ∧ W.cell? ⟨wr.heap.size, 2, none⟩ = some (.int .i64 xs[i].f2) ∧ W.cell? ⟨wr.heap.size, 3, none⟩ = some (.slice X3 xs[i].f3.length Xc3) ∧ W.cell? ⟨wr.heap.size, 4, none⟩ = some (.slice X4 xs[i].f4.length Xc4)) W) := Lib.hid (fun W hb => fm_cells (blk_below HBx.out hb))
    have HD := Lib.hid (below_drew (Below.refl (wr.alloc (.cells #[.int .i64 xs[i].f0, .string xs[i].f1, .int .i64 xs[i].f2, .slice X3 xs[i].f3.length Xc3, .slice X4 xs[i].f4.length Xc4] 34)).heap.size (wr.alloc (.cells #[.int .i64 xs[i].f0, .string xs[i].f1, .int .i64 xs[i].f2, .slice X3 xs[i].f3.length Xc3, .slice X4 xs[i].f4.length Xc4] 34))))
    clear hk hn hF HBx
    have p1 : (0 : Int) ≤ (i : Int) := by omega
    have p2 : (i : Int) < (xs.length : Int) := by omega
    have p3 : (i : Int) ≤ (c : Int) := by omega
    have p4 : i ≤ c := by omega
    have q1 := eq_true p1
    have q3 := eq_true p3
    have q4 := eq_true p4
    by_cases h1 : IsName xs[i]
    rotate_left
    · have HT : Hid (pB (IsName xs[i]) = false) := Lib.hid (pB_no h1).symm
      have NE := Lib.hid h1
      clear h1
      go_wp2_with fail
      clear g0 g1 g2 g3 g4
      refine start_ (n := 20) (S := (fun W : World => W.cell? ⟨wr.heap.size, 0, none⟩ = some (.int .i64 xs[i].f0) ∧ W.cell? ⟨wr.heap.size, 1, none⟩ = some (.string xs[i].f1) ∧ W.cell? ⟨wr.heap.size, 2, none⟩ = some (.int .i64 xs[i].f2) ∧ W.cell? ⟨wr.heap.size, 3, none⟩ = some (.slice X3 xs[i].f3.length Xc3) ∧ W.cell? ⟨wr.heap.size, 4, none⟩ = some (.slice X4 xs[i].f4.length Xc4))) (ds := []) #[false, false, false, false, false, false, false, false, false, false, false, false, false, false, false, false, false, false, false, false] (by kernel_rfl) rfl rfl (HS0.out _ HD.out) (fun hHeld => ?_)
      generalize World.drew _ = wd at HD hHeld  ⊢
      refine take_ (i := 0) (N := some 12) (v := ?_) (a' := ?_) #[true, false, false, false, false, false, false, false, false, false, false, false, false, false, false, false, false, false, false, false] rfl rfl (by kernel_rfl) (fun _ _ _ h => h) (Or.inl ⟨by rfl, ?_⟩) hHeld ?_ ?_
      rotate_left
      · rintro w' ⟨s0, s1, s2, s3, s4⟩
        go_simp
        with_reducible rfl
      rotate_left
      · simp only [Act.put, List.setIfInBounds_toArray, List.set_cons_zero, List.set_cons_succ, i64_w, i32_w]
        rfl
      refine one_ (i := 1) (N := some 13) #[true, true, false, false, false, false, false, false, false, false, false, false, false, false, false, false, false, false, false, false] rfl rfl (by kernel_rfl) (by decide) (fun K hK => ?_)
      refine goes_ Try.func51 (by kernel_rfl) rfl #[.agg #[.int .i64 xs[i].f0, .string xs[i].f1, .int .i64 xs[i].f2, .slice X3 xs[i].f3.length Xc3, .slice X4 xs[i].f4.length Xc4]] (by rfl) rfl rfl (by (try simp only [List.map_toArray, List.map_cons, List.map_nil]); first | done | rfl) ?_
      refine (HK.out _ HD.out).mono ?_
      rintro e w1 ⟨rfl, hb1⟩
      replace HD := Lib.hid (below_step HD.out hb1)
      clear hb1
      rw [HT.out]
      refine ⟨_, rfl, ?_⟩
      refine hK.out _ _ (HS0.out _ HD.out) (fun hHeld => ?_)
      clear hK K
      refine norm_ (a' := ?_) ?_ ?_
      rotate_left
      · show Act.put _ (some 13) _ = _
        simp only [Act.put, List.setIfInBounds_toArray, List.set_cons_zero, List.set_cons_succ, i64_w, i32_w]
        rfl
      refine pure_ (i := 2) (N := some 14) (v := ?_) (a' := ?_) #[true, true, true, false, false, false, false, false, false, false, false, false, false, false, false, false, false, false, false, false] rfl rfl (by kernel_rfl) (fun _ _ _ h => h) (Or.inl ⟨by rfl, ?_⟩) ?_ ?_
      rotate_left
      · intro w'
        go_simp
        with_reducible rfl
      rotate_left
      · simp only [Act.put, List.setIfInBounds_toArray, List.set_cons_zero, List.set_cons_succ, i64_w, i32_w]
        rfl
      refine pure_ (i := 3) (N := some 15) (v := ?_) (a' := ?_) #[true, true, true, true, false, false, false, false, false, false, false, false, false, false, false, false, false, false, false, false] rfl rfl (by kernel_rfl) (fun _ _ _ h => h) (Or.inl ⟨by rfl, ?_⟩) ?_ ?_
      rotate_left
      · intro w'
        go_simp
        with_reducible rfl
      rotate_left
      · simp only [Act.put, List.setIfInBounds_toArray, List.set_cons_zero, List.set_cons_succ, i64_w, i32_w]
        rfl
      refine pure_ (i := 4) (N := some 16) (v := undef) (a' := ?_) #[true, true, true, true, true, false, false, false, false, false, false, false, false, false, false, false, false, false, false, false] rfl rfl (by kernel_rfl) (fun _ _ _ h => h) (Or.inr ⟨by rfl, rfl⟩) ?_ ?_
      rotate_left
      · simp only [Act.put, List.setIfInBounds_toArray, List.set_cons_zero, List.set_cons_succ, i64_w, i32_w]
        rfl
      refine pure_ (i := 5) (N := some 17) (v := undef) (a' := ?_) #[true, true, true, true, true, true, false, false, false, false, false, false, false, false, false, false, false, false, false, false] rfl rfl (by kernel_rfl) (fun _ _ _ h => h) (Or.inr ⟨by rfl, rfl⟩) ?_ ?_
      rotate_left
      · simp only [Act.put, List.setIfInBounds_toArray, List.set_cons_zero, List.set_cons_succ, i64_w, i32_w]
        rfl
      refine pure_ (i := 6) (N := some 18) (v := undef) (a' := ?_) #[true, true, true, true, true, true, true, false, false, false, false, false, false, false, false, false, false, false, false, false] rfl rfl (by kernel_rfl) (fun _ _ _ h => h) (Or.inr ⟨by rfl, rfl⟩) ?_ ?_
      rotate_left
      · simp only [Act.put, List.setIfInBounds_toArray, List.set_cons_zero, List.set_cons_succ, i64_w, i32_w]
        rfl
      refine pure_ (i := 7) (N := some 19) (v := ?_) (a' := ?_) #[true, true, true, true, true, true, true, true, false, false, false, false, false, false, false, false, false, false, false, false] rfl rfl (by kernel_rfl) (fun _ _ _ h => h) (Or.inl ⟨by rfl, ?_⟩) ?_ ?_
      rotate_left
      · intro w'
        go_simp
        with_reducible rfl
      rotate_left
      · simp only [Act.put, List.setIfInBounds_toArray, List.set_cons_zero, List.set_cons_succ, i64_w, i32_w]
        rfl
      refine pure_ (i := 8) (N := some 20) (v := ?_) (a' := ?_) #[true, true, true, true, true, true, true, true, true, false, false, false, false, false, false, false, false, false, false, false] rfl rfl (by kernel_rfl) (fun _ _ _ h => h) (Or.inl ⟨by rfl, ?_⟩) ?_ ?_
      rotate_left
      · intro w'
        go_simp
        with_reducible rfl
      rotate_left
      · simp only [Act.put, List.setIfInBounds_toArray, List.set_cons_zero, List.set_cons_succ, i64_w, i32_w]
        rfl
      refine pure_ (i := 9) (N := some 21) (v := undef) (a' := ?_) #[true, true, true, true, true, true, true, true, true, true, false, false, false, false, false, false, false, false, false, false] rfl rfl (by kernel_rfl) (fun _ _ _ h => h) (Or.inr ⟨by rfl, rfl⟩) ?_ ?_
      rotate_left
      · simp only [Act.put, List.setIfInBounds_toArray, List.set_cons_zero, List.set_cons_succ, i64_w, i32_w]
        rfl
      refine pure_ (i := 10) (N := some 22) (v := undef) (a' := ?_) #[true, true, true, true, true, true, true, true, true, true, true, false, false, false, false, false, false, false, false, false] rfl rfl (by kernel_rfl) (fun _ _ _ h => h) (Or.inr ⟨by rfl, rfl⟩) ?_ ?_
      rotate_left
      · simp only [Act.put, List.setIfInBounds_toArray, List.set_cons_zero, List.set_cons_succ, i64_w, i32_w]
        rfl
      refine pure_ (i := 11) (N := some 23) (v := undef) (a' := ?_) #[true, true, true, true, true, true, true, true, true, true, true, true, false, false, false, false, false, false, false, false] rfl rfl (by kernel_rfl) (fun _ _ _ h => h) (Or.inr ⟨by rfl, rfl⟩) ?_ ?_
      rotate_left
      · simp only [Act.put, List.setIfInBounds_toArray, List.set_cons_zero, List.set_cons_succ, i64_w, i32_w]
        rfl
      refine pure_ (i := 12) (N := some 24) (v := ?_) (a' := ?_) #[true, true, true, true, true, true, true, true, true, true, true, true, true, false, false, false, false, false, false, false] rfl rfl (by kernel_rfl) (fun _ _ _ h => h) (Or.inl ⟨by rfl, ?_⟩) ?_ ?_
      rotate_left
      · intro w'
        go_simp
        with_reducible rfl
      rotate_left
      · simp only [Act.put, List.setIfInBounds_toArray, List.set_cons_zero, List.set_cons_succ, i64_w, i32_w]
        rfl
      refine pure_ (i := 13) (N := some 25) (v := ?_) (a' := ?_) #[true, true, true, true, true, true, true, true, true, true, true, true, true, true, false, false, false, false, false, false] rfl rfl (by kernel_rfl) (fun _ _ _ h => h) (Or.inl ⟨by rfl, ?_⟩) ?_ ?_
      rotate_left
      · intro w'
        go_simp
        with_reducible rfl
      rotate_left
      · simp only [Act.put, List.setIfInBounds_toArray, List.set_cons_zero, List.set_cons_succ, i64_w, i32_w]
        rfl
      refine pure_ (i := 14) (N := some 26) (v := undef) (a' := ?_) #[true, true, true, true, true, true, true, true, true, true, true, true, true, true, true, false, false, false, false, false] rfl rfl (by kernel_rfl) (fun _ _ _ h => h) (Or.inr ⟨by rfl, rfl⟩) ?_ ?_
      rotate_left
      · simp only [Act.put, List.setIfInBounds_toArray, List.set_cons_zero, List.set_cons_succ, i64_w, i32_w]
        rfl
      refine pure_ (i := 15) (N := some 27) (v := undef) (a' := ?_) #[true, true, true, true, true, true, true, true, true, true, true, true, true, true, true, true, false, false, false, false] rfl rfl (by kernel_rfl) (fun _ _ _ h => h) (Or.inr ⟨by rfl, rfl⟩) ?_ ?_
      rotate_left
      · simp only [Act.put, List.setIfInBounds_toArray, List.set_cons_zero, List.set_cons_succ, i64_w, i32_w]
        rfl
      refine pure_ (i := 16) (N := some 28) (v := undef) (a' := ?_) #[true, true, true, true, true, true, true, true, true, true, true, true, true, true, true, true, true, false, false, false] rfl rfl (by kernel_rfl) (fun _ _ _ h => h) (Or.inr ⟨by rfl, rfl⟩) ?_ ?_
      rotate_left
      · simp only [Act.put, List.setIfInBounds_toArray, List.set_cons_zero, List.set_cons_succ, i64_w, i32_w]
        rfl
      refine pure_ (i := 17) (N := some 29) (v := undef) (a' := ?_) #[true, true, true, true, true, true, true, true, true, true, true, true, true, true, true, true, true, true, false, false] rfl rfl (by kernel_rfl) (fun _ _ _ h => h) (Or.inr ⟨by rfl, rfl⟩) ?_ ?_
      rotate_left
      · simp only [Act.put, List.setIfInBounds_toArray, List.set_cons_zero, List.set_cons_succ, i64_w, i32_w]
        rfl
      refine one_ (i := 18) (N := some 30) #[true, true, true, true, true, true, true, true, true, true, true, true, true, true, true, true, true, true, true, false] rfl rfl (by kernel_rfl) (by decide) (fun K hK => ?_)
      refine off_ (by rfl) ?_
      refine hK.out _ _ (HS0.out _ HD.out) (fun hHeld => ?_)
      clear hK K
      refine norm_ (a' := ?_) ?_ ?_
      rotate_left
      · show Act.put _ (some 30) _ = _
        simp only [Act.put, List.setIfInBounds_toArray, List.set_cons_zero, List.set_cons_succ, i64_w, i32_w]
        rfl
      refine pure_ (i := 19) (N := some 31) (v := ?_) (a' := ?_) #[true, true, true, true, true, true, true, true, true, true, true, true, true, true, true, true, true, true, true, true] rfl rfl (by kernel_rfl) (fun _ _ _ h => h) (Or.inl ⟨by rfl, ?_⟩) ?_ ?_
      rotate_left
      · intro w'
        go_simp
        with_reducible rfl
      rotate_left
      · simp only [Act.put, List.setIfInBounds_toArray, List.set_cons_zero, List.set_cons_succ, i64_w, i32_w]
        rfl
      refine done_ (by kernel_rfl) ?_
      have HB := Lib.hid (below_step HW.out (below_step (below_new _ _) HD.out))
      clear HD HS0
      go_wp2_with fail
      go_ret
      exact ⟨ret_b (pB_no (fun h => NE.out (h.2 i hlt).1.1)), HB.out⟩
    have HT : Hid (pB (IsName xs[i]) = true) := Lib.hid (pB_yes h1).symm
    have E1 := Lib.hid h1
    clear h1
    by_cases h2 : xs[i].f1.toList = [46, 46, 46]
    · have t2 : (xs[i].f1.toList == [46, 46, 46]) = true := by simpa using h2
      have NE := Lib.hid h2
      clear h2
      go_wp2_with fail
      clear g0 g1 g2 g3 g4
      refine start_ (n := 20) (S := (fun W : World => W.cell? ⟨wr.heap.size, 0, none⟩ = some (.int .i64 xs[i].f0) ∧ W.cell? ⟨wr.heap.size, 1, none⟩ = some (.string xs[i].f1) ∧ W.cell? ⟨wr.heap.size, 2, none⟩ = some (.int .i64 xs[i].f2) ∧ W.cell? ⟨wr.heap.size, 3, none⟩ = some (.slice X3 xs[i].f3.length Xc3) ∧ W.cell? ⟨wr.heap.size, 4, none⟩ = some (.slice X4 xs[i].f4.length Xc4))) (ds := []) #[false, false, false, false, false, false, false, false, false, false, false, false, false, false, false, false, false, false, false, false] (by kernel_rfl) rfl rfl (HS0.out _ HD.out) (fun hHeld => ?_)
      generalize World.drew _ = wd at HD hHeld  ⊢
      refine take_ (i := 0) (N := some 12) (v := ?_) (a' := ?_) #[true, false, false, false, false, false, false, false, false, false, false, false, false, false, false, false, false, false, false, false] rfl rfl (by kernel_rfl) (fun _ _ _ h => h) (Or.inl ⟨by rfl, ?_⟩) hHeld ?_ ?_
      rotate_left
      · rintro w' ⟨s0, s1, s2, s3, s4⟩
        go_simp
        with_reducible rfl
      rotate_left
      · simp only [Act.put, List.setIfInBounds_toArray, List.set_cons_zero, List.set_cons_succ, i64_w, i32_w]
        rfl
      refine one_ (i := 1) (N := some 13) #[true, true, false, false, false, false, false, false, false, false, false, false, false, false, false, false, false, false, false, false] rfl rfl (by kernel_rfl) (by decide) (fun K hK => ?_)
      refine goes_ Try.func51 (by kernel_rfl) rfl #[.agg #[.int .i64 xs[i].f0, .string xs[i].f1, .int .i64 xs[i].f2, .slice X3 xs[i].f3.length Xc3, .slice X4 xs[i].f4.length Xc4]] (by rfl) rfl rfl (by (try simp only [List.map_toArray, List.map_cons, List.map_nil]); first | done | rfl) ?_
      refine (HK.out _ HD.out).mono ?_
      rintro e w1 ⟨rfl, hb1⟩
      replace HD := Lib.hid (below_step HD.out hb1)
      clear hb1
      rw [HT.out]
      refine ⟨_, rfl, ?_⟩
      refine hK.out _ _ (HS0.out _ HD.out) (fun hHeld => ?_)
      clear hK K
      refine norm_ (a' := ?_) ?_ ?_
      rotate_left
      · show Act.put _ (some 13) _ = _
        simp only [Act.put, List.setIfInBounds_toArray, List.set_cons_zero, List.set_cons_succ, i64_w, i32_w]
        rfl
      refine pure_ (i := 2) (N := some 14) (v := ?_) (a' := ?_) #[true, true, true, false, false, false, false, false, false, false, false, false, false, false, false, false, false, false, false, false] rfl rfl (by kernel_rfl) (fun _ _ _ h => h) (Or.inl ⟨by rfl, ?_⟩) ?_ ?_
      rotate_left
      · intro w'
        go_simp
        with_reducible rfl
      rotate_left
      · simp only [Act.put, List.setIfInBounds_toArray, List.set_cons_zero, List.set_cons_succ, i64_w, i32_w]
        rfl
      refine pure_ (i := 3) (N := some 15) (v := ?_) (a' := ?_) #[true, true, true, true, false, false, false, false, false, false, false, false, false, false, false, false, false, false, false, false] rfl rfl (by kernel_rfl) (fun _ _ _ h => h) (Or.inl ⟨by rfl, ?_⟩) ?_ ?_
      rotate_left
      · intro w'
        go_simp
        with_reducible rfl
      rotate_left
      · simp only [Act.put, List.setIfInBounds_toArray, List.set_cons_zero, List.set_cons_succ, i64_w, i32_w]
        rfl
      refine pure_ (i := 4) (N := some 16) (v := ?_) (a' := ?_) #[true, true, true, true, true, false, false, false, false, false, false, false, false, false, false, false, false, false, false, false] rfl rfl (by kernel_rfl) (fun _ _ _ h => h) (Or.inl ⟨by rfl, ?_⟩) ?_ ?_
      rotate_left
      · intro w'
        go_simp
        with_reducible rfl
      rotate_left
      · simp only [Act.put, List.setIfInBounds_toArray, List.set_cons_zero, List.set_cons_succ, i64_w, i32_w]
        rfl
      refine take_ (i := 5) (N := some 17) (v := ?_) (a' := ?_) #[true, true, true, true, true, true, false, false, false, false, false, false, false, false, false, false, false, false, false, false] rfl rfl (by kernel_rfl) (fun _ _ _ h => h) (Or.inl ⟨by rfl, ?_⟩) hHeld ?_ ?_
      rotate_left
      · rintro w' ⟨s0, s1, s2, s3, s4⟩
        go_simp
        with_reducible rfl
      rotate_left
      · simp only [Act.put, List.setIfInBounds_toArray, List.set_cons_zero, List.set_cons_succ, i64_w, i32_w]
        rfl
      refine pure_ (i := 6) (N := some 18) (v := ?_) (a' := ?_) #[true, true, true, true, true, true, true, false, false, false, false, false, false, false, false, false, false, false, false, false] rfl rfl (by kernel_rfl) (fun _ _ _ h => h) (Or.inl ⟨by rfl, ?_⟩) ?_ ?_
      rotate_left
      · intro w'
        go_simp
        with_reducible rfl
      rotate_left
      · simp only [Act.put, List.setIfInBounds_toArray, List.set_cons_zero, List.set_cons_succ, i64_w, i32_w]
        rfl
      refine pure_ (i := 7) (N := some 19) (v := ?_) (a' := ?_) #[true, true, true, true, true, true, true, true, false, false, false, false, false, false, false, false, false, false, false, false] rfl rfl (by kernel_rfl) (fun _ _ _ h => h) (Or.inl ⟨by rfl, ?_⟩) ?_ ?_
      rotate_left
      · intro w'
        go_simp
        with_reducible rfl
      rotate_left
      · simp only [Act.put, List.setIfInBounds_toArray, List.set_cons_zero, List.set_cons_succ, i64_w, i32_w]
        rfl
      refine pure_ (i := 8) (N := some 20) (v := ?_) (a' := ?_) #[true, true, true, true, true, true, true, true, true, false, false, false, false, false, false, false, false, false, false, false] rfl rfl (by kernel_rfl) (fun _ _ _ h => h) (Or.inl ⟨by rfl, ?_⟩) ?_ ?_
      rotate_left
      · intro w'
        go_simp
        with_reducible rfl
      rotate_left
      · simp only [Act.put, List.setIfInBounds_toArray, List.set_cons_zero, List.set_cons_succ, i64_w, i32_w]
        rfl
      refine pure_ (i := 9) (N := some 21) (v := undef) (a' := ?_) #[true, true, true, true, true, true, true, true, true, true, false, false, false, false, false, false, false, false, false, false] rfl rfl (by kernel_rfl) (fun _ _ _ h => h) (Or.inr ⟨by rfl, rfl⟩) ?_ ?_
      rotate_left
      · simp only [Act.put, List.setIfInBounds_toArray, List.set_cons_zero, List.set_cons_succ, i64_w, i32_w]
        rfl
      refine pure_ (i := 10) (N := some 22) (v := undef) (a' := ?_) #[true, true, true, true, true, true, true, true, true, true, true, false, false, false, false, false, false, false, false, false] rfl rfl (by kernel_rfl) (fun _ _ _ h => h) (Or.inr ⟨by rfl, rfl⟩) ?_ ?_
      rotate_left
      · simp only [Act.put, List.setIfInBounds_toArray, List.set_cons_zero, List.set_cons_succ, i64_w, i32_w]
        rfl
      refine pure_ (i := 11) (N := some 23) (v := undef) (a' := ?_) #[true, true, true, true, true, true, true, true, true, true, true, true, false, false, false, false, false, false, false, false] rfl rfl (by kernel_rfl) (fun _ _ _ h => h) (Or.inr ⟨by rfl, rfl⟩) ?_ ?_
      rotate_left
      · simp only [Act.put, List.setIfInBounds_toArray, List.set_cons_zero, List.set_cons_succ, i64_w, i32_w]
        rfl
      refine pure_ (i := 12) (N := some 24) (v := ?_) (a' := ?_) #[true, true, true, true, true, true, true, true, true, true, true, true, true, false, false, false, false, false, false, false] rfl rfl (by kernel_rfl) (fun _ _ _ h => h) (Or.inl ⟨by rfl, ?_⟩) ?_ ?_
      rotate_left
      · intro w'
        go_simp
        with_reducible rfl
      rotate_left
      · simp only [Act.put, List.setIfInBounds_toArray, List.set_cons_zero, List.set_cons_succ, i64_w, i32_w]
        rfl
      refine pure_ (i := 13) (N := some 25) (v := ?_) (a' := ?_) #[true, true, true, true, true, true, true, true, true, true, true, true, true, true, false, false, false, false, false, false] rfl rfl (by kernel_rfl) (fun _ _ _ h => h) (Or.inl ⟨by rfl, ?_⟩) ?_ ?_
      rotate_left
      · intro w'
        go_simp
        with_reducible rfl
      rotate_left
      · simp only [Act.put, List.setIfInBounds_toArray, List.set_cons_zero, List.set_cons_succ, i64_w, i32_w]
        rfl
      refine pure_ (i := 14) (N := some 26) (v := undef) (a' := ?_) #[true, true, true, true, true, true, true, true, true, true, true, true, true, true, true, false, false, false, false, false] rfl rfl (by kernel_rfl) (fun _ _ _ h => h) (Or.inr ⟨by rfl, rfl⟩) ?_ ?_
      rotate_left
      · simp only [Act.put, List.setIfInBounds_toArray, List.set_cons_zero, List.set_cons_succ, i64_w, i32_w]
        rfl
      refine pure_ (i := 15) (N := some 27) (v := undef) (a' := ?_) #[true, true, true, true, true, true, true, true, true, true, true, true, true, true, true, true, false, false, false, false] rfl rfl (by kernel_rfl) (fun _ _ _ h => h) (Or.inr ⟨by rfl, rfl⟩) ?_ ?_
      rotate_left
      · simp only [Act.put, List.setIfInBounds_toArray, List.set_cons_zero, List.set_cons_succ, i64_w, i32_w]
        rfl
      refine pure_ (i := 16) (N := some 28) (v := undef) (a' := ?_) #[true, true, true, true, true, true, true, true, true, true, true, true, true, true, true, true, true, false, false, false] rfl rfl (by kernel_rfl) (fun _ _ _ h => h) (Or.inr ⟨by rfl, rfl⟩) ?_ ?_
      rotate_left
      · simp only [Act.put, List.setIfInBounds_toArray, List.set_cons_zero, List.set_cons_succ, i64_w, i32_w]
        rfl
      refine pure_ (i := 17) (N := some 29) (v := undef) (a' := ?_) #[true, true, true, true, true, true, true, true, true, true, true, true, true, true, true, true, true, true, false, false] rfl rfl (by kernel_rfl) (fun _ _ _ h => h) (Or.inr ⟨by rfl, rfl⟩) ?_ ?_
      rotate_left
      · simp only [Act.put, List.setIfInBounds_toArray, List.set_cons_zero, List.set_cons_succ, i64_w, i32_w]
        rfl
      refine one_ (i := 18) (N := some 30) #[true, true, true, true, true, true, true, true, true, true, true, true, true, true, true, true, true, true, true, false] rfl rfl (by kernel_rfl) (by decide) (fun K hK => ?_)
      refine off_ (by rfl) ?_
      refine hK.out _ _ (HS0.out _ HD.out) (fun hHeld => ?_)
      clear hK K
      refine norm_ (a' := ?_) ?_ ?_
      rotate_left
      · show Act.put _ (some 30) _ = _
        simp only [Act.put, List.setIfInBounds_toArray, List.set_cons_zero, List.set_cons_succ, i64_w, i32_w]
        rfl
      refine pure_ (i := 19) (N := some 31) (v := ?_) (a' := ?_) #[true, true, true, true, true, true, true, true, true, true, true, true, true, true, true, true, true, true, true, true] rfl rfl (by kernel_rfl) (fun _ _ _ h => h) (Or.inl ⟨by rfl, ?_⟩) ?_ ?_
      rotate_left
      · intro w'
        go_simp
        with_reducible rfl
      rotate_left
      · simp only [Act.put, List.setIfInBounds_toArray, List.set_cons_zero, List.set_cons_succ, i64_w, i32_w]
        rfl
      refine done_ (by kernel_rfl) ?_
      have HB := Lib.hid (below_step HW.out (below_step (below_new _ _) HD.out))
      clear HD HS0
      go_wp2_with fail
      go_ret
      exact ⟨ret_b (pB_no (fun h => (h.2 i hlt).1.2.1 NE.out)), HB.out⟩
    have t2 : (xs[i].f1.toList == [46, 46, 46]) = false := by simpa using h2
    have E2 := Lib.hid h2
    clear h2
    by_cases h3 : xs[i].f1.toList = [95]
    · have t3 : (xs[i].f1.toList == [95]) = true := by simpa using h3
      have NE := Lib.hid h3
      clear h3
      go_wp2_with fail
      clear g0 g1 g2 g3 g4
      refine start_ (n := 20) (S := (fun W : World => W.cell? ⟨wr.heap.size, 0, none⟩ = some (.int .i64 xs[i].f0) ∧ W.cell? ⟨wr.heap.size, 1, none⟩ = some (.string xs[i].f1) ∧ W.cell? ⟨wr.heap.size, 2, none⟩ = some (.int .i64 xs[i].f2) ∧ W.cell? ⟨wr.heap.size, 3, none⟩ = some (.slice X3 xs[i].f3.length Xc3) ∧ W.cell? ⟨wr.heap.size, 4, none⟩ = some (.slice X4 xs[i].f4.length Xc4))) (ds := []) #[false, false, false, false, false, false, false, false, false, false, false, false, false, false, false, false, false, false, false, false] (by kernel_rfl) rfl rfl (HS0.out _ HD.out) (fun hHeld => ?_)
      generalize World.drew _ = wd at HD hHeld  ⊢
      refine take_ (i := 0) (N := some 12) (v := ?_) (a' := ?_) #[true, false, false, false, false, false, false, false, false, false, false, false, false, false, false, false, false, false, false, false] rfl rfl (by kernel_rfl) (fun _ _ _ h => h) (Or.inl ⟨by rfl, ?_⟩) hHeld ?_ ?_
      rotate_left
      · rintro w' ⟨s0, s1, s2, s3, s4⟩
        go_simp
        with_reducible rfl
      rotate_left
      · simp only [Act.put, List.setIfInBounds_toArray, List.set_cons_zero, List.set_cons_succ, i64_w, i32_w]
        rfl
      refine one_ (i := 1) (N := some 13) #[true, true, false, false, false, false, false, false, false, false, false, false, false, false, false, false, false, false, false, false] rfl rfl (by kernel_rfl) (by decide) (fun K hK => ?_)
      refine goes_ Try.func51 (by kernel_rfl) rfl #[.agg #[.int .i64 xs[i].f0, .string xs[i].f1, .int .i64 xs[i].f2, .slice X3 xs[i].f3.length Xc3, .slice X4 xs[i].f4.length Xc4]] (by rfl) rfl rfl (by (try simp only [List.map_toArray, List.map_cons, List.map_nil]); first | done | rfl) ?_
      refine (HK.out _ HD.out).mono ?_
      rintro e w1 ⟨rfl, hb1⟩
      replace HD := Lib.hid (below_step HD.out hb1)
      clear hb1
      rw [HT.out]
      refine ⟨_, rfl, ?_⟩
      refine hK.out _ _ (HS0.out _ HD.out) (fun hHeld => ?_)
      clear hK K
      refine norm_ (a' := ?_) ?_ ?_
      rotate_left
      · show Act.put _ (some 13) _ = _
        simp only [Act.put, List.setIfInBounds_toArray, List.set_cons_zero, List.set_cons_succ, i64_w, i32_w]
        rfl
      refine pure_ (i := 2) (N := some 14) (v := ?_) (a' := ?_) #[true, true, true, false, false, false, false, false, false, false, false, false, false, false, false, false, false, false, false, false] rfl rfl (by kernel_rfl) (fun _ _ _ h => h) (Or.inl ⟨by rfl, ?_⟩) ?_ ?_
      rotate_left
      · intro w'
        go_simp
        with_reducible rfl
      rotate_left
      · simp only [Act.put, List.setIfInBounds_toArray, List.set_cons_zero, List.set_cons_succ, i64_w, i32_w]
        rfl
      refine pure_ (i := 3) (N := some 15) (v := ?_) (a' := ?_) #[true, true, true, true, false, false, false, false, false, false, false, false, false, false, false, false, false, false, false, false] rfl rfl (by kernel_rfl) (fun _ _ _ h => h) (Or.inl ⟨by rfl, ?_⟩) ?_ ?_
      rotate_left
      · intro w'
        go_simp
        with_reducible rfl
      rotate_left
      · simp only [Act.put, List.setIfInBounds_toArray, List.set_cons_zero, List.set_cons_succ, i64_w, i32_w]
        rfl
      refine pure_ (i := 4) (N := some 16) (v := ?_) (a' := ?_) #[true, true, true, true, true, false, false, false, false, false, false, false, false, false, false, false, false, false, false, false] rfl rfl (by kernel_rfl) (fun _ _ _ h => h) (Or.inl ⟨by rfl, ?_⟩) ?_ ?_
      rotate_left
      · intro w'
        go_simp
        with_reducible rfl
      rotate_left
      · simp only [Act.put, List.setIfInBounds_toArray, List.set_cons_zero, List.set_cons_succ, i64_w, i32_w]
        rfl
      refine take_ (i := 5) (N := some 17) (v := ?_) (a' := ?_) #[true, true, true, true, true, true, false, false, false, false, false, false, false, false, false, false, false, false, false, false] rfl rfl (by kernel_rfl) (fun _ _ _ h => h) (Or.inl ⟨by rfl, ?_⟩) hHeld ?_ ?_
      rotate_left
      · rintro w' ⟨s0, s1, s2, s3, s4⟩
        go_simp
        with_reducible rfl
      rotate_left
      · simp only [Act.put, List.setIfInBounds_toArray, List.set_cons_zero, List.set_cons_succ, i64_w, i32_w]
        rfl
      refine pure_ (i := 6) (N := some 18) (v := ?_) (a' := ?_) #[true, true, true, true, true, true, true, false, false, false, false, false, false, false, false, false, false, false, false, false] rfl rfl (by kernel_rfl) (fun _ _ _ h => h) (Or.inl ⟨by rfl, ?_⟩) ?_ ?_
      rotate_left
      · intro w'
        go_simp
        with_reducible rfl
      rotate_left
      · simp only [Act.put, List.setIfInBounds_toArray, List.set_cons_zero, List.set_cons_succ, i64_w, i32_w]
        rfl
      refine pure_ (i := 7) (N := some 19) (v := ?_) (a' := ?_) #[true, true, true, true, true, true, true, true, false, false, false, false, false, false, false, false, false, false, false, false] rfl rfl (by kernel_rfl) (fun _ _ _ h => h) (Or.inl ⟨by rfl, ?_⟩) ?_ ?_
      rotate_left
      · intro w'
        go_simp
        with_reducible rfl
      rotate_left
      · simp only [Act.put, List.setIfInBounds_toArray, List.set_cons_zero, List.set_cons_succ, i64_w, i32_w]
        rfl
      refine pure_ (i := 8) (N := some 20) (v := ?_) (a' := ?_) #[true, true, true, true, true, true, true, true, true, false, false, false, false, false, false, false, false, false, false, false] rfl rfl (by kernel_rfl) (fun _ _ _ h => h) (Or.inl ⟨by rfl, ?_⟩) ?_ ?_
      rotate_left
      · intro w'
        go_simp
        with_reducible rfl
      rotate_left
      · simp only [Act.put, List.setIfInBounds_toArray, List.set_cons_zero, List.set_cons_succ, i64_w, i32_w]
        rfl
      refine pure_ (i := 9) (N := some 21) (v := ?_) (a' := ?_) #[true, true, true, true, true, true, true, true, true, true, false, false, false, false, false, false, false, false, false, false] rfl rfl (by kernel_rfl) (fun _ _ _ h => h) (Or.inl ⟨by rfl, ?_⟩) ?_ ?_
      rotate_left
      · intro w'
        go_simp
        with_reducible rfl
      rotate_left
      · simp only [Act.put, List.setIfInBounds_toArray, List.set_cons_zero, List.set_cons_succ, i64_w, i32_w]
        rfl
      refine take_ (i := 10) (N := some 22) (v := ?_) (a' := ?_) #[true, true, true, true, true, true, true, true, true, true, true, false, false, false, false, false, false, false, false, false] rfl rfl (by kernel_rfl) (fun _ _ _ h => h) (Or.inl ⟨by rfl, ?_⟩) hHeld ?_ ?_
      rotate_left
      · rintro w' ⟨s0, s1, s2, s3, s4⟩
        go_simp
        with_reducible rfl
      rotate_left
      · simp only [Act.put, List.setIfInBounds_toArray, List.set_cons_zero, List.set_cons_succ, i64_w, i32_w]
        rfl
      refine pure_ (i := 11) (N := some 23) (v := ?_) (a' := ?_) #[true, true, true, true, true, true, true, true, true, true, true, true, false, false, false, false, false, false, false, false] rfl rfl (by kernel_rfl) (fun _ _ _ h => h) (Or.inl ⟨by rfl, ?_⟩) ?_ ?_
      rotate_left
      · intro w'
        go_simp
        with_reducible rfl
      rotate_left
      · simp only [Act.put, List.setIfInBounds_toArray, List.set_cons_zero, List.set_cons_succ, i64_w, i32_w]
        rfl
      refine pure_ (i := 12) (N := some 24) (v := ?_) (a' := ?_) #[true, true, true, true, true, true, true, true, true, true, true, true, true, false, false, false, false, false, false, false] rfl rfl (by kernel_rfl) (fun _ _ _ h => h) (Or.inl ⟨by rfl, ?_⟩) ?_ ?_
      rotate_left
      · intro w'
        go_simp
        with_reducible rfl
      rotate_left
      · simp only [Act.put, List.setIfInBounds_toArray, List.set_cons_zero, List.set_cons_succ, i64_w, i32_w]
        rfl
      refine pure_ (i := 13) (N := some 25) (v := ?_) (a' := ?_) #[true, true, true, true, true, true, true, true, true, true, true, true, true, true, false, false, false, false, false, false] rfl rfl (by kernel_rfl) (fun _ _ _ h => h) (Or.inl ⟨by rfl, ?_⟩) ?_ ?_
      rotate_left
      · intro w'
        go_simp
        with_reducible rfl
      rotate_left
      · simp only [Act.put, List.setIfInBounds_toArray, List.set_cons_zero, List.set_cons_succ, i64_w, i32_w]
        rfl
      refine pure_ (i := 14) (N := some 26) (v := undef) (a' := ?_) #[true, true, true, true, true, true, true, true, true, true, true, true, true, true, true, false, false, false, false, false] rfl rfl (by kernel_rfl) (fun _ _ _ h => h) (Or.inr ⟨by rfl, rfl⟩) ?_ ?_
      rotate_left
      · simp only [Act.put, List.setIfInBounds_toArray, List.set_cons_zero, List.set_cons_succ, i64_w, i32_w]
        rfl
      refine pure_ (i := 15) (N := some 27) (v := undef) (a' := ?_) #[true, true, true, true, true, true, true, true, true, true, true, true, true, true, true, true, false, false, false, false] rfl rfl (by kernel_rfl) (fun _ _ _ h => h) (Or.inr ⟨by rfl, rfl⟩) ?_ ?_
      rotate_left
      · simp only [Act.put, List.setIfInBounds_toArray, List.set_cons_zero, List.set_cons_succ, i64_w, i32_w]
        rfl
      refine pure_ (i := 16) (N := some 28) (v := undef) (a' := ?_) #[true, true, true, true, true, true, true, true, true, true, true, true, true, true, true, true, true, false, false, false] rfl rfl (by kernel_rfl) (fun _ _ _ h => h) (Or.inr ⟨by rfl, rfl⟩) ?_ ?_
      rotate_left
      · simp only [Act.put, List.setIfInBounds_toArray, List.set_cons_zero, List.set_cons_succ, i64_w, i32_w]
        rfl
      refine pure_ (i := 17) (N := some 29) (v := undef) (a' := ?_) #[true, true, true, true, true, true, true, true, true, true, true, true, true, true, true, true, true, true, false, false] rfl rfl (by kernel_rfl) (fun _ _ _ h => h) (Or.inr ⟨by rfl, rfl⟩) ?_ ?_
      rotate_left
      · simp only [Act.put, List.setIfInBounds_toArray, List.set_cons_zero, List.set_cons_succ, i64_w, i32_w]
        rfl
      refine one_ (i := 18) (N := some 30) #[true, true, true, true, true, true, true, true, true, true, true, true, true, true, true, true, true, true, true, false] rfl rfl (by kernel_rfl) (by decide) (fun K hK => ?_)
      refine off_ (by rfl) ?_
      refine hK.out _ _ (HS0.out _ HD.out) (fun hHeld => ?_)
      clear hK K
      refine norm_ (a' := ?_) ?_ ?_
      rotate_left
      · show Act.put _ (some 30) _ = _
        simp only [Act.put, List.setIfInBounds_toArray, List.set_cons_zero, List.set_cons_succ, i64_w, i32_w]
        rfl
      refine pure_ (i := 19) (N := some 31) (v := ?_) (a' := ?_) #[true, true, true, true, true, true, true, true, true, true, true, true, true, true, true, true, true, true, true, true] rfl rfl (by kernel_rfl) (fun _ _ _ h => h) (Or.inl ⟨by rfl, ?_⟩) ?_ ?_
      rotate_left
      · intro w'
        go_simp
        with_reducible rfl
      rotate_left
      · simp only [Act.put, List.setIfInBounds_toArray, List.set_cons_zero, List.set_cons_succ, i64_w, i32_w]
        rfl
      refine done_ (by kernel_rfl) ?_
      have HB := Lib.hid (below_step HW.out (below_step (below_new _ _) HD.out))
      clear HD HS0
      go_wp2_with fail
      go_ret
      exact ⟨ret_b (pB_no (fun h => (h.2 i hlt).1.2.2 NE.out)), HB.out⟩
    have t3 : (xs[i].f1.toList == [95]) = false := by simpa using h3
    have E3 := Lib.hid h3
    clear h3
    cases hz : (xs.take i).any (fun a => eqB a xs[i]) with
    | true =>
      have HZ := Lib.hid hz
      clear hz
      go_wp2_with fail
      clear g0 g1 g2 g3 g4
      refine start_ (n := 20) (S := (fun W : World => W.cell? ⟨wr.heap.size, 0, none⟩ = some (.int .i64 xs[i].f0) ∧ W.cell? ⟨wr.heap.size, 1, none⟩ = some (.string xs[i].f1) ∧ W.cell? ⟨wr.heap.size, 2, none⟩ = some (.int .i64 xs[i].f2) ∧ W.cell? ⟨wr.heap.size, 3, none⟩ = some (.slice X3 xs[i].f3.length Xc3) ∧ W.cell? ⟨wr.heap.size, 4, none⟩ = some (.slice X4 xs[i].f4.length Xc4))) (ds := []) #[false, false, false, false, false, false, false, false, false, false, false, false, false, false, false, false, false, false, false, false] (by kernel_rfl) rfl rfl (HS0.out _ HD.out) (fun hHeld => ?_)
      generalize World.drew _ = wd at HD hHeld  ⊢
      refine take_ (i := 0) (N := some 12) (v := ?_) (a' := ?_) #[true, false, false, false, false, false, false, false, false, false, false, false, false, false, false, false, false, false, false, false] rfl rfl (by kernel_rfl) (fun _ _ _ h => h) (Or.inl ⟨by rfl, ?_⟩) hHeld ?_ ?_
      rotate_left
      · rintro w' ⟨s0, s1, s2, s3, s4⟩
        go_simp
        with_reducible rfl
      rotate_left
      · simp only [Act.put, List.setIfInBounds_toArray, List.set_cons_zero, List.set_cons_succ, i64_w, i32_w]
        rfl
      refine one_ (i := 1) (N := some 13) #[true, true, false, false, false, false, false, false, false, false, false, false, false, false, false, false, false, false, false, false] rfl rfl (by kernel_rfl) (by decide) (fun K hK => ?_)
      refine goes_ Try.func51 (by kernel_rfl) rfl #[.agg #[.int .i64 xs[i].f0, .string xs[i].f1, .int .i64 xs[i].f2, .slice X3 xs[i].f3.length Xc3, .slice X4 xs[i].f4.length Xc4]] (by rfl) rfl rfl (by (try simp only [List.map_toArray, List.map_cons, List.map_nil]); first | done | rfl) ?_
      refine (HK.out _ HD.out).mono ?_
      rintro e w1 ⟨rfl, hb1⟩
      replace HD := Lib.hid (below_step HD.out hb1)
      clear hb1
      rw [HT.out]
      refine ⟨_, rfl, ?_⟩
      refine hK.out _ _ (HS0.out _ HD.out) (fun hHeld => ?_)
      clear hK K
      refine norm_ (a' := ?_) ?_ ?_
      rotate_left
      · show Act.put _ (some 13) _ = _
        simp only [Act.put, List.setIfInBounds_toArray, List.set_cons_zero, List.set_cons_succ, i64_w, i32_w]
        rfl
      refine pure_ (i := 2) (N := some 14) (v := ?_) (a' := ?_) #[true, true, true, false, false, false, false, false, false, false, false, false, false, false, false, false, false, false, false, false] rfl rfl (by kernel_rfl) (fun _ _ _ h => h) (Or.inl ⟨by rfl, ?_⟩) ?_ ?_
      rotate_left
      · intro w'
        go_simp
        with_reducible rfl
      rotate_left
      · simp only [Act.put, List.setIfInBounds_toArray, List.set_cons_zero, List.set_cons_succ, i64_w, i32_w]
        rfl
      refine pure_ (i := 3) (N := some 15) (v := ?_) (a' := ?_) #[true, true, true, true, false, false, false, false, false, false, false, false, false, false, false, false, false, false, false, false] rfl rfl (by kernel_rfl) (fun _ _ _ h => h) (Or.inl ⟨by rfl, ?_⟩) ?_ ?_
      rotate_left
      · intro w'
        go_simp
        with_reducible rfl
      rotate_left
      · simp only [Act.put, List.setIfInBounds_toArray, List.set_cons_zero, List.set_cons_succ, i64_w, i32_w]
        rfl
      refine pure_ (i := 4) (N := some 16) (v := ?_) (a' := ?_) #[true, true, true, true, true, false, false, false, false, false, false, false, false, false, false, false, false, false, false, false] rfl rfl (by kernel_rfl) (fun _ _ _ h => h) (Or.inl ⟨by rfl, ?_⟩) ?_ ?_
      rotate_left
      · intro w'
        go_simp
        with_reducible rfl
      rotate_left
      · simp only [Act.put, List.setIfInBounds_toArray, List.set_cons_zero, List.set_cons_succ, i64_w, i32_w]
        rfl
      refine take_ (i := 5) (N := some 17) (v := ?_) (a' := ?_) #[true, true, true, true, true, true, false, false, false, false, false, false, false, false, false, false, false, false, false, false] rfl rfl (by kernel_rfl) (fun _ _ _ h => h) (Or.inl ⟨by rfl, ?_⟩) hHeld ?_ ?_
      rotate_left
      · rintro w' ⟨s0, s1, s2, s3, s4⟩
        go_simp
        with_reducible rfl
      rotate_left
      · simp only [Act.put, List.setIfInBounds_toArray, List.set_cons_zero, List.set_cons_succ, i64_w, i32_w]
        rfl
      refine pure_ (i := 6) (N := some 18) (v := ?_) (a' := ?_) #[true, true, true, true, true, true, true, false, false, false, false, false, false, false, false, false, false, false, false, false] rfl rfl (by kernel_rfl) (fun _ _ _ h => h) (Or.inl ⟨by rfl, ?_⟩) ?_ ?_
      rotate_left
      · intro w'
        go_simp
        with_reducible rfl
      rotate_left
      · simp only [Act.put, List.setIfInBounds_toArray, List.set_cons_zero, List.set_cons_succ, i64_w, i32_w]
        rfl
      refine pure_ (i := 7) (N := some 19) (v := ?_) (a' := ?_) #[true, true, true, true, true, true, true, true, false, false, false, false, false, false, false, false, false, false, false, false] rfl rfl (by kernel_rfl) (fun _ _ _ h => h) (Or.inl ⟨by rfl, ?_⟩) ?_ ?_
      rotate_left
      · intro w'
        go_simp
        with_reducible rfl
      rotate_left
      · simp only [Act.put, List.setIfInBounds_toArray, List.set_cons_zero, List.set_cons_succ, i64_w, i32_w]
        rfl
      refine pure_ (i := 8) (N := some 20) (v := ?_) (a' := ?_) #[true, true, true, true, true, true, true, true, true, false, false, false, false, false, false, false, false, false, false, false] rfl rfl (by kernel_rfl) (fun _ _ _ h => h) (Or.inl ⟨by rfl, ?_⟩) ?_ ?_
      rotate_left
      · intro w'
        go_simp
        with_reducible rfl
      rotate_left
      · simp only [Act.put, List.setIfInBounds_toArray, List.set_cons_zero, List.set_cons_succ, i64_w, i32_w]
        rfl
      refine pure_ (i := 9) (N := some 21) (v := ?_) (a' := ?_) #[true, true, true, true, true, true, true, true, true, true, false, false, false, false, false, false, false, false, false, false] rfl rfl (by kernel_rfl) (fun _ _ _ h => h) (Or.inl ⟨by rfl, ?_⟩) ?_ ?_
      rotate_left
      · intro w'
        go_simp
        with_reducible rfl
      rotate_left
      · simp only [Act.put, List.setIfInBounds_toArray, List.set_cons_zero, List.set_cons_succ, i64_w, i32_w]
        rfl
      refine take_ (i := 10) (N := some 22) (v := ?_) (a' := ?_) #[true, true, true, true, true, true, true, true, true, true, true, false, false, false, false, false, false, false, false, false] rfl rfl (by kernel_rfl) (fun _ _ _ h => h) (Or.inl ⟨by rfl, ?_⟩) hHeld ?_ ?_
      rotate_left
      · rintro w' ⟨s0, s1, s2, s3, s4⟩
        go_simp
        with_reducible rfl
      rotate_left
      · simp only [Act.put, List.setIfInBounds_toArray, List.set_cons_zero, List.set_cons_succ, i64_w, i32_w]
        rfl
      refine pure_ (i := 11) (N := some 23) (v := ?_) (a' := ?_) #[true, true, true, true, true, true, true, true, true, true, true, true, false, false, false, false, false, false, false, false] rfl rfl (by kernel_rfl) (fun _ _ _ h => h) (Or.inl ⟨by rfl, ?_⟩) ?_ ?_
      rotate_left
      · intro w'
        go_simp
        with_reducible rfl
      rotate_left
      · simp only [Act.put, List.setIfInBounds_toArray, List.set_cons_zero, List.set_cons_succ, i64_w, i32_w]
        rfl
      refine pure_ (i := 12) (N := some 24) (v := ?_) (a' := ?_) #[true, true, true, true, true, true, true, true, true, true, true, true, true, false, false, false, false, false, false, false] rfl rfl (by kernel_rfl) (fun _ _ _ h => h) (Or.inl ⟨by rfl, ?_⟩) ?_ ?_
      rotate_left
      · intro w'
        go_simp
        with_reducible rfl
      rotate_left
      · simp only [Act.put, List.setIfInBounds_toArray, List.set_cons_zero, List.set_cons_succ, i64_w, i32_w]
        rfl
      refine pure_ (i := 13) (N := some 25) (v := ?_) (a' := ?_) #[true, true, true, true, true, true, true, true, true, true, true, true, true, true, false, false, false, false, false, false] rfl rfl (by kernel_rfl) (fun _ _ _ h => h) (Or.inl ⟨by rfl, ?_⟩) ?_ ?_
      rotate_left
      · intro w'
        go_simp
        with_reducible rfl
      rotate_left
      · simp only [Act.put, List.setIfInBounds_toArray, List.set_cons_zero, List.set_cons_succ, i64_w, i32_w]
        rfl
      refine pure_ (i := 14) (N := some 26) (v := ?_) (a' := ?_) #[true, true, true, true, true, true, true, true, true, true, true, true, true, true, true, false, false, false, false, false] rfl rfl (by kernel_rfl) (fun _ _ _ h => h) (Or.inl ⟨by rfl, ?_⟩) ?_ ?_
      rotate_left
      · intro w'
        go_simp
        with_reducible rfl
      rotate_left
      · simp only [Act.put, List.setIfInBounds_toArray, List.set_cons_zero, List.set_cons_succ, i64_w, i32_w]
        rfl
      refine pure_ (i := 15) (N := some 27) (v := ?_) (a' := ?_) #[true, true, true, true, true, true, true, true, true, true, true, true, true, true, true, true, false, false, false, false] rfl rfl (by kernel_rfl) (fun _ _ _ h => h) (Or.inl ⟨by rfl, ?_⟩) ?_ ?_
      rotate_left
      · intro w'
        go_simp
        with_reducible rfl
      rotate_left
      · simp only [Act.put, List.setIfInBounds_toArray, List.set_cons_zero, List.set_cons_succ, i64_w, i32_w]
        rfl
      refine pure_ (i := 16) (N := some 28) (v := ?_) (a' := ?_) #[true, true, true, true, true, true, true, true, true, true, true, true, true, true, true, true, true, false, false, false] rfl rfl (by kernel_rfl) (fun _ _ _ h => h) (Or.inl ⟨by rfl, ?_⟩) ?_ ?_
      rotate_left
      · intro w'
        go_simp
        with_reducible rfl
      rotate_left
      · simp only [Act.put, List.setIfInBounds_toArray, List.set_cons_zero, List.set_cons_succ, i64_w, i32_w]
        rfl
      refine take_ (i := 17) (N := some 29) (v := ?_) (a' := ?_) #[true, true, true, true, true, true, true, true, true, true, true, true, true, true, true, true, true, true, false, false] rfl rfl (by kernel_rfl) (fun _ _ _ h => h) (Or.inl ⟨by rfl, ?_⟩) hHeld ?_ ?_
      rotate_left
      · rintro w' ⟨s0, s1, s2, s3, s4⟩
        go_simp
        with_reducible rfl
      rotate_left
      · simp only [Act.put, List.setIfInBounds_toArray, List.set_cons_zero, List.set_cons_succ, i64_w, i32_w]
        rfl
      refine one_ (i := 18) (N := some 30) #[true, true, true, true, true, true, true, true, true, true, true, true, true, true, true, true, true, true, true, false] rfl rfl (by kernel_rfl) (by decide) (fun K hK => ?_)
      refine goes_ Try.func77 (by kernel_rfl) rfl #[.slice (some ad) (i : Nat) c, .agg #[.int .i64 xs[i].f0, .string xs[i].f1, .int .i64 xs[i].f2, .slice X3 xs[i].f3.length Xc3, .slice X4 xs[i].f4.length Xc4]] (by rfl) rfl rfl (by (try simp only [List.map_toArray, List.map_cons, List.map_nil]); first | done | rfl) ?_
      refine (HF.out _ HD.out).mono ?_
      rintro e w1 ⟨rfl, hb1⟩
      replace HD := Lib.hid (below_step HD.out hb1)
      clear hb1
      rw [HZ.out]
      refine ⟨_, rfl, ?_⟩
      refine hK.out _ _ (HS0.out _ HD.out) (fun hHeld => ?_)
      clear hK K
      refine norm_ (a' := ?_) ?_ ?_
      rotate_left
      · show Act.put _ (some 30) _ = _
        simp only [Act.put, List.setIfInBounds_toArray, List.set_cons_zero, List.set_cons_succ, i64_w, i32_w]
        rfl
      refine pure_ (i := 19) (N := some 31) (v := ?_) (a' := ?_) #[true, true, true, true, true, true, true, true, true, true, true, true, true, true, true, true, true, true, true, true] rfl rfl (by kernel_rfl) (fun _ _ _ h => h) (Or.inl ⟨by rfl, ?_⟩) ?_ ?_
      rotate_left
      · intro w'
        go_simp
        with_reducible rfl
      rotate_left
      · simp only [Act.put, List.setIfInBounds_toArray, List.set_cons_zero, List.set_cons_succ, i64_w, i32_w]
        rfl
      refine done_ (by kernel_rfl) ?_
      have HB := Lib.hid (below_step HW.out (below_step (below_new _ _) HD.out))
      clear HD HS0
      go_wp2_with fail
      go_ret
      exact ⟨ret_b (pB_no (fun h => by have := (h.2 i hlt).2; rw [HZ.out] at this; cases this)), HB.out⟩
    | false =>
      have HZ := Lib.hid hz
      clear hz
      go_wp2_with fail
      clear g0 g1 g2 g3 g4
      refine start_ (n := 20) (S := (fun W : World => W.cell? ⟨wr.heap.size, 0, none⟩ = some (.int .i64 xs[i].f0) ∧ W.cell? ⟨wr.heap.size, 1, none⟩ = some (.string xs[i].f1) ∧ W.cell? ⟨wr.heap.size, 2, none⟩ = some (.int .i64 xs[i].f2) ∧ W.cell? ⟨wr.heap.size, 3, none⟩ = some (.slice X3 xs[i].f3.length Xc3) ∧ W.cell? ⟨wr.heap.size, 4, none⟩ = some (.slice X4 xs[i].f4.length Xc4))) (ds := []) #[false, false, false, false, false, false, false, false, false, false, false, false, false, false, false, false, false, false, false, false] (by kernel_rfl) rfl rfl (HS0.out _ HD.out) (fun hHeld => ?_)
      generalize World.drew _ = wd at HD hHeld  ⊢
      refine take_ (i := 0) (N := some 12) (v := ?_) (a' := ?_) #[true, false, false, false, false, false, false, false, false, false, false, false, false, false, false, false, false, false, false, false] rfl rfl (by kernel_rfl) (fun _ _ _ h => h) (Or.inl ⟨by rfl, ?_⟩) hHeld ?_ ?_
      rotate_left
      · rintro w' ⟨s0, s1, s2, s3, s4⟩
        go_simp
        with_reducible rfl
      rotate_left
      · simp only [Act.put, List.setIfInBounds_toArray, List.set_cons_zero, List.set_cons_succ, i64_w, i32_w]
        rfl
      refine one_ (i := 1) (N := some 13) #[true, true, false, false, false, false, false, false, false, false, false, false, false, false, false, false, false, false, false, false] rfl rfl (by kernel_rfl) (by decide) (fun K hK => ?_)
      refine goes_ Try.func51 (by kernel_rfl) rfl #[.agg #[.int .i64 xs[i].f0, .string xs[i].f1, .int .i64 xs[i].f2, .slice X3 xs[i].f3.length Xc3, .slice X4 xs[i].f4.length Xc4]] (by rfl) rfl rfl (by (try simp only [List.map_toArray, List.map_cons, List.map_nil]); first | done | rfl) ?_
      refine (HK.out _ HD.out).mono ?_
      rintro e w1 ⟨rfl, hb1⟩
      replace HD := Lib.hid (below_step HD.out hb1)
      clear hb1
      rw [HT.out]
      refine ⟨_, rfl, ?_⟩
      refine hK.out _ _ (HS0.out _ HD.out) (fun hHeld => ?_)
      clear hK K
      refine norm_ (a' := ?_) ?_ ?_
      rotate_left
      · show Act.put _ (some 13) _ = _
        simp only [Act.put, List.setIfInBounds_toArray, List.set_cons_zero, List.set_cons_succ, i64_w, i32_w]
        rfl
      refine pure_ (i := 2) (N := some 14) (v := ?_) (a' := ?_) #[true, true, true, false, false, false, false, false, false, false, false, false, false, false, false, false, false, false, false, false] rfl rfl (by kernel_rfl) (fun _ _ _ h => h) (Or.inl ⟨by rfl, ?_⟩) ?_ ?_
      rotate_left
      · intro w'
        go_simp
        with_reducible rfl
      rotate_left
      · simp only [Act.put, List.setIfInBounds_toArray, List.set_cons_zero, List.set_cons_succ, i64_w, i32_w]
        rfl
      refine pure_ (i := 3) (N := some 15) (v := ?_) (a' := ?_) #[true, true, true, true, false, false, false, false, false, false, false, false, false, false, false, false, false, false, false, false] rfl rfl (by kernel_rfl) (fun _ _ _ h => h) (Or.inl ⟨by rfl, ?_⟩) ?_ ?_
      rotate_left
      · intro w'
        go_simp
        with_reducible rfl
      rotate_left
      · simp only [Act.put, List.setIfInBounds_toArray, List.set_cons_zero, List.set_cons_succ, i64_w, i32_w]
        rfl
      refine pure_ (i := 4) (N := some 16) (v := ?_) (a' := ?_) #[true, true, true, true, true, false, false, false, false, false, false, false, false, false, false, false, false, false, false, false] rfl rfl (by kernel_rfl) (fun _ _ _ h => h) (Or.inl ⟨by rfl, ?_⟩) ?_ ?_
      rotate_left
      · intro w'
        go_simp
        with_reducible rfl
      rotate_left
      · simp only [Act.put, List.setIfInBounds_toArray, List.set_cons_zero, List.set_cons_succ, i64_w, i32_w]
        rfl
      refine take_ (i := 5) (N := some 17) (v := ?_) (a' := ?_) #[true, true, true, true, true, true, false, false, false, false, false, false, false, false, false, false, false, false, false, false] rfl rfl (by kernel_rfl) (fun _ _ _ h => h) (Or.inl ⟨by rfl, ?_⟩) hHeld ?_ ?_
      rotate_left
      · rintro w' ⟨s0, s1, s2, s3, s4⟩
        go_simp
        with_reducible rfl
      rotate_left
      · simp only [Act.put, List.setIfInBounds_toArray, List.set_cons_zero, List.set_cons_succ, i64_w, i32_w]
        rfl
      refine pure_ (i := 6) (N := some 18) (v := ?_) (a' := ?_) #[true, true, true, true, true, true, true, false, false, false, false, false, false, false, false, false, false, false, false, false] rfl rfl (by kernel_rfl) (fun _ _ _ h => h) (Or.inl ⟨by rfl, ?_⟩) ?_ ?_
      rotate_left
      · intro w'
        go_simp
        with_reducible rfl
      rotate_left
      · simp only [Act.put, List.setIfInBounds_toArray, List.set_cons_zero, List.set_cons_succ, i64_w, i32_w]
        rfl
      refine pure_ (i := 7) (N := some 19) (v := ?_) (a' := ?_) #[true, true, true, true, true, true, true, true, false, false, false, false, false, false, false, false, false, false, false, false] rfl rfl (by kernel_rfl) (fun _ _ _ h => h) (Or.inl ⟨by rfl, ?_⟩) ?_ ?_
      rotate_left
      · intro w'
        go_simp
        with_reducible rfl
      rotate_left
      · simp only [Act.put, List.setIfInBounds_toArray, List.set_cons_zero, List.set_cons_succ, i64_w, i32_w]
        rfl
      refine pure_ (i := 8) (N := some 20) (v := ?_) (a' := ?_) #[true, true, true, true, true, true, true, true, true, false, false, false, false, false, false, false, false, false, false, false] rfl rfl (by kernel_rfl) (fun _ _ _ h => h) (Or.inl ⟨by rfl, ?_⟩) ?_ ?_
      rotate_left
      · intro w'
        go_simp
        with_reducible rfl
      rotate_left
      · simp only [Act.put, List.setIfInBounds_toArray, List.set_cons_zero, List.set_cons_succ, i64_w, i32_w]
        rfl
      refine pure_ (i := 9) (N := some 21) (v := ?_) (a' := ?_) #[true, true, true, true, true, true, true, true, true, true, false, false, false, false, false, false, false, false, false, false] rfl rfl (by kernel_rfl) (fun _ _ _ h => h) (Or.inl ⟨by rfl, ?_⟩) ?_ ?_
      rotate_left
      · intro w'
        go_simp
        with_reducible rfl
      rotate_left
      · simp only [Act.put, List.setIfInBounds_toArray, List.set_cons_zero, List.set_cons_succ, i64_w, i32_w]
        rfl
      refine take_ (i := 10) (N := some 22) (v := ?_) (a' := ?_) #[true, true, true, true, true, true, true, true, true, true, true, false, false, false, false, false, false, false, false, false] rfl rfl (by kernel_rfl) (fun _ _ _ h => h) (Or.inl ⟨by rfl, ?_⟩) hHeld ?_ ?_
      rotate_left
      · rintro w' ⟨s0, s1, s2, s3, s4⟩
        go_simp
        with_reducible rfl
      rotate_left
      · simp only [Act.put, List.setIfInBounds_toArray, List.set_cons_zero, List.set_cons_succ, i64_w, i32_w]
        rfl
      refine pure_ (i := 11) (N := some 23) (v := ?_) (a' := ?_) #[true, true, true, true, true, true, true, true, true, true, true, true, false, false, false, false, false, false, false, false] rfl rfl (by kernel_rfl) (fun _ _ _ h => h) (Or.inl ⟨by rfl, ?_⟩) ?_ ?_
      rotate_left
      · intro w'
        go_simp
        with_reducible rfl
      rotate_left
      · simp only [Act.put, List.setIfInBounds_toArray, List.set_cons_zero, List.set_cons_succ, i64_w, i32_w]
        rfl
      refine pure_ (i := 12) (N := some 24) (v := ?_) (a' := ?_) #[true, true, true, true, true, true, true, true, true, true, true, true, true, false, false, false, false, false, false, false] rfl rfl (by kernel_rfl) (fun _ _ _ h => h) (Or.inl ⟨by rfl, ?_⟩) ?_ ?_
      rotate_left
      · intro w'
        go_simp
        with_reducible rfl
      rotate_left
      · simp only [Act.put, List.setIfInBounds_toArray, List.set_cons_zero, List.set_cons_succ, i64_w, i32_w]
        rfl
      refine pure_ (i := 13) (N := some 25) (v := ?_) (a' := ?_) #[true, true, true, true, true, true, true, true, true, true, true, true, true, true, false, false, false, false, false, false] rfl rfl (by kernel_rfl) (fun _ _ _ h => h) (Or.inl ⟨by rfl, ?_⟩) ?_ ?_
      rotate_left
      · intro w'
        go_simp
        with_reducible rfl
      rotate_left
      · simp only [Act.put, List.setIfInBounds_toArray, List.set_cons_zero, List.set_cons_succ, i64_w, i32_w]
        rfl
      refine pure_ (i := 14) (N := some 26) (v := ?_) (a' := ?_) #[true, true, true, true, true, true, true, true, true, true, true, true, true, true, true, false, false, false, false, false] rfl rfl (by kernel_rfl) (fun _ _ _ h => h) (Or.inl ⟨by rfl, ?_⟩) ?_ ?_
      rotate_left
      · intro w'
        go_simp
        with_reducible rfl
      rotate_left
      · simp only [Act.put, List.setIfInBounds_toArray, List.set_cons_zero, List.set_cons_succ, i64_w, i32_w]
        rfl
      refine pure_ (i := 15) (N := some 27) (v := ?_) (a' := ?_) #[true, true, true, true, true, true, true, true, true, true, true, true, true, true, true, true, false, false, false, false] rfl rfl (by kernel_rfl) (fun _ _ _ h => h) (Or.inl ⟨by rfl, ?_⟩) ?_ ?_
      rotate_left
      · intro w'
        go_simp
        with_reducible rfl
      rotate_left
      · simp only [Act.put, List.setIfInBounds_toArray, List.set_cons_zero, List.set_cons_succ, i64_w, i32_w]
        rfl
      refine pure_ (i := 16) (N := some 28) (v := ?_) (a' := ?_) #[true, true, true, true, true, true, true, true, true, true, true, true, true, true, true, true, true, false, false, false] rfl rfl (by kernel_rfl) (fun _ _ _ h => h) (Or.inl ⟨by rfl, ?_⟩) ?_ ?_
      rotate_left
      · intro w'
        go_simp
        with_reducible rfl
      rotate_left
      · simp only [Act.put, List.setIfInBounds_toArray, List.set_cons_zero, List.set_cons_succ, i64_w, i32_w]
        rfl
      refine take_ (i := 17) (N := some 29) (v := ?_) (a' := ?_) #[true, true, true, true, true, true, true, true, true, true, true, true, true, true, true, true, true, true, false, false] rfl rfl (by kernel_rfl) (fun _ _ _ h => h) (Or.inl ⟨by rfl, ?_⟩) hHeld ?_ ?_
      rotate_left
      · rintro w' ⟨s0, s1, s2, s3, s4⟩
        go_simp
        with_reducible rfl
      rotate_left
      · simp only [Act.put, List.setIfInBounds_toArray, List.set_cons_zero, List.set_cons_succ, i64_w, i32_w]
        rfl
      refine one_ (i := 18) (N := some 30) #[true, true, true, true, true, true, true, true, true, true, true, true, true, true, true, true, true, true, true, false] rfl rfl (by kernel_rfl) (by decide) (fun K hK => ?_)
      refine goes_ Try.func77 (by kernel_rfl) rfl #[.slice (some ad) (i : Nat) c, .agg #[.int .i64 xs[i].f0, .string xs[i].f1, .int .i64 xs[i].f2, .slice X3 xs[i].f3.length Xc3, .slice X4 xs[i].f4.length Xc4]] (by rfl) rfl rfl (by (try simp only [List.map_toArray, List.map_cons, List.map_nil]); first | done | rfl) ?_
      refine (HF.out _ HD.out).mono ?_
      rintro e w1 ⟨rfl, hb1⟩
      replace HD := Lib.hid (below_step HD.out hb1)
      clear hb1
      rw [HZ.out]
      refine ⟨_, rfl, ?_⟩
      refine hK.out _ _ (HS0.out _ HD.out) (fun hHeld => ?_)
      clear hK K
      refine norm_ (a' := ?_) ?_ ?_
      rotate_left
      · show Act.put _ (some 30) _ = _
        simp only [Act.put, List.setIfInBounds_toArray, List.set_cons_zero, List.set_cons_succ, i64_w, i32_w]
        rfl
      refine pure_ (i := 19) (N := some 31) (v := ?_) (a' := ?_) #[true, true, true, true, true, true, true, true, true, true, true, true, true, true, true, true, true, true, true, true] rfl rfl (by kernel_rfl) (fun _ _ _ h => h) (Or.inl ⟨by rfl, ?_⟩) ?_ ?_
      rotate_left
      · intro w'
        go_simp
        with_reducible rfl
      rotate_left
      · simp only [Act.put, List.setIfInBounds_toArray, List.set_cons_zero, List.set_cons_succ, i64_w, i32_w]
        rfl
      refine done_ (by kernel_rfl) ?_
      have HB := Lib.hid (below_step HW.out (below_step (below_new _ _) HD.out))
      clear HD HS0
      go_wp2_with fail
      go_roundg (xs.length - (i + 1))
      case measure => omega
      case rel =>
        refine ⟨i + 1, by omega, Nat.le_refl _, by go_num, ⟨fun j hji => ?_⟩, ⟨HB.out⟩⟩
        rcases Nat.lt_or_ge j i with h | h
        · exact HN.out j h
        · obtain rfl : j = i := by omega
          exact fun _ => ⟨⟨E1.out, E2.out, E3.out⟩, HZ.out⟩
set_option maxHeartbeats 4000000 in
theorem isVar_any (x : Fm) (A3 : Option Addr) (Ac3 : Nat) (A4 : Option Addr) (Ac4 : Nat) (ls : List Fm) (LA : Option Addr) (lc : Nat) (w : World) (hx : FmIn w x A3 Ac3 A4 Ac4) (hr : kF.C w LA ls.length ls) (hc : ls.length ≤ lc) :
    Calls Try.prog 121 #[.agg #[.int .i64 x.f0, .string x.f1, .int .i64 x.f2, .slice A3 x.f3.length Ac3, .slice A4 x.f4.length Ac4], .slice LA ls.length lc] w (Ret w (.bool (varB ls x))) := by
  have HB := Lib.hid (below_new w (.cells #[.int .i64 x.f0, .string x.f1, .int .i64 x.f2, .slice A3 x.f3.length Ac3, .slice A4 x.f4.length Ac4] 34))
  have HN := Lib.hid (isIn_any ls LA lc x A3 Ac3 A4 Ac4 _ (Kd.C_below hr HB.out) hc (hx.below HB.out))
  obtain ⟨p0, p1, p2, p3, p4⟩ := fm_cells (blk_new w (.cells #[.int .i64 x.f0, .string x.f1, .int .i64 x.f2, .slice A3 x.f3.length Ac3, .slice A4 x.f4.length Ac4] 34))
  clear hx hr
  unfold varB
  by_cases h1 : x.f0 = 1
  rotate_left
  · have t1 : (x.f0 == 1) = false := by simpa using h1
    rw [t1]
    clear h1
    go_enter Try.func121, Try.ntmps121
    go_wp2_with fail
    go_ret
    exact ⟨rfl, HB.out⟩
  have t1 : (x.f0 == 1) = true := by simpa using h1
  rw [t1]
  clear h1
  by_cases h2 : x.f1.toList = [46, 46, 46]
  · have t2 : (x.f1.toList == [46, 46, 46]) = true := by simpa using h2
    have t2' : (x.f1.toList != [46, 46, 46]) = false := by simpa using h2
    rw [t2]
    clear h2
    go_enter Try.func121, Try.ntmps121
    go_wp2_with fail
    go_ret
    exact ⟨rfl, HB.out⟩
  have t2 : (x.f1.toList == [46, 46, 46]) = false := by simpa using h2
  have t2' : (x.f1.toList != [46, 46, 46]) = true := by simpa using h2
  rw [t2]
  clear h2
  by_cases h3 : x.f1.toList = [95]
  · have t3 : (x.f1.toList == [95]) = true := by simpa using h3
    have t3' : (x.f1.toList != [95]) = false := by simpa using h3
    rw [t3]
    clear h3
    go_enter Try.func121, Try.ntmps121
    go_wp2_with fail
    go_ret
    exact ⟨rfl, HB.out⟩
  have t3 : (x.f1.toList == [95]) = false := by simpa using h3
  have t3' : (x.f1.toList != [95]) = true := by simpa using h3
  rw [t3]
  clear h3
  generalize ls.any (fun l => eqB l x) = r at HN ⊢
  go_enter Try.func121, Try.ntmps121
  go_wp2_with fail
  refine HN.out.mono ?_
  rintro e w1 ⟨rfl, b⟩
  have HB2 := Lib.hid (below_step HB.out b)
  clear b p0 p1 p2 p3 p4
  cases r with
  | true =>
    go_wp2_with fail
    go_ret
    exact ⟨rfl, HB2.out⟩
  | false =>
    go_wp2_with fail
    go_ret
    exact ⟨rfl, HB2.out⟩
def DotsOkC (x : Fm) : Prop := ∀ (A3 : Option Addr) (Ac3 : Nat) (A4 : Option Addr) (Ac4 : Nat) (w : World), FmIn w x A3 Ac3 A4 Ac4 → Calls Try.prog 75 #[.agg #[.int .i64 x.f0, .string x.f1, .int .i64 x.f2, .slice A3 x.f3.length Ac3, .slice A4 x.f4.length Ac4], .bool true] w (Ret w (.bool (pB (ShOk x))))
def ShAt (ks : List Fm) (i : Nat) : Prop := ∀ hi : i < ks.length, (dotsB ks[i] = true → 0 < i ∧ (ks.take i).any dotsB = false) ∧ (dotsB ks[i] = false → ShOk ks[i])
theorem shOk_at (x : Fm) : ShOk x ↔ ∀ i, ShAt x.f4 i := by
  constructor
  · exact fun h i hi => ⟨h.at i hi, h.kid _ (List.getElem_mem hi)⟩
  · intro h
    refine .mk x (fun i hi => (h i hi).1) (fun k hk => ?_)
    obtain ⟨i, hi, rfl⟩ := List.mem_iff_getElem.1 hk
    exact (h i hi).2
set_option maxHeartbeats 8000000 in
set_option maxRecDepth 100000 in
theorem dotsOk_any (x : Fm) : DotsOkC x := by
  induction x using Fm.ind with
  | h x ih =>
    intro A3 Ac3 A4 Ac4 w hx
    have HS := Lib.hid (shOk_at x)
    have IH := Lib.hid ih
    have HB := Lib.hid (below_new w (.cells #[.int .i64 x.f0, .string x.f1, .int .i64 x.f2, .slice A3 x.f3.length Ac3, .slice A4 x.f4.length Ac4] 34))
    have HA := Lib.hid (blk_new w (.cells #[.int .i64 x.f0, .string x.f1, .int .i64 x.f2, .slice A3 x.f3.length Ac3, .slice A4 x.f4.length Ac4] 34))
    have HI := Lib.hid (hx.below HB.out)
    have hmax := hx.g4.2.1
    have hcap := hx.l4
    clear ih hx
    obtain ⟨p0, p1, p2, p3, p4⟩ := fm_cells HA.out
    go_enter Try.func75, Try.ntmps75
    go_wp2_with fail
    clear p0 p1 p2 p3 p4
    generalize w.alloc (.cells #[.int .i64 x.f0, .string x.f1, .int .i64 x.f2, .slice A3 x.f3.length Ac3, .slice A4 x.f4.length Ac4] 34) = w0 at HB HA HI ⊢
    go_loopg [5, 6, 10] x.f4.length (fun kq v5 v6 v10 w' => ∃ i : Nat, i ≤ x.f4.length ∧ x.f4.length - i ≤ kq ∧ v10 = .int .i64 i ∧ Aside0 (∀ j, j < i → ShAt x.f4 j) ∧ Aside0 (Below w0.heap.size w0 w'))
    case atStart => exact ⟨0, Nat.zero_le _, by omega, rfl, ⟨fun j h => absurd h (by omega)⟩, ⟨Below.refl _ _⟩⟩
    case round =>
      obtain ⟨i, hi, hg, rfl, HN, HW⟩ := hrel
      by_cases hlt : i < x.f4.length
      rotate_left
      · obtain rfl : i = x.f4.length := by omega
        go_wp2_with fail
        go_ret
        exact ⟨ret_b (pB_yes (HS.out.2 (fun j h => HN.out j h h))), below_step HB.out HW.out⟩
      obtain ⟨ad, X3, Xc3, X4, Xc4, e, g0, g1, g2, g3, g4, hk⟩ := kid_at (Kd.C_below HI.out.g4 HW.out) i hlt
      subst e
      have hn := below_new wr (.cells #[.int .i64 x.f4[i].f0, .string x.f4[i].f1, .int .i64 x.f4[i].f2, .slice X3 x.f4[i].f3.length Xc3, .slice X4 x.f4[i].f4.length Xc4] 34)
      have HKB := Lib.hid (blk_new wr (.cells #[.int .i64 x.f4[i].f0, .string x.f4[i].f1, .int .i64 x.f4[i].f2, .slice X3 x.f4[i].f3.length Xc3, .slice X4 x.f4[i].f4.length Xc4] 34))
      have HD := Lib.hid (namedDots_any x.f4[i] X3 Xc3 X4 Xc4 _ (hk.below hn))
      have HKI := Lib.hid (hk.below hn)
      have HW1 := Lib.hid (below_step HW.out hn)
      clear hk hn
      obtain ⟨q0, q1, q2, q3, q4⟩ := fm_cells HKB.out
      cases hd : dotsB x.f4[i] with
      | false =>
        rw [hd] at HD
        have HDI := Lib.hid hd
        clear hd
        go_wp2_with fail
        refine HD.out.mono ?_
        rintro e w1 ⟨rfl, b⟩
        clear q0 q1 q2 q3 q4 g0 g1 g2 g3 g4
        obtain ⟨q0, q1, q2, q3, q4⟩ := fm_cells (blk_below HKB.out b)
        have HW2 := Lib.hid (below_step HW1.out b)
        have HR := Lib.hid (IH.out x.f4[i] (List.getElem_mem hlt) X3 Xc3 X4 Xc4 w1 (HKI.out.below b))
        clear b
        cases hz : pB (ShOk x.f4[i]) with
        | false =>
          rw [hz] at HR
          have HZ := Lib.hid (pB_false' hz)
          clear hz
          go_wp2_with fail
          refine HR.out.mono ?_
          rintro e w2 ⟨rfl, b⟩
          have HW3 := Lib.hid (below_step HW2.out b)
          clear b q0 q1 q2 q3 q4
          go_wp2_with fail
          go_ret
          exact ⟨ret_b (pB_no (fun h => HZ.out ((HS.out.1 h i hlt).2 HDI.out))), below_step HB.out HW3.out⟩
        | true =>
          rw [hz] at HR
          have HZ := Lib.hid (pB_iff.1 hz)
          clear hz
          go_wp2_with fail
          refine HR.out.mono ?_
          rintro e w2 ⟨rfl, b⟩
          have HW3 := Lib.hid (below_step HW2.out b)
          clear b q0 q1 q2 q3 q4
          go_wp2_with fail
          go_roundg (x.f4.length - (i + 1))
          case measure => omega
          case rel =>
            refine ⟨i + 1, by omega, Nat.le_refl _, by go_num, ⟨fun j hji => ?_⟩, ⟨HW3.out⟩⟩
            rcases Nat.lt_or_ge j i with h | h
            · exact HN.out j h
            · obtain rfl : j = i := by omega
              exact fun _ => ⟨fun k => (by rw [HDI.out] at k; cases k), fun _ => HZ.out⟩
      | true =>
        rw [hd] at HD
        have HDI := Lib.hid hd
        clear hd
        by_cases hz : i = 0
        · have tz : ((i : Int) == 0) = true := by simp [hz]
          have tz' : (i == 0) = true := by simp [hz]
          have HZ := Lib.hid hz
          clear hz
          go_wp2_with fail
          refine HD.out.mono ?_
          rintro e w1 ⟨rfl, b⟩
          have HW2 := Lib.hid (below_step HW1.out b)
          clear b q0 q1 q2 q3 q4 g0 g1 g2 g3 g4
          go_wp2_with fail
          go_ret
          exact ⟨ret_b (pB_no (fun h => by have := ((HS.out.1 h i hlt).1 HDI.out).1; have := HZ.out; omega)), below_step HB.out HW2.out⟩
        obtain ⟨m, rfl⟩ : ∃ m, i = m + 1 := ⟨i - 1, by omega⟩
        have hml : m < x.f4.length := by omega
        have tz : (((m + 1 : Nat) : Int) == 0) = false := beq_eq_false_iff_ne.mpr (by omega)
        have hw1 : wrap64 (((m + 1 : Nat) : Int) - 1) = (m : Int) := by rw [Go.IntWalk.wrap64_in _ ⟨by omega, by omega⟩]; omega
        have hw2 : wrap64 ((m : Int) + 1 - 1) = (m : Int) := by rw [Go.IntWalk.wrap64_in _ ⟨by omega, by omega⟩]; omega
        have hw3 : wrap64 (m : Int) = (m : Int) := Go.IntWalk.wrap64_in _ ⟨by omega, by omega⟩
        go_wp2_with fail
        refine HD.out.mono ?_
        rintro e w1 ⟨rfl, b⟩
        have HW2 := Lib.hid (below_step HW1.out b)
        clear b q0 q1 q2 q3 q4 g0 g1 g2 g3 g4
        obtain ⟨ad2, Y3, Yc3, Y4, Yc4, e2, h0, h1, h2, h3, h4, hk2⟩ := kid_at (Kd.C_below HI.out.g4 HW2.out) m hml
        obtain rfl : ad = ad2 := by injection e2
        clear e2
        obtain ⟨p0, p1, p2, p3, p4⟩ := fm_cells (blk_below HA.out HW2.out)
        have HP := Lib.hid (namedDots_any x.f4[m] Y3 Yc3 Y4 Yc4 w1 hk2)
        clear hk2
        cases hp : dotsB x.f4[m] with
        | true =>
          rw [hp] at HP
          have HPI := Lib.hid hp
          clear hp
          go_wp2_with fail
          refine HP.out.mono ?_
          rintro e w2 ⟨rfl, b⟩
          have HW3 := Lib.hid (below_step HW2.out b)
          clear b p0 p1 p2 p3 p4 h0 h1 h2 h3 h4
          go_wp2_with fail
          go_ret
          refine ⟨ret_b (pB_no (fun h => ?_)), below_step HB.out HW3.out⟩
          have := ((HS.out.1 h (m + 1) hlt).1 HDI.out).2
          rw [List.any_eq_false] at this
          exact this x.f4[m] (List.mem_take_iff_getElem.2 ⟨m, by omega, rfl⟩) HPI.out
        | false =>
          rw [hp] at HP
          clear hp
          go_wp2_with fail
          refine HP.out.mono ?_
          rintro e w2 ⟨rfl, b⟩
          have HW3 := Lib.hid (below_step HW2.out b)
          clear b p0 p1 p2 p3 p4 h0 h1 h2 h3 h4
          obtain ⟨p0, p1, p2, p3, p4⟩ := fm_cells (blk_below HA.out HW3.out)
          have hF := dotsAt_any (x.f4.take (m + 1)) (some ad) Ac4 w2 (Kd.C_take (Kd.C_below HI.out.g4 HW3.out) (by omega)) (by rw [List.length_take]; omega)
          have hA := fidx_any dotsB (x.f4.take (m + 1))
          rw [List.length_take, Nat.min_eq_left hi] at hF
          generalize fidx dotsB (x.f4.take (m + 1)) = r at hF hA
          have HF := Lib.hid hF
          clear hF
          have c1 : (0 : Int) ≤ ((m + 1 : Nat) : Int) := by omega
          have c2 : ((m + 1 : Nat) : Int) ≤ (Ac4 : Int) := by omega
          have c3 : m + 1 ≤ Ac4 := by omega
          cases hy : (x.f4.take (m + 1)).any dotsB with
          | true =>
            rw [hy] at hA
            have HY := Lib.hid hy
            clear hy
            go_wp2_with fail
            refine HF.out.mono ?_
            rintro e w3 ⟨rfl, b⟩
            have HW4 := Lib.hid (below_step HW3.out b)
            clear b p0 p1 p2 p3 p4
            go_wp2_with fail
            go_ret
            exact ⟨ret_b (pB_no (fun h => by have := ((HS.out.1 h (m + 1) hlt).1 HDI.out).2; rw [HY.out] at this; cases this)), below_step HB.out HW4.out⟩
          | false =>
            rw [hy] at hA
            have HY := Lib.hid hy
            clear hy
            go_wp2_with fail
            refine HF.out.mono ?_
            rintro e w3 ⟨rfl, b⟩
            have HW4 := Lib.hid (below_step HW3.out b)
            clear b p0 p1 p2 p3 p4
            go_wp2_with fail
            go_roundg (x.f4.length - (m + 1 + 1))
            case measure => omega
            case rel =>
              refine ⟨m + 1 + 1, by omega, Nat.le_refl _, by go_num, ⟨fun j hji => ?_⟩, ⟨HW4.out⟩⟩
              rcases Nat.lt_or_ge j (m + 1) with h | h
              · exact HN.out j h
              · obtain rfl : j = m + 1 := by omega
                exact fun _ => ⟨fun _ => ⟨by omega, HY.out⟩, fun k => (by rw [HDI.out] at k; cases k)⟩
end Go.Proofs.Ytlklclebjeeaaaa
end
section
namespace Go.Proofs.Ytlklclebjeeaaaa
open Go.RowKit Go.Proofs.YtlklclebjeeaaaaW.PrintWords Go.Proofs.YtlklclebjeeaaaaW.PrintLast Go.Proofs.YtlklclebjeeaaaaW.PrintMore
set_option linter.unusedVariables false
set_option linter.unusedSimpArgs false
/-- Two variables (blocks gn, gd) hold the names and the depths. -/
structure PvI (wB w : World) (gn gd : Nat) (vn vd : Value) (l : List Fm) (m : List Int) : Prop where
  cn : w.heap[gn]? = some (.cells #[vn] 32 (0, 0))
  cd : w.heap[gd]? = some (.cells #[vd] 23 (0, 0))
  rn : RowF wB w vn l
  rd : RowI wB w vd m
  bl : Below wB.heap.size wB w
  gnB : wB.heap.size ≤ gn
  gdB : wB.heap.size ≤ gd
theorem typ_ne {w : World} {a b : Nat} {ca cb : Array Value} {s t : TypeId} {o p : Nat × Nat} (h : w.heap[a]? = some (.cells ca s o)) (k : w.heap[b]? = some (.cells cb t p)) (hst : s ≠ t) : a ≠ b := by
  rintro rfl
  rw [h] at k
  injection k with k
  injection k with k1 k2 k3
  exact hst k2
theorem PvI.nrow {wB w : World} {gn gd : Nat} {vn vd : Value} {l : List Fm} {m : List Int} (h : PvI wB w gn gd vn vd l m) : ∀ k, vn.ownBlock = some k → ∃ c, w.heap[k]? = some (.cells c 34 (0, 0)) := fun k hk => by
  obtain ⟨inner, ho, _⟩ := h.rn.row
  exact own_typed ho k hk
theorem PvI.drow {wB w : World} {gn gd : Nat} {vn vd : Value} {l : List Fm} {m : List Int} (h : PvI wB w gn gd vn vd l m) : ∀ k, vd.ownBlock = some k → ∃ c, w.heap[k]? = some (.cells c 3 (0, 0)) := fun k hk => own_typed h.rd.row k hk
theorem PvI.move {wB w w1 : World} {gn gd : Nat} {vn vd : Value} {l : List Fm} {m : List Int} (h : PvI wB w gn gd vn vd l m) (b : Below w.heap.size w w1) : PvI wB w1 gn gd vn vd l m :=
  ⟨blk_below h.cn b, blk_below h.cd b, h.rn.move (fun k hk => b.block k (h.rn.lt k hk)), h.rd.move (fun k hk => b.block k (h.rd.lt k hk)), h.bl.trans (b.mono h.bl.size), h.gnB, h.gdB⟩
/-- Only these four blocks, and new ones, may have changed. -/
structure PvT (w w' : World) (gn gd : Nat) (vn vd vn' vd' : Value) : Prop where
  b0 : Below 0 w w'
  keep : ∀ b, b < w.heap.size → b ≠ gn → b ≠ gd → vn.ownBlock ≠ some b → vd.ownBlock ≠ some b → w'.heap[b]? = w.heap[b]?
  g1 : Gr w.heap.size vn vn'
  g2 : Gr w.heap.size vd vd'
set_option maxHeartbeats 1000000 in
theorem pv_putF {wB w : World} {gn gd : Nat} {vn vd : Value} {l : List Fm} {m : List Int} (h : PvI wB w gn gd vn vd l m) {x : Fm} {A3 A4 : Option Addr} {c3 c4 : Nat} (hx : FmIn wB x A3 c3 A4 c4) {inner : List Value} (hrl : RowL wB l inner) {w8 : World} {g cap : Nat}
    (ho : w8.ownsRow wB.heap.size 34 5 (.slice (some ⟨g, 0, none⟩) (l.length + 1) cap) (l.length + 1) (inner ++ [.int .i64 0, .string ⟨#[]⟩, .int .i64 0, .slice none 0 0, .slice none 0 0])) (hg : w.grownBy w8 vn.ownBlock)
    (hat : (Value.slice (some ⟨g, 0, none⟩) (l.length + 1) cap).ownBlock = vn.ownBlock ∨ ∃ b, (Value.slice (some ⟨g, 0, none⟩) (l.length + 1) cap).ownBlock = some b ∧ w.heap.size ≤ b) :
    (w8.cell? ⟨g, l.length * 5, none⟩ = some (.int .i64 0) ∧ w8.cell? ⟨g, l.length * 5 + 1, none⟩ = some (.string ⟨#[]⟩) ∧ w8.cell? ⟨g, l.length * 5 + 2, none⟩ = some (.int .i64 0) ∧ w8.cell? ⟨g, l.length * 5 + 3, none⟩ = some (.slice none 0 0) ∧ w8.cell? ⟨g, l.length * 5 + 4, none⟩ = some (.slice none 0 0)) ∧ (∀ j, w8.frozen? ⟨g, j, none⟩ = false) ∧
    (set5 w8 g (l.length * 5) (.int .i64 x.f0) (.string x.f1) (.int .i64 x.f2) (.slice A3 x.f3.length c3) (.slice A4 x.f4.length c4)).heap[gn]? = some (.cells #[vn] 32 (0, 0)) ∧
    PvI wB ((set5 w8 g (l.length * 5) (.int .i64 x.f0) (.string x.f1) (.int .i64 x.f2) (.slice A3 x.f3.length c3) (.slice A4 x.f4.length c4)).setCell ⟨gn, 0, none⟩ (.slice (some ⟨g, 0, none⟩) (l.length + 1) cap)) gn gd (.slice (some ⟨g, 0, none⟩) (l.length + 1) cap) vd (l ++ [x]) m ∧
    PvT w ((set5 w8 g (l.length * 5) (.int .i64 x.f0) (.string x.f1) (.int .i64 x.f2) (.slice A3 x.f3.length c3) (.slice A4 x.f4.length c4)).setCell ⟨gn, 0, none⟩ (.slice (some ⟨g, 0, none⟩) (l.length + 1) cap)) gn gd vn vd (.slice (some ⟨g, 0, none⟩) (l.length + 1) cap) vd := by
  have hgB : wB.heap.size ≤ g := own_base ho g rfl
  obtain ⟨cg, hcg⟩ := own_typed ho g rfl
  have hnn : vn.ownBlock ≠ some gn := fun e => by obtain ⟨c, hc⟩ := h.nrow _ e; exact typ_ne hc h.cn (by decide) rfl
  have hnd : vn.ownBlock ≠ some gd := fun e => by obtain ⟨c, hc⟩ := h.nrow _ e; exact typ_ne hc h.cd (by decide) rfl
  have hgg : gn ≠ gd := typ_ne h.cn h.cd (by decide)
  have cn8 : w8.heap[gn]? = some (.cells #[vn] 32 (0, 0)) := blk_grown h.cn hg (fun e => hnn e.symm)
  have cd8 : w8.heap[gd]? = some (.cells #[vd] 23 (0, 0)) := blk_grown h.cd hg (fun e => hnd e.symm)
  have hgn : gn ≠ g := typ_ne cn8 hcg (by decide)
  have hgd : gd ≠ g := typ_ne cd8 hcg (by decide)
  have hd : ∀ k, vd.ownBlock = some k → vn.ownBlock ≠ some k ∧ k ≠ g ∧ k ≠ gn ∧ w8.heap[k]? = w.heap[k]? := fun k hk => by
    obtain ⟨c, hc⟩ := h.drow k hk
    have h1 : vn.ownBlock ≠ some k := fun e => by obtain ⟨c2, hc2⟩ := h.nrow _ e; exact typ_ne hc hc2 (by decide) rfl
    have h2 := hg.block k (blk_lt hc) (fun e => h1 e.symm)
    exact ⟨h1, typ_ne (h2.trans hc) hcg (by decide), typ_ne hc h.cn (by decide), h2⟩
  have hlen := hrl.len
  have ho0 : w8.ownsRow 0 34 5 (.slice (some ⟨g, 0, none⟩) (l.length + 1) cap) (l.length + 1) (inner ++ ([.int .i64 0, .string ⟨#[]⟩, .int .i64 0, .slice none 0 0, .slice none 0 0] ++ [])) := own_weaken ho (Nat.zero_le _)
  obtain ⟨⟨z0, z1, z2, z3, z4⟩, hfz, hput⟩ := row_put ho0 hlen
  have hput := hput (.int .i64 x.f0) (.string x.f1) (.int .i64 x.f2) (.slice A3 x.f3.length c3) (.slice A4 x.f4.length c4)
  rw [List.append_nil] at hput
  generalize hW : set5 w8 g (l.length * 5) (.int .i64 x.f0) (.string x.f1) (.int .i64 x.f2) (.slice A3 x.f3.length c3) (.slice A4 x.f4.length c4) = W at hput ⊢
  have hfar : ∀ k, k ≠ g → W.heap[k]? = w8.heap[k]? := fun k hk => by rw [← hW]; exact set5_far _ _ _ _ _ _ _ _ _ hk
  have hbW : ∀ {B : Nat} {a : World}, Below B a w8 → B ≤ g → Below B a W := fun hb hB => by rw [← hW]; exact set5_below hb hB _ _ _ _ _ _
  have b08 : Below 0 w w8 := ⟨hg.os, hg.tape, hg.output, hg.size, fun k hk => absurd hk (Nat.not_lt_zero _)⟩
  have bB8 : Below wB.heap.size wB w8 := h.bl.trans ((mk_grown hg).below h.bl.size (fun b hb => h.rn.ge b (obs_mem.1 hb)))
  have cnW := (hfar gn hgn).trans cn8
  refine ⟨⟨z0, z1, z2, z3, z4⟩, hfz, cnW, ⟨by simpa using blk_set cnW 0 (Value.slice (some ⟨g, 0, none⟩) (l.length + 1) cap), ?_, ⟨_, own_move (own_base_ (by rw [List.length_append]; exact hput) (fun b hb => by cases hb; exact hgB)) (fun k hk => ?_), hrl.snoc hx⟩, ?_, (hbW bB8 hgB).setCell (p := ⟨gn, 0, none⟩) h.gnB _, h.gnB, h.gdB⟩, ⟨(hbW b08 (Nat.zero_le _)).setCell (p := ⟨gn, 0, none⟩) (Nat.zero_le _) _, fun b hb h1 h2 h3 h4 => ?_, ?_, Gr.refl _ _⟩⟩
  · rw [Below.heap_setCell _ _ _ _ (show gd ≠ gn from fun e => hgg e.symm)]
    exact (hfar gd hgd).trans cd8
  · cases hk
    exact Below.heap_setCell _ _ _ _ (show g ≠ gn from fun e => hgn e.symm)
  · refine h.rd.move (fun k hk => ?_)
    obtain ⟨q1, q2, q3, q4⟩ := hd k hk
    rw [Below.heap_setCell _ _ _ _ (show k ≠ gn from q3)]
    exact (hfar k q2).trans q4
  · rw [Below.heap_setCell _ _ _ _ (show b ≠ gn from h1)]
    have hbg : b ≠ g := fun e => by
      subst e
      rcases hat with q | ⟨c, q, hc⟩
      · exact h3 (q ▸ rfl)
      · simp [Value.ownBlock] at q; omega
    exact (hfar b hbg).trans (hg.block b hb (fun e => h3 e.symm))
  · exact gr_grown hat
set_option maxHeartbeats 1000000 in
theorem pv_putI {wB w : World} {gn gd : Nat} {vn vd : Value} {l : List Fm} {m : List Int} (h : PvI wB w gn gd vn vd l m) {d : Int} {w2 : World} {v1 : Value} (ho : w2.ownsRow wB.heap.size 3 1 v1 (m ++ [d]).length (nums .i64 (m ++ [d]))) (hg : w.grownBy w2 vd.ownBlock)
    (hat : v1.ownBlock = vd.ownBlock ∨ ∃ b, v1.ownBlock = some b ∧ w.heap.size ≤ b) :
    w2.heap[gd]? = some (.cells #[vd] 23 (0, 0)) ∧ PvI wB (w2.setCell ⟨gd, 0, none⟩ v1) gn gd vn v1 l (m ++ [d]) ∧ PvT w (w2.setCell ⟨gd, 0, none⟩ v1) gn gd vn vd vn v1 := by
  have hdn : vd.ownBlock ≠ some gn := fun e => by obtain ⟨c, hc⟩ := h.drow _ e; exact typ_ne hc h.cn (by decide) rfl
  have hdd : vd.ownBlock ≠ some gd := fun e => by obtain ⟨c, hc⟩ := h.drow _ e; exact typ_ne hc h.cd (by decide) rfl
  have hgg : gn ≠ gd := typ_ne h.cn h.cd (by decide)
  have cn2 : w2.heap[gn]? = some (.cells #[vn] 32 (0, 0)) := blk_grown h.cn hg (fun e => hdn e.symm)
  have cd2 : w2.heap[gd]? = some (.cells #[vd] 23 (0, 0)) := blk_grown h.cd hg (fun e => hdd e.symm)
  have hn : ∀ k, vn.ownBlock = some k → k ≠ gd ∧ w2.heap[k]? = w.heap[k]? := fun k hk => by
    obtain ⟨c, hc⟩ := h.nrow k hk
    have h1 : vd.ownBlock ≠ some k := fun e => by obtain ⟨c2, hc2⟩ := h.drow _ e; exact typ_ne hc hc2 (by decide) rfl
    exact ⟨typ_ne hc h.cd (by decide), hg.block k (blk_lt hc) (fun e => h1 e.symm)⟩
  have h1g : ∀ k, v1.ownBlock = some k → k ≠ gd := fun k hk => by
    obtain ⟨c, hc⟩ := own_typed ho k hk
    exact typ_ne hc cd2 (by decide)
  have b02 : Below 0 w w2 := ⟨hg.os, hg.tape, hg.output, hg.size, fun k hk => absurd hk (Nat.not_lt_zero _)⟩
  have bB2 : Below wB.heap.size wB w2 := h.bl.trans ((mk_grown hg).below h.bl.size (fun b hb => h.rd.ge b (obs_mem.1 hb)))
  refine ⟨cd2, ⟨?_, by simpa using blk_set cd2 0 v1, h.rn.move (fun k hk => ?_), ⟨own_move ho (fun k hk => Below.heap_setCell _ _ _ _ (h1g k hk))⟩, bB2.setCell (p := ⟨gd, 0, none⟩) h.gdB _, h.gnB, h.gdB⟩, ⟨b02.setCell (p := ⟨gd, 0, none⟩) (Nat.zero_le _) _, fun b hb q1 q2 q3 q4 => ?_, Gr.refl _ _, gr_grown hat⟩⟩
  · rw [Below.heap_setCell _ _ _ _ (show gn ≠ gd from hgg)]
    exact cn2
  · rw [Below.heap_setCell _ _ _ _ (show k ≠ gd from (hn k hk).1)]
    exact (hn k hk).2
  · rw [Below.heap_setCell _ _ _ _ (show b ≠ gd from q2)]
    exact hg.block b hb (fun e => q4 e.symm)
theorem setCell_far (w : World) {g h i j : Nat} (u v : Value) (hne : g ≠ h) : (w.setCell ⟨g, i, none⟩ u).setCell ⟨h, j, none⟩ v = (w.setCell ⟨h, j, none⟩ v).setCell ⟨g, i, none⟩ u := by
  unfold World.setCell
  congr 1
  apply Array.ext_getElem?
  intro k
  simp only [Array.getElem?_modify]
  by_cases h1 : g = k
  · by_cases h2 : h = k
    · exact absurd (h1.trans h2.symm) hne
    · simp [h1, h2]
  · by_cases h2 : h = k
    · simp [h1, h2]
    · simp [h1, h2]
theorem set5_swap (w : World) {g h o j : Nat} (b0 b1 b2 b3 b4 v : Value) (hne : g ≠ h) : set5 (w.setCell ⟨h, j, none⟩ v) g o b0 b1 b2 b3 b4 = (set5 w g o b0 b1 b2 b3 b4).setCell ⟨h, j, none⟩ v := by
  unfold set5
  rw [setCell_far _ _ _ hne, setCell_far _ _ _ hne, setCell_far _ _ _ hne, setCell_far _ _ _ hne, setCell_far _ _ _ hne]
theorem cell_far {w : World} {g h j : Nat} (v : Value) (hne : g ≠ h) (o : Nat) : (w.setCell ⟨h, j, none⟩ v).cell? ⟨g, o, none⟩ = w.cell? ⟨g, o, none⟩ := World.cell?_of_block (Below.heap_setCell _ _ _ _ hne)
theorem frozen_far {w : World} {g h j : Nat} (v : Value) (hne : g ≠ h) (o : Nat) : (w.setCell ⟨h, j, none⟩ v).frozen? ⟨g, o, none⟩ = w.frozen? ⟨g, o, none⟩ := World.frozen?_of_block (Below.heap_setCell _ _ _ _ hne)
theorem twoLast_ {P : Program} {md : Region.Mode} {ops : Array Oper} {Q : Exit → Act → World → Prop} {S : World → Prop} {ds : List Nat} {i j : Nat} {oi oj : Oper} {fuel : Nat} {l : Array Bool} {a : Act} {w : World} (li lj : Array Bool) (hi : ops[i]? = some oi) (hj : ops[j]? = some oj)
    (hc : (Region.ready md ops l == [i, j] && l.setIfInBounds i true == li && l.setIfInBounds j true == lj) = true) (hdi : i ∈ ds) (hdj : j ∈ ds)
    (h1 : ∀ K : Act → World → Prop, Shut (∀ a' w', wpAnyLast P md ops Q S ds fuel li a' w' → K a' w') → if Region.wanted oi (yielded ops a.tmps) = true then Oper.wp P oi a w K Q else K (a.put oi.dst undef) w)
    (h2 : ∀ K : Act → World → Prop, Shut (∀ a' w', wpAnyLast P md ops Q S ds fuel lj a' w' → K a' w') → if Region.wanted oj (yielded ops a.tmps) = true then Oper.wp P oj a w K Q else K (a.put oj.dst undef) w) :
    wpAnyLast P md ops Q S ds (fuel + 1) l a w := by
  simp only [Bool.and_eq_true, beq_iff_eq] at hc
  obtain ⟨⟨h3, h4⟩, h5⟩ := hc
  subst h4
  subst h5
  exact wpAnyLast_ready h3 (by simp) (AllReadyL.cons_last hi hdi (fun K hK => h1 K hK) (AllReadyL.cons_last hj hdj (fun K hK => h2 K hK) AllReadyL.nil))
/-- The state of patternVars since its start at w0. -/
structure PvW (wB w0 : World) (OB : Obj) (gn gd : Nat) (vn vd : Value) (w : World) (an ad : Value) (l : List Fm) (m : List Int) : Prop where
  i : PvI wB w gn gd an ad l m
  b0 : Below 0 w0 w
  keep : ∀ b, b < w0.heap.size → b ≠ gn → b ≠ gd → vn.ownBlock ≠ some b → vd.ownBlock ≠ some b → w.heap[b]? = w0.heap[b]?
  g1 : Gr (w0.heap.size + 1) vn an
  g2 : Gr (w0.heap.size + 1) vd ad
  box : w.heap[w0.heap.size]? = some OB
  sz : w0.heap.size + 1 ≤ w.heap.size
theorem PvW.start {wB w0 : World} {gn gd : Nat} {vn vd : Value} {l : List Fm} {m : List Int} (h : PvI wB w0 gn gd vn vd l m) (OB : Obj) : PvW wB w0 OB gn gd vn vd (w0.alloc OB) vn vd l m :=
  ⟨h.move (below_new w0 OB), (below_new w0 OB).mono (Nat.zero_le _), fun b hb _ _ _ _ => (below_new w0 OB).block b hb, Gr.refl _ _, Gr.refl _ _, blk_new w0 OB, by simp⟩
theorem PvW.quiet {wB w0 w w1 : World} {OB : Obj} {gn gd : Nat} {vn vd an ad : Value} {l : List Fm} {m : List Int} (h : PvW wB w0 OB gn gd vn vd w an ad l m) (b : Below w.heap.size w w1) : PvW wB w0 OB gn gd vn vd w1 an ad l m :=
  ⟨h.i.move b, h.b0.trans (b.mono (Nat.zero_le _)), fun j hj q1 q2 q3 q4 => (b.block j (Nat.lt_of_lt_of_le hj h.b0.size)).trans (h.keep j hj q1 q2 q3 q4), h.g1, h.g2, (b.block _ (Nat.lt_of_lt_of_le (Nat.lt_succ_self _) h.sz)).trans h.box, Nat.le_trans h.sz b.size⟩
theorem PvW.step {wB w0 w w1 : World} {OB : Obj} {gn gd : Nat} {vn vd an ad an' ad' : Value} {l l' : List Fm} {m m' : List Int} (h : PvW wB w0 OB gn gd vn vd w an ad l m) (h0 : gn < w0.heap.size ∧ gd < w0.heap.size ∧ (∀ k, vn.ownBlock = some k → k < w0.heap.size) ∧ ∀ k, vd.ownBlock = some k → k < w0.heap.size)
    (hi : PvI wB w1 gn gd an' ad' l' m') (t : PvT w w1 gn gd an ad an' ad') : PvW wB w0 OB gn gd vn vd w1 an' ad' l' m' := by
  have k1 : ∀ b, b ≤ w0.heap.size → vn.ownBlock ≠ some b → an.ownBlock ≠ some b := fun b hb hv e => (h.g1.h b e).elim hv (fun q => by omega)
  have k2 : ∀ b, b ≤ w0.heap.size → vd.ownBlock ≠ some b → ad.ownBlock ≠ some b := fun b hb hv e => (h.g2.h b e).elim hv (fun q => by omega)
  refine ⟨hi, h.b0.trans t.b0, fun b hb q1 q2 q3 q4 => ?_, h.g1.trans t.g1 h.sz, h.g2.trans t.g2 h.sz, ?_, Nat.le_trans h.sz t.b0.size⟩
  · exact (t.keep b (Nat.lt_of_lt_of_le hb h.b0.size) q1 q2 (k1 b (Nat.le_of_lt hb) q3) (k2 b (Nat.le_of_lt hb) q4)).trans (h.keep b hb q1 q2 q3 q4)
  · refine (t.keep w0.heap.size (Nat.lt_of_lt_of_le (Nat.lt_succ_self _) h.sz) (by omega) (by omega) (k1 _ (Nat.le_refl _) (fun e => Nat.lt_irrefl _ (h0.2.2.1 _ e))) (k2 _ (Nat.le_refl _) (fun e => Nat.lt_irrefl _ (h0.2.2.2 _ e)))).trans h.box
theorem PvI.zero {wB w : World} {gn gd : Nat} {vn vd : Value} {l : List Fm} {m : List Int} (h : PvI wB w gn gd vn vd l m) : gn < w.heap.size ∧ gd < w.heap.size ∧ (∀ k, vn.ownBlock = some k → k < w.heap.size) ∧ ∀ k, vd.ownBlock = some k → k < w.heap.size := ⟨blk_lt h.cn, blk_lt h.cd, h.rn.lt, h.rd.lt⟩
def PvC (ls : List Fm) (LA : Option Addr) (lc : Nat) (wB : World) (x : Fm) : Prop := ∀ (d : Int) (l : List Fm) (m : List Int) (vn vd : Value) (A3 : Option Addr) (Ac3 : Nat) (A4 : Option Addr) (Ac4 : Nat) (gn gd : Nat) (w : World), PvI wB w gn gd vn vd l m → FmIn wB x A3 Ac3 A4 Ac4 → (l ++ varsF (varB ls) x).length ≤ 3000000 → (m ++ depsF (varB ls) d x).length ≤ 3000000 → 0 ≤ d → d + x.tot ≤ 3000000 →
    Calls Try.prog 105 #[.agg #[.int .i64 x.f0, .string x.f1, .int .i64 x.f2, .slice A3 x.f3.length Ac3, .slice A4 x.f4.length Ac4], .slice LA ls.length lc, .int .i64 d, .pointer (some ⟨gn, 0, none⟩), .pointer (some ⟨gd, 0, none⟩)] w (fun e w' => e = .returned (.tuple #[]) ∧ ∃ vn' vd', PvI wB w' gn gd vn' vd' (l ++ varsF (varB ls) x) (m ++ depsF (varB ls) d x) ∧ PvT w w' gn gd vn vd vn' vd')
set_option maxHeartbeats 1000000 in
set_option maxRecDepth 100000 in
theorem patternVars_any (ls : List Fm) (LA : Option Addr) (lc : Nat) (wB : World) (hr : kF.C wB LA ls.length ls) (hc : ls.length ≤ lc) (x : Fm) : PvC ls LA lc wB x := by
  induction x using Fm.ind with
  | h x ih =>
    intro d l m vn vd A3 Ac3 A4 Ac4 gn gd w hpv hin htn htd hd0 hd1
    have hmax := hin.g4.2.1
    have hcap := hin.l4
    have HZ := Lib.hid hpv.zero
    have HST := Lib.hid (PvW.start hpv (.cells #[.int .i64 x.f0, .string x.f1, .int .i64 x.f2, .slice A3 x.f3.length Ac3, .slice A4 x.f4.length Ac4] 34 (0, 0)))
    have HI := Lib.hid hin
    have HTN := Lib.hid htn
    have HTD := Lib.hid htd
    have IH := Lib.hid ih
    have HQ := Lib.hid (isVar_any x A3 Ac3 A4 Ac4 ls LA lc (w.alloc (.cells #[.int .i64 x.f0, .string x.f1, .int .i64 x.f2, .slice A3 x.f3.length Ac3, .slice A4 x.f4.length Ac4] 34)) (hin.below HST.out.i.bl) (Kd.C_below hr HST.out.i.bl) hc)
    clear hpv hin htn htd ih hr
    obtain ⟨p0, p1, p2, p3, p4⟩ := fm_cells HST.out.box
    go_enter Try.func105, Try.ntmps105
    go_wp2_with fail
    refine HQ.out.mono ?_
    rintro e w1 ⟨rfl, b⟩
    replace HST := Lib.hid (HST.out.quiet b)
    clear b p0 p1 p2 p3 p4 HQ
    cases hV : varB ls x with
    | true =>
      have HSUM : Hid (l ++ [x] ++ varsFs (varB ls) x.f4 = l ++ varsF (varB ls) x) := Lib.hid (by rw [varsF_eq, if_pos hV, List.append_assoc])
      have HSUD : Hid (m ++ [d] ++ depsFs (varB ls) d x.f4 = m ++ depsF (varB ls) d x) := Lib.hid (by rw [depsF_eq, if_pos hV, List.append_assoc])
      clear hV
      have HT := Lib.hid (show l.length + 1 ≤ 3000000 by have := HTN.out; rw [← HSUM.out, List.length_append, List.length_append] at this; simp at this; omega)
      have HT2 := Lib.hid (show m.length + 1 ≤ 3000000 by have := HTD.out; rw [← HSUD.out, List.length_append, List.length_append] at this; simp at this; omega)
      obtain ⟨NA, nc, rfl, hnc, _⟩ := HST.out.i.rn.reads HST.out.i.bl
      go_wp2_with fail
      have HS0 : Hid (∀ W : World, Below w1.heap.size w1 W → (fun W : World => W.cell? ⟨gn, 0, none⟩ = some (.slice NA l.length nc) ∧ W.cell? ⟨w.heap.size, 0, none⟩ = some (.int .i64 x.f0) ∧ W.cell? ⟨w.heap.size, 1, none⟩ = some (.string x.f1) ∧ W.cell? ⟨w.heap.size, 2, none⟩ = some (.int .i64 x.f2) ∧ W.cell? ⟨w.heap.size, 3, none⟩ = some (.slice A3 x.f3.length Ac3) ∧ W.cell? ⟨w.heap.size, 4, none⟩ = some (.slice A4 x.f4.length Ac4)) W) := Lib.hid (fun W hb => ⟨(blk_cell (blk_below HST.out.i.cn hb) 0).trans rfl, fm_cells (blk_below HST.out.box hb)⟩)
      have HD := Lib.hid (below_drew (Below.refl w1.heap.size w1))
      have hlt1 := eq_true (show (l.length : Int) < (l.length : Int) + 1 by omega)
      refine start_ (n := 11) (S := (fun W : World => W.cell? ⟨gn, 0, none⟩ = some (.slice NA l.length nc) ∧ W.cell? ⟨w.heap.size, 0, none⟩ = some (.int .i64 x.f0) ∧ W.cell? ⟨w.heap.size, 1, none⟩ = some (.string x.f1) ∧ W.cell? ⟨w.heap.size, 2, none⟩ = some (.int .i64 x.f2) ∧ W.cell? ⟨w.heap.size, 3, none⟩ = some (.slice A3 x.f3.length Ac3) ∧ W.cell? ⟨w.heap.size, 4, none⟩ = some (.slice A4 x.f4.length Ac4))) (ds := [8, 10]) #[false, false, false, false, false, false, false, false, false, false, false] (by kernel_rfl) rfl rfl (HS0.out _ HD.out) (fun hHeld => ?_)
      generalize World.drew _ = wd at HD hHeld ⊢
      refine pure_ (i := 0) (N := some 16) (v := ?_) (a' := ?_) #[true, false, false, false, false, false, false, false, false, false, false] rfl rfl (by kernel_rfl) (fun _ _ _ h => h) (Or.inl ⟨by rfl, ?_⟩) ?_ ?_
      rotate_left
      · intro w'
        go_simp
        with_reducible rfl
      rotate_left
      · simp only [Act.put, List.setIfInBounds_toArray, List.set_cons_zero, List.set_cons_succ, i64_w, i32_w]
        rfl
      refine pure_ (i := 1) (N := some 17) (v := ?_) (a' := ?_) #[true, true, false, false, false, false, false, false, false, false, false] rfl rfl (by kernel_rfl) (fun _ _ _ h => h) (Or.inl ⟨by rfl, ?_⟩) ?_ ?_
      rotate_left
      · intro w'
        go_simp
        with_reducible rfl
      rotate_left
      · simp only [Act.put, List.setIfInBounds_toArray, List.set_cons_zero, List.set_cons_succ, i64_w, i32_w]
        rfl
      refine take_ (i := 2) (N := some 18) (v := ?_) (a' := ?_) #[true, true, true, false, false, false, false, false, false, false, false] rfl rfl (by kernel_rfl) (fun _ _ _ h => h) (Or.inl ⟨by rfl, ?_⟩) hHeld ?_ ?_
      rotate_left
      · rintro w' ⟨s0, s1, s2, s3, s4, s5⟩
        go_simp
        with_reducible rfl
      rotate_left
      · simp only [Act.put, List.setIfInBounds_toArray, List.set_cons_zero, List.set_cons_succ, i64_w, i32_w]
        rfl
      refine take_ (i := 3) (N := some 19) (v := ?_) (a' := ?_) #[true, true, true, true, false, false, false, false, false, false, false] rfl rfl (by kernel_rfl) (fun _ _ _ h => h) (Or.inl ⟨by rfl, ?_⟩) hHeld ?_ ?_
      rotate_left
      · rintro w' ⟨s0, s1, s2, s3, s4, s5⟩
        go_simp
        with_reducible rfl
      rotate_left
      · simp only [Act.put, List.setIfInBounds_toArray, List.set_cons_zero, List.set_cons_succ, i64_w, i32_w]
        rfl
      refine pure_ (i := 4) (N := some 20) (v := ?_) (a' := ?_) #[true, true, true, true, true, false, false, false, false, false, false] rfl rfl (by kernel_rfl) (fun _ _ _ h => h) (Or.inl ⟨by rfl, ?_⟩) ?_ ?_
      rotate_left
      · intro w'
        go_simp
        with_reducible rfl
      rotate_left
      · simp only [Act.put, List.setIfInBounds_toArray, List.set_cons_zero, List.set_cons_succ, i64_w, i32_w]
        rfl
      refine one_ (i := 5) (N := some 21) #[true, true, true, true, true, true, false, false, false, false, false] rfl rfl (by kernel_rfl) (by decide) (fun K hK => ?_)
      refine value_ (w1 := ?_) (v := ?_) (by rfl) rfl ?_ ?_
      rotate_left 2
      · go_simp
        constructor
        · rfl
        · rfl
      clear hHeld
      refine hK.out _ _ (HS0.out _ (below_step HD.out (below_new wd _))) (fun hHeld => ?_)
      clear hK K
      refine norm_ (a' := ?_) ?_ ?_
      rotate_left
      · show Act.put _ (some 21) _ = _
        simp only [Act.put, List.setIfInBounds_toArray, List.set_cons_zero, List.set_cons_succ, i64_w, i32_w]
        rfl
      have HWD := Lib.hid (HST.out.quiet HD.out)
      have HSZ := Lib.hid (show wB.heap.size ≤ wd.heap.size from HWD.out.i.bl.size)
      obtain ⟨inner, hoR, hrl⟩ := HWD.out.i.rn.row
      have HO := Lib.hid hoR
      have HRL := Lib.hid hrl
      clear hoR hrl
      refine one_ (i := 6) (N := some 22) #[true, true, true, true, true, true, true, false, false, false, false] rfl rfl (by kernel_rfl) (by decide) (fun K hK => ?_)
      refine step_append_cells (w0 := wd) (W := wd) wB.heap.size (by rfl) (.tmp 18) (.tmp 21) 32 34 (.agg #[.int .i64 0, .string ⟨#[]⟩, .int .i64 0, .slice none 0 0, .slice none 0 0]) 5 80 rfl Try.underlying32 infoF rfl (by decide) (by omega) (.slice NA l.length nc) l.length inner [.int .i64 0, .string ⟨#[]⟩, .int .i64 0, .slice none 0 0, .slice none 0 0] rfl rfl rfl (by simp [Value.oneCell']) HO.out (Below.refl _ _) HSZ.out (by have := HT.out; omega) ?_
      intro v' w8 ho hb8 hg8 hat8
      have hv' : ∃ g c, v' = .slice (some ⟨g, 0, none⟩) (l.length + 1) c := by
        rcases ho with ⟨_, ⟨rfl, h0⟩ | ⟨g, cap, cur, rfl, _⟩⟩
        · exact absurd h0 (by omega)
        · exact ⟨_, _, rfl⟩
      obtain ⟨g, cap, rfl⟩ := hv'
      have HP := Lib.hid (pv_putF HWD.out.i HI.out HRL.out ho hg8 hat8)
      have HC8 : Hid ((fun W : World => W.cell? ⟨gn, 0, none⟩ = some (.slice NA l.length nc) ∧ W.cell? ⟨w.heap.size, 0, none⟩ = some (.int .i64 x.f0) ∧ W.cell? ⟨w.heap.size, 1, none⟩ = some (.string x.f1) ∧ W.cell? ⟨w.heap.size, 2, none⟩ = some (.int .i64 x.f2) ∧ W.cell? ⟨w.heap.size, 3, none⟩ = some (.slice A3 x.f3.length Ac3) ∧ W.cell? ⟨w.heap.size, 4, none⟩ = some (.slice A4 x.f4.length Ac4)) w8) := Lib.hid (by
        have h1 := HWD.out.i.nrow
        have hgn : (Value.slice NA l.length nc).ownBlock ≠ some gn := fun e => by obtain ⟨c, hc⟩ := h1 _ e; exact typ_ne hc HWD.out.i.cn (by decide) rfl
        have hgb : (Value.slice NA l.length nc).ownBlock ≠ some w.heap.size := fun e => by have := HZ.out.2.2.1 _ e; omega
        exact ⟨(blk_cell (blk_grown HWD.out.i.cn hg8 (fun e => hgn e.symm)) 0).trans rfl, fm_cells (blk_grown HWD.out.box hg8 (fun e => hgb e.symm))⟩)
      have HBX8 := Lib.hid (blk_grown HWD.out.box hg8 (fun e => by have := HZ.out.2.2.1 _ e.symm; omega))
      have HGNE := Lib.hid (show w.heap.size ≠ g by
        intro e
        subst e
        rcases hat8 with q | ⟨b, q, hb⟩
        · exact Nat.lt_irrefl _ (HZ.out.2.2.1 w.heap.size (by rw [← q]; rfl))
        · have h1 := HWD.out.sz
          have h2 : w.heap.size = b := by simpa [Value.ownBlock] using q
          omega)
      have HCN8 := Lib.hid (show w8.heap[gn]? = some (.cells #[.slice NA l.length nc] 32 (0, 0)) from blk_grown HWD.out.i.cn hg8 (fun e => by
        obtain ⟨c, hc⟩ := HWD.out.i.nrow _ e.symm
        exact typ_ne hc HWD.out.i.cn (by decide) rfl))
      have HGN2 := Lib.hid (show g ≠ gn by
        obtain ⟨cg, hcg⟩ := own_typed ho g rfl
        exact typ_ne hcg HCN8.out (by decide))
      clear ho hb8 hg8 hat8
      clear hHeld
      refine hK.out _ _ HC8.out (fun hHeld => ?_)
      clear hK K
      refine norm_ (a' := ?_) ?_ ?_
      rotate_left
      · show Act.put _ (some 22) _ = _
        simp only [Act.put, List.setIfInBounds_toArray, List.set_cons_zero, List.set_cons_succ, i64_w, i32_w]
        rfl
      clear hHeld
      have hHeld : True := trivial
      refine pure_ (i := 7) (N := some 23) (v := ?_) (a' := ?_) #[true, true, true, true, true, true, true, true, false, false, false] rfl rfl (by kernel_rfl) (fun _ _ _ h => h) (Or.inl ⟨by rfl, ?_⟩) ?_ ?_
      rotate_left
      · intro w'
        go_simp
        with_reducible rfl
      rotate_left
      · simp only [Act.put, List.setIfInBounds_toArray, List.set_cons_zero, List.set_cons_succ, i64_w, i32_w]
        rfl
      refine pure_ (i := 9) (N := some 24) (v := ?_) (a' := ?_) #[true, true, true, true, true, true, true, true, false, true, false] rfl rfl (by kernel_rfl) (fun _ _ _ h => h) (Or.inl ⟨by rfl, ?_⟩) ?_ ?_
      rotate_left
      · intro w'
        go_simp
        with_reducible rfl
      rotate_left
      · simp only [Act.put, List.setIfInBounds_toArray, List.set_cons_zero, List.set_cons_succ, i64_w, i32_w]
        rfl
      refine join_ (σ := Unit) 0 #[true, true, true, true, true, true, true, true, true, true, true] (fun _ => []) (fun _ W => PvI wB W gn gd (Value.slice (some ⟨g, 0, none⟩) (l.length + 1) cap) vd (l ++ [x]) m ∧ PvT wd W gn gd (.slice NA l.length nc) vd (Value.slice (some ⟨g, 0, none⟩) (l.length + 1) cap) vd) ?_ ?_
      rotate_left
      · intro hCont
        have hgn : g ≠ gn := HGN2.out
        refine twoLast_ (i := 8) (j := 10) #[true, true, true, true, true, true, true, true, true, true, false] #[true, true, true, true, true, true, true, true, false, true, true] rfl rfl (by kernel_rfl) (by decide) (by decide) (fun K hK => ?_) (fun K hK => ?_)
        · obtain ⟨⟨z0, z1, z2, z3, z4⟩, hfz, _⟩ := HP.out
          have f0 := hfz (l.length * 5)
          have f1 := hfz (l.length * 5 + 1)
          have f2 := hfz (l.length * 5 + 2)
          have f3 := hfz (l.length * 5 + 3)
          have f4 := hfz (l.length * 5 + 4)
          clear hfz
          refine skip_ (w1 := ?_) (by rfl) rfl ?_ ?_
          rotate_left
          · go_simp
            rfl
          refine hK.out _ _ ?_
          clear hK K z0 z1 z2 z3 z4 f0 f1 f2 f3 f4
          refine last_ (i := 10) (N := none) #[true, true, true, true, true, true, true, true, true, true, true] rfl rfl (by kernel_rfl) (by decide) (fun K hK => ?_)
          have q0 := (blk_cell HP.out.2.2.1 0).trans rfl
          have f0 := blk_frozen HP.out.2.2.1 0
          refine skip_ (w1 := ?_) (by rfl) rfl ?_ ?_
          rotate_left
          · go_simp
            rfl
          refine hK.out _ _ ?_
          exact norm_ (by simp only [putAll]) (hCont () _ HP.out.2.2.2)
        · have q0 := (blk_cell HCN8.out 0).trans rfl
          have f0 := blk_frozen HCN8.out 0
          refine skip_ (w1 := ?_) (by rfl) rfl ?_ ?_
          rotate_left
          · go_simp
            rfl
          refine hK.out _ _ ?_
          clear hK K q0 f0
          refine last_ (i := 8) (N := none) #[true, true, true, true, true, true, true, true, true, true, true] rfl rfl (by kernel_rfl) (by decide) (fun K hK => ?_)
          obtain ⟨⟨z0, z1, z2, z3, z4⟩, hfz, _⟩ := HP.out
          have f0 := hfz (l.length * 5)
          have f1 := hfz (l.length * 5 + 1)
          have f2 := hfz (l.length * 5 + 2)
          have f3 := hfz (l.length * 5 + 3)
          have f4 := hfz (l.length * 5 + 4)
          clear hfz
          rw [← cell_far (h := gn) (j := 0) (Value.slice (some ⟨g, 0, none⟩) (l.length + 1) cap) hgn] at z0
          rw [← frozen_far (h := gn) (j := 0) (Value.slice (some ⟨g, 0, none⟩) (l.length + 1) cap) hgn] at f0
          rw [← cell_far (h := gn) (j := 0) (Value.slice (some ⟨g, 0, none⟩) (l.length + 1) cap) hgn] at z1
          rw [← frozen_far (h := gn) (j := 0) (Value.slice (some ⟨g, 0, none⟩) (l.length + 1) cap) hgn] at f1
          rw [← cell_far (h := gn) (j := 0) (Value.slice (some ⟨g, 0, none⟩) (l.length + 1) cap) hgn] at z2
          rw [← frozen_far (h := gn) (j := 0) (Value.slice (some ⟨g, 0, none⟩) (l.length + 1) cap) hgn] at f2
          rw [← cell_far (h := gn) (j := 0) (Value.slice (some ⟨g, 0, none⟩) (l.length + 1) cap) hgn] at z3
          rw [← frozen_far (h := gn) (j := 0) (Value.slice (some ⟨g, 0, none⟩) (l.length + 1) cap) hgn] at f3
          rw [← cell_far (h := gn) (j := 0) (Value.slice (some ⟨g, 0, none⟩) (l.length + 1) cap) hgn] at z4
          rw [← frozen_far (h := gn) (j := 0) (Value.slice (some ⟨g, 0, none⟩) (l.length + 1) cap) hgn] at f4
          refine skip_ (w1 := ?_) (by rfl) rfl ?_ ?_
          rotate_left
          · go_simp
            rfl
          refine hK.out _ _ ?_
          exact norm_ (by simp only [putAll]) (hCont () _ (by
            have h := HP.out.2.2.2
            rw [← set5_swap _ _ _ _ _ _ _ hgn] at h
            exact h))
      rintro ⟨⟩ w9 ⟨hI9, hT9⟩
      have hHeld : True := trivial
      refine norm_ (a' := ?_) ?_ ?_
      rotate_left
      · simp only [putAll]
        rfl
      refine done_ (by kernel_rfl) ?_
      replace HST := Lib.hid (HWD.out.step HZ.out hI9 hT9)
      clear hI9 hT9 HP HC8 HBX8 HGNE HGN2 HCN8 HWD HO HRL HSZ HD HS0 hHeld
      have hcd : w9.cell? ⟨gd, 0, none⟩ = some vd := (blk_cell HST.out.i.cd 0).trans rfl
      have HO := Lib.hid HST.out.i.rd.row
      have HSZ := Lib.hid HST.out.i.bl.size
      go_wp2_with (first | ((with_reducible refine gate_dst (N := 31) rfl ?_); refine print_append_num (w0 := w9) wB.heap.size rfl (.tmp 28) (.tmp 30) 23 3 .i64 8 rfl Try.underlying23 infoI (by decide) vd m d rfl rfl HO.out (Below.refl _ _) HSZ.out (by have := HT2.out; omega) ?_; intro v1 w10 ho1 hb1 hg1 hat1; obtain ⟨E5, e5, e6, -, -⟩ := (RowI.mk ho1 : RowI wB w10 v1 (m ++ [d])).reads; obtain rfl : v1 = .slice E5 (m.length + 1) e5 := (by rw [e6, List.length_append]; rfl); have HPI := Lib.hid (pv_putI HST.out.i ho1 hg1 hat1); try clear e6; have r2 : w10.cell? ⟨gd, 0, none⟩ = some vd := (blk_cell HPI.out.1 0).trans rfl; have r3 := blk_frozen HPI.out.1 0; have HN := Lib.hid (HST.out.step HZ.out HPI.out.2.1 HPI.out.2.2); obtain ⟨p0, p1, p2, p3, p4⟩ := fm_cells (blk_grown HST.out.box hg1 (fun e => absurd (HZ.out.2.2.2 _ e.symm) (Nat.lt_irrefl _))); clear ho1 hb1 hg1 hat1 hcd))
      try clear p4
      clear p0 p1 p2 p3 r2 r3 HPI HO HSZ HT HT2 HST
      generalize (Value.slice E5 (m.length + 1) e5) = vy at HN ⊢
      generalize w10.setCell ⟨gd, 0, none⟩ vy = wz at HN ⊢
      clear hlt1 hnc
      generalize (Value.slice (some ⟨g, 0, none⟩) (l.length + 1) cap) = vz at HN ⊢
      go_loopg [10, 11, 12, 36] x.f4.length (fun kq v10 v11 v12 v36 w' => ∃ (i : Nat) (an ad : Value) (acc : List Fm) (accd : List Int), i ≤ x.f4.length ∧ x.f4.length - i ≤ kq ∧ v36 = .int .i64 i ∧ Aside0 (acc ++ varsFs (varB ls) (x.f4.drop i) = l ++ varsF (varB ls) x) ∧ Aside0 (accd ++ depsFs (varB ls) d (x.f4.drop i) = m ++ depsF (varB ls) d x) ∧ Aside0 (PvW wB w (.cells #[.int .i64 x.f0, .string x.f1, .int .i64 x.f2, .slice A3 x.f3.length Ac3, .slice A4 x.f4.length Ac4] 34 (0, 0)) gn gd (.slice NA l.length nc) vd w' an ad acc accd))
      case atStart => exact ⟨0, _, _, _, _, Nat.zero_le _, by omega, rfl, ⟨by rw [List.drop_zero]; exact HSUM.out⟩, ⟨by rw [List.drop_zero]; exact HSUD.out⟩, ⟨HN.out⟩⟩
      case round =>
        obtain ⟨i, an, ad0, acc, accd, hi, hg, rfl, HA1, HA2, HS⟩ := hrel
        by_cases hlt : i < x.f4.length
        rotate_left
        · obtain rfl : i = x.f4.length := by omega
          have HE1 : Hid (acc = l ++ varsF (varB ls) x) := Lib.hid (by have := HA1.out; rwa [List.drop_length, varsFs, List.append_nil] at this)
          have HE2 : Hid (accd = m ++ depsF (varB ls) d x) := Lib.hid (by have := HA2.out; rwa [List.drop_length, depsFs, List.append_nil] at this)
          go_wp2_with fail
          go_end0
          exact ⟨rfl, _, _, by rw [← HE1.out, ← HE2.out]; exact HS.out.i, ⟨HS.out.b0, HS.out.keep, HS.out.g1.less (Nat.le_succ _), HS.out.g2.less (Nat.le_succ _)⟩⟩
        obtain ⟨ad, X3, Xc3, X4, Xc4, e, g0, g1, g2, g3, g4, hk⟩ := kid_at HI.out.g4 i hlt
        subst e
        have k0 := ck0 HS.out.i.bl g0
        have k1 := ck0 HS.out.i.bl g1
        have k2 := ck0 HS.out.i.bl g2
        have k3 := ck0 HS.out.i.bl g3
        have k4 := ck0 HS.out.i.bl g4
        clear g0 g1 g2 g3 g4
        have HK := Lib.hid hk
        have HS2 := Lib.hid (HS.out.quiet (below_new wr (.cells #[.int .i64 x.f4[i].f0, .string x.f4[i].f1, .int .i64 x.f4[i].f2, .slice X3 x.f4[i].f3.length Xc3, .slice X4 x.f4[i].f4.length Xc4] 34)))
        have HKB := Lib.hid (blk_new wr (.cells #[.int .i64 x.f4[i].f0, .string x.f4[i].f1, .int .i64 x.f4[i].f2, .slice X3 x.f4[i].f3.length Xc3, .slice X4 x.f4[i].f4.length Xc4] 34))
        clear hk
        obtain ⟨p0, p1, p2, p3, p4⟩ := fm_cells HS2.out.box
        obtain ⟨q0, q1, q2, q3, q4⟩ := fm_cells HKB.out
        have HV := Lib.hid (varsFs_drop (varB ls) hlt)
        have HP := Lib.hid (depsFs_drop (varB ls) d hlt)
        have HLN := Lib.hid (fun d2 => show (acc ++ varsF (varB ls) x.f4[i]).length ≤ 3000000 ∧ (accd ++ depsF (varB ls) d2 x.f4[i]).length ≤ 3000000 by
          have h1 := congrArg List.length HA1.out
          have h2 := congrArg List.length HA2.out
          rw [HV.out, ← List.append_assoc, List.length_append] at h1
          rw [HP.out, ← List.append_assoc, List.length_append, List.length_append, len_depsF] at h2
          rw [@List.length_append _ accd, len_depsF]
          have h3 := HTN.out
          have h4 := HTD.out
          omega)
        have HKT := Lib.hid (getKidT hlt)
        have HIH := Lib.hid (fun d2 (h0 : 0 ≤ d2) (h1 : d2 ≤ d + 1) W hI => IH.out x.f4[i] (List.getElem_mem hlt) d2 acc accd an ad0 X3 Xc3 X4 Xc4 gn gd W hI HK.out (HLN.out d2).1 (HLN.out d2).2 h0 (by have := HKT.out; omega))
        have HWI : Hid (wrap64 ((i : Int) + 1) = ((i + 1 : Nat) : Int)) := Lib.hid (by rw [Go.IntWalk.wrap64_in _ ⟨by omega, by omega⟩]; omega)
        have HWD : Hid (wrap64 (d + 1) = d + 1) := Lib.hid (Go.IntWalk.wrap64_in _ ⟨by omega, by omega⟩)
        by_cases hn : i + 1 < x.f4.length
        rotate_left
        · have NX : Hid (nextD d (x.f4.drop (i + 1)) = d) := Lib.hid (nextD_no d (fun h => absurd h hn))
          have t1 : decide (((i + 1 : Nat) : Int) < (x.f4.length : Int)) = false := decide_eq_false (by omega)
          have t1' : decide (i + 1 < x.f4.length) = false := decide_eq_false hn
          have HR := Lib.hid (HIH.out d hd0 (by omega) _ HS2.out.i)
          have hwi := HWI.out
          have hwd := HWD.out
          go_wp2_with fail
          clear hwi hwd
          refine HR.out.mono ?_
          rintro e w2 ⟨rfl, an2, ad2, hi2, ht2⟩
          have HSN := Lib.hid (HS2.out.step HZ.out hi2 ht2)
          clear hi2 ht2 p0 p1 p2 p3 p4 q0 q1 q2 q3 q4 k0 k1 k2 k3 k4
          go_wp2_with fail
          go_roundg (x.f4.length - (i + 1))
          case measure => omega
          case rel => exact ⟨i + 1, _, _, _, _, by omega, Nat.le_refl _, by go_num, ⟨by rw [List.append_assoc, ← HV.out]; exact HA1.out⟩, ⟨by rw [List.append_assoc]; have := HA2.out; rw [HP.out, NX.out] at this; exact this⟩, ⟨HSN.out⟩⟩
        obtain ⟨ad2, Y3, Yc3, Y4, Yc4, e2, h0, h1, h2, h3, h4, hk2⟩ := kid_at HI.out.g4 (i + 1) hn
        obtain rfl : ad = ad2 := by injection e2
        clear e2
        have m0 := ck0 HS2.out.i.bl h0
        have m1 := ck0 HS2.out.i.bl h1
        have m2 := ck0 HS2.out.i.bl h2
        have m3 := ck0 HS2.out.i.bl h3
        have m4 := ck0 HS2.out.i.bl h4
        clear h0 h1 h2 h3 h4
        have t1 : decide (((i + 1 : Nat) : Int) < (x.f4.length : Int)) = true := decide_eq_true (by omega)
        have t1' : decide (i + 1 < x.f4.length) = true := decide_eq_true hn
        have c1 : (0 : Int) ≤ ((i + 1 : Nat) : Int) := by omega
        have c2 : ((i + 1 : Nat) : Int) < (x.f4.length : Int) := by omega
        have HDT := Lib.hid (namedDots_any x.f4[i + 1] Y3 Yc3 Y4 Yc4 _ (hk2.below HS2.out.i.bl))
        clear hk2
        cases hd : dotsB x.f4[i + 1] with
        | false =>
          rw [hd] at HDT
          have NX : Hid (nextD d (x.f4.drop (i + 1)) = d) := Lib.hid (nextD_no d (fun h => hd))
          clear hd
          have hwi := HWI.out
          have hwd := HWD.out
          go_wp2_with fail
          clear hwi hwd
          refine HDT.out.mono ?_
          rintro e wq ⟨rfl, bq⟩
          replace HS2 := Lib.hid (HS2.out.quiet bq)
          replace HKB := Lib.hid (blk_below HKB.out bq)
          clear bq p0 p1 p2 p3 p4 k0 k1 k2 k3 k4 m0 m1 m2 m3 m4 q0 q1 q2 q3 q4
          obtain ⟨q0, q1, q2, q3, q4⟩ := fm_cells HKB.out
          have HR := Lib.hid (HIH.out d hd0 (by omega) _ HS2.out.i)
          have hwi := HWI.out
          have hwd := HWD.out
          go_wp2_with fail
          clear hwi hwd
          refine HR.out.mono ?_
          rintro e w2 ⟨rfl, an2, ad2, hi2, ht2⟩
          have HSN := Lib.hid (HS2.out.step HZ.out hi2 ht2)
          clear hi2 ht2 q0 q1 q2 q3 q4
          go_wp2_with fail
          go_roundg (x.f4.length - (i + 1))
          case measure => omega
          case rel => exact ⟨i + 1, _, _, _, _, by omega, Nat.le_refl _, by go_num, ⟨by rw [List.append_assoc, ← HV.out]; exact HA1.out⟩, ⟨by rw [List.append_assoc]; have := HA2.out; rw [HP.out, NX.out] at this; exact this⟩, ⟨HSN.out⟩⟩
        | true =>
          rw [hd] at HDT
          have NX : Hid (nextD d (x.f4.drop (i + 1)) = d + 1) := Lib.hid (nextD_yes d hn hd)
          clear hd
          have hwi := HWI.out
          have hwd := HWD.out
          go_wp2_with fail
          clear hwi hwd
          refine HDT.out.mono ?_
          rintro e wq ⟨rfl, bq⟩
          replace HS2 := Lib.hid (HS2.out.quiet bq)
          replace HKB := Lib.hid (blk_below HKB.out bq)
          clear bq p0 p1 p2 p3 p4 k0 k1 k2 k3 k4 m0 m1 m2 m3 m4 q0 q1 q2 q3 q4
          obtain ⟨q0, q1, q2, q3, q4⟩ := fm_cells HKB.out
          have HR := Lib.hid (HIH.out (d + 1) (by omega) (by omega) _ HS2.out.i)
          have hwi := HWI.out
          have hwd := HWD.out
          go_wp2_with fail
          clear hwi hwd
          refine HR.out.mono ?_
          rintro e w2 ⟨rfl, an2, ad2, hi2, ht2⟩
          have HSN := Lib.hid (HS2.out.step HZ.out hi2 ht2)
          clear hi2 ht2 q0 q1 q2 q3 q4
          go_wp2_with fail
          go_roundg (x.f4.length - (i + 1))
          case measure => omega
          case rel => exact ⟨i + 1, _, _, _, _, by omega, Nat.le_refl _, by go_num, ⟨by rw [List.append_assoc, ← HV.out]; exact HA1.out⟩, ⟨by rw [List.append_assoc]; have := HA2.out; rw [HP.out, NX.out] at this; exact this⟩, ⟨HSN.out⟩⟩
    | false =>
      have HSUM : Hid (l ++ varsFs (varB ls) x.f4 = l ++ varsF (varB ls) x) := Lib.hid (by rw [varsF_eq, if_neg (by rw [hV]; simp), List.nil_append])
      have HSUD : Hid (m ++ depsFs (varB ls) d x.f4 = m ++ depsF (varB ls) d x) := Lib.hid (by rw [depsF_eq, if_neg (by rw [hV]; simp), List.nil_append])
      clear hV
      have HN := HST
      clear HST
      obtain ⟨p0, p1, p2, p3, p4⟩ := fm_cells HN.out.box
      go_wp2_with fail
      clear p0 p1 p2 p3 p4
      go_loopg [10, 11, 12, 36] x.f4.length (fun kq v10 v11 v12 v36 w' => ∃ (i : Nat) (an ad : Value) (acc : List Fm) (accd : List Int), i ≤ x.f4.length ∧ x.f4.length - i ≤ kq ∧ v36 = .int .i64 i ∧ Aside0 (acc ++ varsFs (varB ls) (x.f4.drop i) = l ++ varsF (varB ls) x) ∧ Aside0 (accd ++ depsFs (varB ls) d (x.f4.drop i) = m ++ depsF (varB ls) d x) ∧ Aside0 (PvW wB w (.cells #[.int .i64 x.f0, .string x.f1, .int .i64 x.f2, .slice A3 x.f3.length Ac3, .slice A4 x.f4.length Ac4] 34 (0, 0)) gn gd vn vd w' an ad acc accd))
      case atStart => exact ⟨0, _, _, _, _, Nat.zero_le _, by omega, rfl, ⟨by rw [List.drop_zero]; exact HSUM.out⟩, ⟨by rw [List.drop_zero]; exact HSUD.out⟩, ⟨HN.out⟩⟩
      case round =>
        obtain ⟨i, an, ad0, acc, accd, hi, hg, rfl, HA1, HA2, HS⟩ := hrel
        by_cases hlt : i < x.f4.length
        rotate_left
        · obtain rfl : i = x.f4.length := by omega
          have HE1 : Hid (acc = l ++ varsF (varB ls) x) := Lib.hid (by have := HA1.out; rwa [List.drop_length, varsFs, List.append_nil] at this)
          have HE2 : Hid (accd = m ++ depsF (varB ls) d x) := Lib.hid (by have := HA2.out; rwa [List.drop_length, depsFs, List.append_nil] at this)
          go_wp2_with fail
          go_end0
          exact ⟨rfl, _, _, by rw [← HE1.out, ← HE2.out]; exact HS.out.i, ⟨HS.out.b0, HS.out.keep, HS.out.g1.less (Nat.le_succ _), HS.out.g2.less (Nat.le_succ _)⟩⟩
        obtain ⟨ad, X3, Xc3, X4, Xc4, e, g0, g1, g2, g3, g4, hk⟩ := kid_at HI.out.g4 i hlt
        subst e
        have k0 := ck0 HS.out.i.bl g0
        have k1 := ck0 HS.out.i.bl g1
        have k2 := ck0 HS.out.i.bl g2
        have k3 := ck0 HS.out.i.bl g3
        have k4 := ck0 HS.out.i.bl g4
        clear g0 g1 g2 g3 g4
        have HK := Lib.hid hk
        have HS2 := Lib.hid (HS.out.quiet (below_new wr (.cells #[.int .i64 x.f4[i].f0, .string x.f4[i].f1, .int .i64 x.f4[i].f2, .slice X3 x.f4[i].f3.length Xc3, .slice X4 x.f4[i].f4.length Xc4] 34)))
        have HKB := Lib.hid (blk_new wr (.cells #[.int .i64 x.f4[i].f0, .string x.f4[i].f1, .int .i64 x.f4[i].f2, .slice X3 x.f4[i].f3.length Xc3, .slice X4 x.f4[i].f4.length Xc4] 34))
        clear hk
        obtain ⟨p0, p1, p2, p3, p4⟩ := fm_cells HS2.out.box
        obtain ⟨q0, q1, q2, q3, q4⟩ := fm_cells HKB.out
        have HV := Lib.hid (varsFs_drop (varB ls) hlt)
        have HP := Lib.hid (depsFs_drop (varB ls) d hlt)
        have HLN := Lib.hid (fun d2 => show (acc ++ varsF (varB ls) x.f4[i]).length ≤ 3000000 ∧ (accd ++ depsF (varB ls) d2 x.f4[i]).length ≤ 3000000 by
          have h1 := congrArg List.length HA1.out
          have h2 := congrArg List.length HA2.out
          rw [HV.out, ← List.append_assoc, List.length_append] at h1
          rw [HP.out, ← List.append_assoc, List.length_append, List.length_append, len_depsF] at h2
          rw [@List.length_append _ accd, len_depsF]
          have h3 := HTN.out
          have h4 := HTD.out
          omega)
        have HKT := Lib.hid (getKidT hlt)
        have HIH := Lib.hid (fun d2 (h0 : 0 ≤ d2) (h1 : d2 ≤ d + 1) W hI => IH.out x.f4[i] (List.getElem_mem hlt) d2 acc accd an ad0 X3 Xc3 X4 Xc4 gn gd W hI HK.out (HLN.out d2).1 (HLN.out d2).2 h0 (by have := HKT.out; omega))
        have HWI : Hid (wrap64 ((i : Int) + 1) = ((i + 1 : Nat) : Int)) := Lib.hid (by rw [Go.IntWalk.wrap64_in _ ⟨by omega, by omega⟩]; omega)
        have HWD : Hid (wrap64 (d + 1) = d + 1) := Lib.hid (Go.IntWalk.wrap64_in _ ⟨by omega, by omega⟩)
        by_cases hn : i + 1 < x.f4.length
        rotate_left
        · have NX : Hid (nextD d (x.f4.drop (i + 1)) = d) := Lib.hid (nextD_no d (fun h => absurd h hn))
          have t1 : decide (((i + 1 : Nat) : Int) < (x.f4.length : Int)) = false := decide_eq_false (by omega)
          have t1' : decide (i + 1 < x.f4.length) = false := decide_eq_false hn
          have HR := Lib.hid (HIH.out d hd0 (by omega) _ HS2.out.i)
          have hwi := HWI.out
          have hwd := HWD.out
          go_wp2_with fail
          clear hwi hwd
          refine HR.out.mono ?_
          rintro e w2 ⟨rfl, an2, ad2, hi2, ht2⟩
          have HSN := Lib.hid (HS2.out.step HZ.out hi2 ht2)
          clear hi2 ht2 p0 p1 p2 p3 p4 q0 q1 q2 q3 q4 k0 k1 k2 k3 k4
          go_wp2_with fail
          go_roundg (x.f4.length - (i + 1))
          case measure => omega
          case rel => exact ⟨i + 1, _, _, _, _, by omega, Nat.le_refl _, by go_num, ⟨by rw [List.append_assoc, ← HV.out]; exact HA1.out⟩, ⟨by rw [List.append_assoc]; have := HA2.out; rw [HP.out, NX.out] at this; exact this⟩, ⟨HSN.out⟩⟩
        obtain ⟨ad2, Y3, Yc3, Y4, Yc4, e2, h0, h1, h2, h3, h4, hk2⟩ := kid_at HI.out.g4 (i + 1) hn
        obtain rfl : ad = ad2 := by injection e2
        clear e2
        have m0 := ck0 HS2.out.i.bl h0
        have m1 := ck0 HS2.out.i.bl h1
        have m2 := ck0 HS2.out.i.bl h2
        have m3 := ck0 HS2.out.i.bl h3
        have m4 := ck0 HS2.out.i.bl h4
        clear h0 h1 h2 h3 h4
        have t1 : decide (((i + 1 : Nat) : Int) < (x.f4.length : Int)) = true := decide_eq_true (by omega)
        have t1' : decide (i + 1 < x.f4.length) = true := decide_eq_true hn
        have c1 : (0 : Int) ≤ ((i + 1 : Nat) : Int) := by omega
        have c2 : ((i + 1 : Nat) : Int) < (x.f4.length : Int) := by omega
        have HDT := Lib.hid (namedDots_any x.f4[i + 1] Y3 Yc3 Y4 Yc4 _ (hk2.below HS2.out.i.bl))
        clear hk2
        cases hd : dotsB x.f4[i + 1] with
        | false =>
          rw [hd] at HDT
          have NX : Hid (nextD d (x.f4.drop (i + 1)) = d) := Lib.hid (nextD_no d (fun h => hd))
          clear hd
          have hwi := HWI.out
          have hwd := HWD.out
          go_wp2_with fail
          clear hwi hwd
          refine HDT.out.mono ?_
          rintro e wq ⟨rfl, bq⟩
          replace HS2 := Lib.hid (HS2.out.quiet bq)
          replace HKB := Lib.hid (blk_below HKB.out bq)
          clear bq p0 p1 p2 p3 p4 k0 k1 k2 k3 k4 m0 m1 m2 m3 m4 q0 q1 q2 q3 q4
          obtain ⟨q0, q1, q2, q3, q4⟩ := fm_cells HKB.out
          have HR := Lib.hid (HIH.out d hd0 (by omega) _ HS2.out.i)
          have hwi := HWI.out
          have hwd := HWD.out
          go_wp2_with fail
          clear hwi hwd
          refine HR.out.mono ?_
          rintro e w2 ⟨rfl, an2, ad2, hi2, ht2⟩
          have HSN := Lib.hid (HS2.out.step HZ.out hi2 ht2)
          clear hi2 ht2 q0 q1 q2 q3 q4
          go_wp2_with fail
          go_roundg (x.f4.length - (i + 1))
          case measure => omega
          case rel => exact ⟨i + 1, _, _, _, _, by omega, Nat.le_refl _, by go_num, ⟨by rw [List.append_assoc, ← HV.out]; exact HA1.out⟩, ⟨by rw [List.append_assoc]; have := HA2.out; rw [HP.out, NX.out] at this; exact this⟩, ⟨HSN.out⟩⟩
        | true =>
          rw [hd] at HDT
          have NX : Hid (nextD d (x.f4.drop (i + 1)) = d + 1) := Lib.hid (nextD_yes d hn hd)
          clear hd
          have hwi := HWI.out
          have hwd := HWD.out
          go_wp2_with fail
          clear hwi hwd
          refine HDT.out.mono ?_
          rintro e wq ⟨rfl, bq⟩
          replace HS2 := Lib.hid (HS2.out.quiet bq)
          replace HKB := Lib.hid (blk_below HKB.out bq)
          clear bq p0 p1 p2 p3 p4 k0 k1 k2 k3 k4 m0 m1 m2 m3 m4 q0 q1 q2 q3 q4
          obtain ⟨q0, q1, q2, q3, q4⟩ := fm_cells HKB.out
          have HR := Lib.hid (HIH.out (d + 1) (by omega) (by omega) _ HS2.out.i)
          have hwi := HWI.out
          have hwd := HWD.out
          go_wp2_with fail
          clear hwi hwd
          refine HR.out.mono ?_
          rintro e w2 ⟨rfl, an2, ad2, hi2, ht2⟩
          have HSN := Lib.hid (HS2.out.step HZ.out hi2 ht2)
          clear hi2 ht2 q0 q1 q2 q3 q4
          go_wp2_with fail
          go_roundg (x.f4.length - (i + 1))
          case measure => omega
          case rel => exact ⟨i + 1, _, _, _, _, by omega, Nat.le_refl _, by go_num, ⟨by rw [List.append_assoc, ← HV.out]; exact HA1.out⟩, ⟨by rw [List.append_assoc]; have := HA2.out; rw [HP.out, NX.out] at this; exact this⟩, ⟨HSN.out⟩⟩
end Go.Proofs.Ytlklclebjeeaaaa
end
section
namespace Go.Proofs.Ytlklclebjeeaaaa
open Go.RowKit Go.Proofs.YtlklclebjeeaaaaW.PrintWords Go.Proofs.YtlklclebjeeaaaaW.PrintLast Go.Proofs.YtlklclebjeeaaaaW.PrintMore
set_option linter.unusedVariables false
set_option linter.unusedSimpArgs false
theorem specIn_any (ls : List Fm) (LA : Option Addr) (lc : Nat) (x : Fm) (A3 : Option Addr) (Ac3 : Nat) (A4 : Option Addr) (Ac4 : Nat) (w : World) (hr : kF.C w LA ls.length ls) (hc : ls.length ≤ lc) (hx : FmIn w x A3 Ac3 A4 Ac4) (hl : ls.length ≤ 2000000) :
    Calls Try.prog 102 #[.slice LA ls.length lc, .agg #[.int .i64 x.f0, .string x.f1, .int .i64 x.f2, .slice A3 x.f3.length Ac3, .slice A4 x.f4.length Ac4]] w (Ret w (.bool (ls.any (fun a => eqB a x)))) := by
  obtain ⟨k, hk⟩ := (ev_l4In ls x hl).rounds
  exact Q.spec_l4In.calls k LA lc ls x.f0 x.f1 x.f2 A3 Ac3 x.f3 A4 Ac4 x.f4 _ w hr hc hx.g3 hx.l3 hx.g4 hx.l4 hk
theorem specLits_any (ls : List Fm) (LA : Option Addr) (lc : Nat) (w : World) (hr : kF.C w LA ls.length ls) (hc : ls.length ≤ lc) (hl : ls.length ≤ 2000000) (ht : ∀ x, x ∈ ls → x.tot ≤ 1048576) :
    Calls Try.prog 99 #[.slice LA ls.length lc] w (Ret w (.bool (pB (LitsOk ls)))) := by
  obtain ⟨k, hk⟩ := (ev_l4Literals hl ht).rounds
  exact Q.spec_l4Literals.calls k LA lc ls _ w hr hc hk
theorem specShape_any (x : Fm) (A3 : Option Addr) (Ac3 : Nat) (A4 : Option Addr) (Ac4 : Nat) (w : World) (hx : FmIn w x A3 Ac3 A4 Ac4) (ht : x.tot ≤ 2000000) :
    Calls Try.prog 100 #[.agg #[.int .i64 x.f0, .string x.f1, .int .i64 x.f2, .slice A3 x.f3.length Ac3, .slice A4 x.f4.length Ac4]] w (Ret w (.bool (!dotsB x && pB (ShOk x)))) := by
  obtain ⟨k, hk⟩ := (ev_l4Shape x ht).rounds
  exact Q.spec_l4Shape.calls k x.f0 x.f1 x.f2 A3 Ac3 x.f3 A4 Ac4 x.f4 _ w hx.g3 hx.l3 hx.g4 hx.l4 hk
theorem rowF_lit (wB w : World) (hb : Below wB.heap.size wB w) : RowF wB (w.alloc (.cells #[] 34)) (.slice (some ⟨w.heap.size, 0, none⟩) 0 0) [] :=
  ⟨[], World.ownsRow_lit (base := wB.heap.size) (e := 34) (size := 5) w #[] 0 hb.size (by simp [maxLen]) (by simp), .nil⟩
theorem rowI_lit (wB w : World) (hb : Below wB.heap.size wB w) : RowI wB (w.alloc (.cells #[] 3)) (.slice (some ⟨w.heap.size, 0, none⟩) 0 0) [] :=
  ⟨own_lit w wB.heap.size 3 .i64 [] hb.size (by simp)⟩
/-- The depths of a pattern's variables are small. -/
def depOk (l : List Int) (i : Nat) : Prop := ∀ h : i < l.length, l[i] ≤ 3
set_option maxHeartbeats 2000000 in
set_option maxRecDepth 100000 in
theorem l4Is_any (x : Fm) (A3 : Option Addr) (Ac3 : Nat) (A4 : Option Addr) (Ac4 : Nat) (ls : List Fm) (LA : Option Addr) (lc : Nat) (w : World) (hx : FmIn w x A3 Ac3 A4 Ac4) (hr : kF.C w LA ls.length ls) (hc : ls.length ≤ lc) (ht : x.tot ≤ 1048576) (hl : ls.length ≤ 2000000) (hlt : ∀ y, y ∈ ls → y.tot ≤ 1048576) :
    Calls Try.prog 71 #[.agg #[.int .i64 x.f0, .string x.f1, .int .i64 x.f2, .slice A3 x.f3.length Ac3, .slice A4 x.f4.length Ac4], .slice LA ls.length lc] w (Ret w (.bool (pB (PatOk x ls)))) := by
  have HB := Lib.hid (below_new w (.cells #[.int .i64 x.f0, .string x.f1, .int .i64 x.f2, .slice A3 x.f3.length Ac3, .slice A4 x.f4.length Ac4] 34))
  have HA := Lib.hid (blk_new w (.cells #[.int .i64 x.f0, .string x.f1, .int .i64 x.f2, .slice A3 x.f3.length Ac3, .slice A4 x.f4.length Ac4] 34))
  have HV := Lib.hid (specValid_any x A3 Ac3 A4 Ac4 _ (hx.below HB.out) ht)
  have HL := Lib.hid (fun W hb => specLits_any ls LA lc W (Kd.C_below hr hb) hc hl hlt)
  have HP := Lib.hid (fun W hb => specShape_any x A3 Ac3 A4 Ac4 W (hx.below hb) (by omega))
  have HI := Lib.hid (fun W (hb : Below w.heap.size w W) => hx.below hb)
  have HR := Lib.hid (fun W (hb : Below w.heap.size w W) => Kd.C_below hr hb)
  have hlv := len_varsF (varB ls) x
  have hld := len_depsF (varB ls) 0 x
  have HLV := Lib.hid (And.intro hlv hld)
  have HT := Lib.hid ht
  clear hx hr hlv hld
  obtain ⟨p0, p1, p2, p3, p4⟩ := fm_cells HA.out
  go_enter Try.func71, Try.ntmps71
  go_wp2_with fail
  refine HV.out.mono ?_
  rintro e w1 ⟨rfl, b⟩
  replace HA := Lib.hid (blk_below HA.out b)
  replace HB := Lib.hid (below_step HB.out b)
  clear b p0 p1 p2 p3 p4
  obtain ⟨p0, p1, p2, p3, p4⟩ := fm_cells HA.out
  cases h1 : pB (FmOk x) with
  | false =>
    have E := Lib.hid (pB_false' h1)
    clear h1
    go_wp2_with fail
    go_ret
    exact ⟨ret_b (pB_no (fun k => E.out k.1)), HB.out⟩
  | true =>
  have E1 := Lib.hid (pB_iff.1 h1)
  clear h1
  go_wp2_with fail
  refine (HL.out _ HB.out).mono ?_
  rintro e w2 ⟨rfl, b⟩
  replace HA := Lib.hid (blk_below HA.out b)
  replace HB := Lib.hid (below_step HB.out b)
  clear b p0 p1 p2 p3 p4
  obtain ⟨p0, p1, p2, p3, p4⟩ := fm_cells HA.out
  cases h2 : pB (LitsOk ls) with
  | false =>
    have E := Lib.hid (pB_false' h2)
    clear h2
    go_wp2_with fail
    go_ret
    exact ⟨ret_b (pB_no (fun k => E.out k.2.1)), HB.out⟩
  | true =>
  have E2 := Lib.hid (pB_iff.1 h2)
  clear h2
  go_wp2_with fail
  refine (HP.out _ HB.out).mono ?_
  rintro e w3 ⟨rfl, b⟩
  replace HA := Lib.hid (blk_below HA.out b)
  replace HB := Lib.hid (below_step HB.out b)
  clear b p0 p1 p2 p3 p4
  obtain ⟨p0, p1, p2, p3, p4⟩ := fm_cells HA.out
  cases h3 : (!dotsB x && pB (ShOk x)) with
  | false =>
    have E : Hid (¬ (dotsB x = false ∧ ShOk x)) := Lib.hid (fun k => by rw [k.1, pB_iff.2 k.2] at h3; cases h3)
    clear h3
    go_wp2_with fail
    go_ret
    exact ⟨ret_b (pB_no (fun k => E.out ⟨k.2.2.1, k.2.2.2.1⟩)), HB.out⟩
  | true =>
  have E3 : Hid (dotsB x = false ∧ ShOk x) := Lib.hid (by rw [Bool.and_eq_true, pB_iff] at h3; exact ⟨by simpa using h3.1, h3.2⟩)
  clear h3
  have hbx := below_new w3 (.cells #[] 34)
  have HQ := Lib.hid (l4Vars_any ls LA lc w3 (HR.out _ HB.out) hc hl x [] (.slice (some ⟨w3.heap.size, 0, none⟩) 0 0) A3 Ac3 A4 Ac4 (w3.alloc (.cells #[] 34)) hbx (rowF_lit w3 w3 (Below.refl _ _)) (HI.out _ HB.out) (by have := HLV.out.1; have := HT.out; simp; omega))
  obtain ⟨z0, z1, z2, z3, z4⟩ := fm_cells (blk_below HA.out hbx)
  clear hbx
  go_wp2_with fail
  clear p0 p1 p2 p3 p4 z0 z1 z2 z3 z4
  refine HQ.out.mono ?_
  rintro e w4 ⟨v4, rfl, hrow, hb4, _, _⟩
  obtain ⟨VA, vc, rfl, hvc, hvr⟩ := hrow.reads hb4
  have HVR := Lib.hid (And.intro hvc hvr)
  replace HA := Lib.hid (blk_below HA.out hb4)
  replace HB := Lib.hid (below_step HB.out hb4)
  clear hrow hb4 hvc hvr HQ HV HL HP
  rw [List.nil_append] at HVR ⊢
  have HPO := Lib.hid (show PatOk x ls ↔ (∀ i, VarAt (varsF (varB ls) x) i) ∧ (∀ i, depOk (depsF (varB ls) 0 x) i) ∧ (varsF (varB ls) x).length ≤ 20 from ⟨fun k => ⟨k.2.2.2.2.1, fun i h => k.2.2.2.2.2.1 _ (List.getElem_mem h), k.2.2.2.2.2.2⟩, fun k => ⟨E1.out, E2.out, E3.out.1, E3.out.2, k.1, fun d hd => by obtain ⟨i, hi, rfl⟩ := List.mem_iff_getElem.1 hd; exact k.2.1 i hi, k.2.2⟩⟩)
  have HND := Lib.hid (fun w0 hr0 hb0 h => l4Depths_any ls LA lc w0 hr0 hc hl x 0 [] (.slice (some ⟨w0.heap.size, 0, none⟩) 0 0) A3 Ac3 A4 Ac4 (w0.alloc (.cells #[] 3)) (below_new w0 _) (rowI_lit w0 w0 (Below.refl _ _)) hb0 h (by omega) (by have := HT.out; omega))
  clear E1 E2 E3
  generalize hvs : varsF (varB ls) x = vs at HVR HPO HLV ⊢
  clear hvs
  have hmax := HVR.out.2.2.1
  have hcap := HVR.out.1
  have HVN := Lib.hid (show vs.length ≤ 2000000 by have := HLV.out.1; have := HT.out; omega)
  go_wp2_with fail
  go_loopg [6] vs.length (fun kq v6 w' => ∃ i : Nat, i ≤ vs.length ∧ vs.length - i ≤ kq ∧ v6 = .int .i64 i ∧ Aside0 (∀ j, j < i → VarAt vs j) ∧ Aside0 (Below w4.heap.size w4 w'))
  case atStart => exact ⟨0, Nat.zero_le _, by omega, rfl, ⟨fun j h => absurd h (by omega)⟩, ⟨Below.refl _ _⟩⟩
  case round =>
    obtain ⟨i, hi, hg, rfl, HN, HW⟩ := hrel
    by_cases hlt2 : i < vs.length
    · obtain ⟨ad, X3, Xc3, X4, Xc4, e, g0, g1, g2, g3, g4, hk⟩ := kid_at (Kd.C_below HVR.out.2 HW.out) i hlt2
      subst e
      have hF := fun W hb => specIn_any (vs.take i) (some ad) vc vs[i] X3 Xc3 X4 Xc4 W (Kd.C_take (Kd.C_below HVR.out.2 (below_step HW.out hb)) (by omega)) (by rw [List.length_take]; omega) (hk.below hb) (by rw [List.length_take]; have := HVN.out; omega)
      rw [List.length_take, Nat.min_eq_left hi] at hF
      have HF := Lib.hid hF
      have HS0 : Hid (∀ W : World, Below wr.heap.size wr W → (fun W : World => W.cell? (ad.add (i * 5)) = some (.int .i64 vs[i].f0) ∧ W.cell? ⟨(ad.add (i * 5)).block, (ad.add (i * 5)).off + 1, none⟩ = some (.string vs[i].f1) ∧ W.cell? ⟨(ad.add (i * 5)).block, (ad.add (i * 5)).off + 2, none⟩ = some (.int .i64 vs[i].f2) ∧ W.cell? ⟨(ad.add (i * 5)).block, (ad.add (i * 5)).off + 3, none⟩ = some (.slice X3 vs[i].f3.length Xc3) ∧ W.cell? ⟨(ad.add (i * 5)).block, (ad.add (i * 5)).off + 4, none⟩ = some (.slice X4 vs[i].f4.length Xc4)) W) := Lib.hid (fun W hb => ⟨ck0 hb g0, ck0 hb g1, ck0 hb g2, ck0 hb g3, ck0 hb g4⟩)
      have HD := Lib.hid (below_drew (Below.refl wr.heap.size wr))
      clear hk hF
      have p1 : (0 : Int) ≤ (i : Int) := by omega
      have p2 : (i : Int) < (vs.length : Int) := by omega
      have p3 : (i : Int) ≤ (vc : Int) := by omega
      have p4 : i ≤ vc := by omega
      have q1 := eq_true p1
      have q2 := eq_true p2
      have q3 := eq_true p3
      have q4 := eq_true p4
      cases hz : (vs.take i).any (fun a => eqB a vs[i]) with
      | true =>
        have HZ := Lib.hid hz
        clear hz
        go_wp2_with fail
        clear g0 g1 g2 g3 g4
        refine start_ (n := 8) (S := (fun W : World => W.cell? (ad.add (i * 5)) = some (.int .i64 vs[i].f0) ∧ W.cell? ⟨(ad.add (i * 5)).block, (ad.add (i * 5)).off + 1, none⟩ = some (.string vs[i].f1) ∧ W.cell? ⟨(ad.add (i * 5)).block, (ad.add (i * 5)).off + 2, none⟩ = some (.int .i64 vs[i].f2) ∧ W.cell? ⟨(ad.add (i * 5)).block, (ad.add (i * 5)).off + 3, none⟩ = some (.slice X3 vs[i].f3.length Xc3) ∧ W.cell? ⟨(ad.add (i * 5)).block, (ad.add (i * 5)).off + 4, none⟩ = some (.slice X4 vs[i].f4.length Xc4))) (ds := []) #[false, false, false, false, false, false, false, false] (by kernel_rfl) rfl rfl (HS0.out _ HD.out) (fun hHeld => ?_)
        generalize World.drew _ = wd at HD hHeld  ⊢
        refine pure_ (i := 0) (N := some 32) (v := ?_) (a' := ?_) #[true, false, false, false, false, false, false, false] rfl rfl (by kernel_rfl) (fun _ _ _ h => h) (Or.inl ⟨by rfl, ?_⟩) ?_ ?_
        rotate_left
        · intro w'
          go_simp
          with_reducible rfl
        rotate_left
        · simp only [Act.put, List.setIfInBounds_toArray, List.set_cons_zero, List.set_cons_succ, i64_w, i32_w]
          rfl
        refine pure_ (i := 1) (N := some 33) (v := ?_) (a' := ?_) #[true, true, false, false, false, false, false, false] rfl rfl (by kernel_rfl) (fun _ _ _ h => h) (Or.inl ⟨by rfl, ?_⟩) ?_ ?_
        rotate_left
        · intro w'
          go_simp
          with_reducible rfl
        rotate_left
        · simp only [Act.put, List.setIfInBounds_toArray, List.set_cons_zero, List.set_cons_succ, i64_w, i32_w]
          rfl
        refine pure_ (i := 2) (N := some 34) (v := ?_) (a' := ?_) #[true, true, true, false, false, false, false, false] rfl rfl (by kernel_rfl) (fun _ _ _ h => h) (Or.inl ⟨by rfl, ?_⟩) ?_ ?_
        rotate_left
        · intro w'
          go_simp
          with_reducible rfl
        rotate_left
        · simp only [Act.put, List.setIfInBounds_toArray, List.set_cons_zero, List.set_cons_succ, i64_w, i32_w]
          rfl
        refine pure_ (i := 3) (N := some 35) (v := ?_) (a' := ?_) #[true, true, true, true, false, false, false, false] rfl rfl (by kernel_rfl) (fun _ _ _ h => h) (Or.inl ⟨by rfl, ?_⟩) ?_ ?_
        rotate_left
        · intro w'
          go_simp
          with_reducible rfl
        rotate_left
        · simp only [Act.put, List.setIfInBounds_toArray, List.set_cons_zero, List.set_cons_succ, i64_w, i32_w]
          rfl
        refine pure_ (i := 4) (N := some 36) (v := ?_) (a' := ?_) #[true, true, true, true, true, false, false, false] rfl rfl (by kernel_rfl) (fun _ _ _ h => h) (Or.inl ⟨by rfl, ?_⟩) ?_ ?_
        rotate_left
        · intro w'
          go_simp
          with_reducible rfl
        rotate_left
        · simp only [Act.put, List.setIfInBounds_toArray, List.set_cons_zero, List.set_cons_succ, i64_w, i32_w]
          rfl
        refine pure_ (i := 5) (N := some 37) (v := ?_) (a' := ?_) #[true, true, true, true, true, true, false, false] rfl rfl (by kernel_rfl) (fun _ _ _ h => h) (Or.inl ⟨by rfl, ?_⟩) ?_ ?_
        rotate_left
        · intro w'
          go_simp
          with_reducible rfl
        rotate_left
        · simp only [Act.put, List.setIfInBounds_toArray, List.set_cons_zero, List.set_cons_succ, i64_w, i32_w]
          rfl
        refine take_ (i := 6) (N := some 38) (v := ?_) (a' := ?_) #[true, true, true, true, true, true, true, false] rfl rfl (by kernel_rfl) (fun _ _ _ h => h) (Or.inl ⟨by rfl, ?_⟩) hHeld ?_ ?_
        rotate_left
        · rintro w' ⟨s0, s1, s2, s3, s4⟩
          go_simp
          with_reducible rfl
        rotate_left
        · simp only [Act.put, List.setIfInBounds_toArray, List.set_cons_zero, List.set_cons_succ, i64_w, i32_w]
          rfl
        refine one_ (i := 7) (N := some 39) #[true, true, true, true, true, true, true, true] rfl rfl (by kernel_rfl) (by decide) (fun K hK => ?_)
        refine goes_ Try.func102 (by kernel_rfl) rfl #[.slice (some ad) (i : Nat) vc, .agg #[.int .i64 vs[i].f0, .string vs[i].f1, .int .i64 vs[i].f2, .slice X3 vs[i].f3.length Xc3, .slice X4 vs[i].f4.length Xc4]] (by rfl) rfl rfl (by (try simp only [List.map_toArray, List.map_cons, List.map_nil]); first | done | rfl) ?_
        refine (HF.out _ HD.out).mono ?_
        rintro e w1 ⟨rfl, hb1⟩
        replace HD := Lib.hid (below_step HD.out hb1)
        clear hb1
        rw [HZ.out]
        refine ⟨_, rfl, ?_⟩
        refine hK.out _ _ (HS0.out _ HD.out) (fun hHeld => ?_)
        clear hK K
        refine norm_ (a' := ?_) ?_ ?_
        rotate_left
        · show Act.put _ (some 39) _ = _
          simp only [Act.put, List.setIfInBounds_toArray, List.set_cons_zero, List.set_cons_succ, i64_w, i32_w]
          rfl
        refine done_ (by kernel_rfl) ?_
        have HB2 := Lib.hid (below_step HW.out HD.out)
        clear HD HS0
        go_wp2_with fail
        go_ret
        exact ⟨ret_b (pB_no (fun k => by have := (HPO.out.1 k).1 i hlt2; rw [HZ.out] at this; cases this)), below_step HB.out HB2.out⟩
      | false =>
        have HZ := Lib.hid hz
        clear hz
        go_wp2_with fail
        clear g0 g1 g2 g3 g4
        refine start_ (n := 8) (S := (fun W : World => W.cell? (ad.add (i * 5)) = some (.int .i64 vs[i].f0) ∧ W.cell? ⟨(ad.add (i * 5)).block, (ad.add (i * 5)).off + 1, none⟩ = some (.string vs[i].f1) ∧ W.cell? ⟨(ad.add (i * 5)).block, (ad.add (i * 5)).off + 2, none⟩ = some (.int .i64 vs[i].f2) ∧ W.cell? ⟨(ad.add (i * 5)).block, (ad.add (i * 5)).off + 3, none⟩ = some (.slice X3 vs[i].f3.length Xc3) ∧ W.cell? ⟨(ad.add (i * 5)).block, (ad.add (i * 5)).off + 4, none⟩ = some (.slice X4 vs[i].f4.length Xc4))) (ds := []) #[false, false, false, false, false, false, false, false] (by kernel_rfl) rfl rfl (HS0.out _ HD.out) (fun hHeld => ?_)
        generalize World.drew _ = wd at HD hHeld  ⊢
        refine pure_ (i := 0) (N := some 32) (v := ?_) (a' := ?_) #[true, false, false, false, false, false, false, false] rfl rfl (by kernel_rfl) (fun _ _ _ h => h) (Or.inl ⟨by rfl, ?_⟩) ?_ ?_
        rotate_left
        · intro w'
          go_simp
          with_reducible rfl
        rotate_left
        · simp only [Act.put, List.setIfInBounds_toArray, List.set_cons_zero, List.set_cons_succ, i64_w, i32_w]
          rfl
        refine pure_ (i := 1) (N := some 33) (v := ?_) (a' := ?_) #[true, true, false, false, false, false, false, false] rfl rfl (by kernel_rfl) (fun _ _ _ h => h) (Or.inl ⟨by rfl, ?_⟩) ?_ ?_
        rotate_left
        · intro w'
          go_simp
          with_reducible rfl
        rotate_left
        · simp only [Act.put, List.setIfInBounds_toArray, List.set_cons_zero, List.set_cons_succ, i64_w, i32_w]
          rfl
        refine pure_ (i := 2) (N := some 34) (v := ?_) (a' := ?_) #[true, true, true, false, false, false, false, false] rfl rfl (by kernel_rfl) (fun _ _ _ h => h) (Or.inl ⟨by rfl, ?_⟩) ?_ ?_
        rotate_left
        · intro w'
          go_simp
          with_reducible rfl
        rotate_left
        · simp only [Act.put, List.setIfInBounds_toArray, List.set_cons_zero, List.set_cons_succ, i64_w, i32_w]
          rfl
        refine pure_ (i := 3) (N := some 35) (v := ?_) (a' := ?_) #[true, true, true, true, false, false, false, false] rfl rfl (by kernel_rfl) (fun _ _ _ h => h) (Or.inl ⟨by rfl, ?_⟩) ?_ ?_
        rotate_left
        · intro w'
          go_simp
          with_reducible rfl
        rotate_left
        · simp only [Act.put, List.setIfInBounds_toArray, List.set_cons_zero, List.set_cons_succ, i64_w, i32_w]
          rfl
        refine pure_ (i := 4) (N := some 36) (v := ?_) (a' := ?_) #[true, true, true, true, true, false, false, false] rfl rfl (by kernel_rfl) (fun _ _ _ h => h) (Or.inl ⟨by rfl, ?_⟩) ?_ ?_
        rotate_left
        · intro w'
          go_simp
          with_reducible rfl
        rotate_left
        · simp only [Act.put, List.setIfInBounds_toArray, List.set_cons_zero, List.set_cons_succ, i64_w, i32_w]
          rfl
        refine pure_ (i := 5) (N := some 37) (v := ?_) (a' := ?_) #[true, true, true, true, true, true, false, false] rfl rfl (by kernel_rfl) (fun _ _ _ h => h) (Or.inl ⟨by rfl, ?_⟩) ?_ ?_
        rotate_left
        · intro w'
          go_simp
          with_reducible rfl
        rotate_left
        · simp only [Act.put, List.setIfInBounds_toArray, List.set_cons_zero, List.set_cons_succ, i64_w, i32_w]
          rfl
        refine take_ (i := 6) (N := some 38) (v := ?_) (a' := ?_) #[true, true, true, true, true, true, true, false] rfl rfl (by kernel_rfl) (fun _ _ _ h => h) (Or.inl ⟨by rfl, ?_⟩) hHeld ?_ ?_
        rotate_left
        · rintro w' ⟨s0, s1, s2, s3, s4⟩
          go_simp
          with_reducible rfl
        rotate_left
        · simp only [Act.put, List.setIfInBounds_toArray, List.set_cons_zero, List.set_cons_succ, i64_w, i32_w]
          rfl
        refine one_ (i := 7) (N := some 39) #[true, true, true, true, true, true, true, true] rfl rfl (by kernel_rfl) (by decide) (fun K hK => ?_)
        refine goes_ Try.func102 (by kernel_rfl) rfl #[.slice (some ad) (i : Nat) vc, .agg #[.int .i64 vs[i].f0, .string vs[i].f1, .int .i64 vs[i].f2, .slice X3 vs[i].f3.length Xc3, .slice X4 vs[i].f4.length Xc4]] (by rfl) rfl rfl (by (try simp only [List.map_toArray, List.map_cons, List.map_nil]); first | done | rfl) ?_
        refine (HF.out _ HD.out).mono ?_
        rintro e w1 ⟨rfl, hb1⟩
        replace HD := Lib.hid (below_step HD.out hb1)
        clear hb1
        rw [HZ.out]
        refine ⟨_, rfl, ?_⟩
        refine hK.out _ _ (HS0.out _ HD.out) (fun hHeld => ?_)
        clear hK K
        refine norm_ (a' := ?_) ?_ ?_
        rotate_left
        · show Act.put _ (some 39) _ = _
          simp only [Act.put, List.setIfInBounds_toArray, List.set_cons_zero, List.set_cons_succ, i64_w, i32_w]
          rfl
        refine done_ (by kernel_rfl) ?_
        have HB2 := Lib.hid (below_step HW.out HD.out)
        clear HD HS0
        go_wp2_with fail
        go_roundg (vs.length - (i + 1))
        case measure => omega
        case rel =>
          refine ⟨i + 1, by omega, Nat.le_refl _, by go_num, ⟨fun j hji => ?_⟩, ⟨HB2.out⟩⟩
          rcases Nat.lt_or_ge j i with h | h
          · exact HN.out j h
          · obtain rfl : j = i := by omega
            exact fun _ => HZ.out
    obtain rfl : i = vs.length := by omega
    have HVA : Hid (∀ i, VarAt vs i) := Lib.hid (fun j h => HN.out j h h)
    replace HA := Lib.hid (blk_below HA.out HW.out)
    replace HB := Lib.hid (below_step HB.out HW.out)
    clear HN HW HVR
    have hbx := below_new wr (.cells #[] 3)
    have HQ := Lib.hid (HND.out wr (HR.out _ HB.out) (HI.out _ HB.out) (by have := HLV.out; have := HT.out; simp; omega))
    obtain ⟨z0, z1, z2, z3, z4⟩ := fm_cells (blk_below HA.out hbx)
    clear hbx HND
    go_wp2_with fail
    clear z0 z1 z2 z3 z4
    refine HQ.out.mono ?_
    rintro e w5 ⟨v5, rfl, hrow, hb5, _, _⟩
    obtain ⟨DA, dc, rfl, hdc, hdr⟩ := hrow.reads
    have HDR := Lib.hid (And.intro hdc hdr)
    replace HB := Lib.hid (below_step HB.out hb5)
    clear hrow hb5 hdc hdr HQ HA
    rw [List.nil_append] at HDR ⊢
    generalize hds : depsF (varB ls) 0 x = ds at HDR HPO HLV ⊢
    clear hds
    have hmax2 := HDR.out.2.2.1
    go_wp2_with fail
    go_loopg [8] ds.length (fun kq v8 w' => ∃ i : Nat, i ≤ ds.length ∧ ds.length - i ≤ kq ∧ v8 = .int .i64 i ∧ Aside0 (∀ j, j < i → depOk ds j) ∧ Aside0 (Below w5.heap.size w5 w'))
    case atStart => exact ⟨0, Nat.zero_le _, by omega, rfl, ⟨fun j h => absurd h (by omega)⟩, ⟨Below.refl _ _⟩⟩
    case round =>
      obtain ⟨i, hi, hg, rfl, HN, HW⟩ := hrel
      by_cases hlt3 : i < ds.length
      · obtain ⟨ad, e, g0⟩ := int_at (Kd.C_below HDR.out.2 HW.out) i hlt3
        subst e
        have HG := Lib.hid (show (depOk ds i ↔ ds[i] ≤ 3) from ⟨fun k => k hlt3, fun k _ => k⟩)
        generalize ds[i] = z at g0 HG
        by_cases hz : z ≤ 3
        · have t1 : decide (z > 3) = false := decide_eq_false (by omega)
          have t1' : decide (3 < z) = false := decide_eq_false (by omega)
          have HZ := Lib.hid hz
          clear hz
          go_wp2_with fail
          clear g0
          go_roundg (ds.length - (i + 1))
          case measure => omega
          case rel =>
            refine ⟨i + 1, by omega, Nat.le_refl _, by go_num, ⟨fun j hji => ?_⟩, ⟨HW.out⟩⟩
            rcases Nat.lt_or_ge j i with h | h
            · exact HN.out j h
            · obtain rfl : j = i := by omega
              exact HG.out.2 HZ.out
        · have t1 : decide (z > 3) = true := decide_eq_true (by omega)
          have t1' : decide (3 < z) = true := decide_eq_true (by omega)
          have hz3 : 3 < z := by omega
          have HZ := Lib.hid hz3
          clear hz hz3
          go_wp2_with fail
          go_ret
          exact ⟨ret_b (pB_no (fun k => by have h1 := HG.out.1 ((HPO.out.1 k).2.1 i); have h2 := HZ.out; omega)), below_step HB.out HW.out⟩
      obtain rfl : i = ds.length := by omega
      have HDA : Hid (∀ i, depOk ds i) := Lib.hid (fun j h => HN.out j h h)
      by_cases h20 : vs.length ≤ 20
      · have t1 : decide ((vs.length : Int) ≤ 20) = true := decide_eq_true (by omega)
        have t2 : decide (vs.length ≤ 20) = true := decide_eq_true h20
        have H20 := Lib.hid h20
        clear h20
        go_wp2_with fail
        go_ret
        exact ⟨ret_b (pB_yes (HPO.out.2 ⟨HVA.out, HDA.out, H20.out⟩)), below_step HB.out HW.out⟩
      · have t1 : decide ((vs.length : Int) ≤ 20) = false := decide_eq_false (by omega)
        have t2 : decide (vs.length ≤ 20) = false := decide_eq_false h20
        have H20 := Lib.hid h20
        clear h20
        go_wp2_with fail
        go_ret
        exact ⟨ret_b (pB_no (fun k => H20.out (HPO.out.1 k).2.2)), below_step HB.out HW.out⟩
/-- How deep the variables of a pattern stand; of no pattern: none. -/
noncomputable def depsR (x : Fm) (ls : List Fm) : List Int := if pB (PatOk x ls) = true then depsF (varB ls) 0 x else []
def GetID (w : World) (r : List Int) (e : Ending) (w' : World) : Prop := ∃ A c, e = .returned (.slice A r.length c) ∧ r.length ≤ c ∧ kI.C w' A r.length r ∧ Below w.heap.size w w'
set_option maxHeartbeats 2000000 in
theorem specVarDepths_any (x : Fm) (A3 : Option Addr) (Ac3 : Nat) (A4 : Option Addr) (Ac4 : Nat) (ls : List Fm) (LA : Option Addr) (lc : Nat) (w : World) (hx : FmIn w x A3 Ac3 A4 Ac4) (hr : kF.C w LA ls.length ls) (hc : ls.length ≤ lc) (ht : x.tot ≤ 1048576) (hl : ls.length ≤ 2000000) (hlt : ∀ y, y ∈ ls → y.tot ≤ 1048576) :
    Calls Try.prog 40 #[.agg #[.int .i64 x.f0, .string x.f1, .int .i64 x.f2, .slice A3 x.f3.length Ac3, .slice A4 x.f4.length Ac4], .slice LA ls.length lc] w (GetID w (depsR x ls)) := by
  have HB := Lib.hid (below_new w (.cells #[.int .i64 x.f0, .string x.f1, .int .i64 x.f2, .slice A3 x.f3.length Ac3, .slice A4 x.f4.length Ac4] 34))
  have HA := Lib.hid (blk_new w (.cells #[.int .i64 x.f0, .string x.f1, .int .i64 x.f2, .slice A3 x.f3.length Ac3, .slice A4 x.f4.length Ac4] 34))
  have HQ := Lib.hid (l4Is_any x A3 Ac3 A4 Ac4 ls LA lc _ (hx.below HB.out) (Kd.C_below hr HB.out) hc ht hl hlt)
  have HN := Lib.hid (fun w0 (hb : Below w.heap.size w w0) => l4Depths_any ls LA lc w0 (Kd.C_below hr hb) hc hl x 0 [] (.slice (some ⟨w0.heap.size, 0, none⟩) 0 0) A3 Ac3 A4 Ac4 (w0.alloc (.cells #[] 3)) (below_new w0 _) (rowI_lit w0 w0 (Below.refl _ _)) (hx.below hb) (by have := len_varsF (varB ls) x; rw [List.nil_append, len_depsF]; omega) (by omega) (by omega))
  obtain ⟨p0, p1, p2, p3, p4⟩ := fm_cells HA.out
  unfold depsR
  clear hx hr
  cases hz : pB (PatOk x ls) with
  | false =>
    rw [hz] at HQ
    rw [if_neg (by simp)]
    clear hz
    go_enter Try.func40, Try.ntmps40
    go_wp2_with fail
    refine HQ.out.mono ?_
    rintro e w1 ⟨rfl, b⟩
    replace HA := Lib.hid (blk_below HA.out b)
    replace HB := Lib.hid (below_step HB.out b)
    clear b p0 p1 p2 p3 p4
    go_wp2_with fail
    go_ret
    exact ⟨_, _, rfl, Nat.le_refl _, ⟨rfl, by simp, fun h => absurd h (Nat.lt_irrefl 0)⟩, below_step HB.out (below_new _ _)⟩
  | true =>
    rw [hz] at HQ
    rw [if_pos rfl]
    clear hz
    go_enter Try.func40, Try.ntmps40
    go_wp2_with fail
    refine HQ.out.mono ?_
    rintro e w1 ⟨rfl, b⟩
    replace HA := Lib.hid (blk_below HA.out b)
    replace HB := Lib.hid (below_step HB.out b)
    clear b p0 p1 p2 p3 p4
    have hbx := below_new w1 (.cells #[] 3)
    have HQ2 := Lib.hid (HN.out w1 HB.out)
    obtain ⟨z0, z1, z2, z3, z4⟩ := fm_cells (blk_below HA.out hbx)
    clear hbx HN HQ
    go_wp2_with fail
    clear z0 z1 z2 z3 z4
    refine HQ2.out.mono ?_
    rintro e w5 ⟨v5, rfl, hrow, hb5, _, _⟩
    obtain ⟨DA, dc, rfl, hdc, hdr⟩ := hrow.reads
    rw [List.nil_append] at hdc hdr ⊢
    have HDR := Lib.hid (And.intro hdc hdr)
    replace HB := Lib.hid (below_step HB.out hb5)
    clear hrow hb5 hdc hdr HQ2 HA
    go_wp2_with fail
    go_ret
    exact ⟨DA, dc, rfl, HDR.out.1, HDR.out.2, HB.out⟩
end Go.Proofs.Ytlklclebjeeaaaa
end
section
namespace Go.Proofs.Ytlklclebjeeaaaa
open Go.RowKit Go.Proofs.YtlklclebjeeaaaaW.PrintWords Go.Proofs.YtlklclebjeeaaaaW.PrintLast Go.Proofs.YtlklclebjeeaaaaW.PrintMore
set_option linter.unusedVariables false
set_option linter.unusedSimpArgs false
theorem pv_start (w : World) (OB : Obj) : PvI w (((((w.alloc OB).alloc (.cells #[] 34)).alloc (.cells #[] 3)).alloc (.cells #[.slice (some ⟨w.heap.size + 1, 0, none⟩) 0 0] 32)).alloc (.cells #[.slice (some ⟨w.heap.size + 1 + 1, 0, none⟩) 0 0] 23)) (w.heap.size + 1 + 1 + 1) (w.heap.size + 1 + 1 + 1 + 1) (.slice (some ⟨w.heap.size + 1, 0, none⟩) 0 0) (.slice (some ⟨w.heap.size + 1 + 1, 0, none⟩) 0 0) [] [] := by
  have b0 := below_new w OB
  have s0 : (w.alloc OB).heap.size = w.heap.size + 1 := by simp
  have r1 := rowF_lit w (w.alloc OB) b0
  rw [s0] at r1
  generalize w.alloc OB = W0 at b0 s0 r1 ⊢
  have b1 := below_new W0 (.cells #[] 34)
  have s1 : (W0.alloc (.cells #[] 34)).heap.size = w.heap.size + 1 + 1 := by simp [s0]
  have r2 := rowI_lit w (W0.alloc (.cells #[] 34)) (b0.trans (b1.mono b0.size))
  rw [s1] at r2
  generalize W0.alloc (.cells #[] 34) = W1 at b1 s1 r1 r2 ⊢
  have b2 := below_new W1 (.cells #[] 3)
  have s2 : (W1.alloc (.cells #[] 3)).heap.size = w.heap.size + 1 + 1 + 1 := by simp [s1]
  generalize W1.alloc (.cells #[] 3) = W2 at b2 s2 r2 ⊢
  have b3 := below_new W2 (.cells #[.slice (some ⟨w.heap.size + 1, 0, none⟩) 0 0] 32)
  have k3 := blk_new W2 (.cells #[.slice (some ⟨w.heap.size + 1, 0, none⟩) 0 0] 32)
  have s3 : (W2.alloc (.cells #[.slice (some ⟨w.heap.size + 1, 0, none⟩) 0 0] 32)).heap.size = w.heap.size + 1 + 1 + 1 + 1 := by simp [s2]
  rw [s2] at k3
  generalize W2.alloc (.cells #[.slice (some ⟨w.heap.size + 1, 0, none⟩) 0 0] 32) = W3 at b3 k3 s3 ⊢
  have b4 := below_new W3 (.cells #[.slice (some ⟨w.heap.size + 1 + 1, 0, none⟩) 0 0] 23)
  have k4 := blk_new W3 (.cells #[.slice (some ⟨w.heap.size + 1 + 1, 0, none⟩) 0 0] 23)
  rw [s3] at k4
  generalize W3.alloc (.cells #[.slice (some ⟨w.heap.size + 1 + 1, 0, none⟩) 0 0] 23) = W4 at b4 k4 ⊢
  have c3 : Below W2.heap.size W2 W4 := below_step b3 b4
  have c2 : Below W1.heap.size W1 W4 := below_step b2 c3
  exact ⟨blk_below k3 b4, k4, r1.move (fun k hk => c2.block k (r1.lt k hk)), r2.move (fun k hk => c3.block k (r2.lt k hk)), below_step b0 (below_step b1 c2), by omega, by omega⟩
set_option maxHeartbeats 1000000 in
set_option maxRecDepth 100000 in
theorem varsOf_any (x : Fm) (A3 : Option Addr) (Ac3 : Nat) (A4 : Option Addr) (Ac4 : Nat) (ls : List Fm) (LA : Option Addr) (lc : Nat) (w : World) (hx : FmIn w x A3 Ac3 A4 Ac4) (hr : kF.C w LA ls.length ls) (hc : ls.length ≤ lc) (ht : x.tot ≤ 1048576) :
    Calls Try.prog 76 #[.agg #[.int .i64 x.f0, .string x.f1, .int .i64 x.f2, .slice A3 x.f3.length Ac3, .slice A4 x.f4.length Ac4], .slice LA ls.length lc] w (fun e w' => ∃ vn vd, e = .returned (.tuple #[vn, vd]) ∧ RowF w w' vn (varsF (varB ls) x) ∧ RowI w w' vd (depsF (varB ls) 0 x) ∧ Below w.heap.size w w') := by
  have hlv := len_varsF (varB ls) x
  have hld := len_depsF (varB ls) 0 x
  have HP := Lib.hid (patternVars_any ls LA lc w hr hc x 0 [] [] _ _ A3 Ac3 A4 Ac4 _ _ _ (pv_start w (.cells #[.int .i64 x.f0, .string x.f1, .int .i64 x.f2, .slice A3 x.f3.length Ac3, .slice A4 x.f4.length Ac4] 34)) hx (by simp; omega) (by simp; omega) (by omega) (by omega))
  clear hx hr ht hlv hld
  go_enter Try.func76, Try.ntmps76
  go_wp2_with fail
  refine HP.out.mono ?_
  rintro e w5 ⟨rfl, vn, vd, hI, hT⟩
  rw [List.nil_append, List.nil_append] at hI
  obtain ⟨A, c, rfl, _, _⟩ := hI.rn.reads hI.bl
  obtain ⟨B, d, rfl, _, _⟩ := hI.rd.reads
  have HI := Lib.hid hI
  have r1 : w5.cell? ⟨w.heap.size + 1 + 1 + 1, 0, none⟩ = some (.slice A (varsF (varB ls) x).length c) := (blk_cell hI.cn 0).trans rfl
  have r2 : w5.cell? ⟨w.heap.size + 1 + 1 + 1 + 1, 0, none⟩ = some (.slice B (depsF (varB ls) 0 x).length d) := (blk_cell hI.cd 0).trans rfl
  clear hI hT HP
  go_wp2_with fail
  go_quiet (fail)
  go_wp2_with fail
  refine bodyPost_ret (v := .tuple #[.slice A (varsF (varB ls) x).length c, .slice B (depsF (varB ls) 0 x).length d]) (by simp [results, Try.results76, go_sem]) rfl ?_
  have hq := pw_below_drewN (n := nq) (Below.refl w5.heap.size w5)
  exact ⟨_, _, rfl, HI.out.rn.move (fun k hk => hq.block k (HI.out.rn.lt k hk)), HI.out.rd.move (fun k hk => hq.block k (HI.out.rd.lt k hk)), below_step HI.out.bl hq⟩
end Go.Proofs.Ytlklclebjeeaaaa
end
section
namespace Go.Proofs.Ytlklclebjeeaaaa
open Go.RowKit Go.Proofs.YtlklclebjeeaaaaW.PrintWords Go.Proofs.YtlklclebjeeaaaaW.PrintLast Go.Proofs.YtlklclebjeeaaaaW.PrintMore
set_option linter.unusedVariables false
set_option linter.unusedSimpArgs false
set_option maxHeartbeats 2000000 in
set_option maxRecDepth 100000 in
theorem implPatternValid_any (x : Fm) (A3 : Option Addr) (Ac3 : Nat) (A4 : Option Addr) (Ac4 : Nat) (ls : List Fm) (LA : Option Addr) (lc : Nat) (w : World) (hx : FmIn w x A3 Ac3 A4 Ac4) (hr : kF.C w LA ls.length ls) (hc : ls.length ≤ lc) (ht : x.tot ≤ 1048576) (hlt : ∀ y, y ∈ ls → y.tot ≤ 1048576) :
    Calls Try.prog 38 #[.agg #[.int .i64 x.f0, .string x.f1, .int .i64 x.f2, .slice A3 x.f3.length Ac3, .slice A4 x.f4.length Ac4], .slice LA ls.length lc] w (Ret w (.bool (pB (PatOk x ls)))) := by
  have HB := Lib.hid (below_new w (.cells #[.int .i64 x.f0, .string x.f1, .int .i64 x.f2, .slice A3 x.f3.length Ac3, .slice A4 x.f4.length Ac4] 34))
  have HA := Lib.hid (blk_new w (.cells #[.int .i64 x.f0, .string x.f1, .int .i64 x.f2, .slice A3 x.f3.length Ac3, .slice A4 x.f4.length Ac4] 34))
  have HV := Lib.hid (fun W hb => implValid_any x A3 Ac3 A4 Ac4 W (hx.below hb) ht)
  have HL := Lib.hid (fun W hb => literalsOk_any ls LA lc W (Kd.C_below hr hb) hc hlt)
  have HN := Lib.hid (fun W hb => namedDots_any x A3 Ac3 A4 Ac4 W (hx.below hb))
  have HO := Lib.hid (fun W hb => dotsOk_any x A3 Ac3 A4 Ac4 W (hx.below hb))
  have HQ := Lib.hid (fun W hb => varsOf_any x A3 Ac3 A4 Ac4 ls LA lc W (hx.below hb) (Kd.C_below hr hb) hc ht)
  have hld := len_depsF (varB ls) 0 x
  have HLD := Lib.hid hld
  clear hx hr hld hlt
  obtain ⟨p0, p1, p2, p3, p4⟩ := fm_cells HA.out
  go_enter Try.func38, Try.ntmps38
  go_wp2_with fail
  refine (HV.out _ HB.out).mono ?_
  rintro e w1 ⟨rfl, b⟩
  replace HA := Lib.hid (blk_below HA.out b)
  replace HB := Lib.hid (below_step HB.out b)
  clear b p0 p1 p2 p3 p4
  obtain ⟨p0, p1, p2, p3, p4⟩ := fm_cells HA.out
  cases h1 : pB (FmOk x) with
  | false =>
    have E := Lib.hid (pB_false' h1)
    clear h1
    go_wp2_with fail
    go_ret
    exact ⟨ret_b (pB_no (fun k => E.out k.1)), HB.out⟩
  | true =>
  have E1 := Lib.hid (pB_iff.1 h1)
  clear h1
  go_wp2_with fail
  refine (HL.out _ HB.out).mono ?_
  rintro e w2 ⟨rfl, b⟩
  replace HA := Lib.hid (blk_below HA.out b)
  replace HB := Lib.hid (below_step HB.out b)
  clear b p0 p1 p2 p3 p4
  obtain ⟨p0, p1, p2, p3, p4⟩ := fm_cells HA.out
  cases h2 : pB (LitsOk ls) with
  | false =>
    have E := Lib.hid (pB_false' h2)
    clear h2
    go_wp2_with fail
    go_ret
    exact ⟨ret_b (pB_no (fun k => E.out k.2.1)), HB.out⟩
  | true =>
  have E2 := Lib.hid (pB_iff.1 h2)
  clear h2
  go_wp2_with fail
  refine (HN.out _ HB.out).mono ?_
  rintro e w3 ⟨rfl, b⟩
  replace HA := Lib.hid (blk_below HA.out b)
  replace HB := Lib.hid (below_step HB.out b)
  clear b p0 p1 p2 p3 p4
  obtain ⟨p0, p1, p2, p3, p4⟩ := fm_cells HA.out
  cases h3 : dotsB x with
  | true =>
    have E := Lib.hid h3
    clear h3
    go_wp2_with fail
    go_ret
    exact ⟨ret_b (pB_no (fun k => by have := k.2.2.1; rw [E.out] at this; cases this)), HB.out⟩
  | false =>
  have E3 := Lib.hid h3
  clear h3
  go_wp2_with fail
  refine (HO.out _ HB.out).mono ?_
  rintro e w4 ⟨rfl, b⟩
  replace HA := Lib.hid (blk_below HA.out b)
  replace HB := Lib.hid (below_step HB.out b)
  clear b p0 p1 p2 p3 p4
  obtain ⟨p0, p1, p2, p3, p4⟩ := fm_cells HA.out
  cases h4 : pB (ShOk x) with
  | false =>
    have E := Lib.hid (pB_false' h4)
    clear h4
    go_wp2_with fail
    go_ret
    exact ⟨ret_b (pB_no (fun k => E.out k.2.2.2.1)), HB.out⟩
  | true =>
  have E4 := Lib.hid (pB_iff.1 h4)
  clear h4
  go_wp2_with fail
  refine (HQ.out _ HB.out).mono ?_
  rintro e w5 ⟨vn, vd, rfl, hrn, hrd, hb5⟩
  obtain ⟨VA, vc, rfl, hvc, hvr⟩ := hrn.reads hb5
  obtain ⟨DA, dc, rfl, hdc, hdr⟩ := hrd.reads
  have HVR := Lib.hid (And.intro hvc hvr)
  have HDR := Lib.hid (And.intro hdc hdr)
  replace HB := Lib.hid (below_step HB.out hb5)
  clear hrn hrd hb5 hvc hvr hdc hdr HQ HV HL HN HO HA p0 p1 p2 p3 p4
  have HPO := Lib.hid (show PatOk x ls ↔ (∀ i, VarAt (varsF (varB ls) x) i) ∧ (∀ i, depOk (depsF (varB ls) 0 x) i) ∧ (varsF (varB ls) x).length ≤ 20 from ⟨fun k => ⟨k.2.2.2.2.1, fun i h => k.2.2.2.2.2.1 _ (List.getElem_mem h), k.2.2.2.2.2.2⟩, fun k => ⟨E1.out, E2.out, E3.out, E4.out, k.1, fun d hd => (by obtain ⟨i, hi, rfl⟩ := List.mem_iff_getElem.1 hd; exact k.2.1 i hi), k.2.2⟩⟩)
  clear E1 E2 E3 E4
  generalize hvs : varsF (varB ls) x = vs at HVR HPO HLD ⊢
  generalize hds : depsF (varB ls) 0 x = ds at HDR HPO HLD ⊢
  clear hvs hds
  have hmax := HVR.out.2.2.1
  have hcap := HVR.out.1
  go_wp2_with fail
  go_loopg [7, 8, 34] vs.length (fun kq v7 v8 v34 w' => ∃ i : Nat, i ≤ vs.length ∧ vs.length - i ≤ kq ∧ v34 = .int .i64 i ∧ Aside0 (∀ j, j < i → VarAt vs j ∧ depOk ds j) ∧ Aside0 (Below w5.heap.size w5 w'))
  case atStart => exact ⟨0, Nat.zero_le _, by omega, rfl, ⟨fun j h => absurd h (by omega)⟩, ⟨Below.refl _ _⟩⟩
  case round =>
    obtain ⟨i, hi, hg, rfl, HNO, HW⟩ := hrel
    by_cases hlt2 : i < vs.length
    rotate_left
    · obtain rfl : i = vs.length := by omega
      have HVA : Hid (∀ i, VarAt vs i) := Lib.hid (fun j h => (HNO.out j h).1 h)
      have HDA : Hid (∀ i, depOk ds i) := Lib.hid (fun j h => (HNO.out j (by have := HLD.out; omega)).2 h)
      by_cases h20 : vs.length ≤ 20
      · have t1 : decide ((vs.length : Int) ≤ 20) = true := decide_eq_true (by omega)
        have t2 : decide (vs.length ≤ 20) = true := decide_eq_true h20
        have H20 := Lib.hid h20
        clear h20
        go_wp2_with fail
        go_ret
        exact ⟨ret_b (pB_yes (HPO.out.2 ⟨HVA.out, HDA.out, H20.out⟩)), below_step HB.out HW.out⟩
      · have t1 : decide ((vs.length : Int) ≤ 20) = false := decide_eq_false (by omega)
        have t2 : decide (vs.length ≤ 20) = false := decide_eq_false h20
        have H20 := Lib.hid h20
        clear h20
        go_wp2_with fail
        go_ret
        exact ⟨ret_b (pB_no (fun k => H20.out (HPO.out.1 k).2.2)), below_step HB.out HW.out⟩
    have hlt3 : i < ds.length := by have := HLD.out; omega
    obtain ⟨ad, X3, Xc3, X4, Xc4, e, g0, g1, g2, g3, g4, hk⟩ := kid_at (Kd.C_below HVR.out.2 HW.out) i hlt2
    subst e
    obtain ⟨dd, e, hdc⟩ := int_at (Kd.C_below HDR.out.2 HW.out) i hlt3
    subst e
    have HDG := Lib.hid (show (depOk ds i ↔ ds[i] ≤ 3) from ⟨fun k => k hlt3, fun k _ => k⟩)
    generalize ds[i] = z at hdc HDG
    have hn := below_new wr (.cells #[.int .i64 vs[i].f0, .string vs[i].f1, .int .i64 vs[i].f2, .slice X3 vs[i].f3.length Xc3, .slice X4 vs[i].f4.length Xc4] 34)
    have HBx := Lib.hid (blk_new wr (.cells #[.int .i64 vs[i].f0, .string vs[i].f1, .int .i64 vs[i].f2, .slice X3 vs[i].f3.length Xc3, .slice X4 vs[i].f4.length Xc4] 34))
    have hF := fun W hb => isIn_any (vs.take i) (some ad) vc vs[i] X3 Xc3 X4 Xc4 W (Kd.C_take (Kd.C_below HVR.out.2 (below_step HW.out (below_step hn hb))) (by omega)) (by rw [List.length_take]; omega) (hk.below (below_step hn hb))
    rw [List.length_take, Nat.min_eq_left hi] at hF
    have HF := Lib.hid hF
    have HS0 : Hid (∀ W : World, Below (wr.alloc (.cells #[.int .i64 vs[i].f0, .string vs[i].f1, .int .i64 vs[i].f2, .slice X3 vs[i].f3.length Xc3, .slice X4 vs[i].f4.length Xc4] 34)).heap.size (wr.alloc (.cells #[.int .i64 vs[i].f0, .string vs[i].f1, .int .i64 vs[i].f2, .slice X3 vs[i].f3.length Xc3, .slice X4 vs[i].f4.length Xc4] 34)) W → (fun W : World => (W.cell? ⟨wr.heap.size, 0, none⟩ = some (.int .i64 vs[i].f0) ∧ W.cell? ⟨wr.heap.size, 1, none⟩ = some (.string vs[i].f1) ∧ W.cell? ⟨wr.heap.size, 2, none⟩ = some (.int .i64 vs[i].f2) ∧ W.cell? ⟨wr.heap.size, 3, none⟩ = some (.slice X3 vs[i].f3.length Xc3) ∧ W.cell? ⟨wr.heap.size, 4, none⟩ = some (.slice X4 vs[i].f4.length Xc4)) ∧ W.cell? (dd.add i) = some (.int .i64 z)) W) := Lib.hid (fun W hb => ⟨fm_cells (blk_below HBx.out hb), ck0 (below_step hn hb) hdc⟩)
    have HD := Lib.hid (below_drew (Below.refl (wr.alloc (.cells #[.int .i64 vs[i].f0, .string vs[i].f1, .int .i64 vs[i].f2, .slice X3 vs[i].f3.length Xc3, .slice X4 vs[i].f4.length Xc4] 34)).heap.size (wr.alloc (.cells #[.int .i64 vs[i].f0, .string vs[i].f1, .int .i64 vs[i].f2, .slice X3 vs[i].f3.length Xc3, .slice X4 vs[i].f4.length Xc4] 34))))
    clear hk hn hF HBx hdc
    have p1 : (0 : Int) ≤ (i : Int) := by omega
    have p2 : (i : Int) < (vs.length : Int) := by omega
    have p3 : (i : Int) ≤ (vc : Int) := by omega
    have p4 : i ≤ vc := by omega
    have p5 : (i : Int) < (ds.length : Int) := by omega
    have q1 := eq_true p1
    have q2 := eq_true p2
    have q3 := eq_true p3
    have q4 := eq_true p4
    have q5 := eq_true p5
    cases hz : (vs.take i).any (fun a => eqB a vs[i]) with
    | true =>
      have HZ := Lib.hid hz
      clear hz
      go_wp2_with fail
      clear g0 g1 g2 g3 g4
      refine start_ (n := 12) (S := (fun W : World => (W.cell? ⟨wr.heap.size, 0, none⟩ = some (.int .i64 vs[i].f0) ∧ W.cell? ⟨wr.heap.size, 1, none⟩ = some (.string vs[i].f1) ∧ W.cell? ⟨wr.heap.size, 2, none⟩ = some (.int .i64 vs[i].f2) ∧ W.cell? ⟨wr.heap.size, 3, none⟩ = some (.slice X3 vs[i].f3.length Xc3) ∧ W.cell? ⟨wr.heap.size, 4, none⟩ = some (.slice X4 vs[i].f4.length Xc4)) ∧ W.cell? (dd.add i) = some (.int .i64 z))) (ds := []) #[false, false, false, false, false, false, false, false, false, false, false, false] (by kernel_rfl) rfl rfl (HS0.out _ HD.out) (fun hHeld => ?_)
      generalize World.drew _ = wd at HD hHeld  ⊢
      refine pure_ (i := 0) (N := some 39) (v := ?_) (a' := ?_) #[true, false, false, false, false, false, false, false, false, false, false, false] rfl rfl (by kernel_rfl) (fun _ _ _ h => h) (Or.inl ⟨by rfl, ?_⟩) ?_ ?_
      rotate_left
      · intro w'
        go_simp
        with_reducible rfl
      rotate_left
      · simp only [Act.put, List.setIfInBounds_toArray, List.set_cons_zero, List.set_cons_succ, i64_w, i32_w]
        rfl
      refine pure_ (i := 1) (N := some 40) (v := ?_) (a' := ?_) #[true, true, false, false, false, false, false, false, false, false, false, false] rfl rfl (by kernel_rfl) (fun _ _ _ h => h) (Or.inl ⟨by rfl, ?_⟩) ?_ ?_
      rotate_left
      · intro w'
        go_simp
        with_reducible rfl
      rotate_left
      · simp only [Act.put, List.setIfInBounds_toArray, List.set_cons_zero, List.set_cons_succ, i64_w, i32_w]
        rfl
      refine pure_ (i := 2) (N := some 41) (v := ?_) (a' := ?_) #[true, true, true, false, false, false, false, false, false, false, false, false] rfl rfl (by kernel_rfl) (fun _ _ _ h => h) (Or.inl ⟨by rfl, ?_⟩) ?_ ?_
      rotate_left
      · intro w'
        go_simp
        with_reducible rfl
      rotate_left
      · simp only [Act.put, List.setIfInBounds_toArray, List.set_cons_zero, List.set_cons_succ, i64_w, i32_w]
        rfl
      refine take_ (i := 3) (N := some 42) (v := ?_) (a' := ?_) #[true, true, true, true, false, false, false, false, false, false, false, false] rfl rfl (by kernel_rfl) (fun _ _ _ h => h) (Or.inl ⟨by rfl, ?_⟩) hHeld ?_ ?_
      rotate_left
      · rintro w' ⟨⟨s0, s1, s2, s3, s4⟩, s5⟩
        go_simp
        with_reducible rfl
      rotate_left
      · simp only [Act.put, List.setIfInBounds_toArray, List.set_cons_zero, List.set_cons_succ, i64_w, i32_w]
        rfl
      refine one_ (i := 4) (N := some 43) #[true, true, true, true, true, false, false, false, false, false, false, false] rfl rfl (by kernel_rfl) (by decide) (fun K hK => ?_)
      refine goes_ Try.func77 (by kernel_rfl) rfl #[.slice (some ad) (i : Nat) vc, .agg #[.int .i64 vs[i].f0, .string vs[i].f1, .int .i64 vs[i].f2, .slice X3 vs[i].f3.length Xc3, .slice X4 vs[i].f4.length Xc4]] (by rfl) rfl rfl (by (try simp only [List.map_toArray, List.map_cons, List.map_nil]); first | done | rfl) ?_
      refine (HF.out _ HD.out).mono ?_
      rintro e w1 ⟨rfl, hb1⟩
      replace HD := Lib.hid (below_step HD.out hb1)
      clear hb1
      rw [HZ.out]
      refine ⟨_, rfl, ?_⟩
      refine hK.out _ _ (HS0.out _ HD.out) (fun hHeld => ?_)
      clear hK K
      refine norm_ (a' := ?_) ?_ ?_
      rotate_left
      · show Act.put _ (some 43) _ = _
        simp only [Act.put, List.setIfInBounds_toArray, List.set_cons_zero, List.set_cons_succ, i64_w, i32_w]
        rfl
      refine pure_ (i := 5) (N := some 44) (v := ?_) (a' := ?_) #[true, true, true, true, true, true, false, false, false, false, false, false] rfl rfl (by kernel_rfl) (fun _ _ _ h => h) (Or.inl ⟨by rfl, ?_⟩) ?_ ?_
      rotate_left
      · intro w'
        go_simp
        with_reducible rfl
      rotate_left
      · simp only [Act.put, List.setIfInBounds_toArray, List.set_cons_zero, List.set_cons_succ, i64_w, i32_w]
        rfl
      refine pure_ (i := 6) (N := some 45) (v := undef) (a' := ?_) #[true, true, true, true, true, true, true, false, false, false, false, false] rfl rfl (by kernel_rfl) (fun _ _ _ h => h) (Or.inr ⟨by rfl, rfl⟩) ?_ ?_
      rotate_left
      · simp only [Act.put, List.setIfInBounds_toArray, List.set_cons_zero, List.set_cons_succ, i64_w, i32_w]
        rfl
      refine pure_ (i := 7) (N := some 46) (v := undef) (a' := ?_) #[true, true, true, true, true, true, true, true, false, false, false, false] rfl rfl (by kernel_rfl) (fun _ _ _ h => h) (Or.inr ⟨by rfl, rfl⟩) ?_ ?_
      rotate_left
      · simp only [Act.put, List.setIfInBounds_toArray, List.set_cons_zero, List.set_cons_succ, i64_w, i32_w]
        rfl
      refine pure_ (i := 8) (N := some 47) (v := undef) (a' := ?_) #[true, true, true, true, true, true, true, true, true, false, false, false] rfl rfl (by kernel_rfl) (fun _ _ _ h => h) (Or.inr ⟨by rfl, rfl⟩) ?_ ?_
      rotate_left
      · simp only [Act.put, List.setIfInBounds_toArray, List.set_cons_zero, List.set_cons_succ, i64_w, i32_w]
        rfl
      refine pure_ (i := 9) (N := some 48) (v := undef) (a' := ?_) #[true, true, true, true, true, true, true, true, true, true, false, false] rfl rfl (by kernel_rfl) (fun _ _ _ h => h) (Or.inr ⟨by rfl, rfl⟩) ?_ ?_
      rotate_left
      · simp only [Act.put, List.setIfInBounds_toArray, List.set_cons_zero, List.set_cons_succ, i64_w, i32_w]
        rfl
      refine pure_ (i := 10) (N := some 49) (v := undef) (a' := ?_) #[true, true, true, true, true, true, true, true, true, true, true, false] rfl rfl (by kernel_rfl) (fun _ _ _ h => h) (Or.inr ⟨by rfl, rfl⟩) ?_ ?_
      rotate_left
      · simp only [Act.put, List.setIfInBounds_toArray, List.set_cons_zero, List.set_cons_succ, i64_w, i32_w]
        rfl
      refine pure_ (i := 11) (N := some 50) (v := ?_) (a' := ?_) #[true, true, true, true, true, true, true, true, true, true, true, true] rfl rfl (by kernel_rfl) (fun _ _ _ h => h) (Or.inl ⟨by rfl, ?_⟩) ?_ ?_
      rotate_left
      · intro w'
        go_simp
        with_reducible rfl
      rotate_left
      · simp only [Act.put, List.setIfInBounds_toArray, List.set_cons_zero, List.set_cons_succ, i64_w, i32_w]
        rfl
      refine done_ (by kernel_rfl) ?_
      have HB2 := Lib.hid (below_step HW.out (below_step (below_new _ _) HD.out))
      clear HD HS0
      go_wp2_with fail
      go_ret
      exact ⟨ret_b (pB_no (fun k => by have := (HPO.out.1 k).1 i hlt2; rw [HZ.out] at this; cases this)), below_step HB.out HB2.out⟩
    | false =>
      have HZ := Lib.hid hz
      clear hz
      by_cases h3 : z ≤ 3
      · have t1 : decide (z > 3) = false := decide_eq_false (by omega)
        have t1' : decide (3 < z) = false := decide_eq_false (by omega)
        have H3 := Lib.hid h3
        clear h3
        go_wp2_with fail
        clear g0 g1 g2 g3 g4
        refine start_ (n := 12) (S := (fun W : World => (W.cell? ⟨wr.heap.size, 0, none⟩ = some (.int .i64 vs[i].f0) ∧ W.cell? ⟨wr.heap.size, 1, none⟩ = some (.string vs[i].f1) ∧ W.cell? ⟨wr.heap.size, 2, none⟩ = some (.int .i64 vs[i].f2) ∧ W.cell? ⟨wr.heap.size, 3, none⟩ = some (.slice X3 vs[i].f3.length Xc3) ∧ W.cell? ⟨wr.heap.size, 4, none⟩ = some (.slice X4 vs[i].f4.length Xc4)) ∧ W.cell? (dd.add i) = some (.int .i64 z))) (ds := []) #[false, false, false, false, false, false, false, false, false, false, false, false] (by kernel_rfl) rfl rfl (HS0.out _ HD.out) (fun hHeld => ?_)
        generalize World.drew _ = wd at HD hHeld  ⊢
        refine pure_ (i := 0) (N := some 39) (v := ?_) (a' := ?_) #[true, false, false, false, false, false, false, false, false, false, false, false] rfl rfl (by kernel_rfl) (fun _ _ _ h => h) (Or.inl ⟨by rfl, ?_⟩) ?_ ?_
        rotate_left
        · intro w'
          go_simp
          with_reducible rfl
        rotate_left
        · simp only [Act.put, List.setIfInBounds_toArray, List.set_cons_zero, List.set_cons_succ, i64_w, i32_w]
          rfl
        refine pure_ (i := 1) (N := some 40) (v := ?_) (a' := ?_) #[true, true, false, false, false, false, false, false, false, false, false, false] rfl rfl (by kernel_rfl) (fun _ _ _ h => h) (Or.inl ⟨by rfl, ?_⟩) ?_ ?_
        rotate_left
        · intro w'
          go_simp
          with_reducible rfl
        rotate_left
        · simp only [Act.put, List.setIfInBounds_toArray, List.set_cons_zero, List.set_cons_succ, i64_w, i32_w]
          rfl
        refine pure_ (i := 2) (N := some 41) (v := ?_) (a' := ?_) #[true, true, true, false, false, false, false, false, false, false, false, false] rfl rfl (by kernel_rfl) (fun _ _ _ h => h) (Or.inl ⟨by rfl, ?_⟩) ?_ ?_
        rotate_left
        · intro w'
          go_simp
          with_reducible rfl
        rotate_left
        · simp only [Act.put, List.setIfInBounds_toArray, List.set_cons_zero, List.set_cons_succ, i64_w, i32_w]
          rfl
        refine take_ (i := 3) (N := some 42) (v := ?_) (a' := ?_) #[true, true, true, true, false, false, false, false, false, false, false, false] rfl rfl (by kernel_rfl) (fun _ _ _ h => h) (Or.inl ⟨by rfl, ?_⟩) hHeld ?_ ?_
        rotate_left
        · rintro w' ⟨⟨s0, s1, s2, s3, s4⟩, s5⟩
          go_simp
          with_reducible rfl
        rotate_left
        · simp only [Act.put, List.setIfInBounds_toArray, List.set_cons_zero, List.set_cons_succ, i64_w, i32_w]
          rfl
        refine one_ (i := 4) (N := some 43) #[true, true, true, true, true, false, false, false, false, false, false, false] rfl rfl (by kernel_rfl) (by decide) (fun K hK => ?_)
        refine goes_ Try.func77 (by kernel_rfl) rfl #[.slice (some ad) (i : Nat) vc, .agg #[.int .i64 vs[i].f0, .string vs[i].f1, .int .i64 vs[i].f2, .slice X3 vs[i].f3.length Xc3, .slice X4 vs[i].f4.length Xc4]] (by rfl) rfl rfl (by (try simp only [List.map_toArray, List.map_cons, List.map_nil]); first | done | rfl) ?_
        refine (HF.out _ HD.out).mono ?_
        rintro e w1 ⟨rfl, hb1⟩
        replace HD := Lib.hid (below_step HD.out hb1)
        clear hb1
        rw [HZ.out]
        refine ⟨_, rfl, ?_⟩
        refine hK.out _ _ (HS0.out _ HD.out) (fun hHeld => ?_)
        clear hK K
        refine norm_ (a' := ?_) ?_ ?_
        rotate_left
        · show Act.put _ (some 43) _ = _
          simp only [Act.put, List.setIfInBounds_toArray, List.set_cons_zero, List.set_cons_succ, i64_w, i32_w]
          rfl
        refine pure_ (i := 5) (N := some 44) (v := ?_) (a' := ?_) #[true, true, true, true, true, true, false, false, false, false, false, false] rfl rfl (by kernel_rfl) (fun _ _ _ h => h) (Or.inl ⟨by rfl, ?_⟩) ?_ ?_
        rotate_left
        · intro w'
          go_simp
          with_reducible rfl
        rotate_left
        · simp only [Act.put, List.setIfInBounds_toArray, List.set_cons_zero, List.set_cons_succ, i64_w, i32_w]
          rfl
        refine pure_ (i := 6) (N := some 45) (v := ?_) (a' := ?_) #[true, true, true, true, true, true, true, false, false, false, false, false] rfl rfl (by kernel_rfl) (fun _ _ _ h => h) (Or.inl ⟨by rfl, ?_⟩) ?_ ?_
        rotate_left
        · intro w'
          go_simp
          with_reducible rfl
        rotate_left
        · simp only [Act.put, List.setIfInBounds_toArray, List.set_cons_zero, List.set_cons_succ, i64_w, i32_w]
          rfl
        refine pure_ (i := 7) (N := some 46) (v := ?_) (a' := ?_) #[true, true, true, true, true, true, true, true, false, false, false, false] rfl rfl (by kernel_rfl) (fun _ _ _ h => h) (Or.inl ⟨by rfl, ?_⟩) ?_ ?_
        rotate_left
        · intro w'
          go_simp
          with_reducible rfl
        rotate_left
        · simp only [Act.put, List.setIfInBounds_toArray, List.set_cons_zero, List.set_cons_succ, i64_w, i32_w]
          rfl
        refine pure_ (i := 8) (N := some 47) (v := ?_) (a' := ?_) #[true, true, true, true, true, true, true, true, true, false, false, false] rfl rfl (by kernel_rfl) (fun _ _ _ h => h) (Or.inl ⟨by rfl, ?_⟩) ?_ ?_
        rotate_left
        · intro w'
          go_simp
          with_reducible rfl
        rotate_left
        · simp only [Act.put, List.setIfInBounds_toArray, List.set_cons_zero, List.set_cons_succ, i64_w, i32_w]
          rfl
        refine take_ (i := 9) (N := some 48) (v := ?_) (a' := ?_) #[true, true, true, true, true, true, true, true, true, true, false, false] rfl rfl (by kernel_rfl) (fun _ _ _ h => h) (Or.inl ⟨by rfl, ?_⟩) hHeld ?_ ?_
        rotate_left
        · rintro w' ⟨⟨s0, s1, s2, s3, s4⟩, s5⟩
          go_simp
          with_reducible rfl
        rotate_left
        · simp only [Act.put, List.setIfInBounds_toArray, List.set_cons_zero, List.set_cons_succ, i64_w, i32_w]
          rfl
        refine pure_ (i := 10) (N := some 49) (v := ?_) (a' := ?_) #[true, true, true, true, true, true, true, true, true, true, true, false] rfl rfl (by kernel_rfl) (fun _ _ _ h => h) (Or.inl ⟨by rfl, ?_⟩) ?_ ?_
        rotate_left
        · intro w'
          go_simp
          with_reducible rfl
        rotate_left
        · simp only [Act.put, List.setIfInBounds_toArray, List.set_cons_zero, List.set_cons_succ, i64_w, i32_w]
          rfl
        refine pure_ (i := 11) (N := some 50) (v := ?_) (a' := ?_) #[true, true, true, true, true, true, true, true, true, true, true, true] rfl rfl (by kernel_rfl) (fun _ _ _ h => h) (Or.inl ⟨by rfl, ?_⟩) ?_ ?_
        rotate_left
        · intro w'
          go_simp
          with_reducible rfl
        rotate_left
        · simp only [Act.put, List.setIfInBounds_toArray, List.set_cons_zero, List.set_cons_succ, i64_w, i32_w]
          rfl
        refine done_ (by kernel_rfl) ?_
        have HB2 := Lib.hid (below_step HW.out (below_step (below_new _ _) HD.out))
        clear HD HS0
        go_wp2_with fail
        go_roundg (vs.length - (i + 1))
        case measure => omega
        case rel =>
          refine ⟨i + 1, by omega, Nat.le_refl _, by go_num, ⟨fun j hji => ?_⟩, ⟨HB2.out⟩⟩
          rcases Nat.lt_or_ge j i with h | h
          · exact HNO.out j h
          · obtain rfl : j = i := by omega
            exact ⟨fun _ => HZ.out, HDG.out.2 H3.out⟩
      · have t1 : decide (z > 3) = true := decide_eq_true (by omega)
        have t1' : decide (3 < z) = true := decide_eq_true (by omega)
        have h3' : 3 < z := by omega
        have H3 := Lib.hid h3'
        clear h3 h3'
        go_wp2_with fail
        clear g0 g1 g2 g3 g4
        refine start_ (n := 12) (S := (fun W : World => (W.cell? ⟨wr.heap.size, 0, none⟩ = some (.int .i64 vs[i].f0) ∧ W.cell? ⟨wr.heap.size, 1, none⟩ = some (.string vs[i].f1) ∧ W.cell? ⟨wr.heap.size, 2, none⟩ = some (.int .i64 vs[i].f2) ∧ W.cell? ⟨wr.heap.size, 3, none⟩ = some (.slice X3 vs[i].f3.length Xc3) ∧ W.cell? ⟨wr.heap.size, 4, none⟩ = some (.slice X4 vs[i].f4.length Xc4)) ∧ W.cell? (dd.add i) = some (.int .i64 z))) (ds := []) #[false, false, false, false, false, false, false, false, false, false, false, false] (by kernel_rfl) rfl rfl (HS0.out _ HD.out) (fun hHeld => ?_)
        generalize World.drew _ = wd at HD hHeld  ⊢
        refine pure_ (i := 0) (N := some 39) (v := ?_) (a' := ?_) #[true, false, false, false, false, false, false, false, false, false, false, false] rfl rfl (by kernel_rfl) (fun _ _ _ h => h) (Or.inl ⟨by rfl, ?_⟩) ?_ ?_
        rotate_left
        · intro w'
          go_simp
          with_reducible rfl
        rotate_left
        · simp only [Act.put, List.setIfInBounds_toArray, List.set_cons_zero, List.set_cons_succ, i64_w, i32_w]
          rfl
        refine pure_ (i := 1) (N := some 40) (v := ?_) (a' := ?_) #[true, true, false, false, false, false, false, false, false, false, false, false] rfl rfl (by kernel_rfl) (fun _ _ _ h => h) (Or.inl ⟨by rfl, ?_⟩) ?_ ?_
        rotate_left
        · intro w'
          go_simp
          with_reducible rfl
        rotate_left
        · simp only [Act.put, List.setIfInBounds_toArray, List.set_cons_zero, List.set_cons_succ, i64_w, i32_w]
          rfl
        refine pure_ (i := 2) (N := some 41) (v := ?_) (a' := ?_) #[true, true, true, false, false, false, false, false, false, false, false, false] rfl rfl (by kernel_rfl) (fun _ _ _ h => h) (Or.inl ⟨by rfl, ?_⟩) ?_ ?_
        rotate_left
        · intro w'
          go_simp
          with_reducible rfl
        rotate_left
        · simp only [Act.put, List.setIfInBounds_toArray, List.set_cons_zero, List.set_cons_succ, i64_w, i32_w]
          rfl
        refine take_ (i := 3) (N := some 42) (v := ?_) (a' := ?_) #[true, true, true, true, false, false, false, false, false, false, false, false] rfl rfl (by kernel_rfl) (fun _ _ _ h => h) (Or.inl ⟨by rfl, ?_⟩) hHeld ?_ ?_
        rotate_left
        · rintro w' ⟨⟨s0, s1, s2, s3, s4⟩, s5⟩
          go_simp
          with_reducible rfl
        rotate_left
        · simp only [Act.put, List.setIfInBounds_toArray, List.set_cons_zero, List.set_cons_succ, i64_w, i32_w]
          rfl
        refine one_ (i := 4) (N := some 43) #[true, true, true, true, true, false, false, false, false, false, false, false] rfl rfl (by kernel_rfl) (by decide) (fun K hK => ?_)
        refine goes_ Try.func77 (by kernel_rfl) rfl #[.slice (some ad) (i : Nat) vc, .agg #[.int .i64 vs[i].f0, .string vs[i].f1, .int .i64 vs[i].f2, .slice X3 vs[i].f3.length Xc3, .slice X4 vs[i].f4.length Xc4]] (by rfl) rfl rfl (by (try simp only [List.map_toArray, List.map_cons, List.map_nil]); first | done | rfl) ?_
        refine (HF.out _ HD.out).mono ?_
        rintro e w1 ⟨rfl, hb1⟩
        replace HD := Lib.hid (below_step HD.out hb1)
        clear hb1
        rw [HZ.out]
        refine ⟨_, rfl, ?_⟩
        refine hK.out _ _ (HS0.out _ HD.out) (fun hHeld => ?_)
        clear hK K
        refine norm_ (a' := ?_) ?_ ?_
        rotate_left
        · show Act.put _ (some 43) _ = _
          simp only [Act.put, List.setIfInBounds_toArray, List.set_cons_zero, List.set_cons_succ, i64_w, i32_w]
          rfl
        refine pure_ (i := 5) (N := some 44) (v := ?_) (a' := ?_) #[true, true, true, true, true, true, false, false, false, false, false, false] rfl rfl (by kernel_rfl) (fun _ _ _ h => h) (Or.inl ⟨by rfl, ?_⟩) ?_ ?_
        rotate_left
        · intro w'
          go_simp
          with_reducible rfl
        rotate_left
        · simp only [Act.put, List.setIfInBounds_toArray, List.set_cons_zero, List.set_cons_succ, i64_w, i32_w]
          rfl
        refine pure_ (i := 6) (N := some 45) (v := ?_) (a' := ?_) #[true, true, true, true, true, true, true, false, false, false, false, false] rfl rfl (by kernel_rfl) (fun _ _ _ h => h) (Or.inl ⟨by rfl, ?_⟩) ?_ ?_
        rotate_left
        · intro w'
          go_simp
          with_reducible rfl
        rotate_left
        · simp only [Act.put, List.setIfInBounds_toArray, List.set_cons_zero, List.set_cons_succ, i64_w, i32_w]
          rfl
        refine pure_ (i := 7) (N := some 46) (v := ?_) (a' := ?_) #[true, true, true, true, true, true, true, true, false, false, false, false] rfl rfl (by kernel_rfl) (fun _ _ _ h => h) (Or.inl ⟨by rfl, ?_⟩) ?_ ?_
        rotate_left
        · intro w'
          go_simp
          with_reducible rfl
        rotate_left
        · simp only [Act.put, List.setIfInBounds_toArray, List.set_cons_zero, List.set_cons_succ, i64_w, i32_w]
          rfl
        refine pure_ (i := 8) (N := some 47) (v := ?_) (a' := ?_) #[true, true, true, true, true, true, true, true, true, false, false, false] rfl rfl (by kernel_rfl) (fun _ _ _ h => h) (Or.inl ⟨by rfl, ?_⟩) ?_ ?_
        rotate_left
        · intro w'
          go_simp
          with_reducible rfl
        rotate_left
        · simp only [Act.put, List.setIfInBounds_toArray, List.set_cons_zero, List.set_cons_succ, i64_w, i32_w]
          rfl
        refine take_ (i := 9) (N := some 48) (v := ?_) (a' := ?_) #[true, true, true, true, true, true, true, true, true, true, false, false] rfl rfl (by kernel_rfl) (fun _ _ _ h => h) (Or.inl ⟨by rfl, ?_⟩) hHeld ?_ ?_
        rotate_left
        · rintro w' ⟨⟨s0, s1, s2, s3, s4⟩, s5⟩
          go_simp
          with_reducible rfl
        rotate_left
        · simp only [Act.put, List.setIfInBounds_toArray, List.set_cons_zero, List.set_cons_succ, i64_w, i32_w]
          rfl
        refine pure_ (i := 10) (N := some 49) (v := ?_) (a' := ?_) #[true, true, true, true, true, true, true, true, true, true, true, false] rfl rfl (by kernel_rfl) (fun _ _ _ h => h) (Or.inl ⟨by rfl, ?_⟩) ?_ ?_
        rotate_left
        · intro w'
          go_simp
          with_reducible rfl
        rotate_left
        · simp only [Act.put, List.setIfInBounds_toArray, List.set_cons_zero, List.set_cons_succ, i64_w, i32_w]
          rfl
        refine pure_ (i := 11) (N := some 50) (v := ?_) (a' := ?_) #[true, true, true, true, true, true, true, true, true, true, true, true] rfl rfl (by kernel_rfl) (fun _ _ _ h => h) (Or.inl ⟨by rfl, ?_⟩) ?_ ?_
        rotate_left
        · intro w'
          go_simp
          with_reducible rfl
        rotate_left
        · simp only [Act.put, List.setIfInBounds_toArray, List.set_cons_zero, List.set_cons_succ, i64_w, i32_w]
          rfl
        refine done_ (by kernel_rfl) ?_
        have HB2 := Lib.hid (below_step HW.out (below_step (below_new _ _) HD.out))
        clear HD HS0
        go_wp2_with fail
        go_ret
        exact ⟨ret_b (pB_no (fun k => by have h1 := HDG.out.1 ((HPO.out.1 k).2.1 i); have h2 := H3.out; omega)), below_step HB.out HB2.out⟩
end Go.Proofs.Ytlklclebjeeaaaa
end
section
namespace Go.Proofs.Ytlklclebjeeaaaa
open Go.RowKit Go.Proofs.YtlklclebjeeaaaaW.PrintWords Go.Proofs.YtlklclebjeeaaaaW.PrintLast Go.Proofs.YtlklclebjeeaaaaW.PrintMore
set_option linter.unusedVariables false
set_option linter.unusedSimpArgs false
mutual
def Fm.cnt : Fm → Nat
  | ⟨_, _, _, sc, kids⟩ => sc.length + cntL kids
def cntL : List Fm → Nat
  | [] => 0
  | k :: ks => 3 + k.cnt + cntL ks
end
mutual
def Fm.mark : Fm → Int → Fm
  | ⟨a, b, c, sc, kids⟩, k => ⟨a, b, c, markI sc.length k, markL kids (k + sc.length)⟩
def markL : List Fm → Int → List Fm
  | [], _ => []
  | x :: xs, k => ⟨k, mt (k + 1), k + 2, (x.mark (k + 3)).f3, (x.mark (k + 3)).f4⟩ :: markL xs (k + 3 + x.cnt)
end
theorem Fm.cnt_eq (x : Fm) : x.cnt = x.f3.length + cntL x.f4 := by cases x; rfl
theorem Fm.mark_eq (x : Fm) (k : Int) : x.mark k = ⟨x.f0, x.f1, x.f2, markI x.f3.length k, markL x.f4 (k + x.f3.length)⟩ := by cases x; rfl
/-- The element of a row, marked from k on. -/
def Fm.mark3 (x : Fm) (k : Int) : Fm := ⟨k, mt (k + 1), k + 2, markI x.f3.length (k + 3), markL x.f4 (k + 3 + x.f3.length)⟩
theorem markL_cons (x : Fm) (xs : List Fm) (k : Int) : markL (x :: xs) k = x.mark3 k :: markL xs (k + 3 + x.cnt) := by
  rw [markL, Fm.mark_eq]
  rfl
theorem cntL_cons (x : Fm) (xs : List Fm) : cntL (x :: xs) = 3 + x.cnt + cntL xs := rfl
theorem cntL_append (a b : List Fm) : cntL (a ++ b) = cntL a + cntL b := by
  induction a with
  | nil => simp [cntL]
  | cons x a ih => rw [List.cons_append, cntL_cons, cntL_cons, ih]; omega
theorem markL_append (a b : List Fm) : ∀ k : Int, markL (a ++ b) k = markL a k ++ markL b (k + cntL a) := by
  induction a with
  | nil => intro k; simp [markL, cntL]
  | cons x a ih =>
    intro k
    rw [List.cons_append, markL_cons, markL_cons, ih, cntL_cons, List.cons_append]
    congr 3
    omega
theorem markL_length : ∀ (l : List Fm) (k : Int), (markL l k).length = l.length := by
  intro l
  induction l with
  | nil => intro k; rfl
  | cons x l ih => intro k; rw [markL_cons, List.length_cons, List.length_cons, ih]
theorem cntL_take (l : List Fm) (i : Nat) (h : i < l.length) : cntL (l.take (i + 1)) = cntL (l.take i) + (3 + l[i].cnt) := by
  rw [List.take_succ_eq_append_getElem h, cntL_append, cntL_cons]
  simp [cntL]
theorem markL_take (l : List Fm) (i : Nat) (h : i < l.length) (k : Int) : markL (l.take (i + 1)) k = markL (l.take i) k ++ [l[i].mark3 (k + cntL (l.take i))] := by
  rw [List.take_succ_eq_append_getElem h, markL_append, markL_cons]
  simp [markL]
theorem cntL_take_le (l : List Fm) (i : Nat) : cntL (l.take i) ≤ cntL l := by
  have h := cntL_append (l.take i) (l.drop i)
  rw [List.take_append_drop] at h
  omega
theorem Mk.cell {S : List Nat} {w w' : World} (h : Mk S w w') {g j : Nat} {v : Value} (hg : g ∉ S) (hc : w.cell? ⟨g, j, none⟩ = some v) : w'.cell? ⟨g, j, none⟩ = some v := by
  have hlt := World.block_lt_of_cell? w _ hc
  rw [World.cell?_of_block (w := w) (h.keep g hlt hg)]
  exact hc
theorem Mk.own {S : List Nat} {w w' : World} (h : Mk S w w') {e sz n : Nat} {v : Value} {inner : List Value} (ho : w.ownsRow 0 e sz v n inner) (hs : ∀ b, v.ownBlock = some b → b ∉ S) (hlt : ∀ b, v.ownBlock = some b → b < w.heap.size) : w'.ownsRow 0 e sz v n inner :=
  own_move ho (fun b hb => h.keep b (hlt b hb) (hs b hb))
theorem row_at {w : World} {e g n cap i : Nat} {inner rest : List Value} {a0 a1 a2 a3 a4 : Value} (h : w.ownsRow 0 e 5 (.slice (some ⟨g, 0, none⟩) n cap) n (inner ++ ([a0, a1, a2, a3, a4] ++ rest))) (hl : inner.length = i * 5) :
    (∀ b0, (w.setCell ⟨g, i * 5, none⟩ b0).ownsRow 0 e 5 (.slice (some ⟨g, 0, none⟩) n cap) n (inner ++ ([b0, a1, a2, a3, a4] ++ rest))) ∧
    (∀ b1, (w.setCell ⟨g, i * 5 + 1, none⟩ b1).ownsRow 0 e 5 (.slice (some ⟨g, 0, none⟩) n cap) n (inner ++ ([a0, b1, a2, a3, a4] ++ rest))) ∧
    (∀ b2, (w.setCell ⟨g, i * 5 + 2, none⟩ b2).ownsRow 0 e 5 (.slice (some ⟨g, 0, none⟩) n cap) n (inner ++ ([a0, a1, b2, a3, a4] ++ rest))) := by
  refine ⟨fun b0 => ?_, fun b1 => ?_, fun b2 => ?_⟩
  · have s0 := (World.ownsRow.stored h (i * 5) b0).1
    rwa [show (inner ++ ([a0, a1, a2, a3, a4] ++ rest)).set (i * 5) b0 = inner ++ ([b0, a1, a2, a3, a4] ++ rest) from by rw [← hl]; simp [List.set_append]] at s0
  · have s0 := (World.ownsRow.stored h (i * 5 + 1) b1).1
    rwa [show (inner ++ ([a0, a1, a2, a3, a4] ++ rest)).set (i * 5 + 1) b1 = inner ++ ([a0, b1, a2, a3, a4] ++ rest) from by rw [← hl]; simp [List.set_append]] at s0
  · have s0 := (World.ownsRow.stored h (i * 5 + 2) b2).1
    rwa [show (inner ++ ([a0, a1, a2, a3, a4] ++ rest)).set (i * 5 + 2) b2 = inner ++ ([a0, a1, b2, a3, a4] ++ rest) from by rw [← hl]; simp [List.set_append]] at s0
/-- markFormS on the row v of the forms ks, from k on. -/
def MarkPost (ks : List Fm) (v : Value) (fp : List Nat) (k : Int) (w : World) (e : Ending) (w' : World) : Prop :=
  e = .returned (.int .i64 (k + cntL ks)) ∧ (∃ inner, w'.ownsRow 0 34 5 v ks.length inner ∧ TrL w' (markL ks k) inner fp) ∧ Mk (obs v ++ fp) w w'
def MarkL (ks : List Fm) : Prop := ∀ (v : Value) (inner : List Value) (fp : List Nat) (k : Int) (w : World), w.ownsRow 0 34 5 v ks.length inner → TrL w ks inner fp → (obs v ++ fp).Nodup → 1 ≤ k → k + cntL ks ≤ 1000000000 →
    Calls Try.prog 42 #[v, .int .i64 k] w (MarkPost ks v fp k w)
theorem nd_parts {a b c d e f : List Nat} (h : (a ++ (b ++ ((c ++ (d ++ e)) ++ f))).Nodup) : (∀ x, x ∈ a → x ∉ b ∧ x ∉ c ∧ x ∉ d ++ e ∧ x ∉ f) ∧ (∀ x, x ∈ c → x ∉ a ∧ x ∉ b ∧ x ∉ d ++ e ∧ x ∉ f) ∧ (∀ x, x ∈ d ++ e → x ∉ a ∧ x ∉ b ∧ x ∉ c ∧ x ∉ f) ∧ (d ++ e).Nodup := by
  simp only [List.nodup_append, List.mem_append] at h
  grind
theorem markTextZ (k : Int) (w : World) (hk0 : 1 ≤ k) (hk1 : k ≤ 1000000000) : Calls Try.prog 54 #[.int .i64 k] w (Ret w (.string (mt k))) := by
  obtain ⟨n, rfl⟩ := Int.eq_ofNat_of_zero_le (show 0 ≤ k by omega)
  exact markText_any n w (by omega) (by omega)
set_option maxHeartbeats 4000000 in
set_option maxRecDepth 100000 in
theorem markFormS_of (ks : List Fm) (hks : ∀ x, x ∈ ks → MarkL x.f4) : MarkL ks := by
  intro v inner fp k w ho ht hnd hk0 hk1
  obtain ⟨A, c, rfl, hcap, hC0⟩ := ht.C ho
  have hmax := hC0.2.1
  have HI := Lib.hid (And.intro ho ht)
  have HK := Lib.hid hks
  have HND := Lib.hid hnd
  clear ho ht hks hC0 hnd
  go_enter Try.func42, Try.ntmps42
  go_wp2_with fail
  go_loopg [1, 5] ks.length (fun kq v1 v5 w' => ∃ i : Nat, i ≤ ks.length ∧ ks.length - i ≤ kq ∧ v5 = .int .i64 i ∧ v1 = .int .i64 (k + (cntL (ks.take i) : Int)) ∧ Aside0 (∃ ia ib fa fb, w'.ownsRow 0 34 5 (.slice A ks.length c) ks.length (ia ++ ib) ∧ TrL w' (markL (ks.take i) k) ia fa ∧ TrL w' (ks.drop i) ib fb ∧ fp = fa ++ fb) ∧ Aside0 (Mk (obs (.slice A ks.length c) ++ fp) w w'))
  case atStart => exact ⟨0, Nat.zero_le _, by omega, rfl, by simp [cntL], ⟨[], inner, [], fp, HI.out.1, TrL.nil, HI.out.2, rfl⟩, ⟨Mk.refl _ _⟩⟩
  case round =>
    obtain ⟨i, hi, hg, rfl, rfl, HO, HW⟩ := hrel
    by_cases hlt : i < ks.length
    · obtain ⟨ia, ib, fa, fb, ho, ha, hb, hfp⟩ := HO.out
      rw [List.drop_eq_getElem_cons hlt] at hb
      obtain ⟨v3, v4, rest, fk, fs, rfl, rfl, hkid, hrest⟩ := hb.cons_inv
      obtain ⟨inner4, fk4, rfl, h3, h4, hk4⟩ := hkid.open
      obtain ⟨C3, j3, rfl, hj3, _⟩ := own_C h3
      obtain ⟨C4, j4, rfl, hj4, _⟩ := hk4.C h4
      obtain ⟨g, cap, e, hg0, hglt⟩ := ho.form (by omega)
      have hA : A = some ⟨g, 0, none⟩ := by cases e; rfl
      have hcc : c = cap := by cases e; rfl
      subst hA
      subst hcc
      have hl := ha.len
      rw [markL_length, List.length_take, Nat.min_eq_left hi] at hl
      have hnd := HND.out
      rw [hfp] at hnd
      obtain ⟨n1, n2, n3, n4⟩ := nd_parts hnd
      have hct := cntL_take ks i hlt
      have hcle := cntL_take_le ks (i + 1)
      have hce := Fm.cnt_eq ks[i]
      obtain ⟨⟨q0, q1, q2, q3, q4⟩, hfz, _⟩ := row_put ho hl
      have z0 := hfz (i * 5)
      have z1 := hfz (i * 5 + 1)
      have z2 := hfz (i * 5 + 2)
      have MT := Lib.hid (markTextZ (k + (cntL (ks.take i) : Int) + 1) (wr.setCell ⟨g, i * 5, none⟩ (.int .i64 (k + (cntL (ks.take i) : Int)))) (by omega) (by omega))
      clear e hfz
      go_wp2_with fail
      refine MT.out.mono ?_
      rintro e w2 ⟨rfl, hb2⟩
      have hgS : g ∈ obs (.slice (some ⟨g, 0, none⟩) ks.length c) ++ fp := by simp [obs, Value.ownBlock]
      have ho2 := own_move (w1 := w2) ((row_at ho hl).1 (.int .i64 (k + (cntL (ks.take i) : Int)))) (fun b hb => by
        have : g = b := by simpa [Value.ownBlock] using hb
        subst this
        exact hb2.block g (by simpa using hglt))
      have m2 : Mk [g] wr w2 := (Mk.set wr (by simp) _ _).trans (Mk.ofBelow hb2)
      have ho3 := (row_at ho2 hl).2.1 (.string (mt (k + (cntL (ks.take i) : Int) + 1)))
      have ho4 := (row_at ho3 hl).2.2 (.int .i64 (k + (cntL (ks.take i) : Int) + 1 + 1))
      have m4 : Mk [g] wr ((w2.setCell ⟨g, i * 5 + 1, none⟩ (.string (mt (k + (cntL (ks.take i) : Int) + 1)))).setCell ⟨g, i * 5 + 2, none⟩ (.int .i64 (k + (cntL (ks.take i) : Int) + 1 + 1))) := (m2.trans (Mk.set _ (by simp) _ _)).trans (Mk.set _ (by simp) _ _)
      have hf1 := World.ownsRow.frozenAt ho2 (i * 5 + 1)
      have hf2 := World.ownsRow.frozenAt ho3 (i * 5 + 2)
      obtain ⟨⟨_, r1, r2, r3, r4⟩, _, _⟩ := row_put ho2 hl
      obtain ⟨⟨_, _, s2, s3, s4⟩, _, _⟩ := row_put ho3 hl
      obtain ⟨⟨_, _, _, t3, t4⟩, _, _⟩ := row_put ho4 hl
      clear q0 q1 q2 q3 q4 z0 z1 z2 MT hb2
      have HO4 := Lib.hid ho4
      have M4 := Lib.hid m4
      clear ho ho2 ho3 ho4 m2 m4
      go_wp2_with fail
      have hgm : g ∈ obs (.slice (some ⟨g, 0, none⟩) ks.length c) := by simp [obs, Value.ownBlock]
      have n1g := n1 g hgm
      have hklt := hkid.lt _
      have h3' := M4.out.own h3 (fun b hb => by
          have hb' : b ∈ obs (Value.slice C3 ks[i].f3.length j3) := obs_mem.2 hb
          intro h
          have : b = g := by simpa using h
          subst this
          exact n1g.2.1 hb') (fun b hb => hklt b (List.mem_append_left _ (obs_mem.2 hb)))
      refine (markIntS_any ks[i].f3 (.slice C3 ks[i].f3.length j3) _ _ (Kd.R_of_own h3' (fun _ _ => trivial)) (by omega) (by omega)).mono ?_
      rintro e w5 ⟨rfl, r5, m5⟩
      have m5' : Mk ([g] ++ obs (.slice C3 ks[i].f3.length j3)) wr w5 := (M4.out.more (fun j hj => List.mem_append_left _ hj)).trans (m5.more (fun j hj => List.mem_append_right _ hj))
      have u4 := m5.cell n1g.2.1 t4
      have hdis : ∀ b, b ∈ obs (Value.slice C4 ks[i].f4.length j4) ++ fk4 → b ∉ [g] ++ obs (.slice C3 ks[i].f3.length j3) := by
        intro b hb h
        have q := n3 b hb
        rcases List.mem_append.1 h with h | h
        · have : b = g := by simpa using h
          subst this
          exact q.1 hgm
        · exact q.2.2.1 h
      have h4' := m5'.own h4 (fun b hb => hdis b (List.mem_append_left _ (obs_mem.2 hb))) (fun b hb => hklt b (List.mem_append_right _ (List.mem_append_left _ (obs_mem.2 hb))))
      have hk4' := hk4.move _ (fun b hb => m5'.keep b (hklt b (List.mem_append_right _ (List.mem_append_right _ hb))) (hdis b (List.mem_append_right _ hb)))
      have MK := Lib.hid (HK.out ks[i] (List.getElem_mem hlt) _ _ _ (k + (cntL (ks.take i) : Int) + 1 + 1 + 1 + ks[i].f3.length) w5 h4' hk4' n4 (by omega) (by omega))
      clear r1 r2 r3 r4 s2 s3 s4 t3 t4 hf1 hf2
      go_wp2_with fail
      refine MK.out.mono ?_
      rintro e w6 ⟨rfl, ⟨inner', h6, t6⟩, m6⟩
      have mA : Mk (([g] ++ obs (.slice C3 ks[i].f3.length j3)) ++ (obs (.slice C4 ks[i].f4.length j4) ++ fk4)) wr w6 := (m5'.more (fun j hj => List.mem_append_left _ hj)).trans (m6.more (fun j hj => List.mem_append_right _ hj))
      have hgo : ∀ b, (Value.slice (some ⟨g, 0, none⟩) ks.length c).ownBlock = some b → b = g := fun b hb => by
        have : g = b := by simpa [Value.ownBlock] using hb
        exact this.symm
      have hsz5 : wr.heap.size ≤ w5.heap.size := m5'.b0.size
      have ho6 := m6.own (m5.own HO4.out (fun b hb => by rw [hgo b hb]; exact n1g.2.1) (fun b hb => by rw [hgo b hb]; exact Nat.lt_of_lt_of_le hglt M4.out.b0.size)) (fun b hb => by rw [hgo b hb]; exact n1g.2.2.1) (fun b hb => by rw [hgo b hb]; omega)
      have hd3 : ∀ b, b ∈ obs (Value.slice C3 ks[i].f3.length j3) → b ∉ obs (Value.slice C4 ks[i].f4.length j4) ++ fk4 := fun b hb => (n2 b hb).2.2.1
      have o5 := Kd.own_of_R r5
      rw [markI_length] at o5
      have o6 := m6.own o5 (fun b hb => hd3 b (obs_mem.2 hb)) (fun b hb => Nat.lt_of_lt_of_le (hklt b (List.mem_append_left _ (obs_mem.2 hb))) hsz5)
      have hfar : ∀ b, (b ∈ fa ∨ b ∈ fs) → b ∉ ([g] ++ obs (.slice C3 ks[i].f3.length j3)) ++ (obs (.slice C4 ks[i].f4.length j4) ++ fk4) := by
        intro b hb h
        rcases List.mem_append.1 h with h | h
        · rcases List.mem_append.1 h with h | h
          · have : b = g := by simpa using h
            subst this
            rcases hb with hb | hb
            · exact n1g.1 hb
            · exact n1g.2.2.2 hb
          · have q := n2 b h
            rcases hb with hb | hb
            · exact q.2.1 hb
            · exact q.2.2.2 hb
        · have q := n3 b h
          rcases hb with hb | hb
          · exact q.2.1 hb
          · exact q.2.2.2 hb
      have ha6 := ha.move _ (fun b hb => mA.keep b (ha.lt _ b hb) (hfar b (.inl hb)))
      have hr6 := hrest.move _ (fun b hb => mA.keep b (hrest.lt _ b hb) (hfar b (.inr hb)))
      have hK3 : k + (cntL (ks.take i) : Int) + 1 + 1 + 1 = k + (cntL (ks.take i) : Int) + 3 := by omega
      rw [hK3] at o6 t6
      have hkid6 : TrF w6 (ks[i].mark3 (k + (cntL (ks.take i) : Int))) (.slice C3 ks[i].f3.length j3) (.slice C4 ks[i].f4.length j4) (obs (.slice C3 ks[i].f3.length j3) ++ (obs (.slice C4 ks[i].f4.length j4) ++ fk4)) :=
        TrF.mk (ks[i].mark3 (k + (cntL (ks.take i) : Int))) _ _ inner' fk4 (by show w6.ownsRow 0 3 1 _ (markI ks[i].f3.length _).length _; rw [markI_length]; exact o6) (by show w6.ownsRow 0 34 5 _ (markL ks[i].f4 _).length _; rw [markL_length]; exact h6) t6
      have HF : Hid (∃ ia ib fa fb, w6.ownsRow 0 34 5 (.slice (some ⟨g, 0, none⟩) ks.length c) ks.length (ia ++ ib) ∧ TrL w6 (markL (ks.take (i + 1)) k) ia fa ∧ TrL w6 (ks.drop (i + 1)) ib fb ∧ fp = fa ++ fb) := by
        refine ⟨ia ++ [.int .i64 (k + (cntL (ks.take i) : Int)), .string (mt (k + (cntL (ks.take i) : Int) + 1)), .int .i64 (k + (cntL (ks.take i) : Int) + 2), .slice C3 ks[i].f3.length j3, .slice C4 ks[i].f4.length j4], rest, fa ++ (obs (.slice C3 ks[i].f3.length j3) ++ (obs (.slice C4 ks[i].f4.length j4) ++ fk4)), fs, ?_, ?_, hr6, ?_⟩
        · rw [List.append_assoc]
          have := ho6
          rwa [show k + (cntL (ks.take i) : Int) + 1 + 1 = k + (cntL (ks.take i) : Int) + 2 from by omega] at this
        · rw [markL_take ks i hlt]
          exact ha6.append (TrL.one hkid6)
        · rw [hfp]
          simp only [List.append_assoc]
      have HM : Hid (Mk (obs (.slice (some ⟨g, 0, none⟩) ks.length c) ++ fp) w w6) := HW.out.trans (mA.more (fun j hj => by
        rw [hfp]
        simp only [List.mem_append] at hj ⊢
        rcases hj with (h | h) | h
        · left; have : j = g := by simpa using h
          rw [this]; exact hgm
        · right; right; left; left; exact h
        · right; right; left; right; exact h))
      have HC := Lib.hid (show cntL (ks.take (i + 1)) = cntL (ks.take i) + (3 + (ks[i].f3.length + cntL ks[i].f4)) from by rw [hct, hce])
      clear n1 n2 n3 n4 n1g hklt h3 h4 h3' h4' hk4 hk4' m5 m5' m6 mA ho6 hd3 o5 o6 hfar ha6 hr6 hkid6 h6 t6 r5 u4 hdis ha hrest hkid hnd hfp hl hgS MK HO4 M4 HO hb hsz5 hgo
      go_wp2_with fail
      go_roundg (ks.length - (i + 1))
      case measure => omega
      case rel =>
        have hc := HC.out
        exact ⟨i + 1, by omega, Nat.le_refl _, by go_num, by rw [hc]; go_num, ⟨HF.out⟩, ⟨HM.out⟩⟩
    · obtain rfl : i = ks.length := by omega
      have HF : Hid (∃ inner, wr.ownsRow 0 34 5 (.slice A ks.length c) ks.length inner ∧ TrL wr (markL ks k) inner fp) := by
        obtain ⟨ia, ib, fa, fb, ho, ha, hb, hfp⟩ := HO.out
        rw [List.drop_length] at hb
        obtain ⟨rfl, rfl⟩ := hb.nil_inv
        rw [List.take_length] at ha
        exact ⟨ia, by simpa using ho, by rw [hfp, List.append_nil]; exact ha⟩
      have HT : Hid (ks.take ks.length = ks) := List.take_length
      clear HO
      go_wp2_with fail
      go_ret
      exact ⟨ret_i (by rw [HT.out]), HF.out, HW.out⟩
theorem markL_kids (x : Fm) : MarkL x.f4 := by
  induction x using Fm.ind with
  | h x ih => exact markFormS_of x.f4 ih
theorem markFormS_any (ks : List Fm) : MarkL ks := markFormS_of ks (fun x _ => markL_kids x)
/-- markForm on a form in own memory. -/
def MarkFPost (x : Fm) (v3 v4 : Value) (fp : List Nat) (k : Int) (w : World) (e : Ending) (w' : World) : Prop :=
  e = .returned (.int .i64 (k + x.cnt)) ∧ TrF w' (x.mark k) v3 v4 fp ∧ Mk fp w w'
set_option maxHeartbeats 2000000 in
theorem markForm_any (x : Fm) (v3 v4 : Value) (fp : List Nat) (k : Int) (w : World) (ht : TrF w x v3 v4 fp) (hnd : fp.Nodup) (hk0 : 1 ≤ k) (hk1 : k + x.cnt ≤ 1000000000) :
    Calls Try.prog 20 #[.agg #[.int .i64 x.f0, .string x.f1, .int .i64 x.f2, v3, v4], .int .i64 k] w (MarkFPost x v3 v4 fp k w) := by
  obtain ⟨inner4, fk4, rfl, h3, h4, hk4⟩ := ht.open
  have hlt := ht.lt _
  obtain ⟨C3, j3, rfl, hj3, _⟩ := own_C h3
  obtain ⟨C4, j4, rfl, hj4, _⟩ := hk4.C h4
  have hce := Fm.cnt_eq x
  have hb1 := below_new w (.cells #[.int .i64 x.f0, .string x.f1, .int .i64 x.f2, .slice C3 x.f3.length j3, .slice C4 x.f4.length j4] 34)
  have mn : Mk (obs (.slice C3 x.f3.length j3)) w _ := Mk.ofBelow hb1
  have h3' := own_move (w1 := w.alloc (.cells #[.int .i64 x.f0, .string x.f1, .int .i64 x.f2, .slice C3 x.f3.length j3, .slice C4 x.f4.length j4] 34)) h3 (fun b hb => hb1.block b (hlt b (List.mem_append_left _ (obs_mem.2 hb))))
  have MI := Lib.hid (markIntS_any x.f3 (.slice C3 x.f3.length j3) k _ (Kd.R_of_own h3' (fun _ _ => trivial)) (by omega) (by omega))
  obtain ⟨p0, p1, p2, p3, p4⟩ := fm_cells (blk_new w (.cells #[.int .i64 x.f0, .string x.f1, .int .i64 x.f2, .slice C3 x.f3.length j3, .slice C4 x.f4.length j4] 34))
  have hg3 : w.heap.size ∉ obs (Value.slice C3 x.f3.length j3) := fun h => by
    have := hlt _ (List.mem_append_left _ h)
    omega
  have hnd2 := List.nodup_append.1 hnd
  have MN := Lib.hid mn
  go_enter Try.func20, Try.ntmps20
  go_wp2_with fail
  refine MI.out.mono ?_
  rintro e w5 ⟨rfl, r5, m5⟩
  have u4 := m5.cell hg3 p4
  have m5' := MN.out.trans m5
  have hd : ∀ b, b ∈ obs (Value.slice C4 x.f4.length j4) ++ fk4 → b ∉ obs (Value.slice C3 x.f3.length j3) := fun b hb h => hnd2.2.2 b h b hb rfl
  have h4' := m5'.own h4 (fun b hb => hd b (List.mem_append_left _ (obs_mem.2 hb))) (fun b hb => hlt b (List.mem_append_right _ (List.mem_append_left _ (obs_mem.2 hb))))
  have hk4' := hk4.move _ (fun b hb => m5'.keep b (hlt b (List.mem_append_right _ (List.mem_append_right _ hb))) (hd b (List.mem_append_right _ hb)))
  have MK := Lib.hid (markFormS_any x.f4 _ _ _ (k + x.f3.length) w5 h4' hk4' hnd2.2.1 (by omega) (by omega))
  clear p0 p1 p2 p3 p4 MI
  go_wp2_with fail
  refine MK.out.mono ?_
  rintro e w6 ⟨rfl, ⟨inner', h6, t6⟩, m6⟩
  have o5 := Kd.own_of_R r5
  rw [markI_length] at o5
  have o6 := m6.own o5 (fun b hb h => hd b h (obs_mem.2 hb)) (fun b hb => Nat.lt_of_lt_of_le (hlt b (List.mem_append_left _ (obs_mem.2 hb))) m5'.b0.size)
  have HT : Hid (TrF w6 (x.mark k) (.slice C3 x.f3.length j3) (.slice C4 x.f4.length j4) (obs (.slice C3 x.f3.length j3) ++ (obs (.slice C4 x.f4.length j4) ++ fk4))) := by
    rw [Fm.mark_eq]
    exact TrF.mk _ _ _ inner' fk4 (by show w6.ownsRow 0 3 1 _ (markI x.f3.length _).length _; rw [markI_length]; exact o6) (by show w6.ownsRow 0 34 5 _ (markL x.f4 _).length _; rw [markL_length]; exact h6) t6
  have HM : Hid (Mk (obs (.slice C3 x.f3.length j3) ++ (obs (.slice C4 x.f4.length j4) ++ fk4)) w w6) := (m5'.more (fun j hj => List.mem_append_left _ hj)).trans (m6.more (fun j hj => List.mem_append_right _ hj))
  have HC := Lib.hid hce
  clear h3 h4 hk4 hlt h3' h4' hk4' m5 m5' m6 o5 o6 h6 t6 r5 u4 hd hg3 hnd hnd2 ht MK mn MN hb1 hce
  go_wp2_with fail
  go_ret
  refine ⟨ret_i ?_, HT.out, HM.out⟩
  rw [HC.out]
  omega
end Go.Proofs.Ytlklclebjeeaaaa
end
section
namespace Go.Proofs.Ytlklclebjeeaaaa
open Go.RowKit Go.Proofs.YtlklclebjeeaaaaW.PrintWords Go.Proofs.YtlklclebjeeaaaaW.PrintLast Go.Proofs.YtlklclebjeeaaaaW.PrintMore
set_option linter.unusedVariables false
set_option linter.unusedSimpArgs false
theorem keepTen {w1 w2 : World} (hb : Below w1.heap.size w1 w2) {a0 a1 a2 a3 a4 a5 a6 a7 a8 a9 : Addr} {v0 v1 v2 v3 v4 v5 v6 v7 v8 v9 : Value} (h : w1.cell? a0 = some v0 ∧ w1.cell? a1 = some v1 ∧ w1.cell? a2 = some v2 ∧ w1.cell? a3 = some v3 ∧ w1.cell? a4 = some v4 ∧ w1.cell? a5 = some v5 ∧ w1.cell? a6 = some v6 ∧ w1.cell? a7 = some v7 ∧ w1.cell? a8 = some v8 ∧ w1.cell? a9 = some v9) :
    w2.cell? a0 = some v0 ∧ w2.cell? a1 = some v1 ∧ w2.cell? a2 = some v2 ∧ w2.cell? a3 = some v3 ∧ w2.cell? a4 = some v4 ∧ w2.cell? a5 = some v5 ∧ w2.cell? a6 = some v6 ∧ w2.cell? a7 = some v7 ∧ w2.cell? a8 = some v8 ∧ w2.cell? a9 = some v9 :=
  let ⟨h0, h1, h2, h3, h4, h5, h6, h7, h8, h9⟩ := h
  ⟨ck0 hb h0, ck0 hb h1, ck0 hb h2, ck0 hb h3, ck0 hb h4, ck0 hb h5, ck0 hb h6, ck0 hb h7, ck0 hb h8, ck0 hb h9⟩
theorem cntL_tot (l : List Fm) (h : ∀ k, k ∈ l → k.cnt ≤ 3 * k.tot) : cntL l ≤ 3 * totL l := by
  induction l with
  | nil => simp [cntL]
  | cons k ks ih =>
    have h1 := h k List.mem_cons_self
    have h2 := ih (fun y hy => h y (List.mem_cons_of_mem _ hy))
    rw [cntL_cons]
    show _ ≤ 3 * (1 + k.tot + totL ks)
    omega
theorem Fm.cnt_tot (x : Fm) : x.cnt ≤ 3 * x.tot := by
  induction x using Fm.ind with
  | h x ih =>
    have h1 := cntL_tot x.f4 ih
    have h2 := x.cnt_eq
    have h3 := x.tot_eq
    omega
theorem Mk.blk {S : List Nat} {w w' : World} {g : Nat} {O : Obj} (h : Mk S w w') (hg : w.heap[g]? = some O) (hs : g ∉ S) : w'.heap[g]? = some O := by
  rw [h.keep g (blk_lt hg) hs]; exact hg
/-- A form in the blocks fp, which lie from lo on and ahead of hi. -/
structure Own (lo hi : Nat) (w : World) (x : Fm) (v3 v4 : Value) (fp : List Nat) : Prop where
  tree : TrF w x v3 v4 fp
  nd : fp.Nodup
  lo_ : ∀ b, b ∈ fp → lo ≤ b
  hi_ : ∀ b, b ∈ fp → b < hi
  sz : hi ≤ w.heap.size
theorem NewF.own {lo : Nat} {w : World} {x : Fm} {v3 v4 : Value} (h : NewF lo w x v3 v4) : ∃ A3 c3 A4 c4 fp, v3 = .slice A3 x.f3.length c3 ∧ v4 = .slice A4 x.f4.length c4 ∧ Own lo w.heap.size w x (.slice A3 x.f3.length c3) (.slice A4 x.f4.length c4) fp := by
  obtain ⟨fp, ht, hn, hg⟩ := h
  obtain ⟨A3, c3, A4, c4, rfl, rfl, _⟩ := ht.In
  exact ⟨A3, c3, A4, c4, fp, rfl, rfl, ht, hn, hg, ht.lt _, Nat.le_refl _⟩
theorem Own.later {lo hi : Nat} {w W : World} {x : Fm} {v3 v4 : Value} {fp : List Nat} (h : Own lo hi w x v3 v4 fp) (b : Below w.heap.size w W) : Own lo hi W x v3 v4 fp :=
  ⟨h.tree.later b, h.nd, h.lo_, h.hi_, Nat.le_trans h.sz b.size⟩
theorem Own.now {lo hi : Nat} {w : World} {x : Fm} {A3 : Option Addr} {c3 : Nat} {A4 : Option Addr} {c4 : Nat} {fp : List Nat} (h : Own lo hi w x (.slice A3 x.f3.length c3) (.slice A4 x.f4.length c4) fp) : FmIn w x A3 c3 A4 c4 := by
  obtain ⟨B3, d3, B4, d4, e1, e2, hin⟩ := h.tree.In
  injection e1 with a1 _ a2
  injection e2 with a3 _ a4
  subst a1 a2 a3 a4
  exact hin
/-- The blocks of S, from lo on and ahead of hi, and new ones may have changed. -/
structure Mrk (lo hi : Nat) (w w' : World) : Prop where
  ex : ∃ S, Mk S w w' ∧ ∀ b, b ∈ S → lo ≤ b ∧ b < hi
theorem Mrk.blk {lo hi : Nat} {w w' : World} {g : Nat} {O : Obj} (h : Mrk lo hi w w') (hg : w.heap[g]? = some O) (hs : g < lo ∨ hi ≤ g) : w'.heap[g]? = some O := by
  obtain ⟨S, hm, hS⟩ := h.ex
  exact hm.blk hg (fun q => by have := hS g q; omega)
theorem Mrk.below {lo hi B : Nat} {w w' : World} (h : Mrk lo hi w w') (hB : B ≤ w.heap.size) (hl : B ≤ lo) : Below B w w' := by
  obtain ⟨S, hm, hS⟩ := h.ex
  exact hm.below hB (fun b hb => Nat.le_trans hl (hS b hb).1)
theorem Mrk.own {lo hi lo2 hi2 : Nat} {w w' : World} {x : Fm} {v3 v4 : Value} {fp : List Nat} (h : Mrk lo hi w w') (ho : Own lo2 hi2 w x v3 v4 fp) (hd : hi ≤ lo2 ∨ hi2 ≤ lo) : Own lo2 hi2 w' x v3 v4 fp := by
  obtain ⟨S, hm, hS⟩ := h.ex
  exact ⟨hm.tree ho.tree (fun b hb q => by have := hS b q; have := ho.lo_ b hb; have := ho.hi_ b hb; omega), ho.nd, ho.lo_, ho.hi_, Nat.le_trans ho.sz hm.b0.size⟩
theorem Mrk.size {lo hi : Nat} {w w' : World} (h : Mrk lo hi w w') : w.heap.size ≤ w'.heap.size := by
  obtain ⟨S, hm, hS⟩ := h.ex
  exact hm.b0.size
/-- What is returned: a form in new blocks. -/
def GetO1 (w : World) (x : Fm) (e : Ending) (w' : World) : Prop := ∃ A3 c3 A4 c4 fp, e = .returned (.agg #[.int .i64 x.f0, .string x.f1, .int .i64 x.f2, .slice A3 x.f3.length c3, .slice A4 x.f4.length c4]) ∧ Own w.heap.size w'.heap.size w' x (.slice A3 x.f3.length c3) (.slice A4 x.f4.length c4) fp ∧ Below w.heap.size w w'
theorem RetF.getO1 {w : World} {x : Fm} {e : Ending} {w' : World} (h : RetF w x e w') : GetO1 w x e w' := by
  obtain ⟨v3, v4, rfl, hn, hb⟩ := h
  obtain ⟨A3, c3, A4, c4, fp, rfl, rfl, ho⟩ := NewF.own hn
  exact ⟨A3, c3, A4, c4, fp, rfl, ho, hb⟩
theorem toFormO (x : Fm) (A3 : Option Addr) (c3 : Nat) (A4 : Option Addr) (c4 : Nat) (w : World) (hin : FmIn w x A3 c3 A4 c4) (ht : x.tot ≤ 1048576) :
    Calls Try.prog 14 #[.agg #[.int .i64 x.f0, .string x.f1, .int .i64 x.f2, .slice A3 x.f3.length c3, .slice A4 x.f4.length c4]] w (GetO1 w x) :=
  (toForm_any x A3 c3 A4 c4 w hin ht).mono (fun e w' h => h.getO1)
theorem markForm_own {lo hi : Nat} {w : World} {x : Fm} {v3 v4 : Value} {fp : List Nat} (k : Int) (h : Own lo hi w x v3 v4 fp) (hk0 : 1 ≤ k) (hk1 : k + 3 * x.tot ≤ 1000000000) :
    Calls Try.prog 20 #[.agg #[.int .i64 x.f0, .string x.f1, .int .i64 x.f2, v3, v4], .int .i64 k] w (fun e w' => e = .returned (.int .i64 (k + x.cnt)) ∧ Own lo hi w' (x.mark k) v3 v4 fp ∧ Mrk lo hi w w') := by
  have hc := x.cnt_tot
  refine (markForm_any x v3 v4 fp k w h.tree h.nd hk0 (by omega)).mono ?_
  rintro e w' ⟨rfl, ht, hm⟩
  exact ⟨rfl, ⟨ht, h.nd, h.lo_, h.hi_, Nat.le_trans h.sz hm.b0.size⟩, ⟨fp, hm, fun b hb => ⟨h.lo_ b hb, h.hi_ b hb⟩⟩⟩
end Go.Proofs.Ytlklclebjeeaaaa
end
section
namespace Go.Proofs.Ytlklclebjeeaaaa
open Go.RowKit Go.Proofs.YtlklclebjeeaaaaW.PrintWords Go.Proofs.YtlklclebjeeaaaaW.PrintLast Go.Proofs.YtlklclebjeeaaaaW.PrintMore
set_option linter.unusedVariables false
set_option linter.unusedSimpArgs false
/-- A row of numbers in new memory is handed back. -/
def RetI (w : World) (xs : List Int) (e : Ending) (w' : World) : Prop := ∃ v, e = .returned v ∧ kI.R 3 w' w.heap.size (fun _ => True) v xs ∧ Below w.heap.size w w'
end Go.Proofs.Ytlklclebjeeaaaa
end
section
namespace Go.Proofs.Ytlklclebjeeaaaa
open Go.RowKit Go.Proofs.YtlklclebjeeaaaaW.PrintWords Go.Proofs.YtlklclebjeeaaaaW.PrintLast Go.Proofs.YtlklclebjeeaaaaW.PrintMore
set_option linter.unusedVariables false
set_option linter.unusedSimpArgs false
/-- A list of ints whose block lies from lo on and ahead of hi. -/
structure OwnI (lo hi : Nat) (w : World) (v : Value) (xs : List Int) : Prop where
  row : w.ownsRow 0 3 1 v xs.length (encI xs)
  at_ : ∀ b, v.ownBlock = some b → lo ≤ b ∧ b < hi
  sz : hi ≤ w.heap.size
def GetOI (w : World) (xs : List Int) (e : Ending) (w' : World) : Prop := ∃ A c, e = .returned (.slice A xs.length c) ∧ OwnI w.heap.size w'.heap.size w' (.slice A xs.length c) xs ∧ Below w.heap.size w w'
theorem OwnI.now {lo hi : Nat} {w : World} {A : Option Addr} {c : Nat} {xs : List Int} (h : OwnI lo hi w (.slice A xs.length c) xs) : xs.length ≤ c ∧ kI.C w A xs.length xs := by
  obtain ⟨B, d, e, hc, hr⟩ := own_C h.row
  injection e with e1 _ e2
  subst e1 e2
  exact ⟨hc, hr⟩
theorem OwnI.later {lo hi : Nat} {w W : World} {v : Value} {xs : List Int} (h : OwnI lo hi w v xs) (b : Below w.heap.size w W) : OwnI lo hi W v xs :=
  ⟨own_move h.row (fun k hk => b.block k (Nat.lt_of_lt_of_le (h.at_ k hk).2 h.sz)), h.at_, Nat.le_trans h.sz b.size⟩
/-- The list's contents may be another by now. -/
theorem OwnI.move_ {lo hi n : Nat} {w W : World} {A : Option Addr} {c : Nat} {k : Int} (h : OwnI lo hi w (.slice A n c) (markI n k)) (b : Below w.heap.size w W) : OwnI lo hi W (.slice A n c) (markI n k) := h.later b
theorem Mrk.ownI {lo hi lo2 hi2 : Nat} {w w' : World} {v : Value} {xs : List Int} (h : Mrk lo hi w w') (ho : OwnI lo2 hi2 w v xs) (hd : hi ≤ lo2 ∨ hi2 ≤ lo) : OwnI lo2 hi2 w' v xs := by
  obtain ⟨S, hm, hS⟩ := h.ex
  exact ⟨own_move ho.row (fun k hk => hm.keep k (Nat.lt_of_lt_of_le (ho.at_ k hk).2 ho.sz) (fun q => by have := hS k q; have := ho.at_ k hk; omega)), ho.at_, Nat.le_trans ho.sz hm.b0.size⟩
theorem markIntS_own {lo hi : Nat} {w : World} {v : Value} {xs : List Int} (k : Int) (h : OwnI lo hi w v xs) (hk0 : 0 ≤ k) (hk1 : k + xs.length ≤ 1000000000) :
    Calls Try.prog 21 #[v, .int .i64 k] w (fun e w' => e = .returned (.int .i64 (k + xs.length)) ∧ OwnI lo hi w' v (markI xs.length k) ∧ Mrk lo hi w w') := by
  refine (markIntS_any xs v k w (Kd.R_of_own h.row (fun _ _ => trivial)) hk0 hk1).mono ?_
  rintro e w' ⟨rfl, hR, hm⟩
  exact ⟨rfl, ⟨Kd.own_of_R hR, h.at_, Nat.le_trans h.sz hm.b0.size⟩, ⟨_, hm, fun b hb => h.at_ b (obs_mem.1 hb)⟩⟩
theorem heldIntS_own {lo hi : Nat} {w : World} {A : Option Addr} {c n : Nat} (k : Int) (h : OwnI lo hi w (.slice A n c) (markI n k)) (hk0 : 0 ≤ k) (hk1 : k + n ≤ 1000000000) :
    Calls Try.prog 22 #[.slice A n c, .int .i64 k] w (Ret w (.int .i64 (k + n))) := by
  have e : n = (markI n k).length := (markI_length n k).symm
  have h2 : OwnI lo hi w (.slice A (markI n k).length c) (markI n k) := by rw [markI_length]; exact h
  have h3 := h2.now
  rw [markI_length] at h3
  exact heldIntS_any n A c k w h3.2 h3.1 hk0 hk1
end Go.Proofs.Ytlklclebjeeaaaa
end
section
namespace Go.Proofs.Ytlklclebjeeaaaa
open Go.RowKit Go.Proofs.YtlklclebjeeaaaaW.PrintWords Go.Proofs.YtlklclebjeeaaaaW.PrintLast Go.Proofs.YtlklclebjeeaaaaW.PrintMore
set_option linter.unusedVariables false
set_option linter.unusedSimpArgs false
/-- A list of forms in blocks that lie from lo on and ahead of hi. -/
structure OwnL (lo hi : Nat) (w : World) (ks : List Fm) (v : Value) : Prop where
  ex : ∃ inner fp, w.ownsRow 0 34 5 v ks.length inner ∧ TrL w ks inner fp ∧ (obs v ++ fp).Nodup ∧ ∀ b, b ∈ obs v ++ fp → lo ≤ b ∧ b < hi
  sz : hi ≤ w.heap.size
theorem OwnL.now {lo hi : Nat} {w : World} {ks : List Fm} {A : Option Addr} {c : Nat} (h : OwnL lo hi w ks (.slice A ks.length c)) : ks.length ≤ c ∧ kF.C w A ks.length ks := by
  obtain ⟨inner, fp, ho, ht, _⟩ := h.ex
  obtain ⟨B, d, e, hc, hr⟩ := ht.C ho
  injection e with e1 _ e2
  subst e1 e2
  exact ⟨hc, hr⟩
theorem OwnL.later {lo hi : Nat} {w W : World} {ks : List Fm} {v : Value} (h : OwnL lo hi w ks v) (b : Below w.heap.size w W) : OwnL lo hi W ks v := by
  obtain ⟨inner, fp, ho, ht, hn, hg⟩ := h.ex
  exact ⟨⟨inner, fp, own_move ho (fun k hk => b.block k (own_lt ho k hk)), ht.later b, hn, hg⟩, Nat.le_trans h.sz b.size⟩
def GetOL (w : World) (ks : List Fm) (e : Ending) (w' : World) : Prop := ∃ A c, e = .returned (.slice A ks.length c) ∧ OwnL w.heap.size w'.heap.size w' ks (.slice A ks.length c) ∧ Below w.heap.size w w'
theorem toFormSO (ks : List Fm) (A : Option Addr) (c : Nat) (w : World) (hr : kF.C w A ks.length ks) (hc : ks.length ≤ c) (ht : totL ks ≤ 1048576) :
    Calls Try.prog 37 #[.slice A ks.length c] w (GetOL w ks) := by
  refine (toFormS_of ks (fun k _ => toForm_any k) A c w hr hc ht).mono ?_
  rintro e w' ⟨v, rfl, ⟨inner, fp, ho, ht, hn, hg⟩, hb⟩
  obtain ⟨B, d, rfl, _, _⟩ := ht.C ho
  refine ⟨B, d, rfl, ⟨⟨inner, fp, ho, ht, hn, fun b hb2 => ⟨hg b hb2, ?_⟩⟩, Nat.le_refl _⟩, hb⟩
  rcases List.mem_append.1 hb2 with q | q
  · exact own_lt ho b (obs_mem.1 q)
  · exact ht.lt _ b q
theorem markFormS_own {lo hi : Nat} {w : World} {ks : List Fm} {v : Value} (k : Int) (h : OwnL lo hi w ks v) (hk0 : 1 ≤ k) (hk1 : k + 3 * totL ks ≤ 1000000000) :
    Calls Try.prog 42 #[v, .int .i64 k] w (fun e w' => e = .returned (.int .i64 (k + cntL ks)) ∧ Mrk lo hi w w') := by
  obtain ⟨inner, fp, ho, ht, hn, hg⟩ := h.ex
  have hc := cntL_tot ks (fun k _ => k.cnt_tot)
  refine (markFormS_any ks v inner fp k w ho ht hn hk0 (by omega)).mono ?_
  rintro e w' ⟨rfl, _, hm⟩
  exact ⟨rfl, ⟨_, hm, hg⟩⟩
theorem Mrk.ownL {lo hi lo2 hi2 : Nat} {w w' : World} {ks : List Fm} {v : Value} (h : Mrk lo hi w w') (ho : OwnL lo2 hi2 w ks v) (hd : hi ≤ lo2 ∨ hi2 ≤ lo) : OwnL lo2 hi2 w' ks v := by
  obtain ⟨S, hm, hS⟩ := h.ex
  obtain ⟨inner, fp, hr, ht, hn, hg⟩ := ho.ex
  have key : ∀ b, b ∈ obs v ++ fp → w'.heap[b]? = w.heap[b]? := fun b hb => hm.keep b (Nat.lt_of_lt_of_le (hg b hb).2 ho.sz) (fun q => by have := hS b q; have := hg b hb; omega)
  exact ⟨⟨inner, fp, own_move hr (fun k hk => key k (List.mem_append_left _ (obs_mem.2 hk))), ht.move _ (fun b hb => key b (List.mem_append_right _ hb)), hn, hg⟩, Nat.le_trans ho.sz hm.b0.size⟩
end Go.Proofs.Ytlklclebjeeaaaa
end
section
namespace Go.Proofs.Ytlklclebjeeaaaa
open Go.RowKit Go.Proofs.YtlklclebjeeaaaaW.PrintWords Go.Proofs.YtlklclebjeeaaaaW.PrintLast Go.Proofs.YtlklclebjeeaaaaW.PrintMore
set_option linter.unusedVariables false
set_option linter.unusedSimpArgs false
theorem depsRLen (x : Fm) (ls : List Fm) : (depsR x ls).length ≤ x.tot + 1 := by
  unfold depsR
  split
  · have := len_depsF (varB ls) 0 x; have := len_varsF (varB ls) x; omega
  · exact Nat.zero_le _
theorem RowI.ownI {wB w : World} {A : Option Addr} {c : Nat} {xs : List Int} (h : RowI wB w (.slice A xs.length c) xs) : OwnI wB.heap.size w.heap.size w (.slice A xs.length c) xs :=
  ⟨own_weaken h.row (Nat.zero_le _), fun b hb => ⟨h.ge b hb, h.lt b hb⟩, Nat.le_refl _⟩
set_option maxHeartbeats 2000000 in
theorem implVD_own {x : Fm} {ls : List Fm} {l : List Int} (hz : depsR x ls = l) (A3 : Option Addr) (Ac3 : Nat) (A4 : Option Addr) (Ac4 : Nat) (LA : Option Addr) (lc : Nat) (w : World) (hx : FmIn w x A3 Ac3 A4 Ac4) (hr : kF.C w LA ls.length ls) (hc : ls.length ≤ lc) (ht : x.tot ≤ 1048576) (hlt : ∀ y, y ∈ ls → y.tot ≤ 1048576) :
    Calls Try.prog 41 #[.agg #[.int .i64 x.f0, .string x.f1, .int .i64 x.f2, .slice A3 x.f3.length Ac3, .slice A4 x.f4.length Ac4], .slice LA ls.length lc] w (GetOI w l) := by
  subst hz
  have HB := Lib.hid (below_new w (.cells #[.int .i64 x.f0, .string x.f1, .int .i64 x.f2, .slice A3 x.f3.length Ac3, .slice A4 x.f4.length Ac4] 34))
  have HA := Lib.hid (blk_new w (.cells #[.int .i64 x.f0, .string x.f1, .int .i64 x.f2, .slice A3 x.f3.length Ac3, .slice A4 x.f4.length Ac4] 34))
  have HQ := Lib.hid (implPatternValid_any x A3 Ac3 A4 Ac4 ls LA lc _ (hx.below HB.out) (Kd.C_below hr HB.out) hc ht hlt)
  have HN := Lib.hid (fun W hb => varsOf_any x A3 Ac3 A4 Ac4 ls LA lc W (hx.below hb) (Kd.C_below hr hb) hc ht)
  obtain ⟨p0, p1, p2, p3, p4⟩ := fm_cells HA.out
  unfold depsR
  clear hx hr hlt
  cases hz : pB (PatOk x ls) with
  | false =>
    rw [hz] at HQ
    rw [if_neg (by simp)]
    clear hz
    go_enter Try.func41, Try.ntmps41
    go_wp2_with fail
    refine HQ.out.mono ?_
    rintro e w1 ⟨rfl, b⟩
    replace HB := Lib.hid (below_step HB.out b)
    clear b p0 p1 p2 p3 p4
    go_wp2_with fail
    go_ret
    exact ⟨none, 0, rfl, ⟨own_nil _ _ _ _, fun b hb => by simp [Value.ownBlock] at hb, Nat.le_refl _⟩, HB.out⟩
  | true =>
    rw [hz] at HQ
    rw [if_pos rfl]
    clear hz
    go_enter Try.func41, Try.ntmps41
    go_wp2_with fail
    refine HQ.out.mono ?_
    rintro e w1 ⟨rfl, b⟩
    replace HA := Lib.hid (blk_below HA.out b)
    replace HB := Lib.hid (below_step HB.out b)
    clear b p0 p1 p2 p3 p4
    obtain ⟨p0, p1, p2, p3, p4⟩ := fm_cells HA.out
    go_wp2_with fail
    refine (HN.out _ HB.out).mono ?_
    rintro e w5 ⟨vn, vd, rfl, hrn, hrd, hb5⟩
    obtain ⟨VA, vc, rfl, _, _⟩ := hrn.reads hb5
    obtain ⟨DA, dc, rfl, _, _⟩ := hrd.reads
    have HO := Lib.hid hrd.ownI
    have HS := Lib.hid HB.out.size
    replace HB := Lib.hid (below_step HB.out hb5)
    clear hrn hrd hb5 p0 p1 p2 p3 p4
    go_wp2_with fail
    go_ret
    exact ⟨DA, dc, rfl, ⟨HO.out.row, fun b hb => ⟨Nat.le_trans HS.out (HO.out.at_ b hb).1, (HO.out.at_ b hb).2⟩, Nat.le_refl _⟩, HB.out⟩
end Go.Proofs.Ytlklclebjeeaaaa
end
section
namespace Go.Proofs.Ytlklclebjeeaaaa
open Go.RowKit Go.Proofs.YtlklclebjeeaaaaW.PrintWords Go.Proofs.YtlklclebjeeaaaaW.PrintLast Go.Proofs.YtlklclebjeeaaaaW.PrintMore
open Go.ChangeShapes Go.WideShapes Go.ChangeAt Go.Deep
set_option linter.unusedVariables false

section
variable {H : Type} {enc : TypeId × Value → H} {W : World} {held : Bool}
theorem trod_ints (fuel : Nat) (cs : List Value) (y : DataW H × List MemPlace) (h : DataW.trod enc Try.prog W 0 (fun _ => true) held fuel 23 cs = some y) :
    ∃ (A : Option Addr) (c : Nat) (zs : List Int), cs = [.slice A zs.length c] ∧ zs.length ≤ c ∧ kI.C W A zs.length zs := by
  rcases open_slice1 Try.underlying23 (by kernel_rfl) h with ⟨rfl, _⟩ | ⟨a, len, cap, m, n, V, D, Pl, rfl, _, hl, hm, hmm, rfl, hx⟩
  · exact ⟨none, 0, [], rfl, Nat.le_refl _, Kd.C_nil _ _⟩
  · obtain ⟨f, hf⟩ := choose_lt (α := Int) (n := len) (p := fun i z => W.cell? (a.add i) = some (.int .i64 z)) (fun i hi => by
      obtain ⟨h1, h2⟩ := hx i (by rw [hmm]; simp; omega)
      obtain ⟨z, e, _⟩ := DataW.trod_int Try.underlying3 h2
      rw [List.cons.injEq] at e
      exact ⟨z, by rw [h1, e.1]⟩)
    have hlen : ((List.range len).map f).length = len := by simp
    refine ⟨some a, cap, (List.range len).map f, by rw [hlen], by omega, by rw [hlen], by rw [hlen]; unfold maxLen at hm; omega, fun _ => ⟨a, rfl, fun j p hj => ⟨[.int .i64 p], rfl, rfl, fun i u hu => ?_⟩⟩⟩
    have hjl : j < len := by have := (List.getElem?_eq_some_iff.1 hj).1; omega
    have hp : f j = p := by simpa [hjl] using hj
    cases i with
    | zero =>
      have : Value.int .i64 p = u := by simpa using hu
      subst this
      rw [← hp]
      show W.cell? (a.add (j * 1 + 0)) = _
      simpa using hf j hjl
    | succ i => simp at hu
instance : Inhabited Fm := ⟨zFm⟩
theorem len5 {α : Type} {l : List α} (h : l.length = 5) : ∃ a b c d e, l = [a, b, c, d, e] := by
  rcases l with _ | ⟨a, _ | ⟨b, _ | ⟨c, _ | ⟨d, _ | ⟨e, _ | ⟨f, l⟩⟩⟩⟩⟩⟩ <;> simp at h
  exact ⟨a, b, c, d, e, rfl⟩
theorem trod_forms_of (fuel : Nat) (ih : ∀ m, m < fuel → ∀ (cs : List Value) (y : DataW H × List MemPlace), DataW.trod enc Try.prog W 0 (fun _ => true) held m 26 cs = some y → ∃ x, kF.K W x cs ∧ NmSmall x)
    (cs : List Value) (y : DataW H × List MemPlace) (h : DataW.trod enc Try.prog W 0 (fun _ => true) held fuel 24 cs = some y) :
    ∃ (A : Option Addr) (c : Nat) (ks : List Fm), cs = [.slice A ks.length c] ∧ ks.length ≤ c ∧ kF.C W A ks.length ks ∧ ∀ k, k ∈ ks → NmSmall k := by
  rcases DataW.trod_slice Try.underlying24 h with ⟨rfl, _⟩ | ⟨a, len, cap, elems, rest, n, rfl, rfl, rfl, hb, hl, hm, hlen, hel, _, _⟩
  · exact ⟨none, 0, [], rfl, Nat.le_refl _, Kd.C_nil _ _, fun k hk => by cases hk⟩
  · have h5 : Try.prog.cellsOf 26 = 5 := by kernel_rfl
    rw [h5] at hel
    obtain ⟨f, hf⟩ := choose_lt (α := Fm) (n := len) (p := fun i x => (∃ cs', W.cells? 0 (a.add (i * 5)) 5 = some cs' ∧ kF.K W x cs') ∧ NmSmall x) (fun i hi => by
      have h1 := hel i hi
      rw [List.getElem?_eq_getElem (by omega)] at h1
      obtain ⟨cs', h2, h3⟩ := Option.bind_eq_some_iff.1 h1
      obtain ⟨x, hK, hN⟩ := ih n (Nat.lt_succ_self n) cs' _ h3
      exact ⟨x, ⟨cs', h2, hK⟩, hN⟩)
    have hlen2 : ((List.range len).map f).length = len := by simp
    refine ⟨some a, cap, (List.range len).map f, by rw [hlen2], by omega, ⟨by rw [hlen2], by rw [hlen2]; unfold maxLen at hm; omega, fun _ => ⟨a, rfl, fun j p hj => ?_⟩⟩, fun k hk => ?_⟩
    · have hjl : j < len := by have := (List.getElem?_eq_some_iff.1 hj).1; omega
      have hp : f j = p := by simpa [hjl] using hj
      obtain ⟨⟨cs', h2, hK⟩, _⟩ := hf j hjl
      rw [hp] at hK
      obtain ⟨_, h3, h4⟩ := World.cells?_some h2
      refine ⟨cs', h3, hK, fun i u hu => ?_⟩
      have hi : i < 5 := by have := (List.getElem?_eq_some_iff.1 hu).1; omega
      have := h4 i hi
      rw [Deep.add_add, hu] at this
      exact this
    · obtain ⟨j, hj, rfl⟩ := List.mem_map.1 hk
      exact (hf j (List.mem_range.1 hj)).2
set_option maxRecDepth 100000 in
theorem trod_form : ∀ (fuel : Nat) (cs : List Value) (y : DataW H × List MemPlace), DataW.trod enc Try.prog W 0 (fun _ => true) held fuel 26 cs = some y → ∃ x, kF.K W x cs ∧ NmSmall x := by
  intro fuel
  induction fuel using Nat.strongRecOn with
  | _ fuel ih =>
    intro cs y h
    obtain ⟨xs, n, hfu, rfl, hl, hlen, hf⟩ := DataW.trod_struct Try.underlying26 h
    rw [show Try.prog.cellsOf 26 = 5 from by kernel_rfl] at hl
    obtain ⟨c0, c1, c2, c3, c4, rfl⟩ := len5 hl
    obtain ⟨y0, y1, y2, y3, y4, rfl⟩ := len5 (show xs.length = 5 from hlen)
    have f0 := hf 0 _ rfl
    have f1 := hf 1 _ rfl
    have f2 := hf 2 _ rfl
    have f3 := hf 3 _ rfl
    have f4 := hf 4 _ rfl
    simp only [List.getElem_toArray, List.getElem_cons_zero, List.getElem_cons_succ] at f0 f1 f2 f3 f4
    simp only [show Try.prog.cellsOf 3 = 1 from by kernel_rfl, show Try.prog.cellsOf 9 = 1 from by kernel_rfl, show Try.prog.cellsOf 23 = 1 from by kernel_rfl, show Try.prog.cellsOf 24 = 1 from by kernel_rfl, List.drop_succ_cons, List.drop_zero, List.take_succ_cons, List.take_zero, List.getElem?_cons_zero, List.getElem?_cons_succ] at f0 f1 f2 f3 f4
    obtain ⟨z0, e0, _⟩ := DataW.trod_int Try.underlying3 f0
    obtain ⟨s1, e1, _, hs1⟩ := DataW.trod_string Try.underlying9 f1
    obtain ⟨z2, e2, _⟩ := DataW.trod_int Try.underlying3 f2
    obtain ⟨A3, d3, zs, e3, l3, r3⟩ := trod_ints n _ _ f3
    obtain ⟨A4, d4, ks, e4, l4, r4, hN⟩ := trod_forms_of n (fun m hm => ih m (by omega)) _ _ f4
    rw [List.cons.injEq] at e0 e1 e2 e3 e4
    obtain ⟨rfl, _⟩ := e0
    obtain ⟨rfl, _⟩ := e1
    obtain ⟨rfl, _⟩ := e2
    obtain ⟨rfl, _⟩ := e3
    obtain ⟨rfl, _⟩ := e4
    exact ⟨⟨z0, s1, z2, zs, ks⟩, kF_mk (x := ⟨z0, s1, z2, zs, ks⟩) ⟨l3, r3, l4, r4⟩, .mk _ (by unfold maxLen at hs1; exact hs1) hN⟩
set_option maxRecDepth 100000 in
/-- An argument that is a form. -/
theorem open_form {v : Value} {d : DataW H} {p : List MemPlace} (hv : Value.okWide Try.prog W .any 0 26 v) (h : DataW.Trod enc Try.prog W 0 (fun _ => true) held 26 v d p) :
    ∃ (x : Fm) (A3 : Option Addr) (c3 : Nat) (A4 : Option Addr) (c4 : Nat), v = .agg #[.int .i64 x.f0, .string x.f1, .int .i64 x.f2, .slice A3 x.f3.length c3, .slice A4 x.f4.length c4] ∧ FmIn W x A3 c3 A4 c4 ∧ NmSmall x := by
  obtain ⟨cs, rfl, hsz⟩ := okWide_struct Try.underlying26 hv
  obtain ⟨fuel, hf⟩ := h
  obtain ⟨x, hK, hN⟩ := trod_form fuel _ _ hf
  obtain ⟨A3, c3, A4, c4, e, hin⟩ := kF_open hK
  refine ⟨x, A3, c3, A4, c4, ?_, hin, hN⟩
  have e2 : cs.toList = fmC x A3 c3 A4 c4 := by simpa [Value.cells] using e
  have e3 : cs = #[.int .i64 x.f0, .string x.f1, .int .i64 x.f2, .slice A3 x.f3.length c3, .slice A4 x.f4.length c4] := by
    rw [← Array.toArray_toList (xs := cs), e2]
  rw [e3]
set_option maxRecDepth 100000 in
/-- An argument that is a list of forms. -/
theorem open_forms {v : Value} {d : DataW H} {p : List MemPlace} (hv : Value.okWide Try.prog W .any 0 24 v) (h : DataW.Trod enc Try.prog W 0 (fun _ => true) held 24 v d p) :
    ∃ (ks : List Fm) (A : Option Addr) (c : Nat), v = .slice A ks.length c ∧ ks.length ≤ c ∧ kF.C W A ks.length ks ∧ ∀ k, k ∈ ks → NmSmall k := by
  obtain ⟨a0, len, cap, rfl⟩ := okWide_slice Try.underlying24 hv
  obtain ⟨fuel, hf⟩ := h
  obtain ⟨A, c, ks, e, l, r, hN⟩ := trod_forms_of fuel (fun m _ => trod_form m) _ _ hf
  have e2 : Value.slice a0 len cap = Value.slice A ks.length c := by simpa [Value.cells] using e
  exact ⟨ks, A, c, e2, l, r, hN⟩
end
end Go.Proofs.Ytlklclebjeeaaaa
end
