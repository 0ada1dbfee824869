/- Words for the laws' proofs (part 3): contracts of functions, and plain lemmas. -/
import Derived.Deep.RegionHeld3
import Derived.Deep.Slices
import Derived.KernelRfl
import Derived.Lib.RowBridge
import Derived.Lib.SmallJoins
import Derived.OpenShut
import Derived.ProofKit
import Derived.Shelf.Slices.CompactI
import Derived.Shelf.Slices.In.SortNone
import Derived.Shelf.Sort.Plain
import Derived.Sort.OwnSortedInts
import Derived.Test.YtnaefjilcabkoaaProg
import Derived.Test.YtnaefjilcabkoaaKb1
import Derived.Test.YtnaefjilcabkoaaKb2
section
namespace Go.Proofs.Ytnaefjilcabkoaa.Q
open Go.RowKit Go.Proofs.YtnaefjilcabkoaaW.PrintWords Go.Proofs.YtnaefjilcabkoaaW.PrintLast Go.Proofs.YtnaefjilcabkoaaW.PrintMore
attribute [local go_sem] max2_int min2_int max_two min_two max_three min_three max_four min_four   -- for this text's walks alone
set_option linter.unusedVariables false
set_option linter.unusedSimpArgs false

/-! ### spec_l2Put: function 118 -/
noncomputable def spec_l2Put.l0 : Nat → List Int → Int → List Int → Bool → Int → Option (List Int)
  | 0, _, _, _, _, _ => none
  | k + 1, x0, x1, x5, x6, x7 => if x7 < (x0.length : Int) then (if x6 = true then (if 0 ≤ x7 then (if x5.length < 17592186044416 then (spec_l2Put.l0 k x0 x1 (x5 ++ [rd x0 x7]) x6 (wrap64 (x7 + 1))) else (none)) else (none)) else (if 0 ≤ x7 then (if (rd x0 x7) > x1 then (if x5.length < 17592186044416 then ((some (x5 ++ [x1] : List Int)).bind fun y167 => (if y167.length < 17592186044416 then (spec_l2Put.l0 k x0 x1 (y167 ++ [rd x0 x7]) true (wrap64 (x7 + 1))) else (none))) else (none)) else (if x5.length < 17592186044416 then (spec_l2Put.l0 k x0 x1 (x5 ++ [rd x0 x7]) x6 (wrap64 (x7 + 1))) else (none))) else (none))) else (if x6 = true then (some x5) else (if x5.length < 17592186044416 then (some (x5 ++ [x1])) else (none)))
noncomputable def spec_l2Put.f (k : Nat) (l0 : List Int) (a1 : Int) : Option (List Int) := (spec_l2Has.f l0 a1).bind fun t161 => (spec_l2Put.l0 k l0 a1 (([] : List Int)) t161 0)
theorem spec_l2Put.mono_l : ∀ k, (∀ y0 y1 y2 y3 y4, LeO (spec_l2Put.l0 k y0 y1 y2 y3 y4) (spec_l2Put.l0 (k + 1) y0 y1 y2 y3 y4))
  | 0 => fun _ _ _ _ _ r h => by simp [spec_l2Put.l0] at h
  | k + 1 => by
    have ih0 := spec_l2Put.mono_l k
    · intro y0 y1 y2 y3 y4
      unfold spec_l2Put.l0
      repeat' first
      | (with_reducible exact ih0 _ _ _ _ _)
      | (with_reducible exact LeO.refl _)
      | (with_reducible exact LeO.none _)
      | (with_reducible refine LeO.ite ?_ ?_)
      | (with_reducible refine LeO.bind ?_ (fun _ => ?_))
      | exact ih0 _ _ _ _ _
      | exact LeO.none _
      | refine LeO.ite ?_ ?_
      | refine LeO.bind ?_ (fun _ => ?_)
theorem spec_l2Put.mono : ∀ a0 a1 k, LeO (spec_l2Put.f k a0 a1) (spec_l2Put.f (k + 1) a0 a1) := by
  intro a0 a1 k
  have ih0 := spec_l2Put.mono_l k
  unfold spec_l2Put.f
  repeat' first
      | (with_reducible exact ih0 _ _ _ _ _)
      | (with_reducible exact LeO.refl _)
      | (with_reducible exact LeO.none _)
      | (with_reducible refine LeO.ite ?_ ?_)
      | (with_reducible refine LeO.bind ?_ (fun _ => ?_))
      | exact ih0 _ _ _ _ _
      | exact LeO.none _
      | refine LeO.ite ?_ ?_
      | refine LeO.bind ?_ (fun _ => ?_)
set_option maxHeartbeats 8000000 in
set_option maxRecDepth 100000 in
theorem spec_l2Put.calls (k : Nat) (A0 : Option Addr) (c0 : Nat) (l0 : List Int) (a1 : Int) (r : List Int) (w : World) (hr0 : Kd.C (Kd.int .i64) w A0 l0.length l0) (hc0 : l0.length ≤ c0) (h : spec_l2Put.f k l0 a1 = some r) :
    Calls Try.prog 118 #[.slice A0 l0.length c0, .int .i64 a1] w fun e w' => ∃ v0_ : Value, e = .returned (v0_) ∧ Kd.R (Kd.int .i64) 3 w' w.heap.size (fun _ => True) v0_ r ∧ Below w.heap.size w w' := by
  have HR0 := Aside0.mk hr0
  have HC0 := Aside0.mk hc0
  clear hr0 hc0
  have HB := Aside0.mk (Below.refl w.heap.size w)
  have H : ((spec_l2Has.f l0 a1).bind fun t161 => (spec_l2Put.l0 k l0 a1 (([] : List Int)) t161 0)) = some r := h
  clear h
  obtain ⟨y158, hy158⟩ : ∃ y_ : List Int, y_ = (([] : List Int)) := ⟨_, rfl⟩
  replace H : ((spec_l2Has.f l0 a1).bind fun t161 => (spec_l2Put.l0 k l0 a1 y158 t161 0)) = some r := by first | (rw [hy158]; with_reducible exact H) | (have H2_ := (Option.bind_some _ _).symm.trans H; rw [hy158]; with_reducible exact H2_) | (have H2_ := (Option.bind_some _ _).symm.trans H; with_reducible exact H2_) | with_reducible exact H | (rw [hy158]; exact H) | exact H
  have Ny158 := Aside0.mk hy158
  clear hy158
  replace H := Option.bind_eq_some_iff.mp H
  obtain ⟨t161, A30, H⟩ := H
  replace H : (spec_l2Put.l0 k l0 a1 y158 t161 0) = some r := H
  have A3 := Aside0.mk A30
  clear A30
  have H' := Aside0.mk H
  clear H
  go_enter Try.func118, Try.ntmps118
  go_wp2_with (first | ((with_reducible refine gate_dst (N := 8) rfl ?_); refine Kd.R_lit (Kd.int .i64) _ 3 ?hg (N := 8) ?hd (xs := ([] : List Int)) (inner := []) (ok := fun _ => True) (okp := fun _ => True) ?hr ?hp (fun _ hk => hk) trivial (Below.refl _ _) (Nat.le_refl _) (by simp) ?_; (case hd => rfl); (case hg => rfl); (case hr => first | (go_simp; done) | (go_simp; rfl)); (case hp => exact (Reps.none _ _)); intro v159 w4 ho5 hb hg_ hnew_; clear hg_ hnew_; (first | rw [← Ny158.out] at ho5 | (simp only [Int.reduceToNat] at ho5; rw [← Ny158.out] at ho5)); have n0_ := Aside0.mk (Kd.R_lower ho5 (below_size (by repeat (first | (with_reducible first | exact HB.out | apply below_alloc | apply pw_below_drewN | apply below_drew1) | exact HB.out)))); have n1_ := Aside0.mk (below_step (by repeat (first | (with_reducible first | exact HB.out | apply below_alloc | apply pw_below_drewN | apply below_drew1) | exact HB.out)) hb); clear HB; have HO160 := n0_; have HB := n1_; clear n0_ n1_; clear hb ho5) | ((with_reducible refine gate_callee (f := 116) rfl ?_); refine goesL_ (some 11) rfl rfl Try.func116 (by kernel_rfl) rfl #[.slice A0 l0.length c0, .int .i64 a1] rfl (by (try simp only [List.map_toArray, List.map_cons, List.map_nil]); first | done | rfl | (simp only [List.length_drop, List.length_take]; rfl)) ?_; (with_reducible refine (spec_l2Has.calls _ _ l0 a1 t161 _ ?side1 ?side2 A3.out).mono ?_); (case side1 => repeat (first | exact (Kd.C_below HR0.out HB.out) | (with_reducible refine Kd.C_alloc ?_ _) | (with_reducible refine Kd.C_drewN ?_ _) | (with_reducible refine Kd.C_drew ?_))); (case side2 => exact HC0.out); rintro e w6 ⟨rfl, hb⟩; refine ⟨_, rfl, ?_⟩; have n0_ := Aside0.mk (Kd.R_below (by (with_reducible repeat (first | apply Kd.R_alloc | apply Kd.R_drewN | apply Kd.R_drew)); exact HO160.out) hb); have n1_ := Aside0.mk (below_step (by repeat (first | (with_reducible first | exact HB.out | apply below_alloc | apply pw_below_drewN | apply below_drew1) | exact HB.out)) hb); clear HO160; clear HB; have HO160 := n0_; have HB := n1_; clear n0_ n1_; (try clear hb); (try clear hb2); (try clear hk); (try clear hi)))
  go_loopg [5, 6, 7] k (fun kq v5 v6 v7 w' => ∃ (x5_1 : List Int) (x6_1 : Bool) (x7_1 : Int), v6 = .bool x6_1 ∧ v7 = .int .i64 x7_1 ∧ Aside0 (spec_l2Put.l0 kq l0 a1 x5_1 x6_1 x7_1 = some r) ∧ Aside0 (kq ≤ k) ∧ Aside0 (Kd.R (Kd.int .i64) 3 w' w.heap.size (fun _ => True) v5 x5_1) ∧ Aside0 (Below w.heap.size w w'))
  case atStart => exact ⟨(y158), (t161), (0), (by first | rfl | (simp; done) | (simp [*]; done)), (by first | rfl | (simp; done) | (simp [*]; done)), H', ⟨Nat.le_refl _⟩, ⟨by (with_reducible repeat (first | apply Kd.R_alloc | apply Kd.R_drewN | apply Kd.R_drew)); exact HO160.out⟩, ⟨by repeat (first | (with_reducible first | exact HB.out | apply below_alloc | apply pw_below_drewN | apply below_drew1) | exact HB.out)⟩⟩
  case round =>
    clear H'
    try clear c1
    try clear p2
    obtain ⟨x5_1, x6_1, x7_1, rfl, rfl, HA, HK1, HO_5, HB⟩ := hrel
    cases gk with
    | zero => exact absurd HA.out (by simp [spec_l2Put.l0])
    | succ k1 =>
      have H := HA.out
      clear HA
      simp only [spec_l2Put.l0] at H
      by_cases c7 : x7_1 < (l0.length : Int)
      · rw [if_pos c7] at H
        have c7b0 : decide (x7_1 < (l0.length : Int)) = true := decide_eq_true c7
        clear c7
        by_cases c8 : x6_1 = true
        · subst c8
          have H1 : (if 0 ≤ x7_1 then (if x5_1.length < 17592186044416 then (spec_l2Put.l0 k1 l0 a1 (x5_1 ++ [rd l0 x7_1]) true (wrap64 (x7_1 + 1))) else (none)) else (none)) = some r := by rw [if_pos rfl] at H; exact H
          clear H
          have H := H1
          clear H1
          by_cases c9 : 0 ≤ x7_1
          · rw [if_pos c9] at H
            have c9b0 : decide (0 ≤ x7_1) = true := decide_eq_true c9
            clear c9
            by_cases c10 : x5_1.length < 17592186044416
            · rw [if_pos c10] at H
              have LMc10 := Aside0.mk c10
              clear c10
              obtain ⟨y163, hy163⟩ : ∃ y_ : List Int, y_ = (x5_1 ++ [rd l0 x7_1]) := ⟨_, rfl⟩
              replace H : (spec_l2Put.l0 k1 l0 a1 y163 true (wrap64 (x7_1 + 1))) = some r := by first | (rw [hy163]; with_reducible exact H) | (have H2_ := (Option.bind_some _ _).symm.trans H; rw [hy163]; with_reducible exact H2_) | (have H2_ := (Option.bind_some _ _).symm.trans H; with_reducible exact H2_) | with_reducible exact H | (rw [hy163]; exact H) | exact H
              have Ny163 := Aside0.mk hy163
              clear hy163
              have H' := Aside0.mk H
              clear H
              have p162 : 0 ≤ (x7_1 : Int) := of_decide_eq_true (by first | (with_reducible assumption) | assumption)
              have q162 : x7_1 < (l0.length : Int) := of_decide_eq_true (by first | (with_reducible assumption) | assumption)
              obtain ⟨ad162, e162, hx162_0⟩ := Kd.at_int HR0.out x7_1 p162 q162
              cases e162
              replace hx162_0 := (HB.out.cell (World.block_lt_of_cell? w _ hx162_0)).trans hx162_0
              replace p162 := eq_true p162
              replace q162 := eq_true q162
              go_wp2_with (first | ((with_reducible refine gate_builtin (b := .append) (xs := #[.tmp 32, .tmp 37]) rfl ?_); at_builtin; refine Kd.R_append (Kd.int .i64) (w0 := w) w.heap.size rfl (.tmp 32) (.tmp 37) 22 3 (.int .i64 0) 8 rfl Try.underlying22 info3 rfl (by decide) (by omega) u5 x5_1 (rd l0 x7_1) [.int .i64 (rd l0 x7_1)] (fun _ => True) (fun _ => False) rfl rfl ?aP (fun _ hk => hk.elim) ?aF ?aO ?aB ?aS ?aL ?_; (case aP => exact rfl); (case aB => exact (by repeat (first | (with_reducible first | exact HB.out | apply below_alloc | apply pw_below_drewN | apply below_drew1) | exact HB.out))); (case aF => exact (fun _ _ => trivial)); (case aO => exact (by (with_reducible repeat (first | apply Kd.R_alloc | apply Kd.R_drewN | apply Kd.R_drew)); exact HO_5.out)); (case aS => exact (below_size (by repeat (first | (with_reducible first | exact HB.out | apply below_alloc | apply pw_below_drewN | apply below_drew1) | exact HB.out)))); (case aL => have := LMc10.out; omega); intro v164 w11 ho hb hg hat; rw [← Ny163.out] at ho; have n0_ := Aside0.mk (hb); have n1_ := Aside0.mk (ho); clear HB; clear HO_5; have HB := n0_; have HO165 := n1_; clear n0_ n1_; clear ho hb hg hat))
              go_roundg k1
              case measure => have := HK1.out; omega
              case rel => exact ⟨(y163), (true), (wrap64 (x7_1 + 1)), (by first | rfl | (simp; done) | (simp [*]; done)), (by first | rfl | (simp; done) | (simp [*]; done)), H', ⟨by have := HK1.out; omega⟩, ⟨by (with_reducible repeat (first | apply Kd.R_alloc | apply Kd.R_drewN | apply Kd.R_drew)); exact HO165.out⟩, ⟨by repeat (first | (with_reducible first | exact HB.out | apply below_alloc | apply pw_below_drewN | apply below_drew1) | exact HB.out)⟩⟩
            · rw [if_neg c10] at H
              exact absurd H (by simp)
          · rw [if_neg c9] at H
            exact absurd H (by simp)
        · replace c8 := Bool.eq_false_iff.mpr c8
          subst c8
          have H1 : (if 0 ≤ x7_1 then (if (rd l0 x7_1) > a1 then (if x5_1.length < 17592186044416 then ((some (x5_1 ++ [a1] : List Int)).bind fun y167 => (if y167.length < 17592186044416 then (spec_l2Put.l0 k1 l0 a1 (y167 ++ [rd l0 x7_1]) true (wrap64 (x7_1 + 1))) else (none))) else (none)) else (if x5_1.length < 17592186044416 then (spec_l2Put.l0 k1 l0 a1 (x5_1 ++ [rd l0 x7_1]) false (wrap64 (x7_1 + 1))) else (none))) else (none)) = some r := by rw [if_neg (show ¬ (false = true) by decide)] at H; exact H
          clear H
          have H := H1
          clear H1
          by_cases c12 : 0 ≤ x7_1
          · rw [if_pos c12] at H
            have c12b0 : decide (0 ≤ x7_1) = true := decide_eq_true c12
            clear c12
            by_cases c13 : (rd l0 x7_1) > a1
            · rw [if_pos c13] at H
              have c13b0 : decide (a1 < (rd l0 x7_1)) = true := decide_eq_true c13
              clear c13
              by_cases c14 : x5_1.length < 17592186044416
              · rw [if_pos c14] at H
                have LMc14 := Aside0.mk c14
                clear c14
                obtain ⟨y167, hy167⟩ : ∃ y_ : List Int, y_ = (x5_1 ++ [a1]) := ⟨_, rfl⟩
                replace H : (if y167.length < 17592186044416 then (spec_l2Put.l0 k1 l0 a1 (y167 ++ [rd l0 x7_1]) true (wrap64 (x7_1 + 1))) else (none)) = some r := by first | (rw [hy167]; with_reducible exact H) | (have H2_ := (Option.bind_some _ _).symm.trans H; rw [hy167]; with_reducible exact H2_) | (have H2_ := (Option.bind_some _ _).symm.trans H; with_reducible exact H2_) | with_reducible exact H | (rw [hy167]; exact H) | exact H
                have Ny167 := Aside0.mk hy167
                clear hy167
                by_cases c15 : y167.length < 17592186044416
                · rw [if_pos c15] at H
                  have LMc15 := Aside0.mk c15
                  clear c15
                  obtain ⟨y171, hy171⟩ : ∃ y_ : List Int, y_ = (y167 ++ [rd l0 x7_1]) := ⟨_, rfl⟩
                  replace H : (spec_l2Put.l0 k1 l0 a1 y171 true (wrap64 (x7_1 + 1))) = some r := by first | (rw [hy171]; with_reducible exact H) | (have H2_ := (Option.bind_some _ _).symm.trans H; rw [hy171]; with_reducible exact H2_) | (have H2_ := (Option.bind_some _ _).symm.trans H; with_reducible exact H2_) | with_reducible exact H | (rw [hy171]; exact H) | exact H
                  have Ny171 := Aside0.mk hy171
                  clear hy171
                  have H' := Aside0.mk H
                  clear H
                  have p166 : 0 ≤ (x7_1 : Int) := of_decide_eq_true (by first | (with_reducible assumption) | assumption)
                  have q166 : x7_1 < (l0.length : Int) := of_decide_eq_true (by first | (with_reducible assumption) | assumption)
                  obtain ⟨ad166, e166, hx166_0⟩ := Kd.at_int HR0.out x7_1 p166 q166
                  cases e166
                  replace hx166_0 := (HB.out.cell (World.block_lt_of_cell? w _ hx166_0)).trans hx166_0
                  replace p166 := eq_true p166
                  replace q166 := eq_true q166
                  go_wp2_with (first | ((with_reducible refine gate_builtin (b := .append) (xs := #[.tmp 28, .tmp 30]) rfl ?_); at_builtin; refine Kd.R_append (Kd.int .i64) (w0 := w) w.heap.size rfl (.tmp 28) (.tmp 30) 22 3 (.int .i64 0) 8 rfl Try.underlying22 info3 rfl (by decide) (by omega) u5 x5_1 a1 [.int .i64 a1] (fun _ => True) (fun _ => False) rfl rfl ?aP (fun _ hk => hk.elim) ?aF ?aO ?aB ?aS ?aL ?_; (case aP => exact rfl); (case aB => exact (by repeat (first | (with_reducible first | exact HB.out | apply below_alloc | apply pw_below_drewN | apply below_drew1) | exact HB.out))); (case aF => exact (fun _ _ => trivial)); (case aO => exact (by (with_reducible repeat (first | apply Kd.R_alloc | apply Kd.R_drewN | apply Kd.R_drew)); exact HO_5.out)); (case aS => exact (below_size (by repeat (first | (with_reducible first | exact HB.out | apply below_alloc | apply pw_below_drewN | apply below_drew1) | exact HB.out)))); (case aL => have := LMc14.out; omega); intro v168 w16 ho hb hg hat; rw [← Ny167.out] at ho; have n0_ := Aside0.mk (hb); have n1_ := Aside0.mk (ho); clear HB; clear HO_5; have HB := n0_; have HO169 := n1_; clear n0_ n1_; clear ho hb hg hat; have p170 : 0 ≤ (x7_1 : Int) := of_decide_eq_true (by first | (with_reducible assumption) | assumption); have q170 : x7_1 < (l0.length : Int) := of_decide_eq_true (by first | (with_reducible assumption) | assumption); obtain ⟨ad170, e170, hx170_0⟩ := Kd.at_int HR0.out x7_1 p170 q170; obtain rfl : ad166 = ad170 := (by injection e170); replace hx170_0 := (HB.out.cell (World.block_lt_of_cell? w _ hx170_0)).trans hx170_0; replace p170 := eq_true p170; replace q170 := eq_true q170) | ((with_reducible refine gate_builtin (b := .append) (xs := #[.tmp 32, .tmp 37]) rfl ?_); at_builtin; refine Kd.R_append (Kd.int .i64) (w0 := w) w.heap.size rfl (.tmp 32) (.tmp 37) 22 3 (.int .i64 0) 8 rfl Try.underlying22 info3 rfl (by decide) (by omega) v168 y167 (rd l0 x7_1) [.int .i64 (rd l0 x7_1)] (fun _ => True) (fun _ => False) rfl rfl ?aP (fun _ hk => hk.elim) ?aF ?aO ?aB ?aS ?aL ?_; (case aP => exact rfl); (case aB => exact (by repeat (first | (with_reducible first | exact HB.out | apply below_alloc | apply pw_below_drewN | apply below_drew1) | exact HB.out))); (case aF => exact (fun _ _ => trivial)); (case aO => exact (by (with_reducible repeat (first | apply Kd.R_alloc | apply Kd.R_drewN | apply Kd.R_drew)); exact HO169.out)); (case aS => exact (below_size (by repeat (first | (with_reducible first | exact HB.out | apply below_alloc | apply pw_below_drewN | apply below_drew1) | exact HB.out)))); (case aL => have := LMc15.out; omega); intro v172 w17 ho hb hg hat; rw [← Ny171.out] at ho; have n0_ := Aside0.mk (hb); have n1_ := Aside0.mk (ho); clear HB; clear HO169; have HB := n0_; have HO173 := n1_; clear n0_ n1_; clear ho hb hg hat))
                  go_roundg k1
                  case measure => have := HK1.out; omega
                  case rel => exact ⟨(y171), (true), (wrap64 (x7_1 + 1)), (by first | rfl | (simp; done) | (simp [*]; done)), (by first | rfl | (simp; done) | (simp [*]; done)), H', ⟨by have := HK1.out; omega⟩, ⟨by (with_reducible repeat (first | apply Kd.R_alloc | apply Kd.R_drewN | apply Kd.R_drew)); exact HO173.out⟩, ⟨by repeat (first | (with_reducible first | exact HB.out | apply below_alloc | apply pw_below_drewN | apply below_drew1) | exact HB.out)⟩⟩
                · rw [if_neg c15] at H
                  exact absurd H (by simp)
              · rw [if_neg c14] at H
                exact absurd H (by simp)
            · rw [if_neg c13] at H
              have c13b0 : decide (a1 < (rd l0 x7_1)) = false := decide_eq_false c13
              clear c13
              by_cases c18 : x5_1.length < 17592186044416
              · rw [if_pos c18] at H
                have LMc18 := Aside0.mk c18
                clear c18
                obtain ⟨y175, hy175⟩ : ∃ y_ : List Int, y_ = (x5_1 ++ [rd l0 x7_1]) := ⟨_, rfl⟩
                replace H : (spec_l2Put.l0 k1 l0 a1 y175 false (wrap64 (x7_1 + 1))) = some r := by first | (rw [hy175]; with_reducible exact H) | (have H2_ := (Option.bind_some _ _).symm.trans H; rw [hy175]; with_reducible exact H2_) | (have H2_ := (Option.bind_some _ _).symm.trans H; with_reducible exact H2_) | with_reducible exact H | (rw [hy175]; exact H) | exact H
                have Ny175 := Aside0.mk hy175
                clear hy175
                have H' := Aside0.mk H
                clear H
                have p166 : 0 ≤ (x7_1 : Int) := of_decide_eq_true (by first | (with_reducible assumption) | assumption)
                have q166 : x7_1 < (l0.length : Int) := of_decide_eq_true (by first | (with_reducible assumption) | assumption)
                obtain ⟨ad166, e166, hx166_0⟩ := Kd.at_int HR0.out x7_1 p166 q166
                cases e166
                replace hx166_0 := (HB.out.cell (World.block_lt_of_cell? w _ hx166_0)).trans hx166_0
                replace p166 := eq_true p166
                replace q166 := eq_true q166
                have p174 : 0 ≤ (x7_1 : Int) := of_decide_eq_true (by first | (with_reducible assumption) | assumption)
                have q174 : x7_1 < (l0.length : Int) := of_decide_eq_true (by first | (with_reducible assumption) | assumption)
                obtain ⟨ad174, e174, hx174_0⟩ := Kd.at_int HR0.out x7_1 p174 q174
                obtain rfl : ad166 = ad174 := (by injection e174)
                replace hx174_0 := (HB.out.cell (World.block_lt_of_cell? w _ hx174_0)).trans hx174_0
                replace p174 := eq_true p174
                replace q174 := eq_true q174
                go_wp2_with (first | ((with_reducible refine gate_builtin (b := .append) (xs := #[.tmp 32, .tmp 37]) rfl ?_); at_builtin; refine Kd.R_append (Kd.int .i64) (w0 := w) w.heap.size rfl (.tmp 32) (.tmp 37) 22 3 (.int .i64 0) 8 rfl Try.underlying22 info3 rfl (by decide) (by omega) u5 x5_1 (rd l0 x7_1) [.int .i64 (rd l0 x7_1)] (fun _ => True) (fun _ => False) rfl rfl ?aP (fun _ hk => hk.elim) ?aF ?aO ?aB ?aS ?aL ?_; (case aP => exact rfl); (case aB => exact (by repeat (first | (with_reducible first | exact HB.out | apply below_alloc | apply pw_below_drewN | apply below_drew1) | exact HB.out))); (case aF => exact (fun _ _ => trivial)); (case aO => exact (by (with_reducible repeat (first | apply Kd.R_alloc | apply Kd.R_drewN | apply Kd.R_drew)); exact HO_5.out)); (case aS => exact (below_size (by repeat (first | (with_reducible first | exact HB.out | apply below_alloc | apply pw_below_drewN | apply below_drew1) | exact HB.out)))); (case aL => have := LMc18.out; omega); intro v176 w19 ho hb hg hat; rw [← Ny175.out] at ho; have n0_ := Aside0.mk (hb); have n1_ := Aside0.mk (ho); clear HB; clear HO_5; have HB := n0_; have HO177 := n1_; clear n0_ n1_; clear ho hb hg hat))
                go_roundg k1
                case measure => have := HK1.out; omega
                case rel => exact ⟨(y175), (false), (wrap64 (x7_1 + 1)), (by first | rfl | (simp; done) | (simp [*]; done)), (by first | rfl | (simp; done) | (simp [*]; done)), H', ⟨by have := HK1.out; omega⟩, ⟨by (with_reducible repeat (first | apply Kd.R_alloc | apply Kd.R_drewN | apply Kd.R_drew)); exact HO177.out⟩, ⟨by repeat (first | (with_reducible first | exact HB.out | apply below_alloc | apply pw_below_drewN | apply below_drew1) | exact HB.out)⟩⟩
              · rw [if_neg c18] at H
                exact absurd H (by simp)
          · rw [if_neg c12] at H
            exact absurd H (by simp)
      · rw [if_neg c7] at H
        have c7b0 : decide (x7_1 < (l0.length : Int)) = false := decide_eq_false c7
        clear c7
        by_cases c20 : x6_1 = true
        · subst c20
          have H1 : (some x5_1) = some r := by rw [if_pos rfl] at H; exact H
          clear H
          have H := H1
          clear H1
          obtain rfl := Option.some.inj H
          go_wp2
          go_ret
          exact ⟨_, by first | rfl | (simp [errW_none, errW_some] <;> rfl) | (simp [*, errW_none, errW_some] <;> rfl), by (with_reducible repeat (first | apply Kd.R_alloc | apply Kd.R_drewN | apply Kd.R_drew)); exact HO_5.out, by repeat (first | (with_reducible first | exact HB.out | apply below_alloc | apply pw_below_drewN | apply below_drew1) | exact HB.out)⟩
        · replace c20 := Bool.eq_false_iff.mpr c20
          subst c20
          have H1 : (if x5_1.length < 17592186044416 then (some (x5_1 ++ [a1])) else (none)) = some r := by rw [if_neg (show ¬ (false = true) by decide)] at H; exact H
          clear H
          have H := H1
          clear H1
          by_cases c21 : x5_1.length < 17592186044416
          · rw [if_pos c21] at H
            have LMc21 := Aside0.mk c21
            clear c21
            obtain ⟨y178, hy178⟩ : ∃ y_ : List Int, y_ = (x5_1 ++ [a1]) := ⟨_, rfl⟩
            replace H : (some y178) = some r := by first | (rw [hy178]; with_reducible exact H) | (have H2_ := (Option.bind_some _ _).symm.trans H; rw [hy178]; with_reducible exact H2_) | (have H2_ := (Option.bind_some _ _).symm.trans H; with_reducible exact H2_) | with_reducible exact H | (rw [hy178]; exact H) | exact H
            have Ny178 := Aside0.mk hy178
            clear hy178
            obtain rfl := Option.some.inj H
            go_wp2_with (first | ((with_reducible refine gate_builtin (b := .append) (xs := #[.tmp 41, .tmp 43]) rfl ?_); at_builtin; refine Kd.R_append (Kd.int .i64) (w0 := w) w.heap.size rfl (.tmp 41) (.tmp 43) 22 3 (.int .i64 0) 8 rfl Try.underlying22 info3 rfl (by decide) (by omega) u5 x5_1 a1 [.int .i64 a1] (fun _ => True) (fun _ => False) rfl rfl ?aP (fun _ hk => hk.elim) ?aF ?aO ?aB ?aS ?aL ?_; (case aP => exact rfl); (case aB => exact (by repeat (first | (with_reducible first | exact HB.out | apply below_alloc | apply pw_below_drewN | apply below_drew1) | exact HB.out))); (case aF => exact (fun _ _ => trivial)); (case aO => exact (by (with_reducible repeat (first | apply Kd.R_alloc | apply Kd.R_drewN | apply Kd.R_drew)); exact HO_5.out)); (case aS => exact (below_size (by repeat (first | (with_reducible first | exact HB.out | apply below_alloc | apply pw_below_drewN | apply below_drew1) | exact HB.out)))); (case aL => have := LMc21.out; omega); intro v179 w22 ho hb hg hat; rw [← Ny178.out] at ho; have n0_ := Aside0.mk (hb); have n1_ := Aside0.mk (ho); clear HB; clear HO_5; have HB := n0_; have HO180 := n1_; clear n0_ n1_; clear ho hb hg hat))
            go_ret
            exact ⟨_, by first | rfl | (simp [errW_none, errW_some] <;> rfl) | (simp [*, errW_none, errW_some] <;> rfl), by (with_reducible repeat (first | apply Kd.R_alloc | apply Kd.R_drewN | apply Kd.R_drew)); exact HO180.out, by repeat (first | (with_reducible first | exact HB.out | apply below_alloc | apply pw_below_drewN | apply below_drew1) | exact HB.out)⟩
          · rw [if_neg c21] at H
            exact absurd H (by simp)

/-! ### impl_isName: function 76 -/
noncomputable def impl_isName.f (a0_0 : Int) (a0_1 : ByteArray) (a0_2 : Int) (l0_3 : List Int) (l0_4 : List (S29)) : Option (Bool) := if a0_0 = 1 then ((impl_FormValid.f a0_0 a0_1 a0_2 l0_3 l0_4).bind fun t193 => (some t193)) else (some false)
set_option maxHeartbeats 8000000 in
set_option maxRecDepth 100000 in
theorem impl_isName.calls (a0_0 : Int) (a0_1 : ByteArray) (a0_2 : Int) (A0_3 : Option Addr) (c0_3 : Nat) (l0_3 : List Int) (A0_4 : Option Addr) (c0_4 : Nat) (l0_4 : List (S29)) (r : Bool) (w : World) (hr0_3 : Kd.C (Kd.int .i64) w A0_3 l0_3.length l0_3) (hc0_3 : l0_3.length ≤ c0_3) (hr0_4 : Kd.C k29 w A0_4 l0_4.length l0_4) (hc0_4 : l0_4.length ≤ c0_4) (h : impl_isName.f a0_0 a0_1 a0_2 l0_3 l0_4 = some r) :
    Calls Try.prog 76 #[.agg #[.int .i64 a0_0, .string a0_1, .int .i64 a0_2, .slice A0_3 l0_3.length c0_3, .slice A0_4 l0_4.length c0_4]] w fun e w' => e = .returned (.bool r) ∧ Below w.heap.size w w' := by
  have hu29 := Try.underlying29
  have HR0_3 := Aside0.mk hr0_3
  have HC0_3 := Aside0.mk hc0_3
  clear hr0_3 hc0_3
  have HR0_4 := Aside0.mk hr0_4
  have HC0_4 := Aside0.mk hc0_4
  clear hr0_4 hc0_4
  have HB := Aside0.mk (Below.refl w.heap.size w)
  have H : (if a0_0 = 1 then ((impl_FormValid.f a0_0 a0_1 a0_2 l0_3 l0_4).bind fun t193 => (some t193)) else (some false)) = some r := h
  clear h
  by_cases c2 : a0_0 = 1
  · rw [if_pos c2] at H
    have c2b0 : (a0_0 == 1) = true := beq_iff_eq.mpr c2
    have c2b1 : (a0_0 != 1) = false := bne_eq_false_iff_eq.mpr c2
    clear c2
    replace H := Option.bind_eq_some_iff.mp H
    obtain ⟨t193, A30, H⟩ := H
    replace H : (some t193) = some r := H
    have A3 := Aside0.mk A30
    clear A30
    obtain rfl := Option.some.inj H
    go_enter Try.func76, Try.ntmps76
    go_wp2_with (first | ((with_reducible refine gate_dst (N := 1) rfl ?_); refine box_event ?hg (N := 1) ?hd (cs := #[.int .i64 a0_0, .string a0_1, .int .i64 a0_2, .slice A0_3 l0_3.length c0_3, .slice A0_4 l0_4.length c0_4]) (t := 29) ?hr ?_; (case hd => rfl); (case hg => rfl); (case hr => first | (go_simp; done) | (go_simp; rfl)); intro gb192 hg w4 hbox hb; have n0_ := Aside0.mk (below_step (by repeat (first | (with_reducible first | exact HB.out | apply below_alloc | apply pw_below_drewN | apply below_drew1) | exact HB.out)) hb); have n1_ := Aside0.mk (hbox); have n2_ := Aside0.mk ((by rw [hg]; exact (below_size (by repeat (first | (with_reducible first | exact HB.out | apply below_alloc | apply pw_below_drewN | apply below_drew1) | exact HB.out))) : w.heap.size ≤ gb192)); have n3_ := Aside0.mk ((by rw [hg]; exact (below_size (by repeat (first | (with_reducible first | exact HB.out | apply below_alloc | apply pw_below_drewN | apply below_drew1) | exact HB.out))) : w.heap.size ≤ gb192)); clear HB; have HB := n0_; have BK192 := n1_; have GW192 := n2_; have GE192 := n3_; clear n0_ n1_ n2_ n3_; clear hb hbox hg; have hcz5_0 : w4.cell? ⟨gb192, 0, none⟩ = some (.int .i64 a0_0) := (blk_cell BK192.out 0).trans rfl; have hcz5_1 : w4.cell? ⟨gb192, 1, none⟩ = some (.string a0_1) := (blk_cell BK192.out 1).trans rfl; have hcz5_2 : w4.cell? ⟨gb192, 2, none⟩ = some (.int .i64 a0_2) := (blk_cell BK192.out 2).trans rfl; have hcz5_3 : w4.cell? ⟨gb192, 3, none⟩ = some (.slice A0_3 l0_3.length c0_3) := (blk_cell BK192.out 3).trans rfl; have hcz5_4 : w4.cell? ⟨gb192, 4, none⟩ = some (.slice A0_4 l0_4.length c0_4) := (blk_cell BK192.out 4).trans rfl; have hfz5_0 := blk_frozen BK192.out 0; have hfz5_1 := blk_frozen BK192.out 1; have hfz5_2 := blk_frozen BK192.out 2; have hfz5_3 := blk_frozen BK192.out 3; have hfz5_4 := blk_frozen BK192.out 4) | (go_at_call 75; (with_reducible refine (impl_FormValid.calls a0_0 a0_1 a0_2 _ _ l0_3 _ _ l0_4 t193 _ ?side1 ?side2 ?side3 ?side4 A3.out).mono ?_); (case side1 => repeat (first | exact (Kd.C_below HR0_3.out HB.out) | (with_reducible refine Kd.C_alloc ?_ _) | (with_reducible refine Kd.C_drewN ?_ _) | (with_reducible refine Kd.C_drew ?_))); (case side2 => exact HC0_3.out); (case side3 => repeat (first | exact (Kd.C_below HR0_4.out HB.out) | (with_reducible refine Kd.C_alloc ?_ _) | (with_reducible refine Kd.C_drewN ?_ _) | (with_reducible refine Kd.C_drew ?_))); (case side4 => exact HC0_4.out); rintro e w6 ⟨rfl, hb⟩; have n0_ := Aside0.mk (blk_below (g := gb192) (o := .cells #[.int .i64 a0_0, .string a0_1, .int .i64 a0_2, .slice A0_3 l0_3.length c0_3, .slice A0_4 l0_4.length c0_4] 29 (0, 0)) (by (with_reducible repeat (first | refine blk_drewN ?_ _ | refine blk_drew ?_ | refine blk_alloc ?_ _)); exact BK192.out) hb); have n1_ := Aside0.mk (below_step (by repeat (first | (with_reducible first | exact HB.out | apply below_alloc | apply pw_below_drewN | apply below_drew1 | refine below_set ?_ GE192.out) | exact HB.out)) hb); clear BK192; clear HB; have BK192 := n0_; have HB := n1_; clear n0_ n1_; (try clear hb); (try clear hb2); (try clear hk); (try clear hi)))
    go_ret
    exact ⟨by first | rfl | (simp [errW_none, errW_some] <;> rfl) | (simp [*, errW_none, errW_some] <;> rfl), by repeat (first | (with_reducible first | exact HB.out | apply below_alloc | apply pw_below_drewN | apply below_drew1 | refine below_set ?_ GE192.out) | exact HB.out)⟩
  · rw [if_neg c2] at H
    have c2b0 : (a0_0 == 1) = false := beq_eq_false_iff_ne.mpr c2
    have c2b1 : (a0_0 != 1) = true := bne_iff_ne.mpr c2
    obtain rfl := Option.some.inj H
    go_enter Try.func76, Try.ntmps76
    go_wp2_with (first | ((with_reducible refine gate_dst (N := 1) rfl ?_); refine box_event ?hg (N := 1) ?hd (cs := #[.int .i64 a0_0, .string a0_1, .int .i64 a0_2, .slice A0_3 l0_3.length c0_3, .slice A0_4 l0_4.length c0_4]) (t := 29) ?hr ?_; (case hd => rfl); (case hg => rfl); (case hr => first | (go_simp; done) | (go_simp; rfl)); intro gb192 hg w7 hbox hb; have n0_ := Aside0.mk (below_step (by repeat (first | (with_reducible first | exact HB.out | apply below_alloc | apply pw_below_drewN | apply below_drew1) | exact HB.out)) hb); have n1_ := Aside0.mk (hbox); have n2_ := Aside0.mk ((by rw [hg]; exact (below_size (by repeat (first | (with_reducible first | exact HB.out | apply below_alloc | apply pw_below_drewN | apply below_drew1) | exact HB.out))) : w.heap.size ≤ gb192)); have n3_ := Aside0.mk ((by rw [hg]; exact (below_size (by repeat (first | (with_reducible first | exact HB.out | apply below_alloc | apply pw_below_drewN | apply below_drew1) | exact HB.out))) : w.heap.size ≤ gb192)); clear HB; have HB := n0_; have BK192 := n1_; have GW192 := n2_; have GE192 := n3_; clear n0_ n1_ n2_ n3_; clear hb hbox hg; have hcz8_0 : w7.cell? ⟨gb192, 0, none⟩ = some (.int .i64 a0_0) := (blk_cell BK192.out 0).trans rfl; have hcz8_1 : w7.cell? ⟨gb192, 1, none⟩ = some (.string a0_1) := (blk_cell BK192.out 1).trans rfl; have hcz8_2 : w7.cell? ⟨gb192, 2, none⟩ = some (.int .i64 a0_2) := (blk_cell BK192.out 2).trans rfl; have hcz8_3 : w7.cell? ⟨gb192, 3, none⟩ = some (.slice A0_3 l0_3.length c0_3) := (blk_cell BK192.out 3).trans rfl; have hcz8_4 : w7.cell? ⟨gb192, 4, none⟩ = some (.slice A0_4 l0_4.length c0_4) := (blk_cell BK192.out 4).trans rfl; have hfz8_0 := blk_frozen BK192.out 0; have hfz8_1 := blk_frozen BK192.out 1; have hfz8_2 := blk_frozen BK192.out 2; have hfz8_3 := blk_frozen BK192.out 3; have hfz8_4 := blk_frozen BK192.out 4))
    go_ret
    exact ⟨by first | rfl | (simp [errW_none, errW_some] <;> rfl) | (simp [*, errW_none, errW_some] <;> rfl), by repeat (first | (with_reducible first | exact HB.out | apply below_alloc | apply pw_below_drewN | apply below_drew1 | refine below_set ?_ GE192.out) | exact HB.out)⟩

end Go.Proofs.Ytnaefjilcabkoaa.Q
end
section
namespace Go.Proofs.Ytnaefjilcabkoaa
open Go.RowKit Go.Proofs.YtnaefjilcabkoaaW.PrintWords Go.Proofs.Ytnaefjilcabkoaa.Q
set_option linter.unusedVariables false
set_option linter.unusedSimpArgs false
theorem rdI (l : List Int) (i : Nat) (h : i < l.length) : rd l (i : Int) = l[i] := by
  simp [rd, h]
theorem ev_l2Put (l : List Int) (x : Int) (hs : Srt l) (hl : l.length ≤ 1000000) : Ev (fun k => spec_l2Put.f k l x) (putS l x) := by
  simp only [spec_l2Put.f]
  refine Ev.bind (g := fun _ => _) (Ev.some rfl) ?_
  by_cases hx : x ∈ l
  · rw [decide_eq_true hx, putS_same hx]
    obtain ⟨r, hp, hr⟩ := ev_loop (L := fun k (s : Int × List Int) => spec_l2Put.l0 k l x s.2 true s.1) (fun i s => s = ((i : Int), l.take i)) l.length (· = l) (by
      rintro i s hi rfl
      refine ⟨((i + 1 : Nat), l.take i ++ [l[i]]), by rw [takeS hi], fun r hr => ?_⟩
      refine Ev.step (fun k => by rw [spec_l2Put.l0]) (Ev.pos (by simpa using hi) (Ev.pos rfl (Ev.pos (by simp) (Ev.pos (by simp; omega) ?_))))
      rw [wr1 _ (by omega), rdI _ _ hi]
      exact hr) (by
      rintro s rfl
      refine ⟨_, rfl, Ev.step (fun k => by rw [spec_l2Put.l0]) (Ev.neg (by simp) (Ev.pos rfl ?_))⟩
      rw [List.take_length]
      exact Ev.now _) (0, []) rfl
    subst hp
    exact hr
  · rw [decide_eq_false hx]
    obtain ⟨c1, c2⟩ := srt_cut x hs
    obtain ⟨c, hc⟩ : ∃ c, c = l.countP (· < x) := ⟨_, rfl⟩
    have hcl : c ≤ l.length := by rw [hc]; exact List.countP_le_length
    have hput : putS l x = l.take c ++ x :: l.drop c := by unfold putS; rw [if_neg hx, hc]; rfl
    rw [← hc] at c1 c2
    have d1 : ∀ i (h : i < l.length), i < c → l[i] < x := fun i h hi => c1 _ (by rw [List.mem_take_iff_getElem]; exact ⟨i, by omega, rfl⟩)
    have d2 : ∀ i (h : i < l.length), c ≤ i → x < l[i] := fun i h hi => by
      have h1 := c2 l[i] (by rw [List.mem_drop_iff_getElem]; exact ⟨i - c, by omega, by congr 1; omega⟩)
      have : l[i] ≠ x := fun e => hx (e ▸ List.getElem_mem h)
      omega
    obtain ⟨r, hp, hr⟩ := ev_loop (L := fun k (s : Int × Bool × List Int) => spec_l2Put.l0 k l x s.2.2 s.2.1 s.1) (fun i s => s.1 = (i : Int) ∧ ((i ≤ c ∧ s.2.1 = false ∧ s.2.2 = l.take i) ∨ (c < i ∧ s.2.1 = true ∧ s.2.2 = l.take c ++ x :: (l.take i).drop c))) l.length (· = putS l x) (by
      rintro i ⟨s1, s2, s3⟩ hi ⟨rfl, h⟩
      rcases h with ⟨h1, h2, h3⟩ | ⟨h1, h2, h3⟩
      · have h2' : s2 = false := h2
        have h3' : s3 = l.take i := h3
        subst h2' h3'
        by_cases hic : i = c
        · subst hic
          refine ⟨((i + 1 : Nat), true, (l.take i ++ [x]) ++ [l[i]]), ⟨rfl, .inr ⟨by omega, rfl, ?_⟩⟩, fun r hr => ?_⟩
          · show _ = _
            rw [List.append_assoc]
            congr 1
            rw [List.take_succ_eq_append_getElem hi, List.drop_append]
            simp [Nat.min_eq_left (Nat.le_of_lt hi)]
          · refine Ev.step (fun k => by rw [spec_l2Put.l0]) ?_
            refine Ev.pos (by simpa using hi) (Ev.neg (by simp) (Ev.pos (by simp) (Ev.pos (by rw [rdI _ _ hi]; exact d2 i hi (Nat.le_refl _)) (Ev.pos (by simp; omega) (Ev.bind (g := fun _ => _) (Ev.some rfl) (Ev.pos (by simp; omega) ?_))))))
            rw [wr1 _ (by omega), rdI _ _ hi]
            exact hr
        · refine ⟨((i + 1 : Nat), false, l.take i ++ [l[i]]), ⟨rfl, .inl ⟨by omega, rfl, by rw [takeS hi]⟩⟩, fun r hr => ?_⟩
          refine Ev.step (fun k => by rw [spec_l2Put.l0]) (Ev.pos (by simpa using hi) (Ev.neg (by simp) (Ev.pos (by simp) (Ev.neg (by rw [rdI _ _ hi]; have := d1 i hi (by omega); omega) (Ev.pos (by simp; omega) ?_)))))
          rw [wr1 _ (by omega), rdI _ _ hi]
          exact hr
      · have h2' : s2 = true := h2
        have h3' : s3 = l.take c ++ x :: (l.take i).drop c := h3
        subst h2' h3'
        refine ⟨((i + 1 : Nat), true, (l.take c ++ x :: (l.take i).drop c) ++ [l[i]]), ⟨rfl, .inr ⟨by omega, rfl, ?_⟩⟩, fun r hr => ?_⟩
        · show _ = _
          rw [List.take_succ_eq_append_getElem hi, List.drop_append_of_le_length (by simp; omega)]
          simp
        · refine Ev.step (fun k => by rw [spec_l2Put.l0]) (Ev.pos (by simpa using hi) (Ev.pos rfl (Ev.pos (by simp) (Ev.pos (by simp; omega) ?_))))
          rw [wr1 _ (by omega), rdI _ _ hi]
          exact hr) (by
      rintro ⟨s1, s2, s3⟩ ⟨rfl, h⟩
      refine ⟨_, rfl, ?_⟩
      rcases h with ⟨h1, h2, h3⟩ | ⟨h1, h2, h3⟩
      · have h2' : s2 = false := h2
        have h3' : s3 = l.take l.length := h3
        subst h2' h3'
        have : c = l.length := by omega
        refine Ev.step (fun k => by rw [spec_l2Put.l0]) (Ev.neg (by simp) (Ev.neg (by simp) (Ev.pos (by simp; omega) ?_)))
        rw [hput, this, List.take_length, List.drop_length]
        exact Ev.now _
      · have h2' : s2 = true := h2
        have h3' : s3 = l.take c ++ x :: (l.take l.length).drop c := h3
        subst h2' h3'
        refine Ev.step (fun k => by rw [spec_l2Put.l0]) (Ev.neg (by simp) (Ev.pos rfl ?_))
        rw [hput, List.take_length]
        exact Ev.now _) (0, false, []) ⟨rfl, .inl ⟨Nat.zero_le _, rfl, by simp⟩⟩
    subst hp
    exact hr
/-- What a change of scopes does to one set: way 0 puts in, 1 flips, 2 takes out. -/
def wayS (n : Int) (way : Int) (l : List Int) : List Int := if way = 2 then takeO l n else if way = 1 then flipS l n else putS l n
end Go.Proofs.Ytnaefjilcabkoaa
end
section
namespace Go.Proofs.Ytnaefjilcabkoaa
open Go.RowKit Go.Proofs.YtnaefjilcabkoaaW.PrintWords Go.Proofs.YtnaefjilcabkoaaW.PrintLast Go.Proofs.YtnaefjilcabkoaaW.PrintMore Go.Proofs.Ytnaefjilcabkoaa.Q
set_option linter.unusedVariables false
theorem l2Put_any (l : List Int) (n : Int) (A : Option Addr) (c : Nat) (w : World) (hr : kI.C w A l.length l) (hc : l.length ≤ c) (hs : Srt l) (hl : l.length ≤ 1000000) : Calls Try.prog 118 #[.slice A l.length c, .int .i64 n] w (RetI w (putS l n)) := by
  obtain ⟨k, hk⟩ := (ev_l2Put l n hs hl).rounds
  exact spec_l2Put.calls k A c l n _ w hr hc hk
end Go.Proofs.Ytnaefjilcabkoaa
end
section
namespace Go.Proofs.Ytnaefjilcabkoaa
open Go.RowKit Go.Proofs.YtnaefjilcabkoaaW.PrintWords Go.Proofs.YtnaefjilcabkoaaW.PrintLast Go.Proofs.YtnaefjilcabkoaaW.PrintMore
set_option linter.unusedVariables false
set_option linter.unusedSimpArgs false
mutual
def foldF {σ : Type} (step : σ → Fm → σ) : Fm → σ → σ
  | ⟨a, b, c, d, ks⟩, s => foldFs step ks (step s ⟨a, b, c, d, ks⟩)
def foldFs {σ : Type} (step : σ → Fm → σ) : List Fm → σ → σ
  | [], s => s
  | k :: ks, s => foldFs step ks (foldF step k s)
end
theorem foldF_eq {σ : Type} (step : σ → Fm → σ) (x : Fm) (s : σ) : foldF step x s = foldFs step x.f4 (step s x) := by cases x; rw [foldF]
theorem foldFs_append {σ : Type} (step : σ → Fm → σ) (a b : List Fm) (s : σ) : foldFs step (a ++ b) s = foldFs step b (foldFs step a s) := by
  induction a generalizing s with
  | nil => rw [List.nil_append, foldFs]
  | cons k ks ih => rw [List.cons_append, foldFs, foldFs, ih]
mutual
def costF (cost : Fm → Nat) : Fm → Nat
  | ⟨a, b, c, d, ks⟩ => cost ⟨a, b, c, d, ks⟩ + costFs cost ks
def costFs (cost : Fm → Nat) : List Fm → Nat
  | [] => 0
  | k :: ks => costF cost k + costFs cost ks
end
theorem costF_eq (cost : Fm → Nat) (x : Fm) : costF cost x = cost x + costFs cost x.f4 := by cases x; rw [costF]
theorem costFs_append (cost : Fm → Nat) (a b : List Fm) : costFs cost (a ++ b) = costFs cost a + costFs cost b := by
  induction a with
  | nil => rw [List.nil_append, costFs, Nat.zero_add]
  | cons k ks ih => rw [List.cons_append, costFs, costFs, ih, Nat.add_assoc]
theorem foldFs_len {σ : Type} {step : σ → Fm → σ} {len : σ → Nat} {cost : Fm → Nat} (hlen : ∀ s y, len (step s y) ≤ len s + cost y) (x : Fm) : ∀ s, len (foldF step x s) ≤ len s + costF cost x := by
  induction x using Fm.ind with
  | h x ih =>
    intro s
    rw [foldF_eq, costF_eq]
    have key : ∀ (ks : List Fm), (∀ k, k ∈ ks → k ∈ x.f4) → ∀ s, len (foldFs step ks s) ≤ len s + costFs cost ks := by
      intro ks
      induction ks with
      | nil => intro _ s; rw [foldFs, costFs]; omega
      | cons k ks ih2 =>
        intro hs s
        rw [foldFs, costFs]
        have h1 := ih2 (fun k hk => hs k (List.mem_cons_of_mem _ hk)) (foldF step k s)
        have h2 := ih k (hs k List.mem_cons_self) s
        omega
    have h1 := key x.f4 (fun _ h => h) (step s x)
    have h2 := hlen s x
    omega
theorem foldFs_lenL {σ : Type} {step : σ → Fm → σ} {len : σ → Nat} {cost : Fm → Nat} (hlen : ∀ s y, len (step s y) ≤ len s + cost y) (ks : List Fm) : ∀ s, len (foldFs step ks s) ≤ len s + costFs cost ks := by
  induction ks with
  | nil => intro s; rw [foldFs, costFs]; omega
  | cons k ks ih =>
    intro s
    rw [foldFs, costFs]
    have h1 := ih (foldF step k s)
    have h2 := foldFs_len hlen k s
    omega
/-- What a call leaves of a state: it lies in S', which is S and new blocks. -/
def StPost {σ : Type} (St : World → List Nat → σ → Prop) (S : List Nat) (s : σ) (w : World) (e : Ending) (w' : World) : Prop :=
  e = .returned (.tuple #[]) ∧ ∃ S', St w' S' s ∧ Mk S w w' ∧ ∀ b, b ∈ S' → b ∈ S ∨ w.heap.size ≤ b
section
variable {σ : Type} (w0 : World) (g : Nat) (lb : Array Value) (St : World → List Nat → σ → Prop) (step : σ → Fm → σ) (len : σ → Nat) (cost : Fm → Nat) (N : Nat)
def EachOk (x : Fm) : Prop := ∀ (A3 : Option Addr) (c3 : Nat) (A4 : Option Addr) (c4 : Nat) (s : σ) (S : List Nat) (w : World), FmIn w0 x A3 c3 A4 c4 → Below w0.heap.size w0 w → St w S s → (∀ b, b ∈ S → w0.heap.size ≤ b) → len s + costF cost x ≤ N →
  Calls Try.prog 62 #[.agg #[.int .i64 x.f0, .string x.f1, .int .i64 x.f2, .slice A3 x.f3.length c3, .slice A4 x.f4.length c4], .func (.func g) #[] lb] w (StPost St S (foldF step x s) w)
set_option maxHeartbeats 4000000 in
theorem eachForm_any (eg : ∀ args w, (callFunc g args).run Try.prog w = .ok (.enter g args) w)
    (hmove : ∀ (w w' : World) (S : List Nat) (s : σ), St w S s → (∀ b, b ∈ S → w'.heap[b]? = w.heap[b]?) → St w' S s)
    (hlt : ∀ (w : World) (S : List Nat) (s : σ), St w S s → ∀ b, b ∈ S → b < w.heap.size)
    (hlen : ∀ s y, len (step s y) ≤ len s + cost y)
    (hdo : ∀ (y : Fm) (A3 : Option Addr) (c3 : Nat) (A4 : Option Addr) (c4 : Nat) (s : σ) (S : List Nat) (w : World), FmIn w0 y A3 c3 A4 c4 → Below w0.heap.size w0 w → St w S s → (∀ b, b ∈ S → w0.heap.size ≤ b) → len s + cost y ≤ N →
      Calls Try.prog g (#[.agg #[.int .i64 y.f0, .string y.f1, .int .i64 y.f2, .slice A3 y.f3.length c3, .slice A4 y.f4.length c4]] ++ lb) w (StPost St S (step s y) w))
    (x : Fm) : EachOk w0 g lb St step len cost N x := by
  induction x using Fm.ind with
  | h x ih =>
    intro A3 c3 A4 c4 s S w hin hb hs hS hN
    have hmax := hin.g4.2.1
    rw [costF_eq] at hN
    have hbx := below_new w (.cells #[.int .i64 x.f0, .string x.f1, .int .i64 x.f2, .slice A3 x.f3.length c3, .slice A4 x.f4.length c4] 29)
    have HD := Lib.hid (hdo x A3 c3 A4 c4 s S (w.alloc (.cells #[.int .i64 x.f0, .string x.f1, .int .i64 x.f2, .slice A3 x.f3.length c3, .slice A4 x.f4.length c4] 29)) hin (below_step hb hbx) (hmove _ _ _ _ hs (fun b hb => hbx.block b (hlt _ _ _ hs b hb))) hS (by omega))
    have HI := Lib.hid (And.intro hin (And.intro hb (And.intro hs hS)))
    have HX := Lib.hid hbx
    have IH := Lib.hid ih
    have EG := Lib.hid eg
    have hls := hlen s x
    have HNN := Lib.hid (show len (step s x) + costFs cost x.f4 ≤ N by omega)
    clear hin hb hs hS hN hbx ih hls hdo
    have HM := Lib.hid hmove
    have HL := Lib.hid hlt
    have HLN := Lib.hid hlen
    clear hmove hlt hlen
    go_enter Try.func62, Try.ntmps62
    go_wp2_with fail
    refine HD.out.mono ?_
    rintro e w1 ⟨rfl, S1, h1, hM1, hS1⟩
    have hk0 : w1.heap[w.heap.size]? = some (.cells #[.int .i64 x.f0, .string x.f1, .int .i64 x.f2, .slice A3 x.f3.length c3, .slice A4 x.f4.length c4] 29 (0, 0)) :=
      (hM1.keep w.heap.size (by simp) (fun hm => by have := HL.out _ _ _ HI.out.2.2.1 _ hm; omega)).trans (blk_new w _)
    obtain ⟨_, _, _, _, p4⟩ := fm_cells hk0
    have hsz1 : w.heap.size + 1 ≤ w1.heap.size := by have := hM1.b0.size; simpa using this
    have hne1 : ∀ b, b ∈ S1 → b ≠ w.heap.size := fun b hb he => by
      rcases hS1 b hb with h | h
      · have := HL.out _ _ _ HI.out.2.2.1 _ h; omega
      · simp at h; omega
    have HF := Lib.hid (show St w1 S1 (step s x) ∧ Mk S w w1 ∧ (∀ b, b ∈ S1 → b ∈ S ∨ w.heap.size ≤ b) ∧ (∀ b, b ∈ S1 → b ≠ w.heap.size) ∧ w1.heap[w.heap.size]? = some (.cells #[.int .i64 x.f0, .string x.f1, .int .i64 x.f2, .slice A3 x.f3.length c3, .slice A4 x.f4.length c4] 29 (0, 0)) ∧ w.heap.size + 1 ≤ w1.heap.size from
      ⟨h1, (Mk.ofBelow HX.out).trans hM1, fun b hb => (hS1 b hb).imp id (fun h => by simp at h; omega), hne1, hk0, hsz1⟩)
    clear h1 hM1 hS1 hk0 hsz1 hne1 HD
    go_wp2_with fail
    go_loopg [5, 12] x.f4.length (fun kq v5 v12 w' => ∃ i : Nat, i ≤ x.f4.length ∧ x.f4.length - i ≤ kq ∧ v12 = .int .i64 i ∧ Aside0 (∃ S', St w' S' (foldFs step (x.f4.take i) (step s x)) ∧ Mk S w w' ∧ (∀ b, b ∈ S' → b ∈ S ∨ w.heap.size ≤ b)))
    case atStart => exact ⟨0, Nat.zero_le _, by omega, rfl, ⟨⟨S1, by rw [List.take_zero, foldFs]; exact HF.out.1, HF.out.2.1, HF.out.2.2.1⟩⟩⟩
    case round =>
      obtain ⟨i, hi, hg, rfl, HO⟩ := hrel
      by_cases hlt : i < x.f4.length
      · have hbw : Below w0.heap.size w0 wr := by
          obtain ⟨S', h1, h2, h3⟩ := HO.out
          exact HI.out.2.1.trans (h2.below HI.out.2.1.size HI.out.2.2.2)
        obtain ⟨ad, G3, m3, G4, m4, e, g0, g1, g2, g3, g4, hk⟩ := kid_at HI.out.1.g4 i hlt
        subst e
        replace g0 := ck0 hbw g0
        replace g1 := ck0 hbw g1
        replace g2 := ck0 hbw g2
        replace g3 := ck0 hbw g3
        replace g4 := ck0 hbw g4
        have HK := Lib.hid hk
        have HBW := Lib.hid hbw
        clear hk hbw
        go_wp2_with fail
        obtain ⟨S', h1, h2, h3⟩ := HO.out
        have hnw := below_new wr (.cells #[.int .i64 x.f4[i].f0, .string x.f4[i].f1, .int .i64 x.f4[i].f2, .slice G3 x.f4[i].f3.length m3, .slice G4 x.f4[i].f4.length m4] 29)
        have hcost : costFs cost (x.f4.take (i + 1)) ≤ costFs cost x.f4 := by
          conv => rhs; rw [← List.take_append_drop (i + 1) x.f4, costFs_append]
          omega
        have hcs : costFs cost (x.f4.take (i + 1)) = costFs cost (x.f4.take i) + costF cost x.f4[i] := by
          rw [List.take_succ_eq_append_getElem hlt, costFs_append]
          simp [costFs]
        have hl2 := foldFs_lenL HLN.out (x.f4.take i) (step s x)
        refine (IH.out x.f4[i] (List.getElem_mem hlt) G3 m3 G4 m4 _ S' _ HK.out (below_step HBW.out hnw) (HM.out _ _ _ _ h1 (fun b hb => hnw.block b (HL.out _ _ _ h1 b hb))) (fun b hb => by
          rcases h3 b hb with h | h
          · exact HI.out.2.2.2 b h
          · exact Nat.le_trans HI.out.2.1.size h) (by have := HNN.out; omega)).mono ?_
        rintro e w2 ⟨rfl, S2, q1, q2, q3⟩
        have HQ := Lib.hid (show ∃ S', St w2 S' (foldFs step (x.f4.take (i + 1)) (step s x)) ∧ Mk S w w2 ∧ (∀ b, b ∈ S' → b ∈ S ∨ w.heap.size ≤ b) from by
          have hm3 : Mk S w w2 := by
            have hm4 := ((Mk.ofBelow hnw (S := S')).trans q2)
            refine ⟨h2.b0.trans hm4.b0, fun b hb hn => ?_⟩
            have hbs := h2.b0.size
            rw [hm4.keep b (by omega) (fun hm => by
              rcases h3 b hm with h | h
              · exact hn h
              · omega)]
            exact h2.keep b hb hn
          refine ⟨S2, ?_, hm3, fun b hb => ?_⟩
          · rw [List.take_succ_eq_append_getElem hlt, foldFs_append]
            simpa [foldFs] using q1
          · rcases q3 b hb with h | h
            · exact h3 b h
            · refine .inr ?_
              have := h2.b0.size
              simp at h
              omega)
        clear h1 h2 h3 q1 q2 q3 hnw hcost hcs hl2 HK HBW
        go_wp2_with fail
        go_roundg (x.f4.length - (i + 1))
        case measure => omega
        case rel => exact ⟨i + 1, by omega, Nat.le_refl _, by go_num, ⟨HQ.out⟩⟩
      · obtain rfl : i = x.f4.length := by omega
        go_wp2_with fail
        go_end0
        obtain ⟨S', h1, h2, h3⟩ := HO.out
        rw [List.take_length] at h1
        exact ⟨rfl, S', by rw [foldF_eq]; exact h1, h2, h3⟩
end
end Go.Proofs.Ytnaefjilcabkoaa
end
section
namespace Go.Proofs.Ytnaefjilcabkoaa
set_option linter.unusedVariables false
set_option linter.unusedSimpArgs false
mutual
/-- A form whose names have other scopes (what is no name has none). -/
def Fm.chS (g : List Int → List Int) : Fm → Fm
  | ⟨a, b, c, d, ks⟩ => ⟨a, b, c, if a = 1 then g d else [], chSL g ks⟩
def chSL (g : List Int → List Int) : List Fm → List Fm
  | [] => []
  | k :: ks => k.chS g :: chSL g ks
end
theorem chSL_map (g : List Int → List Int) (l : List Fm) : chSL g l = l.map (Fm.chS g) := by
  induction l with
  | nil => rfl
  | cons a l ih => simp [chSL, ih]
theorem Fm.chS_eq (g : List Int → List Int) (x : Fm) : x.chS g = ⟨x.f0, x.f1, x.f2, if x.f0 = 1 then g x.f3 else [], x.f4.map (Fm.chS g)⟩ := by
  cases x; simp only [Fm.chS, chSL_map]
/-- A fact on all names within a form. -/
inductive AllNm (P : Fm → Prop) : Fm → Prop
  | mk (x : Fm) (h : x.f0 = 1 → P x) (hk : ∀ k, k ∈ x.f4 → AllNm P k) : AllNm P x
theorem AllNm.at {P : Fm → Prop} {x : Fm} (h : AllNm P x) : x.f0 = 1 → P x := by cases h; assumption
theorem AllNm.kid {P : Fm → Prop} {x : Fm} (h : AllNm P x) : ∀ k, k ∈ x.f4 → AllNm P k := by cases h; assumption
theorem AllNm.imp {P Q : Fm → Prop} (hi : ∀ x, P x → Q x) {x : Fm} (h : AllNm P x) : AllNm Q x := by
  induction h with
  | mk x h hk ih => exact ⟨x, fun e => hi x (h e), ih⟩
theorem AllNm.and {P Q : Fm → Prop} {x : Fm} (h : AllNm P x) (h2 : AllNm Q x) : AllNm (fun y => P y ∧ Q y) x := by
  induction h with
  | mk x h hk ih => exact ⟨x, fun e => ⟨h e, h2.at e⟩, fun k hk => ih k hk (h2.kid k hk)⟩
theorem AllNm.all {P : Fm → Prop} (h : ∀ x, P x) (x : Fm) : AllNm P x := by
  induction x using Fm.ind with
  | h x ih => exact ⟨x, fun _ => h x, ih⟩
theorem map_eq {α β : Type} {f g : α → β} {l : List α} (h : ∀ a, a ∈ l → f a = g a) : l.map f = l.map g := List.map_congr_left h
theorem toList_len (s : ByteArray) : s.toList.length = s.size := by rw [ByteArray.toList_eq]; exact Array.length_toList
theorem nmOk_size {s : ByteArray} (h : NmOk s) : s.size ≤ 12 := by
  rcases h with h | h | h
  · have := congrArg List.length h; rw [toList_len] at this; simp at this; omega
  · have := congrArg List.length h; rw [toList_len] at this; simp at this; omega
  · exact h.2.1
/-- The three kinds of valid forms. -/
theorem isOk_cases {n : Nat} {x : Fm} (h : IsOk n x) : ∃ m, n = m + 1 ∧ ((x.f0 = 1 ∧ NmOk x.f1 ∧ x.f2 = 0 ∧ ScOk x.f3 ∧ x.f4 = []) ∨ (x.f0 = 2 ∧ x.f1.toList = [] ∧ 0 ≤ x.f2 ∧ x.f2 ≤ 999 ∧ x.f3 = [] ∧ x.f4 = []) ∨ (x.f0 = 3 ∧ x.f1.toList = [] ∧ x.f2 = 0 ∧ x.f3 = [] ∧ ∀ k, k ∈ x.f4 → IsOk m k)) := by
  cases n with
  | zero => cases x; exact absurd h (by simp [IsOk])
  | succ m =>
    refine ⟨m, rfl, ?_⟩
    by_cases h1 : x.f0 = 1
    · obtain ⟨a, b, c, d⟩ := (isOk1 h1).1 h
      exact .inl ⟨h1, a, b, c, List.eq_nil_of_length_eq_zero d⟩
    · by_cases h2 : x.f0 = 2
      · obtain ⟨a, b, c, d, e⟩ := (isOk2 h2).1 h
        exact .inr (.inl ⟨h2, a, b, c, List.eq_nil_of_length_eq_zero d, List.eq_nil_of_length_eq_zero e⟩)
      · obtain ⟨a, b, c, d, e⟩ := (isOk3 h1 h2).1 h
        exact .inr (.inr ⟨a, b, c, List.eq_nil_of_length_eq_zero d, e⟩)
theorem isOk_sc {n : Nat} {x : Fm} (h : IsOk n x) : AllNm (fun y => ScOk y.f3 ∧ NmOk y.f1) x := by
  induction x using Fm.ind generalizing n with
  | h x ih =>
    obtain ⟨m, rfl, hc⟩ := isOk_cases h
    rcases hc with ⟨h1, a, b, c, d⟩ | ⟨h1, a, b, c, d, e⟩ | ⟨h1, a, b, c, d⟩
    · exact ⟨x, fun _ => ⟨c, a⟩, fun k hk => by rw [d] at hk; cases hk⟩
    · exact ⟨x, fun e => by omega, fun k hk => by rw [e] at hk; cases hk⟩
    · exact ⟨x, fun e => by omega, fun k hk => ih k hk (d k hk)⟩
theorem fmOk_sc {x : Fm} (h : FmOk x) : AllNm (fun y => ScOk y.f3) x := (isOk_sc h.1).imp (fun _ h => h.1)
theorem isOk_chS_id {n : Nat} {x : Fm} (h : IsOk n x) : x.chS (fun l => l) = x := by
  induction x using Fm.ind generalizing n with
  | h x ih =>
    obtain ⟨m, rfl, hc⟩ := isOk_cases h
    rw [Fm.chS_eq]
    rcases hc with ⟨h1, a, b, c, d⟩ | ⟨h1, a, b, c, d, e⟩ | ⟨h1, a, b, c, d⟩
    · refine Fm.ext' rfl rfl rfl ?_ ?_
      · dsimp only; rw [if_pos h1]
      · dsimp only; rw [d]; rfl
    · refine Fm.ext' rfl rfl rfl ?_ ?_
      · dsimp only; rw [if_neg (by omega), d]
      · dsimp only; rw [e]; rfl
    · refine Fm.ext' rfl rfl rfl ?_ ?_
      · dsimp only; rw [if_neg (by omega), c]
      · dsimp only
        rw [map_eq (g := id) (fun k hk => ih k hk (d k hk)), List.map_id]
theorem sizes_pos (l : List Fm) : l.length ≤ sizes l := by
  induction l with
  | nil => simp
  | cons a l ih => rw [sizes, List.length_cons, Fm.size_eq]; omega
/-- How many values and letters a valid form has whose sets of scopes may have grown. -/
theorem tot_chS {n : Nat} {x : Fm} (h : IsOk n x) (g : List Int → List Int) (m : Nat) (hg : AllNm (fun y => (g y.f3).length ≤ m) x) : (x.chS g).tot + 1 ≤ (13 + m) * x.size := by
  induction x using Fm.ind generalizing n with
  | h x ih =>
    obtain ⟨q, rfl, hc⟩ := isOk_cases h
    have hz : ∀ s : ByteArray, s.toList = [] → s.size = 0 := fun s hs => by rw [← toList_len s, hs]; rfl
    rw [Fm.chS_eq, Fm.tot_eq, Fm.size_eq]
    dsimp only
    rcases hc with ⟨h1, a, b, c, d⟩ | ⟨h1, a, b, c, d, e⟩ | ⟨h1, a, b, c, d⟩
    · have := nmOk_size a
      have := hg.at h1
      rw [if_pos h1, d]
      simp only [List.map_nil, totL, sizes]
      omega
    · have := hz _ a
      rw [if_neg (by omega), e]
      simp only [List.map_nil, totL, sizes, List.length_nil]
      omega
    · have := hz _ a
      rw [if_neg (by omega)]
      have key : ∀ l : List Fm, (∀ k, k ∈ l → (k.chS g).tot + 1 ≤ (13 + m) * k.size) → totL (l.map (Fm.chS g)) ≤ (13 + m) * sizes l := by
        intro l
        induction l with
        | nil => intro _; simp [totL]
        | cons a l ih2 =>
          intro h
          rw [List.map_cons, totL, sizes, Nat.mul_add]
          have h1 := h a List.mem_cons_self
          have h2 := ih2 (fun k hk => h k (List.mem_cons_of_mem _ hk))
          omega
      have := key x.f4 (fun k hk => ih k hk (d k hk) (hg.kid k hk))
      rw [Nat.mul_add]
      simp only [List.length_nil]
      omega
theorem fmOk_tot {x : Fm} (h : FmOk x) : x.tot ≤ 20000 := by
  have h1 := tot_chS h.1 (fun l => l) 24 ((fmOk_sc h).imp (fun y hy => hy.1))
  rw [isOk_chS_id h.1] at h1
  have := h.2
  have h3 : (13 + 24) * x.size ≤ 37 * 400 := Nat.mul_le_mul (by omega) this
  omega
/-- What AddScope, FlipScope, DropScope and DressLike return. -/
noncomputable def orN (x : Fm) : Fm × Bool := if pB (FmOk x) then (x, true) else (zFm, false)
noncomputable def reS (g : List Int → List Int) (n : Int) (x : Fm) : Fm × Bool := if pB (FmOk x ∧ 1 ≤ n ∧ n ≤ 99) then orN (x.chS g) else (zFm, false)
abbrev tupF (p : Fm × Bool) : Int × ByteArray × Int × List Int × List Fm × Bool := (p.1.f0, p.1.f1, p.1.f2, p.1.f3, p.1.f4, p.2)
theorem orN_yes {x : Fm} (h : FmOk x) : orN x = (x, true) := by unfold orN; rw [if_pos (pB_iff.2 h)]
theorem orN_no {x : Fm} (h : ¬ FmOk x) : orN x = (zFm, false) := by unfold orN; rw [if_neg (fun k => h (pB_iff.1 k))]
theorem zFm_tot : zFm.tot = 0 := rfl
end Go.Proofs.Ytnaefjilcabkoaa
end
section
namespace Go.Proofs.Ytnaefjilcabkoaa
open Go.RowKit Go.Proofs.YtnaefjilcabkoaaW.PrintWords Go.Proofs.YtnaefjilcabkoaaW.PrintLast Go.Proofs.YtnaefjilcabkoaaW.PrintMore
set_option linter.unusedVariables false
set_option linter.unusedSimpArgs false
theorem C_zero {α : Type} (d : Kd α) (w : World) (A : Option Addr) : d.C w A ([] : List α).length [] := ⟨rfl, by simp, fun h => absurd h (Nat.lt_irrefl 0)⟩
/-- A row of numbers is handed back. -/
def GetI (w : World) (r : List Int) (e : Ending) (w' : World) : Prop := ∃ A c, e = .returned (.slice A r.length c) ∧ r.length ≤ c ∧ kI.C w' A r.length r ∧ Below w.heap.size w w'
def unionAll (s : List Int) (y : Fm) : List Int := y.f3.foldl putS s
theorem srt_putL : ∀ (xs : List Int) {l : List Int}, Srt l → Srt (xs.foldl putS l)
  | [], _, h => h
  | x :: xs, _, h => srt_putL xs (srt_putS h x)
theorem len_putL : ∀ (xs : List Int) (l : List Int), (xs.foldl putS l).length ≤ l.length + xs.length
  | [], l => by simp
  | x :: xs, l => by
    have h1 := len_putL xs (putS l x)
    have h2 := len_putS_le l x
    simp only [List.foldl_cons, List.length_cons]
    omega
theorem mem_putL : ∀ (xs : List Int) (l : List Int) (y : Int), y ∈ xs.foldl putS l ↔ y ∈ l ∨ y ∈ xs
  | [], l, y => by simp
  | x :: xs, l, y => by
    simp only [List.foldl_cons, List.mem_cons]
    rw [mem_putL xs, mem_putS]
    constructor
    · rintro ((h | h) | h)
      · exact .inl h
      · exact .inr (.inl h)
      · exact .inr (.inr h)
    · rintro (h | h | h)
      · exact .inl (.inl h)
      · exact .inl (.inr h)
      · exact .inr h
theorem take_foldl {α β : Type} (f : β → α → β) (b : β) (xs : List α) (i : Nat) (h : i < xs.length) : (xs.take (i + 1)).foldl f b = f ((xs.take i).foldl f b) xs[i] := by
  rw [List.take_succ_eq_append_getElem h, List.foldl_append]; rfl
mutual
theorem srt_all : ∀ (x : Fm) {l : List Int}, Srt l → Srt (foldF unionAll x l)
  | ⟨a, b, c, d, ks⟩, l, h => by rw [foldF]; exact srt_allL ks (srt_putL d h)
theorem srt_allL : ∀ (ks : List Fm) {l : List Int}, Srt l → Srt (foldFs unionAll ks l)
  | [], l, h => by rw [foldFs]; exact h
  | k :: ks, l, h => by rw [foldFs]; exact srt_allL ks (srt_all k h)
end
mutual
theorem len_all : ∀ (x : Fm) (l : List Int), (foldF unionAll x l).length ≤ l.length + x.tot
  | ⟨a, b, c, d, ks⟩, l => by
    rw [foldF, Fm.tot_eq]
    have h1 := len_allL ks (unionAll l ⟨a, b, c, d, ks⟩)
    have h2 := len_putL d l
    show _ ≤ l.length + (b.size + d.length + totL ks)
    have h3 : (unionAll l ⟨a, b, c, d, ks⟩).length = (d.foldl putS l).length := rfl
    omega
theorem len_allL : ∀ (ks : List Fm) (l : List Int), (foldFs unionAll ks l).length ≤ l.length + totL ks
  | [], l => by rw [foldFs]; omega
  | k :: ks, l => by
    rw [foldFs]
    have h1 := len_allL ks (foldF unionAll k l)
    have h2 := len_all k l
    simp only [totL]
    omega
end
mutual
theorem mem_all : ∀ (x : Fm) (l : List Int) (n : Int), n ∈ foldF unionAll x l ↔ n ∈ l ∨ n ∈ foldF unionAll x []
  | ⟨a, b, c, d, ks⟩, l, n => by
    rw [foldF, foldF, mem_allL ks, mem_allL ks (unionAll [] _)]
    show n ∈ d.foldl putS l ∨ _ ↔ n ∈ l ∨ n ∈ d.foldl putS [] ∨ _
    rw [mem_putL, mem_putL]
    simp [or_assoc]
theorem mem_allL : ∀ (ks : List Fm) (l : List Int) (n : Int), n ∈ foldFs unionAll ks l ↔ n ∈ l ∨ n ∈ foldFs unionAll ks []
  | [], l, n => by rw [foldFs, foldFs]; simp
  | k :: ks, l, n => by
    rw [foldFs, foldFs, mem_allL ks, mem_allL ks (foldF unionAll k []), mem_all k]
    simp [or_assoc]
end
def AllOk (x : Fm) : Prop := ∀ (l : List Int) (A : Option Addr) (c : Nat) (A3 : Option Addr) (c3 : Nat) (A4 : Option Addr) (c4 : Nat) (w : World), kI.C w A l.length l → l.length ≤ c → Srt l → FmIn w x A3 c3 A4 c4 → l.length + x.tot ≤ 1000000 →
  Calls Try.prog 82 #[.slice A l.length c, .agg #[.int .i64 x.f0, .string x.f1, .int .i64 x.f2, .slice A3 x.f3.length c3, .slice A4 x.f4.length c4]] w (GetI w (foldF unionAll x l))
set_option maxHeartbeats 4000000 in
theorem l2All_any (x : Fm) : AllOk x := by
  induction x using Fm.ind with
  | h x ih =>
    intro l A c A3 c3 A4 c4 w hr hc hs hin ht
    have htt := x.tot_eq
    have hm3 : x.f3.length ≤ 1000000 := by omega
    have hm4 : x.f4.length ≤ 1000000 := by have := len_totL x.f4; omega
    have IH := Lib.hid ih
    have hb0 := below_new w (.cells #[.int .i64 x.f0, .string x.f1, .int .i64 x.f2, .slice A3 x.f3.length c3, .slice A4 x.f4.length c4] 29)
    have HK := Lib.hid (blk_new w (.cells #[.int .i64 x.f0, .string x.f1, .int .i64 x.f2, .slice A3 x.f3.length c3, .slice A4 x.f4.length c4] 29))
    have HI := Lib.hid (hin.below hb0)
    have HR := Lib.hid (Kd.C_below hr hb0)
    have HS := Lib.hid hs
    have HB := Lib.hid hb0
    have HT := Lib.hid ht
    have HTT := Lib.hid htt
    clear ih hin hr hs hb0 htt ht
    go_enter Try.func82, Try.ntmps82
    go_wp2_with fail
    generalize w.alloc (.cells #[.int .i64 x.f0, .string x.f1, .int .i64 x.f2, .slice A3 x.f3.length c3, .slice A4 x.f4.length c4] 29) = wz at HK HI HR HB ⊢
    go_loopg [0, 5] x.f3.length (fun kq v0 v5 w' => ∃ (i : Nat) (B : Option Addr) (d : Nat), i ≤ x.f3.length ∧ x.f3.length - i ≤ kq ∧ v5 = .int .i64 i ∧ v0 = .slice B ((x.f3.take i).foldl putS l).length d ∧ Aside0 (((x.f3.take i).foldl putS l).length ≤ d ∧ kI.C w' B ((x.f3.take i).foldl putS l).length ((x.f3.take i).foldl putS l)) ∧ Aside0 (Below wz.heap.size wz w'))
    case atStart => exact ⟨0, A, c, Nat.zero_le _, by omega, rfl, rfl, ⟨hc, HR.out⟩, ⟨Below.refl _ _⟩⟩
    case round =>
      obtain ⟨i, B, d, hi, hg, rfl, rfl, HL, HW⟩ := hrel
      obtain ⟨p0, p1, p2, p3, p4⟩ := fm_cells (blk_below HK.out HW.out)
      by_cases hlt : i < x.f3.length
      · obtain ⟨ad, e, g0⟩ := int_at (Kd.C_below HI.out.g3 HW.out) i hlt
        subst e
        have h1 := srt_putL (x.f3.take i) HS.out
        have h2 := len_putL (x.f3.take i) l
        have h3 : (x.f3.take i).length ≤ x.f3.length := by rw [List.length_take]; exact Nat.min_le_right _ _
        have HP := Lib.hid (l2Put_any _ x.f3[i] B d wr HL.out.2 HL.out.1 h1 (by have := HT.out; have := HTT.out; omega))
        have HTK := Lib.hid (take_foldl putS l x.f3 i hlt)
        clear h1 h2 h3
        go_wp2_with fail
        clear p0 p1 p2 p3 p4 g0
        refine HP.out.mono ?_
        rintro e w1 ⟨v, rfl, hv, hb⟩
        obtain ⟨E, d2, rfl, hl2, hc2⟩ := Kd.R_reads hv
        have HN := Lib.hid hc2
        have HN2 := Lib.hid hl2
        have HW1 := Lib.hid (below_step HW.out hb)
        clear hv hl2 hc2 hb
        go_wp2_with fail
        go_roundg (x.f3.length - (i + 1))
        case measure => omega
        case rel => exact ⟨i + 1, E, d2, by omega, Nat.le_refl _, by go_num, by rw [HTK.out], ⟨by rw [HTK.out]; exact ⟨HN2.out, HN.out⟩⟩, ⟨HW1.out⟩⟩
      · obtain rfl : i = x.f3.length := by omega
        rw [List.take_length] at HL ⊢
        have HS2 := Lib.hid (srt_putL x.f3 HS.out)
        have HL2 := Lib.hid (len_putL x.f3 l)
        generalize hL2 : x.f3.foldl putS l = l2 at HL HS2 HL2 ⊢
        have HLE := Lib.hid hL2
        clear hL2
        go_wp2_with fail
        clear p0 p1 p2 p3 p4
        have HI2 := Lib.hid (HI.out.below HW.out)
        have HK2 := Lib.hid (blk_below HK.out HW.out)
        have HB2 := Lib.hid (below_step HB.out HW.out)
        have HL3 := Lib.hid HL.out
        clear HI HK HB HW HL
        have hmL : x.f4.length ≤ totL x.f4 + x.f4.length := by omega
        clear hmL
        go_loopg [0, 6] x.f4.length (fun kq v0 v6 w' => ∃ (i : Nat) (B : Option Addr) (d : Nat), i ≤ x.f4.length ∧ x.f4.length - i ≤ kq ∧ v6 = .int .i64 i ∧ v0 = .slice B (foldFs unionAll (x.f4.take i) l2).length d ∧ Aside0 ((foldFs unionAll (x.f4.take i) l2).length ≤ d ∧ kI.C w' B (foldFs unionAll (x.f4.take i) l2).length (foldFs unionAll (x.f4.take i) l2)) ∧ Aside0 (Below wr.heap.size wr w'))
        case atStart => exact ⟨0, B, d, Nat.zero_le _, by omega, rfl, by rw [List.take_zero, foldFs], ⟨by rw [List.take_zero, foldFs]; exact HL3.out⟩, ⟨Below.refl _ _⟩⟩
        case round =>
          obtain ⟨i, B, d, hi, hg, rfl, rfl, HL, HW⟩ := hrel
          obtain ⟨p0, p1, p2, p3, p4⟩ := fm_cells (blk_below HK2.out HW.out)
          by_cases hlt : i < x.f4.length
          · obtain ⟨ad, G3, m3, G4, m4, e, g0, g1, g2, g3, g4, hk⟩ := kid_at (Kd.C_below HI2.out.g4 HW.out) i hlt
            subst e
            have h2 := len_allL (x.f4.take i) l2
            have h3 : totL (x.f4.take i) + x.f4[i].tot ≤ totL x.f4 := by
              have h4 : totL (x.f4.take (i + 1)) ≤ totL x.f4 := by
                have := totL_append (x.f4.take (i + 1)) (x.f4.drop (i + 1))
                rw [List.take_append_drop] at this
                omega
              rw [List.take_succ_eq_append_getElem hlt, totL_append] at h4
              simp only [totL] at h4
              omega
            have HP := Lib.hid (IH.out x.f4[i] (List.getElem_mem hlt) _ B d G3 m3 G4 m4 wr HL.out.2 HL.out.1 (srt_allL (x.f4.take i) HS2.out) hk (by have := HT.out; have := HTT.out; have := HL2.out; omega))
            have HTK := Lib.hid (show foldFs unionAll (x.f4.take (i + 1)) l2 = foldF unionAll x.f4[i] (foldFs unionAll (x.f4.take i) l2) by rw [List.take_succ_eq_append_getElem hlt, foldFs_append, foldFs, foldFs])
            clear h2 h3 hk
            go_wp2_with fail
            clear p0 p1 p2 p3 p4 g0 g1 g2 g3 g4
            refine HP.out.mono ?_
            rintro e w1 ⟨E, d2, rfl, hl2, hc2, hb⟩
            have HN := Lib.hid (And.intro hl2 hc2)
            have HW1 := Lib.hid (below_step HW.out hb)
            clear hl2 hc2 hb
            go_wp2_with fail
            go_roundg (x.f4.length - (i + 1))
            case measure => omega
            case rel => exact ⟨i + 1, E, d2, by omega, Nat.le_refl _, by go_num, by rw [HTK.out], ⟨by rw [HTK.out]; exact HN.out⟩, ⟨HW1.out⟩⟩
          · obtain rfl : i = x.f4.length := by omega
            rw [List.take_length] at HL ⊢
            have HE := Lib.hid (show foldF unionAll x l = foldFs unionAll x.f4 l2 by rw [foldF_eq, ← HLE.out]; rfl)
            go_wp2_with fail
            go_ret
            exact ⟨B, d, by rw [HE.out]; rfl, by rw [HE.out]; exact HL.out.1, by rw [HE.out]; exact HL.out.2, below_step HB2.out HW.out⟩
/-- The scopes of a form's names, as_ a set; of no valid form: none. -/
noncomputable def scAll (x : Fm) : List Int := if pB (FmOk x) = true then foldF unionAll x [] else []
set_option maxHeartbeats 1000000 in
theorem specScopes_any (x : Fm) (A3 : Option Addr) (c3 : Nat) (A4 : Option Addr) (c4 : Nat) (w : World) (hin : FmIn w x A3 c3 A4 c4) (ht : x.tot ≤ 1048576) :
    Calls Try.prog 34 #[.agg #[.int .i64 x.f0, .string x.f1, .int .i64 x.f2, .slice A3 x.f3.length c3, .slice A4 x.f4.length c4]] w (GetI w (scAll x)) := by
  have hb0 := below_new w (.cells #[.int .i64 x.f0, .string x.f1, .int .i64 x.f2, .slice A3 x.f3.length c3, .slice A4 x.f4.length c4] 29)
  have HV := Lib.hid (specValid_any x A3 c3 A4 c4 _ (hin.below hb0) (by omega))
  have HI := Lib.hid (hin.below hb0)
  have HB := Lib.hid hb0
  have HK := Lib.hid (blk_new w (.cells #[.int .i64 x.f0, .string x.f1, .int .i64 x.f2, .slice A3 x.f3.length c3, .slice A4 x.f4.length c4] 29))
  have HT := Lib.hid ht
  clear hin hb0 ht
  unfold scAll
  rcases hv : pB (FmOk x) with _ | _
  · rw [hv] at HV
    rw [if_neg (by simp)]
    go_enter Try.func34, Try.ntmps34
    go_wp2_with fail
    refine HV.out.mono ?_
    rintro e w1 ⟨rfl, hb⟩
    have HB1 := Lib.hid (below_step HB.out hb)
    clear hb
    go_wp2_with fail
    go_ret
    exact ⟨_, _, rfl, Nat.le_refl _, C_zero _ _ _, below_step HB1.out (below_new _ _)⟩
  · rw [hv] at HV
    rw [if_pos rfl]
    go_enter Try.func34, Try.ntmps34
    go_wp2_with fail
    refine HV.out.mono ?_
    rintro e w1 ⟨rfl, hb⟩
    have HB1 := Lib.hid (below_step HB.out hb)
    have hbx := below_new w1 (.cells #[] 3)
    have HP := Lib.hid (l2All_any x [] (some ⟨w1.heap.size, 0, none⟩) 0 A3 c3 A4 c4 _ (C_zero kI (w1.alloc (.cells #[] 3)) _) (Nat.le_refl _) List.Pairwise.nil ((HI.out.below hb).below hbx) (by have := fmOk_tot (pB_iff.1 hv); simp; omega))
    have HBX := Lib.hid (below_step HB1.out hbx)
    obtain ⟨p0, p1, p2, p3, p4⟩ := fm_cells (blk_below (blk_below HK.out hb) hbx)
    clear hb hbx
    go_wp2_with fail
    clear p0 p1 p2 p3 p4
    refine HP.out.mono ?_
    rintro e w2 ⟨E, d, rfl, hl, hc, hb⟩
    have HN := Lib.hid (And.intro hl hc)
    have HB2 := Lib.hid (below_step HBX.out hb)
    clear hl hc hb
    go_wp2_with fail
    go_ret
    exact ⟨E, d, rfl, HN.out.1, HN.out.2, HB2.out⟩
end Go.Proofs.Ytnaefjilcabkoaa
end
section
namespace Go.Proofs.Ytnaefjilcabkoaa
open Go.RowKit Go.Proofs.YtnaefjilcabkoaaW.PrintWords Go.Proofs.YtnaefjilcabkoaaW.PrintLast Go.Proofs.YtnaefjilcabkoaaW.PrintMore
set_option linter.unusedVariables false
set_option linter.unusedSimpArgs false
theorem cut_facts (d : Array Int) (hs : ∀ i j, i < j → j < d.size → d[i]! ≤ d[j]!) : ∀ m, m ≤ d.size → Srt (Lib.compactUpTo d m) ∧ ∀ x, x ∈ Lib.compactUpTo d m ↔ ∃ j, j < m ∧ d[j]! = x
  | 0, _ => ⟨by simp [Lib.compactUpTo], fun x => by simp [Lib.compactUpTo]⟩
  | m + 1, hm => by
    obtain ⟨h1, h2⟩ := cut_facts d hs m (by omega)
    rw [Lib.compactUpTo_succ]
    by_cases hk : Lib.keeps d m = true
    · rw [if_pos hk]
      refine ⟨List.pairwise_append.2 ⟨h1, by simp, fun a ha b hb => ?_⟩, fun x => ?_⟩
      · obtain ⟨j, hj, rfl⟩ := (h2 a).1 ha
        obtain rfl := List.mem_singleton.1 hb
        have hne : d[m]! ≠ d[m - 1]! := by
          rcases of_decide_eq_true hk with h | h
          · omega
          · exact h
        have a1 : d[m - 1]! ≤ d[m]! := hs (m - 1) m (by omega) (by omega)
        have a2 : d[j]! ≤ d[m - 1]! := by
          by_cases e : j = m - 1
          · rw [e]; exact Int.le_refl _
          · exact hs j (m - 1) (by omega) (by omega)
        omega
      · rw [List.mem_append, h2, List.mem_singleton]
        constructor
        · rintro (⟨j, hj, rfl⟩ | rfl)
          · exact ⟨j, by omega, rfl⟩
          · exact ⟨m, by omega, rfl⟩
        · rintro ⟨j, hj, rfl⟩
          by_cases e : j = m
          · exact .inr (by rw [e])
          · exact .inl ⟨j, by omega, rfl⟩
    · rw [if_neg hk, List.append_nil]
      have hk2 : ¬ (m = 0 ∨ d[m]! ≠ d[m - 1]!) := fun h => hk (decide_eq_true h)
      have hm0 : m ≠ 0 := fun h => hk2 (.inl h)
      have he : d[m]! = d[m - 1]! := Decidable.byContradiction (fun h => hk2 (.inr h))
      refine ⟨h1, fun x => (h2 x).trans ⟨fun ⟨j, hj, e⟩ => ⟨j, by omega, e⟩, fun ⟨j, hj, e⟩ => ?_⟩⟩
      by_cases e2 : j = m
      · exact ⟨m - 1, by omega, by rw [← he, ← e2]; exact e⟩
      · exact ⟨j, by omega, e⟩
abbrev sortI (l : List Int) : List Int := l.mergeSort (fun x y => decide (x ≤ y))
theorem compact_sort (l : List Int) : Srt (Lib.compact (sortI l)) ∧ ∀ x, x ∈ Lib.compact (sortI l) ↔ x ∈ l := by
  have hp : (sortI l).Pairwise (fun a b => decide (a ≤ b) = true) := List.pairwise_mergeSort (fun a b c h1 h2 => by simp only [decide_eq_true_eq] at *; omega) (fun a b => by simp only [Bool.or_eq_true, decide_eq_true_eq]; omega) l
  have hg : ∀ j, j < (sortI l).length → (sortI l).toArray[j]! = (sortI l).getD j 0 := fun j hj => by
    rw [getElem!_pos (sortI l).toArray j (by simpa using hj)]
    simp [List.getD_eq_getElem?_getD, List.getElem?_eq_getElem hj]
  obtain ⟨h1, h2⟩ := cut_facts (sortI l).toArray (fun i j hij hj => by
    have hj' : j < (sortI l).length := by simpa using hj
    rw [hg i (by omega), hg j hj']
    have := (List.pairwise_iff_getElem.1 hp) i j (by omega) hj' hij
    simpa [List.getD_eq_getElem?_getD, List.getElem?_eq_getElem hj', List.getElem?_eq_getElem (show i < (sortI l).length by omega)] using this) (sortI l).length (by simp)
  refine ⟨h1, fun x => (h2 x).trans ?_⟩
  rw [← List.mem_mergeSort (le := fun x y => decide (x ≤ y)) (l := l)]
  constructor
  · rintro ⟨j, hj, rfl⟩
    rw [hg j hj, List.getD_eq_getElem?_getD, List.getElem?_eq_getElem hj]
    exact List.getElem_mem hj
  · intro hx
    obtain ⟨j, hj, rfl⟩ := List.getElem_of_mem hx
    exact ⟨j, hj, by rw [hg j hj, List.getD_eq_getElem?_getD, List.getElem?_eq_getElem hj]; rfl⟩
/-- The scopes of all names, one behind the other: their set is what the reference comes to. -/
def catAll (s : List Int) (y : Fm) : List Int := s ++ y.f3
mutual
theorem mem_cat : ∀ (x : Fm) (l : List Int) (n : Int), n ∈ foldF catAll x l ↔ n ∈ foldF unionAll x l
  | ⟨a, b, c, d, ks⟩, l, n => by
    rw [foldF, foldF, mem_catL ks, mem_allL ks, mem_allL ks (unionAll l _)]
    show n ∈ l ++ d ∨ _ ↔ n ∈ d.foldl putS l ∨ _
    rw [mem_putL, List.mem_append]
theorem mem_catL : ∀ (ks : List Fm) (l : List Int) (n : Int), n ∈ foldFs catAll ks l ↔ n ∈ foldFs unionAll ks l
  | [], l, n => by rw [foldFs, foldFs]
  | k :: ks, l, n => by
    rw [foldFs, foldFs, mem_catL ks, mem_allL ks, mem_allL ks (foldF unionAll k l), mem_cat k]
end
theorem compact_cat (x : Fm) : Lib.compact (sortI (foldF catAll x [])) = foldF unionAll x [] :=
  srt_ext (compact_sort _).1 (srt_all x List.Pairwise.nil) (fun n => ((compact_sort _).2 n).trans (mem_cat x [] n))
def laysNm189_ren : Go.Shelf.Ren := ⟨fun | 125 => 124 | 128 => 145 | 129 => 146 | 189 => 84 | 215 => 151 | 216 => 132 | 257 => 123 | 294 => 137 | 295 => 138 | 296 => 139 | 297 => 140 | 298 => 141 | 299 => 142 | 300 => 143 | 301 => 144 | 328 => 153 | 329 => 154 | 330 => 155 | 331 => 156 | 332 => 157 | 343 => 160 | n => n, fun | 0 => 0 | 3 => 3 | 4 => 4 | 5 => 5 | 9 => 9 | 28 => 22 | 46 => 118 | 51 => 133 | 53 => 135 | 131 => 108 | 182 => 126 | 183 => 127 | 218 => 138 | 222 => 115 | 228 => 143 | 229 => 144 | n => n, fun | n => n⟩
theorem laysNm189 : Go.Proofs.Lays.n189 Try.prog laysNm189_ren := {
  mixed := by kernel_rfl
  f125 := Try.func124.trans (congrArg some (by kernel_rfl))
  f128 := Try.func145.trans (congrArg some (by kernel_rfl))
  f129 := Try.func146.trans (congrArg some (by kernel_rfl))
  f189 := Try.func84.trans (congrArg some (by kernel_rfl))
  f215 := Try.func151.trans (congrArg some (by kernel_rfl))
  f216 := Try.func132.trans (congrArg some (by kernel_rfl))
  f257 := Try.func123.trans (congrArg some (by kernel_rfl))
  f294 := Try.func137.trans (congrArg some (by kernel_rfl))
  f295 := Try.func138.trans (congrArg some (by kernel_rfl))
  f296 := Try.func139.trans (congrArg some (by kernel_rfl))
  f297 := Try.func140.trans (congrArg some (by kernel_rfl))
  f298 := Try.func141.trans (congrArg some (by kernel_rfl))
  f299 := Try.func142.trans (congrArg some (by kernel_rfl))
  f300 := Try.func143.trans (congrArg some (by kernel_rfl))
  f301 := Try.func144.trans (congrArg some (by kernel_rfl))
  f328 := Try.func153.trans (congrArg some (by kernel_rfl))
  f329 := Try.func154.trans (congrArg some (by kernel_rfl))
  f330 := Try.func155.trans (congrArg some (by kernel_rfl))
  f331 := Try.func156.trans (congrArg some (by kernel_rfl))
  f332 := Try.func157.trans (congrArg some (by kernel_rfl))
  f343 := Try.func160.trans (congrArg some (by kernel_rfl))
  t0 := Try.underlying0
  a0 := Try.isAgg0
  z0 := Try.sizeOf0
  v0 := Try.zeroValue0
  t3 := Try.underlying3
  a3 := Try.isAgg3
  z3 := Try.sizeOf3
  v3 := Try.zeroValue3
  t4 := Try.underlying4
  a4 := Try.isAgg4
  z4 := Try.sizeOf4
  v4 := Try.zeroValue4
  t5 := Try.underlying5
  a5 := Try.isAgg5
  z5 := Try.sizeOf5
  v5 := Try.zeroValue5
  t9 := Try.underlying9
  a9 := Try.isAgg9
  z9 := Try.sizeOf9
  v9 := Try.zeroValue9
  t28 := Try.underlying22
  a28 := Try.isAgg22
  z28 := Try.sizeOf22
  v28 := Try.zeroValue22
  t46 := Try.underlying118
  a46 := Try.isAgg118
  z46 := Try.sizeOf118
  v46 := Try.zeroValue118
  t51 := Try.underlying133
  a51 := Try.isAgg133
  z51 := Try.sizeOf133
  v51 := Try.zeroValue133
  t53 := Try.underlying135
  a53 := Try.isAgg135
  z53 := Try.sizeOf135
  v53 := Try.zeroValue135
  t131 := Try.underlying108
  a131 := Try.isAgg108
  z131 := Try.sizeOf108
  v131 := Try.zeroValue108
  t182 := Try.underlying126
  a182 := Try.isAgg126
  z182 := Try.sizeOf126
  v182 := Try.zeroValue126
  t183 := Try.underlying127
  a183 := Try.isAgg127
  z183 := Try.sizeOf127
  v183 := Try.zeroValue127
  t218 := Try.underlying138
  a218 := Try.isAgg138
  z218 := Try.sizeOf138
  v218 := Try.zeroValue138
  t222 := Try.underlying115
  a222 := Try.isAgg115
  z222 := Try.sizeOf115
  v222 := Try.zeroValue115
  t228 := Try.underlying143
  a228 := Try.isAgg143
  z228 := Try.sizeOf143
  v228 := Try.zeroValue143
  t229 := Try.underlying144
  a229 := Try.isAgg144
  z229 := Try.sizeOf144
  v229 := Try.zeroValue144 }
def laysNm220_ren : Go.Shelf.Ren := ⟨fun | 20 => 85 | n => n, fun | 0 => 0 | 3 => 3 | 4 => 4 | 22 => 22 | n => n, fun | n => n⟩
theorem laysNm220 : Go.Proofs.Lays2.n20 Try.prog laysNm220_ren := {
  mixed := by kernel_rfl
  f20 := Try.func85.trans (congrArg some (by kernel_rfl))
  t0 := Try.underlying0
  a0 := Try.isAgg0
  z0 := Try.sizeOf0
  v0 := Try.zeroValue0
  t3 := Try.underlying3
  a3 := Try.isAgg3
  z3 := Try.sizeOf3
  v3 := Try.zeroValue3
  t4 := Try.underlying4
  a4 := Try.isAgg4
  z4 := Try.sizeOf4
  v4 := Try.zeroValue4
  t22 := Try.underlying22
  a22 := Try.isAgg22
  z22 := Try.sizeOf22
  v22 := Try.zeroValue22
  i3 := by kernel_rfl }
theorem sortI_any (xs : List Int) (v : Value) (B : Nat) (w : World) (h : w.ownsRow B 3 1 v xs.length (encI xs)) (hlen : xs.length ≤ 10000000) :
    Calls Try.prog 84 #[v] w (fun e w' => e = .returned (.tuple #[]) ∧ w'.ownsRow B 3 1 v (sortI xs).length (encI (sortI xs)) ∧ Mk (obs v) w w') := by
  have hl2 : (sortI xs).length = xs.length := List.length_mergeSort xs
  rcases h with ⟨_, ⟨rfl, h0⟩ | ⟨g, cap, cur, rfl, hg, hh, hnc, hcm, hcs, htake⟩⟩
  · have hxs : xs = [] := List.eq_nil_of_length_eq_zero h0
    subst hxs
    refine (Any.slices_Sort_int_none laysNm189 none 0 w).mono ?_
    rintro e w' ⟨rfl, rfl⟩
    exact ⟨rfl, by simp [World.ownsRow, encs], Mk.refl _ _⟩
  · rw [Nat.mul_one] at htake
    refine (Any.slices_Sort_int laysNm189 g 0 cap xs w (holds_of_blockI hh htake) (blk_lt hh) (by omega)).mono ?_
    rintro e w' ⟨rfl, n, os, rfl⟩
    refine ⟨rfl, ?_, ?_⟩
    · have := ownsRow_sortedI (os := os) (n := n) (ts := sortI xs) hl2 hg hh hnc hcm hcs
      rw [← hl2] at this
      rw [← hl2] 
      exact this
    · have hg := grownBy_sortedI (w := w) (g := g) (n := n) (os := os) (sortI xs).toArray
      exact ⟨⟨hg.os, hg.tape, hg.output, hg.size, fun k hk => absurd hk (Nat.not_lt_zero k)⟩, fun b hb hn => hg.block b hb (fun e => hn (by simpa [obs, Value.ownBlock] using e))⟩
theorem compactI_any (xs : List Int) (v : Value) (B : Nat) (w : World) (h : w.ownsRow B 3 1 v xs.length (encI xs)) (hlen : xs.length ≤ 10000000) :
    Calls Try.prog 85 #[v] w (fun e w' => ∃ v', e = .returned v' ∧ w'.ownsRow B 3 1 v' (Lib.compact xs).length (encI (Lib.compact xs)) ∧ Mk (obs v) w w' ∧ (∀ b, v'.ownBlock = some b → v.ownBlock = some b)) := by
  rcases h with ⟨_, ⟨rfl, h0⟩ | ⟨g, cap, cur, rfl, hg, hh, hnc, hcm, hcs, htake⟩⟩
  · have hxs : xs = [] := List.eq_nil_of_length_eq_zero h0
    subst hxs
    refine (Any.slices_Compact_int_empty laysNm220 none 0 w).mono ?_
    rintro e w' ⟨rfl, rfl⟩
    exact ⟨_, rfl, by simp [World.ownsRow, encs, Lib.compact, Lib.compactUpTo], Mk.refl _ _, fun b hb => hb⟩
  · rw [Nat.mul_one] at htake hcs
    have hle := Lib.compact_length_le xs
    refine (Any.slices_Compact_int laysNm220 g 0 cap xs w (holds_of_blockI hh htake) (by omega) hnc).mono ?_
    rintro e w' ⟨rfl, q, rfl⟩
    generalize hcx : Lib.compact xs = cx at hle ⊢
    have hlt : (cx ++ List.replicate (xs.length - cx.length) (0 : Int)).length = xs.length := by simp; omega
    have hb := heap_sortedI (w := w) (g := g) (n := q) (os := #[]) (cx ++ List.replicate (xs.length - cx.length) (0 : Int)).toArray hh
    have hk := grownBy_sortedI (w := w) (g := g) (n := q) (os := #[]) (cx ++ List.replicate (xs.length - cx.length) (0 : Int)).toArray
    rw [Sort.grow_empty] at hb hk
    have ht := take_putCellsI cur (cx ++ List.replicate (xs.length - cx.length) (0 : Int)) (by rw [hlt]; omega)
    refine ⟨_, rfl, ⟨by simp [encs], .inr ⟨g, cap, _, rfl, hg, hb, by omega, hcm, by simp [Sort.putCells, hcs], ?_⟩⟩, ?_, fun b hb => hb⟩
    · rw [Nat.mul_one]
      have h2 := congrArg (List.take cx.length) ht
      rw [List.take_take, Nat.min_eq_left (by omega), List.map_append] at h2
      rw [h2]
      exact List.take_left' (by simp)
    · exact ⟨⟨hk.os, hk.tape, hk.output, hk.size, fun k hk => absurd hk (Nat.not_lt_zero k)⟩, fun b hb hn => hk.block b hb (fun e => hn (by simpa [obs, Value.ownBlock] using e))⟩
mutual
theorem cost_sc : ∀ x : Fm, costF (fun y => y.f3.length) x ≤ x.tot
  | ⟨a, b, c, d, ks⟩ => by
    rw [costF, Fm.tot_eq]
    have := cost_scL ks
    show d.length + _ ≤ b.size + d.length + totL ks
    omega
theorem cost_scL : ∀ ks : List Fm, costFs (fun y => y.f3.length) ks ≤ totL ks
  | [] => by rw [costFs]; omega
  | k :: ks => by
    rw [costFs]
    have h1 := cost_scL ks
    have h2 := cost_sc k
    simp only [totL]
    omega
end
/-- The variable that the scopes are laid into: its block, and its row. -/
def StI (g0 B : Nat) (W : World) (S : List Nat) (s : List Int) : Prop := ∃ v, W.heap[g0]? = some (.cells #[v] 22 (0, 0)) ∧ W.ownsRow B 3 1 v s.length (encI s) ∧ v.ownBlock ≠ some g0 ∧ S = g0 :: obs v
theorem StI.move {g0 B : Nat} (w w' : World) (S : List Nat) (s : List Int) (h : StI g0 B w S s) (hm : ∀ b, b ∈ S → w'.heap[b]? = w.heap[b]?) : StI g0 B w' S s := by
  obtain ⟨v, h1, h2, h3, rfl⟩ := h
  exact ⟨v, (hm g0 List.mem_cons_self).trans h1, own_move h2 (fun k hk => hm k (List.mem_cons_of_mem _ (obs_mem.2 hk))), h3, rfl⟩
theorem StI.lt {g0 B : Nat} (w : World) (S : List Nat) (s : List Int) (h : StI g0 B w S s) : ∀ b, b ∈ S → b < w.heap.size := by
  obtain ⟨v, h1, h2, h3, rfl⟩ := h
  intro b hb
  rcases List.mem_cons.1 hb with rfl | hb
  · exact blk_lt h1
  · exact own_lt h2 b (obs_mem.1 hb)
set_option maxHeartbeats 1000000 in
theorem scopes1_any (g0 : Nat) (w0 : World) (y : Fm) (A3 : Option Addr) (c3 : Nat) (A4 : Option Addr) (c4 : Nat) (s : List Int) (S : List Nat) (w : World) (hin : FmIn w0 y A3 c3 A4 c4) (hb : Below w0.heap.size w0 w) (hs : StI g0 w0.heap.size w S s) (hS : ∀ b, b ∈ S → w0.heap.size ≤ b) (hN : s.length + y.f3.length ≤ 10000000) :
    Calls Try.prog 83 (#[.agg #[.int .i64 y.f0, .string y.f1, .int .i64 y.f2, .slice A3 y.f3.length c3, .slice A4 y.f4.length c4]] ++ #[.pointer (some ⟨g0, 0, none⟩)]) w (StPost (StI g0 w0.heap.size) S (catAll s y) w) := by
  obtain ⟨v, h1, h2, h3, rfl⟩ := hs
  obtain ⟨D, m, rfl, hDm, _⟩ := own_C (own_less h2 (Nat.zero_le _))
  have hbx := below_new w (.cells #[.int .i64 y.f0, .string y.f1, .int .i64 y.f2, .slice A3 y.f3.length c3, .slice A4 y.f4.length c4] 29)
  have hkb := blk_new w (.cells #[.int .i64 y.f0, .string y.f1, .int .i64 y.f2, .slice A3 y.f3.length c3, .slice A4 y.f4.length c4] 29)
  obtain ⟨p0, p1, p2, p3, p4⟩ := fm_cells hkb
  have q0 : (w.alloc (.cells #[.int .i64 y.f0, .string y.f1, .int .i64 y.f2, .slice A3 y.f3.length c3, .slice A4 y.f4.length c4] 29)).cell? ⟨g0, 0, none⟩ = some (.slice D s.length m) := (blk_cell (blk_below h1 hbx) 0).trans rfl
  have HR := Aside0.mk (Kd.R_of_own (ok := fun _ => True) (h1 := fun _ => rfl) (own_move h2 (fun k hk => hbx.block k (own_lt h2 k hk))) (fun _ _ => trivial))
  have HC := Aside0.mk (Kd.C_below hin.g3 (below_step hb hbx))
  have HB := Lib.hid (below_step hb hbx)
  have H0 := Lib.hid (And.intro h1 (And.intro h3 (And.intro (own_lt h2) hS)))
  have HX := Lib.hid (And.intro hbx hb)
  clear hkb hbx h1 h2 h3 hS hin hb
  go_enter Try.func83, Try.ntmps83
  go_wp2_with (first | ((with_reducible refine gate_dst (N := 6) rfl ?_); refine Kd.R_append_row (Value.int .i64) (0 : Int) (w0 := w0) w0.heap.size rfl (.tmp 3) (.tmp 5) 22 3 (.int .i64 0) 8 rfl Try.underlying22 infoI rfl (by decide) (.slice D s.length m) s y.f3 A3 y.f3.length c3 (fun _ => True) rfl rfl (fun _ _ => trivial) HR.out HC.out HB.out HB.out.size (by omega) ?_; intro v1 w1 ho1 hb1 hg1 hat1; obtain ⟨E5, e5, e6⟩ := Kd.R_slice ho1; subst e6; have q1 : w1.heap[g0]? = some (.cells #[.slice D s.length m] 22 (0, 0)) := blk_grown (blk_below H0.out.1 HX.out.1) hg1 (fun e => H0.out.2.1 e.symm); have q2 : w1.cell? ⟨g0, 0, none⟩ = some (.slice D s.length m) := (blk_cell q1 0).trans rfl; have q3 := blk_frozen q1 0; have HF := Lib.hid (And.intro q1 (And.intro (Kd.own_of_R ho1) (And.intro hg1 hat1))); clear ho1 hb1 hg1 hat1 q1))
  go_end0
  rw [show Value.slice E5 (s ++ y.f3).length e5 = Value.slice E5 (s.length + y.f3.length) e5 from by rw [List.length_append]] at HF
  generalize Value.slice E5 (s.length + y.f3.length) e5 = v1 at HF ⊢
  obtain ⟨q1, ho, hg, hat⟩ := HF.out
  have hne : v1.ownBlock ≠ some g0 := by
    rcases hat with e | ⟨b, e, hb⟩
    · rw [e]; exact H0.out.2.1
    · rw [e]
      intro he
      cases he
      have := blk_lt (blk_below H0.out.1 HX.out.1)
      omega
  refine ⟨rfl, g0 :: obs v1, ⟨v1, by simpa using blk_set q1 0 v1, own_move ho (fun k hk => Below.heap_setCell _ _ _ _ (by show k ≠ g0; rintro rfl; exact hne hk)), hne, rfl⟩, ?_, fun b hb => ?_⟩
  · refine ⟨?_, fun b hb hn => ?_⟩
    · have := hg.size
      exact ⟨hg.os.trans HX.out.1.os, hg.tape.trans HX.out.1.tape, hg.output.trans HX.out.1.output, by simpa using Nat.le_trans HX.out.1.size this, fun k hk => absurd hk (Nat.not_lt_zero k)⟩
    · rw [Below.heap_setCell _ _ _ _ (by show b ≠ g0; rintro rfl; exact hn List.mem_cons_self)]
      rw [hg.block b (Nat.lt_of_lt_of_le hb HX.out.1.size) (fun e => hn (List.mem_cons_of_mem _ (obs_mem.2 e.symm)))]
      exact HX.out.1.block b hb
  · rcases List.mem_cons.1 hb with rfl | hb
    · exact .inl List.mem_cons_self
    · rcases hat with e | ⟨c, e, hc⟩
      · exact .inl (List.mem_cons_of_mem _ (obs_mem.2 (by rw [← e]; exact obs_mem.1 hb)))
      · have hbc := obs_mem.1 hb
        rw [e] at hbc
        cases hbc
        exact .inr (Nat.le_trans HX.out.1.size hc)
set_option maxHeartbeats 1000000 in
theorem implScopes_own (x : Fm) (A3 : Option Addr) (c3 : Nat) (A4 : Option Addr) (c4 : Nat) (w : World) (hin : FmIn w x A3 c3 A4 c4) (ht : x.tot ≤ 1048576) :
    Calls Try.prog 35 #[.agg #[.int .i64 x.f0, .string x.f1, .int .i64 x.f2, .slice A3 x.f3.length c3, .slice A4 x.f4.length c4]] w (RetI w (scAll x)) := by
  obtain ⟨k1, k2, k3, hb0⟩ := three_new (w := w) (O1 := .cells #[.int .i64 x.f0, .string x.f1, .int .i64 x.f2, .slice A3 x.f3.length c3, .slice A4 x.f4.length c4] 29) (O2 := .cells #[] 3) (O3 := .cells #[.slice (some ⟨w.heap.size + 1, 0, none⟩) 0 0] 22) (Below.refl _ _)
  have HV := Lib.hid (implValid_any x A3 c3 A4 c4 _ (hin.below hb0) ht)
  have HI := Lib.hid hin
  have HB := Lib.hid hb0
  have HK := Lib.hid (And.intro k1 (And.intro k2 k3))
  have HT := Lib.hid ht
  clear hin hb0 ht k1 k2 k3
  unfold scAll
  rcases hv : pB (FmOk x) with _ | _
  · rw [hv] at HV
    rw [if_neg (by simp)]
    go_enter Try.func35, Try.ntmps35
    go_wp2_with fail
    refine HV.out.mono ?_
    rintro e w4 ⟨rfl, hb⟩
    have HB4 := Lib.hid (below_step HB.out hb)
    have h0 := (blk_cell (blk_below HK.out.2.2 hb) 0).trans rfl
    have HK2 := Lib.hid (blk_below HK.out.2.1 hb)
    clear hb
    go_wp2_with fail
    go_ret
    exact ⟨_, rfl, R_block HK2.out (by omega) trivial rfl (Nat.le_refl _) (by simp) rfl rfl, HB4.out⟩
  · rw [hv] at HV
    rw [if_pos rfl]
    have HEV := Lib.hid (compact_cat x)
    generalize foldF unionAll x [] = fin at HEV ⊢
    go_enter Try.func35, Try.ntmps35
    go_wp2_with fail
    refine HV.out.mono ?_
    rintro e w4 ⟨rfl, hb⟩
    have HB4 := Lib.hid (below_step HB.out hb)
    obtain ⟨p0, p1, p2, p3, p4⟩ := fm_cells (blk_below HK.out.1 hb)
    have K2 := blk_below HK.out.2.1 hb
    have hst : StI (w.heap.size + 1 + 1) w.heap.size w4 [w.heap.size + 1 + 1, w.heap.size + 1] [] := ⟨_, blk_below HK.out.2.2 hb, ⟨by simp [encs], .inr ⟨_, 0, #[], rfl, by omega, K2, Nat.le_refl _, Nat.zero_le _, rfl, by simp [encs]⟩⟩, by simp [Value.ownBlock], by simp [obs, Value.ownBlock]⟩
    have HE := Lib.hid (eachForm_any w 83 #[.pointer (some ⟨w.heap.size + 1 + 1, 0, none⟩)] (StI (w.heap.size + 1 + 1) w.heap.size) catAll List.length (fun y => y.f3.length) 10000000 (enters_of Try.func83 (by kernel_rfl) rfl)
      StI.move StI.lt (fun s y => by simp [catAll]) (fun y B3 d3 B4 d4 s S W hy hbW hsW hSW hNW => scopes1_any _ w y B3 d3 B4 d4 s S W hy hbW hsW hSW hNW) x A3 c3 A4 c4 [] _ w4 HI.out HB4.out hst (by simp; omega) (by have := cost_sc x; have := HT.out; simp; omega))
    clear hst K2 hb
    go_wp2_with fail
    clear p0 p1 p2 p3 p4
    refine HE.out.mono ?_
    rintro e w5 ⟨rfl, S', hst, hM, hS'⟩
    have hlen := foldFs_len (step := catAll) (len := List.length) (cost := fun y => y.f3.length) (fun s y => by simp [catAll]) x []
    have hln : (foldF catAll x []).length ≤ 1048576 := by have := cost_sc x; have := HT.out; simp at hlen; omega
    generalize foldF catAll x [] = cat at hst HEV hlen hln
    obtain ⟨v, hg0, ho, hne, rfl⟩ := hst
    obtain ⟨D, m, rfl, _, _⟩ := own_C (own_less ho (Nat.zero_le _))
    have c0 := (blk_cell hg0 0).trans rfl
    have hlt5 := own_lt ho
    have hge : ∀ b, (Value.slice D cat.length m).ownBlock = some b → w.heap.size ≤ b := fun b hb2 => by
      rcases hS' b (List.mem_cons_of_mem _ (obs_mem.2 hb2)) with h | h
      · simp at h; omega
      · exact Nat.le_trans HB4.out.size h
    have HSO := Lib.hid (sortI_any cat _ w.heap.size w5 ho (by omega))
    have HG := Lib.hid (And.intro hg0 (And.intro hne (And.intro hge hlt5)))
    have HB5 := Lib.hid (HB4.out.trans (hM.below HB4.out.size (by simp; omega)))
    have HLN := Lib.hid hln
    clear hM hS' hg0 ho hne hge hlen hln hlt5
    go_wp2_with fail
    clear c0
    refine HSO.out.mono ?_
    rintro e w6 ⟨rfl, ho, hM⟩
    have hg6 := (hM.keep _ (blk_lt HG.out.1) (fun hm => HG.out.2.1 (obs_mem.1 hm))).trans HG.out.1
    have c0 := (blk_cell hg6 0).trans rfl
    have HCO := Lib.hid (compactI_any (sortI cat) _ w.heap.size w6 ho (by rw [List.length_mergeSort]; have := HLN.out; omega))
    have HB6 := Lib.hid (HB5.out.trans (hM.below HB5.out.size (fun b hb => HG.out.2.2.1 b (obs_mem.1 hb))))
    clear hM hg6 ho
    go_wp2_with fail
    clear c0
    refine HCO.out.mono ?_
    rintro e w7 ⟨v', rfl, ho, hM, hv'⟩
    have HF := Lib.hid (And.intro ho (hM.below HB6.out.size (fun b hb => HG.out.2.2.1 b (obs_mem.1 hb))))
    clear ho hM hv'
    go_wp2_with fail
    go_ret
    refine ⟨v', rfl, ?_, HB6.out.trans HF.out.2⟩
    have := HF.out.1
    rw [HEV.out] at this
    exact Kd.R_of_own this (fun _ _ => trivial)
end Go.Proofs.Ytnaefjilcabkoaa
end
section
namespace Go.Proofs.Ytnaefjilcabkoaa
open Go.RowKit Go.Proofs.YtnaefjilcabkoaaW.PrintWords Go.Proofs.YtnaefjilcabkoaaW.PrintLast Go.Proofs.YtnaefjilcabkoaaW.PrintMore
set_option linter.unusedVariables false
set_option linter.unusedSimpArgs false
theorem scAllLen (x : Fm) : (scAll x).length ≤ x.tot := by
  unfold scAll
  split
  · have := len_all x []; simpa using this
  · exact Nat.zero_le _
theorem implScO {x : Fm} {l : List Int} (hz : scAll x = l) (A3 : Option Addr) (c3 : Nat) (A4 : Option Addr) (c4 : Nat) (w : World) (hin : FmIn w x A3 c3 A4 c4) (ht : x.tot ≤ 1048576) :
    Calls Try.prog 35 #[.agg #[.int .i64 x.f0, .string x.f1, .int .i64 x.f2, .slice A3 x.f3.length c3, .slice A4 x.f4.length c4]] w (GetOI w l) := by
  have := (implScopes_own x A3 c3 A4 c4 w hin ht).mono (fun e w' h => h.getOI)
  rwa [hz] at this
end Go.Proofs.Ytnaefjilcabkoaa
end
section
namespace Go.Proofs.Ytnaefjilcabkoaa
open Go.RowKit Go.Proofs.YtnaefjilcabkoaaW.PrintWords Go.Proofs.YtnaefjilcabkoaaW.PrintLast Go.Proofs.YtnaefjilcabkoaaW.PrintMore
open Go.ChangeShapes Go.WideShapes Go.ChangeAt Go.Deep
set_option linter.unusedVariables false

section
variable {H : Type} {enc : TypeId × Value → H} {W : World} {held : Bool}
theorem trod_ints (fuel : Nat) (cs : List Value) (y : DataW H × List MemPlace) (h : DataW.trod enc Try.prog W 0 (fun _ => true) held fuel 22 cs = some y) :
    ∃ (A : Option Addr) (c : Nat) (zs : List Int), cs = [.slice A zs.length c] ∧ zs.length ≤ c ∧ kI.C W A zs.length zs := by
  rcases open_slice1 Try.underlying22 (by kernel_rfl) h with ⟨rfl, _⟩ | ⟨a, len, cap, m, n, V, D, Pl, rfl, _, hl, hm, hmm, rfl, hx⟩
  · exact ⟨none, 0, [], rfl, Nat.le_refl _, Kd.C_nil _ _⟩
  · obtain ⟨f, hf⟩ := choose_lt (α := Int) (n := len) (p := fun i z => W.cell? (a.add i) = some (.int .i64 z)) (fun i hi => by
      obtain ⟨h1, h2⟩ := hx i (by rw [hmm]; simp; omega)
      obtain ⟨z, e, _⟩ := DataW.trod_int Try.underlying3 h2
      rw [List.cons.injEq] at e
      exact ⟨z, by rw [h1, e.1]⟩)
    have hlen : ((List.range len).map f).length = len := by simp
    refine ⟨some a, cap, (List.range len).map f, by rw [hlen], by omega, by rw [hlen], by rw [hlen]; unfold maxLen at hm; omega, fun _ => ⟨a, rfl, fun j p hj => ⟨[.int .i64 p], rfl, rfl, fun i u hu => ?_⟩⟩⟩
    have hjl : j < len := by have := (List.getElem?_eq_some_iff.1 hj).1; omega
    have hp : f j = p := by simpa [hjl] using hj
    cases i with
    | zero =>
      have : Value.int .i64 p = u := by simpa using hu
      subst this
      rw [← hp]
      show W.cell? (a.add (j * 1 + 0)) = _
      simpa using hf j hjl
    | succ i => simp at hu
instance : Inhabited Fm := ⟨zFm⟩
theorem len5 {α : Type} {l : List α} (h : l.length = 5) : ∃ a b c d e, l = [a, b, c, d, e] := by
  rcases l with _ | ⟨a, _ | ⟨b, _ | ⟨c, _ | ⟨d, _ | ⟨e, _ | ⟨f, l⟩⟩⟩⟩⟩⟩ <;> simp at h
  exact ⟨a, b, c, d, e, rfl⟩
theorem trod_forms_of (fuel : Nat) (ih : ∀ m, m < fuel → ∀ (cs : List Value) (y : DataW H × List MemPlace), DataW.trod enc Try.prog W 0 (fun _ => true) held m 25 cs = some y → ∃ x, kF.K W x cs ∧ NmSmall x)
    (cs : List Value) (y : DataW H × List MemPlace) (h : DataW.trod enc Try.prog W 0 (fun _ => true) held fuel 23 cs = some y) :
    ∃ (A : Option Addr) (c : Nat) (ks : List Fm), cs = [.slice A ks.length c] ∧ ks.length ≤ c ∧ kF.C W A ks.length ks ∧ ∀ k, k ∈ ks → NmSmall k := by
  rcases DataW.trod_slice Try.underlying23 h with ⟨rfl, _⟩ | ⟨a, len, cap, elems, rest, n, rfl, rfl, rfl, hb, hl, hm, hlen, hel, _, _⟩
  · exact ⟨none, 0, [], rfl, Nat.le_refl _, Kd.C_nil _ _, fun k hk => by cases hk⟩
  · have h5 : Try.prog.cellsOf 25 = 5 := by kernel_rfl
    rw [h5] at hel
    obtain ⟨f, hf⟩ := choose_lt (α := Fm) (n := len) (p := fun i x => (∃ cs', W.cells? 0 (a.add (i * 5)) 5 = some cs' ∧ kF.K W x cs') ∧ NmSmall x) (fun i hi => by
      have h1 := hel i hi
      rw [List.getElem?_eq_getElem (by omega)] at h1
      obtain ⟨cs', h2, h3⟩ := Option.bind_eq_some_iff.1 h1
      obtain ⟨x, hK, hN⟩ := ih n (Nat.lt_succ_self n) cs' _ h3
      exact ⟨x, ⟨cs', h2, hK⟩, hN⟩)
    have hlen2 : ((List.range len).map f).length = len := by simp
    refine ⟨some a, cap, (List.range len).map f, by rw [hlen2], by omega, ⟨by rw [hlen2], by rw [hlen2]; unfold maxLen at hm; omega, fun _ => ⟨a, rfl, fun j p hj => ?_⟩⟩, fun k hk => ?_⟩
    · have hjl : j < len := by have := (List.getElem?_eq_some_iff.1 hj).1; omega
      have hp : f j = p := by simpa [hjl] using hj
      obtain ⟨⟨cs', h2, hK⟩, _⟩ := hf j hjl
      rw [hp] at hK
      obtain ⟨_, h3, h4⟩ := World.cells?_some h2
      refine ⟨cs', h3, hK, fun i u hu => ?_⟩
      have hi : i < 5 := by have := (List.getElem?_eq_some_iff.1 hu).1; omega
      have := h4 i hi
      rw [Deep.add_add, hu] at this
      exact this
    · obtain ⟨j, hj, rfl⟩ := List.mem_map.1 hk
      exact (hf j (List.mem_range.1 hj)).2
set_option maxRecDepth 100000 in
theorem trod_form : ∀ (fuel : Nat) (cs : List Value) (y : DataW H × List MemPlace), DataW.trod enc Try.prog W 0 (fun _ => true) held fuel 25 cs = some y → ∃ x, kF.K W x cs ∧ NmSmall x := by
  intro fuel
  induction fuel using Nat.strongRecOn with
  | _ fuel ih =>
    intro cs y h
    obtain ⟨xs, n, hfu, rfl, hl, hlen, hf⟩ := DataW.trod_struct Try.underlying25 h
    rw [show Try.prog.cellsOf 25 = 5 from by kernel_rfl] at hl
    obtain ⟨c0, c1, c2, c3, c4, rfl⟩ := len5 hl
    obtain ⟨y0, y1, y2, y3, y4, rfl⟩ := len5 (show xs.length = 5 from hlen)
    have f0 := hf 0 _ rfl
    have f1 := hf 1 _ rfl
    have f2 := hf 2 _ rfl
    have f3 := hf 3 _ rfl
    have f4 := hf 4 _ rfl
    simp only [List.getElem_toArray, List.getElem_cons_zero, List.getElem_cons_succ] at f0 f1 f2 f3 f4
    simp only [show Try.prog.cellsOf 3 = 1 from by kernel_rfl, show Try.prog.cellsOf 9 = 1 from by kernel_rfl, show Try.prog.cellsOf 22 = 1 from by kernel_rfl, show Try.prog.cellsOf 23 = 1 from by kernel_rfl, List.drop_succ_cons, List.drop_zero, List.take_succ_cons, List.take_zero, List.getElem?_cons_zero, List.getElem?_cons_succ] at f0 f1 f2 f3 f4
    obtain ⟨z0, e0, _⟩ := DataW.trod_int Try.underlying3 f0
    obtain ⟨s1, e1, _, hs1⟩ := DataW.trod_string Try.underlying9 f1
    obtain ⟨z2, e2, _⟩ := DataW.trod_int Try.underlying3 f2
    obtain ⟨A3, d3, zs, e3, l3, r3⟩ := trod_ints n _ _ f3
    obtain ⟨A4, d4, ks, e4, l4, r4, hN⟩ := trod_forms_of n (fun m hm => ih m (by omega)) _ _ f4
    rw [List.cons.injEq] at e0 e1 e2 e3 e4
    obtain ⟨rfl, _⟩ := e0
    obtain ⟨rfl, _⟩ := e1
    obtain ⟨rfl, _⟩ := e2
    obtain ⟨rfl, _⟩ := e3
    obtain ⟨rfl, _⟩ := e4
    exact ⟨⟨z0, s1, z2, zs, ks⟩, kF_mk (x := ⟨z0, s1, z2, zs, ks⟩) ⟨l3, r3, l4, r4⟩, .mk _ (by unfold maxLen at hs1; exact hs1) hN⟩
set_option maxRecDepth 100000 in
/-- An argument that is a form. -/
theorem open_form {v : Value} {d : DataW H} {p : List MemPlace} (hv : Value.okWide Try.prog W .any 0 25 v) (h : DataW.Trod enc Try.prog W 0 (fun _ => true) held 25 v d p) :
    ∃ (x : Fm) (A3 : Option Addr) (c3 : Nat) (A4 : Option Addr) (c4 : Nat), v = .agg #[.int .i64 x.f0, .string x.f1, .int .i64 x.f2, .slice A3 x.f3.length c3, .slice A4 x.f4.length c4] ∧ FmIn W x A3 c3 A4 c4 ∧ NmSmall x := by
  obtain ⟨cs, rfl, hsz⟩ := okWide_struct Try.underlying25 hv
  obtain ⟨fuel, hf⟩ := h
  obtain ⟨x, hK, hN⟩ := trod_form fuel _ _ hf
  obtain ⟨A3, c3, A4, c4, e, hin⟩ := kF_open hK
  refine ⟨x, A3, c3, A4, c4, ?_, hin, hN⟩
  have e2 : cs.toList = fmC x A3 c3 A4 c4 := by simpa [Value.cells] using e
  have e3 : cs = #[.int .i64 x.f0, .string x.f1, .int .i64 x.f2, .slice A3 x.f3.length c3, .slice A4 x.f4.length c4] := by
    rw [← Array.toArray_toList (xs := cs), e2]
  rw [e3]
set_option maxRecDepth 100000 in
/-- An argument that is a list of forms. -/
theorem open_forms {v : Value} {d : DataW H} {p : List MemPlace} (hv : Value.okWide Try.prog W .any 0 23 v) (h : DataW.Trod enc Try.prog W 0 (fun _ => true) held 23 v d p) :
    ∃ (ks : List Fm) (A : Option Addr) (c : Nat), v = .slice A ks.length c ∧ ks.length ≤ c ∧ kF.C W A ks.length ks ∧ ∀ k, k ∈ ks → NmSmall k := by
  obtain ⟨a0, len, cap, rfl⟩ := okWide_slice Try.underlying23 hv
  obtain ⟨fuel, hf⟩ := h
  obtain ⟨A, c, ks, e, l, r, hN⟩ := trod_forms_of fuel (fun m _ => trod_form m) _ _ hf
  have e2 : Value.slice a0 len cap = Value.slice A ks.length c := by simpa [Value.cells] using e
  exact ⟨ks, A, c, e2, l, r, hN⟩
end
end Go.Proofs.Ytnaefjilcabkoaa
end
section
namespace Go.Proofs.Ytnaefjilcabkoaa
open Go.RowKit Go.Proofs.YtnaefjilcabkoaaW.PrintWords Go.Proofs.YtnaefjilcabkoaaW.PrintLast Go.Proofs.YtnaefjilcabkoaaW.PrintMore
set_option linter.unusedVariables false
set_option linter.unusedSimpArgs false
abbrev kS : Kd ByteArray := Kd.string
instance decMemB (n : ByteArray) (xs : List ByteArray) : Decidable (n ∈ xs) := @List.instDecidableMemOfLawfulBEq ByteArray instBEqOfDecidableEq _ n xs
/-- The string at place i. -/
theorem str_at {w : World} {A : Option Addr} {n : Nat} {xs : List ByteArray} (h : kS.C w A n xs) (i : Nat) (h1 : i < xs.length) : ∃ ad, A = some ad ∧ w.cell? (ad.add i) = some (.string xs[i]) := by
  have hn := h.1
  obtain ⟨ad, c, e, _, hK, hc0⟩ := Kd.C_get h ByteArray.empty (i : Int) (by omega) (by omega)
  rw [Int.toNat_natCast] at hK hc0
  rw [show xs.getD i ByteArray.empty = xs[i] from by rw [List.getD_eq_getElem?_getD, List.getElem?_eq_getElem h1]; rfl] at hK
  have hc : ∀ j u, c[j]? = some u → w.cell? (ad.add (i * 1 + j)) = some u := hc0
  have hK2 : c = [.string xs[i]] := hK
  subst hK2
  exact ⟨ad, e, by simpa using hc 0 _ rfl⟩
set_option maxHeartbeats 1000000 in
theorem eqStringS_any (xs ys : List ByteArray) (A B : Option Addr) (c d : Nat) (w : World) (hr : kS.C w A xs.length xs) (hc : xs.length ≤ c) (hr2 : kS.C w B ys.length ys) (hc2 : ys.length ≤ d) :
    Calls Try.prog 23 #[.slice A xs.length c, .slice B ys.length d] w (Ret w (.bool (decide (xs = ys)))) := by
  have hmax := hr.2.1
  by_cases hl : xs.length = ys.length
  · have hl1 : ((xs.length : Int) == (ys.length : Int)) = true := by simp [hl]
    have hl2 : ((xs.length : Int) != (ys.length : Int)) = false := by simp [hl]
    have hl3 : (xs.length == ys.length) = true := by simp [hl]
    have hl4 : (xs.length != ys.length) = false := by simp [hl]
    have HL := Lib.hid hl
    clear hl
    go_enter Try.func23, Try.ntmps23
    go_wp2_with fail
    go_loopg [5] xs.length (fun kq v5 w' => ∃ i : Nat, i ≤ xs.length ∧ xs.length - i ≤ kq ∧ v5 = .int .i64 i ∧ Aside0 (∀ j (h : j < xs.length) (h2 : j < ys.length), j < i → xs[j] = ys[j]) ∧ Aside0 (Below w.heap.size w w'))
    case atStart => exact ⟨0, Nat.zero_le _, by omega, rfl, ⟨fun j _ _ h => absurd h (by omega)⟩, ⟨Below.refl _ _⟩⟩
    case round =>
      obtain ⟨i, hi, hg, rfl, HN, HW⟩ := hrel
      by_cases hlt : i < xs.length
      · have hlt2 : i < ys.length := by have := HL.out; omega
        obtain ⟨ad, e, hcell⟩ := str_at (Kd.C_below hr HW.out) i hlt
        subst e
        obtain ⟨ad2, e2, hcell2⟩ := str_at (Kd.C_below hr2 HW.out) i hlt2
        subst e2
        by_cases he : xs[i] = ys[i]
        · have hb1 : (xs[i].toList == ys[i].toList) = true := by rw [he]; simp
          have hb2 : (xs[i].toList != ys[i].toList) = false := by rw [he]; simp
          have HE := Lib.hid he
          clear he
          go_wp2_with fail
          go_quiet (fail)
          go_wp2_with fail
          go_roundg (xs.length - (i + 1))
          case measure => omega
          case rel =>
            refine ⟨i + 1, by omega, Nat.le_refl _, by go_num, ⟨fun j hj hj2 hji => ?_⟩, ⟨pw_below_drewN HW.out _⟩⟩
            rcases Nat.lt_or_ge j i with h | h
            · exact HN.out j hj hj2 h
            · obtain rfl : j = i := by omega
              exact HE.out
        · have hb1 : (xs[i].toList == ys[i].toList) = false := by rw [beq_eq_false_iff_ne]; exact fun h => he (toList_inj h)
          have hb2 : (xs[i].toList != ys[i].toList) = true := by rw [bne_iff_ne]; exact fun h => he (toList_inj h)
          have HE := Lib.hid he
          clear he
          go_wp2_with fail
          go_quiet (fail)
          go_wp2_with fail
          go_ret
          refine ⟨ret_b (decide_eq_false (fun h => HE.out ?_)).symm, pw_below_drewN HW.out _⟩
          subst h
          rfl
      · obtain rfl : i = xs.length := by omega
        go_wp2_with fail
        go_ret
        refine ⟨ret_b (decide_eq_true (List.ext_getElem HL.out (fun j hj hj2 => HN.out j hj hj2 hj))).symm, HW.out⟩
  · have hl1 : ((xs.length : Int) == (ys.length : Int)) = false := by simp; omega
    have hl2 : ((xs.length : Int) != (ys.length : Int)) = true := by simp; omega
    have hl3 : (xs.length == ys.length) = false := by simp [hl]
    have hl4 : (xs.length != ys.length) = true := by simp [hl]
    have HL := Lib.hid hl
    clear hl
    go_enter Try.func23, Try.ntmps23
    go_wp2_with fail
    go_ret
    exact ⟨ret_b (decide_eq_false (fun h => HL.out (by rw [h]))).symm, Below.refl _ _⟩
set_option maxHeartbeats 1000000 in
theorem l1In_any (xs : List ByteArray) (n : ByteArray) (A : Option Addr) (c : Nat) (w : World) (hr : kS.C w A xs.length xs) (hc : xs.length ≤ c) :
    Calls Try.prog 108 #[.slice A xs.length c, .string n] w (Ret w (.bool (decide (n ∈ xs)))) := by
  have hmax := hr.2.1
  go_enter Try.func108, Try.ntmps108
  go_wp2_with fail
  go_loopg [5] xs.length (fun kq v5 w' => ∃ i : Nat, i ≤ xs.length ∧ xs.length - i ≤ kq ∧ v5 = .int .i64 i ∧ Aside0 (∀ j (h : j < xs.length), j < i → xs[j] ≠ n) ∧ Aside0 (Below w.heap.size w w'))
  case atStart => exact ⟨0, Nat.zero_le _, by omega, rfl, ⟨fun j _ h => absurd h (by omega)⟩, ⟨Below.refl _ _⟩⟩
  case round =>
    obtain ⟨i, hi, hg, rfl, HN, HW⟩ := hrel
    by_cases hlt : i < xs.length
    · obtain ⟨ad, e, hcell⟩ := str_at (Kd.C_below hr HW.out) i hlt
      subst e
      by_cases he : xs[i] = n
      · have hb : (xs[i].toList == n.toList) = true := by rw [he]; simp
        have hm : n ∈ xs := he ▸ List.getElem_mem hlt
        have HM := Lib.hid hm
        clear he hm
        go_wp2_with fail
        go_ret
        exact ⟨ret_b (decide_eq_true HM.out).symm, HW.out⟩
      · have hb : (xs[i].toList == n.toList) = false := by rw [beq_eq_false_iff_ne]; exact fun h => he (toList_inj h)
        have HE := Lib.hid he
        clear he
        go_wp2_with fail
        go_roundg (xs.length - (i + 1))
        case measure => omega
        case rel =>
          refine ⟨i + 1, by omega, Nat.le_refl _, by go_num, ⟨fun j hj hji => ?_⟩, ⟨HW.out⟩⟩
          rcases Nat.lt_or_ge j i with h | h
          · exact HN.out j hj h
          · obtain rfl : j = i := by omega
            exact HE.out
    · obtain rfl : i = xs.length := by omega
      go_wp2_with fail
      go_ret
      refine ⟨ret_b (decide_eq_false ?_).symm, HW.out⟩
      intro hm
      obtain ⟨j, hj, he⟩ := List.getElem_of_mem hm
      exact HN.out j hj hj he
set_option maxHeartbeats 1000000 in
theorem indexS_any (xs : List ByteArray) (n : ByteArray) (A : Option Addr) (c : Nat) (w : World) (hr : kS.C w A xs.length xs) (hc : xs.length ≤ c) :
    Calls Try.prog 109 #[.slice A xs.length c, .string n] w (Ret w (.int .i64 (fidx (fun x => n.toList == x.toList) xs))) := by
  have hmax := hr.2.1
  go_enter Try.func109, Try.ntmps109
  go_wp2_with fail
  go_loopg [5, 8] xs.length (fun kq v5 v8 w' => ∃ i : Nat, i ≤ xs.length ∧ xs.length - i ≤ kq ∧ v8 = .int .i64 i ∧ Aside0 (∀ j (h : j < xs.length), j < i → (n.toList == xs[j].toList) = false) ∧ Aside0 (Below w.heap.size w w'))
  case atStart => exact ⟨0, Nat.zero_le _, by omega, rfl, ⟨fun j _ h => absurd h (by omega)⟩, ⟨Below.refl _ _⟩⟩
  case round =>
    obtain ⟨i, hi, hg, rfl, HN, HW⟩ := hrel
    by_cases hlt : i < xs.length
    · obtain ⟨ad, e, hcell⟩ := str_at (Kd.C_below hr HW.out) i hlt
      subst e
      cases hb : (n.toList == xs[i].toList) with
      | true =>
        have HB := Lib.hid (fidx_hit (p := fun x => n.toList == x.toList) hlt hb (fun j hj => HN.out j _ hj))
        go_wp2_with fail
        go_ret
        exact ⟨ret_i HB.out.symm, HW.out⟩
      | false =>
        have HE := Lib.hid hb
        go_wp2_with fail
        go_roundg (xs.length - (i + 1))
        case measure => omega
        case rel =>
          refine ⟨i + 1, by omega, Nat.le_refl _, by go_num, ⟨fun j hj hji => ?_⟩, ⟨HW.out⟩⟩
          rcases Nat.lt_or_ge j i with h | h
          · exact HN.out j hj h
          · obtain rfl : j = i := by omega
            exact HE.out
    · obtain rfl : i = xs.length := by omega
      go_wp2_with fail
      go_ret
      exact ⟨ret_i (fidx_miss (fun j hj => HN.out j hj hj)).symm, HW.out⟩
theorem containsS_any (xs : List ByteArray) (n : ByteArray) (A : Option Addr) (c : Nat) (w : World) (hr : kS.C w A xs.length xs) (hc : xs.length ≤ c) :
    Calls Try.prog 64 #[.slice A xs.length c, .string n] w (Ret w (.bool (decide (n ∈ xs)))) := by
  have hd : decide (0 ≤ fidx (fun x => n.toList == x.toList) xs) = decide (n ∈ xs) := by
    rw [fidx_any, Bool.eq_iff_iff, List.any_eq_true, decide_eq_true_iff]
    constructor
    · rintro ⟨x, hx, he⟩
      rw [toList_inj (eq_of_beq he)]
      exact hx
    · intro h
      exact ⟨n, h, by simp⟩
  have HD := Lib.hid hd
  clear hd
  have HC := Lib.hid (indexS_any xs n A c w hr hc)
  clear hr hc
  generalize fidx (fun x => n.toList == x.toList) xs = r at HD HC
  go_enter Try.func64, Try.ntmps64
  go_wp2_with fail
  refine HC.out.mono ?_
  rintro e w1 ⟨rfl, hb1⟩
  go_wp2_with fail
  go_ret
  exact ⟨ret_b HD.out, hb1⟩
end Go.Proofs.Ytnaefjilcabkoaa
end
section
namespace Go.Proofs.Ytnaefjilcabkoaa
open Go.RowKit Go.Proofs.YtnaefjilcabkoaaW.PrintWords Go.Proofs.YtnaefjilcabkoaaW.PrintLast Go.Proofs.YtnaefjilcabkoaaW.PrintMore
set_option linter.unusedVariables false
set_option linter.unusedSimpArgs false
abbrev encS (xs : List ByteArray) : List Value := encs Value.string xs
/-- One form's name is told, if it is a name that is not told yet. -/
def nmStep (s : List ByteArray) (y : Fm) : List ByteArray := if y.f0 = 1 ∧ y.f1 ∉ s then s ++ [y.f1] else s
abbrev namesN (x : Fm) : List ByteArray := foldF nmStep x []
theorem nmStep_len (s : List ByteArray) (y : Fm) : (nmStep s y).length ≤ s.length + 1 := by
  unfold nmStep; split <;> simp
mutual
theorem cost_nm : ∀ x : Fm, costF (fun _ => 1) x = x.size
  | ⟨a, b, c, d, ks⟩ => by rw [costF, Fm.size_eq, cost_nmL ks]
theorem cost_nmL : ∀ ks : List Fm, costFs (fun _ => 1) ks = sizes ks
  | [] => by rw [costFs]; rfl
  | k :: ks => by rw [costFs, cost_nmL ks, cost_nm k]; rfl
end
theorem infoSt : (Try.prog.info? 9).map (fun i => (i.zero, i.size, i.bytes)) = some (some (.string ⟨#[]⟩), 1, 16) := by kernel_rfl
theorem own_CS {w : World} {v : Value} {xs : List ByteArray} {B : Nat} (h : w.ownsRow B 9 1 v xs.length (encS xs)) : ∃ A c, v = .slice A xs.length c ∧ xs.length ≤ c ∧ kS.C w A xs.length xs := by
  obtain ⟨A, c, e, hr⟩ := own_reads_row (R := kS.K w) h (Kd.reps_scalar xs) rfl
  subst e
  exact ⟨A, c, rfl, own_le h, hr⟩
/-- A block with one string reads as_ a row. -/
theorem one_str {W : World} {b : Nat} {n : ByteArray} (hb : W.heap[b]? = some (.cells #[.string n] 9 (0, 0))) : kS.C W (some ⟨b, 0, none⟩) 1 [n] := by
  refine Kd.C_of_reads (d := ByteArray.empty) (h1 := fun _ => rfl) ⟨rfl, by omega, fun hn => ⟨⟨b, 0, none⟩, rfl, fun i hi => ?_⟩⟩
  obtain rfl : i = 0 := by omega
  exact (blk_cell hb 0).trans rfl
theorem own_ge {w : World} {B e sz n : Nat} {v : Value} {xs : List Value} (h : w.ownsRow B e sz v n xs) : ∀ k, v.ownBlock = some k → B ≤ k := by
  intro k hk
  rcases h with ⟨_, ⟨rfl, _⟩ | ⟨g, cap, cur, rfl, hg, _⟩⟩
  · cases hk
  · have : g = k := by simpa [Value.ownBlock] using hk
    omega
/-- The variable that the names are laid into: its block, and its row. -/
def StS (g0 B : Nat) (W : World) (S : List Nat) (s : List ByteArray) : Prop := ∃ v, W.heap[g0]? = some (.cells #[v] 35 (0, 0)) ∧ W.ownsRow B 9 1 v s.length (encS s) ∧ v.ownBlock ≠ some g0 ∧ S = g0 :: obs v
theorem StS.move {g0 B : Nat} (w w' : World) (S : List Nat) (s : List ByteArray) (h : StS g0 B w S s) (hm : ∀ b, b ∈ S → w'.heap[b]? = w.heap[b]?) : StS g0 B w' S s := by
  obtain ⟨v, h1, h2, h3, rfl⟩ := h
  exact ⟨v, (hm g0 List.mem_cons_self).trans h1, own_move h2 (fun k hk => hm k (List.mem_cons_of_mem _ (obs_mem.2 hk))), h3, rfl⟩
theorem StS.lt {g0 B : Nat} (w : World) (S : List Nat) (s : List ByteArray) (h : StS g0 B w S s) : ∀ b, b ∈ S → b < w.heap.size := by
  obtain ⟨v, h1, h2, h3, rfl⟩ := h
  intro b hb
  rcases List.mem_cons.1 hb with rfl | hb
  · exact blk_lt h1
  · exact own_lt h2 b (obs_mem.1 hb)
set_option maxHeartbeats 1000000 in
theorem names1_any (g0 : Nat) (w0 : World) (y : Fm) (A3 : Option Addr) (c3 : Nat) (A4 : Option Addr) (c4 : Nat) (s : List ByteArray) (S : List Nat) (w : World) (hin : FmIn w0 y A3 c3 A4 c4) (hb : Below w0.heap.size w0 w) (hs : StS g0 w0.heap.size w S s) (hS : ∀ b, b ∈ S → w0.heap.size ≤ b) (hN : s.length + 1 ≤ 10000000) :
    Calls Try.prog 63 (#[.agg #[.int .i64 y.f0, .string y.f1, .int .i64 y.f2, .slice A3 y.f3.length c3, .slice A4 y.f4.length c4]] ++ #[.pointer (some ⟨g0, 0, none⟩)]) w (StPost (StS g0 w0.heap.size) S (nmStep s y) w) := by
  obtain ⟨v, h1, h2, h3, rfl⟩ := hs
  obtain ⟨D, m, rfl, hDm, hDC⟩ := own_CS h2
  have hbx := below_new w (.cells #[.int .i64 y.f0, .string y.f1, .int .i64 y.f2, .slice A3 y.f3.length c3, .slice A4 y.f4.length c4] 29)
  have hkb := blk_new w (.cells #[.int .i64 y.f0, .string y.f1, .int .i64 y.f2, .slice A3 y.f3.length c3, .slice A4 y.f4.length c4] 29)
  obtain ⟨p0, p1, p2, p3, p4⟩ := fm_cells hkb
  have q0 : (w.alloc (.cells #[.int .i64 y.f0, .string y.f1, .int .i64 y.f2, .slice A3 y.f3.length c3, .slice A4 y.f4.length c4] 29)).cell? ⟨g0, 0, none⟩ = some (.slice D s.length m) := (blk_cell (blk_below h1 hbx) 0).trans rfl
  by_cases hk : y.f0 = 1
  · have t0 : (y.f0 == 1) = true := beq_iff_eq.mpr hk
    have HC := Lib.hid (containsS_any s y.f1 D m _ (Kd.C_below hDC hbx) hDm)
    by_cases hm : y.f1 ∈ s
    · have hstep : nmStep s y = s := by unfold nmStep; rw [if_neg (fun h => h.2 hm)]
      rw [decide_eq_true hm] at HC
      have H0 := Lib.hid (And.intro h1 (And.intro h2 (And.intro h3 (And.intro hbx hstep))))
      clear hkb h1 h2 h3 hin hb hk hm hstep hDC hS
      go_enter Try.func63, Try.ntmps63
      go_wp2_with fail
      refine HC.out.mono ?_
      rintro e w1 ⟨rfl, hb1⟩
      have HB := Lib.hid (below_step H0.out.2.2.2.1 hb1)
      clear hb1 p0 p1 p2 p3 p4 q0
      go_wp2_with fail
      go_end0
      obtain ⟨h1, h2, h3, hbx, hstep⟩ := H0.out
      rw [hstep]
      exact ⟨rfl, _, StS.move w w1 _ s ⟨_, h1, h2, h3, rfl⟩ (fun b hb => HB.out.block b (StS.lt w _ s ⟨_, h1, h2, h3, rfl⟩ b hb)), Mk.ofBelow HB.out, fun b hb => .inl hb⟩
    · have hstep : nmStep s y = s ++ [y.f1] := by unfold nmStep; rw [if_pos ⟨hk, hm⟩]
      rw [decide_eq_false hm] at HC
      have H0 := Lib.hid (And.intro h1 (And.intro h3 (And.intro (own_lt h2) hS)))
      have HX := Lib.hid (And.intro hbx (And.intro hb (And.intro h2 hstep)))
      have HKB := Lib.hid hkb
      clear hkb h1 h2 h3 hin hb hk hm hstep hDC hS hbx
      go_enter Try.func63, Try.ntmps63
      go_wp2_with fail
      refine HC.out.mono ?_
      rintro e w1 ⟨rfl, hb1⟩
      have hb2 := below_step HX.out.1 hb1
      have hn1 := below_new w1 (.cells #[.string y.f1] 9)
      have hb3 := below_step hb2 hn1
      clear p0 p1 p2 p3 p4 q0
      obtain ⟨p0, p1, p2, p3, p4⟩ := fm_cells (blk_below HKB.out hb1)
      have q0 : w1.cell? ⟨g0, 0, none⟩ = some (.slice D s.length m) := (blk_cell (blk_below H0.out.1 hb2) 0).trans rfl
      have HR := Aside0.mk (Kd.R_of_own (ok := fun _ => True) (h1 := fun _ => rfl) (own_move HX.out.2.2.1 (fun k hk => hb3.block k (H0.out.2.2.1 k hk))) (fun _ _ => trivial))
      have HCN := Aside0.mk (one_str (blk_new w1 (.cells #[.string y.f1] 9)))
      have HB := Lib.hid (below_step HX.out.2.1 hb3)
      have HB3 := Lib.hid hb3
      clear hb1 hb2 hn1 hb3
      go_wp2_with (first | ((with_reducible refine gate_dst (N := 17) rfl ?_); refine Kd.R_append_row Value.string ByteArray.empty (w0 := w0) w0.heap.size rfl (.tmp 13) (.tmp 16) 35 9 (.string ⟨#[]⟩) 16 rfl Try.underlying35 infoSt rfl (by decide) (.slice D s.length m) s [y.f1] (some ⟨w1.heap.size, 0, none⟩) 1 1 (fun _ => True) rfl rfl (fun _ _ => trivial) HR.out HCN.out HB.out HB.out.size (by omega) ?_; intro v1 w2 ho1 hb1 hg1 hat1; obtain ⟨E5, e5, e6⟩ := Kd.R_slice ho1; subst e6; have q1 : w2.heap[g0]? = some (.cells #[.slice D s.length m] 35 (0, 0)) := blk_grown (blk_below H0.out.1 HB3.out) hg1 (fun e => H0.out.2.1 e.symm); have q2 : w2.cell? ⟨g0, 0, none⟩ = some (.slice D s.length m) := (blk_cell q1 0).trans rfl; have q3 := blk_frozen q1 0; have HF := Lib.hid (And.intro q1 (And.intro (Kd.own_of_R ho1) (And.intro hg1 hat1))); clear ho1 hb1 hg1 hat1 q1))
      go_end0
      rw [show Value.slice E5 (s ++ [y.f1]).length e5 = Value.slice E5 (s.length + 1) e5 from by rw [List.length_append]; rfl] at HF
      generalize Value.slice E5 (s.length + 1) e5 = v1 at HF ⊢
      obtain ⟨q1, ho, hg, hat⟩ := HF.out
      have hne : v1.ownBlock ≠ some g0 := by
        rcases hat with e | ⟨b, e, hb⟩
        · rw [e]; exact H0.out.2.1
        · rw [e]
          intro he
          cases he
          have := blk_lt (blk_below H0.out.1 HB3.out)
          omega
      rw [HX.out.2.2.2]
      refine ⟨rfl, g0 :: obs v1, ⟨v1, by simpa using blk_set q1 0 v1, own_move ho (fun k hk => Below.heap_setCell _ _ _ _ (by show k ≠ g0; rintro rfl; exact hne hk)), hne, rfl⟩, ?_, fun b hb => ?_⟩
      · refine ⟨?_, fun b hb hn => ?_⟩
        · have := hg.size
          exact ⟨hg.os.trans HB3.out.os, hg.tape.trans HB3.out.tape, hg.output.trans HB3.out.output, by simpa using Nat.le_trans HB3.out.size this, fun k hk => absurd hk (Nat.not_lt_zero k)⟩
        · rw [Below.heap_setCell _ _ _ _ (by show b ≠ g0; rintro rfl; exact hn List.mem_cons_self)]
          rw [hg.block b (Nat.lt_of_lt_of_le hb HB3.out.size) (fun e => hn (List.mem_cons_of_mem _ (obs_mem.2 e.symm)))]
          exact HB3.out.block b hb
      · rcases List.mem_cons.1 hb with rfl | hb
        · exact .inl List.mem_cons_self
        · rcases hat with e | ⟨c, e, hc⟩
          · exact .inl (List.mem_cons_of_mem _ (obs_mem.2 (by rw [← e]; exact obs_mem.1 hb)))
          · have hbc := obs_mem.1 hb
            rw [e] at hbc
            cases hbc
            exact .inr (Nat.le_trans HB3.out.size hc)
  · have t0 : (y.f0 == 1) = false := beq_eq_false_iff_ne.mpr hk
    have hstep : nmStep s y = s := by unfold nmStep; rw [if_neg (fun h => hk h.1)]
    have H0 := Lib.hid (And.intro h1 (And.intro h2 (And.intro h3 (And.intro hbx hstep))))
    clear hkb h1 h2 h3 hin hb hk hstep hDC hS
    go_enter Try.func63, Try.ntmps63
    go_wp2_with fail
    go_end0
    obtain ⟨h1, h2, h3, hbx, hstep⟩ := H0.out
    rw [hstep]
    exact ⟨rfl, _, StS.move w _ _ s ⟨_, h1, h2, h3, rfl⟩ (fun b hb => hbx.block b (StS.lt w _ s ⟨_, h1, h2, h3, rfl⟩ b hb)), Mk.ofBelow hbx, fun b hb => .inl hb⟩
/-- A row of strings in new memory is handed back. -/
def RetS (w : World) (xs : List ByteArray) (e : Ending) (w' : World) : Prop := ∃ v, e = .returned v ∧ w'.ownsRow w.heap.size 9 1 v xs.length (encS xs) ∧ Below w.heap.size w w'
set_option maxHeartbeats 1000000 in
theorem implNames_own (x : Fm) (A3 : Option Addr) (c3 : Nat) (A4 : Option Addr) (c4 : Nat) (w : World) (hin : FmIn w x A3 c3 A4 c4) (ht : x.size ≤ 10000000) :
    Calls Try.prog 22 #[.agg #[.int .i64 x.f0, .string x.f1, .int .i64 x.f2, .slice A3 x.f3.length c3, .slice A4 x.f4.length c4]] w (RetS w (namesN x)) := by
  obtain ⟨k1, k2, k3, hb0⟩ := three_new (w := w) (O1 := .cells #[.int .i64 x.f0, .string x.f1, .int .i64 x.f2, .slice A3 x.f3.length c3, .slice A4 x.f4.length c4] 29) (O2 := .cells #[] 9) (O3 := .cells #[.slice (some ⟨w.heap.size + 1, 0, none⟩) 0 0] 35) (Below.refl _ _)
  obtain ⟨p0, p1, p2, p3, p4⟩ := fm_cells k1
  have hst : StS (w.heap.size + 1 + 1) w.heap.size (((w.alloc (.cells #[.int .i64 x.f0, .string x.f1, .int .i64 x.f2, .slice A3 x.f3.length c3, .slice A4 x.f4.length c4] 29)).alloc (.cells #[] 9)).alloc (.cells #[.slice (some ⟨w.heap.size + 1, 0, none⟩) 0 0] 35)) [w.heap.size + 1 + 1, w.heap.size + 1] [] := ⟨_, k3, ⟨by simp [encs], .inr ⟨_, 0, #[], rfl, by omega, k2, Nat.le_refl _, Nat.zero_le _, rfl, by simp [encs]⟩⟩, by simp [Value.ownBlock], by simp [obs, Value.ownBlock]⟩
  have HE := Lib.hid (eachForm_any w 63 #[.pointer (some ⟨w.heap.size + 1 + 1, 0, none⟩)] (StS (w.heap.size + 1 + 1) w.heap.size) nmStep List.length (fun _ => 1) 10000000 (enters_of Try.func63 (by kernel_rfl) rfl)
    StS.move StS.lt nmStep_len (fun y B3 d3 B4 d4 s S w1 hy hbW hsW hSW hNW => names1_any _ w y B3 d3 B4 d4 s S w1 hy hbW hsW hSW hNW) x A3 c3 A4 c4 [] _ _ hin hb0 hst (by simp; omega) (by rw [cost_nm]; simp; omega))
  have HB := Lib.hid hb0
  clear hin hb0 ht k1 k2 k3 hst
  go_enter Try.func22, Try.ntmps22
  go_wp2_with fail
  clear p0 p1 p2 p3 p4
  refine HE.out.mono ?_
  rintro e w5 ⟨rfl, S', hst, hM, hS'⟩
  obtain ⟨v, hg0, ho, hne, rfl⟩ := hst
  obtain ⟨D, m, rfl, _, _⟩ := own_CS ho
  have c0 := (blk_cell hg0 0).trans rfl
  have HF := Lib.hid (And.intro ho (HB.out.trans (hM.below HB.out.size (by simp; omega))))
  clear hM hS' hg0 ho hne
  go_wp2_with fail
  go_ret
  exact ⟨_, rfl, HF.out.1, HF.out.2⟩
def NmsOk (x : Fm) : Prop := ∀ (w0 : World) (A3 : Option Addr) (c3 : Nat) (A4 : Option Addr) (c4 : Nat) (v : Value) (s : List ByteArray) (w : World), FmIn w0 x A3 c3 A4 c4 → Below w0.heap.size w0 w → w.ownsRow w0.heap.size 9 1 v s.length (encS s) → s.length + x.size ≤ 10000000 →
  Calls Try.prog 61 #[v, .agg #[.int .i64 x.f0, .string x.f1, .int .i64 x.f2, .slice A3 x.f3.length c3, .slice A4 x.f4.length c4]] w (fun e w' => ∃ v', e = .returned v' ∧ w'.ownsRow w0.heap.size 9 1 v' (foldF nmStep x s).length (encS (foldF nmStep x s)) ∧ Mk (obs v) w w' ∧ ∀ b, b ∈ obs v' → b ∈ obs v ∨ w.heap.size ≤ b)
set_option maxHeartbeats 4000000 in
set_option maxRecDepth 100000 in
theorem l1Names_any (x : Fm) : NmsOk x := by
  induction x using Fm.ind with
  | h x ih =>
    intro w0 A3 c3 A4 c4 v s w hin hb hs hN
    rw [Fm.size_eq] at hN
    have hm4 : x.f4.length ≤ 10000000 := by have := sizes_pos x.f4; omega
    obtain ⟨D, m, rfl, hDm, hDC⟩ := own_CS hs
    have hbx := below_new w (.cells #[.int .i64 x.f0, .string x.f1, .int .i64 x.f2, .slice A3 x.f3.length c3, .slice A4 x.f4.length c4] 29)
    have hkb := blk_new w (.cells #[.int .i64 x.f0, .string x.f1, .int .i64 x.f2, .slice A3 x.f3.length c3, .slice A4 x.f4.length c4] 29)
    obtain ⟨p0, p1, p2, p3, p4⟩ := fm_cells hkb
    have HI := Lib.hid hin
    have IH := Lib.hid ih
    have HN := Lib.hid hN
    have HX := Lib.hid (And.intro hbx (And.intro hb (And.intro hs hkb)))
    by_cases hk : x.f0 = 1
    · have t0 : (x.f0 == 1) = true := beq_iff_eq.mpr hk
      have HC := Lib.hid (l1In_any s x.f1 D m _ (Kd.C_below hDC hbx) hDm)
      by_cases hm : x.f1 ∈ s
      · have hstep : nmStep s x = s := by unfold nmStep; rw [if_neg (fun h => h.2 hm)]
        rw [decide_eq_true hm] at HC
        have HST := Lib.hid hstep
        clear hin ih hN hb hbx hkb hs hDC hk hm hstep
        go_enter Try.func61, Try.ntmps61
        go_wp2_with fail
        refine HC.out.mono ?_
        rintro e w1 ⟨rfl, hb0⟩
        have hb2 := below_step HX.out.1 hb0
        have hbk := blk_below HX.out.2.2.2 hb0
        have hs1 : w1.ownsRow w0.heap.size 9 1 (.slice D s.length m) (nmStep s x).length (encS (nmStep s x)) := by rw [HST.out]; exact own_move HX.out.2.2.1 (fun k hk => hb2.block k (own_lt HX.out.2.2.1 k hk))
        have hM1 : Mk (obs (.slice D s.length m)) w w1 := Mk.ofBelow hb2
        have hb1 : Below w0.heap.size w0 w1 := below_step HX.out.2.1 hb2
        have hobs : ∀ b, b ∈ obs (.slice D s.length m) → b ∈ obs (.slice D s.length m) ∨ w.heap.size + 1 ≤ b := fun b hb => .inl hb
        clear hb0 hb2 p0 p1 p2 p3 p4
        go_wp2_with fail
        have HF := Lib.hid (And.intro hs1 (And.intro hM1 (And.intro hb1 (And.intro hbk hobs))))
        clear hs1 hM1 hb1 hbk hobs
        go_loopg [0, 5] x.f4.length (fun kq v0 v5 w' => ∃ (i : Nat) (u : Value), i ≤ x.f4.length ∧ x.f4.length - i ≤ kq ∧ v5 = .int .i64 i ∧ v0 = u ∧ Aside0 (w'.ownsRow w0.heap.size 9 1 u (foldFs nmStep (x.f4.take i) (nmStep s x)).length (encS (foldFs nmStep (x.f4.take i) (nmStep s x)))) ∧ Aside0 (Mk (obs (.slice D s.length m)) w w' ∧ Below w0.heap.size w0 w' ∧ w'.heap[w.heap.size]? = some (.cells #[.int .i64 x.f0, .string x.f1, .int .i64 x.f2, .slice A3 x.f3.length c3, .slice A4 x.f4.length c4] 29 (0, 0)) ∧ ∀ b, b ∈ obs u → b ∈ obs (.slice D s.length m) ∨ w.heap.size + 1 ≤ b))
        case atStart => exact ⟨0, _, Nat.zero_le _, by omega, rfl, rfl, ⟨by rw [List.take_zero, foldFs]; exact HF.out.1⟩, ⟨HF.out.2⟩⟩
        case round =>
          obtain ⟨i, u, hi, hg, rfl, hu0, HO, HW⟩ := hrel
          have hu1 := hu0.symm
          subst hu1
          clear hu0
          obtain ⟨p0, p1, p2, p3, p4⟩ := fm_cells HW.out.2.2.1
          by_cases hlt : i < x.f4.length
          · obtain ⟨ad, G3, m3, G4, m4, e, g0, g1, g2, g3, g4, hk⟩ := kid_at HI.out.g4 i hlt
            subst e
            replace g0 := ck0 HW.out.2.1 g0
            replace g1 := ck0 HW.out.2.1 g1
            replace g2 := ck0 HW.out.2.1 g2
            replace g3 := ck0 HW.out.2.1 g3
            replace g4 := ck0 HW.out.2.1 g4
            have h1 := foldFs_lenL (step := nmStep) (len := List.length) (cost := fun _ => 1) nmStep_len (x.f4.take i) (nmStep s x)
            have h2 := nmStep_len s x
            have h3 : sizes (x.f4.take i) + x.f4[i].size ≤ sizes x.f4 := by
              have := sizes_take x.f4 i hlt
              have := sizes_take_le x.f4 (i + 1)
              omega
            rw [cost_nmL] at h1
            have HP := Lib.hid (IH.out x.f4[i] (List.getElem_mem hlt) w0 G3 m3 G4 m4 u _ wr hk HW.out.2.1 HO.out (by have := HN.out; omega))
            have HTK := Lib.hid (show foldFs nmStep (x.f4.take (i + 1)) (nmStep s x) = foldF nmStep x.f4[i] (foldFs nmStep (x.f4.take i) (nmStep s x)) by rw [List.take_succ_eq_append_getElem hlt, foldFs_append, foldFs, foldFs])
            clear h1 h2 h3 hk
            go_wp2_with fail
            clear p0 p1 p2 p3 p4 g0 g1 g2 g3 g4
            refine HP.out.mono ?_
            rintro e w1 ⟨u1, rfl, ho, hM, hobs⟩
            have hge := own_ge HO.out
            have hu : ∀ b, b ∈ obs u → b ∈ obs (.slice D s.length m) ∨ w.heap.size + 1 ≤ b := HW.out.2.2.2
            have hbw := HW.out.1.b0.size
            have hkb := blk_lt HW.out.2.2.1
            have hvl := own_lt HX.out.2.2.1
            have hbx : w.heap.size ∉ obs u := fun hm => by
              rcases hu _ hm with h | h
              · have := hvl _ (obs_mem.1 h); omega
              · omega
            have HQ := Lib.hid (show w1.ownsRow w0.heap.size 9 1 u1 (foldFs nmStep (x.f4.take (i + 1)) (nmStep s x)).length (encS (foldFs nmStep (x.f4.take (i + 1)) (nmStep s x))) ∧ Mk (obs (.slice D s.length m)) w w1 ∧ Below w0.heap.size w0 w1 ∧ w1.heap[w.heap.size]? = some (.cells #[.int .i64 x.f0, .string x.f1, .int .i64 x.f2, .slice A3 x.f3.length c3, .slice (some ad) x.f4.length c4] 29 (0, 0)) ∧ ∀ b, b ∈ obs u1 → b ∈ obs (.slice D s.length m) ∨ w.heap.size + 1 ≤ b from by
              refine ⟨by rw [HTK.out]; exact ho, ⟨HW.out.1.b0.trans hM.b0, fun b hb hn => ?_⟩, HW.out.2.1.trans (hM.below HW.out.2.1.size (fun b hb => hge b (obs_mem.1 hb))), (hM.keep _ hkb hbx).trans HW.out.2.2.1, fun b hb => ?_⟩
              · rw [hM.keep b (by omega) (fun hm => by
                  rcases hu b hm with h | h
                  · exact hn h
                  · omega)]
                exact HW.out.1.keep b hb hn
              · rcases hobs b hb with h | h
                · exact hu b h
                · exact .inr (by omega))
            clear ho hM hobs hge hu hbw hkb hvl hbx
            go_wp2_with fail
            go_roundg (x.f4.length - (i + 1))
            case measure => omega
            case rel => exact ⟨i + 1, u1, by omega, Nat.le_refl _, by go_num, rfl, ⟨HQ.out.1⟩, ⟨HQ.out.2⟩⟩
          · obtain rfl : i = x.f4.length := by omega
            rw [List.take_length] at HO
            go_wp2_with fail
            go_ret
            refine ⟨u, rfl, by rw [foldF_eq]; exact HO.out, HW.out.1, fun b hb => (HW.out.2.2.2 b hb).imp id (fun h => by omega)⟩
      · have hstep : nmStep s x = s ++ [x.f1] := by unfold nmStep; rw [if_pos ⟨hk, hm⟩]
        rw [decide_eq_false hm] at HC
        have HST := Lib.hid hstep
        clear hin ih hN hb hbx hkb hs hDC hk hm hstep
        go_enter Try.func61, Try.ntmps61
        go_wp2_with fail
        refine HC.out.mono ?_
        rintro e w1 ⟨rfl, hb0⟩
        have hb2 := below_step HX.out.1 hb0
        have hn1 := below_new w1 (.cells #[.string x.f1] 9)
        have hb3 := below_step hb2 hn1
        clear p0 p1 p2 p3 p4
        obtain ⟨p0, p1, p2, p3, p4⟩ := fm_cells (blk_below HX.out.2.2.2 hb0)
        have HR := Aside0.mk (Kd.R_of_own (ok := fun _ => True) (h1 := fun _ => rfl) (own_move HX.out.2.2.1 (fun k hk => hb3.block k (own_lt HX.out.2.2.1 k hk))) (fun _ _ => trivial))
        have HCN := Aside0.mk (one_str (blk_new w1 (.cells #[.string x.f1] 9)))
        have HB := Lib.hid (below_step HX.out.2.1 hb3)
        have HB3 := Lib.hid (And.intro hb3 (And.intro (blk_below HX.out.2.2.2 (below_step hb0 hn1)) hb2.size))
        clear hb0 hb2 hn1 hb3
        go_wp2_with (first | ((with_reducible refine gate_dst (N := 20) rfl ?_); refine Kd.R_append_row Value.string ByteArray.empty (w0 := w0) w0.heap.size rfl (.tmp 16) (.tmp 19) 35 9 (.string ⟨#[]⟩) 16 rfl Try.underlying35 infoSt rfl (by decide) (.slice D s.length m) s [x.f1] (some ⟨w1.heap.size, 0, none⟩) 1 1 (fun _ => True) rfl rfl (fun _ _ => trivial) HR.out HCN.out HB.out HB.out.size (by have := HN.out; omega) ?_; intro v1 w2 ho1 hb1 hg1 hat1; obtain ⟨E5, e5, e6⟩ := Kd.R_slice ho1; subst e6; have HG := Lib.hid (And.intro (Kd.own_of_R ho1) (And.intro hg1 (And.intro hat1 hb1))); clear ho1 hb1 hg1 hat1))
        rw [show Value.slice E5 (s ++ [x.f1]).length e5 = Value.slice E5 (s.length + 1) e5 from by rw [List.length_append]; rfl] at HG
        clear p0 p1 p2 p3 p4
        have hg := HG.out.2.1
        have hsz := hg.size
        have hs1 : w2.ownsRow w0.heap.size 9 1 (.slice E5 (s.length + 1) e5) (nmStep s x).length (encS (nmStep s x)) := by rw [HST.out]; exact HG.out.1
        have hvl := own_lt HX.out.2.2.1
        have hbk : w2.heap[w.heap.size]? = some (.cells #[.int .i64 x.f0, .string x.f1, .int .i64 x.f2, .slice A3 x.f3.length c3, .slice A4 x.f4.length c4] 29 (0, 0)) := blk_grown HB3.out.2.1 hg (fun e => by have := hvl _ e.symm; omega)
        have hM1 : Mk (obs (.slice D s.length m)) w w2 := by
          refine ⟨⟨hg.os.trans HB3.out.1.os, hg.tape.trans HB3.out.1.tape, hg.output.trans HB3.out.1.output, by simpa using Nat.le_trans HB3.out.1.size hsz, fun k hk => absurd hk (Nat.not_lt_zero k)⟩, fun b hb hn => ?_⟩
          rw [hg.block b (Nat.lt_of_lt_of_le hb HB3.out.1.size) (fun e => hn (obs_mem.2 e.symm))]
          exact HB3.out.1.block b hb
        have hb1 : Below w0.heap.size w0 w2 := HG.out.2.2.2
        have hobs : ∀ b, b ∈ obs (.slice E5 (s.length + 1) e5) → b ∈ obs (.slice D s.length m) ∨ w.heap.size + 1 ≤ b := fun b hb => by
          rcases HG.out.2.2.1 with e | ⟨c, e, hc⟩
          · exact .inl (obs_mem.2 (by rw [← e]; exact obs_mem.1 hb))
          · have hbc := obs_mem.1 hb
            rw [e] at hbc
            cases hbc
            have := HB3.out.2.2
            have := blk_lt HX.out.2.2.2
            refine .inr ?_
            simp at hc this
            have := HB3.out.1.size
            simp at this
            omega
        clear hg hsz hvl
        have HF := Lib.hid (And.intro hs1 (And.intro hM1 (And.intro hb1 (And.intro hbk hobs))))
        clear hs1 hM1 hb1 hbk hobs
        go_loopg [0, 5] x.f4.length (fun kq v0 v5 w' => ∃ (i : Nat) (u : Value), i ≤ x.f4.length ∧ x.f4.length - i ≤ kq ∧ v5 = .int .i64 i ∧ v0 = u ∧ Aside0 (w'.ownsRow w0.heap.size 9 1 u (foldFs nmStep (x.f4.take i) (nmStep s x)).length (encS (foldFs nmStep (x.f4.take i) (nmStep s x)))) ∧ Aside0 (Mk (obs (.slice D s.length m)) w w' ∧ Below w0.heap.size w0 w' ∧ w'.heap[w.heap.size]? = some (.cells #[.int .i64 x.f0, .string x.f1, .int .i64 x.f2, .slice A3 x.f3.length c3, .slice A4 x.f4.length c4] 29 (0, 0)) ∧ ∀ b, b ∈ obs u → b ∈ obs (.slice D s.length m) ∨ w.heap.size + 1 ≤ b))
        case atStart => exact ⟨0, _, Nat.zero_le _, by omega, rfl, rfl, ⟨by rw [List.take_zero, foldFs]; exact HF.out.1⟩, ⟨HF.out.2⟩⟩
        case round =>
          obtain ⟨i, u, hi, hg, rfl, hu0, HO, HW⟩ := hrel
          have hu1 := hu0.symm
          subst hu1
          clear hu0
          obtain ⟨p0, p1, p2, p3, p4⟩ := fm_cells HW.out.2.2.1
          by_cases hlt : i < x.f4.length
          · obtain ⟨ad, G3, m3, G4, m4, e, g0, g1, g2, g3, g4, hk⟩ := kid_at HI.out.g4 i hlt
            subst e
            replace g0 := ck0 HW.out.2.1 g0
            replace g1 := ck0 HW.out.2.1 g1
            replace g2 := ck0 HW.out.2.1 g2
            replace g3 := ck0 HW.out.2.1 g3
            replace g4 := ck0 HW.out.2.1 g4
            have h1 := foldFs_lenL (step := nmStep) (len := List.length) (cost := fun _ => 1) nmStep_len (x.f4.take i) (nmStep s x)
            have h2 := nmStep_len s x
            have h3 : sizes (x.f4.take i) + x.f4[i].size ≤ sizes x.f4 := by
              have := sizes_take x.f4 i hlt
              have := sizes_take_le x.f4 (i + 1)
              omega
            rw [cost_nmL] at h1
            have HP := Lib.hid (IH.out x.f4[i] (List.getElem_mem hlt) w0 G3 m3 G4 m4 u _ wr hk HW.out.2.1 HO.out (by have := HN.out; omega))
            have HTK := Lib.hid (show foldFs nmStep (x.f4.take (i + 1)) (nmStep s x) = foldF nmStep x.f4[i] (foldFs nmStep (x.f4.take i) (nmStep s x)) by rw [List.take_succ_eq_append_getElem hlt, foldFs_append, foldFs, foldFs])
            clear h1 h2 h3 hk
            go_wp2_with fail
            clear p0 p1 p2 p3 p4 g0 g1 g2 g3 g4
            refine HP.out.mono ?_
            rintro e w1 ⟨u1, rfl, ho, hM, hobs⟩
            have hge := own_ge HO.out
            have hu : ∀ b, b ∈ obs u → b ∈ obs (.slice D s.length m) ∨ w.heap.size + 1 ≤ b := HW.out.2.2.2
            have hbw := HW.out.1.b0.size
            have hkb := blk_lt HW.out.2.2.1
            have hvl := own_lt HX.out.2.2.1
            have hbx : w.heap.size ∉ obs u := fun hm => by
              rcases hu _ hm with h | h
              · have := hvl _ (obs_mem.1 h); omega
              · omega
            have HQ := Lib.hid (show w1.ownsRow w0.heap.size 9 1 u1 (foldFs nmStep (x.f4.take (i + 1)) (nmStep s x)).length (encS (foldFs nmStep (x.f4.take (i + 1)) (nmStep s x))) ∧ Mk (obs (.slice D s.length m)) w w1 ∧ Below w0.heap.size w0 w1 ∧ w1.heap[w.heap.size]? = some (.cells #[.int .i64 x.f0, .string x.f1, .int .i64 x.f2, .slice A3 x.f3.length c3, .slice (some ad) x.f4.length c4] 29 (0, 0)) ∧ ∀ b, b ∈ obs u1 → b ∈ obs (.slice D s.length m) ∨ w.heap.size + 1 ≤ b from by
              refine ⟨by rw [HTK.out]; exact ho, ⟨HW.out.1.b0.trans hM.b0, fun b hb hn => ?_⟩, HW.out.2.1.trans (hM.below HW.out.2.1.size (fun b hb => hge b (obs_mem.1 hb))), (hM.keep _ hkb hbx).trans HW.out.2.2.1, fun b hb => ?_⟩
              · rw [hM.keep b (by omega) (fun hm => by
                  rcases hu b hm with h | h
                  · exact hn h
                  · omega)]
                exact HW.out.1.keep b hb hn
              · rcases hobs b hb with h | h
                · exact hu b h
                · exact .inr (by omega))
            clear ho hM hobs hge hu hbw hkb hvl hbx
            go_wp2_with fail
            go_roundg (x.f4.length - (i + 1))
            case measure => omega
            case rel => exact ⟨i + 1, u1, by omega, Nat.le_refl _, by go_num, rfl, ⟨HQ.out.1⟩, ⟨HQ.out.2⟩⟩
          · obtain rfl : i = x.f4.length := by omega
            rw [List.take_length] at HO
            go_wp2_with fail
            go_ret
            refine ⟨u, rfl, by rw [foldF_eq]; exact HO.out, HW.out.1, fun b hb => (HW.out.2.2.2 b hb).imp id (fun h => by omega)⟩
    · have t0 : (x.f0 == 1) = false := beq_eq_false_iff_ne.mpr hk
      have hstep : nmStep s x = s := by unfold nmStep; rw [if_neg (fun h => hk h.1)]
      have HST := Lib.hid hstep
      clear hin ih hN hb hbx hkb hs hDC hk hstep
      go_enter Try.func61, Try.ntmps61
      go_wp2_with fail
      have hbk := HX.out.2.2.2
      have hs1 : (w.alloc (.cells #[.int .i64 x.f0, .string x.f1, .int .i64 x.f2, .slice A3 x.f3.length c3, .slice A4 x.f4.length c4] 29)).ownsRow w0.heap.size 9 1 (.slice D s.length m) (nmStep s x).length (encS (nmStep s x)) := by rw [HST.out]; exact own_move HX.out.2.2.1 (fun k hk => HX.out.1.block k (own_lt HX.out.2.2.1 k hk))
      have hM1 : Mk (obs (.slice D s.length m)) w (w.alloc (.cells #[.int .i64 x.f0, .string x.f1, .int .i64 x.f2, .slice A3 x.f3.length c3, .slice A4 x.f4.length c4] 29)) := Mk.ofBelow HX.out.1
      have hb1 : Below w0.heap.size w0 (w.alloc (.cells #[.int .i64 x.f0, .string x.f1, .int .i64 x.f2, .slice A3 x.f3.length c3, .slice A4 x.f4.length c4] 29)) := below_step HX.out.2.1 HX.out.1
      have hobs : ∀ b, b ∈ obs (.slice D s.length m) → b ∈ obs (.slice D s.length m) ∨ w.heap.size + 1 ≤ b := fun b hb => .inl hb
      clear p0 p1 p2 p3 p4
      have HF := Lib.hid (And.intro hs1 (And.intro hM1 (And.intro hb1 (And.intro hbk hobs))))
      clear hs1 hM1 hb1 hbk hobs
      go_loopg [0, 5] x.f4.length (fun kq v0 v5 w' => ∃ (i : Nat) (u : Value), i ≤ x.f4.length ∧ x.f4.length - i ≤ kq ∧ v5 = .int .i64 i ∧ v0 = u ∧ Aside0 (w'.ownsRow w0.heap.size 9 1 u (foldFs nmStep (x.f4.take i) (nmStep s x)).length (encS (foldFs nmStep (x.f4.take i) (nmStep s x)))) ∧ Aside0 (Mk (obs (.slice D s.length m)) w w' ∧ Below w0.heap.size w0 w' ∧ w'.heap[w.heap.size]? = some (.cells #[.int .i64 x.f0, .string x.f1, .int .i64 x.f2, .slice A3 x.f3.length c3, .slice A4 x.f4.length c4] 29 (0, 0)) ∧ ∀ b, b ∈ obs u → b ∈ obs (.slice D s.length m) ∨ w.heap.size + 1 ≤ b))
      case atStart => exact ⟨0, _, Nat.zero_le _, by omega, rfl, rfl, ⟨by rw [List.take_zero, foldFs]; exact HF.out.1⟩, ⟨HF.out.2⟩⟩
      case round =>
        obtain ⟨i, u, hi, hg, rfl, hu0, HO, HW⟩ := hrel
        have hu1 := hu0.symm
        subst hu1
        clear hu0
        obtain ⟨p0, p1, p2, p3, p4⟩ := fm_cells HW.out.2.2.1
        by_cases hlt : i < x.f4.length
        · obtain ⟨ad, G3, m3, G4, m4, e, g0, g1, g2, g3, g4, hk⟩ := kid_at HI.out.g4 i hlt
          subst e
          replace g0 := ck0 HW.out.2.1 g0
          replace g1 := ck0 HW.out.2.1 g1
          replace g2 := ck0 HW.out.2.1 g2
          replace g3 := ck0 HW.out.2.1 g3
          replace g4 := ck0 HW.out.2.1 g4
          have h1 := foldFs_lenL (step := nmStep) (len := List.length) (cost := fun _ => 1) nmStep_len (x.f4.take i) (nmStep s x)
          have h2 := nmStep_len s x
          have h3 : sizes (x.f4.take i) + x.f4[i].size ≤ sizes x.f4 := by
            have := sizes_take x.f4 i hlt
            have := sizes_take_le x.f4 (i + 1)
            omega
          rw [cost_nmL] at h1
          have HP := Lib.hid (IH.out x.f4[i] (List.getElem_mem hlt) w0 G3 m3 G4 m4 u _ wr hk HW.out.2.1 HO.out (by have := HN.out; omega))
          have HTK := Lib.hid (show foldFs nmStep (x.f4.take (i + 1)) (nmStep s x) = foldF nmStep x.f4[i] (foldFs nmStep (x.f4.take i) (nmStep s x)) by rw [List.take_succ_eq_append_getElem hlt, foldFs_append, foldFs, foldFs])
          clear h1 h2 h3 hk
          go_wp2_with fail
          clear p0 p1 p2 p3 p4 g0 g1 g2 g3 g4
          refine HP.out.mono ?_
          rintro e w1 ⟨u1, rfl, ho, hM, hobs⟩
          have hge := own_ge HO.out
          have hu : ∀ b, b ∈ obs u → b ∈ obs (.slice D s.length m) ∨ w.heap.size + 1 ≤ b := HW.out.2.2.2
          have hbw := HW.out.1.b0.size
          have hkb := blk_lt HW.out.2.2.1
          have hvl := own_lt HX.out.2.2.1
          have hbx : w.heap.size ∉ obs u := fun hm => by
            rcases hu _ hm with h | h
            · have := hvl _ (obs_mem.1 h); omega
            · omega
          have HQ := Lib.hid (show w1.ownsRow w0.heap.size 9 1 u1 (foldFs nmStep (x.f4.take (i + 1)) (nmStep s x)).length (encS (foldFs nmStep (x.f4.take (i + 1)) (nmStep s x))) ∧ Mk (obs (.slice D s.length m)) w w1 ∧ Below w0.heap.size w0 w1 ∧ w1.heap[w.heap.size]? = some (.cells #[.int .i64 x.f0, .string x.f1, .int .i64 x.f2, .slice A3 x.f3.length c3, .slice (some ad) x.f4.length c4] 29 (0, 0)) ∧ ∀ b, b ∈ obs u1 → b ∈ obs (.slice D s.length m) ∨ w.heap.size + 1 ≤ b from by
            refine ⟨by rw [HTK.out]; exact ho, ⟨HW.out.1.b0.trans hM.b0, fun b hb hn => ?_⟩, HW.out.2.1.trans (hM.below HW.out.2.1.size (fun b hb => hge b (obs_mem.1 hb))), (hM.keep _ hkb hbx).trans HW.out.2.2.1, fun b hb => ?_⟩
            · rw [hM.keep b (by omega) (fun hm => by
                rcases hu b hm with h | h
                · exact hn h
                · omega)]
              exact HW.out.1.keep b hb hn
            · rcases hobs b hb with h | h
              · exact hu b h
              · exact .inr (by omega))
          clear ho hM hobs hge hu hbw hkb hvl hbx
          go_wp2_with fail
          go_roundg (x.f4.length - (i + 1))
          case measure => omega
          case rel => exact ⟨i + 1, u1, by omega, Nat.le_refl _, by go_num, rfl, ⟨HQ.out.1⟩, ⟨HQ.out.2⟩⟩
        · obtain rfl : i = x.f4.length := by omega
          rw [List.take_length] at HO
          go_wp2_with fail
          go_ret
          refine ⟨u, rfl, by rw [foldF_eq]; exact HO.out, HW.out.1, fun b hb => (HW.out.2.2.2 b hb).imp id (fun h => by omega)⟩
set_option maxHeartbeats 1000000 in
theorem specNames_own (x : Fm) (A3 : Option Addr) (c3 : Nat) (A4 : Option Addr) (c4 : Nat) (w : World) (hin : FmIn w x A3 c3 A4 c4) (ht : x.size ≤ 10000000) :
    Calls Try.prog 21 #[.agg #[.int .i64 x.f0, .string x.f1, .int .i64 x.f2, .slice A3 x.f3.length c3, .slice A4 x.f4.length c4]] w (RetS w (namesN x)) := by
  obtain ⟨k1, k2, hb0⟩ := two_new (w := w) (O1 := .cells #[.int .i64 x.f0, .string x.f1, .int .i64 x.f2, .slice A3 x.f3.length c3, .slice A4 x.f4.length c4] 29) (O2 := .cells #[] 9) (Below.refl _ _)
  obtain ⟨p0, p1, p2, p3, p4⟩ := fm_cells k1
  have HP := Lib.hid (l1Names_any x w A3 c3 A4 c4 (.slice (some ⟨w.heap.size + 1, 0, none⟩) 0 0) [] _ hin hb0 ⟨by simp [encs], .inr ⟨_, 0, #[], rfl, by omega, k2, Nat.le_refl _, Nat.zero_le _, rfl, by simp [encs]⟩⟩ (by simp; omega))
  have HB := Lib.hid hb0
  clear hin hb0 ht k1 k2
  go_enter Try.func21, Try.ntmps21
  go_wp2_with fail
  clear p0 p1 p2 p3 p4
  refine HP.out.mono ?_
  rintro e w5 ⟨u, rfl, ho, hM, _⟩
  have HF := Lib.hid (And.intro ho (HB.out.trans (hM.below HB.out.size (fun b hb => by simp [obs, Value.ownBlock] at hb; omega))))
  clear hM ho
  go_wp2_with fail
  go_ret
  exact ⟨_, rfl, HF.out.1, HF.out.2⟩
end Go.Proofs.Ytnaefjilcabkoaa
end
section
namespace Go.Proofs.Ytnaefjilcabkoaa
open Go.RowKit Go.Proofs.YtnaefjilcabkoaaW.PrintWords Go.Proofs.YtnaefjilcabkoaaW.PrintLast Go.Proofs.YtnaefjilcabkoaaW.PrintMore
set_option linter.unusedVariables false
set_option linter.unusedSimpArgs false
/-- The texts of k, k + 1, ..: n of them. -/
def markS (n : Nat) (k : Int) : List ByteArray := (List.range n).map (fun i : Nat => mt (k + (i : Int)))
theorem markS_length (n : Nat) (k : Int) : (markS n k).length = n := by simp [markS]
theorem own_geS {w : World} {B e sz n : Nat} {v : Value} {xs : List Value} (h : w.ownsRow B e sz v n xs) : ∀ k, v.ownBlock = some k → B ≤ k := by
  intro k hk
  rcases h with ⟨_, ⟨rfl, _⟩ | ⟨g, cap, cur, rfl, hg, _⟩⟩
  · cases hk
  · have : g = k := by simpa [Value.ownBlock] using hk
    omega
set_option maxHeartbeats 1000000 in
theorem markStringS_any (xs : List ByteArray) (v : Value) (k : Int) (w : World) (h : kS.R 9 w 0 (fun _ => True) v xs) (hk0 : 1 ≤ k) (hk1 : k + xs.length ≤ 1000000000) :
    Calls Try.prog 24 #[v, .int .i64 k] w (fun e w' => e = .returned (.int .i64 (k + xs.length)) ∧ kS.R 9 w' 0 (fun _ => True) v (markS xs.length k) ∧ Mk (obs v) w w') := by
  obtain ⟨A, c, rfl, hcap, hC0⟩ := own_CS (Kd.own_of_R h)
  have hmax := hC0.2.1
  have HA := Lib.hid h
  clear h hC0
  go_enter Try.func24, Try.ntmps24
  go_wp2_with fail
  go_loopg [1, 5] xs.length (fun kq v1 v5 w' => ∃ i : Nat, i ≤ xs.length ∧ xs.length - i ≤ kq ∧ v5 = .int .i64 i ∧ v1 = .int .i64 (k + (i : Int)) ∧ Aside0 (kS.R 9 w' 0 (fun _ => True) (.slice A xs.length c) (markS i k ++ xs.drop i)) ∧ Aside0 (Mk (obs (.slice A xs.length c)) w w'))
  case atStart => exact ⟨0, Nat.zero_le _, by omega, rfl, by simp, ⟨by simpa [markS] using HA.out⟩, ⟨Mk.refl _ _⟩⟩
  case round =>
    obtain ⟨i, hi, hg, rfl, rfl, HO, HW⟩ := hrel
    by_cases hlt : i < xs.length
    · have hlen : (markS i k ++ xs.drop i).length = xs.length := by simp [markS]; omega
      have HT := Lib.hid (markTextZ (k + (i : Int)) wr (by omega) (by omega))
      go_wp2_with fail
      refine HT.out.mono ?_
      rintro e w1 ⟨rfl, hb⟩
      have ho := Kd.own_of_R HO.out
      have HO1 := Lib.hid (Kd.R_of_own (h1 := fun _ => rfl) (ok := fun _ => True) (own_move ho (fun b hb2 => hb.block b (own_lt ho b hb2))) (fun _ _ => trivial))
      obtain ⟨g, cap, e, hg1, _, hx, hf, _, HP⟩ := own_at HO1.out i (by omega)
      rw [hlen] at e HP
      have hA : A = some ⟨g, 0, none⟩ := by cases e; rfl
      have hcc : c = cap := by cases e; rfl
      subst hA
      subst hcc
      have HP := Lib.hid (HP (mt (k + (i : Int))))
      have HM := Lib.hid ((Mk.ofBelow hb).trans (Mk.set w1 (S := obs (.slice (some ⟨g, 0, none⟩) xs.length c)) (g := g) (by simp [obs, Value.ownBlock]) i (.string (mt (k + (i : Int))))))
      clear e ho hb HO1 HT
      go_wp2_with fail
      go_roundg (xs.length - (i + 1))
      case measure => omega
      case rel =>
        refine ⟨i + 1, by omega, Nat.le_refl _, by go_num, by go_num, ⟨?_⟩, ⟨HW.out.trans HM.out⟩⟩
        have := HP.out
        rwa [show (markS i k ++ xs.drop i).set i (mt (k + (i : Int))) = markS (i + 1) k ++ xs.drop (i + 1) from ?_] at this
        have e1 : (List.drop i xs).set 0 (mt (k + (i : Int))) = mt (k + (i : Int)) :: List.drop (i + 1) xs := by rw [List.drop_eq_getElem_cons hlt]; rfl
        rw [List.set_append_right _ _ (by simp [markS]), markS_length, Nat.sub_self, e1]
        simp [markS, List.range_succ]
    · obtain rfl : i = xs.length := by omega
      go_wp2_with fail
      go_ret
      refine ⟨rfl, ?_, HW.out⟩
      have := HO.out
      rwa [List.drop_length, List.append_nil] at this
set_option maxHeartbeats 1000000 in
theorem heldStringS_any (n : Nat) (A : Option Addr) (c : Nat) (k : Int) (w : World) (hr : kS.C w A n (markS n k)) (hc : n ≤ c) (hk0 : 1 ≤ k) (hk1 : k + n ≤ 1000000000) :
    Calls Try.prog 25 #[.slice A n c, .int .i64 k] w (Ret w (.int .i64 (k + n))) := by
  have hmax := hr.2.1
  go_enter Try.func25, Try.ntmps25
  go_wp2_with fail
  go_loopg [1, 5] n (fun kq v1 v5 w' => ∃ i : Nat, i ≤ n ∧ n - i ≤ kq ∧ v5 = .int .i64 i ∧ v1 = .int .i64 (k + (i : Int)) ∧ Aside0 (Below w.heap.size w w'))
  case atStart => exact ⟨0, Nat.zero_le _, by omega, rfl, by simp, ⟨Below.refl _ _⟩⟩
  case round =>
    obtain ⟨i, hi, hg, rfl, rfl, HW⟩ := hrel
    by_cases hlt : i < n
    · obtain ⟨ad, e, hcell⟩ := str_at (Kd.C_below hr HW.out) i (by rw [markS_length]; exact hlt)
      subst e
      rw [show (markS n k)[i]'(by rw [markS_length]; exact hlt) = mt (k + (i : Int)) from by simp [markS]] at hcell
      have n0 : ((mt (k + (i : Int))).toList != (mt (k + (i : Int))).toList) = false := by simp
      have p1 : (0 : Int) ≤ (i : Int) := by omega
      have p2 : (i : Int) < (n : Int) := by omega
      have MT := Lib.hid (fun W => markTextZ (k + (i : Int)) W (by omega) (by omega))
      go_wp2_with fail
      go_region_held3 (fun w' => w'.cell? (ad.add i) = some (.string (mt (k + (i : Int))))) (first | go_keep | exact ck hb1 hcell) ((go_at_call 65; refine (MT.out _).mono ?_; rintro e w1 ⟨rfl, hb1⟩))
      have HB1 := Lib.hid (below_step HW.out (below_step (Below.refl _ _).drew hb1))
      clear hb1
      go_wp2_with fail
      go_roundg (n - (i + 1))
      case measure => omega
      case rel => exact ⟨i + 1, by omega, Nat.le_refl _, by go_num, by go_num, ⟨HB1.out⟩⟩
    · obtain rfl : i = n := by omega
      go_wp2_with fail
      go_ret
      exact ⟨rfl, HW.out⟩
/-- A list of texts whose block lies from lo on and ahead of hi. -/
structure OwnS (lo hi : Nat) (w : World) (v : Value) (xs : List ByteArray) : Prop where
  row : w.ownsRow 0 9 1 v xs.length (encS xs)
  at_ : ∀ b, v.ownBlock = some b → lo ≤ b ∧ b < hi
  sz : hi ≤ w.heap.size
def GetOS (w : World) (xs : List ByteArray) (e : Ending) (w' : World) : Prop := ∃ A c, e = .returned (.slice A xs.length c) ∧ OwnS w.heap.size w'.heap.size w' (.slice A xs.length c) xs ∧ Below w.heap.size w w'
theorem RetS.getOS {w : World} {xs : List ByteArray} {e : Ending} {w' : World} (h : RetS w xs e w') : GetOS w xs e w' := by
  obtain ⟨v, rfl, ho, hb⟩ := h
  have h0 : w'.ownsRow 0 9 1 v xs.length (encS xs) := ⟨ho.1, by
    rcases ho.2 with q | ⟨g, cap, cur, e, _, r⟩
    · exact .inl q
    · exact .inr ⟨g, cap, cur, e, Nat.zero_le _, r⟩⟩
  obtain ⟨A, c, rfl, _, _⟩ := own_CS h0
  exact ⟨A, c, rfl, ⟨h0, fun b hb2 => ⟨own_geS ho b hb2, own_lt ho b hb2⟩, Nat.le_refl _⟩, hb⟩
theorem OwnS.now {lo hi : Nat} {w : World} {A : Option Addr} {c : Nat} {xs : List ByteArray} (h : OwnS lo hi w (.slice A xs.length c) xs) : xs.length ≤ c ∧ kS.C w A xs.length xs := by
  obtain ⟨B, d, e, hc, hr⟩ := own_CS h.row
  injection e with e1 _ e2
  subst e1 e2
  exact ⟨hc, hr⟩
theorem OwnS.later {lo hi : Nat} {w W : World} {v : Value} {xs : List ByteArray} (h : OwnS lo hi w v xs) (b : Below w.heap.size w W) : OwnS lo hi W v xs :=
  ⟨own_move h.row (fun k hk => b.block k (Nat.lt_of_lt_of_le (h.at_ k hk).2 h.sz)), h.at_, Nat.le_trans h.sz b.size⟩
theorem OwnS.move_ {lo hi n : Nat} {w W : World} {A : Option Addr} {c : Nat} {k : Int} (h : OwnS lo hi w (.slice A n c) (markS n k)) (b : Below w.heap.size w W) : OwnS lo hi W (.slice A n c) (markS n k) := h.later b
theorem Mrk.ownS {lo hi lo2 hi2 : Nat} {w w' : World} {v : Value} {xs : List ByteArray} (h : Mrk lo hi w w') (ho : OwnS lo2 hi2 w v xs) (hd : hi ≤ lo2 ∨ hi2 ≤ lo) : OwnS lo2 hi2 w' v xs := by
  obtain ⟨S, hm, hS⟩ := h.ex
  exact ⟨own_move ho.row (fun k hk => hm.keep k (Nat.lt_of_lt_of_le (ho.at_ k hk).2 ho.sz) (fun q => by have := hS k q; have := ho.at_ k hk; omega)), ho.at_, Nat.le_trans ho.sz hm.b0.size⟩
theorem markStringS_own {lo hi : Nat} {w : World} {v : Value} {xs : List ByteArray} (k : Int) (h : OwnS lo hi w v xs) (hk0 : 1 ≤ k) (hk1 : k + xs.length ≤ 1000000000) :
    Calls Try.prog 24 #[v, .int .i64 k] w (fun e w' => e = .returned (.int .i64 (k + xs.length)) ∧ OwnS lo hi w' v (markS xs.length k) ∧ Mrk lo hi w w') := by
  refine (markStringS_any xs v k w (Kd.R_of_own (h1 := fun _ => rfl) (ok := fun _ => True) h.row (fun _ _ => trivial)) hk0 hk1).mono ?_
  rintro e w' ⟨rfl, hR, hm⟩
  exact ⟨rfl, ⟨Kd.own_of_R hR, h.at_, Nat.le_trans h.sz hm.b0.size⟩, ⟨_, hm, fun b hb => h.at_ b (obs_mem.1 hb)⟩⟩
theorem heldStringS_own {lo hi : Nat} {w : World} {A : Option Addr} {c n : Nat} (k : Int) (h : OwnS lo hi w (.slice A n c) (markS n k)) (hk0 : 1 ≤ k) (hk1 : k + n ≤ 1000000000) :
    Calls Try.prog 25 #[.slice A n c, .int .i64 k] w (Ret w (.int .i64 (k + n))) := by
  have h2 : OwnS lo hi w (.slice A (markS n k).length c) (markS n k) := by rw [markS_length]; exact h
  have h3 := h2.now
  rw [markS_length] at h3
  exact heldStringS_any n A c k w h3.2 h3.1 hk0 hk1
theorem namesLen (x : Fm) : (namesN x).length ≤ 1 + x.tot := by
  have h1 := foldFs_len (step := nmStep) (len := List.length) (cost := fun _ => 1) nmStep_len x []
  rw [cost_nm] at h1
  have h2 := sizes_totL x
  have h3 : (namesN x).length ≤ x.size := by simpa using h1
  omega
theorem implNmO {x : Fm} {l : List ByteArray} (hz : namesN x = l) (A3 : Option Addr) (c3 : Nat) (A4 : Option Addr) (c4 : Nat) (w : World) (hin : FmIn w x A3 c3 A4 c4) (ht : x.tot ≤ 1048576) :
    Calls Try.prog 22 #[.agg #[.int .i64 x.f0, .string x.f1, .int .i64 x.f2, .slice A3 x.f3.length c3, .slice A4 x.f4.length c4]] w (GetOS w l) := by
  have := (implNames_own x A3 c3 A4 c4 w hin (by have := sizes_totL x; omega)).mono (fun e w' h => h.getOS)
  rwa [hz] at this
theorem specNmO {x : Fm} {l : List ByteArray} (hz : namesN x = l) (A3 : Option Addr) (c3 : Nat) (A4 : Option Addr) (c4 : Nat) (w : World) (hin : FmIn w x A3 c3 A4 c4) (ht : x.tot ≤ 1048576) :
    Calls Try.prog 21 #[.agg #[.int .i64 x.f0, .string x.f1, .int .i64 x.f2, .slice A3 x.f3.length c3, .slice A4 x.f4.length c4]] w (fun e w' => ∃ A c, e = .returned (.slice A l.length c) ∧ l.length ≤ c ∧ kS.C w' A l.length l ∧ Below w.heap.size w w') := by
  have := (specNames_own x A3 c3 A4 c4 w hin (by have := sizes_totL x; omega)).mono (fun e w' h => h.getOS)
  rw [hz] at this
  refine this.mono ?_
  rintro e w' ⟨A, c, rfl, ho, hb⟩
  exact ⟨A, c, rfl, ho.now.1, ho.now.2, hb⟩
end Go.Proofs.Ytnaefjilcabkoaa
end
section
namespace Go.Proofs.Ytnaefjilcabkoaa
open Go.RowKit Go.Proofs.YtnaefjilcabkoaaW.PrintWords Go.Proofs.YtnaefjilcabkoaaW.PrintLast Go.Proofs.YtnaefjilcabkoaaW.PrintMore
set_option linter.unusedVariables false
set_option linter.unusedSimpArgs false
/-- Behind the world w (two blocks O1, O2, then g3): the form's variable holds C. -/
structure Fr (w : World) (O1 O2 : Obj) (g3 : Nat) (C : Array Value) (W : World) : Prop where
  b : Below w.heap.size w W
  k1 : W.heap[w.heap.size]? = some O1
  k2 : W.heap[w.heap.size + 1]? = some O2
  k3 : W.heap[g3]? = some (.cells C 29 (0, 0))
  h3 : w.heap.size + 2 ≤ g3
theorem Fr.later {w W W1 : World} {O1 O2 : Obj} {g3 : Nat} {C : Array Value} (h : Fr w O1 O2 g3 C W) (hb : Below W.heap.size W W1) : Fr w O1 O2 g3 C W1 :=
  ⟨below_step h.b hb, blk_below h.k1 hb, blk_below h.k2 hb, blk_below h.k3 hb, h.h3⟩
theorem Fr.lt {w W : World} {O1 O2 : Obj} {g3 : Nat} {C : Array Value} (h : Fr w O1 O2 g3 C W) : w.heap.size + 2 ≤ W.heap.size ∧ g3 < W.heap.size := by
  have h1 := blk_lt h.k2
  have h2 := blk_lt h.k3
  omega
theorem Fr.grown {w W W1 : World} {O1 O2 : Obj} {g3 : Nat} {C : Array Value} {row : Option Nat} (h : Fr w O1 O2 g3 C W) (hg : W.grownBy W1 row) (hr : ∀ k, row = some k → w.heap.size + 2 ≤ k ∧ k ≠ g3) : Fr w O1 O2 g3 C W1 := by
  have hl := h.lt
  have hne : ∀ k, k < w.heap.size + 2 ∨ k = g3 → some k ≠ row := fun k hk he => by
    have := hr k he.symm
    omega
  refine ⟨⟨hg.os.trans h.b.os, hg.tape.trans h.b.tape, hg.output.trans h.b.output, Nat.le_trans h.b.size hg.size, fun k hk => (hg.block k (by omega) (hne k (by omega))).trans (h.b.block k hk)⟩, ?_, ?_, ?_, h.h3⟩
  · exact (hg.block _ (by omega) (hne _ (by omega))).trans h.k1
  · exact (hg.block _ (by omega) (hne _ (by omega))).trans h.k2
  · exact (hg.block _ (by omega) (hne _ (by omega))).trans h.k3
theorem Fr.put {w W : World} {O1 O2 : Obj} {g3 : Nat} {a b c d u : Value} (h : Fr w O1 O2 g3 #[a, b, c, d, u] W) (v : Value) : Fr w O1 O2 g3 #[a, b, c, d, v] (W.setCell ⟨g3, 4, none⟩ v) := by
  have h3 := h.h3
  refine ⟨below_set h.b (by show w.heap.size ≤ g3; omega), ?_, ?_, ?_, h3⟩
  · rw [Below.heap_setCell _ _ _ _ (by show w.heap.size ≠ g3; omega)]; exact h.k1
  · rw [Below.heap_setCell _ _ _ _ (by show w.heap.size + 1 ≠ g3; omega)]; exact h.k2
  · simpa using blk_set h.k3 4 v
/-- The rows of the form that is being built: its scopes, and what is done of its parts. -/
structure Cp (w : World) (O1 O2 : Obj) (g3 : Nat) (k : Int) (n : ByteArray) (m : Int) (sc : List Int) (done : List Fm) (v3 v : Value) (inner : List Value) (fp : List Nat) (W : World) : Prop where
  fr : Fr w O1 O2 g3 #[.int .i64 k, .string n, .int .i64 m, v3, v] W
  o3 : W.ownsRow 0 3 1 v3 sc.length (encI sc)
  o4 : W.ownsRow 0 29 5 v done.length inner
  tr : TrL W done inner fp
  nd : (obs v3 ++ (obs v ++ fp)).Nodup
  ge : ∀ b, b ∈ obs v3 ++ (obs v ++ fp) → w.heap.size + 2 ≤ b ∧ b ≠ g3
section
variable {w W W1 : World} {O1 O2 : Obj} {g3 : Nat} {k m : Int} {n : ByteArray} {sc : List Int} {done : List Fm} {v3 v : Value} {inner : List Value} {fp : List Nat}
theorem Cp.lt (h : Cp w O1 O2 g3 k n m sc done v3 v inner fp W) : ∀ b, b ∈ obs v3 ++ (obs v ++ fp) → b < W.heap.size := by
  intro b hb
  rcases List.mem_append.1 hb with hb | hb
  · exact own_lt h.o3 b (obs_mem.1 hb)
  rcases List.mem_append.1 hb with hb | hb
  · exact own_lt h.o4 b (obs_mem.1 hb)
  · exact h.tr.lt _ b hb
theorem Cp.later (h : Cp w O1 O2 g3 k n m sc done v3 v inner fp W) (hb : Below W.heap.size W W1) : Cp w O1 O2 g3 k n m sc done v3 v inner fp W1 := by
  have hl := h.lt
  refine ⟨h.fr.later hb, own_move h.o3 (fun b hb2 => hb.block b (hl b (by simp [obs_mem, hb2]))), own_move h.o4 (fun b hb2 => hb.block b (hl b (by simp [obs_mem, hb2]))), h.tr.later hb, h.nd, h.ge⟩
/-- Another part is done: behind the append, and the store into the variable. -/
theorem Cp.more (h : Cp w O1 O2 g3 k n m sc done v3 v inner fp W) {B : Nat} {y : Fm} {u3 u4 : Value} (hB : ∀ b, b ∈ obs v3 ++ (obs v ++ fp) → b < B) (hg3 : g3 < B) (hB2 : w.heap.size + 2 ≤ B) (hn : NewF B W y u3 u4)
    {v' : Value} (ho : W1.ownsRow 0 29 5 v' (done.length + 1) (inner ++ [.int .i64 y.f0, .string y.f1, .int .i64 y.f2, u3, u4])) (hg : W.grownBy W1 v.ownBlock) (hat : v'.ownBlock = v.ownBlock ∨ ∃ b, v'.ownBlock = some b ∧ W.heap.size ≤ b) :
    ∃ fp', Cp w O1 O2 g3 k n m sc (done ++ [y]) v3 v' (inner ++ [.int .i64 y.f0, .string y.f1, .int .i64 y.f2, u3, u4]) fp' (W1.setCell ⟨g3, 4, none⟩ v') := by
  obtain ⟨fk, ht, hnd, hge⟩ := hn
  have hl := h.lt
  have hnd0 := h.nd
  have hge0 := h.ge
  simp only [List.nodup_append, List.mem_append] at hnd0 hge0 hl hB
  obtain ⟨n3, ⟨n4, n5, n45⟩, n345⟩ := hnd0
  have htl := ht.lt y
  have hlt1 : ∀ b, b ∈ obs v' → b < W1.heap.size := fun b hb => own_lt ho b (obs_mem.1 hb)
  have hobs : ∀ b, b ∈ obs v' → b ∈ obs v ∨ W.heap.size ≤ b := by
    intro b hb
    rcases hat with e | ⟨c, e, hc⟩
    · exact .inl (obs_mem.2 (e ▸ obs_mem.1 hb))
    · have := obs_mem.1 hb
      rw [e] at this
      cases this
      exact .inr hc
  have hnv : ∀ b, b ∈ obs v3 ∨ b ∈ fp ∨ b ∈ fk → some b ≠ v.ownBlock := by
    intro b hb he
    have hbv : b ∈ obs v := obs_mem.2 he.symm
    rcases hb with hb | hb | hb
    · exact n345 b hb b (.inl hbv) rfl
    · exact n45 b hbv b hb rfl
    · have := hB b (.inr (.inl hbv))
      have := hge b hb
      omega
  have hmv : ∀ b, b ∈ obs v3 ∨ b ∈ fp ∨ b ∈ fk → (W1.setCell ⟨g3, 4, none⟩ v').heap[b]? = W.heap[b]? := by
    intro b hb
    have hb2 : b < W.heap.size ∧ b ≠ g3 := by
      rcases hb with hb | hb | hb
      · exact ⟨hl b (.inl hb), (hge0 b (.inl hb)).2⟩
      · exact ⟨hl b (.inr (.inr hb)), (hge0 b (.inr (.inr hb))).2⟩
      · have := hge b hb
        exact ⟨htl b hb, by omega⟩
    rw [Below.heap_setCell _ _ _ _ (by show b ≠ g3; exact hb2.2)]
    exact hg.block b hb2.1 (hnv b hb)
  have hv'3 : ∀ b, b ∈ obs v' → b ≠ g3 := by
    intro b hb he
    have hl3 := h.fr.lt
    rcases hobs b hb with h1 | h1
    · exact (hge0 b (.inr (.inl h1))).2 he
    · omega
  have hrow := h.fr.grown hg (fun c hc => hge0 c (.inr (.inl (obs_mem.2 hc))))
  refine ⟨fp ++ fk, hrow.put v', ?_, ?_, ?_, ?_, ?_⟩
  · exact own_move h.o3 (fun b hb => hmv b (.inl (obs_mem.2 hb)))
  · rw [List.length_append]
    exact own_move ho (fun b hb => Below.heap_setCell _ _ _ _ (by show b ≠ g3; exact hv'3 b (obs_mem.2 hb)))
  · exact (h.tr.move _ (fun b hb => hmv b (.inr (.inl hb)))).append (TrL.one (ht.move y (fun b hb => hmv b (.inr (.inr hb)))))
  · simp only [List.nodup_append, List.mem_append]
    refine ⟨n3, ⟨?_, ⟨n5, hnd, fun a ha b hb e => ?_⟩, fun a ha b hb e => ?_⟩, fun a ha b hb e => ?_⟩
    · unfold obs
      cases v'.ownBlock <;> simp
    · have := hB a (.inr (.inr ha)); have := hge b hb; omega
    · subst e
      rcases hobs a ha with h1 | h1
      · rcases hb with hb | hb
        · exact n45 a h1 a hb rfl
        · have := hB a (.inr (.inl h1)); have := hge a hb; omega
      · rcases hb with hb | hb
        · have := hl a (.inr (.inr hb)); omega
        · have := htl a hb; omega
    · subst e
      rcases hb with hb | hb | hb
      · rcases hobs a hb with h1 | h1
        · exact n345 a ha a (.inl h1) rfl
        · have := hl a (.inl ha); omega
      · exact n345 a ha a (.inr hb) rfl
      · have := hB a (.inl ha); have := hge a hb; omega
  · simp only [List.mem_append]
    intro b hb
    have hl3 := h.fr.lt
    rcases hb with hb | hb | hb | hb
    · exact hge0 b (.inl hb)
    · rcases hobs b hb with h1 | h1
      · exact hge0 b (.inr (.inl h1))
      · exact ⟨by omega, by omega⟩
    · exact hge0 b (.inr (.inr hb))
    · have := hge b hb
      exact ⟨by omega, by omega⟩
/-- All parts are done. -/
theorem Cp.newF (h : Cp w O1 O2 g3 k n m sc done v3 v inner fp W) (hW : ∀ b, b ≠ w.heap.size + 1 → W1.heap[b]? = W.heap[b]?) : NewF w.heap.size W1 ⟨k, n, m, sc, done⟩ v3 v := by
  have hge := h.ge
  refine ⟨_, .mk ⟨k, n, m, sc, done⟩ v3 v inner fp (own_move h.o3 (fun b hb => hW b ?_)) (own_move h.o4 (fun b hb => hW b ?_)) (h.tr.move _ (fun b hb => hW b ?_)), h.nd, fun b hb => ?_⟩
  · have := hge b (by simp [obs_mem, hb]); omega
  · have := hge b (by simp [obs_mem, hb]); omega
  · have := hge b (by simp [hb]); omega
  · have := hge b hb; omega
end
theorem st5 {W : World} {g : Nat} {t : TypeId} {a0 a1 a2 a3 a4 : Value} (h : W.heap[g]? = some (.cells #[a0, a1, a2, a3, a4] t (0, 0))) (b0 b1 b2 b3 b4 : Value) :
    (((((W.setCell ⟨g, 0, none⟩ b0).setCell ⟨g, 1, none⟩ b1).setCell ⟨g, 2, none⟩ b2).setCell ⟨g, 3, none⟩ b3).setCell ⟨g, 4, none⟩ b4).heap[g]? = some (.cells #[b0, b1, b2, b3, b4] t (0, 0)) ∧
    (∀ k, k ≠ g → (((((W.setCell ⟨g, 0, none⟩ b0).setCell ⟨g, 1, none⟩ b1).setCell ⟨g, 2, none⟩ b2).setCell ⟨g, 3, none⟩ b3).setCell ⟨g, 4, none⟩ b4).heap[k]? = W.heap[k]?) ∧
    (∀ (B : Nat) (a : World), Below B a W → B ≤ g → Below B a (((((W.setCell ⟨g, 0, none⟩ b0).setCell ⟨g, 1, none⟩ b1).setCell ⟨g, 2, none⟩ b2).setCell ⟨g, 3, none⟩ b3).setCell ⟨g, 4, none⟩ b4)) := by
  refine ⟨?_, fun k hk => ?_, fun B a h hg => ?_⟩
  · have s0 := blk_set h 0 b0
    have s1 := blk_set s0 1 b1
    have s2 := blk_set s1 2 b2
    have s3 := blk_set s2 3 b3
    have s4 := blk_set s3 4 b4
    simpa using s4
  · rw [Below.heap_setCell _ _ _ _ (by exact hk), Below.heap_setCell _ _ _ _ (by exact hk), Below.heap_setCell _ _ _ _ (by exact hk), Below.heap_setCell _ _ _ _ (by exact hk), Below.heap_setCell _ _ _ _ (by exact hk)]
  · exact ((((h.setCell (p := ⟨g, _, none⟩) hg _).setCell (p := ⟨g, _, none⟩) hg _).setCell (p := ⟨g, _, none⟩) hg _).setCell (p := ⟨g, _, none⟩) hg _).setCell (p := ⟨g, _, none⟩) hg _
/-- The form's variable is laid: no part is done yet. -/
theorem Cp.start {w w5 wz W : World} {O1 O2 : Obj} {g3 : Nat} {k m : Int} {n : ByteArray} {sc : List Int} {v3 : Value} {ok : Nat → Prop} (hk1 : w5.heap[w.heap.size]? = some O1) (hk2 : w5.heap[w.heap.size + 1]? = some O2) (hb0 : Below w.heap.size w w5) (hsz : w.heap.size + 2 ≤ w5.heap.size)
    (hbz : Below w5.heap.size w5 wz) (ho3 : kI.R 3 wz w5.heap.size ok v3 sc) (hg3 : w5.heap.size ≤ g3) (hne : some g3 ≠ v3.ownBlock) (hW : W.heap[g3]? = some (.cells #[.int .i64 k, .string n, .int .i64 m, v3, .slice none 0 0] 29 (0, 0)))
    (hWo : ∀ b, b ≠ g3 → W.heap[b]? = wz.heap[b]?) (hWb : Below w5.heap.size w5 W) : Cp w O1 O2 g3 k n m sc [] v3 (.slice none 0 0) [] [] W := by
  have h1 := blk_lt hk2
  have hb := Kd.R_base ho3
  refine ⟨⟨hb0.trans (hWb.mono hb0.size), blk_below hk1 hWb, blk_below hk2 hWb, hW, by omega⟩, own_move (own_weaken (Kd.own_of_R ho3) (Nat.zero_le _)) (fun b hb2 => hWo b (fun e => hne (by rw [← e, hb2]))), by simp [World.ownsRow], .nil, ?_, fun b hb2 => ?_⟩
  · rw [show obs v3 ++ (obs (Value.slice none 0 0) ++ []) = obs v3 from by simp [obs, Value.ownBlock]]
    unfold obs
    cases v3.ownBlock <;> simp
  · have hb3 : b ∈ obs v3 := by simpa [obs, Value.ownBlock] using hb2
    have := hb b (obs_mem.1 hb3)
    exact ⟨by omega, fun e => hne (by rw [← e, obs_mem.1 hb3])⟩
end Go.Proofs.Ytnaefjilcabkoaa
end
section
namespace Go.Proofs.Ytnaefjilcabkoaa
set_option linter.unusedVariables false
mutual
/-- A form without scopes. -/
def Fm.bare : Fm → Fm
  | ⟨a, b, c, _, ks⟩ => ⟨a, b, c, [], bareL ks⟩
def bareL : List Fm → List Fm
  | [] => []
  | k :: ks => k.bare :: bareL ks
end
end Go.Proofs.Ytnaefjilcabkoaa
end
section
namespace Go.Proofs.Ytnaefjilcabkoaa
open Go.RowKit Go.Proofs.YtnaefjilcabkoaaW.PrintWords Go.Proofs.YtnaefjilcabkoaaW.PrintLast Go.Proofs.YtnaefjilcabkoaaW.PrintMore
set_option linter.unusedVariables false
set_option linter.unusedSimpArgs false
theorem scTot (x : Fm) : x.f3.length ≤ x.tot := by
  have := x.tot_eq; omega
set_option maxHeartbeats 4000000 in
set_option maxRecDepth 100000 in
theorem l1Copy_any : ∀ x : Fm, ∀ (A3 : Option Addr) (c3 : Nat) (A4 : Option Addr) (c4 : Nat) (w : World), FmIn w x A3 c3 A4 c4 → x.tot ≤ 1000000000 →
    Calls Try.prog 73 #[.agg #[.int .i64 x.f0, .string x.f1, .int .i64 x.f2, .slice A3 x.f3.length c3, .slice A4 x.f4.length c4]] w (RetF w x) := by
  intro x
  induction x using Fm.ind with
  | h x ih =>
    intro A3 c3 A4 c4 w hin ht
    have hmax := hin.g4.2.1
    have HI := Lib.hid hin
    have HT := Lib.hid ht
    have IH := Lib.hid ih
    clear hin ht ih
    go_enter Try.func73, Try.ntmps73
    go_wp2_with fail
    obtain ⟨kb1, kb2, hb0⟩ := two_new (w := w) (O1 := (.cells #[.int .i64 x.f0, .string x.f1, .int .i64 x.f2, .slice A3 x.f3.length c3, .slice A4 x.f4.length c4] 29)) (O2 := (.cells #[.int .i64 0, .string ⟨#[]⟩, .int .i64 0, .slice none 0 0, .slice none 0 0] 29)) (Below.refl _ _).drew
    obtain ⟨p0, p1, p2, p3, p4⟩ := fm_cells kb1
    refine start_ (n := 13) (S := fun w' => w'.cell? ⟨w.heap.size, 0, none⟩ = some (.int .i64 x.f0) ∧ w'.cell? ⟨w.heap.size, 1, none⟩ = some (.string x.f1) ∧ w'.cell? ⟨w.heap.size, 2, none⟩ = some (.int .i64 x.f2) ∧ w'.cell? ⟨w.heap.size, 3, none⟩ = some (.slice A3 x.f3.length c3)) (ds := []) #[false, false, false, false, false, false, false, false, false, false, false, false, false] (by kernel_rfl) rfl rfl ⟨p0, p1, p2, p3⟩ (fun hHeld => ?_)
    have hsz : w.heap.size + 2 ≤ (((w.alloc (.cells #[.int .i64 x.f0, .string x.f1, .int .i64 x.f2, .slice A3 x.f3.length c3, .slice A4 x.f4.length c4] 29)).alloc (.cells #[.int .i64 0, .string ⟨#[]⟩, .int .i64 0, .slice none 0 0, .slice none 0 0] 29)).drew).heap.size := by simp
    generalize World.drew _ = w5 at kb1 kb2 hb0 hsz p0 p1 p2 p3 p4 hHeld ⊢
    have P0 := Lib.hid p0
    have P1 := Lib.hid p1
    have P2 := Lib.hid p2
    have P3 := Lib.hid p3
    have KB1 := Lib.hid kb1
    have KB2 := Lib.hid kb2
    have HB0 := Lib.hid hb0
    have HSZ := Lib.hid hsz
    clear p0 p1 p2 p3 p4 kb1 kb2 hb0 hsz
    refine pure_ (i := 0) (N := some 5) (v := ?_) (a' := ?_) #[true, false, false, false, false, false, false, false, false, false, false, false, false] rfl rfl (by kernel_rfl) (fun _ _ _ h => h) (Or.inl ⟨by rfl, ?_⟩) ?_ ?_
    rotate_left
    · intro w'
      go_simp
      with_reducible rfl
    rotate_left
    · simp only [Act.put, List.setIfInBounds_toArray, List.set_cons_zero, List.set_cons_succ, i64_w, i32_w]
      rfl
    refine pure_ (i := 2) (N := some 7) (v := ?_) (a' := ?_) #[true, false, true, false, false, false, false, false, false, false, false, false, false] rfl rfl (by kernel_rfl) (fun _ _ _ h => h) (Or.inl ⟨by rfl, ?_⟩) ?_ ?_
    rotate_left
    · intro w'
      go_simp
      with_reducible rfl
    rotate_left
    · simp only [Act.put, List.setIfInBounds_toArray, List.set_cons_zero, List.set_cons_succ, i64_w, i32_w]
      rfl
    refine pure_ (i := 4) (N := some 9) (v := ?_) (a' := ?_) #[true, false, true, false, true, false, false, false, false, false, false, false, false] rfl rfl (by kernel_rfl) (fun _ _ _ h => h) (Or.inl ⟨by rfl, ?_⟩) ?_ ?_
    rotate_left
    · intro w'
      go_simp
      with_reducible rfl
    rotate_left
    · simp only [Act.put, List.setIfInBounds_toArray, List.set_cons_zero, List.set_cons_succ, i64_w, i32_w]
      rfl
    refine pure_ (i := 7) (N := some 12) (v := ?_) (a' := ?_) #[true, false, true, false, true, false, false, true, false, false, false, false, false] rfl rfl (by kernel_rfl) (fun _ _ _ h => h) (Or.inl ⟨by rfl, ?_⟩) ?_ ?_
    rotate_left
    · intro w'
      go_simp
      with_reducible rfl
    rotate_left
    · simp only [Act.put, List.setIfInBounds_toArray, List.set_cons_zero, List.set_cons_succ, i64_w, i32_w]
      rfl
    refine take_ (i := 1) (N := some 6) (v := ?_) (a' := ?_) #[true, true, true, false, true, false, false, true, false, false, false, false, false] rfl rfl (by kernel_rfl) (fun _ _ _ h => h) (Or.inl ⟨by rfl, ?_⟩) hHeld ?_ ?_
    rotate_left
    · rintro w' ⟨s0, s1, s2, s3⟩
      go_simp
      with_reducible rfl
    rotate_left
    · simp only [Act.put, List.setIfInBounds_toArray, List.set_cons_zero, List.set_cons_succ, i64_w, i32_w]
      rfl
    refine take_ (i := 3) (N := some 8) (v := ?_) (a' := ?_) #[true, true, true, true, true, false, false, true, false, false, false, false, false] rfl rfl (by kernel_rfl) (fun _ _ _ h => h) (Or.inl ⟨by rfl, ?_⟩) hHeld ?_ ?_
    rotate_left
    · rintro w' ⟨s0, s1, s2, s3⟩
      go_simp
      with_reducible rfl
    rotate_left
    · simp only [Act.put, List.setIfInBounds_toArray, List.set_cons_zero, List.set_cons_succ, i64_w, i32_w]
      rfl
    refine take_ (i := 5) (N := some 10) (v := ?_) (a' := ?_) #[true, true, true, true, true, true, false, true, false, false, false, false, false] rfl rfl (by kernel_rfl) (fun _ _ _ h => h) (Or.inl ⟨by rfl, ?_⟩) hHeld ?_ ?_
    rotate_left
    · rintro w' ⟨s0, s1, s2, s3⟩
      go_simp
      with_reducible rfl
    rotate_left
    · simp only [Act.put, List.setIfInBounds_toArray, List.set_cons_zero, List.set_cons_succ, i64_w, i32_w]
      rfl
    refine take_ (i := 8) (N := some 13) (v := ?_) (a' := ?_) #[true, true, true, true, true, true, false, true, true, false, false, false, false] rfl rfl (by kernel_rfl) (fun _ _ _ h => h) (Or.inl ⟨by rfl, ?_⟩) hHeld ?_ ?_
    rotate_left
    · rintro w' ⟨s0, s1, s2, s3⟩
      go_simp
      with_reducible rfl
    rotate_left
    · simp only [Act.put, List.setIfInBounds_toArray, List.set_cons_zero, List.set_cons_succ, i64_w, i32_w]
      rfl
    refine join_ (σ := Value × Value × Nat) 1 #[true, true, true, true, true, true, true, true, true, true, true, true, false] (fun s_ => [(11, s_.1), (14, s_.2.1), (3, .pointer (some ⟨s_.2.2, 0, none⟩)), (15, .agg #[.int .i64 x.f0, .string x.f1, .int .i64 x.f2, s_.2.1, .slice none 0 0])]) (fun s_ w' => Below w5.heap.size w5 w' ∧ kI.R 3 w' w5.heap.size (fun _ => True) s_.2.1 x.f3 ∧ w'.heap[s_.2.2]? = some (.cells #[.int .i64 0, .string ⟨#[]⟩, .int .i64 0, .slice none 0 0, .slice none 0 0] 29) ∧ w5.heap.size ≤ s_.2.2) ?_ ?_
    rotate_left
    · intro hCont
      refine two_ (i := 6) (j := 11) (Ni := some 11) (Nj := some 3) #[true, true, true, true, true, true, true, true, true, false, false, false, false] #[true, true, true, true, true, true, false, true, true, false, false, true, false] rfl rfl rfl rfl (by kernel_rfl) (by decide) (by decide) (fun K hK => ?_) (fun K hK => ?_)
      · refine Kd.R_lit_step (Kd.int .i64) _ 3 ?hg (N := 11) ?hd (xs := ([] : List Int)) (inner := []) (ok := fun _ => True) (okp := fun _ => True) ?hr ?hp (fun _ hk => hk) trivial (Below.refl _ _) (Nat.le_refl _) (by simp) ?_; (case hd => rfl); (case hg => rfl); (case hr => first | (go_simp; done) | (go_simp; rfl)); (case hp => exact (Reps.none _ _))
        intro v0 w6 ho0 hb6 hg6 hn6
        clear hg6 hn6
        refine hK.out _ _ ⟨ck0 hb6 P0.out, ck0 hb6 P1.out, ck0 hb6 P2.out, ck0 hb6 P3.out⟩ (fun hHeld => ?_)
        clear hK K
        refine norm_ (a' := ?_) ?_ ?_
        rotate_left
        · show Act.put _ (some 11) _ = _
          simp only [Act.put, List.setIfInBounds_toArray, List.set_cons_zero, List.set_cons_succ, i64_w, i32_w]
          rfl
        refine two_ (i := 9) (j := 11) (Ni := some 14) (Nj := some 3) #[true, true, true, true, true, true, true, true, true, true, false, false, false] #[true, true, true, true, true, true, true, true, true, false, false, true, false] rfl rfl rfl rfl (by kernel_rfl) (by decide) (by decide) (fun K hK => ?_) (fun K hK => ?_)
        · refine Kd.R_append_rows_step (Kd.int .i64) (w0 := w5) w5.heap.size (by rfl) (.tmp 11) (.tmp 13) 22 3 (.int .i64 0) 8 rfl Try.underlying22 infoI rfl (by decide) (by omega) v0 [] x.f3 _ _ _ (fun _ => True) (fun _ => False) rfl rfl ho0 (Kd.C_below HI.out.g3 (below_step HB0.out hb6)) (fun _ _ h => h) (fun _ h => h.elim) (fun _ _ => trivial) hb6 hb6.size (by have := HT.out; have := scTot x; simp; omega) ?_
          intro v3 w7 ho3 hb7 hg7 hat7
          rw [List.nil_append] at ho3
          obtain ⟨D3, e3, rfl⟩ := Kd.R_slice ho3
          refine hK.out _ _ ⟨ck0 hb7 P0.out, ck0 hb7 P1.out, ck0 hb7 P2.out, ck0 hb7 P3.out⟩ (fun hHeld => ?_)
          clear hK K
          refine norm_ (a' := ?_) ?_ ?_
          rotate_left
          · show Act.put _ (some 14) _ = _
            simp only [Act.put, List.setIfInBounds_toArray, List.set_cons_zero, List.set_cons_succ, i64_w, i32_w]
            rfl
          refine pure_ (i := 10) (N := some 15) (v := ?_) (a' := ?_) #[true, true, true, true, true, true, true, true, true, true, true, false, false] rfl rfl (by kernel_rfl) (fun _ _ _ h => h) (Or.inl ⟨by rfl, ?_⟩) ?_ ?_
          rotate_left
          · intro w'
            go_simp
            with_reducible rfl
          rotate_left
          · simp only [Act.put, List.setIfInBounds_toArray, List.set_cons_zero, List.set_cons_succ, i64_w, i32_w]
            rfl
          refine one_ (i := 11) (N := some 3) #[true, true, true, true, true, true, true, true, true, true, true, true, false] rfl rfl (by kernel_rfl) (by decide) (fun K hK => ?_)
          refine box_step ?hg (N := 3) ?hd (cs := #[.int .i64 0, .string ⟨#[]⟩, .int .i64 0, .slice none 0 0, .slice none 0 0]) (t := 29) ?hr ?_; (case hd => rfl); (case hg => rfl); (case hr => first | (go_simp; done) | (go_simp; rfl))
          intro g3 hg w8 hbox hb8
          have hb9 := below_step hb7 hb8
          refine hK.out _ _ ⟨ck0 hb9 P0.out, ck0 hb9 P1.out, ck0 hb9 P2.out, ck0 hb9 P3.out⟩ (fun hHeld => ?_)
          clear hK K
          refine norm_ (a' := ?_) ?_ ?_
          rotate_left
          · show Act.put _ (some 3) _ = _
            simp only [Act.put, List.setIfInBounds_toArray, List.set_cons_zero, List.set_cons_succ, i64_w, i32_w]
            rfl
          exact norm_ (by simp only [putAll, Act.put, List.setIfInBounds_toArray, List.set_cons_zero, List.set_cons_succ]) (hCont (v0, .slice D3 x.f3.length e3, g3) _ ⟨hb9, Kd.R_below ho3 hb8, hbox, hg ▸ hb7.size⟩)
        · refine box_step ?hg (N := 3) ?hd (cs := #[.int .i64 0, .string ⟨#[]⟩, .int .i64 0, .slice none 0 0, .slice none 0 0]) (t := 29) ?hr ?_; (case hd => rfl); (case hg => rfl); (case hr => first | (go_simp; done) | (go_simp; rfl))
          intro g3 hg w7 hbox hb7
          have hb8 := below_step hb6 hb7
          have ho8 := Kd.R_below ho0 hb7
          have hne := Kd.R_ne ho8 hbox (by decide)
          refine hK.out _ _ ⟨ck0 hb8 P0.out, ck0 hb8 P1.out, ck0 hb8 P2.out, ck0 hb8 P3.out⟩ (fun hHeld => ?_)
          clear hK K
          refine norm_ (a' := ?_) ?_ ?_
          rotate_left
          · show Act.put _ (some 3) _ = _
            simp only [Act.put, List.setIfInBounds_toArray, List.set_cons_zero, List.set_cons_succ, i64_w, i32_w]
            rfl
          refine one_ (i := 9) (N := some 14) #[true, true, true, true, true, true, true, true, true, true, false, true, false] rfl rfl (by kernel_rfl) (by decide) (fun K hK => ?_)
          refine Kd.R_append_rows_step (Kd.int .i64) (w0 := w5) w5.heap.size (by rfl) (.tmp 11) (.tmp 13) 22 3 (.int .i64 0) 8 rfl Try.underlying22 infoI rfl (by decide) (by omega) v0 [] x.f3 _ _ _ (fun _ => True) (fun _ => False) rfl rfl ho8 (Kd.C_below HI.out.g3 (below_step HB0.out hb8)) (fun _ _ h => h) (fun _ h => h.elim) (fun _ _ => trivial) hb8 hb8.size (by have := HT.out; have := scTot x; simp; omega) ?_
          intro v3 w9 ho3 hb9 hg9 hat9
          rw [List.nil_append] at ho3
          obtain ⟨D3, e3, rfl⟩ := Kd.R_slice ho3
          refine hK.out _ _ ⟨ck0 hb9 P0.out, ck0 hb9 P1.out, ck0 hb9 P2.out, ck0 hb9 P3.out⟩ (fun hHeld => ?_)
          clear hK K
          refine norm_ (a' := ?_) ?_ ?_
          rotate_left
          · show Act.put _ (some 14) _ = _
            simp only [Act.put, List.setIfInBounds_toArray, List.set_cons_zero, List.set_cons_succ, i64_w, i32_w]
            rfl
          refine pure_ (i := 10) (N := some 15) (v := ?_) (a' := ?_) #[true, true, true, true, true, true, true, true, true, true, true, true, false] rfl rfl (by kernel_rfl) (fun _ _ _ h => h) (Or.inl ⟨by rfl, ?_⟩) ?_ ?_
          rotate_left
          · intro w'
            go_simp
            with_reducible rfl
          rotate_left
          · simp only [Act.put, List.setIfInBounds_toArray, List.set_cons_zero, List.set_cons_succ, i64_w, i32_w]
            rfl
          exact norm_ (by simp only [putAll, Act.put, List.setIfInBounds_toArray, List.set_cons_zero, List.set_cons_succ]) (hCont (v0, .slice D3 x.f3.length e3, g3) _ ⟨hb9, ho3, blk_grown hbox hg9 hne, hg ▸ hb6.size⟩)
      · refine box_step ?hg (N := 3) ?hd (cs := #[.int .i64 0, .string ⟨#[]⟩, .int .i64 0, .slice none 0 0, .slice none 0 0]) (t := 29) ?hr ?_; (case hd => rfl); (case hg => rfl); (case hr => first | (go_simp; done) | (go_simp; rfl))
        intro g3 hg w6 hbox hb6
        refine hK.out _ _ ⟨ck0 hb6 P0.out, ck0 hb6 P1.out, ck0 hb6 P2.out, ck0 hb6 P3.out⟩ (fun hHeld => ?_)
        clear hK K
        refine norm_ (a' := ?_) ?_ ?_
        rotate_left
        · show Act.put _ (some 3) _ = _
          simp only [Act.put, List.setIfInBounds_toArray, List.set_cons_zero, List.set_cons_succ, i64_w, i32_w]
          rfl
        refine one_ (i := 6) (N := some 11) #[true, true, true, true, true, true, true, true, true, false, false, true, false] rfl rfl (by kernel_rfl) (by decide) (fun K hK => ?_)
        refine Kd.R_lit_step (Kd.int .i64) _ 3 ?hg (N := 11) ?hd (xs := ([] : List Int)) (inner := []) (ok := fun _ => True) (okp := fun _ => True) ?hr ?hp (fun _ hk => hk) trivial (Below.refl _ _) (Nat.le_refl _) (by simp) ?_; (case hd => rfl); (case hg => rfl); (case hr => first | (go_simp; done) | (go_simp; rfl)); (case hp => exact (Reps.none _ _))
        intro v0 w7 ho0 hb7 hg7 hn7
        have hbox7 := blk_below hbox hb7
        have hb8 := below_step hb6 hb7
        have ho8 := Kd.R_lower ho0 hb6.size
        have hne := Kd.R_ne ho0 hbox7 (by decide)
        refine hK.out _ _ ⟨ck0 hb8 P0.out, ck0 hb8 P1.out, ck0 hb8 P2.out, ck0 hb8 P3.out⟩ (fun hHeld => ?_)
        clear hK K
        refine norm_ (a' := ?_) ?_ ?_
        rotate_left
        · show Act.put _ (some 11) _ = _
          simp only [Act.put, List.setIfInBounds_toArray, List.set_cons_zero, List.set_cons_succ, i64_w, i32_w]
          rfl
        refine one_ (i := 9) (N := some 14) #[true, true, true, true, true, true, true, true, true, true, false, true, false] rfl rfl (by kernel_rfl) (by decide) (fun K hK => ?_)
        refine Kd.R_append_rows_step (Kd.int .i64) (w0 := w5) w5.heap.size (by rfl) (.tmp 11) (.tmp 13) 22 3 (.int .i64 0) 8 rfl Try.underlying22 infoI rfl (by decide) (by omega) v0 [] x.f3 _ _ _ (fun _ => True) (fun _ => False) rfl rfl ho8 (Kd.C_below HI.out.g3 (below_step HB0.out hb8)) (fun _ _ h => h) (fun _ h => h.elim) (fun _ _ => trivial) hb8 hb8.size (by have := HT.out; have := scTot x; simp; omega) ?_
        intro v3 w9 ho3 hb9 hg9 hat9
        rw [List.nil_append] at ho3
        obtain ⟨D3, e3, rfl⟩ := Kd.R_slice ho3
        refine hK.out _ _ ⟨ck0 hb9 P0.out, ck0 hb9 P1.out, ck0 hb9 P2.out, ck0 hb9 P3.out⟩ (fun hHeld => ?_)
        clear hK K
        refine norm_ (a' := ?_) ?_ ?_
        rotate_left
        · show Act.put _ (some 14) _ = _
          simp only [Act.put, List.setIfInBounds_toArray, List.set_cons_zero, List.set_cons_succ, i64_w, i32_w]
          rfl
        refine pure_ (i := 10) (N := some 15) (v := ?_) (a' := ?_) #[true, true, true, true, true, true, true, true, true, true, true, true, false] rfl rfl (by kernel_rfl) (fun _ _ _ h => h) (Or.inl ⟨by rfl, ?_⟩) ?_ ?_
        rotate_left
        · intro w'
          go_simp
          with_reducible rfl
        rotate_left
        · simp only [Act.put, List.setIfInBounds_toArray, List.set_cons_zero, List.set_cons_succ, i64_w, i32_w]
          rfl
        exact norm_ (by simp only [putAll, Act.put, List.setIfInBounds_toArray, List.set_cons_zero, List.set_cons_succ]) (hCont (v0, .slice D3 x.f3.length e3, g3) _ ⟨hb9, ho3, blk_grown hbox7 hg9 hne, Nat.le_of_eq hg.symm⟩)
    rintro ⟨v0, v3, g3⟩ wz ⟨hbz, ho3, hbox, hg3⟩
    dsimp only at ho3 hbox hg3
    have hHeld : True := trivial
    refine norm_ (a' := ?_) ?_ ?_
    rotate_left
    · simp only [putAll, Act.put, List.setIfInBounds_toArray, List.set_cons_zero, List.set_cons_succ]
      rfl
    have K1z := blk_below KB1.out hbz
    have hl1 := blk_lt KB1.out
    have hne3 := Kd.R_ne ho3 hbox (by decide)
    obtain ⟨D3, e3, rfl⟩ := Kd.R_slice ho3
    obtain ⟨st1, st2, st3⟩ := st5 hbox (.int .i64 x.f0) (.string x.f1) (.int .i64 x.f2) (.slice D3 x.f3.length e3) (.slice none 0 0)
    have hS5 := fm_cells ((st2 w.heap.size (by omega)).trans K1z)
    have HCP := Lib.hid (Cp.start (w := w) KB1.out KB2.out HB0.out HSZ.out hbz ho3 hg3 hne3 st1 st2 (st3 _ _ hbz hg3))
    obtain ⟨z0, z1, z2, z3, z4⟩ := fm_cells hbox
    obtain ⟨f0, f1, f2, f3, f4⟩ := fm_free hbox
    clear hbz ho3 hbox hg3 K1z hl1 hne3 st1 st2 st3 KB1 KB2 HB0 HSZ P0 P1 P2 P3
    refine one_ (i := 12) (N := none) #[true, true, true, true, true, true, true, true, true, true, true, true, true] rfl rfl (by kernel_rfl) (by decide) (fun K hK => ?_)
    refine skip_ (w1 := ?_) (by rfl) rfl ?_ ?_
    rotate_left
    · go_simp
      rfl
    refine hK.out _ _ ⟨hS5.1, hS5.2.1, hS5.2.2.1, hS5.2.2.2.1⟩ (fun hHeld => ?_)
    clear hK K z0 z1 z2 z3 z4 f0 f1 f2 f3 f4 hS5
    refine done_ (by kernel_rfl) ?_
    try go_wp2_with fail
    go_loopg [4] x.f4.length (fun kq v4 w' => ∃ i : Nat, i ≤ x.f4.length ∧ x.f4.length - i ≤ kq ∧ v4 = .int .i64 i ∧ Aside0 (∃ v inner fp, Cp w (.cells #[.int .i64 x.f0, .string x.f1, .int .i64 x.f2, .slice A3 x.f3.length c3, .slice A4 x.f4.length c4] 29) (.cells #[.int .i64 0, .string ⟨#[]⟩, .int .i64 0, .slice none 0 0, .slice none 0 0] 29) g3 x.f0 x.f1 x.f2 x.f3 (x.f4.take i) (.slice D3 x.f3.length e3) v inner fp w'))
    case atStart => exact ⟨0, Nat.zero_le _, by omega, rfl, ⟨⟨.slice none 0 0, [], [], by simpa using HCP.out⟩⟩⟩
    case round =>
      obtain ⟨i, hi, hg, rfl, HO⟩ := hrel
      by_cases hlt : i < x.f4.length
      · obtain ⟨v, inner, fp, hC⟩ := HO.out
        obtain ⟨p0, p1, p2, p3, p4⟩ := fm_cells hC.fr.k1
        obtain ⟨ad, G3, m3, G4, m4, e, g0, g1, g2, g3_, g4, hk⟩ := kid_at HI.out.g4 i hlt
        subst e
        have hkt := totL_mem (List.getElem_mem hlt)
        have hxt := HT.out
        rw [Fm.tot_eq] at hxt
        have r1 : (0 : Int) ≤ (i : Int) := by omega
        have r2 : (i : Int) < (x.f4.length : Int) := by omega
        have hlen := len_totL x.f4
        have HKT := Lib.hid (show x.f4[i].tot ≤ 1000000000 by omega)
        have HLN := Lib.hid (show x.f4.length ≤ 1000000000 by omega)
        have HK := Lib.hid hk
        have HC := Lib.hid hC
        have SK := Lib.hid (fun (W : World) (hf : Fr w (.cells #[.int .i64 x.f0, .string x.f1, .int .i64 x.f2, .slice A3 x.f3.length c3, .slice (some ad) x.f4.length c4] 29) (.cells #[.int .i64 0, .string ⟨#[]⟩, .int .i64 0, .slice none 0 0, .slice none 0 0] 29) g3 #[.int .i64 x.f0, .string x.f1, .int .i64 x.f2, (.slice D3 x.f3.length e3), v] W) => (⟨(fm_cells hf.k1).2.2.2.2, (fm_cells hf.k3).2.2.2.2, ck0 hf.b g0, ck0 hf.b g1, ck0 hf.b g2, ck0 hf.b g3_, ck0 hf.b g4⟩ : (fun w' => w'.cell? ⟨w.heap.size, 4, none⟩ = some (.slice (some ad) x.f4.length c4) ∧ w'.cell? ⟨g3, 4, none⟩ = some v ∧ w'.cell? (ad.add (i * 5)) = some (.int .i64 x.f4[i].f0) ∧ w'.cell? ⟨(ad.add (i * 5)).block, (ad.add (i * 5)).off + 1, none⟩ = some (.string x.f4[i].f1) ∧ w'.cell? ⟨(ad.add (i * 5)).block, (ad.add (i * 5)).off + 2, none⟩ = some (.int .i64 x.f4[i].f2) ∧ w'.cell? ⟨(ad.add (i * 5)).block, (ad.add (i * 5)).off + 3, none⟩ = some (.slice G3 x.f4[i].f3.length m3) ∧ w'.cell? ⟨(ad.add (i * 5)).block, (ad.add (i * 5)).off + 4, none⟩ = some (.slice G4 x.f4[i].f4.length m4)) W))
        clear hC hk p0 p1 p2 p3 hkt hxt hlen g0 g1 g2 g3_ g4
        go_wp2_with fail
        have HD := Lib.hid (HC.out.later (below_drew (Below.refl _ _)))
        refine start_ (n := 12) (S := fun w' => w'.cell? ⟨w.heap.size, 4, none⟩ = some (.slice (some ad) x.f4.length c4) ∧ w'.cell? ⟨g3, 4, none⟩ = some v ∧ w'.cell? (ad.add (i * 5)) = some (.int .i64 x.f4[i].f0) ∧ w'.cell? ⟨(ad.add (i * 5)).block, (ad.add (i * 5)).off + 1, none⟩ = some (.string x.f4[i].f1) ∧ w'.cell? ⟨(ad.add (i * 5)).block, (ad.add (i * 5)).off + 2, none⟩ = some (.int .i64 x.f4[i].f2) ∧ w'.cell? ⟨(ad.add (i * 5)).block, (ad.add (i * 5)).off + 3, none⟩ = some (.slice G3 x.f4[i].f3.length m3) ∧ w'.cell? ⟨(ad.add (i * 5)).block, (ad.add (i * 5)).off + 4, none⟩ = some (.slice G4 x.f4[i].f4.length m4)) (ds := [11]) #[false, false, false, false, false, false, false, false, false, false, false, false] (by kernel_rfl) rfl rfl (SK.out _ HD.out.fr) (fun hHeld => ?_)
        clear p4
        generalize wr.drew = wd at HD hHeld ⊢
        refine pure_ (i := 0) (N := some 23) (v := ?_) (a' := ?_) #[true, false, false, false, false, false, false, false, false, false, false, false] rfl rfl (by kernel_rfl) (fun _ _ _ h => h) (Or.inl ⟨by rfl, ?_⟩) ?_ ?_
        rotate_left
        · intro w'
          go_simp
          with_reducible rfl
        rotate_left
        · simp only [Act.put, List.setIfInBounds_toArray, List.set_cons_zero, List.set_cons_succ, i64_w, i32_w]
          rfl
        refine pure_ (i := 2) (N := some 25) (v := ?_) (a' := ?_) #[true, false, true, false, false, false, false, false, false, false, false, false] rfl rfl (by kernel_rfl) (fun _ _ _ h => h) (Or.inl ⟨by rfl, ?_⟩) ?_ ?_
        rotate_left
        · intro w'
          go_simp
          with_reducible rfl
        rotate_left
        · simp only [Act.put, List.setIfInBounds_toArray, List.set_cons_zero, List.set_cons_succ, i64_w, i32_w]
          rfl
        refine pure_ (i := 4) (N := some 27) (v := ?_) (a' := ?_) #[true, false, true, false, true, false, false, false, false, false, false, false] rfl rfl (by kernel_rfl) (fun _ _ _ h => h) (Or.inl ⟨by rfl, ?_⟩) ?_ ?_
        rotate_left
        · intro w'
          go_simp
          with_reducible rfl
        rotate_left
        · simp only [Act.put, List.setIfInBounds_toArray, List.set_cons_zero, List.set_cons_succ, i64_w, i32_w]
          rfl
        refine take_ (i := 1) (N := some 24) (v := ?_) (a' := ?_) #[true, true, true, false, true, false, false, false, false, false, false, false] rfl rfl (by kernel_rfl) (fun _ _ _ h => h) (Or.inl ⟨by rfl, ?_⟩) hHeld ?_ ?_
        rotate_left
        · rintro w' ⟨s0, s1, s2, s3, s4, s5, s6⟩
          go_simp
          with_reducible rfl
        rotate_left
        · simp only [Act.put, List.setIfInBounds_toArray, List.set_cons_zero, List.set_cons_succ, i64_w, i32_w]
          rfl
        refine take_ (i := 3) (N := some 26) (v := ?_) (a' := ?_) #[true, true, true, true, true, false, false, false, false, false, false, false] rfl rfl (by kernel_rfl) (fun _ _ _ h => h) (Or.inl ⟨by rfl, ?_⟩) hHeld ?_ ?_
        rotate_left
        · rintro w' ⟨s0, s1, s2, s3, s4, s5, s6⟩
          go_simp
          with_reducible rfl
        rotate_left
        · simp only [Act.put, List.setIfInBounds_toArray, List.set_cons_zero, List.set_cons_succ, i64_w, i32_w]
          rfl
        refine pure_ (i := 5) (N := some 28) (v := ?_) (a' := ?_) #[true, true, true, true, true, true, false, false, false, false, false, false] rfl rfl (by kernel_rfl) (fun _ _ _ h => h) (Or.inl ⟨by rfl, ?_⟩) ?_ ?_
        rotate_left
        · intro w'
          go_simp
          with_reducible rfl
        rotate_left
        · simp only [Act.put, List.setIfInBounds_toArray, List.set_cons_zero, List.set_cons_succ, i64_w, i32_w]
          rfl
        refine take_ (i := 6) (N := some 29) (v := ?_) (a' := ?_) #[true, true, true, true, true, true, true, false, false, false, false, false] rfl rfl (by kernel_rfl) (fun _ _ _ h => h) (Or.inl ⟨by rfl, ?_⟩) hHeld ?_ ?_
        rotate_left
        · rintro w' ⟨s0, s1, s2, s3, s4, s5, s6⟩
          go_simp
          with_reducible rfl
        rotate_left
        · simp only [Act.put, List.setIfInBounds_toArray, List.set_cons_zero, List.set_cons_succ, i64_w, i32_w]
          rfl
        refine one_ (i := 7) (N := some 30) #[true, true, true, true, true, true, true, true, false, false, false, false] rfl rfl (by kernel_rfl) (by decide) (fun K hK => ?_)
        refine goes_ Try.func73 (by kernel_rfl) rfl #[.agg #[.int .i64 x.f4[i].f0, .string x.f4[i].f1, .int .i64 x.f4[i].f2, .slice G3 x.f4[i].f3.length m3, .slice G4 x.f4[i].f4.length m4]] (by rfl) rfl rfl (by (try simp only [List.map_toArray, List.map_cons, List.map_nil]); first | done | rfl) ?_
        refine (IH.out x.f4[i] (List.getElem_mem hlt) G3 m3 G4 m4 wd (HK.out.below HD.out.fr.b) HKT.out).mono ?_
        rintro e w7 ⟨u3, u4, rfl, hn, hb7⟩
        refine ⟨_, rfl, ?_⟩
        obtain ⟨J3, q3, J4, q4, rfl, rfl⟩ : ∃ J3 q3 J4 q4, u3 = .slice J3 (x.f4[i]).f3.length q3 ∧ u4 = .slice J4 (x.f4[i]).f4.length q4 := by
          obtain ⟨fk, hk2, _⟩ := hn
          obtain ⟨J3, q3, J4, q4, e3, e4, _⟩ := hk2.In
          exact ⟨J3, q3, J4, q4, e3, e4⟩
        have H7 := Lib.hid (HD.out.later hb7)
        have HN := Lib.hid hn
        have HLT := Lib.hid (And.intro HD.out.lt HD.out.fr.lt)
        clear hn hb7
        refine hK.out _ _ (SK.out _ H7.out.fr) (fun hHeld => ?_)
        clear hK K
        refine norm_ (a' := ?_) ?_ ?_
        rotate_left
        · show Act.put _ (some 30) _ = _
          simp only [Act.put, List.setIfInBounds_toArray, List.set_cons_zero, List.set_cons_succ, i64_w, i32_w]
          rfl
        refine one_ (i := 8) (N := some 31) #[true, true, true, true, true, true, true, true, true, false, false, false] rfl rfl (by kernel_rfl) (by decide) (fun K hK => ?_)
        refine value_ (w1 := ?_) (v := ?_) (by rfl) rfl ?_ ?_
        rotate_left 2
        · go_simp
          constructor
          · rfl
          · rfl
        refine hK.out _ _ (SK.out _ (H7.out.fr.later (below_new _ _))) (fun hHeld => ?_)
        clear hK K
        refine norm_ (a' := ?_) ?_ ?_
        rotate_left
        · show Act.put _ (some 31) _ = _
          simp only [Act.put, List.setIfInBounds_toArray, List.set_cons_zero, List.set_cons_succ, i64_w, i32_w]
          rfl
        refine one_ (i := 9) (N := some 32) #[true, true, true, true, true, true, true, true, true, true, false, false] rfl rfl (by kernel_rfl) (by decide) (fun K hK => ?_)
        have hl0 : (x.f4.take i).length = i := by simp; omega
        refine step_append_cells (w0 := w) (W := w7) w.heap.size (by rfl) (.tmp 24) (.tmp 31) 27 29 (.agg #[.int .i64 0, .string ⟨#[]⟩, .int .i64 0, .slice none 0 0, .slice none 0 0]) 5 80 rfl Try.underlying27 infoF rfl (by decide) (by omega) v (x.f4.take i).length inner [.int .i64 (x.f4[i]).f0, .string (x.f4[i]).f1, .int .i64 (x.f4[i]).f2, .slice J3 (x.f4[i]).f3.length q3, .slice J4 (x.f4[i]).f4.length q4] rfl rfl rfl (by simp [Value.oneCell']) (own_base_ H7.out.o4 (fun b hb => by have := (H7.out.ge b (by simp [obs_mem, hb])).1; omega)) H7.out.fr.b H7.out.fr.b.size (by have := HLN.out; rw [hl0]; omega) ?_
        intro v' w8 ho hb8 hg8 hat8
        obtain ⟨fp', hC8⟩ := H7.out.more HLT.out.1 HLT.out.2.2 HLT.out.2.1 HN.out (own_weaken ho (Nat.zero_le _)) hg8 hat8
        have hf8 := H7.out.fr.grown hg8 (fun c hc => H7.out.ge c (by simp [obs_mem, hc]))
        have hv' : ∃ A c, v' = .slice A ((x.f4.take i).length + 1) c := by
          rcases ho with ⟨_, ⟨rfl, h0⟩ | ⟨g, cap, cur, rfl, _⟩⟩
          · exact absurd h0 (by omega)
          · exact ⟨_, _, rfl⟩
        rw [hl0] at hv'
        obtain ⟨A', c', rfl⟩ := hv'
        have H8 := Lib.hid hf8
        have HC8 := Lib.hid hC8
        clear ho hb8 hg8 hat8 hf8 hC8
        refine hK.out _ _ (SK.out _ H8.out) (fun hHeld => ?_)
        clear hK K
        refine norm_ (a' := ?_) ?_ ?_
        rotate_left
        · show Act.put _ (some 32) _ = _
          simp only [Act.put, List.setIfInBounds_toArray, List.set_cons_zero, List.set_cons_succ, i64_w, i32_w]
          rfl
        refine pure_ (i := 10) (N := some 33) (v := ?_) (a' := ?_) #[true, true, true, true, true, true, true, true, true, true, true, false] rfl rfl (by kernel_rfl) (fun _ _ _ h => h) (Or.inl ⟨by rfl, ?_⟩) ?_ ?_
        rotate_left
        · intro w'
          go_simp
          with_reducible rfl
        rotate_left
        · simp only [Act.put, List.setIfInBounds_toArray, List.set_cons_zero, List.set_cons_succ, i64_w, i32_w]
          rfl
        refine last_ (i := 11) (N := none) #[true, true, true, true, true, true, true, true, true, true, true, true] rfl rfl (by kernel_rfl) (by decide) (fun K hK => ?_)
        have z4 := (fm_cells H8.out.k3).2.2.2.2
        have f4 := (fm_free H8.out.k3).2.2.2.2
        refine skip_ (w1 := ?_) (by rfl) rfl ?_ ?_
        rotate_left
        · go_simp
          rfl
        refine hK.out _ _ ?_
        clear hK K z4 f4
        refine done_ (by kernel_rfl) ?_
        have HX := Lib.hid (show x.f4.take i ++ [x.f4[i]] = x.f4.take (i + 1) from (List.take_succ_eq_append_getElem hlt).symm)
        rw [HX.out] at HC8
        try go_wp2
        go_roundg (x.f4.length - (i + 1))
        case measure => omega
        case rel => exact ⟨i + 1, by omega, Nat.le_refl _, by go_num, ⟨⟨_, _, _, HC8.out⟩⟩⟩
      · obtain rfl : i = x.f4.length := by omega
        obtain ⟨v, inner, fp, hC⟩ := HO.out
        rw [List.take_length] at hC
        obtain ⟨A4', c4', e4', -, -⟩ := hC.tr.C hC.o4
        subst e4'
        obtain ⟨p0, p1, p2, p3, p4⟩ := fm_cells hC.fr.k3
        obtain ⟨y0, y1, y2, y3, y4⟩ := fm_cells hC.fr.k1
        obtain ⟨z0, z1, z2, z3, z4⟩ := fm_cells hC.fr.k2
        obtain ⟨f0, f1, f2, f3, f4⟩ := fm_free hC.fr.k2
        have hn1 : g3 ≠ w.heap.size + 1 := by have := hC.fr.h3; omega
        have hn2 : w.heap.size + 1 ≠ g3 := fun e => hn1 e.symm
        obtain ⟨st1, st2, st3⟩ := st5 hC.fr.k2 (.int .i64 x.f0) (.string x.f1) (.int .i64 x.f2) (.slice D3 x.f3.length e3) (.slice A4' x.f4.length c4')
        have HNF := hC.newF (st2)
        rw [show (⟨x.f0, x.f1, x.f2, x.f3, x.f4⟩ : Fm) = x from by cases x; rfl] at HNF
        have HN := Lib.hid HNF
        have HB := Lib.hid (st3 _ _ hC.fr.b (by omega))
        clear hC HO st1 st2 st3 HNF
        go_wp2_with fail
        refine bodyPost_ret (v := .agg #[.int .i64 x.f0, .string x.f1, .int .i64 x.f2, (.slice D3 x.f3.length e3), .slice A4' x.f4.length c4']) (by simp [results, Try.results73, go_sem, z0, z1, z2, z3, z4]) rfl ?_
        exact ⟨_, _, rfl, HN.out, HB.out⟩
set_option maxHeartbeats 4000000 in
set_option maxRecDepth 100000 in
theorem copyForm_any : ∀ x : Fm, ∀ (A3 : Option Addr) (c3 : Nat) (A4 : Option Addr) (c4 : Nat) (w : World), FmIn w x A3 c3 A4 c4 → x.tot ≤ 1000000000 →
    Calls Try.prog 120 #[.agg #[.int .i64 x.f0, .string x.f1, .int .i64 x.f2, .slice A3 x.f3.length c3, .slice A4 x.f4.length c4]] w (RetF w x) := by
  intro x
  induction x using Fm.ind with
  | h x ih =>
    intro A3 c3 A4 c4 w hin ht
    have hmax := hin.g4.2.1
    have HI := Lib.hid hin
    have HT := Lib.hid ht
    have IH := Lib.hid ih
    clear hin ht ih
    go_enter Try.func120, Try.ntmps120
    go_wp2_with fail
    obtain ⟨kb1, kb2, hb0⟩ := two_new (w := w) (O1 := (.cells #[.int .i64 x.f0, .string x.f1, .int .i64 x.f2, .slice A3 x.f3.length c3, .slice A4 x.f4.length c4] 29)) (O2 := (.cells #[.int .i64 0, .string ⟨#[]⟩, .int .i64 0, .slice none 0 0, .slice none 0 0] 29)) (Below.refl _ _).drew
    obtain ⟨p0, p1, p2, p3, p4⟩ := fm_cells kb1
    refine start_ (n := 12) (S := fun w' => w'.cell? ⟨w.heap.size, 0, none⟩ = some (.int .i64 x.f0) ∧ w'.cell? ⟨w.heap.size, 1, none⟩ = some (.string x.f1) ∧ w'.cell? ⟨w.heap.size, 2, none⟩ = some (.int .i64 x.f2) ∧ w'.cell? ⟨w.heap.size, 3, none⟩ = some (.slice A3 x.f3.length c3)) (ds := []) #[false, false, false, false, false, false, false, false, false, false, false, false] (by kernel_rfl) rfl rfl ⟨p0, p1, p2, p3⟩ (fun hHeld => ?_)
    have hsz : w.heap.size + 2 ≤ (((w.alloc (.cells #[.int .i64 x.f0, .string x.f1, .int .i64 x.f2, .slice A3 x.f3.length c3, .slice A4 x.f4.length c4] 29)).alloc (.cells #[.int .i64 0, .string ⟨#[]⟩, .int .i64 0, .slice none 0 0, .slice none 0 0] 29)).drew).heap.size := by simp
    generalize World.drew _ = w5 at kb1 kb2 hb0 hsz p0 p1 p2 p3 p4 hHeld ⊢
    have P0 := Lib.hid p0
    have P1 := Lib.hid p1
    have P2 := Lib.hid p2
    have P3 := Lib.hid p3
    have KB1 := Lib.hid kb1
    have KB2 := Lib.hid kb2
    have HB0 := Lib.hid hb0
    have HSZ := Lib.hid hsz
    clear p0 p1 p2 p3 p4 kb1 kb2 hb0 hsz
    refine pure_ (i := 0) (N := some 6) (v := ?_) (a' := ?_) #[true, false, false, false, false, false, false, false, false, false, false, false] rfl rfl (by kernel_rfl) (fun _ _ _ h => h) (Or.inl ⟨by rfl, ?_⟩) ?_ ?_
    rotate_left
    · intro w'
      go_simp
      with_reducible rfl
    rotate_left
    · simp only [Act.put, List.setIfInBounds_toArray, List.set_cons_zero, List.set_cons_succ, i64_w, i32_w]
      rfl
    refine pure_ (i := 2) (N := some 8) (v := ?_) (a' := ?_) #[true, false, true, false, false, false, false, false, false, false, false, false] rfl rfl (by kernel_rfl) (fun _ _ _ h => h) (Or.inl ⟨by rfl, ?_⟩) ?_ ?_
    rotate_left
    · intro w'
      go_simp
      with_reducible rfl
    rotate_left
    · simp only [Act.put, List.setIfInBounds_toArray, List.set_cons_zero, List.set_cons_succ, i64_w, i32_w]
      rfl
    refine pure_ (i := 4) (N := some 10) (v := ?_) (a' := ?_) #[true, false, true, false, true, false, false, false, false, false, false, false] rfl rfl (by kernel_rfl) (fun _ _ _ h => h) (Or.inl ⟨by rfl, ?_⟩) ?_ ?_
    rotate_left
    · intro w'
      go_simp
      with_reducible rfl
    rotate_left
    · simp only [Act.put, List.setIfInBounds_toArray, List.set_cons_zero, List.set_cons_succ, i64_w, i32_w]
      rfl
    refine pure_ (i := 6) (N := some 12) (v := ?_) (a' := ?_) #[true, false, true, false, true, false, true, false, false, false, false, false] rfl rfl (by kernel_rfl) (fun _ _ _ h => h) (Or.inl ⟨by rfl, ?_⟩) ?_ ?_
    rotate_left
    · intro w'
      go_simp
      with_reducible rfl
    rotate_left
    · simp only [Act.put, List.setIfInBounds_toArray, List.set_cons_zero, List.set_cons_succ, i64_w, i32_w]
      rfl
    refine take_ (i := 1) (N := some 7) (v := ?_) (a' := ?_) #[true, true, true, false, true, false, true, false, false, false, false, false] rfl rfl (by kernel_rfl) (fun _ _ _ h => h) (Or.inl ⟨by rfl, ?_⟩) hHeld ?_ ?_
    rotate_left
    · rintro w' ⟨s0, s1, s2, s3⟩
      go_simp
      with_reducible rfl
    rotate_left
    · simp only [Act.put, List.setIfInBounds_toArray, List.set_cons_zero, List.set_cons_succ, i64_w, i32_w]
      rfl
    refine take_ (i := 3) (N := some 9) (v := ?_) (a' := ?_) #[true, true, true, true, true, false, true, false, false, false, false, false] rfl rfl (by kernel_rfl) (fun _ _ _ h => h) (Or.inl ⟨by rfl, ?_⟩) hHeld ?_ ?_
    rotate_left
    · rintro w' ⟨s0, s1, s2, s3⟩
      go_simp
      with_reducible rfl
    rotate_left
    · simp only [Act.put, List.setIfInBounds_toArray, List.set_cons_zero, List.set_cons_succ, i64_w, i32_w]
      rfl
    refine take_ (i := 5) (N := some 11) (v := ?_) (a' := ?_) #[true, true, true, true, true, true, true, false, false, false, false, false] rfl rfl (by kernel_rfl) (fun _ _ _ h => h) (Or.inl ⟨by rfl, ?_⟩) hHeld ?_ ?_
    rotate_left
    · rintro w' ⟨s0, s1, s2, s3⟩
      go_simp
      with_reducible rfl
    rotate_left
    · simp only [Act.put, List.setIfInBounds_toArray, List.set_cons_zero, List.set_cons_succ, i64_w, i32_w]
      rfl
    refine take_ (i := 7) (N := some 13) (v := ?_) (a' := ?_) #[true, true, true, true, true, true, true, true, false, false, false, false] rfl rfl (by kernel_rfl) (fun _ _ _ h => h) (Or.inl ⟨by rfl, ?_⟩) hHeld ?_ ?_
    rotate_left
    · rintro w' ⟨s0, s1, s2, s3⟩
      go_simp
      with_reducible rfl
    rotate_left
    · simp only [Act.put, List.setIfInBounds_toArray, List.set_cons_zero, List.set_cons_succ, i64_w, i32_w]
      rfl
    refine join_ (σ := Value × Nat) 1 #[true, true, true, true, true, true, true, true, true, true, true, false] (fun s_ => [(14, s_.1), (3, .pointer (some ⟨s_.2, 0, none⟩)), (15, .agg #[.int .i64 x.f0, .string x.f1, .int .i64 x.f2, s_.1, .slice none 0 0])]) (fun s_ w' => Below w5.heap.size w5 w' ∧ kI.R 3 w' w5.heap.size (fun _ => True) s_.1 x.f3 ∧ w'.heap[s_.2]? = some (.cells #[.int .i64 0, .string ⟨#[]⟩, .int .i64 0, .slice none 0 0, .slice none 0 0] 29) ∧ w5.heap.size ≤ s_.2) ?_ ?_
    rotate_left
    · intro hCont
      refine two_ (i := 8) (j := 10) (Ni := some 14) (Nj := some 3) #[true, true, true, true, true, true, true, true, true, false, false, false] #[true, true, true, true, true, true, true, true, false, false, true, false] rfl rfl rfl rfl (by kernel_rfl) (by decide) (by decide) (fun K hK => ?_) (fun K hK => ?_)
      · refine goes_ Try.func121 (by kernel_rfl) rfl #[.slice A3 x.f3.length c3] (by rfl) rfl rfl (by (try simp only [List.map_toArray, List.map_cons, List.map_nil]); first | done | rfl) ?_
        refine (cloneI_any x.f3 A3 c3 w5 (Kd.C_below HI.out.g3 (below_step HB0.out (Below.refl _ _))) HI.out.l3 (by have := HT.out; have := scTot x; omega)).mono ?_
        rintro e w6 ⟨v3, rfl, ho3, hb6⟩
        refine ⟨_, rfl, ?_⟩
        obtain ⟨D3, e3, rfl⟩ := Kd.R_slice ho3
        refine hK.out _ _ ⟨ck0 hb6 P0.out, ck0 hb6 P1.out, ck0 hb6 P2.out, ck0 hb6 P3.out⟩ (fun hHeld => ?_)
        clear hK K
        refine norm_ (a' := ?_) ?_ ?_
        rotate_left
        · show Act.put _ (some 14) _ = _
          simp only [Act.put, List.setIfInBounds_toArray, List.set_cons_zero, List.set_cons_succ, i64_w, i32_w]
          rfl
        refine pure_ (i := 9) (N := some 15) (v := ?_) (a' := ?_) #[true, true, true, true, true, true, true, true, true, true, false, false] rfl rfl (by kernel_rfl) (fun _ _ _ h => h) (Or.inl ⟨by rfl, ?_⟩) ?_ ?_
        rotate_left
        · intro w'
          go_simp
          with_reducible rfl
        rotate_left
        · simp only [Act.put, List.setIfInBounds_toArray, List.set_cons_zero, List.set_cons_succ, i64_w, i32_w]
          rfl
        refine one_ (i := 10) (N := some 3) #[true, true, true, true, true, true, true, true, true, true, true, false] rfl rfl (by kernel_rfl) (by decide) (fun K hK => ?_)
        refine box_step ?hg (N := 3) ?hd (cs := #[.int .i64 0, .string ⟨#[]⟩, .int .i64 0, .slice none 0 0, .slice none 0 0]) (t := 29) ?hr ?_; (case hd => rfl); (case hg => rfl); (case hr => first | (go_simp; done) | (go_simp; rfl))
        intro g3 hg w7 hbox hb7
        have hb8 := below_step hb6 hb7
        refine hK.out _ _ ⟨ck0 hb8 P0.out, ck0 hb8 P1.out, ck0 hb8 P2.out, ck0 hb8 P3.out⟩ (fun hHeld => ?_)
        clear hK K
        refine norm_ (a' := ?_) ?_ ?_
        rotate_left
        · show Act.put _ (some 3) _ = _
          simp only [Act.put, List.setIfInBounds_toArray, List.set_cons_zero, List.set_cons_succ, i64_w, i32_w]
          rfl
        exact norm_ (by simp only [putAll, Act.put, List.setIfInBounds_toArray, List.set_cons_zero, List.set_cons_succ]) (hCont (.slice D3 x.f3.length e3, g3) _ ⟨hb8, Kd.R_below ho3 hb7, hbox, hg ▸ hb6.size⟩)
      · refine box_step ?hg (N := 3) ?hd (cs := #[.int .i64 0, .string ⟨#[]⟩, .int .i64 0, .slice none 0 0, .slice none 0 0]) (t := 29) ?hr ?_; (case hd => rfl); (case hg => rfl); (case hr => first | (go_simp; done) | (go_simp; rfl))
        intro g3 hg w6 hbox hb6
        refine hK.out _ _ ⟨ck0 hb6 P0.out, ck0 hb6 P1.out, ck0 hb6 P2.out, ck0 hb6 P3.out⟩ (fun hHeld => ?_)
        clear hK K
        refine norm_ (a' := ?_) ?_ ?_
        rotate_left
        · show Act.put _ (some 3) _ = _
          simp only [Act.put, List.setIfInBounds_toArray, List.set_cons_zero, List.set_cons_succ, i64_w, i32_w]
          rfl
        refine one_ (i := 8) (N := some 14) #[true, true, true, true, true, true, true, true, true, false, true, false] rfl rfl (by kernel_rfl) (by decide) (fun K hK => ?_)
        refine goes_ Try.func121 (by kernel_rfl) rfl #[.slice A3 x.f3.length c3] (by rfl) rfl rfl (by (try simp only [List.map_toArray, List.map_cons, List.map_nil]); first | done | rfl) ?_
        refine (cloneI_any x.f3 A3 c3 w6 (Kd.C_below HI.out.g3 (below_step HB0.out hb6)) HI.out.l3 (by have := HT.out; have := scTot x; omega)).mono ?_
        rintro e w7 ⟨v3, rfl, ho3, hb7⟩
        refine ⟨_, rfl, ?_⟩
        obtain ⟨D3, e3, rfl⟩ := Kd.R_slice ho3
        have hb8 := below_step hb6 hb7
        refine hK.out _ _ ⟨ck0 hb8 P0.out, ck0 hb8 P1.out, ck0 hb8 P2.out, ck0 hb8 P3.out⟩ (fun hHeld => ?_)
        clear hK K
        refine norm_ (a' := ?_) ?_ ?_
        rotate_left
        · show Act.put _ (some 14) _ = _
          simp only [Act.put, List.setIfInBounds_toArray, List.set_cons_zero, List.set_cons_succ, i64_w, i32_w]
          rfl
        refine pure_ (i := 9) (N := some 15) (v := ?_) (a' := ?_) #[true, true, true, true, true, true, true, true, true, true, true, false] rfl rfl (by kernel_rfl) (fun _ _ _ h => h) (Or.inl ⟨by rfl, ?_⟩) ?_ ?_
        rotate_left
        · intro w'
          go_simp
          with_reducible rfl
        rotate_left
        · simp only [Act.put, List.setIfInBounds_toArray, List.set_cons_zero, List.set_cons_succ, i64_w, i32_w]
          rfl
        exact norm_ (by simp only [putAll, Act.put, List.setIfInBounds_toArray, List.set_cons_zero, List.set_cons_succ]) (hCont (.slice D3 x.f3.length e3, g3) _ ⟨hb8, Kd.R_lower ho3 hb6.size, blk_below hbox hb7, Nat.le_of_eq hg.symm⟩)
    rintro ⟨v3, g3⟩ wz ⟨hbz, ho3, hbox, hg3⟩
    dsimp only at ho3 hbox hg3
    have hHeld : True := trivial
    refine norm_ (a' := ?_) ?_ ?_
    rotate_left
    · simp only [putAll, Act.put, List.setIfInBounds_toArray, List.set_cons_zero, List.set_cons_succ]
      rfl
    have K1z := blk_below KB1.out hbz
    have hl1 := blk_lt KB1.out
    have hne3 := Kd.R_ne ho3 hbox (by decide)
    obtain ⟨D3, e3, rfl⟩ := Kd.R_slice ho3
    obtain ⟨st1, st2, st3⟩ := st5 hbox (.int .i64 x.f0) (.string x.f1) (.int .i64 x.f2) (.slice D3 x.f3.length e3) (.slice none 0 0)
    have hS5 := fm_cells ((st2 w.heap.size (by omega)).trans K1z)
    have HCP := Lib.hid (Cp.start (w := w) KB1.out KB2.out HB0.out HSZ.out hbz ho3 hg3 hne3 st1 st2 (st3 _ _ hbz hg3))
    obtain ⟨z0, z1, z2, z3, z4⟩ := fm_cells hbox
    obtain ⟨f0, f1, f2, f3, f4⟩ := fm_free hbox
    clear hbz ho3 hbox hg3 K1z hl1 hne3 st1 st2 st3 KB1 KB2 HB0 HSZ P0 P1 P2 P3
    refine one_ (i := 11) (N := none) #[true, true, true, true, true, true, true, true, true, true, true, true] rfl rfl (by kernel_rfl) (by decide) (fun K hK => ?_)
    refine skip_ (w1 := ?_) (by rfl) rfl ?_ ?_
    rotate_left
    · go_simp
      rfl
    refine hK.out _ _ ⟨hS5.1, hS5.2.1, hS5.2.2.1, hS5.2.2.2.1⟩ (fun hHeld => ?_)
    clear hK K z0 z1 z2 z3 z4 f0 f1 f2 f3 f4 hS5
    refine done_ (by kernel_rfl) ?_
    obtain ⟨l0, l1, l2, l3, l4⟩ := fm_cells HCP.out.fr.k1
    try go_wp2_with fail
    clear l0 l1 l2 l3 l4
    go_loopg [5, 19] x.f4.length (fun kq v5 v4 w' => ∃ i : Nat, i ≤ x.f4.length ∧ x.f4.length - i ≤ kq ∧ v4 = .int .i64 i ∧ Aside0 (∃ v inner fp, Cp w (.cells #[.int .i64 x.f0, .string x.f1, .int .i64 x.f2, .slice A3 x.f3.length c3, .slice A4 x.f4.length c4] 29) (.cells #[.int .i64 0, .string ⟨#[]⟩, .int .i64 0, .slice none 0 0, .slice none 0 0] 29) g3 x.f0 x.f1 x.f2 x.f3 (x.f4.take i) (.slice D3 x.f3.length e3) v inner fp w'))
    case atStart => exact ⟨0, Nat.zero_le _, by omega, rfl, ⟨⟨.slice none 0 0, [], [], by simpa using HCP.out⟩⟩⟩
    case round =>
      obtain ⟨i, hi, hg, rfl, HO⟩ := hrel
      by_cases hlt : i < x.f4.length
      · obtain ⟨v, inner, fp, hC⟩ := HO.out
        obtain ⟨ad, G3, m3, G4, m4, e, g0, g1, g2, g3_, g4, hk⟩ := kid_at HI.out.g4 i hlt
        subst e
        replace g0 := ck0 hC.fr.b g0
        replace g1 := ck0 hC.fr.b g1
        replace g2 := ck0 hC.fr.b g2
        replace g3_ := ck0 hC.fr.b g3_
        replace g4 := ck0 hC.fr.b g4
        have hkt := totL_mem (List.getElem_mem hlt)
        have hxt := HT.out
        rw [Fm.tot_eq] at hxt
        have r1 : (0 : Int) ≤ (i : Int) := by omega
        have r2 : (i : Int) < (x.f4.length : Int) := by omega
        have hlen := len_totL x.f4
        have HKT := Lib.hid (show x.f4[i].tot ≤ 1000000000 by omega)
        have HLN := Lib.hid (show x.f4.length ≤ 1000000000 by omega)
        have HK := Lib.hid hk
        have HC := Lib.hid hC
        have SK := Lib.hid (fun (W : World) (hf : Fr w (.cells #[.int .i64 x.f0, .string x.f1, .int .i64 x.f2, .slice A3 x.f3.length c3, .slice (some ad) x.f4.length c4] 29) (.cells #[.int .i64 0, .string ⟨#[]⟩, .int .i64 0, .slice none 0 0, .slice none 0 0] 29) g3 #[.int .i64 x.f0, .string x.f1, .int .i64 x.f2, (.slice D3 x.f3.length e3), v] W) (hk : W.heap[wr.heap.size]? = some (.cells #[.int .i64 x.f4[i].f0, .string x.f4[i].f1, .int .i64 x.f4[i].f2, .slice G3 x.f4[i].f3.length m3, .slice G4 x.f4[i].f4.length m4] 29)) => (⟨(fm_cells hf.k3).2.2.2.2, (fm_cells hk).1, (fm_cells hk).2.1, (fm_cells hk).2.2.1, (fm_cells hk).2.2.2.1, (fm_cells hk).2.2.2.2⟩ : (fun w' => w'.cell? ⟨g3, 4, none⟩ = some v ∧ w'.cell? ⟨wr.heap.size, 0, none⟩ = some (.int .i64 x.f4[i].f0) ∧ w'.cell? ⟨wr.heap.size, 1, none⟩ = some (.string x.f4[i].f1) ∧ w'.cell? ⟨wr.heap.size, 2, none⟩ = some (.int .i64 x.f4[i].f2) ∧ w'.cell? ⟨wr.heap.size, 3, none⟩ = some (.slice G3 x.f4[i].f3.length m3) ∧ w'.cell? ⟨wr.heap.size, 4, none⟩ = some (.slice G4 x.f4[i].f4.length m4)) W))
        have hvl : ∀ b, v.ownBlock = some b → b ≠ wr.heap.size := fun b hb => by have := hC.lt b (by simp [obs_mem, hb]); omega
        have HVL := Lib.hid hvl
        clear hC hk hkt hxt hlen hvl
        go_wp2_with fail
        clear g0 g1 g2 g3_ g4
        have HD := Lib.hid ((HC.out.later (below_new _ (.cells #[.int .i64 x.f4[i].f0, .string x.f4[i].f1, .int .i64 x.f4[i].f2, .slice G3 x.f4[i].f3.length m3, .slice G4 x.f4[i].f4.length m4] 29))).later (below_drew (Below.refl _ _)))
        have KD := Lib.hid (blk_drew (blk_new wr (.cells #[.int .i64 x.f4[i].f0, .string x.f4[i].f1, .int .i64 x.f4[i].f2, .slice G3 x.f4[i].f3.length m3, .slice G4 x.f4[i].f4.length m4] 29)))
        refine start_ (n := 8) (S := fun w' => w'.cell? ⟨g3, 4, none⟩ = some v ∧ w'.cell? ⟨wr.heap.size, 0, none⟩ = some (.int .i64 x.f4[i].f0) ∧ w'.cell? ⟨wr.heap.size, 1, none⟩ = some (.string x.f4[i].f1) ∧ w'.cell? ⟨wr.heap.size, 2, none⟩ = some (.int .i64 x.f4[i].f2) ∧ w'.cell? ⟨wr.heap.size, 3, none⟩ = some (.slice G3 x.f4[i].f3.length m3) ∧ w'.cell? ⟨wr.heap.size, 4, none⟩ = some (.slice G4 x.f4[i].f4.length m4)) (ds := [7]) #[false, false, false, false, false, false, false, false] (by kernel_rfl) rfl rfl (SK.out _ HD.out.fr KD.out) (fun hHeld => ?_)
        generalize World.drew _ = wd at HD KD hHeld ⊢
        refine pure_ (i := 0) (N := some 23) (v := ?_) (a' := ?_) #[true, false, false, false, false, false, false, false] rfl rfl (by kernel_rfl) (fun _ _ _ h => h) (Or.inl ⟨by rfl, ?_⟩) ?_ ?_
        rotate_left
        · intro w'
          go_simp
          with_reducible rfl
        rotate_left
        · simp only [Act.put, List.setIfInBounds_toArray, List.set_cons_zero, List.set_cons_succ, i64_w, i32_w]
          rfl
        refine take_ (i := 1) (N := some 24) (v := ?_) (a' := ?_) #[true, true, false, false, false, false, false, false] rfl rfl (by kernel_rfl) (fun _ _ _ h => h) (Or.inl ⟨by rfl, ?_⟩) hHeld ?_ ?_
        rotate_left
        · rintro w' ⟨s0, s1, s2, s3, s4, s5⟩
          go_simp
          with_reducible rfl
        rotate_left
        · simp only [Act.put, List.setIfInBounds_toArray, List.set_cons_zero, List.set_cons_succ, i64_w, i32_w]
          rfl
        refine take_ (i := 2) (N := some 25) (v := ?_) (a' := ?_) #[true, true, true, false, false, false, false, false] rfl rfl (by kernel_rfl) (fun _ _ _ h => h) (Or.inl ⟨by rfl, ?_⟩) hHeld ?_ ?_
        rotate_left
        · rintro w' ⟨s0, s1, s2, s3, s4, s5⟩
          go_simp
          with_reducible rfl
        rotate_left
        · simp only [Act.put, List.setIfInBounds_toArray, List.set_cons_zero, List.set_cons_succ, i64_w, i32_w]
          rfl
        refine one_ (i := 3) (N := some 26) #[true, true, true, true, false, false, false, false] rfl rfl (by kernel_rfl) (by decide) (fun K hK => ?_)
        refine goes_ Try.func120 (by kernel_rfl) rfl #[.agg #[.int .i64 x.f4[i].f0, .string x.f4[i].f1, .int .i64 x.f4[i].f2, .slice G3 x.f4[i].f3.length m3, .slice G4 x.f4[i].f4.length m4]] (by rfl) rfl rfl (by (try simp only [List.map_toArray, List.map_cons, List.map_nil]); first | done | rfl) ?_
        refine (IH.out x.f4[i] (List.getElem_mem hlt) G3 m3 G4 m4 wd (HK.out.below HD.out.fr.b) HKT.out).mono ?_
        rintro e w7 ⟨u3, u4, rfl, hn, hb7⟩
        refine ⟨_, rfl, ?_⟩
        obtain ⟨J3, q3, J4, q4, rfl, rfl⟩ : ∃ J3 q3 J4 q4, u3 = .slice J3 (x.f4[i]).f3.length q3 ∧ u4 = .slice J4 (x.f4[i]).f4.length q4 := by
          obtain ⟨fk, hk2, _⟩ := hn
          obtain ⟨J3, q3, J4, q4, e3, e4, _⟩ := hk2.In
          exact ⟨J3, q3, J4, q4, e3, e4⟩
        have H7 := Lib.hid (HD.out.later hb7)
        have HN := Lib.hid hn
        have HLT := Lib.hid (And.intro HD.out.lt HD.out.fr.lt)
        have K7 := Lib.hid (blk_below KD.out hb7)
        clear hn hb7
        refine hK.out _ _ (SK.out _ H7.out.fr K7.out) (fun hHeld => ?_)
        clear hK K
        refine norm_ (a' := ?_) ?_ ?_
        rotate_left
        · show Act.put _ (some 26) _ = _
          simp only [Act.put, List.setIfInBounds_toArray, List.set_cons_zero, List.set_cons_succ, i64_w, i32_w]
          rfl
        refine one_ (i := 4) (N := some 27) #[true, true, true, true, true, false, false, false] rfl rfl (by kernel_rfl) (by decide) (fun K hK => ?_)
        refine value_ (w1 := ?_) (v := ?_) (by rfl) rfl ?_ ?_
        rotate_left 2
        · go_simp
          constructor
          · rfl
          · rfl
        refine hK.out _ _ (SK.out _ (H7.out.fr.later (below_new _ _)) (blk_alloc K7.out _)) (fun hHeld => ?_)
        clear hK K
        refine norm_ (a' := ?_) ?_ ?_
        rotate_left
        · show Act.put _ (some 27) _ = _
          simp only [Act.put, List.setIfInBounds_toArray, List.set_cons_zero, List.set_cons_succ, i64_w, i32_w]
          rfl
        refine one_ (i := 5) (N := some 28) #[true, true, true, true, true, true, false, false] rfl rfl (by kernel_rfl) (by decide) (fun K hK => ?_)
        have hl0 : (x.f4.take i).length = i := by simp; omega
        refine step_append_cells (w0 := w) (W := w7) w.heap.size (by rfl) (.tmp 24) (.tmp 27) 27 29 (.agg #[.int .i64 0, .string ⟨#[]⟩, .int .i64 0, .slice none 0 0, .slice none 0 0]) 5 80 rfl Try.underlying27 infoF rfl (by decide) (by omega) v (x.f4.take i).length inner [.int .i64 (x.f4[i]).f0, .string (x.f4[i]).f1, .int .i64 (x.f4[i]).f2, .slice J3 (x.f4[i]).f3.length q3, .slice J4 (x.f4[i]).f4.length q4] rfl rfl rfl (by simp [Value.oneCell']) (own_base_ H7.out.o4 (fun b hb => by have := (H7.out.ge b (by simp [obs_mem, hb])).1; omega)) H7.out.fr.b H7.out.fr.b.size (by have := HLN.out; rw [hl0]; omega) ?_
        intro v' w8 ho hb8 hg8 hat8
        obtain ⟨fp', hC8⟩ := H7.out.more HLT.out.1 HLT.out.2.2 HLT.out.2.1 HN.out (own_weaken ho (Nat.zero_le _)) hg8 hat8
        have hf8 := H7.out.fr.grown hg8 (fun c hc => H7.out.ge c (by simp [obs_mem, hc]))
        have hv' : ∃ A c, v' = .slice A ((x.f4.take i).length + 1) c := by
          rcases ho with ⟨_, ⟨rfl, h0⟩ | ⟨g, cap, cur, rfl, _⟩⟩
          · exact absurd h0 (by omega)
          · exact ⟨_, _, rfl⟩
        rw [hl0] at hv'
        obtain ⟨A', c', rfl⟩ := hv'
        have K8 := Lib.hid (blk_grown K7.out hg8 (fun e => HVL.out _ e.symm rfl))
        have H8 := Lib.hid hf8
        have HC8 := Lib.hid hC8
        clear ho hb8 hg8 hat8 hf8 hC8
        refine hK.out _ _ (SK.out _ H8.out K8.out) (fun hHeld => ?_)
        clear hK K
        refine norm_ (a' := ?_) ?_ ?_
        rotate_left
        · show Act.put _ (some 28) _ = _
          simp only [Act.put, List.setIfInBounds_toArray, List.set_cons_zero, List.set_cons_succ, i64_w, i32_w]
          rfl
        refine pure_ (i := 6) (N := some 29) (v := ?_) (a' := ?_) #[true, true, true, true, true, true, true, false] rfl rfl (by kernel_rfl) (fun _ _ _ h => h) (Or.inl ⟨by rfl, ?_⟩) ?_ ?_
        rotate_left
        · intro w'
          go_simp
          with_reducible rfl
        rotate_left
        · simp only [Act.put, List.setIfInBounds_toArray, List.set_cons_zero, List.set_cons_succ, i64_w, i32_w]
          rfl
        refine last_ (i := 7) (N := none) #[true, true, true, true, true, true, true, true] rfl rfl (by kernel_rfl) (by decide) (fun K hK => ?_)
        have z4 := (fm_cells H8.out.k3).2.2.2.2
        have f4 := (fm_free H8.out.k3).2.2.2.2
        refine skip_ (w1 := ?_) (by rfl) rfl ?_ ?_
        rotate_left
        · go_simp
          rfl
        refine hK.out _ _ ?_
        clear hK K z4 f4
        refine done_ (by kernel_rfl) ?_
        have HX := Lib.hid (show x.f4.take i ++ [x.f4[i]] = x.f4.take (i + 1) from (List.take_succ_eq_append_getElem hlt).symm)
        rw [HX.out] at HC8
        try go_wp2
        go_roundg (x.f4.length - (i + 1))
        case measure => omega
        case rel => exact ⟨i + 1, by omega, Nat.le_refl _, by go_num, ⟨⟨_, _, _, HC8.out⟩⟩⟩
      · obtain rfl : i = x.f4.length := by omega
        obtain ⟨v, inner, fp, hC⟩ := HO.out
        rw [List.take_length] at hC
        obtain ⟨A4', c4', e4', -, -⟩ := hC.tr.C hC.o4
        subst e4'
        obtain ⟨p0, p1, p2, p3, p4⟩ := fm_cells hC.fr.k3
        obtain ⟨y0, y1, y2, y3, y4⟩ := fm_cells hC.fr.k1
        obtain ⟨z0, z1, z2, z3, z4⟩ := fm_cells hC.fr.k2
        obtain ⟨f0, f1, f2, f3, f4⟩ := fm_free hC.fr.k2
        have hn1 : g3 ≠ w.heap.size + 1 := by have := hC.fr.h3; omega
        have hn2 : w.heap.size + 1 ≠ g3 := fun e => hn1 e.symm
        obtain ⟨st1, st2, st3⟩ := st5 hC.fr.k2 (.int .i64 x.f0) (.string x.f1) (.int .i64 x.f2) (.slice D3 x.f3.length e3) (.slice A4' x.f4.length c4')
        have HNF := hC.newF (st2)
        rw [show (⟨x.f0, x.f1, x.f2, x.f3, x.f4⟩ : Fm) = x from by cases x; rfl] at HNF
        have HN := Lib.hid HNF
        have HB := Lib.hid (st3 _ _ hC.fr.b (by omega))
        clear hC HO st1 st2 st3 HNF
        go_wp2_with fail
        refine bodyPost_ret (v := .agg #[.int .i64 x.f0, .string x.f1, .int .i64 x.f2, (.slice D3 x.f3.length e3), .slice A4' x.f4.length c4']) (by simp [results, Try.results120, go_sem, z0, z1, z2, z3, z4]) rfl ?_
        exact ⟨_, _, rfl, HN.out, HB.out⟩
end Go.Proofs.Ytnaefjilcabkoaa
end
section
namespace Go.Proofs.Ytnaefjilcabkoaa
open Go.RowKit Go.Proofs.YtnaefjilcabkoaaW.PrintWords Go.Proofs.YtnaefjilcabkoaaW.PrintLast Go.Proofs.YtnaefjilcabkoaaW.PrintMore
set_option linter.unusedVariables false
set_option linter.unusedSimpArgs false
end Go.Proofs.Ytnaefjilcabkoaa
end
section
namespace Go.Proofs.Ytnaefjilcabkoaa
open Go.RowKit Go.Proofs.YtnaefjilcabkoaaW.PrintWords Go.Proofs.YtnaefjilcabkoaaW.PrintLast Go.Proofs.YtnaefjilcabkoaaW.PrintMore
set_option linter.unusedVariables false
set_option linter.unusedSimpArgs false
/-- The scopes of names are in order, and no other form has any. -/
inductive SrtF : Fm → Prop
  | mk (x : Fm) (h1 : x.f0 = 1 → Srt x.f3 ∧ x.f3.length ≤ 100000) (h2 : x.f0 ≠ 1 → x.f3 = []) (hk : ∀ k, k ∈ x.f4 → SrtF k) : SrtF x
theorem SrtF.at {x : Fm} (h : SrtF x) : x.f0 = 1 → Srt x.f3 ∧ x.f3.length ≤ 100000 := by cases h; assumption
theorem SrtF.no {x : Fm} (h : SrtF x) : x.f0 ≠ 1 → x.f3 = [] := by cases h; assumption
theorem SrtF.kid {x : Fm} (h : SrtF x) : ∀ k, k ∈ x.f4 → SrtF k := by cases h; assumption
end Go.Proofs.Ytnaefjilcabkoaa
end
section
namespace Go.Proofs.Ytnaefjilcabkoaa
open Go.RowKit Go.Proofs.YtnaefjilcabkoaaW.PrintWords Go.Proofs.YtnaefjilcabkoaaW.PrintLast Go.Proofs.YtnaefjilcabkoaaW.PrintMore
set_option linter.unusedVariables false
set_option linter.unusedSimpArgs false
theorem RetF.T {w : World} {x : Fm} {e : Ending} {w' : World} (h : RetF w x e w') : ∃ v3 v4, e = .returned (.agg #[.int .i64 x.f0, .string x.f1, .int .i64 x.f2, v3, v4]) ∧ tellsNew.T w.heap.size w' x v3 v4 ∧ Below w.heap.size w w' := h
set_option maxHeartbeats 1000000 in
theorem formOr_any (x : Fm) (A3 : Option Addr) (c3 : Nat) (A4 : Option Addr) (c4 : Nat) (w : World) (hin : FmIn w x A3 c3 A4 c4) (ht : x.tot ≤ 1048576) : Calls Try.prog 77 #[.agg #[.int .i64 x.f0, .string x.f1, .int .i64 x.f2, .slice A3 x.f3.length c3, .slice A4 x.f4.length c4]] w (RetT tellsNew w (orN x)) := by
  have HI := Lib.hid hin
  have HT0 := Lib.hid ht
  clear hin ht
  go_enter Try.func77, Try.ntmps77
  go_wp2_with fail
  refine (implValid_any x A3 c3 A4 c4 _ (HI.out.below (below_step (below_new _ _) (below_new _ _))) HT0.out).mono ?_
  rintro e w1 ⟨rfl, hb⟩
  obtain ⟨k0, k1, b1⟩ := two_new hb
  have K0 := Lib.hid k0
  have K1 := Lib.hid k1
  have B1 := Lib.hid b1
  clear hb k0 k1 b1
  by_cases hx : FmOk x
  · rw [← pB_yes hx]
    have HX := Lib.hid hx
    clear hx
    obtain ⟨p0, p1, p2, p3, p4⟩ := fm_cells K0.out
    go_wp2_with fail
    clear p0 p1 p2 p3 p4
    refine (copyForm_any x A3 c3 A4 c4 _ (HI.out.below B1.out) (by have := HT0.out; omega)).mono ?_
    intro e w2 hr
    obtain ⟨v3, v4, rfl, hT, hb2⟩ := hr.T
    obtain ⟨D3, e3, D4, e4, rfl, rfl⟩ := tellsNew.form hT
    obtain ⟨q0, q1, q2, q3, q4⟩ := fm_cells (blk_below K1.out hb2)
    obtain ⟨f0, f1, f2, f3, f4⟩ := fm_free (blk_below K1.out hb2)
    have HT := Lib.hid hT
    have HB := Lib.hid (below_step B1.out hb2)
    have HL := Lib.hid (blk_lt K1.out)
    clear hT hb2 hr
    go_wp2_with fail
    refine bodyPost_ret (v := .tuple #[.agg #[.int .i64 x.f0, .string x.f1, .int .i64 x.f2, .slice D3 x.f3.length e3, .slice D4 x.f4.length e4], .bool true]) (by simp [results, Try.results77, go_sem, q0, q1, q2, q3, q4, f0, f1, f2, f3, f4]) rfl ?_
    rw [orN_yes HX.out]
    refine ⟨_, _, rfl, tellsNew.low B1.out.size (tellsNew.move HT.out (fun b hb => ?_)), ?_⟩
    · have := HL.out
      repeat rw [Below.heap_setCell _ _ _ b (by show b ≠ w.heap.size + 1; omega)]
    · repeat (refine below_set ?_ (by omega))
      exact HB.out
  · rw [← pB_no hx]
    have HX := Lib.hid hx
    clear hx
    obtain ⟨q0, q1, q2, q3, q4⟩ := fm_cells K1.out
    obtain ⟨f0, f1, f2, f3, f4⟩ := fm_free K1.out
    have HB9 := Lib.hid B1.out
    go_wp2_with fail
    refine bodyPost_ret (v := .tuple #[.agg #[.int .i64 0, .string ⟨#[]⟩, .int .i64 0, .slice none 0 0, .slice none 0 0], .bool false]) (by simp [results, Try.results77, go_sem, q0, q1, q2, q3, q4, f0, f1, f2, f3, f4]) rfl ?_
    rw [orN_no HX.out]
    refine ⟨_, _, rfl, ⟨[], trz _, by simp, by simp⟩, ?_⟩
    repeat (refine below_set ?_ (by omega))
    exact HB9.out
end Go.Proofs.Ytnaefjilcabkoaa
end
section
namespace Go.Proofs.Ytnaefjilcabkoaa
open Go.RowKit Go.Proofs.YtnaefjilcabkoaaW.PrintWords Go.Proofs.YtnaefjilcabkoaaW.PrintLast Go.Proofs.YtnaefjilcabkoaaW.PrintMore
set_option linter.unusedVariables false
set_option linter.unusedSimpArgs false
@[reducible] def fmV (x : Fm) (A3 : Option Addr) (c3 : Nat) (A4 : Option Addr) (c4 : Nat) : Array Value := #[.int .i64 x.f0, .string x.f1, .int .i64 x.f2, .slice A3 x.f3.length c3, .slice A4 x.f4.length c4]
/-- A form is handed back. -/
def GetF (w : World) (x : Fm) (e : Ending) (w' : World) : Prop := ∃ A3 c3 A4 c4, e = .returned (.agg #[.int .i64 x.f0, .string x.f1, .int .i64 x.f2, .slice A3 x.f3.length c3, .slice A4 x.f4.length c4]) ∧ FmIn w' x A3 c3 A4 c4 ∧ Below w.heap.size w w'
/-- A form and another value are handed back. -/
def GetFV (w : World) (x : Fm) (v : Value) (e : Ending) (w' : World) : Prop := ∃ A3 c3 A4 c4, e = .returned (.tuple #[.agg #[.int .i64 x.f0, .string x.f1, .int .i64 x.f2, .slice A3 x.f3.length c3, .slice A4 x.f4.length c4], v]) ∧ FmIn w' x A3 c3 A4 c4 ∧ Below w.heap.size w w'
end Go.Proofs.Ytnaefjilcabkoaa
end
section
namespace Go.Proofs.Ytnaefjilcabkoaa
open Go.RowKit Go.Proofs.YtnaefjilcabkoaaW.PrintWords Go.Proofs.YtnaefjilcabkoaaW.PrintLast Go.Proofs.YtnaefjilcabkoaaW.PrintMore
set_option linter.unusedVariables false
set_option linter.unusedSimpArgs false
theorem NewF.In {B : Nat} {w : World} {x : Fm} {v3 v4 : Value} (h : NewF B w x v3 v4) : ∃ A3 c3 A4 c4, v3 = .slice A3 x.f3.length c3 ∧ v4 = .slice A4 x.f4.length c4 ∧ FmIn w x A3 c3 A4 c4 := by
  obtain ⟨fp, ht, _, _⟩ := h
  exact ht.In
end Go.Proofs.Ytnaefjilcabkoaa
end
section
namespace Go.Proofs.Ytnaefjilcabkoaa
open Go.RowKit Go.Proofs.YtnaefjilcabkoaaW.PrintWords Go.Proofs.YtnaefjilcabkoaaW.PrintLast Go.Proofs.YtnaefjilcabkoaaW.PrintMore
set_option linter.unusedVariables false
set_option linter.unusedSimpArgs false
/-- The form of a list of forms. -/
abbrev lf (ks : List Fm) : Fm := ⟨3, ⟨#[]⟩, 0, [], ks⟩
theorem lf_in {w : World} {ks : List Fm} {A : Option Addr} {c : Nat} (hr : kF.C w A ks.length ks) (hc : ks.length ≤ c) : FmIn w (lf ks) none 0 A c :=
  ⟨Nat.le_refl 0, Kd.C_nil kI w, hc, hr⟩
set_option maxHeartbeats 1000000 in
theorem implList_new (ks : List Fm) (A : Option Addr) (c : Nat) (w : World) (hr : kF.C w A ks.length ks) (hc : ks.length ≤ c) (ht : (lf ks).tot ≤ 1048576) : Calls Try.prog 47 #[.slice A ks.length c] w (RetT tellsNew w (orN (lf ks))) := by
  have HI := Lib.hid (fun W hb => formOr_any (lf ks) none 0 A c W ((lf_in hr hc).below hb) (by omega))
  clear hr hc ht
  go_enter Try.func47, Try.ntmps47
  go_wp2_with fail
  refine (HI.out _ (below_new _ _)).mono ?_
  rintro e w1 ⟨v3, v4, rfl, hT, hb⟩
  obtain ⟨E3, k3, E4, k4, rfl, rfl⟩ := tellsNew.form hT
  obtain ⟨k0, b1⟩ := one_new hb
  obtain ⟨q0, q1, q2, q3, q4⟩ := fm_cells k0
  obtain ⟨f0, f1, f2, f3, f4⟩ := fm_free k0
  have HT := Lib.hid hT
  have HB := Lib.hid b1
  clear hT hb k0 b1
  go_wp2_with fail
  refine bodyPost_ret (v := .tuple #[.agg #[.int .i64 (orN (lf ks)).1.f0, .string (orN (lf ks)).1.f1, .int .i64 (orN (lf ks)).1.f2, .slice E3 (orN (lf ks)).1.f3.length k3, .slice E4 (orN (lf ks)).1.f4.length k4], .bool (orN (lf ks)).2]) (by simp [results, Try.results47, go_sem, q0, q1, q2, q3, q4, f0, f1, f2, f3, f4]) rfl ?_
  refine ⟨_, _, rfl, tellsNew.low (below_new w _).size (tellsNew.move HT.out (fun b hb => ?_)), ?_⟩
  · have hb9 : w.heap.size + 1 ≤ b := by simpa using hb
    repeat rw [Below.heap_setCell _ _ _ b (by show b ≠ w.heap.size; omega)]
  · repeat (refine below_set ?_ (by omega))
    exact HB.out
theorem l1List_any (n : Nat) (A : Option Addr) (c : Nat) (w : World) : Calls Try.prog 98 #[.slice A n c] w (fun e w' => e = .returned (.agg #[.int .i64 3, .string ⟨#[]⟩, .int .i64 0, .slice none 0 0, .slice A n c]) ∧ Below w.heap.size w w') := by
  have k0 := blk_new w (.cells #[.int .i64 3, .string ⟨#[]⟩, .int .i64 0, .slice none 0 0, .slice A n c] 29)
  obtain ⟨q0, q1, q2, q3, q4⟩ := fm_cells k0
  have HB := Lib.hid (below_new w (.cells #[.int .i64 3, .string ⟨#[]⟩, .int .i64 0, .slice none 0 0, .slice A n c] 29))
  clear k0
  go_enter Try.func98, Try.ntmps98
  go_wp2_with fail
  refine bodyPost_ret (v := .agg #[.int .i64 3, .string ⟨#[]⟩, .int .i64 0, .slice none 0 0, .slice A n c]) (by simp [results, Try.results98, go_sem, q0, q1, q2, q3, q4]) rfl ?_
  refine ⟨rfl, ?_⟩
  exact HB.out
set_option maxHeartbeats 1000000 in
theorem specList_new (ks : List Fm) (A : Option Addr) (c : Nat) (w : World) (hr : kF.C w A ks.length ks) (hc : ks.length ≤ c) (ht : (lf ks).tot ≤ 1048576) : Calls Try.prog 45 #[.slice A ks.length c] w (RetT tellsNew w (orN (lf ks))) := by
  have HI := Lib.hid (lf_in hr hc)
  have HT0 := Lib.hid ht
  clear hr hc ht
  go_enter Try.func45, Try.ntmps45
  go_wp2_with fail
  refine (l1List_any ks.length A c _).mono ?_
  rintro e w1 ⟨rfl, hb⟩
  obtain ⟨k0, b0⟩ := one_new hb
  have K0 := Lib.hid k0
  have B0 := Lib.hid b0
  clear hb k0 b0
  go_wp2_with fail
  refine (specValid_any (lf ks) none 0 A c _ (HI.out.below (below_step B0.out (below_new _ _))) (by have := HT0.out; omega)).mono ?_
  rintro e w2 ⟨rfl, hb⟩
  obtain ⟨k1, b1⟩ := one_new hb
  have K1 := Lib.hid k1
  have KR := Lib.hid (blk_below K0.out b1)
  have B1 := Lib.hid (below_step B0.out b1)
  have HL1 := Lib.hid (blk_lt K0.out)
  clear hb k1 b1
  by_cases hx : FmOk (lf ks)
  · rw [← pB_yes hx]
    have HX := Lib.hid hx
    clear hx
    obtain ⟨p0, p1, p2, p3, p4⟩ := fm_cells K1.out
    go_wp2_with fail
    clear p0 p1 p2 p3 p4
    refine (l1Copy_any (lf ks) none 0 A c _ (HI.out.below B1.out) (by have := HT0.out; omega)).mono ?_
    rintro e w3 ⟨v3, v4, rfl, hT, hb2⟩
    obtain ⟨D3, e3, D4, e4, rfl, rfl⟩ := tellsNew.form hT
    obtain ⟨q0, q1, q2, q3, q4⟩ := fm_cells (blk_below KR.out hb2)
    obtain ⟨f0, f1, f2, f3, f4⟩ := fm_free (blk_below KR.out hb2)
    have HT := Lib.hid hT
    have HB := Lib.hid (below_step B1.out hb2)
    have HL := Lib.hid (show w.heap.size < w2.heap.size from blk_lt KR.out)
    clear hT hb2
    go_wp2_with fail
    refine bodyPost_ret (v := .tuple #[.agg #[.int .i64 (lf ks).f0, .string (lf ks).f1, .int .i64 (lf ks).f2, .slice D3 (lf ks).f3.length e3, .slice D4 (lf ks).f4.length e4], .bool true]) (by simp [results, Try.results45, go_sem, q0, q1, q2, q3, q4, f0, f1, f2, f3, f4]) rfl ?_
    rw [orN_yes HX.out]
    refine ⟨_, _, rfl, tellsNew.low B1.out.size (tellsNew.move HT.out (fun b hb => ?_)), ?_⟩
    · have := HL.out
      repeat rw [Below.heap_setCell _ _ _ b (by show b ≠ w.heap.size; omega)]
    · repeat (refine below_set ?_ (by omega))
      exact HB.out
  · rw [← pB_no hx]
    have HX := Lib.hid hx
    clear hx
    obtain ⟨q0, q1, q2, q3, q4⟩ := fm_cells KR.out
    obtain ⟨f0, f1, f2, f3, f4⟩ := fm_free KR.out
    have HB9 := Lib.hid B1.out
    go_wp2_with fail
    refine bodyPost_ret (v := .tuple #[.agg #[.int .i64 0, .string ⟨#[]⟩, .int .i64 0, .slice none 0 0, .slice none 0 0], .bool false]) (by simp [results, Try.results45, go_sem, q0, q1, q2, q3, q4, f0, f1, f2, f3, f4]) rfl ?_
    rw [orN_no HX.out]
    refine ⟨_, _, rfl, ⟨[], trz _, by simp, by simp⟩, ?_⟩
    repeat (refine below_set ?_ (by omega))
    exact HB9.out
/-- s tells whether the lists are as_ long as_ one another and equal up to place i. -/
structure SameTo (a b : List Fm) (i : Nat) (s : Bool) : Prop where
  t : s = true → a.length = b.length ∧ a.take i = b.take i
  f : s = false → a ≠ b
theorem SameTo.start {a b : List Fm} {s : Bool} (h : (a.length == b.length) = s) : SameTo a b 0 s := by
  subst h
  refine ⟨fun h => ⟨by simpa using h, by simp⟩, fun h e => ?_⟩
  subst e
  simp at h
theorem SameTo.len {a b : List Fm} {i : Nat} (h : SameTo a b i true) : a.length = b.length := (h.t rfl).1
theorem SameTo.no {a b : List Fm} {i : Nat} (h : SameTo a b i false) : a ≠ b := h.f rfl
theorem SameTo.next {a b : List Fm} {i : Nat} (h : SameTo a b i true) (h1 : i < a.length) (h2 : i < b.length) {q : Bool} (hq : eqB a[i] b[i] = q) : SameTo a b (i + 1) q := by
  obtain ⟨e1, e2⟩ := h.t rfl
  refine ⟨fun hy => ⟨e1, ?_⟩, fun hy e => ?_⟩
  · rw [List.take_succ_eq_append_getElem h1, List.take_succ_eq_append_getElem h2, e2, eqB_iff.1 (hq.trans hy)]
  · subst e
    rw [eqB_self] at hq
    rw [← hq] at hy
    cases hy
end Go.Proofs.Ytnaefjilcabkoaa
end
section
namespace Go.Proofs.Ytnaefjilcabkoaa
open Go.RowKit Go.Proofs.YtnaefjilcabkoaaW.PrintWords Go.Proofs.YtnaefjilcabkoaaW.PrintLast Go.Proofs.YtnaefjilcabkoaaW.PrintMore
set_option linter.unusedVariables false
set_option linter.unusedSimpArgs false
/-- A list of forms in blocks that lie from lo on and ahead of hi. -/
structure OwnL (lo hi : Nat) (w : World) (ks : List Fm) (v : Value) : Prop where
  ex : ∃ inner fp, w.ownsRow 0 29 5 v ks.length inner ∧ TrL w ks inner fp ∧ (obs v ++ fp).Nodup ∧ ∀ b, b ∈ obs v ++ fp → lo ≤ b ∧ b < hi
  sz : hi ≤ w.heap.size
theorem OwnL.now {lo hi : Nat} {w : World} {ks : List Fm} {A : Option Addr} {c : Nat} (h : OwnL lo hi w ks (.slice A ks.length c)) : ks.length ≤ c ∧ kF.C w A ks.length ks := by
  obtain ⟨inner, fp, ho, ht, _⟩ := h.ex
  obtain ⟨B, d, e, hc, hr⟩ := ht.C ho
  injection e with e1 _ e2
  subst e1 e2
  exact ⟨hc, hr⟩
theorem OwnL.later {lo hi : Nat} {w W : World} {ks : List Fm} {v : Value} (h : OwnL lo hi w ks v) (b : Below w.heap.size w W) : OwnL lo hi W ks v := by
  obtain ⟨inner, fp, ho, ht, hn, hg⟩ := h.ex
  exact ⟨⟨inner, fp, own_move ho (fun k hk => b.block k (own_lt ho k hk)), ht.later b, hn, hg⟩, Nat.le_trans h.sz b.size⟩
def GetOL (w : World) (ks : List Fm) (e : Ending) (w' : World) : Prop := ∃ A c, e = .returned (.slice A ks.length c) ∧ OwnL w.heap.size w'.heap.size w' ks (.slice A ks.length c) ∧ Below w.heap.size w w'
theorem toFormSO (ks : List Fm) (A : Option Addr) (c : Nat) (w : World) (hr : kF.C w A ks.length ks) (hc : ks.length ≤ c) (ht : totL ks ≤ 1048576) :
    Calls Try.prog 46 #[.slice A ks.length c] w (GetOL w ks) := by
  refine (toFormS_of ks (fun k _ => toForm_any k) A c w hr hc ht).mono ?_
  rintro e w' ⟨v, rfl, ⟨inner, fp, ho, ht, hn, hg⟩, hb⟩
  obtain ⟨B, d, rfl, _, _⟩ := ht.C ho
  refine ⟨B, d, rfl, ⟨⟨inner, fp, ho, ht, hn, fun b hb2 => ⟨hg b hb2, ?_⟩⟩, Nat.le_refl _⟩, hb⟩
  rcases List.mem_append.1 hb2 with q | q
  · exact own_lt ho b (obs_mem.1 q)
  · exact ht.lt _ b q
theorem markFormS_own {lo hi : Nat} {w : World} {ks : List Fm} {v : Value} (k : Int) (h : OwnL lo hi w ks v) (hk0 : 1 ≤ k) (hk1 : k + 3 * totL ks ≤ 1000000000) :
    Calls Try.prog 49 #[v, .int .i64 k] w (fun e w' => e = .returned (.int .i64 (k + cntL ks)) ∧ Mrk lo hi w w') := by
  obtain ⟨inner, fp, ho, ht, hn, hg⟩ := h.ex
  have hc := cntL_tot ks (fun k _ => k.cnt_tot)
  refine (markFormS_any ks v inner fp k w ho ht hn hk0 (by omega)).mono ?_
  rintro e w' ⟨rfl, _, hm⟩
  exact ⟨rfl, ⟨_, hm, hg⟩⟩
theorem RetT.getOl {w : World} {p : Fm × Bool} {e : Ending} {w' : World} (h : RetT tellsNew w p e w') : ∃ A3 c3 A4 c4 fp, e = .returned (.tuple #[.agg #[.int .i64 p.1.f0, .string p.1.f1, .int .i64 p.1.f2, .slice A3 p.1.f3.length c3, .slice A4 p.1.f4.length c4], .bool p.2]) ∧ Own w.heap.size w'.heap.size w' p.1 (.slice A3 p.1.f3.length c3) (.slice A4 p.1.f4.length c4) fp ∧ Below w.heap.size w w' := by
  obtain ⟨v3, v4, rfl, hn, hb⟩ := h
  obtain ⟨A3, c3, A4, c4, fp, rfl, rfl, ho⟩ := NewF.own hn
  exact ⟨A3, c3, A4, c4, fp, rfl, ho, hb⟩
def GetOT (w : World) (x : Fm) (b : Bool) (e : Ending) (w' : World) : Prop := ∃ A3 c3 A4 c4 fp, e = .returned (.tuple #[.agg #[.int .i64 x.f0, .string x.f1, .int .i64 x.f2, .slice A3 x.f3.length c3, .slice A4 x.f4.length c4], .bool b]) ∧ Own w.heap.size w'.heap.size w' x (.slice A3 x.f3.length c3) (.slice A4 x.f4.length c4) fp ∧ Below w.heap.size w w'
theorem lfTot (ks : List Fm) : (lf ks).tot = totL ks := by rw [Fm.tot_eq]; show 0 + 0 + totL ks = _; omega
theorem implListO {ks : List Fm} {z : Fm} {b : Bool} (hz : orN (lf ks) = (z, b)) (A : Option Addr) (c : Nat) (w : World) (hr : kF.C w A ks.length ks) (hc : ks.length ≤ c) (ht : totL ks ≤ 1048576) : Calls Try.prog 47 #[.slice A ks.length c] w (GetOT w z b) := by
  have := (implList_new ks A c w hr hc (by rw [lfTot]; exact ht)).mono (fun e w' h => h.getOl)
  rwa [hz] at this
theorem specListO {ks : List Fm} {z : Fm} {b : Bool} (hz : orN (lf ks) = (z, b)) (A : Option Addr) (c : Nat) (w : World) (hr : kF.C w A ks.length ks) (hc : ks.length ≤ c) (ht : totL ks ≤ 1048576) : Calls Try.prog 45 #[.slice A ks.length c] w (GetOT w z b) := by
  have := (specList_new ks A c w hr hc (by rw [lfTot]; exact ht)).mono (fun e w' h => h.getOl)
  rwa [hz] at this
theorem orNTot (ks : List Fm) (ht : totL ks ≤ 1048576) : (orN (lf ks)).1.tot ≤ 1048576 := by
  by_cases h : FmOk (lf ks)
  · rw [orN_yes h]; show (lf ks).tot ≤ _; rw [lfTot]; exact ht
  · rw [orN_no h]; show zFm.tot ≤ _; rw [zFm_tot]; omega
end Go.Proofs.Ytnaefjilcabkoaa
end
